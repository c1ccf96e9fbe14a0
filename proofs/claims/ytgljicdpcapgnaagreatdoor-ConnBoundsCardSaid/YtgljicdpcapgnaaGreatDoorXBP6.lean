/- What the law's proof stands on, part 6: RefE, RefO, RefF, ConnP, RefM, RefS, ConnF, ConnG, ConnH, ConnI, ConnT, RefI, ConnJ, PipeU, ConnK, ConnHv, ConnOp, ConnDo, ConnL6 (laid together by wip/pack.py). -/
import Derived.Test.YtgljicdpcapgnaaGreatDoorXBP5
set_option linter.unusedVariables false
set_option linter.unusedSimpArgs false
set_option maxRecDepth 100000
set_option maxHeartbeats 8000000
namespace Go.Proofs.YtgljicdpcapgnaaGreatDoor
open Go.RowKit Go.Proofs.YtgljicdpcapgnaaGreatDoor.PBase Go.Proofs.YtgljicdpcapgnaaGreatDoorW.PrintWords Go.Proofs.YtgljicdpcapgnaaGreatDoorW.PrintLast Go.Proofs.YtgljicdpcapgnaaGreatDoorW.PrintMore
namespace Cn
theorem ak_74 (d : List Int) (h : (Gr.ak d).2.2 ≠ 0) : (Gr.ak d).2.2 = 74 := by
  unfold Gr.ak at h ⊢
  revert h
  repeat' split
  all_goals first
    | exact fun _ => rfl
    | exact fun h => absurd rfl h
theorem check_74 (l : List Ps.Tn) (s : ByteArray) : (Ps.check l s).2 ≠ 74 := by
  unfold Ps.check
  split
  · split
    · decide
    · unfold Ps.verdict
      repeat' split
      all_goals (intro h; cases h)
  · decide
theorem refused_none {f : Int} (h : f ≠ 74) (h1 : ¬ (f = 50 ∨ f = 51)) : refused f = 2147483650 := by unfold refused; rw [if_neg h, if_neg h1]
theorem refused_gone {f : Int} (h1 : f = 50 ∨ f = 51) : refused f = 2147483654 := by unfold refused; rw [if_neg (by omega), if_pos h1]
theorem mem_take_succ {l : List Int} {i : Nat} (h : i < l.length) : decide ((3 : Int) ∈ l.take (i + 1)) = (decide ((3 : Int) ∈ l.take i) || (l[i] == 3)) := by
  rw [List.take_succ_eq_append_getElem h, Bool.eq_iff_iff, decide_eq_true_iff, Bool.or_eq_true, decide_eq_true_iff, beq_iff_eq, List.mem_append, List.mem_singleton]
  exact or_congr_right eq_comm
end Cn
theorem raskedc_.calls {W : World} {ok ex : Nat → Prop} {p tb bs : Nat} {c : Cn.St} {l : List Ps.Tn} (h : Cn.Rn W ok ex p tb c) (hf : ∀ k, W.heap.size ≤ k → ok k) (hb : 0 ≤ c.blk ∧ c.blk ≤ 65535) (hT : Ps.Tr W bs tb l) (hl70 : l.length ≤ 70) (hW : ∀ x ∈ l, Ps.TnWf x) {A : Option Addr} {n cd : Nat} {k : Int} {d : List Int} (hk : 0 ≤ k ∧ k < 4294967296) (hd : Kd.C (Kd.int .u8) W A d.length d) (hn : d.length = n) (hc : n ≤ cd) (hl : n ≤ 5000) (hby : Sh.Bytes d) (hs : c.send.length ≤ 9000000000000) :
  Calls Tryz.prog 79 #[.pointer (some ⟨p, 0, none⟩), .agg #[.int .u32 k, .slice A n cd]] W fun e w' => e = .returned (.tuple #[]) ∧ Cn.Rn w' ok ex p tb (Cn.asked l c k d) ∧ Cn.Fr W w' ok := by
 have HC0 := az h.bound
 have HF := az hf
 have HBK := az hb
 have HT := az hT
 have HL7 := az hl70
 have HW := az hW
 have HKK := az hk
 have HD := az hd
 have HN := az hn
 have HL := az (And.intro hc hl)
 have HBY := az hby
 have HS := az hs
 have HS1 := az Cn.size1
 have HSO := az Cn.sizeOp
 have HSK := az Ps.sizeTk
 have HSE := az Cn.sizeEx
 clear h hf hb hT hW hk hd hn hc hl hby hs hl70
 have HB1 : Aside0 (Below W.heap.size W (W.alloc (.cells #[.int .u32 k, .slice A n cd] 103))) := ⟨below_alloc (Below.refl _ _) _⟩
 have HX1 : Aside0 (Wk.Blk (W.alloc (.cells #[.int .u32 k, .slice A n cd] 103)) W.heap.size 103 [.int .u32 k, .slice A n cd]) := ⟨Wk.Blk.new W _ [.int .u32 k, .slice A n cd]⟩
 obtain ⟨s, ws, e, HAK⟩ : ∃ s ws e, Aside0 (Gr.ak d = (s, ws, e)) := ⟨_, _, _, ⟨rfl⟩⟩
 go_enter Tryz.func79, Tryz.ntmps79
 have k1 := HX1.out.at_ 1 rfl
 go_wp2_with fail
 clear k1
 generalize W.alloc (.cells #[.int .u32 k, .slice A n cd] 103) = w1 at *
 obtain ⟨g3, HG3⟩ : ∃ g, Aside0 (W.heap.size = g) := ⟨_, ⟨rfl⟩⟩
 rw [HG3.out] at HX1 ⊢
 refine (Cn.rasked_ (Kd.C_below HD.out HB1.out) HN.out HL.out.1 (by have := HL.out.2; omega) HBY.out HAK.out).mono ?_
 rintro e' w3 ⟨A5, c5, rfl, hR5, hb2⟩
 obtain ⟨n5, HN5⟩ : ∃ m, Aside0 (ws.length = m) := ⟨_, ⟨rfl⟩⟩
 rw [HN5.out] at hR5 ⊢
 have HB3 := az (below_then HB1.out HB1.out.size hb2)
 have HX3 := az (HX1.out.below_ hb2)
 have HG7 : Aside0 (g3 < w3.heap.size ∧ w1.heap.size ≤ w3.heap.size ∧ g3 < w1.heap.size) := ⟨(HX1.out.below_ hb2).lt, hb2.size, HX1.out.lt⟩
 have HR3 : Aside0 (Kd.R (Kd.int .u16) 44 w3 w1.heap.size (fun _ => True) (.slice A5 n5 c5) ws) := ⟨hR5⟩
 have HW1 : Aside0 (W.heap.size ≤ w1.heap.size) := ⟨by have := HG7.out; have := HG3.out; omega⟩
 clear hR5 hb2 HX1 HB1
 by_cases he : e = 0
 rotate_left
 ·obtain rfl : e = 74 := by have := Cn.ak_74 d; rw [HAK.out] at this; exact this he
  obtain ⟨w4, HW4⟩ : ∃ w4, Aside0 (w3 = w4) := ⟨_, ⟨rfl⟩⟩
  rw [HW4.out] at HB3 HX3 ⊢
  have HBW := HB3
  have HX4 := HX3
  have HCW := az (HC0.out.below HB3.out)
  clear he HR3 HG7
  have hl11 := Wk.run_load_blk (P := Tryz.prog) 103 g3 0 [.int .u32 k, .slice A n cd] _ HX4.out rfl Tryz.underlying103 rfl HSO.out
  go_wp2_with (refine Wk.load rfl 103 (.tmp 3) rfl (.agg #[.int .u32 k, .slice A n cd]) (.pointer (some ⟨g3, 0, none⟩)) rfl hl11 ?_)
  clear hl11
  have HCL : Aside0 (Cn.Rn w4 (fun j => ok j ∧ j ≠ g3) ex p tb c) := ⟨HCW.out.mono (fun j hj => ⟨hj.1, by have := hj.2; have := HG3.out; omega⟩) (fun j hj => .inr hj.1)⟩
  have HFL : Aside0 (∀ j, w4.heap.size ≤ j → ok j ∧ j ≠ g3) := ⟨fun j hj => ⟨HF.out j (Nat.le_trans HBW.out.size hj), by have := HX4.out.lt; omega⟩⟩
  refine (rreply_.calls HCL.out HFL.out HKK.out (by decide) (d := []) (Kd.C_nil _ _) rfl (Nat.le_refl _) (by decide) (by have := HS.out; omega)).mono ?_
  rintro e6 w6 ⟨rfl, hc6, hf6⟩
  have HC6 := az (hc6.mono (fun j hj => hj.1) (fun j hj => .inr hj))
  have HF6 := az ((Cn.Fr.of_below HBW.out ok).trans (hf6.mono (fun j hj => hj.1)))
  clear hc6 hf6
  go_wp2_with fail
  refine bodyPost_ret (results_none rfl _ _ _) rfl ?_
  refine ⟨rfl, ?_, HF6.out⟩
  unfold Cn.asked
  rw [HAK.out]
  rw [if_pos (show (74 : Int) ≠ 0 by decide)]
  exact HC6.out
 ·subst he
  have k1 := ((HC0.out.below HB3.out).choose_spec.choose_spec.choose_spec.choose_spec).blk.at_ 0 rfl
  go_wp2_with fail
  clear k1
  have HSS : Aside0 (s.size ≤ 10000) := ⟨by have := Cn.ak_size d; rw [HAK.out, HN.out] at this; change s.size ≤ n at this; have := HL.out.2; omega⟩
  have HWL : Aside0 (n5 ≤ 100000) := ⟨by have := Cn.ak_wants d; rw [HAK.out, HN.out] at this; change ws.length ≤ n at this; have := HL.out.2; have := HN5.out; omega⟩
  refine (refcheck_.calls tb bs l s w3 (HT.out.below HB3.out) HL7.out HSS.out HW.out).mono ?_
  rintro e' wc ⟨rfl, hbc⟩
  obtain ⟨ti, se, ro, sz, f, HCK⟩ : ∃ ti se ro sz f, Aside0 (Ps.check l s = ((ti, se, ro, sz), f)) := ⟨_, _, _, _, _, ⟨rfl⟩⟩
  have HTK : Aside0 (Ps.TkWf (ti, se, ro, sz)) := ⟨by have := Cn.check_wf l s; rw [HCK.out] at this; exact this⟩
  have HF74 : Aside0 (f ≠ 74) := ⟨by have := Cn.check_74 l s; rw [HCK.out] at this; exact this⟩
  rw [HCK.out]
  obtain ⟨b7, HB7⟩ : ∃ g, Aside0 (wc.heap.size = g) := ⟨_, ⟨rfl⟩⟩
  have HBd := az (below_then HB3.out HB3.out.size hbc)
  have HBc := az (below_then HBd.out HBd.out.size (below_alloc (Below.refl wc.heap.size wc) (.cells #[.int .u32 0, .int .u32 0, .bool false, .int .u64 0] 122)))
  have HXc := az ((HX3.out.below_ hbc).alloc (.cells #[.int .u32 0, .int .u32 0, .bool false, .int .u64 0] 122))
  have HYc : Aside0 (Wk.Blk (wc.alloc (.cells #[.int .u32 0, .int .u32 0, .bool false, .int .u64 0] 122)) wc.heap.size 122 Ps.zt4) := ⟨Wk.Blk.new wc _ Ps.zt4⟩
  have HRc : Aside0 (Kd.R (Kd.int .u16) 44 (wc.alloc (.cells #[.int .u32 0, .int .u32 0, .bool false, .int .u64 0] 122)) w1.heap.size (fun _ => True) (.slice A5 n5 c5) ws) := ⟨Kd.R_below (Kd.R_below HR3.out hbc) (below_alloc (Below.refl _ _) _)⟩
  have HGW : Aside0 (W.heap.size ≤ b7 ∧ g3 ≠ b7) := ⟨by have := HBd.out.size; have := HB7.out; omega, by have := HG7.out; have := hbc.size; have := HB7.out; omega⟩
  clear hbc HX3 HR3 HG7 HBd
  by_cases hf0 : f = 0
  ·subst hf0
   go_wp2_with (first
    | (refine Wk.store_all rfl rfl 122 (.tmp 7) (.tmp 31) rfl wc.heap.size (Ps.tkc (ti, se, ro, sz)) rfl rfl 122 _ HYc.out HSK.out rfl rfl ?_; intro w4 hX hO; rw [HB7.out] at hX hO ⊢; have HY4 := az hX; have HX4 := az (HXc.out.only hO HGW.out.2); have HBW := az (Wk.Only.below HBc.out hO HGW.out.1); have HR4 := az (Wk.R_only HRc.out (show Wk.Blk _ b7 _ _ from HB7.out ▸ HYc.out) (by decide) hO); clear hX hO)
    | refine Wk.load rfl 122 (.tmp 7) rfl (.agg #[.int .u32 ti, .int .u32 se, .bool ro, .int .u64 sz]) (.pointer (some ⟨b7, 0, none⟩)) rfl (Wk.run_load_blk (P := Tryz.prog) 122 b7 0 (Ps.tkc (ti, se, ro, sz)) _ HY4.out rfl Tryz.underlying122 rfl HSK.out) ?_)
   have HCW := az (HC0.out.below HBW.out)
   refine (rserved_.calls HCW.out HBK.out (ti, se, ro, sz) HTK.out).mono ?_
   rintro e' w5 ⟨rfl, hb5⟩
   obtain ⟨x, HXE⟩ : ∃ x, Aside0 (Cn.served c.blk (ti, se, ro, sz) = x) := ⟨_, ⟨rfl⟩⟩
   rw [HXE.out]
   have HB5 := az (below_then HBW.out HBW.out.size hb5)
   have HX5 := az (HX4.out.below_ hb5)
   have HR5 := az (Kd.R_below HR4.out hb5)
   clear hb5 HBW HX4 HR4 HCW HY4 HBc HXc HYc HRc
   go_wp2_with (refine Wk.store_all rfl rfl 47 (.tmp 9) (.tmp 49) rfl w5.heap.size (Cn.exc x) rfl rfl 47 (Cn.exc Cn.ex0) (Wk.Blk.new w5 47 (Cn.exc Cn.ex0)) HSE.out rfl rfl ?_; intro w6 hX hO; have HF6 := az (Wk.Only.fresh HB5.out HB5.out.size hO); have HZ6 := az hX; clear hX hO)
   have HX6 := az (HX5.out.below_ HF6.out.2.2)
   have HR6 := az (Cn.R_own (Kd.R_below HR5.out HF6.out.2.2))
   have HB6 := az HF6.out.2.1
   obtain ⟨b8, HB8⟩ : ∃ g, Aside0 (w5.heap.size = g) := ⟨_, ⟨rfl⟩⟩
   rw [HB8.out] at HZ6 ⊢
   have HNE : Aside0 (W.heap.size ≤ g3 ∧ g3 < w6.heap.size ∧ W.heap.size ≤ b8 ∧ b8 < w6.heap.size ∧ ∀ j, (Value.slice A5 n5 c5).ownBlock = some j → W.heap.size ≤ j ∧ j < w6.heap.size) := ⟨by
    refine ⟨by rw [HG3.out]; exact Nat.le_refl _, HX6.out.lt, by rw [← HB8.out]; exact HB5.out.size, HZ6.out.lt, fun j hj => ?_⟩
    have := (Kd.R_bound HR6.out).1 j hj
    exact ⟨Nat.le_trans HW1.out this.2.1, this.2.2.1⟩⟩
   obtain ⟨okL, HOK⟩ : ∃ okL : Nat → Prop, Aside0 (∀ j, okL j ↔ (ok j ∧ j ≠ g3 ∧ j ≠ b8 ∧ (Value.slice A5 n5 c5).ownBlock ≠ some j)) := ⟨fun j => ok j ∧ j ≠ g3 ∧ j ≠ b8 ∧ (Value.slice A5 n5 c5).ownBlock ≠ some j, ⟨fun _ => Iff.rfl⟩⟩
   have HOL : Aside0 (∀ j, okL j → ok j) := ⟨fun j hj => ((HOK.out j).1 hj).1⟩
   have HFR : Aside0 (∀ j, w6.heap.size ≤ j → okL j) := ⟨fun j hj => (HOK.out j).2 ⟨HF.out j (Nat.le_trans HB6.out.size hj), by have := HNE.out.2.1; omega, by have := HNE.out.2.2.2.1; omega, fun he => by have := (HNE.out.2.2.2.2 j he).2; omega⟩⟩
   have HC6 : Aside0 (Cn.Rn w6 okL ex p tb c) := ⟨(HC0.out.below HB6.out).mono (fun j hj => (HOK.out j).2 ⟨hj.1, by have := HNE.out.1; have := hj.2; omega, by have := HNE.out.2.2.1; have := hj.2; omega, fun he => by have := (HNE.out.2.2.2.2 j he).1; have := hj.2; omega⟩) (fun j hj => .inr hj.1)⟩
   have HNG : Aside0 (¬ okL g3 ∧ ¬ okL b8 ∧ ∀ j, (Value.slice A5 n5 c5).ownBlock = some j → ¬ okL j) := ⟨fun hh => ((HOK.out _).1 hh).2.1 rfl, fun hh => ((HOK.out _).1 hh).2.2.1 rfl, fun j hj hh => ((HOK.out _).1 hh).2.2.2 hj⟩
   clear HX5 HR5 HB5 HF6 HB8 HOK HNE
   refine wp_region_noPanic ?_
   refine Rg.s1 5 (fun w' => Below w6.heap.size w6 w') [4] (Below.refl _ _).drew #[false, false, false, false, false] (fun hHeld => ?_)
   refine Rg.p1 0 (.some 50) ?_
   refine Rg.t1 1 (.some 51) hHeld ?_ (hy := by intro w' hS'; (have hl := Wk.run_load_blk (P := Tryz.prog) 103 g3 0 [.int .u32 k, .slice A n cd] _ (HX6.out.below_ hS') rfl Tryz.underlying103 rfl HSO.out; refine (Wk.exec_load 103 (.tmp 3) rfl _ _ rfl hl).trans ?_); first | done | with_reducible rfl)
   refine Rg.t1 2 (.some 52) hHeld ?_ (hy := by intro w' hS'; (have hl := Wk.run_load_blk (P := Tryz.prog) 47 b8 0 (Cn.exc x) _ (HZ6.out.below_ hS') rfl Tryz.underlying47 rfl HSE.out; refine (Wk.exec_load 47 (.tmp 9) rfl _ _ rfl hl).trans ?_); first | done | with_reducible rfl)
   refine Rg.o1 3 (.some 53) (fun K hK => ?_)
   refine call_ 97 #[.agg (Cn.exc x).toArray] (by rfl) rfl (by go_simp) ?_
   refine (Cn.rinfo_ _ x).mono ?_
   rintro e7 w7 ⟨A9, c9, rfl, hR7, hb7⟩
   have HR7 := az hR7
   have HB7 := az (below_then hHeld hHeld.size hb7)
   clear hR7 hb7
   refine ⟨_, rfl, ?_⟩
   refine hK.out _ _ HB7.out (fun hHeld => ?_)
   clear hK K
   refine Rg.n1 ?_
   refine Rg.l1 4 (.some 54) (fun K hK => ?_)
   refine call_ 78 #[.pointer (some ⟨p, 0, none⟩), .agg #[.int .u32 k, .slice A n cd], .int .u32 3, .slice A9 (Cn.info x).length c9] (by rfl) rfl (by go_simp) ?_
   refine (rreply_.calls (HC6.out.below HB7.out) (fun j hj => HFR.out j (Nat.le_trans HB7.out.size hj)) HKK.out (by decide) (Kd.R_reads' HR7.out).2.2 rfl (Kd.R_reads' HR7.out).2.1 (by have := Cn.info_len x; omega) (by have := HS.out; omega)).mono ?_
   rintro e8 w8 ⟨rfl, hc8, hf8⟩
   have HC8 := az hc8
   have HX8 := az (Cn.Blk_frame (HX6.out.below_ HB7.out) hf8 HNG.out.1)
   have HZ8 := az (Cn.Blk_frame (HZ6.out.below_ HB7.out) hf8 HNG.out.2.1)
   have HR8 := az (Cn.R_frame (Kd.R_below HR6.out HB7.out) hf8 HNG.out.2.2)
   have HF8 := az (((Cn.Fr.of_below HB6.out ok).trans (Cn.Fr.of_below HB7.out ok)).trans (hf8.mono HOL.out))
   have HS8 : Aside0 (w6.heap.size ≤ w8.heap.size) := ⟨Nat.le_trans HB7.out.size hf8.size⟩
   clear hc8 hf8
   refine ⟨_, rfl, ?_⟩
   refine hK.out _ _ ?_
   clear hK K
   refine Rg.n1 ?_
   refine Rg.d1 ?_
   refine NoPanic.normal ?_
   clear HX6 HZ6 HR6 HC6 HB6
   obtain ⟨c1, HC1E⟩ : ∃ c1, Aside0 (Cn.say c k 3 (Cn.info x) = c1) := ⟨_, ⟨rfl⟩⟩
   have HL1 : Aside0 (c1.send.length ≤ 9000000100000 ∧ c1.blk = c.blk) := ⟨by
    rw [← HC1E.out]
    have h1 := Cn.say_len c k 3 (Cn.info x)
    have h2 := Cn.info_len x
    have h3 := HS.out
    exact ⟨by omega, rfl⟩⟩
   rw [HC1E.out] at HC8
   go_wp2_with fail
   have HI0 : Aside0 (decide ((3 : Int) ∈ ws.take 0) = false) := ⟨by simp⟩
   go_loopw [10, 11] (fun vb ix wr => ∃ (j : Nat) (b : Bool), vb = .bool b ∧ ix = .int .i64 j ∧ j ≤ n5 ∧ Aside0 (decide ((3 : Int) ∈ ws.take j) = b) ∧ Aside0 (Below w8.heap.size w8 wr)) (fun _ ix _ => n5 - (intOf ix).toNat)
   case atStart => exact ⟨0, false, rfl, rfl, Nat.zero_le _, HI0, ⟨Below.refl _ _⟩⟩
   case round =>
    clear HI0
    obtain ⟨j, b, rfl, rfl, hj, HIB, hb9⟩ := hrel
    obtain ⟨w9, rfl⟩ : ∃ q : World, q = wr := ⟨_, rfl⟩
    have hj5 : (j : Int) ≤ 100000 := by have := HWL.out; omega
    by_cases hlt : (j : Int) < (n5 : Int)
    ·have hjw : j < ws.length := by rw [HN5.out]; omega
     have HMT := az (Cn.mem_take_succ hjw)
     cases b with
     | true =>
      go_wp2_with fail
      go_roundw
      case rel => exact ⟨j + 1, true, rfl, by go_num, by omega, ⟨by rw [HMT.out, HIB.out]; rfl⟩, hb9⟩
      case measure => simp [intOf]; omega
     | false =>
      obtain ⟨ad, hA5, hx⟩ := Kd.at_int (Kd.R_reads' (Kd.R_below HR8.out hb9.out)).2.2 (j : Int) (by omega) (by omega)
      rw [Int.toNat_natCast] at hx
      obtain ⟨y, HY⟩ : ∃ y, Aside0 (ws[j] = y) := ⟨_, ⟨rfl⟩⟩
      have hrd : Go.Proofs.YtgljicdpcapgnaaGreatDoorW.PrintWords.rd ws (j : Int) = y := by rw [← HY.out]; exact (Ps.rd_drop ws j hjw).1
      rw [hrd] at hx
      rw [HY.out] at HMT
      subst hA5
      clear hrd
      by_cases hy : y = 3
      ·have hyb : (y == 3) = true := by simpa using hy
       have HYB := az hyb
       go_wp2_with fail
       go_roundw
       case rel => exact ⟨j + 1, true, rfl, by go_num, by omega, ⟨by rw [HMT.out, HIB.out, HYB.out]; rfl⟩, hb9⟩
       case measure => simp [intOf]; omega
      ·have hyb : (y == 3) = false := by simpa using hy
       have HYB := az hyb
       go_wp2_with fail
       go_roundw
       case rel => exact ⟨j + 1, false, rfl, by go_num, by omega, ⟨by rw [HMT.out, HIB.out, HYB.out]; rfl⟩, hb9⟩
       case measure => simp [intOf]; omega
    ·obtain rfl : n5 = j := by omega
     have HWB : Aside0 (decide ((3 : Int) ∈ ws) = b) := ⟨by have := HIB.out; rwa [List.take_of_length_le (by rw [HN5.out]; exact Nat.le_refl _)] at this⟩
     have HC9' := az (HC8.out.below hb9.out)
     have HX9' := az (HX8.out.below_ hb9.out)
     have HZ9' := az (HZ8.out.below_ hb9.out)
     have HF9' := az (HF8.out.trans (Cn.Fr.of_below hb9.out ok))
     have HS9' : Aside0 (w6.heap.size ≤ w9.heap.size) := ⟨Nat.le_trans HS8.out hb9.out.size⟩
     clear hb9 HC8 HX8 HZ8 HF8 HS8 HR8 HIB
     cases b with
     | true =>
      go_wp2_with fail
      refine wp_region_noPanic ?_
      refine Rg.s1 8 (fun w' => Below w9.heap.size w9 w') [7] (Below.refl _ _).drew #[false, false, false, false, false, false, false, false] (fun hHeld => ?_)
      refine Rg.p1 0 (.some 70) ?_
      refine Rg.t1 1 (.some 71) hHeld ?_ (hy := by intro w' hS'; (have hl := Wk.run_load_blk (P := Tryz.prog) 103 g3 0 [.int .u32 k, .slice A n cd] _ (HX9'.out.below_ hS') rfl Tryz.underlying103 rfl HSO.out; refine (Wk.exec_load 103 (.tmp 3) rfl _ _ rfl hl).trans ?_); first | done | with_reducible rfl)
      refine Rg.p1 2 (.some 72) ?_
      refine Rg.p1 3 (.some 73) ?_
      refine Rg.p1 4 (.some 74) ?_
      refine Rg.t1 5 (.some 75) hHeld ?_ (hy := by intro w' hS'; (have k2 := ((HC9'.out.below hS').choose_spec.choose_spec.choose_spec.choose_spec).blk.at_ 1 rfl; rw [HL1.out.2] at k2; go_simp); first | done | with_reducible rfl)
      refine Rg.o1 6 (.some 76) (fun K hK => ?_)
      refine call_ 98 #[.int .i64 c.blk] (by rfl) rfl (by go_simp) ?_
      refine (Cn.rblocks_ _ c.blk HBK.out.1 (by have := HBK.out.2; omega)).mono ?_
      rintro e7 w13 ⟨A9', c9', rfl, hR7, hb7⟩
      have HR13 := az hR7
      have HB13 := az (below_then hHeld hHeld.size hb7)
      clear hR7 hb7
      refine ⟨_, rfl, ?_⟩
      refine hK.out _ _ HB13.out (fun hHeld => ?_)
      clear hK K
      refine Rg.n1 ?_
      refine Rg.l1 7 (.some 77) (fun K hK => ?_)
      refine call_ 78 #[.pointer (some ⟨p, 0, none⟩), .agg #[.int .u32 k, .slice A n cd], .int .u32 3, .slice A9' (Cn.blocks c.blk).length c9'] (by rfl) rfl (by go_simp) ?_
      refine (rreply_.calls (HC9'.out.below HB13.out) (fun j hj => HFR.out j (Nat.le_trans HS9'.out (Nat.le_trans HB13.out.size hj))) HKK.out (by decide) (Kd.R_reads' HR13.out).2.2 rfl (Kd.R_reads' HR13.out).2.1 (by have := Cn.blocks_len c.blk; omega) (by have := HL1.out.1; omega)).mono ?_
      rintro e8 w14 ⟨rfl, hc8, hf8⟩
      have HC9 := az hc8
      have HX9 := az (Cn.Blk_frame (HX9'.out.below_ HB13.out) hf8 HNG.out.1)
      have HZ9 := az (Cn.Blk_frame (HZ9'.out.below_ HB13.out) hf8 HNG.out.2.1)
      have HF9 := az ((HF9'.out.trans (Cn.Fr.of_below HB13.out ok)).trans (hf8.mono HOL.out))
      have HS9 : Aside0 (w6.heap.size ≤ w14.heap.size) := ⟨Nat.le_trans HS9'.out (Nat.le_trans HB13.out.size hf8.size)⟩
      clear hc8 hf8
      refine ⟨_, rfl, ?_⟩
      refine hK.out _ _ ?_
      clear hK K
      refine Rg.n1 ?_
      refine Rg.d1 ?_
      refine NoPanic.normal ?_
      have HL9 : Aside0 ((Cn.say c1 k 3 (Cn.blocks c.blk)).send.length ≤ 9000000200000) := ⟨by
       have h1 := Cn.say_len c1 k 3 (Cn.blocks c.blk)
       have h2 := Cn.blocks_len c.blk
       have h3 := HL1.out.1
       omega⟩
      clear HC9' HX9' HZ9' HF9' HS9'
      have hl11 := Wk.run_load_blk (P := Tryz.prog) 103 g3 0 [.int .u32 k, .slice A n cd] _ HX9.out rfl Tryz.underlying103 rfl HSO.out
      go_wp2_with (refine Wk.load rfl 103 (.tmp 3) rfl (.agg #[.int .u32 k, .slice A n cd]) (.pointer (some ⟨g3, 0, none⟩)) rfl hl11 ?_)
      clear hl11
      refine (rreply_.calls HC9.out (fun j hj => HFR.out j (Nat.le_trans HS9.out hj)) HKK.out (by decide) (d := []) (Kd.C_nil _ _) rfl (Nat.le_refl _) (by decide) (by have := HL9.out; omega)).mono ?_
      rintro e10 w10 ⟨rfl, hc10, hf10⟩
      have HC10 := az hc10
      have HX10 := az (Cn.Blk_frame HX9.out hf10 HNG.out.1)
      have HZ10 := az (Cn.Blk_frame HZ9.out hf10 HNG.out.2.1)
      have HF10 := az (HF9.out.trans (hf10.mono HOL.out))
      have k0 := HX10.out.at_ 0 rfl
      clear hc10 hf10
      by_cases hk7 : k = 7
      ·have hkb : (k == 7) = true := by simpa using hk7
       have HK7 := az hk7
       clear hk7
       obtain ⟨pp, vk, vs, vp, hv⟩ := HC10.out
       have HV10 := az hv
       clear hv
       go_wp2_with (first
        | refine Wk.load rfl 47 (.tmp 9) rfl (.agg (Cn.exc x).toArray) (.pointer (some ⟨b8, 0, none⟩)) rfl (Wk.run_load_blk (P := Tryz.prog) 47 b8 0 (Cn.exc x) _ HZ10.out rfl Tryz.underlying47 rfl HSE.out) ?_
        | (refine Wk.store rfl rfl 47 (.tmp 87) (.tmp 85) rfl p 6 (.agg (Cn.exc x).toArray) (Cn.exc x) rfl rfl (by simp [Value.cells]) 65 _ HV10.out.blk HSE.out (Nat.le_of_ble_eq_true rfl) rfl ?_; intro w11 hX hO; have HO11 := az hO; have HV11 : Aside0 (Cn.Rv w11 okL ex p tb pp vk vs vp { Cn.say (Cn.say c1 k 3 (Cn.blocks c.blk)) k 1 [] with ex := x }) := ⟨HV10.out.turn hO hX rfl rfl rfl⟩; clear hX hO)
        | (refine Wk.store rfl rfl 5 (.tmp 90) (.const (.int .u8 3)) rfl p 5 (.int .u8 3) [.int .u8 3] rfl rfl rfl 65 _ HV11.out.blk HS1.out (Nat.le_of_ble_eq_true rfl) rfl ?_; intro w12 hX hO; have HO12 := az hO; have HV12 : Aside0 (Cn.Rv w12 okL ex p tb pp vk vs vp { Cn.say (Cn.say c1 k 3 (Cn.blocks c.blk)) k 1 [] with ex := x, st := 3 }) := ⟨HV11.out.turn hO hX rfl rfl rfl⟩; clear hX hO))
       go_end0
       refine ⟨rfl, ?_, (HF10.out.trans (Cn.Fr.of_only HO11.out (HOL.out _ HV10.out.okp))).trans (Cn.Fr.of_only HO12.out (HOL.out _ HV10.out.okp))⟩
       unfold Cn.asked
       rw [HAK.out, if_neg (fun h => h rfl), HCK.out, if_neg (fun h => h rfl), HXE.out]
       simp only [HC1E.out]
       rw [(if_pos (of_decide_eq_true HWB.out)), if_pos HK7.out]
       exact ⟨pp, vk, vs, vp, HV12.out.mono HOL.out (fun j hj => .inr hj)⟩
      ·have hkb : (k == 7) = false := by simpa using hk7
       go_wp2_with fail
       go_end0
       refine ⟨rfl, ?_, HF10.out⟩
       unfold Cn.asked
       rw [HAK.out, if_neg (fun h => h rfl), HCK.out, if_neg (fun h => h rfl), HXE.out]
       simp only [HC1E.out]
       rw [(if_pos (of_decide_eq_true HWB.out)), if_neg hk7]
       exact HC10.out.mono HOL.out (fun j hj => .inr hj)
     | false =>
      have HC9 := HC9'
      have HX9 := HX9'
      have HZ9 := HZ9'
      have HF9 := HF9'
      have HS9 := HS9'
      have HL9 : Aside0 (c1.send.length ≤ 9000000200000) := ⟨by have := HL1.out.1; omega⟩
      clear HC9' HX9' HZ9' HF9' HS9'
      have hl11 := Wk.run_load_blk (P := Tryz.prog) 103 g3 0 [.int .u32 k, .slice A n cd] _ HX9.out rfl Tryz.underlying103 rfl HSO.out
      go_wp2_with (refine Wk.load rfl 103 (.tmp 3) rfl (.agg #[.int .u32 k, .slice A n cd]) (.pointer (some ⟨g3, 0, none⟩)) rfl hl11 ?_)
      clear hl11
      refine (rreply_.calls HC9.out (fun j hj => HFR.out j (Nat.le_trans HS9.out hj)) HKK.out (by decide) (d := []) (Kd.C_nil _ _) rfl (Nat.le_refl _) (by decide) (by have := HL9.out; omega)).mono ?_
      rintro e10 w10 ⟨rfl, hc10, hf10⟩
      have HC10 := az hc10
      have HX10 := az (Cn.Blk_frame HX9.out hf10 HNG.out.1)
      have HZ10 := az (Cn.Blk_frame HZ9.out hf10 HNG.out.2.1)
      have HF10 := az (HF9.out.trans (hf10.mono HOL.out))
      have k0 := HX10.out.at_ 0 rfl
      clear hc10 hf10
      by_cases hk7 : k = 7
      ·have hkb : (k == 7) = true := by simpa using hk7
       have HK7 := az hk7
       clear hk7
       obtain ⟨pp, vk, vs, vp, hv⟩ := HC10.out
       have HV10 := az hv
       clear hv
       go_wp2_with (first
        | refine Wk.load rfl 47 (.tmp 9) rfl (.agg (Cn.exc x).toArray) (.pointer (some ⟨b8, 0, none⟩)) rfl (Wk.run_load_blk (P := Tryz.prog) 47 b8 0 (Cn.exc x) _ HZ10.out rfl Tryz.underlying47 rfl HSE.out) ?_
        | (refine Wk.store rfl rfl 47 (.tmp 87) (.tmp 85) rfl p 6 (.agg (Cn.exc x).toArray) (Cn.exc x) rfl rfl (by simp [Value.cells]) 65 _ HV10.out.blk HSE.out (Nat.le_of_ble_eq_true rfl) rfl ?_; intro w11 hX hO; have HO11 := az hO; have HV11 : Aside0 (Cn.Rv w11 okL ex p tb pp vk vs vp { Cn.say c1 k 1 [] with ex := x }) := ⟨HV10.out.turn hO hX rfl rfl rfl⟩; clear hX hO)
        | (refine Wk.store rfl rfl 5 (.tmp 90) (.const (.int .u8 3)) rfl p 5 (.int .u8 3) [.int .u8 3] rfl rfl rfl 65 _ HV11.out.blk HS1.out (Nat.le_of_ble_eq_true rfl) rfl ?_; intro w12 hX hO; have HO12 := az hO; have HV12 : Aside0 (Cn.Rv w12 okL ex p tb pp vk vs vp { Cn.say c1 k 1 [] with ex := x, st := 3 }) := ⟨HV11.out.turn hO hX rfl rfl rfl⟩; clear hX hO))
       go_end0
       refine ⟨rfl, ?_, (HF10.out.trans (Cn.Fr.of_only HO11.out (HOL.out _ HV10.out.okp))).trans (Cn.Fr.of_only HO12.out (HOL.out _ HV10.out.okp))⟩
       unfold Cn.asked
       rw [HAK.out, if_neg (fun h => h rfl), HCK.out, if_neg (fun h => h rfl), HXE.out]
       simp only [HC1E.out]
       rw [(if_neg (of_decide_eq_false HWB.out)), if_pos HK7.out]
       exact ⟨pp, vk, vs, vp, HV12.out.mono HOL.out (fun j hj => .inr hj)⟩
      ·have hkb : (k == 7) = false := by simpa using hk7
       go_wp2_with fail
       go_end0
       refine ⟨rfl, ?_, HF10.out⟩
       unfold Cn.asked
       rw [HAK.out, if_neg (fun h => h rfl), HCK.out, if_neg (fun h => h rfl), HXE.out]
       simp only [HC1E.out]
       rw [(if_neg (of_decide_eq_false HWB.out)), if_neg hk7]
       exact HC10.out.mono HOL.out (fun j hj => .inr hj)
  ·have HF0 := az hf0
   have hfn : (f != 0) = true := by simpa using hf0
   by_cases h5 : f = 50 ∨ f = 51
   ·have HRF := az (Cn.refused_gone h5)
    rcases h5 with rfl | rfl
    ·skip
     go_wp2_with (first
      | refine Wk.load rfl 103 (.tmp 3) rfl (.agg #[.int .u32 k, .slice A n cd]) (.pointer (some ⟨g3, 0, none⟩)) rfl hl11.out ?_
      | (refine Wk.store_all rfl rfl 122 (.tmp 7) (.tmp 31) rfl wc.heap.size (Ps.tkc (ti, se, ro, sz)) rfl rfl 122 _ HYc.out HSK.out rfl rfl ?_; intro w4 hX hO; have HX4 := az (HXc.out.only hO (by rw [HB7.out]; exact HGW.out.2)); have HBW := az (Wk.Only.below HBc.out hO (by rw [HB7.out]; exact HGW.out.1)); have HCW := az (HC0.out.below HBW.out); have hl11 := az (Wk.run_load_blk (P := Tryz.prog) 103 g3 0 [.int .u32 k, .slice A n cd] _ HX4.out rfl Tryz.underlying103 rfl HSO.out); clear hX hO))
     clear hl11
     have HCL : Aside0 (Cn.Rn w4 (fun j => ok j ∧ j ≠ g3) ex p tb c) := ⟨HCW.out.mono (fun j hj => ⟨hj.1, by have := hj.2; have := HG3.out; omega⟩) (fun j hj => .inr hj.1)⟩
     have HFL : Aside0 (∀ j, w4.heap.size ≤ j → ok j ∧ j ≠ g3) := ⟨fun j hj => ⟨HF.out j (Nat.le_trans HBW.out.size hj), by have := HX4.out.lt; omega⟩⟩
     refine (rreply_.calls HCL.out HFL.out HKK.out (by decide) (d := []) (Kd.C_nil _ _) rfl (Nat.le_refl _) (by decide) (by have := HS.out; omega)).mono ?_
     rintro e6 w6 ⟨rfl, hc6, hf6⟩
     have HC6 := az (hc6.mono (fun j hj => hj.1) (fun j hj => .inr hj))
     have HF6 := az ((Cn.Fr.of_below HBW.out ok).trans (hf6.mono (fun j hj => hj.1)))
     clear hc6 hf6
     go_wp2_with fail
     refine bodyPost_ret (results_none rfl _ _ _) rfl ?_
     refine ⟨rfl, ?_, HF6.out⟩
     unfold Cn.asked
     rw [HAK.out]
     rw [if_neg (fun h => h rfl), HCK.out, if_pos HF0.out, HRF.out]
     exact HC6.out
    ·skip
     go_wp2_with (first
      | refine Wk.load rfl 103 (.tmp 3) rfl (.agg #[.int .u32 k, .slice A n cd]) (.pointer (some ⟨g3, 0, none⟩)) rfl hl11.out ?_
      | (refine Wk.store_all rfl rfl 122 (.tmp 7) (.tmp 31) rfl wc.heap.size (Ps.tkc (ti, se, ro, sz)) rfl rfl 122 _ HYc.out HSK.out rfl rfl ?_; intro w4 hX hO; have HX4 := az (HXc.out.only hO (by rw [HB7.out]; exact HGW.out.2)); have HBW := az (Wk.Only.below HBc.out hO (by rw [HB7.out]; exact HGW.out.1)); have HCW := az (HC0.out.below HBW.out); have hl11 := az (Wk.run_load_blk (P := Tryz.prog) 103 g3 0 [.int .u32 k, .slice A n cd] _ HX4.out rfl Tryz.underlying103 rfl HSO.out); clear hX hO))
     clear hl11
     have HCL : Aside0 (Cn.Rn w4 (fun j => ok j ∧ j ≠ g3) ex p tb c) := ⟨HCW.out.mono (fun j hj => ⟨hj.1, by have := hj.2; have := HG3.out; omega⟩) (fun j hj => .inr hj.1)⟩
     have HFL : Aside0 (∀ j, w4.heap.size ≤ j → ok j ∧ j ≠ g3) := ⟨fun j hj => ⟨HF.out j (Nat.le_trans HBW.out.size hj), by have := HX4.out.lt; omega⟩⟩
     refine (rreply_.calls HCL.out HFL.out HKK.out (by decide) (d := []) (Kd.C_nil _ _) rfl (Nat.le_refl _) (by decide) (by have := HS.out; omega)).mono ?_
     rintro e6 w6 ⟨rfl, hc6, hf6⟩
     have HC6 := az (hc6.mono (fun j hj => hj.1) (fun j hj => .inr hj))
     have HF6 := az ((Cn.Fr.of_below HBW.out ok).trans (hf6.mono (fun j hj => hj.1)))
     clear hc6 hf6
     go_wp2_with fail
     refine bodyPost_ret (results_none rfl _ _ _) rfl ?_
     refine ⟨rfl, ?_, HF6.out⟩
     unfold Cn.asked
     rw [HAK.out]
     rw [if_neg (fun h => h rfl), HCK.out, if_pos HF0.out, HRF.out]
     exact HC6.out
   ·have HRF := az (Cn.refused_none HF74.out h5)
    have h50 : (f == 50) = false := by simpa using fun h => h5 (.inl h)
    have h51 : (f == 51) = false := by simpa using fun h => h5 (.inr h)
    go_wp2_with (first
     | refine Wk.load rfl 103 (.tmp 3) rfl (.agg #[.int .u32 k, .slice A n cd]) (.pointer (some ⟨g3, 0, none⟩)) rfl hl11.out ?_
     | (refine Wk.store_all rfl rfl 122 (.tmp 7) (.tmp 31) rfl wc.heap.size (Ps.tkc (ti, se, ro, sz)) rfl rfl 122 _ HYc.out HSK.out rfl rfl ?_; intro w4 hX hO; have HX4 := az (HXc.out.only hO (by rw [HB7.out]; exact HGW.out.2)); have HBW := az (Wk.Only.below HBc.out hO (by rw [HB7.out]; exact HGW.out.1)); have HCW := az (HC0.out.below HBW.out); have hl11 := az (Wk.run_load_blk (P := Tryz.prog) 103 g3 0 [.int .u32 k, .slice A n cd] _ HX4.out rfl Tryz.underlying103 rfl HSO.out); clear hX hO))
    clear hl11
    have HCL : Aside0 (Cn.Rn w4 (fun j => ok j ∧ j ≠ g3) ex p tb c) := ⟨HCW.out.mono (fun j hj => ⟨hj.1, by have := hj.2; have := HG3.out; omega⟩) (fun j hj => .inr hj.1)⟩
    have HFL : Aside0 (∀ j, w4.heap.size ≤ j → ok j ∧ j ≠ g3) := ⟨fun j hj => ⟨HF.out j (Nat.le_trans HBW.out.size hj), by have := HX4.out.lt; omega⟩⟩
    refine (rreply_.calls HCL.out HFL.out HKK.out (by decide) (d := []) (Kd.C_nil _ _) rfl (Nat.le_refl _) (by decide) (by have := HS.out; omega)).mono ?_
    rintro e6 w6 ⟨rfl, hc6, hf6⟩
    have HC6 := az (hc6.mono (fun j hj => hj.1) (fun j hj => .inr hj))
    have HF6 := az ((Cn.Fr.of_below HBW.out ok).trans (hf6.mono (fun j hj => hj.1)))
    clear hc6 hf6
    go_wp2_with fail
    refine bodyPost_ret (results_none rfl _ _ _) rfl ?_
    refine ⟨rfl, ?_, HF6.out⟩
    unfold Cn.asked
    rw [HAK.out]
    rw [if_neg (fun h => h rfl), HCK.out, if_pos HF0.out, HRF.out]
    exact HC6.out
theorem Cn.rold_ (W : World) (x : Cn.Ex) (sh : Bool) : Calls Tryz.prog 82 #[.agg #[.int .u32 x.1, .int .u64 x.2.1, .bool x.2.2], .bool sh] W (Cn.Made W (Cn.old x sh)) := by
 obtain ⟨x0, x1, ro⟩ := x
 have HSZ : Aside0 ((Tryz.prog.info? 47).map (·.size) = some 3) := ⟨by kernel_rfl⟩
 obtain ⟨wb, HWB⟩ : ∃ wb, Aside0 (W.alloc (.cells #[.int .u32 x0, .int .u64 x1, .bool ro] 47) = wb) := ⟨_, ⟨rfl⟩⟩
 have HBB : Aside0 (Below W.heap.size W wb) := ⟨HWB.out ▸ below_alloc (Below.refl _ _) _⟩
 have HX : Aside0 (Wk.Blk wb W.heap.size 47 [.int .u32 x0, .int .u64 x1, .bool ro]) := ⟨HWB.out ▸ Wk.Blk.new W _ [.int .u32 x0, .int .u64 x1, .bool ro]⟩
 go_enter Tryz.func82, Tryz.ntmps82
 go_wp2_with fail
 rw [HWB.out]
 clear HWB
 refine wp_region_noPanic ?_
 refine Rg.s1 8 (fun w' => Below wb.heap.size wb w') [] (Below.refl _ _).drew #[false, false, false, false, false, false, false, false] (fun hHeld => ?_)
 refine Rg.p1 1 (.some 8) ?_
 refine Rg.t1 2 (.some 9) hHeld ?_ (hy := by intro w' hS'; (have c1 := (HX.out.below_ hS').at_ 1 rfl; go_simp); first | done | with_reducible rfl)
 refine Rg.t1 3 (.some 10) hHeld ?_ (hy := by intro w' hS'; (have hl := Wk.run_load_blk (P := Tryz.prog) 47 W.heap.size 0 [.int .u32 x0, .int .u64 x1, .bool ro] _ (HX.out.below_ hS') rfl Tryz.underlying47 rfl HSZ.out; refine (Wk.exec_load 47 (.tmp 2) rfl _ _ rfl hl).trans ?_); first | done | with_reducible rfl)
 have HH := az hHeld
 generalize hw6 : World.drew _ = w6 at hHeld HH ⊢
 clear hw6
 refine join_ (σ := Nat × Nat) (fuel' := 2) #[true, true, true, true, true, true, false, false] (fun s => [(7, .slice (some ⟨s.1, 0, none⟩) 2 2), (11, .int .u64 (Cn.can ro)), (12, .slice (some ⟨s.2, 0, none⟩) 2 2)]) (fun s w' => Below wb.heap.size wb w' ∧ Kd.C (Kd.int .i64) w' (some ⟨s.1, 0, none⟩) 2 [8, 2] ∧ Kd.C (Kd.int .u64) w' (some ⟨s.2, 0, none⟩) 2 [x1, Cn.can ro]) ?_ (fun hJ => ?_)
 rotate_left
 ·refine two_ (i := 0) (j := 4) (Ni := some 7) (Nj := some 11) #[true, true, true, true, false, false, false, false] #[false, true, true, true, true, false, false, false] rfl rfl rfl rfl (by kernel_rfl) (by decide) (by decide) (fun K hK => ?_) (fun K hK => ?_)
  ·refine value_ (w1 := w6.alloc (.cells #[.int .i64 8, .int .i64 2] 3)) (v := .slice (some ⟨w6.heap.size, 0, none⟩) 2 2) (by rfl) rfl (by first | (go_simp; done) | (go_simp; rfl)) ?_
   have HC := az (Lit.reads_new w6 #[.int .i64 8, .int .i64 2] 3 (0, 0) .i64 [8, 2] rfl (by decide))
   refine hK.out _ _ (below_then hHeld hHeld.size (below_alloc (Below.refl _ _) _)) (fun hHeld => ?_)
   clear hK K
   refine Rg.n1 ?_
   refine Rg.o1 4 (.some 11) (fun K hK => ?_)
   refine call_ 101 #[.agg #[.int .u32 x0, .int .u64 x1, .bool ro]] (by rfl) rfl (by go_simp) ?_
   refine (Cn.rcanc_ _ (x0, x1, ro)).mono ?_
   rintro e w8 ⟨rfl, hb8⟩
   refine ⟨_, rfl, ?_⟩
   refine hK.out _ _ (below_then hHeld hHeld.size hb8) (fun hHeld => ?_)
   have HC' := az (Kd.C_below HC.out hb8)
   clear hK K
   refine Rg.n1 ?_
   refine Rg.o1 5 (.some 12) (fun K hK => ?_)
   refine value_ (w1 := w8.alloc (.cells #[.int .u64 x1, .int .u64 (Cn.can ro)] 45)) (v := .slice (some ⟨w8.heap.size, 0, none⟩) 2 2) (by rfl) rfl (by first | (go_simp; done) | (go_simp; rfl)) ?_
   refine hK.out _ _ (below_then hHeld hHeld.size (below_alloc (Below.refl _ _) _)) (fun hHeld => ?_)
   exact hJ (w6.heap.size, w8.heap.size) _ ⟨hHeld, Kd.C_below HC'.out (below_alloc (Below.refl _ _) _), (Lit.reads_new w8 #[.int .u64 x1, .int .u64 (Cn.can ro)] 45 (0, 0) .u64 [x1, Cn.can ro] rfl (by simp))⟩
  ·refine call_ 101 #[.agg #[.int .u32 x0, .int .u64 x1, .bool ro]] (by rfl) rfl (by go_simp) ?_
   refine (Cn.rcanc_ _ (x0, x1, ro)).mono ?_
   rintro e w8 ⟨rfl, hb8⟩
   refine ⟨_, rfl, ?_⟩
   refine hK.out _ _ (below_then hHeld hHeld.size hb8) (fun hHeld => ?_)
   clear hb8
   clear hK K
   refine Rg.n1 ?_
   refine two_ (i := 0) (j := 5) (Ni := some 7) (Nj := some 12) #[true, true, true, true, true, false, false, false] #[false, true, true, true, true, true, false, false] rfl rfl rfl rfl (by kernel_rfl) (by decide) (by decide) (fun K hK => ?_) (fun K hK => ?_)
   ·refine value_ (w1 := w8.alloc (.cells #[.int .i64 8, .int .i64 2] 3)) (v := .slice (some ⟨w8.heap.size, 0, none⟩) 2 2) (by rfl) rfl (by first | (go_simp; done) | (go_simp; rfl)) ?_
    have HC := az (Lit.reads_new w8 #[.int .i64 8, .int .i64 2] 3 (0, 0) .i64 [8, 2] rfl (by decide))
    refine hK.out _ _ (below_then hHeld hHeld.size (below_alloc (Below.refl _ _) _)) (fun hHeld => ?_)
    generalize hw9 : World.alloc w8 _ = w9 at *
    clear hw9
    clear hK K
    refine Rg.n1 ?_
    refine Rg.o1 5 (.some 12) (fun K hK => ?_)
    refine value_ (w1 := w9.alloc (.cells #[.int .u64 x1, .int .u64 (Cn.can ro)] 45)) (v := .slice (some ⟨w9.heap.size, 0, none⟩) 2 2) (by rfl) rfl (by first | (go_simp; done) | (go_simp; rfl)) ?_
    refine hK.out _ _ (below_then hHeld hHeld.size (below_alloc (Below.refl _ _) _)) (fun hHeld => ?_)
    exact hJ (w8.heap.size, w9.heap.size) _ ⟨hHeld, Kd.C_below HC.out (below_alloc (Below.refl _ _) _), (Lit.reads_new w9 #[.int .u64 x1, .int .u64 (Cn.can ro)] 45 (0, 0) .u64 [x1, Cn.can ro] rfl (by simp))⟩
   ·refine value_ (w1 := w8.alloc (.cells #[.int .u64 x1, .int .u64 (Cn.can ro)] 45)) (v := .slice (some ⟨w8.heap.size, 0, none⟩) 2 2) (by rfl) rfl (by first | (go_simp; done) | (go_simp; rfl)) ?_
    have HC := az (Lit.reads_new w8 #[.int .u64 x1, .int .u64 (Cn.can ro)] 45 (0, 0) .u64 [x1, Cn.can ro] rfl (by simp))
    refine hK.out _ _ (below_then hHeld hHeld.size (below_alloc (Below.refl _ _) _)) (fun hHeld => ?_)
    generalize hw9 : World.alloc w8 _ = w9 at *
    clear hw9
    clear hK K
    refine Rg.n1 ?_
    refine Rg.o1 0 (.some 7) (fun K hK => ?_)
    refine value_ (w1 := w9.alloc (.cells #[.int .i64 8, .int .i64 2] 3)) (v := .slice (some ⟨w9.heap.size, 0, none⟩) 2 2) (by rfl) rfl (by first | (go_simp; done) | (go_simp; rfl)) ?_
    refine hK.out _ _ (below_then hHeld hHeld.size (below_alloc (Below.refl _ _) _)) (fun hHeld => ?_)
    exact hJ (w9.heap.size, w8.heap.size) _ ⟨hHeld, (Lit.reads_new w9 #[.int .i64 8, .int .i64 2] 3 (0, 0) .i64 [8, 2] rfl (by decide)), Kd.C_below HC.out (below_alloc (Below.refl _ _) _)⟩
 rintro ⟨g, g'⟩ w7 ⟨hHeld, hC7, hC8⟩
 have HC7 := az hC7
 have HC8 := az hC8
 clear hC7 hC8 HH
 refine norm_ (a' := ?_) ?_ ?_
 rotate_left
 ·show Act.put (Act.put (Act.put _ (some 7) _) (some 11) _) (some 12) _ = _
  simp only [Act.put, List.setIfInBounds_toArray, List.set_cons_zero, List.set_cons_succ]
  rfl
 refine Rg.o1 6 (.some 13) (fun K hK => ?_)
 refine call_ 44 #[.slice (some ⟨g, 0, none⟩) 2 2, .slice (some ⟨g', 0, none⟩) 2 2] (by rfl) rfl (by go_simp) ?_
 refine (Cn.rpack_ (ws := [8, 2]) (vs := [x1, Cn.can ro]) HC7.out rfl (by decide) HC8.out rfl (Nat.le_of_ble_eq_true rfl) (by decide) (Nat.le_of_ble_eq_true rfl)).mono ?_
 rintro e w9 ⟨A9, c9, rfl, hR9, hb9⟩
 refine ⟨_, rfl, ?_⟩
 have HB9 := az (below_then HBB.out HBB.out.size (below_then hHeld hHeld.size hb9))
 have HR9 := az (Kd.R_lower hR9 (Nat.le_trans HBB.out.size hHeld.size))
 refine hK.out _ _ (below_then hHeld hHeld.size hb9) (fun hHeld => ?_)
 clear hK K
 refine Rg.n1 ?_
 refine Rg.p1 7 (.some 5) ?_
 refine Rg.d1 ?_
 refine NoPanic.normal ?_
 have HLN := az (Cn.packs_len4 [8, 2] [x1, Cn.can ro] (by simp))
 obtain ⟨ls, HLS⟩ : ∃ ls, Aside0 (Wi.packs [8, 2] [x1, Cn.can ro] = ls) := ⟨_, ⟨rfl⟩⟩
 rw [HLS.out] at HR9 HLN ⊢
 have HR0 : Aside0 (Kd.R (Kd.int .u8) 5 w9 W.heap.size (fun _ => True) (.slice A9 ls.length c9) (ls ++ List.replicate 0 0)) := ⟨by rw [List.replicate_zero, List.append_nil]; exact HR9.out⟩
 go_wp2_with fail
 go_loopw [5, 6] (fun vx ix wr => ∃ (j na ca : Nat) (Aa : Option Addr), vx = .slice Aa na ca ∧ ix = .int .i64 (j : Int) ∧ j ≤ 124 ∧ (sh = true → j = 0) ∧ Aside0 (Kd.R (Kd.int .u8) 5 wr W.heap.size (fun _ => True) (.slice Aa na ca) (ls ++ List.replicate j 0)) ∧ Aside0 (Below W.heap.size W wr)) (fun _ ix _ => 124 - (intOf ix).toNat)
 case atStart => exact ⟨0, _, _, _, rfl, rfl, Nat.zero_le _, fun _ => rfl, HR0, HB9⟩
 case round =>
  clear HR0 HR9 HB9
  obtain ⟨j, na, ca, Aa, rfl, rfl, hj, hsh, HR, HB⟩ := hrel
  have hj0 : (j : Int) ≤ 124 := by omega
  cases sh with
  | true =>
   obtain rfl := hsh rfl
   go_wp2_with fail
   go_ret
   refine Cn.made ⟨_, rfl, ?_, HB.out⟩
   unfold Cn.old
   have := HR.out
   rw [if_pos rfl, HLS.out]
   exact this
  | false =>
   clear hsh
   by_cases hlt : (j : Int) < 124
   ·have HLM : Aside0 (((ls ++ List.replicate j 0).length + 1) * 1 ≤ 140737488355328) := ⟨by have := HLN.out; simp; omega⟩
    have HMM : Aside0 ((Kd.int .u8).M wr W.heap.size (fun _ => False) (0 : Int) [.int .u8 0]) := ⟨rfl⟩
    go_wp2_with (at_builtin; refine Kd.R_append (Kd.int .u8) (w0 := W) (W := wr) W.heap.size rfl (.tmp 22) (.tmp 23) 35 5 (.int .u8 0) 1 rfl Tryz.underlying35 Cl.infoByte rfl (by decide) (by omega) (.slice Aa na ca) (ls ++ List.replicate j 0) 0 [.int .u8 0] (fun _ => True) (fun _ => False) rfl rfl HMM.out (fun _ h => h.elim) (fun _ _ => trivial) HR.out HB.out HB.out.size HLM.out ?_; intro v4 w4 hr4 hb4 _ _; obtain ⟨A4, c4, rfl⟩ := Kd.R_slice hr4; have HR4 := az hr4; have HB4 := az hb4; clear hr4 hb4)
    go_roundw
    case rel => exact ⟨j + 1, _, c4, A4, rfl, by go_num, by omega, (fun h => by cases h), ⟨by
     have e := HR4.out
     have el : (ls ++ List.replicate j (0 : Int) ++ [(0 : Int)]).length = ls.length + (j + 1) := by simp [Nat.add_assoc]
     rw [el] at e
     rw [List.replicate_succ', ← List.append_assoc]
     exact e⟩, HB4⟩
    case measure => simp [intOf]; omega
   ·obtain rfl : j = 124 := by omega
    go_wp2_with fail
    go_ret
    refine Cn.made ⟨_, rfl, ?_, HB.out⟩
    unfold Cn.old
    rw [if_neg (by decide), HLS.out]
    exact HR.out
theorem Cn.oldlen_ (x : Cn.Ex) (sh : Bool) : (Cn.old x sh).length ≤ 2000000 := by
  have := Cn.packs_len4 [8, 2] [x.2.1, Cn.can x.2.2] (by simp)
  unfold Cn.old
  rw [List.length_append]
  split
  · simp; omega
  · rw [List.length_replicate]; omega
theorem roptc_.calls {W : World} {ok ex : Nat → Prop} {p tb bs : Nat} {c : Cn.St} {l : List Ps.Tn} (h : Cn.Rn W ok ex p tb c) (hf : ∀ k, W.heap.size ≤ k → ok k) (hb : 0 ≤ c.blk ∧ c.blk ≤ 65535) (hT : Ps.Tr W bs tb l) (hl70 : l.length ≤ 70) (hW : ∀ x ∈ l, Ps.TnWf x) {A : Option Addr} {n cd : Nat} {k : Int} {d : List Int} (hk : 0 ≤ k ∧ k < 4294967296) (hd : Kd.C (Kd.int .u8) W A d.length d) (hn : d.length = n) (hc : n ≤ cd) (hl : n ≤ 5000) (hby : Sh.Bytes d) (hs : c.send.length ≤ 9000000000000) :
  Calls Tryz.prog 66 #[.pointer (some ⟨p, 0, none⟩), .agg #[.int .u32 k, .slice A n cd]] W fun e w' => e = .returned (.tuple #[]) ∧ Cn.Rn w' ok ex p tb (Cn.option l c k d) ∧ Cn.Fr W w' ok := by
 have HC := az h
 have HF := az hf
 have HBK := az hb
 have HT := az hT
 have HL7 := az hl70
 have HW := az hW
 have HKK := az hk
 have HD := az hd
 have HN := az hn
 have HL := az (And.intro hc hl)
 have HBY := az hby
 have HS := az hs
 have HSO := az Cn.sizeOp
 have HS1 := az Cn.size1
 have HS2 := az Pi.size31
 have HSK := az Ps.sizeTk
 have HSE := az Cn.sizeEx
 clear h hf hb hT hW hk hd hn hc hl hby hs hl70
 have HB1 : Aside0 (Below W.heap.size W (W.alloc (.cells #[.int .u32 k, .slice A n cd] 103))) := ⟨below_alloc (Below.refl _ _) _⟩
 have HX1 : Aside0 (Wk.Blk (W.alloc (.cells #[.int .u32 k, .slice A n cd] 103)) W.heap.size 103 [.int .u32 k, .slice A n cd]) := ⟨Wk.Blk.new W _ [.int .u32 k, .slice A n cd]⟩
 have k0 := HX1.out.at_ 0 rfl
 have k1 := HX1.out.at_ 1 rfl
 have hl1 := Wk.run_load_blk (P := Tryz.prog) 103 W.heap.size 0 [.int .u32 k, .slice A n cd] _ HX1.out rfl Tryz.underlying103 rfl HSO.out
 go_enter Tryz.func66, Tryz.ntmps66
 by_cases h2 : k = 2
 ·have e2 : (k == 2) = true := by simpa using h2
  have H2 := az h2
  clear h2
  go_wp2_with (refine Wk.load rfl 103 (.tmp 3) rfl (.agg #[.int .u32 k, .slice A n cd]) (.pointer (some ⟨W.heap.size, 0, none⟩)) rfl hl1 ?_)
  clear k0 k1 hl1
  generalize W.alloc (.cells #[.int .u32 k, .slice A n cd] 103) = w1 at *
  refine (rreply_.calls (HC.out.below HB1.out) (fun j hj => HF.out j (Nat.le_trans HB1.out.size hj)) HKK.out (by decide) (d := []) (Kd.C_nil _ _) rfl (Nat.le_refl _) (by decide) (by have := HS.out; omega)).mono ?_
  rintro e w2 ⟨rfl, hc2, hf2⟩
  have HC2 := az hc2
  have HF2 := az ((Cn.Fr.of_below HB1.out ok).trans hf2)
  clear hc2 hf2
  go_wp2_with fail
  refine (rclose_.calls HC2.out).mono ?_
  rintro e w3 ⟨rfl, hc3, hf3⟩
  have HC3 := az hc3
  have HF3 := az (HF2.out.trans hf3)
  clear hc3 hf3
  go_wp2_with fail
  go_end0
  refine ⟨rfl, ?_, HF3.out⟩
  unfold Cn.option
  rw [if_pos H2.out]
  exact HC3.out
 have e2 : (k == 2) = false := by simpa using h2
 have H2 := az h2
 clear h2
 by_cases h3 : k = 3
 ·have e3 : (k == 3) = true := by simpa using h3
  have H3 := az h3
  clear h3
  by_cases hn0 : 0 < n
  ·have hnI : (0 : Int) < n := by omega
   go_wp2_with (refine Wk.load rfl 103 (.tmp 3) rfl (.agg #[.int .u32 k, .slice A n cd]) (.pointer (some ⟨W.heap.size, 0, none⟩)) rfl hl1 ?_)
   clear k0 k1 hl1
   generalize W.alloc (.cells #[.int .u32 k, .slice A n cd] 103) = w1 at *
   refine (rreply_.calls (HC.out.below HB1.out) (fun j hj => HF.out j (Nat.le_trans HB1.out.size hj)) HKK.out (by decide) (d := []) (Kd.C_nil _ _) rfl (Nat.le_refl _) (by decide) (by have := HS.out; omega)).mono ?_
   rintro e w2 ⟨rfl, hc2, hf2⟩
   have HC2 := az hc2
   have HF2 := az ((Cn.Fr.of_below HB1.out ok).trans hf2)
   clear hc2 hf2
   go_wp2_with fail
   go_end0
   refine ⟨rfl, ?_, HF2.out⟩
   unfold Cn.option
   rw [if_neg H2.out, if_pos H3.out, if_pos (by rw [HN.out]; exact hn0)]
   exact HC2.out
  ·have hnI : ¬ (0 : Int) < n := by omega
   go_wp2_with (refine Wk.load rfl 103 (.tmp 3) rfl (.agg #[.int .u32 k, .slice A n cd]) (.pointer (some ⟨W.heap.size, 0, none⟩)) rfl hl1 ?_)
   clear k0 k1 hl1
   generalize W.alloc (.cells #[.int .u32 k, .slice A n cd] 103) = w1 at *
   refine (rreply_.calls (HC.out.below HB1.out) (fun j hj => HF.out j (Nat.le_trans HB1.out.size hj)) HKK.out (by decide) (d := []) (Kd.C_nil _ _) rfl (Nat.le_refl _) (by decide) (by have := HS.out; omega)).mono ?_
   rintro e w2 ⟨rfl, hc2, hf2⟩
   have HC2 := az hc2
   have HF2 := az ((Cn.Fr.of_below HB1.out ok).trans hf2)
   clear hc2 hf2
   go_wp2_with fail
   go_end0
   refine ⟨rfl, ?_, HF2.out⟩
   unfold Cn.option
   rw [if_neg H2.out, if_pos H3.out, if_neg (by rw [HN.out]; exact hn0)]
   exact HC2.out
 have e3 : (k == 3) = false := by simpa using h3
 have H3 := az h3
 clear h3
 by_cases h6 : k = 6
 ·have e6 : (k == 6) = true := by simpa using h6
  have H6 := az h6
  clear h6
  go_wp2_with (refine Wk.load rfl 103 (.tmp 3) rfl (.agg #[.int .u32 k, .slice A n cd]) (.pointer (some ⟨W.heap.size, 0, none⟩)) rfl hl1 ?_)
  clear k0 k1 hl1
  generalize W.alloc (.cells #[.int .u32 k, .slice A n cd] 103) = w1 at *
  refine (raskedc_.calls (HC.out.below HB1.out) (fun j hj => HF.out j (Nat.le_trans HB1.out.size hj)) HBK.out (HT.out.below HB1.out) HL7.out HW.out HKK.out (Kd.C_below HD.out HB1.out) HN.out HL.out.1 HL.out.2 HBY.out (by have := HS.out; omega)).mono ?_
  rintro e w2 ⟨rfl, hc2, hf2⟩
  have HC2 := az hc2
  have HF2 := az ((Cn.Fr.of_below HB1.out ok).trans hf2)
  clear hc2 hf2
  go_wp2_with fail
  go_end0
  refine ⟨rfl, ?_, HF2.out⟩
  unfold Cn.option
  rw [if_neg H2.out, if_neg H3.out, if_neg (by have := H6.out; omega), if_pos (Or.inl H6.out)]
  exact HC2.out
 have e6 : (k == 6) = false := by simpa using h6
 have H6 := az h6
 clear h6
 by_cases h7 : k = 7
 ·have e7 : (k == 7) = true := by simpa using h7
  have H7 := az h7
  clear h7
  go_wp2_with (refine Wk.load rfl 103 (.tmp 3) rfl (.agg #[.int .u32 k, .slice A n cd]) (.pointer (some ⟨W.heap.size, 0, none⟩)) rfl hl1 ?_)
  clear k0 k1 hl1
  generalize W.alloc (.cells #[.int .u32 k, .slice A n cd] 103) = w1 at *
  refine (raskedc_.calls (HC.out.below HB1.out) (fun j hj => HF.out j (Nat.le_trans HB1.out.size hj)) HBK.out (HT.out.below HB1.out) HL7.out HW.out HKK.out (Kd.C_below HD.out HB1.out) HN.out HL.out.1 HL.out.2 HBY.out (by have := HS.out; omega)).mono ?_
  rintro e w2 ⟨rfl, hc2, hf2⟩
  have HC2 := az hc2
  have HF2 := az ((Cn.Fr.of_below HB1.out ok).trans hf2)
  clear hc2 hf2
  go_wp2_with fail
  go_end0
  refine ⟨rfl, ?_, HF2.out⟩
  unfold Cn.option
  rw [if_neg H2.out, if_neg H3.out, if_neg (by have := H7.out; omega), if_pos (Or.inr H7.out)]
  exact HC2.out
 have e7 : (k == 7) = false := by simpa using h7
 have H7 := az h7
 clear h7
 by_cases h1 : k = 1
 rotate_left
 ·have e1 : (k == 1) = false := by simpa using h1
  have H1 := az h1
  clear h1
  go_wp2_with (refine Wk.load rfl 103 (.tmp 3) rfl (.agg #[.int .u32 k, .slice A n cd]) (.pointer (some ⟨W.heap.size, 0, none⟩)) rfl hl1 ?_)
  clear k0 k1 hl1
  generalize W.alloc (.cells #[.int .u32 k, .slice A n cd] 103) = w1 at *
  refine (rreply_.calls (HC.out.below HB1.out) (fun j hj => HF.out j (Nat.le_trans HB1.out.size hj)) HKK.out (by decide) (d := []) (Kd.C_nil _ _) rfl (Nat.le_refl _) (by decide) (by have := HS.out; omega)).mono ?_
  rintro e w2 ⟨rfl, hc2, hf2⟩
  have HC2 := az hc2
  have HF2 := az ((Cn.Fr.of_below HB1.out ok).trans hf2)
  clear hc2 hf2
  go_wp2_with fail
  go_end0
  refine ⟨rfl, ?_, HF2.out⟩
  unfold Cn.option
  rw [if_neg H2.out, if_neg H3.out, if_neg H1.out, if_neg (fun h => h.elim H6.out H7.out)]
  exact HC2.out
 have e1 : (k == 1) = true := by simpa using h1
 have H1 := az h1
 clear h1
 go_wp2_with (refine Wk.load rfl 103 (.tmp 3) rfl (.agg #[.int .u32 k, .slice A n cd]) (.pointer (some ⟨W.heap.size, 0, none⟩)) rfl hl1 ?_)
 clear k0 k1 hl1
 generalize W.alloc (.cells #[.int .u32 k, .slice A n cd] 103) = w1 at *
 clear e1 e2 e3 e6 e7
 obtain ⟨g3, HG3⟩ : ∃ g, Aside0 (W.heap.size = g) := ⟨_, ⟨rfl⟩⟩
 obtain ⟨pp, vk, vs, vp, hv⟩ := HC.out
 have HV1 := az (hv.below HB1.out)
 clear HC hv
 obtain ⟨ti, se, ro, sz, er, HCK⟩ : ∃ ti se ro sz er, Aside0 (Ps.check l (strOfNums d) = ((ti, se, ro, sz), er)) := ⟨_, _, _, _, _, ⟨rfl⟩⟩
 have HTK : Aside0 (Ps.TkWf (ti, se, ro, sz)) := ⟨by have := Cn.check_wf l (strOfNums d); rw [HCK.out] at this; exact this⟩
 have HCH : Aside0 (∀ w', Below w1.heap.size w1 w' → Calls Tryz.prog 80 #[.pointer (some ⟨tb, 0, none⟩), .string (strOfNums d)] w' fun e w2 => e = .returned (.tuple #[.agg #[.int .u32 ti, .int .u32 se, .bool ro, .int .u64 sz], .int .i64 er]) ∧ Below w'.heap.size w' w2) := ⟨fun w' hb' => by
  have hbw := below_then HB1.out HB1.out.size hb'
  refine (refcheck_.calls tb bs l (strOfNums d) w' (HT.out.below hbw) HL7.out (by rw [Cn.str_size, HN.out]; have := HL.out.2; omega) HW.out).mono ?_
  rintro e w2 ⟨rfl, hb2⟩
  rw [HCK.out]
  exact ⟨rfl, hb2⟩⟩
 rw [HG3.out] at HX1 ⊢
 refine wp_region_noPanic ?_
 refine Rg.s1 14 (fun w' => Below w1.heap.size w1 w') [] (Below.refl _ _).drew #[false, false, false, false, false, false, false, false, false, false, false, false, false, false] (fun hHeld => ?_)
 refine Rg.p1 0 (.some 39) ?_
 refine Rg.p1 1 (.some 40) ?_
 refine Rg.p1 2 (.some 41) ?_
 refine Rg.t1 3 (.some 42) hHeld ?_ (hy := by intro w' hS'; (have c1 := (HV1.out.below hS').blk.at_ 0 rfl; go_simp); first | done | with_reducible rfl)
 refine Rg.p1 4 (.some 43) ?_
 refine Rg.t1 5 (.some 44) hHeld ?_ (hy := by intro w' hS'; (have c1 := (HX1.out.below_ hS').at_ 1 rfl; go_simp); first | done | with_reducible rfl)
 refine Rg.t1 6 (.some 45) hHeld ?_ (hy := by intro w' hS'; (have c1 : (convert 35 9 (.slice A n cd)).run Tryz.prog w' = .ok (.string (strOfNums d)) w' := Kd.C_string Tryz.underlying35 Tryz.underlying5 Tryz.underlying9 (by have := Kd.C_below HD.out (below_then HB1.out HB1.out.size hS'); rw [HN.out] at this; exact this); go_simp); first | done | with_reducible rfl)
 have HWD : Aside0 (w1.heap.size ≤ w1.drew.heap.size) := ⟨Nat.le_refl _⟩
 generalize hwd : w1.drew = wd at *
 clear hwd
 refine join_ (σ := Nat) (fuel' := 2) #[true, true, true, true, true, true, true, true, true, true, true, true, false, false] (fun b4 => [(46, (.tuple #[.agg #[.int .u32 ti, .int .u32 se, .bool ro, .int .u64 sz], .int .i64 er])), (38, (.tuple #[.agg #[.int .u32 ti, .int .u32 se, .bool ro, .int .u64 sz], .int .i64 er])), (47, (.agg #[.int .u32 ti, .int .u32 se, .bool ro, .int .u64 sz])), (48, .int .i64 er), (4, .pointer (some ⟨b4, 0, none⟩))]) (fun b4 w' => Below w1.heap.size w1 w' ∧ w1.heap.size ≤ b4 ∧ Wk.Blk w' b4 122 Ps.zt4) ?_ (fun hJ => ?_)
 rotate_left
 ·refine two_ (i := 7) (j := 11) (Ni := some 46) (Nj := some 4) #[true, true, true, true, true, true, true, true, false, false, false, false, false, false] #[true, true, true, true, true, true, true, false, false, false, false, true, false, false] rfl rfl rfl rfl (by kernel_rfl) (by decide) (by decide) (fun K hK => ?_) (fun K hK => ?_)
  ·refine call_ 80 #[.pointer (some ⟨tb, 0, none⟩), .string (strOfNums d)] (by rfl) rfl (by go_simp) ?_
   refine (HCH.out _ hHeld).mono ?_
   rintro e w7 ⟨rfl, hbn⟩
   refine ⟨_, rfl, ?_⟩
   refine hK.out _ _ (below_then hHeld hHeld.size hbn) (fun hHeld => ?_)
   clear hK K hbn
   refine Rg.n1 ?_
   refine Rg.p1 8 (.some 38) ?_
   refine Rg.p1 9 (.some 47) ?_
   refine Rg.p1 10 (.some 48) ?_
   refine Rg.o1 11 (.some 4) (fun K hK => ?_)
   refine value_ (w1 := w7.alloc (.cells Ps.zt4.toArray 122)) (v := .pointer (some ⟨w7.heap.size, 0, none⟩)) (by rfl) rfl (by first | (go_simp; done) | (go_simp; rfl)) ?_
   refine hK.out _ _ (below_then hHeld hHeld.size (below_alloc (Below.refl _ _) _)) (fun hHeld' => ?_)
   exact hJ w7.heap.size _ ⟨hHeld', hHeld.size, Wk.Blk.new w7 _ Ps.zt4⟩
  ·refine value_ (w1 := wd.alloc (.cells Ps.zt4.toArray 122)) (v := .pointer (some ⟨wd.heap.size, 0, none⟩)) (by rfl) rfl (by first | (go_simp; done) | (go_simp; rfl)) ?_
   have HOE : Aside0 (Wk.Blk (wd.alloc (.cells Ps.zt4.toArray 122)) wd.heap.size 122 Ps.zt4) := ⟨Wk.Blk.new wd _ Ps.zt4⟩
   refine hK.out _ _ (below_then hHeld hHeld.size (below_alloc (Below.refl _ _) _)) (fun hHeld => ?_)
   generalize hwe : World.alloc wd (.cells Ps.zt4.toArray 122) = w11 at *
   clear hK K hwe
   refine Rg.n1 ?_
   refine Rg.o1 7 (.some 46) (fun K hK => ?_)
   refine call_ 80 #[.pointer (some ⟨tb, 0, none⟩), .string (strOfNums d)] (by rfl) rfl (by go_simp) ?_
   refine (HCH.out _ hHeld).mono ?_
   rintro e w7 ⟨rfl, hbn⟩
   refine ⟨_, rfl, ?_⟩
   refine hK.out _ _ (below_then hHeld hHeld.size hbn) (fun hHeld => ?_)
   clear hK K
   refine Rg.n1 ?_
   refine Rg.p1 8 (.some 38) ?_
   refine Rg.p1 9 (.some 47) ?_
   refine Rg.p1 10 (.some 48) ?_
   exact hJ wd.heap.size _ ⟨hHeld, HWD.out, HOE.out.below_ hbn⟩
 rintro b4 w5 ⟨hB5, hge, hX5⟩
 refine norm_ (a' := ?_) ?_ ?_
 rotate_left
 ·show Act.put (Act.put (Act.put (Act.put (Act.put _ (some 46) _) (some 38) _) (some 47) _) (some 48) _) (some 4) _ = _
  simp only [Act.put, List.setIfInBounds_toArray, List.set_cons_zero, List.set_cons_succ]
  rfl
 change Wk.Blk w5 b4 _ _ at hX5
 change w1.heap.size ≤ b4 at hge
 have HX5 := az hX5
 have HB5 := az hB5
 have HGE := az hge
 clear hX5 hB5 hge
 refine Rg.o1 12 none (fun K hK => ?_)
 refine Wk.store_all_step (by rfl) rfl 122 (.tmp 4) (.tmp 47) rfl b4 (Ps.tkc (ti, se, ro, sz)) rfl rfl 122 Ps.zt4 HX5.out HSK.out rfl rfl ?_
 intro w6 hX hO
 have HX6 := az hX
 have HB6 := az (Wk.Only.below HB5.out hO HGE.out)
 clear hX hO
 refine hK.out _ _ HB6.out (fun hHeld => ?_)
 clear hK K
 refine Rg.p1 13 (.some 5) ?_
 refine Rg.d1 ?_
 refine NoPanic.normal ?_
 have HBW := az (below_then HB1.out HB1.out.size HB6.out)
 have HV6 := az (HV1.out.below HB6.out)
 have HX16 := az (HX1.out.below_ HB6.out)
 have c1 := HX16.out.at_ 1 rfl
 clear HV1 HX1 HB1 HX5 HB5 HGE HCH hHeld HWD
 by_cases he : er = 0
 rotate_left
 ·have hneb : (er != 0) = true := by simpa using he
  go_wp2_with fail
  refine (rclose_.calls ⟨pp, vk, vs, vp, HV6.out⟩).mono ?_
  rintro e w7 ⟨rfl, hc7, hf7⟩
  have HC7 := az hc7
  have HF7 := az ((Cn.Fr.of_below HBW.out ok).trans hf7)
  clear hc7 hf7
  go_wp2_with fail
  refine bodyPost_ret (results_none rfl _ _ _) rfl ?_
  refine ⟨rfl, ?_, HF7.out⟩
  unfold Cn.option Cn.oldway
  rw [if_neg H2.out, if_neg H3.out, if_pos H1.out]
  rw [HCK.out, if_pos (Or.inl he)]
  exact HC7.out
 subst he
 by_cases hn : (n : Int) > 255
 ·skip
  go_wp2_with fail
  refine (rclose_.calls ⟨pp, vk, vs, vp, HV6.out⟩).mono ?_
  rintro e w7 ⟨rfl, hc7, hf7⟩
  have HC7 := az hc7
  have HF7 := az ((Cn.Fr.of_below HBW.out ok).trans hf7)
  clear hc7 hf7
  go_wp2_with fail
  refine bodyPost_ret (results_none rfl _ _ _) rfl ?_
  refine ⟨rfl, ?_, HF7.out⟩
  unfold Cn.option Cn.oldway
  rw [if_neg H2.out, if_neg H3.out, if_pos H1.out]
  rw [HCK.out, if_pos (Or.inr (by rw [HN.out]; omega))]
  exact HC7.out
 have HNN : Aside0 (n ≤ 255) := ⟨by omega⟩
 have hrun : (Instr.loadAt 122 (.pointer (some ⟨b4, 0, none⟩))).run Tryz.prog w6 = .ok (.agg #[.int .u32 ti, .int .u32 se, .bool ro, .int .u64 sz]) w6 := Wk.run_load_blk (P := Tryz.prog) 122 b4 0 (Ps.tkc (ti, se, ro, sz)) _ HX6.out rfl Tryz.underlying122 rfl HSK.out
 go_wp2_with (refine Wk.load rfl 122 (.tmp 4) rfl _ (.pointer (some ⟨b4, 0, none⟩)) rfl hrun ?_)
 clear hrun c1
 refine (rserved_.calls ⟨pp, vk, vs, vp, HV6.out⟩ HBK.out (ti, se, ro, sz) HTK.out).mono ?_
 rintro e w7 ⟨rfl, hb7⟩
 obtain ⟨x, HXE⟩ : ∃ x, Aside0 (Cn.served c.blk (ti, se, ro, sz) = x) := ⟨_, ⟨rfl⟩⟩
 rw [HXE.out]
 have HV7 := az (HV6.out.below hb7)
 have HB7 := az (below_then HBW.out HBW.out.size hb7)
 clear hb7 HV6 HB6 HX6 HX16
 go_wp2_with (refine Wk.store rfl rfl 47 (.tmp 64) (.tmp 62) rfl p 6 (.agg (Cn.exc x).toArray) (Cn.exc x) rfl rfl (by simp [Value.cells]) 65 _ HV7.out.blk HSE.out (Nat.le_of_ble_eq_true rfl) rfl ?_; intro w9 hX hO; have HO8 := az hO; have HV9 : Aside0 (Cn.Rv w9 ok ex p tb pp vk vs vp { c with ex := x }) := ⟨HV7.out.turn hO hX rfl rfl rfl⟩; clear hX hO)
 have HFW : Aside0 (Cn.Fr W w9 ok ∧ W.heap.size ≤ w9.heap.size) := ⟨(Cn.Fr.of_below HB7.out ok).trans (Cn.Fr.of_only HO8.out HV7.out.okp), by have := HB7.out.size; have := HO8.out.size; omega⟩
 clear HV7 HO8 HB7
 refine wp_region_noPanic ?_
 refine Rg.s1 18 (fun w' => Below w9.heap.size w9 w') [14, 17] (Below.refl _ _).drew #[false, false, false, false, false, false, false, false, false, false, false, false, false, false, false, false, false, false] (fun hHeld => ?_)
 refine Rg.p1 0 (.some 65) ?_
 refine Rg.p1 1 (.some 66) ?_
 refine Rg.p1 2 (.some 67) ?_
 refine Rg.p1 3 (.some 68) ?_
 refine Rg.t1 4 (.some 69) hHeld ?_ (hy := by intro w' hS'; (have c1 := (HV9.out.below hS').blk.at_ 3 rfl; go_simp); first | done | with_reducible rfl)
 refine Rg.p1 5 (.some 70) ?_
 refine Rg.p1 6 (.some 71) ?_
 refine Rg.p1 7 (.some 72) ?_
 refine Rg.t1 8 (.some 73) hHeld ?_ (hy := by intro w' hS'; (have hl := Wk.run_load_blk (P := Tryz.prog) 47 p 6 (Cn.exc x) _ (HV9.out.below hS').blk rfl Tryz.underlying47 rfl HSE.out; refine (Wk.exec_load 47 (.tmp 72) rfl _ _ rfl hl).trans ?_); first | done | with_reducible rfl)
 refine Rg.p1 9 (.some 74) ?_
 refine Rg.p1 10 (.some 75) ?_
 refine Rg.p1 11 (.some 76) ?_
 refine Rg.t1 12 (.some 77) hHeld ?_ (hy := by intro w' hS'; (have c1 := (HV9.out.below hS').blk.at_ 9 rfl; go_simp); first | done | with_reducible rfl)
 refine Rg.o1 13 (.some 78) (fun K hK => ?_)
 refine call_ 82 #[.agg (Cn.exc x).toArray, .bool c.sh] (by rfl) rfl (by go_simp) ?_
 refine (Cn.rold_ _ x c.sh).mono ?_
 rintro e w10 ⟨A2, c2, rfl, hR2, hb2⟩
 have HR2 := az hR2
 have HB2 := az (below_then hHeld hHeld.size hb2)
 clear hR2 hb2
 refine ⟨_, rfl, ?_⟩
 refine hK.out _ _ HB2.out (fun hHeld => ?_)
 clear hK K
 refine Rg.n1 ?_
 have HV10 := az (HV9.out.below HB2.out)
 have HLR := az (Cn.oldlen_ x c.sh)
 have HFS : Aside0 (∀ j, w10.heap.size ≤ j → ok j ∧ some j ≠ vk.ownBlock) := ⟨HV10.out.freshK (fun j hj => HF.out j (Nat.le_trans HFW.out.2 (Nat.le_trans HB2.out.size hj)))⟩
 refine Rg.l1 14 (.some 79) (fun K hK => ?_)
 refine Kd.R_append_rows_step (Kd.int .u8) (w0 := w10) (W := w10) 0 (by rfl) (.tmp 69) (.tmp 78) 35 5 (.int .u8 0) 1 rfl Tryz.underlying35 Cn.infoByte rfl (by decide) (by omega) vs c.send (Cn.old x c.sh) A2 _ c2 (fun k => ok k ∧ some k ≠ vk.ownBlock) (fun _ => False) rfl rfl HV10.out.send (Kd.R_reads' HR2.out).2.2 (fun _ _ h => h) (fun _ h => h.elim) HFS.out (Below.refl _ _) (Nat.zero_le _) (by have := HS.out; have := HLR.out; omega) ?_
 intro v3 w11 hr3 _ hg3 hat3
 obtain ⟨A3, c3, hv3⟩ := Kd.R_slice hr3
 obtain ⟨L3, HL3⟩ : ∃ L, Aside0 ((c.send ++ Cn.old x c.sh).length = L) := ⟨_, ⟨rfl⟩⟩
 rw [HL3.out] at hv3
 subst hv3
 have HR3 := az hr3
 have HG3' := az hg3
 have HA3 := az (Cn.hat_of hat3)
 have HX3 := az (HV10.out.blk.grown hg3 (Kd.R_ne HV10.out.send HV10.out.blk.out (by decide)))
 clear hr3 hg3 hat3
 refine hK.out _ _ ?_
 clear hK K
 refine Rg.n1 ?_
 refine Rg.p1 15 (.some 80) ?_
 refine Rg.p1 16 (.some 81) ?_
 refine Rg.l1 17 none (fun K hK => ?_)
 refine Wk.store_step (by rfl) rfl 35 (.tmp 81) (.tmp 79) rfl p 3 (.slice A3 L3 c3) [.slice A3 L3 c3] rfl rfl rfl 65 _ HX3.out HS2.out (Nat.le_of_ble_eq_true rfl) rfl ?_
 intro w12 hX hO
 have HO12 := az hO
 have HV12 : Aside0 (Cn.Rv w12 ok ex p tb pp vk (.slice A3 L3 c3) vp { c with ex := x, send := c.send ++ Cn.old x c.sh }) := ⟨HV10.out.sent HR3.out HG3'.out HA3.out hO hX rfl rfl rfl⟩
 clear hX hO
 refine hK.out _ _ ?_
 clear hK K
 refine Rg.d1 ?_
 refine NoPanic.normal ?_
 go_wp2_with (refine Wk.store rfl rfl 5 (.tmp 84) (.const (.int .u8 3)) rfl p 5 (.int .u8 3) [.int .u8 3] rfl rfl rfl 65 _ HV12.out.blk HS1.out (Nat.le_of_ble_eq_true rfl) rfl ?_; intro w13 hX hO; have HO13 := az hO; have HV13 : Aside0 (Cn.Rv w13 ok ex p tb pp vk (.slice A3 L3 c3) vp { c with ex := x, st := 3, send := c.send ++ Cn.old x c.sh }) := ⟨HV12.out.turn hO hX rfl rfl rfl⟩; clear hX hO)
 go_end0
 refine ⟨rfl, ?_, (((HFW.out.1.trans (Cn.Fr.of_below HB2.out ok)).trans (Cn.Fr.of_grown HG3'.out HV10.out.okS)).trans (Cn.Fr.of_only HO12.out HV10.out.okp)).trans (Cn.Fr.of_only HO13.out HV12.out.okp)⟩
 unfold Cn.option Cn.oldway
 rw [if_neg H2.out, if_neg H3.out, if_pos H1.out, HCK.out, if_neg (by rw [HN.out]; have := HNN.out; omega), HXE.out]
 exact ⟨pp, vk, _, vp, HV13.out⟩
end Go.Proofs.YtgljicdpcapgnaaGreatDoor
namespace Go.Proofs.YtgljicdpcapgnaaGreatDoor.Cn
open Go.RowKit Go.Proofs.YtgljicdpcapgnaaGreatDoor Go.Proofs.YtgljicdpcapgnaaGreatDoor.PBase Go.Proofs.YtgljicdpcapgnaaGreatDoorW.PrintWords Go.Proofs.YtgljicdpcapgnaaGreatDoorW.PrintLast Go.Proofs.YtgljicdpcapgnaaGreatDoorW.PrintMore
theorem bytes_drop {l : List Int} (h : Sh.Bytes l) (n : Nat) : Sh.Bytes (l.drop n) := fun x hx => h x (List.mem_of_mem_drop hx)
theorem bytes_take {l : List Int} (h : Sh.Bytes l) (n : Nat) : Sh.Bytes (l.take n) := fun x hx => h x (List.mem_of_mem_take hx)
theorem fl_cases (l : List Int) : (l.length < 4 ∧ Gr.fl l = (false, 0, 70)) ∨ (4 ≤ l.length ∧ ∃ b, Gr.fl l = (b, 4, 0)) ∨ (4 ≤ l.length ∧ Gr.fl l = (false, 0, 72)) := by
  unfold Gr.fl
  by_cases h : l.length < 4
  · rw [if_pos h]; exact .inl ⟨h, rfl⟩
  · rw [if_neg h]
    split
    · exact .inr (.inl ⟨by omega, _, rfl⟩)
    · exact .inr (.inr ⟨by omega, rfl⟩)
theorem nx_cases (l : List Int) (hb : Sh.Bytes l) : Gr.nx l = (0, [], 0, 70) ∨ Gr.nx l = (0, [], 0, 71) ∨ Gr.nx l = (0, [], 0, 73) ∨
    ∃ (k : Int) (m : Nat), m ≤ 1024 ∧ 16 + m ≤ l.length ∧ (0 ≤ k ∧ k < 4294967296) ∧ Gr.nx l = (k, (l.drop 16).take m, 16 + (m : Int), 0) := by
  unfold Gr.nx
  by_cases h : l.length < 16
  · rw [if_pos h]; exact .inl rfl
  · rw [if_neg h]
    by_cases h1 : Wi.num (l.take 8) ≠ 5280542401877725268
    · rw [if_pos h1]; exact .inr (.inl rfl)
    · rw [if_neg h1]
      have b3 := Gr.num_bound (l.drop 12) (bytes_drop hb 12) 4 (by decide)
      have b2 := Gr.num_bound (l.drop 8) (bytes_drop hb 8) 4 (by decide)
      have p4 : (256 : Int) ^ 4 = 4294967296 := by decide
      rw [p4] at b2 b3
      by_cases h2 : Wi.num ((l.drop 12).take 4) > 1024
      · rw [if_pos h2]; exact .inr (.inr (.inl rfl))
      · rw [if_neg h2]
        by_cases h3 : 16 + Wi.num ((l.drop 12).take 4) > l.length
        · rw [if_pos h3]; exact .inl rfl
        · rw [if_neg h3]
          obtain ⟨m, hm⟩ := Int.eq_ofNat_of_zero_le b3.1
          rw [hm] at h2 h3 ⊢
          exact .inr (.inr (.inr ⟨_, m, by omega, by omega, b2, by rw [Int.toNat_natCast]⟩))
theorem rq_cases (l : List Int) (hb : Sh.Bytes l) : Wi.nextOf l = (0, 0, 0, 0, 0, [], 0, 80) ∨ Wi.nextOf l = (0, 0, 0, 0, 0, [], 0, 81) ∨ Wi.nextOf l = (0, 0, 0, 0, 0, [], 0, 82) ∨
    ∃ (m : Nat) (len : Int), m ≤ 65536 ∧ 28 + m ≤ l.length ∧ Wi.nextOf l = (Wi.rq1 l, Wi.rq2 l, Wi.rq3 l, Wi.rq4 l, len, (l.drop 28).take m, 28 + (m : Int), 0) := by
  unfold Wi.nextOf
  by_cases h : l.length < 28
  · rw [if_pos h]; exact .inl rfl
  · rw [if_neg h]
    by_cases h1 : Wi.rq0 l ≠ 627086611
    · rw [if_pos h1]; exact .inr (.inl rfl)
    · rw [if_neg h1]
      by_cases h2 : Wi.rq2 l = 1
      · rw [if_pos h2]
        have b5 : 0 ≤ Wi.rq5 l := (Wi.num_bnd _ (bytes_drop hb 24) 4).1
        by_cases h3 : Wi.rq5 l > 65536
        · rw [if_pos h3]; exact .inr (.inr (.inl rfl))
        · rw [if_neg h3]
          by_cases h4 : 28 + Wi.rq5 l > l.length
          · rw [if_pos h4]; exact .inl rfl
          · rw [if_neg h4]
            obtain ⟨m, hm⟩ := Int.eq_ofNat_of_zero_le b5
            rw [hm] at h3 h4 ⊢
            exact .inr (.inr (.inr ⟨m, _, by omega, by omega, by rw [Int.toNat_natCast]⟩))
      · rw [if_neg h2]
        exact .inr (.inr (.inr ⟨0, Wi.rq5 l, by omega, by omega, by simp⟩))
structure Ok (c : St) : Prop where
  by_ : Sh.Bytes c.kept
  len : c.kept.length ≤ 131072
  rs_ : ∀ r ∈ c.rs, r.2.2.2.2.2.length ≤ 131072
  blk_ : 0 ≤ c.blk ∧ c.blk ≤ 65535
theorem old_len (x : Ex) (sh : Bool) : (old x sh).length ≤ 9000 := by
  have := packs_len4 [8, 2] [x.2.1, can x.2.2] (by simp)
  unfold old
  rw [List.length_append]
  split
  · simp; omega
  · rw [List.length_replicate]; omega
theorem asked_keeps (l : List Ps.Tn) (c : St) (k : Int) (d : List Int) : (asked l c k d).kept = c.kept ∧ (asked l c k d).rs = c.rs ∧ (asked l c k d).blk = c.blk ∧ (asked l c k d).send.length ≤ c.send.length + 40000 := by
  unfold asked
  split
  · exact ⟨rfl, rfl, rfl, by have := say_len c k (refused (Gr.ak d).2.2) []; simp at this; omega⟩
  · split
    · exact ⟨rfl, rfl, rfl, by have := say_len c k (refused (Ps.check l (Gr.ak d).1).2) []; simp at this; omega⟩
    · have hi := info_len (served c.blk (Ps.check l (Gr.ak d).1).1)
      have hbl := blocks_len c.blk
      have h1 := say_len c k 3 (info (served c.blk (Ps.check l (Gr.ak d).1).1))
      have h2 := say_len (say c k 3 (info (served c.blk (Ps.check l (Gr.ak d).1).1))) k 3 (blocks c.blk)
      have h3 := say_len (say (say c k 3 (info (served c.blk (Ps.check l (Gr.ak d).1).1))) k 3 (blocks c.blk)) k 1 []
      have h4 := say_len (say c k 3 (info (served c.blk (Ps.check l (Gr.ak d).1).1))) k 1 []
      simp only [List.length_nil, Nat.add_zero] at h3 h4
      by_cases hw : 3 ∈ (Gr.ak d).2.1
      · simp only [if_pos hw]
        split
        · exact ⟨rfl, rfl, rfl, by show (say _ k 1 []).send.length ≤ _; omega⟩
        · exact ⟨rfl, rfl, rfl, by omega⟩
      · simp only [if_neg hw]
        split
        · exact ⟨rfl, rfl, rfl, by show (say _ k 1 []).send.length ≤ _; omega⟩
        · exact ⟨rfl, rfl, rfl, by omega⟩
theorem option_keeps (l : List Ps.Tn) (c : St) (k : Int) (d : List Int) : (option l c k d).blk = c.blk ∧ (option l c k d).send.length ≤ c.send.length + 40000 ∧ (((option l c k d).kept = c.kept ∧ (option l c k d).rs = c.rs) ∨ ((option l c k d).kept = [] ∧ (option l c k d).rs = [] ∧ (option l c k d).st = 4)) := by
  unfold option
  split
  · exact ⟨rfl, by have := say_len c k 1 []; simp at this; show (say c k 1 []).send.length ≤ _; omega, .inr ⟨rfl, rfl, rfl⟩⟩
  · split
    · exact ⟨rfl, by have := say_len c k (if 0 < d.length then 2147483651 else 1) []; simp only [List.length_nil, Nat.add_zero] at this; omega, .inl ⟨rfl, rfl⟩⟩
    · split
      · unfold oldway
        split
        · exact ⟨rfl, by show c.send.length ≤ _; omega, .inr ⟨rfl, rfl, rfl⟩⟩
        · refine ⟨rfl, ?_, .inl ⟨rfl, rfl⟩⟩
          have := old_len (served c.blk (Ps.check l (strOfNums d)).1) c.sh
          show (c.send ++ old _ c.sh).length ≤ _
          rw [List.length_append]
          omega
      · split
        · obtain ⟨h1, h2, h3, h4⟩ := asked_keeps l c k d
          exact ⟨h3, h4, .inl ⟨h1, h2⟩⟩
        · exact ⟨rfl, by have := say_len c k 2147483649 []; simp only [List.length_nil, Nat.add_zero] at this; omega, .inl ⟨rfl, rfl⟩⟩
theorem step_facts (l : List Ps.Tn) (c : St) (h : Ok c) : (step l c).2.2.blk = c.blk ∧ (step l c).2.2.send.length ≤ c.send.length + 40000 ∧ (∀ r ∈ (step l c).2.2.rs, r.2.2.2.2.2.length ≤ 131072) ∧
    (((step l c).2.2.kept = c.kept ∧ ((step l c).2.1 = 0 → 4 ≤ (step l c).1 ∧ (step l c).1 ≤ c.kept.length)) ∨ ((step l c).2.2.kept = [] ∧ (step l c).2.2.st = 4)) := by
  unfold step
  by_cases h1 : c.st = 1
  · rw [if_pos h1]
    rcases fl_cases c.kept with ⟨_, e⟩ | ⟨hl, b, e⟩ | ⟨_, e⟩
    · rw [e]
      exact ⟨rfl, Nat.le_add_right _ _, h.rs_, .inl ⟨rfl, fun h => by simp at h⟩⟩
    · rw [e]
      exact ⟨rfl, Nat.le_add_right _ _, h.rs_, .inl ⟨rfl, fun _ => ⟨by show (4 : Int) ≤ 4; decide, by show (4 : Int) ≤ _; omega⟩⟩⟩
    · rw [e]
      exact ⟨rfl, Nat.le_add_right _ _, h.rs_, .inl ⟨rfl, fun h => by simp at h⟩⟩
  · rw [if_neg h1]
    by_cases h2 : c.st = 2
    · rw [if_pos h2]
      rcases nx_cases c.kept h.by_ with e | e | e | ⟨k, m, hm, hl, _, e⟩
      · rw [e]
        exact ⟨rfl, Nat.le_add_right _ _, h.rs_, .inl ⟨rfl, fun h => by simp at h⟩⟩
      · rw [e]
        exact ⟨rfl, Nat.le_add_right _ _, h.rs_, .inl ⟨rfl, fun h => by simp at h⟩⟩
      · rw [e]
        exact ⟨rfl, Nat.le_add_right _ _, h.rs_, .inl ⟨rfl, fun h => by simp at h⟩⟩
      · rw [e]
        simp only [if_true]
        obtain ⟨o1, o2, o3⟩ := option_keeps l c k ((c.kept.drop 16).take m)
        refine ⟨o1, o2, ?_, ?_⟩
        · rcases o3 with ⟨_, o4⟩ | ⟨_, o4, _⟩
          · rw [o4]; exact h.rs_
          · rw [o4]; intro r hr; cases hr
        · rcases o3 with ⟨o4, _⟩ | ⟨o4, _, o5⟩
          · exact .inl ⟨o4, fun _ => ⟨by omega, by omega⟩⟩
          · exact .inr ⟨o4, o5⟩
    · rw [if_neg h2]
      by_cases h3 : c.st = 3
      · rw [if_pos h3]
        unfold request
        by_cases h16 : c.rs.length = 16
        · rw [if_pos h16]
          exact ⟨rfl, Nat.le_add_right _ _, h.rs_, .inl ⟨rfl, fun h => by simp at h⟩⟩
        · rw [if_neg h16]
          rcases rq_cases c.kept h.by_ with e | e | e | ⟨m, len, hm, hl, e⟩
          · rw [e]
            exact ⟨rfl, Nat.le_add_right _ _, h.rs_, .inl ⟨rfl, fun h => by simp at h⟩⟩
          · rw [e]
            exact ⟨rfl, Nat.le_add_right _ _, h.rs_, .inl ⟨rfl, fun h => by simp at h⟩⟩
          · rw [e]
            exact ⟨rfl, Nat.le_add_right _ _, h.rs_, .inl ⟨rfl, fun h => by simp at h⟩⟩
          · rw [e]
            simp only [ne_eq, not_true_eq_false, if_false]
            by_cases hk : Wi.rq2 c.kept = 2
            · rw [if_pos hk]
              exact ⟨rfl, Nat.le_add_right _ _, (by intro r hr; cases hr), .inr ⟨rfl, rfl⟩⟩
            · rw [if_neg hk]
              refine ⟨rfl, Nat.le_add_right _ _, ?_, .inl ⟨rfl, fun _ => ⟨by show (4 : Int) ≤ 28 + _; omega, by show 28 + (m : Int) ≤ _; omega⟩⟩⟩
              intro r hr
              rcases List.mem_append.1 hr with hr | hr
              · exact h.rs_ r hr
              · rw [List.mem_singleton.1 hr]
                show ((c.kept.drop 28).take m).length ≤ _
                rw [List.length_take]
                omega
      · rw [if_neg h3]
        exact ⟨rfl, Nat.le_add_right _ _, h.rs_, .inl ⟨rfl, fun h => by simp at h⟩⟩
def nextSt (l : List Ps.Tn) (c : St) : St := { (step l c).2.2 with kept := (step l c).2.2.kept.drop (step l c).1.toNat }
theorem next_ok (l : List Ps.Tn) (c : St) (h : Ok c) (he : (step l c).2.1 = 0) (h4 : (step l c).2.2.st ≠ 4) : Ok (nextSt l c) ∧ (nextSt l c).kept.length + 4 ≤ c.kept.length ∧ (nextSt l c).send.length ≤ c.send.length + 40000 ∧ 0 ≤ (step l c).1 ∧ (step l c).1 ≤ (step l c).2.2.kept.length := by
  obtain ⟨f1, f2, f3, f4⟩ := step_facts l c h
  rcases f4 with ⟨f4, f5⟩ | ⟨_, f5⟩
  · obtain ⟨g1, g2⟩ := f5 he
    have hk : (nextSt l c).kept = c.kept.drop (step l c).1.toNat := by unfold nextSt; rw [f4]
    refine ⟨⟨by rw [hk]; exact bytes_drop h.by_ _, by rw [hk, List.length_drop]; have := h.len; omega, f3, by have : (nextSt l c).blk = c.blk := f1; rw [this]; exact h.blk_⟩, by rw [hk, List.length_drop]; omega, f2, by omega, by rw [f4]; exact g2⟩
  · exact absurd f5 h4
theorem rd_fuel (l : List Ps.Tn) : ∀ (F G : Nat) (c : St), Ok c → c.kept.length < F → c.kept.length < G → rd l F c = rd l G c
  | 0, _, _, _, h, _ => absurd h (Nat.not_lt_zero _)
  | _ + 1, 0, _, _, _, h => absurd h (Nat.not_lt_zero _)
  | F + 1, G + 1, c, hc, hF, hG => by
    rw [rd, rd]
    split
    · rfl
    · split
      · rename_i he
        split
        · rfl
        · rename_i h4
          obtain ⟨h1, h2, _⟩ := next_ok l c hc he h4
          exact rd_fuel l F G (nextSt l c) h1 (by omega) (by omega)
      · rfl
theorem read_step (l : List Ps.Tn) (c : St) (h : Ok c) : read l c = if (step l c).2.1 = 70 ∨ (step l c).2.1 = 80 then (step l c).2.2 else if (step l c).2.1 = 0 then (if (step l c).2.2.st = 4 then (step l c).2.2 else read l (nextSt l c)) else close (step l c).2.2 := by
  unfold read
  rw [rd]
  split
  · rfl
  · split
    · rename_i he
      split
      · rfl
      · rename_i h4
        obtain ⟨h1, h2, _⟩ := next_ok l c h he h4
        exact rd_fuel l _ _ (nextSt l c) h1 (by omega) (Nat.lt_succ_self _)
    · rfl
def cutk (c : St) (n : Int) : St := { c with kept := c.kept.drop n.toNat }
def rstep (l : List Ps.Tn) (c : St) : Bool × St :=
  if c.st = 1 then
    if (Gr.fl c.kept).2.2 = 70 then (false, c) else if (Gr.fl c.kept).2.2 ≠ 0 then (false, close c)
    else (true, { cutk c (Gr.fl c.kept).2.1 with sh := (Gr.fl c.kept).1, st := 2 })
  else if c.st = 2 then
    if (Gr.nx c.kept).2.2.2 = 70 then (false, c) else if (Gr.nx c.kept).2.2.2 ≠ 0 then (false, close c)
    else (true, option l (cutk c (Gr.nx c.kept).2.2.1) (Gr.nx c.kept).1 (Gr.nx c.kept).2.1)
  else if c.st = 3 then
    if c.rs.length = 16 then (false, c)
    else match Wi.nextOf c.kept with
      | (f, k, ck, off, len, data, n, e) => if e = 80 then (false, c) else if e ≠ 0 ∨ k = 2 then (false, close c) else (true, { cutk c n with rs := c.rs ++ [(f, k, ck, off, len, data)] })
  else (false, c)
theorem no4 {c : Prop} [Decidable c] {A B X : St} (h : ¬ c) (e : X = B) : X = if c then A else B := by rw [if_neg h]; exact e
theorem option_cut (l : List Ps.Tn) (c : St) (n : Int) (k : Int) (d : List Int) (h2 : c.st = 2) : option l (cutk c n) k d = if (option l c k d).st = 4 then option l c k d else cutk (option l c k d) n := by
  have hs : c.st ≠ 4 := by rw [h2]; decide
  unfold option
  by_cases e2 : k = 2
  · rw [if_pos e2, if_pos e2, if_pos (show (close (say c k 1 [])).st = 4 from rfl)]; rfl
  rw [if_neg e2, if_neg e2]
  by_cases e3 : k = 3
  · rw [if_pos e3, if_pos e3, if_neg (show ¬ (say c k (if 0 < d.length then 2147483651 else 1) []).st = 4 from hs)]; rfl
  rw [if_neg e3, if_neg e3]
  by_cases e1 : k = 1
  · rw [if_pos e1, if_pos e1]
    unfold oldway
    by_cases hc : (Ps.check l (strOfNums d)).2 ≠ 0 ∨ 255 < d.length
    · rw [if_pos hc, if_pos hc, if_pos (show (close c).st = 4 from rfl)]; rfl
    · rw [if_neg hc, if_neg hc]; exact no4 (show ¬ (3 : Int) = 4 by decide) rfl
  rw [if_neg e1, if_neg e1]
  by_cases e6 : k = 6 ∨ k = 7
  · rw [if_pos e6, if_pos e6]
    unfold asked
    by_cases a1 : (Gr.ak d).2.2 ≠ 0
    · rw [if_pos a1, if_pos a1, if_neg (show ¬ (say c k (refused (Gr.ak d).2.2) []).st = 4 from hs)]; rfl
    rw [if_neg a1, if_neg a1]
    by_cases a2 : (Ps.check l (Gr.ak d).1).2 ≠ 0
    · rw [if_pos a2, if_pos a2, if_neg (show ¬ (say c k (refused (Ps.check l (Gr.ak d).1).2) []).st = 4 from hs)]; rfl
    rw [if_neg a2, if_neg a2]
    by_cases a3 : 3 ∈ (Gr.ak d).2.1
    · simp only [if_pos a3]
      by_cases a7 : k = 7
      · simp only [if_pos a7]; exact no4 (show ¬ (3 : Int) = 4 by decide) rfl
      · simp only [if_neg a7]; exact no4 hs rfl
    · simp only [if_neg a3]
      by_cases a7 : k = 7
      · simp only [if_pos a7]; exact no4 (show ¬ (3 : Int) = 4 by decide) rfl
      · simp only [if_neg a7]; exact no4 hs rfl
  · rw [if_neg e6, if_neg e6, if_neg (show ¬ (say c k 2147483649 []).st = 4 from hs)]; rfl
theorem rstep_is (l : List Ps.Tn) (c : St) (h : Ok c) : ((rstep l c).1 = false ∧ (rstep l c).2 = read l c) ∨ ((rstep l c).1 = true ∧ (rstep l c).2.st = 4 ∧ (rstep l c).2 = read l c ∧ (rstep l c).2.kept = [] ∧ (rstep l c).2.send.length ≤ c.send.length + 40000 ∧ 0 < c.kept.length) ∨ ((rstep l c).1 = true ∧ (step l c).2.1 = 0 ∧ (step l c).2.2.st ≠ 4 ∧ (rstep l c).2 = nextSt l c) := by
  have hr := read_step l c h
  unfold rstep
  by_cases h1 : c.st = 1
  · rw [if_pos h1]
    have hs : step l c = ((Gr.fl c.kept).2.1, (Gr.fl c.kept).2.2, if (Gr.fl c.kept).2.2 = 0 then { c with sh := (Gr.fl c.kept).1, st := 2 } else c) := by unfold step; rw [if_pos h1]
    rcases fl_cases c.kept with ⟨_, e⟩ | ⟨hl, b, e⟩ | ⟨_, e⟩
    · rw [e] at hs ⊢
      rw [hs] at hr
      exact .inl ⟨by first | rfl | simp, hr.symm⟩
    · rw [e] at hs ⊢
      refine .inr (.inr ⟨rfl, by rw [hs], by rw [hs]; exact (show ¬ (2 : Int) = 4 by decide), by unfold nextSt; rw [hs]; rfl⟩)
    · rw [e] at hs ⊢
      rw [hs] at hr
      exact .inl ⟨by first | rfl | simp, hr.symm⟩
  rw [if_neg h1]
  by_cases h2 : c.st = 2
  · rw [if_pos h2]
    have hs : step l c = ((Gr.nx c.kept).2.2.1, (Gr.nx c.kept).2.2.2, if (Gr.nx c.kept).2.2.2 = 0 then option l c (Gr.nx c.kept).1 (Gr.nx c.kept).2.1 else c) := by unfold step; rw [if_neg h1, if_pos h2]
    rcases nx_cases c.kept h.by_ with e | e | e | ⟨k, m, hm, hl, hk, e⟩
    · rw [e] at hs ⊢
      rw [hs] at hr
      exact .inl ⟨by first | rfl | simp, hr.symm⟩
    · rw [e] at hs ⊢
      rw [hs] at hr
      exact .inl ⟨by first | rfl | simp, hr.symm⟩
    · rw [e] at hs ⊢
      rw [hs] at hr
      exact .inl ⟨by first | rfl | simp, hr.symm⟩
    · rw [e] at hs ⊢
      simp only [if_true] at hs
      have hoc := option_cut l c (16 + (m : Int)) k ((c.kept.drop 16).take m) h2
      obtain ⟨_, hks, hk⟩ := option_keeps l c k ((c.kept.drop 16).take m)
      simp only [ne_eq, not_true_eq_false, if_false, show ¬ ((0 : Int) = 70) by decide]
      by_cases h4 : (option l c k ((c.kept.drop 16).take m)).st = 4
      · rw [if_pos h4] at hoc
        rw [hs] at hr
        simp only [if_pos h4, show ¬ ((0 : Int) = 70 ∨ (0 : Int) = 80) by decide, if_false, if_true] at hr
        refine .inr (.inl ⟨by first | rfl | trivial, by rw [hoc]; exact h4, by rw [hoc, hr], ?_, by rw [hoc]; exact hks, by omega⟩)
        rw [hoc]
        rcases hk with ⟨e5, _⟩ | ⟨e5, _⟩
        · exfalso
          have := congrArg St.kept hoc
          rw [e5] at this
          rcases option_keeps l (cutk c (16 + (m : Int))) k ((c.kept.drop 16).take m) with ⟨_, _, ⟨q, _⟩ | ⟨q, _, _⟩⟩
          · rw [q] at this
            have h9 := congrArg List.length this
            simp only [cutk, List.length_drop] at h9
            omega
          · rw [q] at this
            have h9 := congrArg List.length this
            simp only [List.length_nil] at h9
            omega
        · exact e5
      · rw [if_neg h4] at hoc
        exact .inr (.inr ⟨by first | rfl | trivial, by rw [hs], by rw [hs]; exact h4, by rw [hoc]; unfold nextSt; rw [hs]; rfl⟩)
  rw [if_neg h2]
  by_cases h3 : c.st = 3
  · rw [if_pos h3]
    have hs : step l c = request c := by unfold step; rw [if_neg h1, if_neg h2, if_pos h3]
    unfold request at hs
    by_cases h16 : c.rs.length = 16
    · rw [if_pos h16] at hs ⊢
      rw [hs] at hr
      exact .inl ⟨by first | rfl | simp, hr.symm⟩
    rw [if_neg h16] at hs ⊢
    rcases rq_cases c.kept h.by_ with e | e | e | ⟨m, len, hm, hl, e⟩
    · rw [e] at hs ⊢
      simp only [ne_eq] at hs
      rw [hs] at hr
      exact .inl ⟨by first | rfl | simp, hr.symm⟩
    · rw [e] at hs ⊢
      simp only [ne_eq] at hs
      rw [hs] at hr
      exact .inl ⟨by first | rfl | simp, hr.symm⟩
    · rw [e] at hs ⊢
      simp only [ne_eq] at hs
      rw [hs] at hr
      exact .inl ⟨by first | rfl | simp, hr.symm⟩
    · rw [e] at hs ⊢
      simp only [ne_eq, not_true_eq_false, if_false, false_or, show ¬ ((0 : Int) = 80) by decide] at hs ⊢
      by_cases hk : Wi.rq2 c.kept = 2
      · rw [if_pos hk] at hs ⊢
        rw [hs] at hr
        simp only [show ¬ ((0 : Int) = 70 ∨ (0 : Int) = 80) by decide, if_false, if_true] at hr
        exact .inl ⟨by first | rfl | simp, hr.symm⟩
      · rw [if_neg hk] at hs ⊢
        exact .inr (.inr ⟨by first | rfl | trivial, by rw [hs], by rw [hs]; show ¬ c.st = 4; omega, by unfold nextSt; rw [hs]; rfl⟩)
  · rw [if_neg h3]
    have hs : step l c = (0, 80, c) := by unfold step; rw [if_neg h1, if_neg h2, if_neg h3]
    rw [hs] at hr
    exact .inl ⟨by first | rfl | simp, hr.symm⟩
theorem read_closed (l : List Ps.Tn) (c : St) (h : c.st = 4) : read l c = c := by
  have hs : step l c = (0, 80, c) := by unfold step; rw [if_neg (by omega), if_neg (by omega), if_neg (by omega)]
  unfold read
  rw [rd, hs]
  rfl
theorem rstep_no (l : List Ps.Tn) (c : St) (h : Ok c) (hf : (rstep l c).1 = false) : (rstep l c).2 = read l c := by
  rcases rstep_is l c h with ⟨_, e⟩ | ⟨e, _⟩ | ⟨e, _⟩
  · exact e
  · rw [e] at hf; cases hf
  · rw [e] at hf; cases hf
theorem rstep_go (l : List Ps.Tn) (c : St) (h : Ok c) (ht : (rstep l c).1 = true) (hr : Ok (read l c)) : Ok (rstep l c).2 ∧ (rstep l c).2.kept.length < c.kept.length ∧ (rstep l c).2.send.length ≤ c.send.length + 40000 ∧ read l (rstep l c).2 = read l c := by
  rcases rstep_is l c h with ⟨e, _⟩ | ⟨_, h4, e, ek, es, hp⟩ | ⟨_, he, h4, e⟩
  · rw [e] at ht; cases ht
  · exact ⟨e ▸ hr, by rw [ek]; exact hp, es, by rw [read_closed l _ h4, e]⟩
  · obtain ⟨g1, g2, g3, _⟩ := next_ok l c h he h4
    rw [e]
    refine ⟨g1, by omega, g3, ?_⟩
    rw [read_step l c h, if_neg (by rw [he]; decide), if_pos he, if_neg h4]
end Go.Proofs.YtgljicdpcapgnaaGreatDoor.Cn
namespace Go.Proofs.YtgljicdpcapgnaaGreatDoor
open Go.RowKit Go.Proofs.YtgljicdpcapgnaaGreatDoor.PBase Go.Proofs.YtgljicdpcapgnaaGreatDoorW.PrintWords Go.Proofs.YtgljicdpcapgnaaGreatDoorW.PrintLast Go.Proofs.YtgljicdpcapgnaaGreatDoorW.PrintMore
namespace Cn
theorem rreqnext_ {A : Option Addr} {n c : Nat} {l : List Int} {W : World} {f k ck off len m e : Int} {d : List Int} (h : Kd.C (Kd.int .u8) W A l.length l) (hn : l.length = n) (hc : n ≤ c) (hl : n ≤ 1000000) (hb : Sh.Bytes l) (hf : Wi.nextOf l = (f, k, ck, off, len, d, m, e)) :
    Calls Tryz.prog 68 #[.slice A n c] W fun e' w' => ∃ A' c', e' = .returned (.tuple #[.agg #[.int .u16 f, .int .u16 k, .int .u64 ck, .int .u64 off, .int .u32 len, .slice A' d.length c'], .int .i64 m, .int .i64 e]) ∧ Kd.R (Kd.int .u8) 5 w' W.heap.size (fun _ => True) (.slice A' d.length c') d ∧ Below W.heap.size W w' := by
  subst hn
  refine (coamingref08_Next.calls A c l f k ck off len d m e W h hc (by rw [Wi.rnext_is l hl hb, hf])).mono ?_
  rintro e' w' ⟨v, rfl, hR, hB⟩
  obtain ⟨A', c', rfl⟩ := Kd.R_slice hR
  exact ⟨A', c', rfl, hR, hB⟩
theorem sizeB' : (Tryz.prog.info? 4).map (·.size) = some 1 := by kernel_rfl
end Cn
theorem rstepc_.calls {W : World} {ok ex : Nat → Prop} {p tb bs : Nat} {c : Cn.St} {l : List Ps.Tn} (h : Cn.Rn W ok ex p tb c) (hf : ∀ k, W.heap.size ≤ k → ok k) (hc : Cn.Ok c) (hT : Ps.Tr W bs tb l) (hTb : ∀ w', Cn.Fr W w' ok → Ps.Tr w' bs tb l) (hl70 : l.length ≤ 70) (hW : ∀ x ∈ l, Ps.TnWf x) (hs : c.send.length ≤ 9000000000000) :
  Calls Tryz.prog 58 #[.pointer (some ⟨p, 0, none⟩)] W fun e w' => e = .returned (.bool (Cn.rstep l c).1) ∧ Cn.Rn w' ok ex p tb (Cn.rstep l c).2 ∧ Cn.Fr W w' ok := by
 have HCN := az h
 obtain ⟨pp, vk, vs, vp, hv⟩ := h
 obtain ⟨A, cp, rfl⟩ := Kd.R_slice hv.kept
 obtain ⟨n, HN⟩ : ∃ n, Aside0 (c.kept.length = n) := ⟨_, ⟨rfl⟩⟩
 have k3 := hv.blk.at_ 2 rfl
 have k5 := hv.blk.at_ 5 rfl
 rw [HN.out] at k3
 have HV := az hv
 have HF := az hf
 have HO := az hc
 have HT := az hTb
 have HL7 := az hl70
 have HW := az hW
 have HS := az hs
 have HS1 := az Cn.size1
 have HSB := az Cn.sizeB'
 have HSO := az Cn.sizeOp
 have HSR := az Pi.size33
 have HLN : Aside0 (n ≤ 1000000 ∧ n ≤ cp) := ⟨by have := hc.len; have := HN.out; omega, by rw [← HN.out]; exact (Kd.R_reads' hv.kept).2.1⟩
 clear hv hf hc hT hW hs hTb hl70
 go_enter Tryz.func58, Tryz.ntmps58
 by_cases h1 : c.st = 1
 ·have e1 : (c.st == 1) = true := by simpa using h1
  have H1 := az h1
  clear h1
  have HST' : Aside0 (Cn.rstep l c = if (Gr.fl c.kept).2.2 = 70 then (false, c) else if (Gr.fl c.kept).2.2 ≠ 0 then (false, Cn.close c) else (true, { Cn.cutk c (Gr.fl c.kept).2.1 with sh := (Gr.fl c.kept).1, st := 2 })) := ⟨by unfold Cn.rstep; rw [if_pos H1.out]⟩
  go_wp2_with fail
  clear k3 k5 e1
  rcases Cn.fl_cases c.kept with ⟨-, e⟩ | ⟨hl, s, e⟩ | ⟨-, e⟩
  ·have HST : Aside0 (Cn.rstep l c = (false, c)) := ⟨by rw [HST'.out, e]; rfl⟩
   refine (Cn.rflags_ (Kd.R_reads' HV.out.kept).2.2 HN.out HLN.out.2 HLN.out.1 HO.out.by_ e).mono ?_
   rintro e' w2 ⟨rfl, hb2⟩
   have HC2 := az (HCN.out.below hb2)
   have HB2 := az hb2
   clear hb2 e HST'
   go_wp2_with fail
   go_ret
   rw [HST.out]
   exact ⟨rfl, HC2.out, (Cn.Fr.of_below HB2.out ok)⟩
  ·have HST : Aside0 (Cn.rstep l c = (true, { { { c with kept := c.kept.drop 4 } with sh := s } with st := 2 })) := ⟨by rw [HST'.out, e]; rfl⟩
   refine (Cn.rflags_ (Kd.R_reads' HV.out.kept).2.2 HN.out HLN.out.2 HLN.out.1 HO.out.by_ e).mono ?_
   rintro e' w2 ⟨rfl, hb2⟩
   have HC2 := az (HCN.out.below hb2)
   have HB2 := az hb2
   have HL4 := az hl
   clear hb2 e HST' hl
   go_wp2_with fail
   refine (rcut_.calls HC2.out (fun j hj => HF.out j (Nat.le_trans HB2.out.size hj)) 4 HL4.out (by have := HLN.out.1; rw [HN.out]; exact this)).mono ?_
   rintro e' w3 ⟨rfl, hc3, hf3⟩
   obtain ⟨pp, vk, vs, vp, hv⟩ := hc3
   have HV3 := az hv
   have HF3 := az ((Cn.Fr.of_below HB2.out ok).trans hf3)
   clear hv hf3
   go_wp2_with (first
    | (refine Wk.store rfl rfl 4 (.tmp 40) (.tmp 38) rfl p 9 (.bool s) [.bool s] rfl rfl rfl 65 _ HV3.out.blk HSB.out (Nat.le_of_ble_eq_true rfl) rfl ?_; intro w4 hX hO; have HO4 := az hO; have HV4 : Aside0 (Cn.Rv w4 ok ex p tb pp vk vs vp { { c with kept := c.kept.drop 4 } with sh := s }) := ⟨HV3.out.turn hO hX rfl rfl rfl⟩; clear hX hO)
    | (refine Wk.store rfl rfl 5 (.tmp 43) (.const (.int .u8 2)) rfl p 5 (.int .u8 2) [.int .u8 2] rfl rfl rfl 65 _ HV4.out.blk HS1.out (Nat.le_of_ble_eq_true rfl) rfl ?_; intro w5 hX hO; have HO5 := az hO; have HV5 : Aside0 (Cn.Rv w5 ok ex p tb pp vk vs vp { { { c with kept := c.kept.drop 4 } with sh := s } with st := 2 }) := ⟨HV4.out.turn hO hX rfl rfl rfl⟩; clear hX hO))
   go_ret
   rw [HST.out]
   exact ⟨rfl, ⟨pp, vk, vs, vp, HV5.out⟩, (HF3.out.trans (Cn.Fr.of_only HO4.out HV3.out.okp)).trans (Cn.Fr.of_only HO5.out HV4.out.okp)⟩
  ·have HST : Aside0 (Cn.rstep l c = (false, Cn.close c)) := ⟨by rw [HST'.out, e]; rfl⟩
   refine (Cn.rflags_ (Kd.R_reads' HV.out.kept).2.2 HN.out HLN.out.2 HLN.out.1 HO.out.by_ e).mono ?_
   rintro e' w2 ⟨rfl, hb2⟩
   have HC2 := az (HCN.out.below hb2)
   have HB2 := az hb2
   clear hb2 e HST'
   go_wp2_with fail
   refine (rclose_.calls HC2.out).mono ?_
   rintro e' w7 ⟨rfl, hc7, hf7⟩
   have HC7 := az hc7
   have HF7 := az ((Cn.Fr.of_below HB2.out ok).trans hf7)
   clear hc7 hf7
   go_wp2_with fail
   go_ret
   rw [HST.out]
   exact ⟨rfl, HC7.out, HF7.out⟩
 have e1 : (c.st == 1) = false := by simpa using h1
 have H1 := az h1
 clear h1
 by_cases h2 : c.st = 2
 ·have e2 : (c.st == 2) = true := by simpa using h2
  have H2 := az h2
  clear h2
  have HST' : Aside0 (Cn.rstep l c = if (Gr.nx c.kept).2.2.2 = 70 then (false, c) else if (Gr.nx c.kept).2.2.2 ≠ 0 then (false, Cn.close c) else (true, Cn.option l (Cn.cutk c (Gr.nx c.kept).2.2.1) (Gr.nx c.kept).1 (Gr.nx c.kept).2.1)) := ⟨by unfold Cn.rstep; rw [if_neg H1.out, if_pos H2.out]⟩
  go_wp2_with fail
  clear k3 k5 e1 e2
  obtain ⟨k, d, m, er, HNX⟩ : ∃ k d m er, Aside0 (Gr.nx c.kept = (k, d, m, er)) := ⟨_, _, _, _, ⟨rfl⟩⟩
  refine (Cn.rnext_ (Kd.R_reads' HV.out.kept).2.2 HN.out HLN.out.2 HLN.out.1 HO.out.by_ HNX.out).mono ?_
  rintro e' w2 ⟨A2, c2, rfl, hR2, hb2⟩
  obtain ⟨nd, HND⟩ : ∃ n, Aside0 (d.length = n) := ⟨_, ⟨rfl⟩⟩
  rw [HND.out] at hR2 ⊢
  rw [HNX.out] at HST'
  have HR2 := az hR2
  have HB2 := az hb2
  have HB3 := az (below_then HB2.out HB2.out.size (below_alloc (Below.refl w2.heap.size w2) (.cells (Cn.oc 0 (.slice none 0 0)).toArray 103)))
  have HX3 : Aside0 (Wk.Blk (w2.alloc (.cells (Cn.oc 0 (.slice none 0 0)).toArray 103)) w2.heap.size 103 (Cn.oc 0 (.slice none 0 0))) := ⟨Wk.Blk.new w2 _ _⟩
  have HR3 := az (Kd.R_below hR2 (below_alloc (Below.refl w2.heap.size w2) (.cells (Cn.oc 0 (.slice none 0 0)).toArray 103)))
  clear hR2 hb2 HR2
  rcases Cn.nx_cases c.kept HO.out.by_ with e | e | e | ⟨k', m', hm, hl, hk, e⟩
  ·rw [HNX.out] at e
   obtain ⟨rfl, rfl, rfl, rfl⟩ : k = 0 ∧ d = [] ∧ m = 0 ∧ er = 70 := by simpa using e
   have HST : Aside0 (Cn.rstep l c = (false, c)) := ⟨HST'.out⟩
   clear e HST'
   go_wp2_with (
    (refine Wk.store_all rfl rfl 103 (.tmp 6) (.tmp 52) rfl w2.heap.size (Cn.oc 0 (.slice A2 nd c2)) rfl rfl 103 _ HX3.out HSO.out rfl rfl ?_; intro w4 hX hO; have HX4 := az hX; have HO4 := az hO; have HB4 := az (Wk.Only.below HB3.out hO HB2.out.size); clear hX hO)
    )
   go_ret
   rw [HST.out]
   exact ⟨rfl, HCN.out.below HB4.out, Cn.Fr.of_below HB4.out ok⟩
  ·rw [HNX.out] at e
   obtain ⟨rfl, rfl, rfl, rfl⟩ : k = 0 ∧ d = [] ∧ m = 0 ∧ er = 71 := by simpa using e
   have HST : Aside0 (Cn.rstep l c = (false, Cn.close c)) := ⟨HST'.out⟩
   clear e HST'
   go_wp2_with (
    (refine Wk.store_all rfl rfl 103 (.tmp 6) (.tmp 52) rfl w2.heap.size (Cn.oc 0 (.slice A2 nd c2)) rfl rfl 103 _ HX3.out HSO.out rfl rfl ?_; intro w4 hX hO; have HX4 := az hX; have HO4 := az hO; have HB4 := az (Wk.Only.below HB3.out hO HB2.out.size); clear hX hO)
    )
   go_wp2_with fail
   refine (rclose_.calls (HCN.out.below HB4.out)).mono ?_
   rintro e' w7 ⟨rfl, hc7, hf7⟩
   have HC7 := az hc7
   have HF7 := az ((Cn.Fr.of_below HB4.out ok).trans hf7)
   clear hc7 hf7
   go_wp2_with fail
   go_ret
   rw [HST.out]
   exact ⟨rfl, HC7.out, HF7.out⟩
  ·rw [HNX.out] at e
   obtain ⟨rfl, rfl, rfl, rfl⟩ : k = 0 ∧ d = [] ∧ m = 0 ∧ er = 73 := by simpa using e
   have HST : Aside0 (Cn.rstep l c = (false, Cn.close c)) := ⟨HST'.out⟩
   clear e HST'
   go_wp2_with (
    (refine Wk.store_all rfl rfl 103 (.tmp 6) (.tmp 52) rfl w2.heap.size (Cn.oc 0 (.slice A2 nd c2)) rfl rfl 103 _ HX3.out HSO.out rfl rfl ?_; intro w4 hX hO; have HX4 := az hX; have HO4 := az hO; have HB4 := az (Wk.Only.below HB3.out hO HB2.out.size); clear hX hO)
    )
   go_wp2_with fail
   refine (rclose_.calls (HCN.out.below HB4.out)).mono ?_
   rintro e' w7 ⟨rfl, hc7, hf7⟩
   have HC7 := az hc7
   have HF7 := az ((Cn.Fr.of_below HB4.out ok).trans hf7)
   clear hc7 hf7
   go_wp2_with fail
   go_ret
   rw [HST.out]
   exact ⟨rfl, HC7.out, HF7.out⟩
  ·rw [HNX.out] at e
   obtain ⟨rfl, hd, rfl, rfl⟩ : k = k' ∧ d = (c.kept.drop 16).take m' ∧ m = 16 + (m' : Int) ∧ er = 0 := by simpa using e
   have HST : Aside0 (Cn.rstep l c = (true, Cn.option l { c with kept := c.kept.drop (16 + m') } k d)) := ⟨by
    rw [HST'.out]
    show (true, Cn.option l (Cn.cutk c (16 + (m' : Int))) k d) = _
    unfold Cn.cutk
    rw [show (16 + (m' : Int)).toNat = 16 + m' from by omega]⟩
   have HDD : Aside0 (nd ≤ 1024 ∧ Sh.Bytes d) := ⟨by rw [← HND.out, hd, List.length_take]; omega, by rw [hd]; exact Cn.bytes_take (Cn.bytes_drop HO.out.by_ 16) m'⟩
   have HKK := az hk
   have HLM := az hl
   have hmI : (16 + (m' : Int)) = ((16 + m' : Nat) : Int) := by omega
   rw [hmI]
   clear e HST' hd hk hm hl hmI
   go_wp2_with (
    (refine Wk.store_all rfl rfl 103 (.tmp 6) (.tmp 52) rfl w2.heap.size (Cn.oc k (.slice A2 nd c2)) rfl rfl 103 _ HX3.out HSO.out rfl rfl ?_; intro w4 hX hO; have HX4 := az hX; have HO4 := az hO; have HB4 := az (Wk.Only.below HB3.out hO HB2.out.size); clear hX hO)
    )
   have HR4 := az (Cn.R_own (Wk.R_only HR3.out HX3.out (by decide) HO4.out))
   obtain ⟨g6, HG6⟩ : ∃ g, Aside0 (w2.heap.size = g) := ⟨_, ⟨rfl⟩⟩
   have HGE : Aside0 (W.heap.size ≤ g6 ∧ g6 < w4.heap.size ∧ ∀ j, (Value.slice A2 nd c2).ownBlock = some j → W.heap.size ≤ j ∧ j < w4.heap.size) := ⟨by rw [← HG6.out]; exact HB2.out.size, by rw [← HG6.out]; exact HX4.out.lt, fun j hj => by have := (Kd.R_bound HR4.out).1 j hj; exact ⟨this.2.1, this.2.2.1⟩⟩
   rw [HG6.out] at HX4 ⊢
   have HCL : Aside0 (Cn.Rn w4 (fun j => ok j ∧ j ≠ g6 ∧ (Value.slice A2 nd c2).ownBlock ≠ some j) ex p tb c) := ⟨(HCN.out.bound.below HB4.out).mono (fun j hj => ⟨hj.1, by have := hj.2; have := HGE.out.1; omega, fun he => by have := hj.2; have := (HGE.out.2.2 j he).1; omega⟩) (fun j hj => .inr hj.1)⟩
   have HFL : Aside0 (∀ j, w4.heap.size ≤ j → ok j ∧ j ≠ g6 ∧ (Value.slice A2 nd c2).ownBlock ≠ some j) := ⟨fun j hj => ⟨HF.out j (Nat.le_trans HB4.out.size hj), by have := HGE.out.2.1; omega, fun he => by have := (HGE.out.2.2 j he).2; omega⟩⟩
   clear HX3 HB3 HR3 HO4 HG6
   refine (rcut_.calls HCL.out HFL.out (16 + m') HLM.out (by rw [HN.out]; exact HLN.out.1)).mono ?_
   rintro e' w5 ⟨rfl, hc5, hf5⟩
   have HC5 := az (hc5.mono (ok' := ok) (fun j hj => hj.1) (fun j hj => .inr hj))
   have HX5 := az (Cn.Blk_frame HX4.out hf5 (fun hh => hh.2.1 rfl))
   have HR5 := az (Cn.R_frame HR4.out hf5 (fun j hj hh => hh.2.2 hj))
   have HF5 := az ((Cn.Fr.of_below HB4.out ok).trans (hf5.mono (fun j hj => hj.1)))
   clear hc5 hf5
   have hl11 := Wk.run_load_blk (P := Tryz.prog) 103 g6 0 (Cn.oc k (.slice A2 nd c2)) _ HX5.out rfl Tryz.underlying103 rfl HSO.out
   go_wp2_with (refine Wk.load rfl 103 (.tmp 6) rfl (.agg #[.int .u32 k, .slice A2 nd c2]) (.pointer (some ⟨g6, 0, none⟩)) rfl hl11 ?_)
   clear hl11
   have hr5 := Kd.R_reads' HR5.out
   refine (roptc_.calls HC5.out (fun j hj => HF.out j (Nat.le_trans HF5.out.size hj)) HO.out.blk_ (HT.out w5 HF5.out) HL7.out HW.out HKK.out hr5.2.2 HND.out hr5.2.1 (by have := HDD.out.1; omega) HDD.out.2 HS.out).mono ?_
   rintro e' w6 ⟨rfl, hc6, hf6⟩
   have HC6 := az hc6
   have HF6 := az (HF5.out.trans hf6)
   clear hc6 hf6 hr5
   go_wp2_with fail
   go_ret
   rw [HST.out]
   exact ⟨rfl, HC6.out, HF6.out⟩
 have e2 : (c.st == 2) = false := by simpa using h2
 have H2 := az h2
 clear h2
 by_cases h3 : c.st = 3
 rotate_left
 ·have e3 : (c.st == 3) = false := by simpa using h3
  have H3 := az h3
  clear h3
  have HST : Aside0 (Cn.rstep l c = (false, c)) := ⟨by unfold Cn.rstep; rw [if_neg H1.out, if_neg H2.out, if_neg H3.out]⟩
  go_wp2_with fail
  go_ret
  rw [HST.out]
  exact ⟨rfl, HCN.out, (Cn.Fr.refl _ _)⟩
 have e3 : (c.st == 3) = true := by simpa using h3
 have H3 := az h3
 clear h3
 have k4 := HV.out.blk.at_ 4 rfl
 go_wp2_with fail
 clear k4 e1 e2 e3
 refine (rfull_.calls HV.out.rf).mono ?_
 rintro e' w' ⟨rfl, rfl⟩
 obtain ⟨fu, HFU⟩ : ∃ b, Aside0 (decide (c.rs.length = 16) = b) := ⟨_, ⟨rfl⟩⟩
 rw [HFU.out]
 cases fu with
 | true =>
  have HST : Aside0 (Cn.rstep l c = (false, c)) := ⟨by unfold Cn.rstep; rw [if_neg H1.out, if_neg H2.out, if_pos H3.out, if_pos (of_decide_eq_true HFU.out)]⟩
  go_wp2_with fail
  go_ret
  rw [HST.out]
  exact ⟨rfl, HCN.out, (Cn.Fr.refl _ _)⟩
 | false =>
  have HST' : Aside0 (Cn.rstep l c = (match Wi.nextOf c.kept with | (f, k, ck, off, len, data, n, e) => if e = 80 then (false, c) else if e ≠ 0 ∨ k = 2 then (false, Cn.close c) else (true, { Cn.cutk c n with rs := c.rs ++ [(f, k, ck, off, len, data)] }))) := ⟨by unfold Cn.rstep; rw [if_neg H1.out, if_neg H2.out, if_pos H3.out, if_neg (of_decide_eq_false HFU.out)]⟩
  obtain ⟨f, kd, ck, off, len, d, m, er, HNX⟩ : ∃ f kd ck off len d m er, Aside0 (Wi.nextOf c.kept = (f, kd, ck, off, len, d, m, er)) := ⟨_, _, _, _, _, _, _, _, ⟨rfl⟩⟩
  rw [HNX.out] at HST'
  simp only [] at HST'
  go_wp2_with fail
  clear k3 k5
  refine (Cn.rreqnext_ (Kd.R_reads' HV.out.kept).2.2 HN.out HLN.out.2 HLN.out.1 HO.out.by_ HNX.out).mono ?_
  rintro e' w2 ⟨A2, c2, rfl, hR2, hb2⟩
  obtain ⟨nd, HND⟩ : ∃ n, Aside0 (d.length = n) := ⟨_, ⟨rfl⟩⟩
  rw [HND.out] at hR2 ⊢
  have HB2 := az hb2
  have HB3 := az (below_then HB2.out HB2.out.size (below_alloc (Below.refl w2.heap.size w2) (.cells Pi.zrq.toArray 67)))
  have HX3 : Aside0 (Wk.Blk (w2.alloc (.cells Pi.zrq.toArray 67)) w2.heap.size 67 Pi.zrq) := ⟨Wk.Blk.new w2 _ _⟩
  have HR3 := az (Kd.R_below hR2 (below_alloc (Below.refl w2.heap.size w2) (.cells Pi.zrq.toArray 67)))
  clear hR2 hb2
  by_cases h80 : er = 80
  ·subst h80
   have HST : Aside0 (Cn.rstep l c = (false, c)) := ⟨by rw [HST'.out, if_pos rfl]⟩
   clear HST'
   go_wp2_with (
    (refine Wk.store_all rfl rfl 67 (.tmp 10) (.tmp 81) rfl w2.heap.size (Pi.rqc f kd ck off len (.slice A2 nd c2)) rfl rfl 67 _ HX3.out HSR.out rfl rfl ?_; intro w4 hX hO; have HX4 := az hX; have HO4 := az hO; have HB4 := az (Wk.Only.below HB3.out hO HB2.out.size); have k1 := HX4.out.at_ 1 rfl; (try simp only [Pi.rqc] at k1); clear hX hO)
    )
   go_ret
   rw [HST.out]
   exact ⟨rfl, HCN.out.below HB4.out, Cn.Fr.of_below HB4.out ok⟩
  by_cases h0 : er = 0
  rotate_left
  ·have e80 : (er == 80) = false := by simpa using h80
   have e0 : (er != 0) = true := by simpa using h0
   have H80 := az h80
   have H0 := az h0
   clear h80 h0
   have HST : Aside0 (Cn.rstep l c = (false, Cn.close c)) := ⟨by rw [HST'.out, if_neg H80.out, if_pos (Or.inl H0.out)]⟩
   clear HST'
   go_wp2_with (
    (refine Wk.store_all rfl rfl 67 (.tmp 10) (.tmp 81) rfl w2.heap.size (Pi.rqc f kd ck off len (.slice A2 nd c2)) rfl rfl 67 _ HX3.out HSR.out rfl rfl ?_; intro w4 hX hO; have HX4 := az hX; have HO4 := az hO; have HB4 := az (Wk.Only.below HB3.out hO HB2.out.size); have k1 := HX4.out.at_ 1 rfl; (try simp only [Pi.rqc] at k1); clear hX hO)
    )
   clear k1
   refine (rclose_.calls (HCN.out.below HB4.out)).mono ?_
   rintro e' w7 ⟨rfl, hc7, hf7⟩
   have HC7 := az hc7
   have HF7 := az ((Cn.Fr.of_below HB4.out ok).trans hf7)
   clear hc7 hf7
   go_wp2_with fail
   go_ret
   rw [HST.out]
   exact ⟨rfl, HC7.out, HF7.out⟩
  subst h0
  by_cases h2 : kd = 2
  ·have e2 : (kd == 2) = true := by simpa using h2
   have HK2 := az h2
   clear h2 h80
   have HST : Aside0 (Cn.rstep l c = (false, Cn.close c)) := ⟨by rw [HST'.out, if_neg (by decide), if_pos (Or.inr HK2.out)]⟩
   clear HST'
   go_wp2_with (
    (refine Wk.store_all rfl rfl 67 (.tmp 10) (.tmp 81) rfl w2.heap.size (Pi.rqc f kd ck off len (.slice A2 nd c2)) rfl rfl 67 _ HX3.out HSR.out rfl rfl ?_; intro w4 hX hO; have HX4 := az hX; have HO4 := az hO; have HB4 := az (Wk.Only.below HB3.out hO HB2.out.size); have k1 := HX4.out.at_ 1 rfl; (try simp only [Pi.rqc] at k1); clear hX hO)
    )
   clear k1
   refine (rclose_.calls (HCN.out.below HB4.out)).mono ?_
   rintro e' w7 ⟨rfl, hc7, hf7⟩
   have HC7 := az hc7
   have HF7 := az ((Cn.Fr.of_below HB4.out ok).trans hf7)
   clear hc7 hf7
   go_wp2_with fail
   go_ret
   rw [HST.out]
   exact ⟨rfl, HC7.out, HF7.out⟩
  have e2 : (kd == 2) = false := by simpa using h2
  have HK2 := az h2
  clear h2 h80
  obtain ⟨mm, HMM⟩ : ∃ mm : Nat, Aside0 (m = (mm : Int) ∧ mm ≤ c.kept.length ∧ nd ≤ 131072) := by
   rcases Cn.rq_cases c.kept HO.out.by_ with e | e | e | ⟨m', len', hm, hl, e⟩
   ·rw [HNX.out] at e; simp at e
   ·rw [HNX.out] at e; simp at e
   ·rw [HNX.out] at e; simp at e
   ·rw [HNX.out] at e
    simp only [Prod.mk.injEq] at e
    exact ⟨28 + m', ⟨by rw [e.2.2.2.2.2.2.1]; push_cast; rfl, hl, by rw [← HND.out, e.2.2.2.2.2.1, List.length_take]; omega⟩⟩
  have HST : Aside0 (Cn.rstep l c = (true, { { c with kept := c.kept.drop mm } with rs := c.rs ++ [(f, kd, ck, off, len, d)] })) := ⟨by
   rw [HST'.out, if_neg (by decide), if_neg (fun h => h.elim (fun h => h rfl) HK2.out), HMM.out.1]
   unfold Cn.cutk
   rw [Int.toNat_natCast]⟩
  have hmI := HMM.out.1
  subst hmI
  clear HST'
  go_wp2_with (
   (refine Wk.store_all rfl rfl 67 (.tmp 10) (.tmp 81) rfl w2.heap.size (Pi.rqc f kd ck off len (.slice A2 nd c2)) rfl rfl 67 _ HX3.out HSR.out rfl rfl ?_; intro w4 hX hO; have HX4 := az hX; have HO4 := az hO; have HB4 := az (Wk.Only.below HB3.out hO HB2.out.size); have k1 := HX4.out.at_ 1 rfl; (try simp only [Pi.rqc] at k1); clear hX hO)
   )
  clear k1
  have HR4 := az (Cn.R_own (Wk.R_only HR3.out HX3.out (by decide) HO4.out))
  obtain ⟨g6, HG6⟩ : ∃ g, Aside0 (w2.heap.size = g) := ⟨_, ⟨rfl⟩⟩
  have HGE : Aside0 (W.heap.size ≤ g6 ∧ g6 < w4.heap.size ∧ ∀ j, (Value.slice A2 nd c2).ownBlock = some j → W.heap.size ≤ j ∧ j < w4.heap.size) := ⟨by rw [← HG6.out]; exact HB2.out.size, by rw [← HG6.out]; exact HX4.out.lt, fun j hj => by have := (Kd.R_bound HR4.out).1 j hj; exact ⟨this.2.1, this.2.2.1⟩⟩
  rw [HG6.out] at HX4 ⊢
  have HCL : Aside0 (Cn.Rn w4 (fun j => ok j ∧ j ≠ g6 ∧ (Value.slice A2 nd c2).ownBlock ≠ some j) ex p tb c) := ⟨(HCN.out.bound.below HB4.out).mono (fun j hj => ⟨hj.1, by have := hj.2; have := HGE.out.1; omega, fun he => by have := hj.2; have := (HGE.out.2.2 j he).1; omega⟩) (fun j hj => .inr hj.1)⟩
  have HFL : Aside0 (∀ j, w4.heap.size ≤ j → ok j ∧ j ≠ g6 ∧ (Value.slice A2 nd c2).ownBlock ≠ some j) := ⟨fun j hj => ⟨HF.out j (Nat.le_trans HB4.out.size hj), by have := HGE.out.2.1; omega, fun he => by have := (HGE.out.2.2 j he).2; omega⟩⟩
  clear HX3 HB3 HR3 HO4 HG6
  refine (rcut_.calls HCL.out HFL.out mm HMM.out.2.1 (by rw [HN.out]; exact HLN.out.1)).mono ?_
  rintro e' w5 ⟨rfl, hc5, hf5⟩
  obtain ⟨pp5, vk5, vs5, vp5, hv5⟩ := hc5.mono (ok' := ok) (ex' := ex) (fun j hj => hj.1) (fun j hj => .inr hj)
  have HV5 := az hv5
  have HX5 := az (Cn.Blk_frame HX4.out hf5 (fun hh => hh.2.1 rfl))
  have HR5 := az (Cn.R_frame HR4.out hf5 (fun j hj hh => hh.2.2 hj))
  have HF5 := az ((Cn.Fr.of_below HB4.out ok).trans (hf5.mono (fun j hj => hj.1)))
  clear hc5 hf5 hv5
  go_wp2_with fail
  refine wp_region_noPanic ?_
  refine Rg.s1 6 (fun w' => Below w5.heap.size w5 w') [5] (Below.refl _ _).drew #[false, false, false, false, false, false] (fun hHeld => ?_)
  refine Rg.p1 0 (.some 98) ?_
  refine Rg.p1 1 (.some 99) ?_
  refine Rg.p1 2 (.some 100) ?_
  refine Rg.t1 3 (.some 101) hHeld ?_ (hy := by intro w' hS'; (have c1 := (HV5.out.below hS').blk.at_ 4 rfl; go_simp); first | done | with_reducible rfl)
  refine Rg.t1 4 (.some 102) hHeld ?_ (hy := by intro w' hS'; (have hl := Wk.run_load_blk (P := Tryz.prog) 67 g6 0 (Pi.rqc f kd ck off len (.slice A2 nd c2)) _ (HX5.out.below_ hS') rfl Tryz.underlying67 rfl HSR.out; refine (Wk.exec_load 67 (.tmp 10) rfl _ _ rfl hl).trans ?_); first | done | with_reducible rfl)
  have HBD : Aside0 (Below w5.heap.size w5 w5.drew) := ⟨(Below.refl _ _).drew⟩
  have HV6 := az (HV5.out.below HBD.out)
  have HKR : Aside0 (kRq.K w5.drew (f, kd, ck, off, len, d) (Pi.rqc f kd ck off len (.slice A2 nd c2))) := ⟨Pi.K_of_R (Kd.R_below HR5.out HBD.out)⟩
  have HFP := az (HV6.out.freshP (fun j hj => HF.out j (Nat.le_trans HF5.out.size (Nat.le_trans HBD.out.size hj))))
  have HL16 : Aside0 (c.rs.length < 16) := ⟨by have := HV5.out.few; have h := of_decide_eq_false HFU.out; change c.rs.length ≤ 16 at this; omega⟩
  refine Rg.l1 5 (.some 103) (fun K hK => ?_)
  refine call_ 69 #[.pointer (some ⟨pp5, 0, none⟩), .agg (Pi.rqc f kd ck off len (.slice A2 nd c2)).toArray] (by rfl) rfl (by go_simp) ?_
  refine (Cn.radd_ HV6.out.pb HV6.out.row HL16.out HKR.out (by show d.length < _; have := HMM.out.2.2; have := HND.out; omega) HFP.out).mono ?_
  rintro e w7 ⟨rfl, v7, hpb7, hr7, ho7, ht7, hf7⟩
  have HV7 : Aside0 (Cn.Rv w7 ok ex p tb pp5 vk5 vs5 v7 { { c with kept := c.kept.drop mm } with rs := c.rs ++ [(f, kd, ck, off, len, d)] }) := ⟨HV6.out.piped ht7 hpb7 (by rw [List.length_append]; have := HL16.out; simp; omega) hr7 (fun j hj => (ho7 j hj).elim (HV6.out.okr j) (fun h => HF.out j (Nat.le_trans HF5.out.size (Nat.le_trans HBD.out.size h)))) ⟨rfl, rfl, rfl, rfl⟩ rfl rfl rfl⟩
  have HF7 := az ((HF5.out.trans (Cn.Fr.of_below HBD.out ok)).trans (hf7.mono (fun j hj => hj.elim (fun e => e ▸ HV6.out.okq) (HV6.out.okr j))))
  clear hpb7 hr7 ho7 ht7 hf7
  refine ⟨_, rfl, ?_⟩
  refine hK.out _ _ ?_
  clear hK K
  refine Rg.n1 ?_
  refine Rg.d1 ?_
  refine NoPanic.normal ?_
  go_wp2_with fail
  go_ret
  rw [HST.out]
  exact ⟨rfl, ⟨pp5, vk5, vs5, v7, HV7.out⟩, HF7.out⟩
theorem optc_.calls {W : World} {ok ex : Nat → Prop} {p tb bs : Nat} {c : Cn.St} {l : List Ps.Tn} (h : Cn.Cn W ok ex p tb c) (hf : ∀ k, W.heap.size ≤ k → ok k) (hb : 0 ≤ c.blk ∧ c.blk ≤ 65535) (hK : Sh.Ks W) (hT : Ps.Tb W bs tb l) (hW : ∀ x ∈ l, Ps.TnWf x) {A : Option Addr} {n cd : Nat} {k : Int} {d : List Int} (hk : 0 ≤ k ∧ k < 4294967296) (hd : Kd.C (Kd.int .u8) W A d.length d) (hn : d.length = n) (hc : n ≤ cd) (hl : n ≤ 100000) (hby : Sh.Bytes d) (hs : c.send.length ≤ 9000000000000) :
  Calls Tryz.prog 61 #[.pointer (some ⟨p, 0, none⟩), .agg #[.int .u32 k, .slice A n cd]] W fun e w' => e = .returned (.tuple #[]) ∧ Cn.Cn w' ok ex p tb (Cn.option l c k d) ∧ Cn.Fr W w' ok := by
 have HC := az h
 have HF := az hf
 have HBK := az hb
 have HK := az hK
 have HT := az hT
 have HW := az hW
 have HKK := az hk
 have HD := az hd
 have HN := az hn
 have HL := az (And.intro hc hl)
 have HBY := az hby
 have HS := az hs
 have HSO := az Cn.sizeOp
 clear h hf hb hK hT hW hk hd hn hc hl hby hs
 have HB1 : Aside0 (Below W.heap.size W (W.alloc (.cells #[.int .u32 k, .slice A n cd] 103))) := ⟨below_alloc (Below.refl _ _) _⟩
 have HX1 : Aside0 (Wk.Blk (W.alloc (.cells #[.int .u32 k, .slice A n cd] 103)) W.heap.size 103 [.int .u32 k, .slice A n cd]) := ⟨Wk.Blk.new W _ [.int .u32 k, .slice A n cd]⟩
 have k0 := HX1.out.at_ 0 rfl
 have k1 := HX1.out.at_ 1 rfl
 have hl1 := Wk.run_load_blk (P := Tryz.prog) 103 W.heap.size 0 [.int .u32 k, .slice A n cd] _ HX1.out rfl Tryz.underlying103 rfl HSO.out
 go_enter Tryz.func61, Tryz.ntmps61
 by_cases h2 : k = 2
 ·have e2 : (k == 2) = true := by simpa using h2
  have H2 := az h2
  clear h2
  go_wp2_with (refine Wk.load rfl 103 (.tmp 3) rfl (.agg #[.int .u32 k, .slice A n cd]) (.pointer (some ⟨W.heap.size, 0, none⟩)) rfl hl1 ?_)
  clear k0 k1 hl1
  generalize W.alloc (.cells #[.int .u32 k, .slice A n cd] 103) = w1 at *
  refine (reply_.calls (HC.out.below HB1.out) (fun j hj => HF.out j (Nat.le_trans HB1.out.size hj)) HKK.out (by decide) (d := []) (Kd.C_nil _ _) rfl (Nat.le_refl _) (by decide) (by have := HS.out; omega)).mono ?_
  rintro e w2 ⟨rfl, hc2, hf2⟩
  have HC2 := az hc2
  have HF2 := az ((Cn.Fr.of_below HB1.out ok).trans hf2)
  clear hc2 hf2
  go_wp2_with fail
  refine (close_.calls HC2.out).mono ?_
  rintro e w3 ⟨rfl, hc3, hf3⟩
  have HC3 := az hc3
  have HF3 := az (HF2.out.trans hf3)
  clear hc3 hf3
  go_wp2_with fail
  go_end0
  refine ⟨rfl, ?_, HF3.out⟩
  unfold Cn.option
  rw [if_pos H2.out]
  exact HC3.out
 ·have e2 : (k == 2) = false := by simpa using h2
  have H2 := az h2
  clear h2
  by_cases h3 : k = 3
  ·have e3 : (k == 3) = true := by simpa using h3
   have H3 := az h3
   clear h3
   by_cases hn0 : 0 < n
   ·have hnI : (0 : Int) < n := by omega
    go_wp2_with (refine Wk.load rfl 103 (.tmp 3) rfl (.agg #[.int .u32 k, .slice A n cd]) (.pointer (some ⟨W.heap.size, 0, none⟩)) rfl hl1 ?_)
    clear k0 k1 hl1
    generalize W.alloc (.cells #[.int .u32 k, .slice A n cd] 103) = w1 at *
    refine (reply_.calls (HC.out.below HB1.out) (fun j hj => HF.out j (Nat.le_trans HB1.out.size hj)) HKK.out (by decide) (d := []) (Kd.C_nil _ _) rfl (Nat.le_refl _) (by decide) (by have := HS.out; omega)).mono ?_
    rintro e w2 ⟨rfl, hc2, hf2⟩
    have HC2 := az hc2
    have HF2 := az ((Cn.Fr.of_below HB1.out ok).trans hf2)
    clear hc2 hf2
    go_wp2_with fail
    go_end0
    refine ⟨rfl, ?_, HF2.out⟩
    unfold Cn.option
    rw [if_neg H2.out, if_pos H3.out, if_pos (by rw [HN.out]; exact hn0)]
    exact HC2.out
   ·have hnI : ¬ (0 : Int) < n := by omega
    go_wp2_with (refine Wk.load rfl 103 (.tmp 3) rfl (.agg #[.int .u32 k, .slice A n cd]) (.pointer (some ⟨W.heap.size, 0, none⟩)) rfl hl1 ?_)
    clear k0 k1 hl1
    generalize W.alloc (.cells #[.int .u32 k, .slice A n cd] 103) = w1 at *
    refine (reply_.calls (HC.out.below HB1.out) (fun j hj => HF.out j (Nat.le_trans HB1.out.size hj)) HKK.out (by decide) (d := []) (Kd.C_nil _ _) rfl (Nat.le_refl _) (by decide) (by have := HS.out; omega)).mono ?_
    rintro e w2 ⟨rfl, hc2, hf2⟩
    have HC2 := az hc2
    have HF2 := az ((Cn.Fr.of_below HB1.out ok).trans hf2)
    clear hc2 hf2
    go_wp2_with fail
    go_end0
    refine ⟨rfl, ?_, HF2.out⟩
    unfold Cn.option
    rw [if_neg H2.out, if_pos H3.out, if_neg (by rw [HN.out]; exact hn0)]
    exact HC2.out
  ·have e3 : (k == 3) = false := by simpa using h3
   have H3 := az h3
   clear h3
   by_cases h1 : k = 1
   ·have e1 : (k == 1) = true := by simpa using h1
    have H1 := az h1
    clear h1
    go_wp2_with (refine Wk.load rfl 103 (.tmp 3) rfl (.agg #[.int .u32 k, .slice A n cd]) (.pointer (some ⟨W.heap.size, 0, none⟩)) rfl hl1 ?_)
    clear k0 k1 hl1
    generalize W.alloc (.cells #[.int .u32 k, .slice A n cd] 103) = w1 at *
    refine (oldway_.calls (HC.out.below HB1.out) (fun j hj => HF.out j (Nat.le_trans HB1.out.size hj)) HBK.out (HK.out.below HB1.out) (HT.out.below HB1.out) HW.out (Kd.C_below HD.out HB1.out) HN.out (by have := HL.out.2; omega) (by have := HS.out; omega)).mono ?_
    rintro e w2 ⟨rfl, hc2, hf2⟩
    have HC2 := az hc2
    have HF2 := az ((Cn.Fr.of_below HB1.out ok).trans hf2)
    clear hc2 hf2
    go_wp2_with fail
    go_end0
    refine ⟨rfl, ?_, HF2.out⟩
    unfold Cn.option
    rw [if_neg H2.out, if_neg H3.out, if_pos H1.out]
    exact HC2.out
   ·have e1 : (k == 1) = false := by simpa using h1
    have H1 := az h1
    clear h1
    by_cases h6 : k = 6
    ·have e6 : (k == 6) = true := by simpa using h6
     have H6 := az h6
     clear h6
     go_wp2_with (refine Wk.load rfl 103 (.tmp 3) rfl (.agg #[.int .u32 k, .slice A n cd]) (.pointer (some ⟨W.heap.size, 0, none⟩)) rfl hl1 ?_)
     clear k0 k1 hl1
     generalize W.alloc (.cells #[.int .u32 k, .slice A n cd] 103) = w1 at *
     refine (askedc_.calls (HC.out.below HB1.out) (fun j hj => HF.out j (Nat.le_trans HB1.out.size hj)) HBK.out (HK.out.below HB1.out) (HT.out.below HB1.out) HW.out HKK.out (Kd.C_below HD.out HB1.out) HN.out HL.out.1 HL.out.2 HBY.out (by have := HS.out; omega)).mono ?_
     rintro e w2 ⟨rfl, hc2, hf2⟩
     have HC2 := az hc2
     have HF2 := az ((Cn.Fr.of_below HB1.out ok).trans hf2)
     clear hc2 hf2
     go_wp2_with fail
     go_end0
     refine ⟨rfl, ?_, HF2.out⟩
     unfold Cn.option
     rw [if_neg H2.out, if_neg H3.out, if_neg H1.out, if_pos (Or.inl H6.out)]
     exact HC2.out
    ·have e6 : (k == 6) = false := by simpa using h6
     have H6 := az h6
     clear h6
     by_cases h7 : k = 7
     ·have e7 : (k == 7) = true := by simpa using h7
      have H7 := az h7
      clear h7
      go_wp2_with (refine Wk.load rfl 103 (.tmp 3) rfl (.agg #[.int .u32 k, .slice A n cd]) (.pointer (some ⟨W.heap.size, 0, none⟩)) rfl hl1 ?_)
      clear k0 k1 hl1
      generalize W.alloc (.cells #[.int .u32 k, .slice A n cd] 103) = w1 at *
      refine (askedc_.calls (HC.out.below HB1.out) (fun j hj => HF.out j (Nat.le_trans HB1.out.size hj)) HBK.out (HK.out.below HB1.out) (HT.out.below HB1.out) HW.out HKK.out (Kd.C_below HD.out HB1.out) HN.out HL.out.1 HL.out.2 HBY.out (by have := HS.out; omega)).mono ?_
      rintro e w2 ⟨rfl, hc2, hf2⟩
      have HC2 := az hc2
      have HF2 := az ((Cn.Fr.of_below HB1.out ok).trans hf2)
      clear hc2 hf2
      go_wp2_with fail
      go_end0
      refine ⟨rfl, ?_, HF2.out⟩
      unfold Cn.option
      rw [if_neg H2.out, if_neg H3.out, if_neg H1.out, if_pos (Or.inr H7.out)]
      exact HC2.out
     ·have e7 : (k == 7) = false := by simpa using h7
      have H7 := az h7
      clear h7
      go_wp2_with (refine Wk.load rfl 103 (.tmp 3) rfl (.agg #[.int .u32 k, .slice A n cd]) (.pointer (some ⟨W.heap.size, 0, none⟩)) rfl hl1 ?_)
      clear k0 k1 hl1
      generalize W.alloc (.cells #[.int .u32 k, .slice A n cd] 103) = w1 at *
      refine (reply_.calls (HC.out.below HB1.out) (fun j hj => HF.out j (Nat.le_trans HB1.out.size hj)) HKK.out (by decide) (d := []) (Kd.C_nil _ _) rfl (Nat.le_refl _) (by decide) (by have := HS.out; omega)).mono ?_
      rintro e w2 ⟨rfl, hc2, hf2⟩
      have HC2 := az hc2
      have HF2 := az ((Cn.Fr.of_below HB1.out ok).trans hf2)
      clear hc2 hf2
      go_wp2_with fail
      go_end0
      refine ⟨rfl, ?_, HF2.out⟩
      unfold Cn.option
      rw [if_neg H2.out, if_neg H3.out, if_neg H1.out, if_neg (fun h => h.elim H6.out H7.out)]
      exact HC2.out
theorem reqc_.calls {W : World} {ok ex : Nat → Prop} {p tb : Nat} {c : Cn.St} (h : Cn.Cn W ok ex p tb c) (hf : ∀ k, W.heap.size ≤ k → ok k) (hc : Cn.Ok c) :
  Calls Tryz.prog 62 #[.pointer (some ⟨p, 0, none⟩)] W fun e w' => e = .returned (.tuple #[.int .i64 (Cn.request c).1, .int .u16 (Cn.request c).2.1]) ∧ Cn.Cn w' ok ex p tb (Cn.request c).2.2 ∧ Cn.Fr W w' ok := by
 obtain ⟨pp, vk, vs, hv⟩ := h
 obtain ⟨A, cp, rfl⟩ := Kd.R_slice hv.kept
 obtain ⟨n, HN⟩ : ∃ n, Aside0 (c.kept.length = n) := ⟨_, ⟨rfl⟩⟩
 have k0 := hv.blk.at_ 0 rfl
 have k3 := hv.blk.at_ 3 rfl
 rw [HN.out] at k3
 have HV := az hv
 have HF := az hf
 have HO := az hc
 have HSR := az Pi.size33
 clear hv hf hc
 obtain ⟨fu, HFU⟩ : ∃ b, Aside0 (decide (c.rs.length = 16) = b) := ⟨_, ⟨rfl⟩⟩
 go_enter Tryz.func62, Tryz.ntmps62
 go_wp2_with fail
 refine (full_.calls HV.out.pipe).mono ?_
 rintro e w' ⟨rfl, rfl⟩
 rw [HFU.out]
 cases fu with
 | true =>
  go_wp2_with fail
  go_ret2
  unfold Cn.request
  rw [if_pos (of_decide_eq_true HFU.out)]
  exact ⟨rfl, ⟨pp, _, vs, HV.out⟩, Cn.Fr.refl _ _⟩
 | false =>
  have HRQ : Aside0 (Cn.request c = (match Wi.nextOf c.kept with | (f, k, ck, off, len, data, n, e) => if e ≠ 0 then (0, e, c) else if k = 2 then (n, 0, Cn.close c) else (n, 0, { c with rs := c.rs ++ [(f, k, ck, off, len, data)] }))) := ⟨by unfold Cn.request; rw [if_neg (of_decide_eq_false HFU.out)]⟩
  obtain ⟨f, kd, ck, off, len, d, m, er, HNX⟩ : ∃ f kd ck off len d m er, Aside0 (Wi.nextOf c.kept = (f, kd, ck, off, len, d, m, er)) := ⟨_, _, _, _, _, _, _, _, ⟨rfl⟩⟩
  rw [HNX.out] at HRQ
  have HDL : Aside0 (d.length ≤ 131072) := ⟨by
   rcases Cn.rq_cases c.kept HO.out.by_ with e | e | e | ⟨m', len', _, _, e⟩ <;> rw [HNX.out] at e <;> simp only [Prod.mk.injEq] at e
   ·rw [e.2.2.2.2.2.1]; exact Nat.zero_le _
   ·rw [e.2.2.2.2.2.1]; exact Nat.zero_le _
   ·rw [e.2.2.2.2.2.1]; exact Nat.zero_le _
   ·rw [e.2.2.2.2.2.1, List.length_take]; omega⟩
  go_wp2_with fail
  clear k0 k3
  have hr := Kd.R_reads' HV.out.kept
  refine (Cn.reqnext_ hr.2.2 HN.out (by rw [← HN.out]; exact hr.2.1) (by have := HO.out.len; have := HN.out; omega) HO.out.by_ HNX.out).mono ?_
  rintro e w2 ⟨A2, c2, rfl, hR2, hb2⟩
  obtain ⟨nd, HND⟩ : ∃ n, Aside0 (d.length = n) := ⟨_, ⟨rfl⟩⟩
  rw [HND.out] at hR2 ⊢
  have HR2 := az hR2
  have HB2 := az hb2
  clear hR2 hb2 hr
  have HB3 : Aside0 (Below w2.heap.size w2 (w2.alloc (.cells #[.int .u16 f, .int .u16 kd, .int .u64 ck, .int .u64 off, .int .u32 len, .slice A2 nd c2] 67))) := ⟨below_alloc (Below.refl _ _) _⟩
  have HX3 : Aside0 (Wk.Blk (w2.alloc (.cells #[.int .u16 f, .int .u16 kd, .int .u64 ck, .int .u64 off, .int .u32 len, .slice A2 nd c2] 67)) w2.heap.size 67 (Pi.rqc f kd ck off len (.slice A2 nd c2))) := ⟨Wk.Blk.new w2 _ (Pi.rqc f kd ck off len (.slice A2 nd c2))⟩
  have HBW := az (below_then HB2.out HB2.out.size HB3.out)
  have HV3 := az (HV.out.below HBW.out)
  have HR3 := az (Kd.R_below HR2.out HB3.out)
  have k1 := HX3.out.at_ 1 rfl
  try simp only [Pi.rqc] at k1
  by_cases he : er = 0
  ·subst he
   by_cases h2 : kd = 2
   ·have e2 : (kd == 2) = true := by simpa using h2
    have H2 := az h2
    clear h2
    go_wp2_with fail
    clear k1
    refine (close_.calls ⟨pp, _, vs, HV3.out⟩).mono ?_
    rintro e w4 ⟨rfl, hc4, hf4⟩
    have HC4 := az hc4
    have HF4 := az ((Cn.Fr.of_below HBW.out ok).trans hf4)
    clear hc4 hf4
    go_wp2_with fail
    go_ret2
    rw [HRQ.out]
    simp only [ne_eq, not_true_eq_false, if_false]
    rw [if_pos H2.out]
    exact ⟨rfl, HC4.out, HF4.out⟩
   ·have e2 : (kd == 2) = false := by simpa using h2
    have H2 := az h2
    clear h2
    go_wp2_with fail
    clear k1
    generalize w2.alloc (.cells #[.int .u16 f, .int .u16 kd, .int .u64 ck, .int .u64 off, .int .u32 len, .slice A2 nd c2] 67) = w3 at *
    obtain ⟨g4, HG4⟩ : ∃ g, Aside0 (w2.heap.size = g) := ⟨_, ⟨rfl⟩⟩
    rw [HG4.out] at HX3 ⊢
    refine wp_region_noPanic ?_
    refine Rg.s1 6 (fun w' => Below w3.heap.size w3 w') [5] (Below.refl _ _).drew #[false, false, false, false, false, false] (fun hHeld => ?_)
    refine Rg.p1 0 (.some 21) ?_
    refine Rg.p1 1 (.some 22) ?_
    refine Rg.p1 2 (.some 23) ?_
    refine Rg.t1 3 (.some 24) hHeld ?_ (hy := by intro w' hS'; (have c1 := (HV3.out.below hS').blk.at_ 0 rfl; go_simp); first | done | with_reducible rfl)
    refine Rg.t1 4 (.some 25) hHeld ?_ (hy := by intro w' hS'; (have hl := Wk.run_load_blk (P := Tryz.prog) 67 g4 0 (Pi.rqc f kd ck off len (.slice A2 nd c2)) _ (HX3.out.below_ hS') rfl Tryz.underlying67 rfl HSR.out; refine (Wk.exec_load 67 (.tmp 4) rfl _ _ rfl hl).trans ?_); first | done | with_reducible rfl)
    have HBD : Aside0 (Below w3.heap.size w3 w3.drew) := ⟨(Below.refl _ _).drew⟩
    have HV4 := az (HV3.out.below HBD.out)
    have HKR : Aside0 (kRq.K w3.drew (f, kd, ck, off, len, d) (Pi.rqc f kd ck off len (.slice A2 nd c2))) := ⟨Pi.K_of_R (Kd.R_below HR3.out HBD.out)⟩
    have HFP : Aside0 (∀ j, w3.drew.heap.size ≤ j → (ok j ∨ ex j) ∧ some j ≠ (Value.slice A c.kept.length cp).ownBlock ∧ some j ≠ vs.ownBlock) := ⟨HV4.out.freshP (fun j hj => HF.out j (Nat.le_trans HBW.out.size (Nat.le_trans HBD.out.size hj)))⟩
    refine Rg.l1 5 (.some 26) (fun K hK => ?_)
    refine call_ 76 #[.pointer (some ⟨pp, 0, none⟩), .agg (Pi.rqc f kd ck off len (.slice A2 nd c2)).toArray] (by rfl) rfl (by go_simp) ?_
    refine (add_.calls HV4.out.pipe HKR.out (by show d.length < _; have := HDL.out; omega) (Nat.zero_le _) HFP.out).mono ?_
    rintro e w5 ⟨rfl, hp5, hg5⟩
    have HV5 : Aside0 (Cn.Cv w5 ok ex p tb pp (.slice A c.kept.length cp) vs { c with rs := c.rs ++ [(f, kd, ck, off, len, d)] }) := ⟨by
     rw [if_pos (by have := HV4.out.pipe.le; have := of_decide_eq_false HFU.out; omega)] at hp5
     exact HV4.out.piped hp5 hg5 ⟨rfl, rfl, rfl, rfl⟩ rfl rfl rfl⟩
    have HF5 := az (((Cn.Fr.of_below HBW.out ok).trans (Cn.Fr.of_below HBD.out ok)).trans (Cn.Fr.of_grown hg5 (fun j hj => by cases hj; exact HV4.out.okq)))
    clear hp5 hg5
    refine ⟨_, rfl, ?_⟩
    refine hK.out _ _ ?_
    clear hK K
    refine Rg.n1 ?_
    refine Rg.d1 ?_
    refine NoPanic.normal ?_
    go_wp2_with fail
    go_ret2
    rw [HRQ.out]
    simp only [ne_eq, not_true_eq_false, if_false]
    rw [if_neg H2.out]
    exact ⟨rfl, ⟨pp, _, vs, HV5.out⟩, HF5.out⟩
  ·have heb : (er == 0) = false := by simpa using he
   have HE := az he
   clear he
   go_wp2_with fail
   go_ret2
   rw [HRQ.out]
   simp only []
   rw [if_pos HE.out]
   exact ⟨rfl, ⟨pp, _, vs, HV3.out⟩, Cn.Fr.of_below HBW.out ok⟩
theorem stepc_.calls {W : World} {ok ex : Nat → Prop} {p tb bs : Nat} {c : Cn.St} {l : List Ps.Tn} (h : Cn.Cn W ok ex p tb c) (hf : ∀ k, W.heap.size ≤ k → ok k) (hc : Cn.Ok c) (hK : Sh.Ks W) (hT : Ps.Tb W bs tb l) (hW : ∀ x ∈ l, Ps.TnWf x) (hs : c.send.length ≤ 9000000000000) :
  Calls Tryz.prog 52 #[.pointer (some ⟨p, 0, none⟩)] W fun e w' => e = .returned (.tuple #[.int .i64 (Cn.step l c).1, .int .u16 (Cn.step l c).2.1]) ∧ Cn.Cn w' ok ex p tb (Cn.step l c).2.2 ∧ Cn.Fr W w' ok := by
 have HCN := az h
 obtain ⟨pp, vk, vs, hv⟩ := h
 obtain ⟨A, cp, rfl⟩ := Kd.R_slice hv.kept
 obtain ⟨n, HN⟩ : ∃ n, Aside0 (c.kept.length = n) := ⟨_, ⟨rfl⟩⟩
 have k3 := hv.blk.at_ 3 rfl
 have k5 := hv.blk.at_ 5 rfl
 rw [HN.out] at k3
 have HV := az hv
 have HF := az hf
 have HO := az hc
 have HK := az hK
 have HT := az hT
 have HW := az hW
 have HS := az hs
 have HS1 := az Cn.size1
 have HSB := az Cn.sizeB
 have HSO := az Cn.sizeOp
 have HLN : Aside0 (n ≤ 1000000 ∧ n ≤ cp) := ⟨by have := hc.len; have := HN.out; omega, by rw [← HN.out]; exact (Kd.R_reads' hv.kept).2.1⟩
 clear hv hf hc hK hT hW hs
 go_enter Tryz.func52, Tryz.ntmps52
 by_cases h1 : c.st = 1
 ·have e1 : (c.st == 1) = true := by simpa using h1
  have H1 := az h1
  clear h1
  have HST : Aside0 (Cn.step l c = ((Gr.fl c.kept).2.1, (Gr.fl c.kept).2.2, if (Gr.fl c.kept).2.2 = 0 then { c with sh := (Gr.fl c.kept).1, st := 2 } else c)) := ⟨by unfold Cn.step; rw [if_pos H1.out]⟩
  obtain ⟨s, m, e, HFL⟩ : ∃ s m e, Aside0 (Gr.fl c.kept = (s, m, e)) := ⟨_, _, _, ⟨rfl⟩⟩
  rw [HFL.out] at HST
  simp only [] at HST
  go_wp2_with fail
  clear k3 k5 e1
  refine (Cn.flags_ (Kd.R_reads' HV.out.kept).2.2 HN.out HLN.out.2 HLN.out.1 HO.out.by_ HFL.out).mono ?_
  rintro e' w2 ⟨rfl, hb2⟩
  have HV2 := az (HV.out.below hb2)
  have HB2 := az hb2
  clear hb2
  by_cases he : e = 0
  ·subst he
   go_wp2_with (first
    | (refine Wk.store rfl rfl 4 (.tmp 31) (.tmp 29) rfl p 9 (.bool s) [.bool s] rfl rfl rfl 61 _ HV2.out.blk HSB.out (Nat.le_of_ble_eq_true rfl) rfl ?_; intro w3 hX hO; have HO3 := az hO; have HV3 : Aside0 (Cn.Cv w3 ok ex p tb pp (.slice A c.kept.length cp) vs { c with sh := s }) := ⟨HV2.out.turn hO hX rfl rfl rfl⟩; clear hX hO)
    | (refine Wk.store rfl rfl 5 (.tmp 33) (.const (.int .u8 2)) rfl p 5 (.int .u8 2) [.int .u8 2] rfl rfl rfl 61 _ HV3.out.blk HS1.out (Nat.le_of_ble_eq_true rfl) rfl ?_; intro w4 hX hO; have HO4 := az hO; have HV4 : Aside0 (Cn.Cv w4 ok ex p tb pp (.slice A c.kept.length cp) vs { c with sh := s, st := 2 }) := ⟨HV3.out.turn hO hX rfl rfl rfl⟩; clear hX hO))
   go_ret2
   rw [HST.out]
   first | rw [if_pos trivial] | rw [if_pos rfl]
   exact ⟨rfl, ⟨pp, _, vs, HV4.out⟩, ((Cn.Fr.of_below HB2.out ok).trans (Cn.Fr.of_only HO3.out HV2.out.okp)).trans (Cn.Fr.of_only HO4.out HV2.out.okp)⟩
  ·have heb : (e == 0) = false := by simpa using he
   have HE := az he
   clear he
   go_wp2_with fail
   go_ret2
   rw [HST.out, if_neg HE.out]
   exact ⟨rfl, ⟨pp, _, vs, HV2.out⟩, Cn.Fr.of_below HB2.out ok⟩
 ·have e1 : (c.st == 1) = false := by simpa using h1
  have H1 := az h1
  clear h1
  by_cases h2 : c.st = 2
  ·have e2 : (c.st == 2) = true := by simpa using h2
   have H2 := az h2
   clear h2
   have HST : Aside0 (Cn.step l c = ((Gr.nx c.kept).2.2.1, (Gr.nx c.kept).2.2.2, if (Gr.nx c.kept).2.2.2 = 0 then Cn.option l c (Gr.nx c.kept).1 (Gr.nx c.kept).2.1 else c)) := ⟨by unfold Cn.step; rw [if_neg H1.out, if_pos H2.out]⟩
   obtain ⟨k, d, m, e, HNX⟩ : ∃ k d m e, Aside0 (Gr.nx c.kept = (k, d, m, e)) := ⟨_, _, _, _, ⟨rfl⟩⟩
   have HNK : Aside0 ((0 ≤ k ∧ k < 4294967296) ∧ d.length ≤ 1024 ∧ Sh.Bytes d) := ⟨by
    have hz : Sh.Bytes [] := fun x hx => by cases hx
    rcases Cn.nx_cases c.kept HO.out.by_ with q | q | q | ⟨k', m', h1, h2, h3, q⟩ <;> rw [HNX.out] at q <;> simp only [Prod.mk.injEq] at q <;> obtain ⟨q1, q2, _⟩ := q <;> rw [q1, q2]
    ·exact ⟨by decide, by simp, hz⟩
    ·exact ⟨by decide, by simp, hz⟩
    ·exact ⟨by decide, by simp, hz⟩
    ·exact ⟨h3, by rw [List.length_take]; omega, Cn.bytes_take (Cn.bytes_drop HO.out.by_ 16) m'⟩⟩
   rw [HNX.out] at HST
   simp only [] at HST
   go_wp2_with fail
   clear k3 k5 e1 e2
   refine (Cn.next_ (Kd.R_reads' HV.out.kept).2.2 HN.out HLN.out.2 HLN.out.1 HO.out.by_ HNX.out).mono ?_
   rintro e' w2 ⟨A2, c2, rfl, hR2, hb2⟩
   obtain ⟨nd, HND⟩ : ∃ n, Aside0 (d.length = n) := ⟨_, ⟨rfl⟩⟩
   rw [HND.out] at hR2 ⊢
   have HR2 := az hR2
   have HB2 := az hb2
   clear hR2 hb2
   have HB3 : Aside0 (Below w2.heap.size w2 (w2.alloc (.cells #[.int .u32 k, .slice A2 nd c2] 103))) := ⟨below_alloc (Below.refl _ _) _⟩
   have HX3 : Aside0 (Wk.Blk (w2.alloc (.cells #[.int .u32 k, .slice A2 nd c2] 103)) w2.heap.size 103 [.int .u32 k, .slice A2 nd c2]) := ⟨Wk.Blk.new w2 _ [.int .u32 k, .slice A2 nd c2]⟩
   have HBW := az (below_then HB2.out HB2.out.size HB3.out)
   have HC3 := az (HCN.out.below HBW.out)
   have HR3 := az (Kd.R_reads' (Kd.R_below HR2.out HB3.out))
   by_cases he : e = 0
   ·subst he
    have hl1 := Wk.run_load_blk (P := Tryz.prog) 103 w2.heap.size 0 [.int .u32 k, .slice A2 nd c2] _ HX3.out rfl Tryz.underlying103 rfl HSO.out
    go_wp2_with (refine Wk.load rfl 103 (.tmp 7) rfl (.agg #[.int .u32 k, .slice A2 nd c2]) (.pointer (some ⟨w2.heap.size, 0, none⟩)) rfl hl1 ?_)
    clear hl1
    refine (optc_.calls HC3.out (fun j hj => HF.out j (Nat.le_trans HBW.out.size hj)) HO.out.blk_ (HK.out.below HBW.out) (HT.out.below HBW.out) HW.out HNK.out.1 HR3.out.2.2 HND.out HR3.out.2.1 (by have := HNK.out.2.1; have := HND.out; omega) HNK.out.2.2 HS.out).mono ?_
    rintro e' w4 ⟨rfl, hc4, hf4⟩
    have HC4 := az hc4
    have HF4 := az ((Cn.Fr.of_below HBW.out ok).trans hf4)
    clear hc4 hf4
    go_wp2_with fail
    go_ret2
    rw [HST.out]
    first | rw [if_pos trivial] | rw [if_pos rfl]
    exact ⟨rfl, HC4.out, HF4.out⟩
   ·have heb : (e == 0) = false := by simpa using he
    have HE := az he
    clear he
    go_wp2_with fail
    go_ret2
    rw [HST.out, if_neg HE.out]
    exact ⟨rfl, HC3.out, Cn.Fr.of_below HBW.out ok⟩
  ·have e2 : (c.st == 2) = false := by simpa using h2
   have H2 := az h2
   clear h2
   by_cases h3 : c.st = 3
   ·have e3 : (c.st == 3) = true := by simpa using h3
    have H3 := az h3
    clear h3
    have HST : Aside0 (Cn.step l c = Cn.request c) := ⟨by unfold Cn.step; rw [if_neg H1.out, if_neg H2.out, if_pos H3.out]⟩
    go_wp2_with fail
    clear k3 k5 e1 e2 e3
    refine (reqc_.calls HCN.out HF.out HO.out).mono ?_
    rintro e' w2 ⟨rfl, hc2, hf2⟩
    have HC2 := az hc2
    have HF2 := az hf2
    clear hc2 hf2
    go_wp2_with fail
    go_ret2
    rw [HST.out]
    exact ⟨rfl, HC2.out, HF2.out⟩
   ·have e3 : (c.st == 3) = false := by simpa using h3
    have H3 := az h3
    clear h3
    have HST : Aside0 (Cn.step l c = (0, 80, c)) := ⟨by unfold Cn.step; rw [if_neg H1.out, if_neg H2.out, if_neg H3.out]⟩
    go_wp2_with fail
    go_ret2
    rw [HST.out]
    exact ⟨rfl, HCN.out, Cn.Fr.refl _ _⟩
namespace Cn
def kl (w : World) (p : Nat) : Nat := match w.cell? ⟨p, 3, none⟩ with | some (.slice _ n _) => n | _ => 0
theorem Cv.kl {W : World} {ok ex : Nat → Prop} {p tb pp : Nat} {vk vs : Value} {c : St} (h : Cv W ok ex p tb pp vk vs c) : kl W p = c.kept.length := by
  obtain ⟨A, cp, hv⟩ := Kd.R_slice h.kept
  have k3 := h.blk.at_ 3 rfl
  unfold Cn.kl
  rw [k3]
  show (match some vk with | some (.slice _ n _) => n | _ => 0) = _
  rw [hv]
theorem Cn.kl {W : World} {ok ex : Nat → Prop} {p tb : Nat} {c : St} (h : Cn W ok ex p tb c) : kl W p = c.kept.length := by
  obtain ⟨pp, vk, vs, h⟩ := h
  exact h.kl
theorem step_ok (l : List Ps.Tn) (c : St) (h : Ok c) : Ok (step l c).2.2 := by
  obtain ⟨f1, f2, f3, f4⟩ := step_facts l c h
  refine ⟨?_, ?_, f3, by rw [f1]; exact h.blk_⟩
  · rcases f4 with ⟨e, _⟩ | ⟨e, _⟩
    · rw [e]; exact h.by_
    · rw [e]; intro x hx; cases hx
  · rcases f4 with ⟨e, _⟩ | ⟨e, _⟩
    · rw [e]; exact h.len
    · rw [e]; exact Nat.zero_le _
theorem close_ok (c : St) (h : Ok c) : Ok (close c) := ⟨(fun x hx => by cases hx), Nat.zero_le _, (fun r hr => by cases hr), h.blk_⟩
theorem read_ok (l : List Ps.Tn) (K : Nat) (hK : 40000 ≤ K) : ∀ (n : Nat) (c : St), c.kept.length ≤ n → Ok c → Ok (read l c) ∧ (read l c).send.length ≤ c.send.length + K * (c.kept.length + 1) := by
  intro n
  induction n with
  | zero =>
    intro c hn h
    have f2 := (step_facts l c h).2.1
    have hk1 : K ≤ K * (c.kept.length + 1) := Nat.le_mul_of_pos_right _ (Nat.succ_pos _)
    rw [read_step l c h]
    split
    · exact ⟨step_ok l c h, by omega⟩
    · split
      · rename_i he
        split
        · exact ⟨step_ok l c h, by omega⟩
        · rename_i h4
          have h2 := (next_ok l c h he h4).2.1
          omega
      · exact ⟨close_ok _ (step_ok l c h), Nat.le_trans f2 (by omega)⟩
  | succ n ih =>
    intro c hn h
    have f2 := (step_facts l c h).2.1
    have hk1 : K ≤ K * (c.kept.length + 1) := Nat.le_mul_of_pos_right _ (Nat.succ_pos _)
    rw [read_step l c h]
    split
    · exact ⟨step_ok l c h, by omega⟩
    · split
      · rename_i he
        split
        · exact ⟨step_ok l c h, by omega⟩
        · rename_i h4
          obtain ⟨h1, h2, h3, _⟩ := next_ok l c h he h4
          obtain ⟨g1, g2⟩ := ih (nextSt l c) (by omega) h1
          have hk2 : K * ((nextSt l c).kept.length + 1) + K ≤ K * (c.kept.length + 1) := by
            rw [← Nat.mul_succ]
            exact Nat.mul_le_mul_left K (by omega)
          exact ⟨g1, by omega⟩
      · exact ⟨close_ok _ (step_ok l c h), Nat.le_trans f2 (by omega)⟩
theorem feed_ok (l : List Ps.Tn) (c : St) (b : List Int) (h : Ok c) (hb : Sh.Bytes b) : Ok (feed l c b) ∧ (feed l c b).send.length ≤ c.send.length + 5300000000 := by
  unfold feed
  split
  · exact ⟨h, by omega⟩
  · split
    · exact ⟨close_ok c h, Nat.le_add_right _ _⟩
    · rename_i hn
      have hl : (c.kept ++ b).length ≤ 131072 := by rw [List.length_append]; omega
      have hok : Ok { c with kept := c.kept ++ b } := ⟨fun x hx => (List.mem_append.1 hx).elim (h.by_ x) (hb x), hl, h.rs_, h.blk_⟩
      obtain ⟨g1, g2⟩ := read_ok l 40000 (Nat.le_refl _) _ _ (Nat.le_refl _) hok
      have g3 : (read l { c with kept := c.kept ++ b }).send.length ≤ c.send.length + 40000 * ((c.kept ++ b).length + 1) := g2
      exact ⟨g1, by omega⟩
theorem new_ok (b : Int) (hb : 0 ≤ b ∧ b ≤ 65535) : Ok (new b) := ⟨(fun x hx => by cases hx), Nat.zero_le _, (fun r hr => by cases hr), hb⟩
theorem hello_len : hello.length ≤ 8000 := packs_len4 _ _ (by simp)
end Cn
theorem readc_.calls {W : World} {ok ex : Nat → Prop} {p tb bs : Nat} {c : Cn.St} {l : List Ps.Tn} (h : Cn.Cn W ok ex p tb c) (hf : ∀ k, W.heap.size ≤ k → ok k) (hc : Cn.Ok c) (hW : ∀ x ∈ l, Ps.TnWf x) (w0 : World) (hKt : ∀ w', Below w0.heap.size w0 w' → Sh.Ks w' ∧ Ps.Tb w' bs tb l) (hBW : Below w0.heap.size w0 W) (hok : ∀ k, ok k → w0.heap.size ≤ k) (hs : c.send.length + 40000 * (c.kept.length + 1) ≤ 8000000000000) :
  Calls Tryz.prog 39 #[.pointer (some ⟨p, 0, none⟩)] W fun e w' => e = .returned (.tuple #[]) ∧ Cn.Cn w' ok ex p tb (Cn.read l c) ∧ Cn.Fr W w' ok := by
 have HCN := az h
 have HF := az hf
 have HO := az hc
 have HW := az hW
 have HKT := az hKt
 have HBW := az hBW
 have HOK := az hok
 have HS := az hs
 have HS2 := az Pi.size31
 have HFR : Aside0 (Cn.Fr W W ok) := ⟨Cn.Fr.refl _ _⟩
 clear h hf hc hW hKt hBW hok hs
 go_enter Tryz.func39, Tryz.ntmps39
 go_wp2_with fail
 have HRD : Aside0 (Cn.read l c = Cn.read l c) := ⟨rfl⟩
 go_loopw [2] (fun _ wr => ∃ c', Aside0 (Cn.Cn wr ok ex p tb c') ∧ Aside0 (Cn.Ok c') ∧ Aside0 (Cn.read l c' = Cn.read l c) ∧ Aside0 (Cn.Fr W wr ok) ∧ Aside0 (c'.send.length + 40000 * (c'.kept.length + 1) ≤ 8000000000000)) (fun _ w => Cn.kl w p)
 case atStart => exact ⟨c, HCN, HO, HRD, HFR, HS⟩
 case round =>
  clear HCN HO HRD HFR HS
  obtain ⟨c', HCN, HO, HRD, HFR, HS⟩ := hrel
  have HKL : Aside0 (Cn.kl wr p = c'.kept.length) := ⟨HCN.out.kl⟩
  have HB : Aside0 (Below w0.heap.size w0 wr) := ⟨HFR.out.below HBW.out HBW.out.size HOK.out⟩
  have HRS := az (Cn.read_step l c' HO.out)
  have HSF := az (Cn.step_facts l c' HO.out)
  have HNX := az (Cn.next_ok l c' HO.out)
  go_wp2_with fail
  refine (stepc_.calls HCN.out (fun j hj => HF.out j (Nat.le_trans HFR.out.size hj)) HO.out (HKT.out wr HB.out).1 (HKT.out wr HB.out).2 HW.out (by have := HS.out; omega)).mono ?_
  rintro e w2 ⟨rfl, hc2, hf2⟩
  obtain ⟨n, er, c2, HST⟩ : ∃ n er c2, Aside0 (Cn.step l c' = (n, er, c2)) := ⟨_, _, _, ⟨rfl⟩⟩
  have HNS : Aside0 (Cn.nextSt l c' = { c2 with kept := c2.kept.drop n.toNat }) := ⟨by unfold Cn.nextSt; rw [HST.out]⟩
  rw [HST.out] at hc2 HRS HSF HNX ⊢
  rw [HNS.out] at HRS HNX
  simp only [] at hc2 HRS HSF HNX ⊢
  have HC2 := az hc2
  have HF2 := az (HFR.out.trans hf2)
  clear hc2 hf2
  by_cases h70 : er = 70
  ·subst h70
   go_wp2_with fail
   refine bodyPost_ret (results_none rfl _ _ _) rfl ?_
   rw [← HRD.out, HRS.out]
   first | rw [if_pos (Or.inl rfl)] | rw [if_pos (Or.inl trivial)]
   exact ⟨rfl, HC2.out, HF2.out⟩
  ·have e70 : (er == 70) = false := by simpa using h70
   have H70 := az h70
   clear h70
   by_cases h80 : er = 80
   ·subst h80
    go_wp2_with fail
    refine bodyPost_ret (results_none rfl _ _ _) rfl ?_
    rw [← HRD.out, HRS.out]
    first | rw [if_pos (Or.inr rfl)] | rw [if_pos (Or.inr trivial)]
    exact ⟨rfl, HC2.out, HF2.out⟩
   ·have e80 : (er == 80) = false := by simpa using h80
    have H80 := az h80
    clear h80
    by_cases h0 : er = 0
    ·have e0 : (er == 0) = true := by simpa using h0
     have H0 := az h0
     clear h0
     obtain ⟨pp, vk, vs, hv⟩ := HC2.out
     obtain ⟨A, cp, rfl⟩ := Kd.R_slice hv.kept
     obtain ⟨m, HM⟩ : ∃ m, Aside0 (c2.kept.length = m) := ⟨_, ⟨rfl⟩⟩
     have k3 := hv.blk.at_ 3 rfl
     have k5 := hv.blk.at_ 5 rfl
     rw [HM.out] at k3
     have HV := az hv
     clear hv
     by_cases h4 : c2.st = 4
     ·have e4 : (c2.st == 4) = true := by simpa using h4
      have H4 := az h4
      clear h4
      go_wp2_with fail
      refine bodyPost_ret (results_none rfl _ _ _) rfl ?_
      rw [← HRD.out, HRS.out, if_neg (fun h => h.elim H70.out H80.out), if_pos H0.out, if_pos H4.out]
      exact ⟨rfl, HC2.out, HF2.out⟩
     ·have e4 : (c2.st == 4) = false := by simpa using h4
      have H4 := az h4
      clear h4
      have HRR : Aside0 (Cn.read l { c2 with kept := c2.kept.drop n.toNat } = Cn.read l c) := ⟨by rw [← HRD.out, HRS.out, if_neg (fun h => h.elim H70.out H80.out), if_pos H0.out, if_neg H4.out]⟩
      have HNN := az (HNX.out H0.out H4.out)
      obtain ⟨nn, rfl⟩ := Int.eq_ofNat_of_zero_le HNN.out.2.2.2.1
      have hnm : nn ≤ m := by have := HNN.out.2.2.2.2; have := HM.out; omega
      have hmc : m ≤ cp := by rw [← HM.out]; exact (Kd.R_reads' HV.out.kept).2.1
      rw [Int.toNat_natCast] at HRR HNN
      obtain ⟨A', hcut, hcutC⟩ := Wk.cut_from_ (P := Tryz.prog) 35 5 .i64 Tryz.underlying35 (by kernel_rfl) .u8 A cp c2.kept (nn : Int) nn rfl (by rw [HM.out]; exact hnm) (by rw [HM.out]; exact hmc)
      have HCC := az hcutC
      rw [HM.out] at hcut
      have h1 := hcut w2
      have HNM := az (And.intro hnm hmc)
      have hnmI : (nn : Int) ≤ m := by omega
      clear hcutC hcut hnm hmc
      go_wp2_with fail
      clear h1 k3 k5 hnmI
      have HML : Aside0 (m ≤ 131072) := ⟨by
       rw [← HM.out]
       rcases HSF.out.2.2.2 with ⟨e, _⟩ | ⟨e, _⟩
       ·rw [e]; exact HO.out.len
       ·rw [e]; exact Nat.zero_le _⟩
      have hdl : (c2.kept.drop nn).length = m - nn := by rw [List.length_drop, HM.out]
      have hcl := clone_.calls A' (cp - nn) (c2.kept.drop nn) (c2.kept.drop nn) w2 (HCC.out w2 (Kd.R_reads' HV.out.kept).2.2) (by rw [hdl]; have := HNM.out; omega) (by unfold clone_.f; rw [if_pos (by rw [hdl]; have := HML.out; omega)])
      rw [hdl] at hcl
      refine hcl.mono ?_
      rintro e w3 ⟨v3, rfl, hR3, hb3⟩
      obtain ⟨A3, c3, hv3⟩ := Kd.R_slice hR3
      rw [hdl] at hv3
      subst hv3
      have HR3 := az hR3
      have HV3 := az (HV.out.below hb3)
      have HB3 := az hb3
      clear hR3 hb3 hcl
      go_wp2_with (refine Wk.store rfl rfl 35 (.tmp 31) (.tmp 29) rfl p 3 (.slice A3 (m - nn) c3) [.slice A3 (m - nn) c3] rfl rfl rfl 61 _ HV3.out.blk HS2.out (Nat.le_of_ble_eq_true rfl) rfl ?_; intro w4 hX hO; have HO4 := az hO; have HX4 := az hX; clear hX hO)
      have HV4 : Aside0 (Cn.Cv w4 ok ex p tb pp (.slice A3 (m - nn) c3) vs { c2 with kept := c2.kept.drop nn }) := ⟨by
       have hfr : ∀ b, (Value.slice A3 (m - nn) c3).ownBlock = some b → w2.heap.size ≤ b := fun b hb => ((Kd.R_bound HR3.out).1 b hb).2.1
       have hr : Kd.R (Kd.int .u8) 5 w3 0 (fun k => ok k ∧ some k ≠ vs.ownBlock) (.slice A3 (m - nn) c3) (c2.kept.drop nn) :=
        Kd.R_lower (Kd.R_mono (Kd.R_bound HR3.out) (fun k hk => HV.out.freshS (fun j hj => HF.out j (Nat.le_trans HF2.out.size hj)) k hk.2.1)) (Nat.zero_le _)
       exact HV.out.keeps hr (grown_of_below HB3.out _) (fun b hb => .inr (hfr b hb)) HO4.out HX4.out rfl rfl rfl⟩
      have HF4 := az ((HF2.out.trans (Cn.Fr.of_below HB3.out ok)).trans (Cn.Fr.of_only HO4.out HV.out.okp))
      have HS4 : Aside0 (({ c2 with kept := c2.kept.drop nn } : Cn.St).send.length + 40000 * (({ c2 with kept := c2.kept.drop nn } : Cn.St).kept.length + 1) ≤ 8000000000000) := ⟨by
       have g1 : (c2.kept.drop nn).length + 4 ≤ c'.kept.length := HNN.out.2.1
       have g2 : c2.send.length ≤ c'.send.length + 40000 := HNN.out.2.2.1
       have g3 := HS.out
       show c2.send.length + 40000 * ((c2.kept.drop nn).length + 1) ≤ 8000000000000
       omega⟩
      refine ⟨⟨_, ⟨⟨pp, _, vs, HV4.out⟩⟩, ⟨HNN.out.1⟩, HRR, HF4, HS4⟩, ?_⟩
      rw [HKL.out, HV4.out.kl]
      have g1 : (c2.kept.drop nn).length + 4 ≤ c'.kept.length := HNN.out.2.1
      show (c2.kept.drop nn).length < c'.kept.length
      omega
    ·have e0 : (er == 0) = false := by simpa using h0
     have H0 := az h0
     clear h0
     go_wp2_with fail
     refine (close_.calls HC2.out).mono ?_
     rintro e w3 ⟨rfl, hc3, hf3⟩
     have HC3 := az hc3
     have HF3 := az (HF2.out.trans hf3)
     clear hc3 hf3
     go_wp2_with fail
     refine bodyPost_ret (results_none rfl _ _ _) rfl ?_
     rw [← HRD.out, HRS.out, if_neg (fun h => h.elim H70.out H80.out), if_neg H0.out]
     exact ⟨rfl, HC3.out, HF3.out⟩
namespace Cn
structure Ctx (w0 : World) (tb bs : Nat) (l : List Ps.Tn) : Prop where
  kt : ∀ w', Below w0.heap.size w0 w' → Sh.Ks w' ∧ Ps.Tb w' bs tb l
  wf : ∀ x ∈ l, Ps.TnWf x
end Cn
theorem feedc_.calls {W w0 : World} {ok ex : Nat → Prop} {p tb bs : Nat} {c : Cn.St} {l : List Ps.Tn} (hX : Cn.Ctx w0 tb bs l) (h : Cn.Cn W ok ex p tb c) (hf : ∀ k, W.heap.size ≤ k → ok k) (hc : Cn.Ok c) (hBW : Below w0.heap.size w0 W) (hok : ∀ k, ok k → w0.heap.size ≤ k) (hs : c.send.length ≤ 7000000000000) {A : Option Addr} {n cp : Nat} {b : List Int} (hb : Kd.C (Kd.int .u8) W A b.length b) (hn : b.length = n) (hcp : n ≤ cp) (hby : Sh.Bytes b) :
    Calls Tryz.prog 15 #[.pointer (some ⟨p, 0, none⟩), .slice A n cp] W fun e w' => e = .returned (.tuple #[]) ∧ Cn.Cn w' ok ex p tb (Cn.feed l c b) ∧ Cn.Fr W w' ok := by
  have HCN := az h
  obtain ⟨pp, vk, vs, hv⟩ := h
  obtain ⟨Ak, ck, rfl⟩ := Kd.R_slice hv.kept
  obtain ⟨m, HM⟩ : ∃ m, Aside0 (c.kept.length = m) := ⟨_, ⟨rfl⟩⟩
  have k3 := hv.blk.at_ 3 rfl
  have k5 := hv.blk.at_ 5 rfl
  rw [HM.out] at k3
  have HKM : Aside0 (Kd.R (Kd.int .u8) 5 W 0 (fun k => ok k ∧ some k ≠ vs.ownBlock) (.slice Ak m ck) c.kept) := ⟨by have := hv.kept; rwa [HM.out] at this⟩
  have HV := az hv
  have HX := az hX
  have HF := az hf
  have HO := az hc
  have HBW := az hBW
  have HOK := az hok
  have HS := az hs
  have HCB := az hb
  have HN := az hn
  have HCP := az hcp
  have HBY := az hby
  have HS2 := az Pi.size31
  have HML : Aside0 (m ≤ 131072) := ⟨by rw [← HM.out]; exact hc.len⟩
  clear hv hX hf hc hBW hok hs hb hn hcp hby
  go_enter Tryz.func15, Tryz.ntmps15
  by_cases h4 : c.st = 4
  · have e4 : (c.st == 4) = true := by simpa using h4
    have H4 := az h4
    clear h4
    go_wp2_with fail
    go_end0
    unfold Cn.feed
    rw [if_pos H4.out]
    exact ⟨rfl, HCN.out, Cn.Fr.refl _ _⟩
  · have e4 : (c.st == 4) = false := by simpa using h4
    have H4 := az h4
    clear h4
    by_cases hb1 : (n : Int) > 131072
    · have HB1 : Aside0 (131072 < n) := ⟨by omega⟩
      go_wp2_with fail
      clear k3 k5
      refine (close_.calls HCN.out).mono ?_
      rintro e w2 ⟨rfl, hc2, hf2⟩
      have HC2 := az hc2
      have HF2 := az hf2
      clear hc2 hf2
      go_wp2_with fail
      go_end0
      unfold Cn.feed
      rw [if_neg H4.out, if_pos (Or.inl (by rw [HN.out]; exact HB1.out))]
      exact ⟨rfl, HC2.out, HF2.out⟩
    · have hnI : (n : Int) ≤ 131072 := by omega
      have HNL : Aside0 (n ≤ 131072) := ⟨by omega⟩
      by_cases hb2 : (m : Int) > 131072 - (n : Int)
      · have HB2 : Aside0 (131072 < m + n) := ⟨by omega⟩
        go_wp2_with fail
        clear k3 k5
        refine (close_.calls HCN.out).mono ?_
        rintro e w2 ⟨rfl, hc2, hf2⟩
        have HC2 := az hc2
        have HF2 := az hf2
        clear hc2 hf2
        go_wp2_with fail
        go_end0
        unfold Cn.feed
        rw [if_neg H4.out, if_pos (Or.inr (by rw [HN.out, HM.out]; exact HB2.out))]
        exact ⟨rfl, HC2.out, HF2.out⟩
      · have HB2 : Aside0 (m + n ≤ 131072) := ⟨by omega⟩
        go_wp2_with (first
          | (at_builtin; refine Kd.R_append_rows (Kd.int .u8) (w0 := W) (W := W) 0 rfl (.tmp 8) (.tmp 9) 35 5 (.int .u8 0) 1 rfl Tryz.underlying35 Cn.infoByte rfl (by decide) (by omega) (.slice Ak m ck) c.kept b A n cp (fun k => ok k ∧ some k ≠ vs.ownBlock) (fun _ => False) rfl rfl HKM.out (by have := HCB.out; rw [HN.out] at this; exact this) (fun _ _ h => h) (fun _ h => h.elim) (HV.out.freshS HF.out) (Below.refl _ _) (Nat.zero_le _) (by rw [HM.out]; have := HB2.out; omega) ?_; intro v3 w3 hr3 _ hg3 hat3; obtain ⟨A3, c3, hv3⟩ := Kd.R_slice hr3; obtain ⟨L3, HL3⟩ : ∃ L, Aside0 ((c.kept ++ b).length = L) := ⟨_, ⟨rfl⟩⟩; rw [HL3.out] at hv3; subst hv3; have HR3 := az hr3; have HG3 := az hg3; have HA3 := az (Cn.hat_of hat3); have HX3 := az (HV.out.blk.grown hg3 (Kd.R_ne HKM.out HV.out.blk.out (by decide))); clear hr3 hg3 hat3 k3 k5)
          | (refine Wk.store rfl rfl 35 (.tmp 12) (.tmp 10) rfl p 3 (.slice A3 L3 c3) [.slice A3 L3 c3] rfl rfl rfl 61 _ HX3.out HS2.out (Nat.le_of_ble_eq_true rfl) rfl ?_; intro w4 hX hO; have HO4 := az hO; have HV4 : Aside0 (Cn.Cv w4 ok ex p tb pp (.slice A3 L3 c3) vs { c with kept := c.kept ++ b }) := ⟨HV.out.keeps HR3.out (by have := HG3.out; rwa [← HM.out] at this) (by have := HA3.out; rwa [← HM.out] at this) hO hX rfl rfl rfl⟩; clear hX hO))
        have HF4 : Aside0 (Cn.Fr W w4 ok) := ⟨(Cn.Fr.of_grown HG3.out (fun k hk => (HKM.out.1 k hk).1)).trans (Cn.Fr.of_only HO4.out HV.out.okp)⟩
        have HO5 : Aside0 (Cn.Ok { c with kept := c.kept ++ b }) := ⟨(fun x hx => (List.mem_append.1 hx).elim (HO.out.by_ x) (HBY.out x)), by show (c.kept ++ b).length ≤ _; rw [List.length_append, HM.out, HN.out]; exact HB2.out, HO.out.rs_, HO.out.blk_⟩
        have HL5 : Aside0 ((c.kept ++ b).length ≤ 131072) := ⟨by rw [List.length_append, HM.out, HN.out]; exact HB2.out⟩
        refine (readc_.calls (l := l) (bs := bs) ⟨pp, _, vs, HV4.out⟩ (fun j hj => HF.out j (Nat.le_trans HF4.out.size hj)) HO5.out HX.out.wf w0 HX.out.kt (HF4.out.below HBW.out HBW.out.size HOK.out) HOK.out (by
          have := HS.out
          have := HL5.out
          show c.send.length + 40000 * ((c.kept ++ b).length + 1) ≤ 8000000000000
          omega)).mono ?_
        rintro e w5 ⟨rfl, hc5, hf5⟩
        have HC5 := az hc5
        have HF5 := az (HF4.out.trans hf5)
        clear hc5 hf5
        go_wp2_with fail
        go_end0
        unfold Cn.feed
        rw [if_neg H4.out, if_neg (by rw [HN.out, HM.out]; have := HNL.out; have := HB2.out; omega)]
        exact ⟨rfl, HC5.out, HF5.out⟩
namespace Cn
theorem Cv.shrink {W : World} {ok ex : Nat → Prop} {p tb pp : Nat} {vk vs : Value} {c : St} (h : Cv W ok ex p tb pp vk vs c) (S : Nat → Prop) (hp : ¬ S p) (hq : ¬ S pp) (hk : ∀ k, vk.ownBlock = some k → ¬ S k) (hs : ∀ k, vs.ownBlock = some k → ¬ S k) : Cv W (fun k => ok k ∧ ¬ S k) (fun k => ok k ∨ ex k) p tb pp vk vs c :=
  ⟨h.blk, ⟨h.okp, hp⟩, ⟨h.okq, hq⟩, Kd.R_mono (R_own h.kept) (fun k hh => ⟨⟨(h.kept.1 k hh).1, hk k hh⟩, (h.kept.1 k hh).2⟩), Kd.R_mono (R_own h.send) (fun k hh => ⟨⟨(h.send.1 k hh).1, hs k hh⟩, (h.send.1 k hh).2⟩), h.pipe.mono (fun k hh => ⟨.inr hh.1, hh.2⟩)⟩
theorem apart_types {α β : Type} {d : Kd α} {d' : Kd β} {e e' : Nat} {W : World} {b b' : Nat} {ok ok' : Nat → Prop} {v v' : Value} {xs : List α} {ys : List β} (h : d.R e W b ok v xs) (h' : d'.R e' W b' ok' v' ys) (hne : e ≠ e') : ∀ k, v.ownBlock = some k → v'.ownBlock ≠ some k := fun k hk hk' => by
  obtain ⟨c1, h1⟩ := Kd.R_typed h k hk
  obtain ⟨c2, h2⟩ := Kd.R_typed h' k hk'
  rw [h1] at h2
  injection h2 with h2
  injection h2 with _ h2
  exact hne h2
def TkPost (rs : List Rq) (D : Nat → Prop) (k : Int) (e : Ending) (w' : World) : Prop :=
  ((k < 0 ∨ (rs.length : Int) ≤ k) ∧ e = .returned (.tuple #[.agg Pi.zrq.toArray, .bool false])) ∨
  ∃ (r : Rq) (v : Value), (0 ≤ k ∧ rs[k.toNat]? = some r) ∧ e = .returned (.tuple #[.agg (Pi.rqc r.1 r.2.1 r.2.2.1 r.2.2.2.1 r.2.2.2.2.1 v).toArray, .bool true]) ∧ Kd.R (Kd.int .u8) 5 w' 0 D v r.2.2.2.2.2
theorem answer_len (a ck : Int) (d : List Int) : (answer a ck d).length ≤ 8000 + d.length := by
  have := packs_len4 [4, 4, 8] [1732535960, a, ck] (by simp)
  unfold answer
  rw [List.length_append]
  omega
end Cn
theorem takec_.calls {W w0 : World} {ok ex : Nat → Prop} {p tb bs : Nat} {c : Cn.St} {l : List Ps.Tn} (hX : Cn.Ctx w0 tb bs l) (h : Cn.Cn W ok ex p tb c) (hf : ∀ k, W.heap.size ≤ k → ok k) (hc : Cn.Ok c) (hBW : Below w0.heap.size w0 W) (hok : ∀ k, ok k → w0.heap.size ≤ k) (hs : c.send.length ≤ 7000000000000) (k : Int) :
  Calls Tryz.prog 30 #[.pointer (some ⟨p, 0, none⟩), .int .i64 k] W fun e w' => Cn.TkPost c.rs (fun j => ok j ∨ ex j) k e w' ∧ Cn.Cn w' ok ex p tb (Cn.take l c k) ∧ Cn.Fr W w' ok := by
 obtain ⟨pp, vk, vs, hv⟩ := h
 have HV0 := az hv
 have HX := az hX
 have HF := az hf
 have HO := az hc
 have HBW := az hBW
 have HOK := az hok
 have HS := az hs
 have HSR := az Pi.size33
 have HB1 : Aside0 (Below W.heap.size W (W.alloc (.cells Pi.zrq.toArray 67))) := ⟨below_alloc (Below.refl _ _) _⟩
 have HX1 : Aside0 (Wk.Blk (W.alloc (.cells Pi.zrq.toArray 67)) W.heap.size 67 Pi.zrq) := ⟨Wk.Blk.new W _ _⟩
 have HV := az (HV0.out.bound.below HB1.out)
 have k0 := HV.out.blk.at_ 0 rfl
 change (W.alloc (.cells #[.int .u16 0, .int .u16 0, .int .u64 0, .int .u64 0, .int .u32 0, .slice none 0 0] 67)).cell? _ = _ at k0
 clear hv hX hf hc hBW hok hs
 go_enter Tryz.func30, Tryz.ntmps30
 go_wp2_with fail
 clear k0
 by_cases hk : k < 0 ∨ (c.rs.length : Int) ≤ k
 ·have HK := az hk
  refine (take_no HV.out.pipe k hk).mono ?_
  rintro e w2 ⟨rfl, hb2⟩
  obtain ⟨x1, x2, x3, x4, x5, Av, nv, cv, HZ⟩ : ∃ x1 x2 x3 x4 x5 Av nv cv, Aside0 (Pi.rqc x1 x2 x3 x4 x5 (.slice Av nv cv) = Pi.zrq ∧ Value.slice Av nv cv = .slice none 0 0) := ⟨0, 0, 0, 0, 0, none, 0, 0, ⟨rfl, rfl⟩⟩
  rw [← HZ.out.1]
  have HV2 := az (HV.out.below hb2)
  have HX2 := az (HX1.out.below_ hb2)
  have HF2 := az ((Cn.Fr.of_below HB1.out ok).trans (Cn.Fr.of_below hb2 ok))
  have HD2 : Aside0 (Kd.R (Kd.int .u8) 5 w2 0 (fun j => ok j ∨ ex j) (.slice Av nv cv) ([] : List Int)) := ⟨by rw [HZ.out.2]; exact Kd.R_nil _ _ _ _ _⟩
  have HAP : Aside0 ((∀ j, (Value.slice Av nv cv).ownBlock = some j → vk.ownBlock ≠ some j) ∧ (∀ j, (Value.slice Av nv cv).ownBlock = some j → vs.ownBlock ≠ some j)) := ⟨by rw [HZ.out.2]; exact ⟨fun j hj => (by cases hj), fun j hj => (by cases hj)⟩⟩
  have HO2 := HO
  obtain ⟨c1, HCE⟩ : ∃ c1 : Cn.St, Aside0 (c = c1) := ⟨_, ⟨rfl⟩⟩
  have HC1 : Aside0 (c1.send = c.send ∧ c1.kept = c.kept) := ⟨by rw [← HCE.out]; exact ⟨rfl, rfl⟩⟩
  rw [HCE.out] at HV2 HO2
  clear hb2 HV HX1 hk
  have HB3 := az (below_alloc (Below.refl w2.heap.size w2) (.cells Pi.zrq.toArray 67))
  have HX3 : Aside0 (Wk.Blk (w2.alloc (.cells Pi.zrq.toArray 67)) w2.heap.size 67 Pi.zrq) := ⟨Wk.Blk.new w2 _ _⟩
  go_wp2_with (refine Wk.store_all rfl rfl 67 (.tmp 6) (.tmp 15) rfl w2.heap.size (Pi.rqc x1 x2 x3 x4 x5 (.slice Av nv cv)) rfl rfl 67 _ HX3.out HSR.out rfl rfl ?_; intro w3 hX hO; have HX4 := az hX; have HB4 := az (Wk.Only.below HB3.out hO (Nat.le_refl _)); clear hX hO)
  obtain ⟨g6, HG6⟩ : ∃ g, Aside0 (w2.heap.size = g) := ⟨_, ⟨rfl⟩⟩
  obtain ⟨g4, HG4⟩ : ∃ g, Aside0 (W.heap.size = g) := ⟨_, ⟨rfl⟩⟩
  rw [HG6.out] at HX4 ⊢
  rw [HG4.out] at HX2 ⊢
  have HY3 := az (HX2.out.below_ HB4.out)
  have HV3 := az (HV2.out.below HB4.out)
  have HD3 := az (Cn.R_own (Kd.R_below HD2.out HB4.out))
  have HDK : Aside0 (∀ j, (Value.slice Av nv cv).ownBlock = some j → ok j ∨ ex j) := ⟨fun j hj => HD2.out.1 j hj⟩
  have HNG : Aside0 ((Value.slice Av nv cv).ownBlock ≠ some g4) := ⟨fun he => Kd.R_ne HD3.out HY3.out.out (by decide) he.symm⟩
  have HF3 := az (HF2.out.trans (Cn.Fr.of_below HB4.out ok))
  have HGG : Aside0 (g4 < g6 ∧ g6 < w3.heap.size ∧ (∀ j, (Value.slice Av nv cv).ownBlock = some j → j < w3.heap.size)) := ⟨by rw [← HG6.out]; exact HX2.out.lt, HX4.out.lt, fun j hj => ((Kd.R_bound HD3.out).1 j hj).2.2.1⟩
  have HS3 := az (HV3.out.shrink (fun j => j = g4 ∨ j = g6 ∨ (Value.slice Av nv cv).ownBlock = some j)
   (fun hh => hh.elim (fun e => by have := HV0.out.lt; have := HG4.out; omega) (fun hh => hh.elim (fun e => by have := HV0.out.lt; have := HG4.out; have := HGG.out.1; omega) (fun e => Kd.R_ne HD3.out HV3.out.blk.out (by decide) e.symm)))
   (fun hh => hh.elim (fun e => by have := HV0.out.pipe.lt; have := HG4.out; omega) (fun hh => hh.elim (fun e => by have := HV0.out.pipe.lt; have := HG4.out; have := HGG.out.1; omega) (fun e => by obtain ⟨cs, z, _⟩ := HV3.out.pipe.out; exact Kd.R_ne HD3.out z.out (by decide) e.symm)))
   (fun j hj hh => by have := ((Kd.R_bound HV0.out.kept).1 j hj).2.2.1; exact hh.elim (fun e => by have := HG4.out; omega) (fun hh => hh.elim (fun e => by have := HG4.out; have := HGG.out.1; omega) (fun e => HAP.out.1 j e hj)))
   (fun j hj hh => by have := ((Kd.R_bound HV0.out.send).1 j hj).2.2.1; exact hh.elim (fun e => by have := HG4.out; omega) (fun hh => hh.elim (fun e => by have := HG4.out; have := HGG.out.1; omega) (fun e => HAP.out.2 j e hj))))
  have HS4 : Aside0 (Cn.Cv w3 (fun j => ok j ∧ ¬ (j = g4 ∨ j = g6 ∨ (Value.slice Av nv cv).ownBlock = some j)) (fun j => (ok j ∨ ex j) ∧ ¬ (j = g4 ∨ j = g6)) p tb pp vk vs c1) := ⟨HS3.out.mono (fun j hj => ⟨hj.1.1, hj.2⟩) (fun j hj => .inr ⟨hj.imp And.left And.left, fun hh => by have h1 := hj.elim And.right And.right; have h2 := HG4.out; have h3 := HGG.out.1; omega⟩)⟩
  clear HX2 HV2 HD2 HF2 HX3 HB3 HB4 HV3 HAP HS3
  have HFS : Aside0 (∀ j, w3.heap.size ≤ j → ok j ∧ ¬ (j = g4 ∨ j = g6 ∨ (Value.slice Av nv cv).ownBlock = some j)) := ⟨fun j hj => ⟨HF.out j (Nat.le_trans HF3.out.size hj), fun hh => hh.elim (fun e => by have := HGG.out; omega) (fun hh => hh.elim (fun e => by have := HGG.out; omega) (fun e => by have := HGG.out.2.2 j e; omega))⟩⟩
  refine (readc_.calls (l := l) (bs := bs) ⟨pp, vk, vs, HS4.out⟩ HFS.out HO2.out HX.out.wf w0 HX.out.kt (HF3.out.below HBW.out HBW.out.size HOK.out) (fun j hj => HOK.out j hj.1) (by
   have := HS.out
   have h9 := HO.out.len
   rw [HC1.out.1, HC1.out.2]
   omega)).mono ?_
  rintro e w5 ⟨rfl, hc5, hf5⟩
  have HC5 := az hc5
  have HX5 := az (Cn.Blk_frame HX4.out hf5 (fun hh => hh.2 (.inr (.inl rfl))))
  have HY5 := az (Cn.Blk_frame HY3.out hf5 (fun hh => hh.2 (.inl rfl)))
  have HD5 := az (Cn.R_frame HD3.out hf5 (fun j hj hh => hh.2 (.inr (.inr hj))))
  have HF5 := az (HF3.out.trans (hf5.mono (fun j hj => hj.1)))
  clear hc5 hf5 HS4 HFS HX4 HY3 HD3 HF3
  go_wp2_with (first
   | refine Wk.load rfl 67 (.tmp 6) rfl (.agg (Pi.rqc x1 x2 x3 x4 x5 (.slice Av nv cv)).toArray) (.pointer (some ⟨g6, 0, none⟩)) rfl (Wk.run_load_blk (P := Tryz.prog) 67 g6 0 (Pi.rqc x1 x2 x3 x4 x5 (.slice Av nv cv)) _ HX5.out rfl Tryz.underlying67 rfl HSR.out) ?_
   | (refine Wk.store_all rfl rfl 67 (.tmp 4) (.tmp 19) rfl g4 (Pi.rqc x1 x2 x3 x4 x5 (.slice Av nv cv)) rfl rfl 67 _ HY5.out HSR.out rfl rfl ?_; intro w6 hX hO; have HX6 := az hX; have HO6 := az hO; clear hX hO))
  refine bodyPost_ret (Wk.res_ct rfl _ g4 67 _ _ rfl HX6.out Tryz.underlying67 rfl HSR.out) rfl ?_
  have HO7 : Cn.Fr w5 w6 (fun j => j = g4) := Cn.Fr.of_only HO6.out rfl
  have HC7 : Cn.Cn w6 ok ex p tb (Cn.read l c1) := (HC5.out.frame HO7 (fun j hj hh => hj.elim (fun h => h.2 (.inl hh)) (fun h => h.2 (.inl hh)))).mono (fun j hj => hj.1) (fun j hj => hj.1)
  have HF7 : Cn.Fr W w6 ok := HF5.out.trans (HO7.mono (fun j hj => by rw [hj, ← HG4.out]; exact HF.out _ (Nat.le_refl _)))
  have HD7 := Cn.R_frame HD5.out HO7 (fun j hj hh => HNG.out (by rw [← hh]; exact hj))
  refine ⟨.inl ⟨HK.out, congrArg (fun z => Ending.returned (.tuple #[.agg (List.toArray z), .bool false])) HZ.out.1⟩, ?_, HF7⟩
  unfold Cn.take
  rw [if_pos HK.out, HCE.out]
  exact HC7
 ·obtain ⟨i, rfl⟩ : ∃ i : Nat, k = i := ⟨k.toNat, by omega⟩
  have hi : i < c.rs.length := by omega
  have HK := az hi
  refine (take_yes HV.out.pipe i hi).mono ?_
  rintro e w2 ⟨cs, rfl, hm, hp, hg⟩
  obtain ⟨⟨x1, x2, x3, x4, x5, data⟩, HR⟩ : ∃ r, Aside0 (c.rs[i] = r) := ⟨_, ⟨rfl⟩⟩
  rw [HR.out] at hm
  obtain ⟨v, hcs, hd⟩ : ∃ v, cs = Pi.rqc x1 x2 x3 x4 x5 v ∧ Kd.R (Kd.int .u8) 5 w2 0 (fun k_1 => ((ok k_1 ∧ k_1 < W.heap.size) ∨ (ex k_1 ∧ k_1 < W.heap.size)) ∧ some k_1 ≠ vk.ownBlock ∧ some k_1 ≠ vs.ownBlock) v data := Pi.rq_Mc hm
  obtain ⟨Av, cv, rfl⟩ := Kd.R_slice hd
  obtain ⟨nv, HNV⟩ : ∃ n, Aside0 (data.length = n) := ⟨_, ⟨rfl⟩⟩
  rw [HNV.out] at hd hcs
  subst hcs
  obtain ⟨c1, HCE⟩ : ∃ c1 : Cn.St, Aside0 ({ c with rs := c.rs.eraseIdx i } = c1) := ⟨_, ⟨rfl⟩⟩
  have HC1 : Aside0 (c1.send = c.send ∧ c1.kept = c.kept) := ⟨by rw [← HCE.out]; exact ⟨rfl, rfl⟩⟩
  have HO2 : Aside0 (Cn.Ok c1) := ⟨by rw [← HCE.out]; exact ⟨HO.out.by_, HO.out.len, fun r hr => HO.out.rs_ r (List.mem_of_mem_eraseIdx hr), HO.out.blk_⟩⟩
  have HV2 : Aside0 (Cn.Cv w2 (fun k => ok k ∧ k < W.heap.size) (fun k => ex k ∧ k < W.heap.size) p tb pp vk vs c1) := ⟨by rw [← HCE.out]; exact HV.out.piped hp hg ⟨rfl, rfl, rfl, rfl⟩ rfl rfl rfl⟩
  have HX2 : Aside0 (Wk.Blk w2 W.heap.size 67 Pi.zrq) := ⟨HX1.out.grown hg (fun he => by have := HV0.out.pipe.lt; injection he with he; omega)⟩
  have HF2 : Aside0 (Cn.Fr W w2 ok) := ⟨(Cn.Fr.of_below HB1.out ok).trans (Cn.Fr.of_grown hg (fun j hj => by cases hj; exact HV0.out.okq))⟩
  have HD2 : Aside0 (Kd.R (Kd.int .u8) 5 w2 0 (fun j => ok j ∨ ex j) (.slice Av nv cv) data) := ⟨Kd.R_mono hd (fun j hj => hj.1.imp And.left And.left)⟩
  have HAP : Aside0 ((∀ j, (Value.slice Av nv cv).ownBlock = some j → vk.ownBlock ≠ some j) ∧ (∀ j, (Value.slice Av nv cv).ownBlock = some j → vs.ownBlock ≠ some j)) := ⟨⟨fun j hj he => (hd.1 j hj).2.1 he.symm, fun j hj he => (hd.1 j hj).2.2 he.symm⟩⟩
  clear hm hd hp hg HV HX1 hk
  have HB3 := az (below_alloc (Below.refl w2.heap.size w2) (.cells Pi.zrq.toArray 67))
  have HX3 : Aside0 (Wk.Blk (w2.alloc (.cells Pi.zrq.toArray 67)) w2.heap.size 67 Pi.zrq) := ⟨Wk.Blk.new w2 _ _⟩
  go_wp2_with (refine Wk.store_all rfl rfl 67 (.tmp 6) (.tmp 15) rfl w2.heap.size (Pi.rqc x1 x2 x3 x4 x5 (.slice Av nv cv)) rfl rfl 67 _ HX3.out HSR.out rfl rfl ?_; intro w3 hX hO; have HX4 := az hX; have HB4 := az (Wk.Only.below HB3.out hO (Nat.le_refl _)); clear hX hO)
  obtain ⟨g6, HG6⟩ : ∃ g, Aside0 (w2.heap.size = g) := ⟨_, ⟨rfl⟩⟩
  obtain ⟨g4, HG4⟩ : ∃ g, Aside0 (W.heap.size = g) := ⟨_, ⟨rfl⟩⟩
  rw [HG6.out] at HX4 ⊢
  rw [HG4.out] at HX2 ⊢
  have HY3 := az (HX2.out.below_ HB4.out)
  have HV3 := az (HV2.out.below HB4.out)
  have HD3 := az (Cn.R_own (Kd.R_below HD2.out HB4.out))
  have HDK : Aside0 (∀ j, (Value.slice Av nv cv).ownBlock = some j → ok j ∨ ex j) := ⟨fun j hj => HD2.out.1 j hj⟩
  have HNG : Aside0 ((Value.slice Av nv cv).ownBlock ≠ some g4) := ⟨fun he => Kd.R_ne HD3.out HY3.out.out (by decide) he.symm⟩
  have HF3 := az (HF2.out.trans (Cn.Fr.of_below HB4.out ok))
  have HGG : Aside0 (g4 < g6 ∧ g6 < w3.heap.size ∧ (∀ j, (Value.slice Av nv cv).ownBlock = some j → j < w3.heap.size)) := ⟨by rw [← HG6.out]; exact HX2.out.lt, HX4.out.lt, fun j hj => ((Kd.R_bound HD3.out).1 j hj).2.2.1⟩
  have HS3 := az (HV3.out.shrink (fun j => j = g4 ∨ j = g6 ∨ (Value.slice Av nv cv).ownBlock = some j)
   (fun hh => hh.elim (fun e => by have := HV0.out.lt; have := HG4.out; omega) (fun hh => hh.elim (fun e => by have := HV0.out.lt; have := HG4.out; have := HGG.out.1; omega) (fun e => Kd.R_ne HD3.out HV3.out.blk.out (by decide) e.symm)))
   (fun hh => hh.elim (fun e => by have := HV0.out.pipe.lt; have := HG4.out; omega) (fun hh => hh.elim (fun e => by have := HV0.out.pipe.lt; have := HG4.out; have := HGG.out.1; omega) (fun e => by obtain ⟨cs, z, _⟩ := HV3.out.pipe.out; exact Kd.R_ne HD3.out z.out (by decide) e.symm)))
   (fun j hj hh => by have := ((Kd.R_bound HV0.out.kept).1 j hj).2.2.1; exact hh.elim (fun e => by have := HG4.out; omega) (fun hh => hh.elim (fun e => by have := HG4.out; have := HGG.out.1; omega) (fun e => HAP.out.1 j e hj)))
   (fun j hj hh => by have := ((Kd.R_bound HV0.out.send).1 j hj).2.2.1; exact hh.elim (fun e => by have := HG4.out; omega) (fun hh => hh.elim (fun e => by have := HG4.out; have := HGG.out.1; omega) (fun e => HAP.out.2 j e hj))))
  have HS4 : Aside0 (Cn.Cv w3 (fun j => ok j ∧ ¬ (j = g4 ∨ j = g6 ∨ (Value.slice Av nv cv).ownBlock = some j)) (fun j => (ok j ∨ ex j) ∧ ¬ (j = g4 ∨ j = g6)) p tb pp vk vs c1) := ⟨HS3.out.mono (fun j hj => ⟨hj.1.1, hj.2⟩) (fun j hj => .inr ⟨hj.imp And.left And.left, fun hh => by have h1 := hj.elim And.right And.right; have h2 := HG4.out; have h3 := HGG.out.1; omega⟩)⟩
  clear HX2 HV2 HD2 HF2 HX3 HB3 HB4 HV3 HAP HS3
  have HFS : Aside0 (∀ j, w3.heap.size ≤ j → ok j ∧ ¬ (j = g4 ∨ j = g6 ∨ (Value.slice Av nv cv).ownBlock = some j)) := ⟨fun j hj => ⟨HF.out j (Nat.le_trans HF3.out.size hj), fun hh => hh.elim (fun e => by have := HGG.out; omega) (fun hh => hh.elim (fun e => by have := HGG.out; omega) (fun e => by have := HGG.out.2.2 j e; omega))⟩⟩
  refine (readc_.calls (l := l) (bs := bs) ⟨pp, vk, vs, HS4.out⟩ HFS.out HO2.out HX.out.wf w0 HX.out.kt (HF3.out.below HBW.out HBW.out.size HOK.out) (fun j hj => HOK.out j hj.1) (by
   have := HS.out
   have h9 := HO.out.len
   rw [HC1.out.1, HC1.out.2]
   omega)).mono ?_
  rintro e w5 ⟨rfl, hc5, hf5⟩
  have HC5 := az hc5
  have HX5 := az (Cn.Blk_frame HX4.out hf5 (fun hh => hh.2 (.inr (.inl rfl))))
  have HY5 := az (Cn.Blk_frame HY3.out hf5 (fun hh => hh.2 (.inl rfl)))
  have HD5 := az (Cn.R_frame HD3.out hf5 (fun j hj hh => hh.2 (.inr (.inr hj))))
  have HF5 := az (HF3.out.trans (hf5.mono (fun j hj => hj.1)))
  clear hc5 hf5 HS4 HFS HX4 HY3 HD3 HF3
  go_wp2_with (first
   | refine Wk.load rfl 67 (.tmp 6) rfl (.agg (Pi.rqc x1 x2 x3 x4 x5 (.slice Av nv cv)).toArray) (.pointer (some ⟨g6, 0, none⟩)) rfl (Wk.run_load_blk (P := Tryz.prog) 67 g6 0 (Pi.rqc x1 x2 x3 x4 x5 (.slice Av nv cv)) _ HX5.out rfl Tryz.underlying67 rfl HSR.out) ?_
   | (refine Wk.store_all rfl rfl 67 (.tmp 4) (.tmp 19) rfl g4 (Pi.rqc x1 x2 x3 x4 x5 (.slice Av nv cv)) rfl rfl 67 _ HY5.out HSR.out rfl rfl ?_; intro w6 hX hO; have HX6 := az hX; have HO6 := az hO; clear hX hO))
  refine bodyPost_ret (Wk.res_ct rfl _ g4 67 _ _ rfl HX6.out Tryz.underlying67 rfl HSR.out) rfl ?_
  have HO7 : Cn.Fr w5 w6 (fun j => j = g4) := Cn.Fr.of_only HO6.out rfl
  have HC7 : Cn.Cn w6 ok ex p tb (Cn.read l c1) := (HC5.out.frame HO7 (fun j hj hh => hj.elim (fun h => h.2 (.inl hh)) (fun h => h.2 (.inl hh)))).mono (fun j hj => hj.1) (fun j hj => hj.1)
  have HF7 : Cn.Fr W w6 ok := HF5.out.trans (HO7.mono (fun j hj => by rw [hj, ← HG4.out]; exact HF.out _ (Nat.le_refl _)))
  have HD7 := Cn.R_frame HD5.out HO7 (fun j hj hh => HNG.out (by rw [← hh]; exact hj))
  refine ⟨.inr ⟨(x1, x2, x3, x4, x5, data), _, ⟨by omega, by rw [Int.toNat_natCast, List.getElem?_eq_getElem HK.out, HR.out]⟩, rfl, Kd.R_mono HD7 (fun j hj => HDK.out j hj)⟩, ?_, HF7⟩
  unfold Cn.take
  rw [if_neg (by have := HK.out; omega), Int.toNat_natCast, HCE.out]
  exact HC7
theorem answerc_.calls {W : World} {ok ex : Nat → Prop} {p tb : Nat} {c : Cn.St} (h : Cn.Cn W ok ex p tb c) (hf : ∀ k, W.heap.size ≤ k → ok k) (r : Rq) (v : Value) {A : Option Addr} {n cp : Nat} {a : Int} {d : List Int} (ha : 0 ≤ a ∧ a < 4294967296) (hd : Kd.C (Kd.int .u8) W A d.length d) (hn : d.length = n) (hc : n ≤ cp) (hl : n ≤ 1000000) (hs : c.send.length ≤ 10000000000000) :
  Calls Tryz.prog 33 #[.pointer (some ⟨p, 0, none⟩), .agg (Pi.rqc r.1 r.2.1 r.2.2.1 r.2.2.2.1 r.2.2.2.2.1 v).toArray, .int .u32 a, .slice A n cp] W fun e w' => e = .returned (.tuple #[]) ∧ Cn.Cn w' ok ex p tb (Cn.answered c r a d) ∧ Cn.Fr W w' ok := by
 obtain ⟨x1, x2, ck, x4, x5, data⟩ := r
 obtain ⟨pp, vk, vs, hv⟩ := h
 have HV := az hv
 have HF := az hf
 have HA := az ha
 have HD := az hd
 have HN := az hn
 have HCP := az (And.intro hc hl)
 have HS := az hs
 have HS2 := az Pi.size31
 have HB1 : Aside0 (Below W.heap.size W (W.alloc (.cells (Pi.rqc x1 x2 ck x4 x5 v).toArray 67))) := ⟨below_alloc (Below.refl _ _) _⟩
 have HX1 : Aside0 (Wk.Blk (W.alloc (.cells (Pi.rqc x1 x2 ck x4 x5 v).toArray 67)) W.heap.size 67 (Pi.rqc x1 x2 ck x4 x5 v)) := ⟨Wk.Blk.new W _ _⟩
 have HV1 := az (HV.out.below HB1.out)
 have k5 := HV1.out.blk.at_ 5 rfl
 clear hv hf ha hd hn hc hl hs
 show Calls _ _ #[.pointer (some ⟨p, 0, none⟩), .agg (Pi.rqc x1 x2 ck x4 x5 v).toArray, .int .u32 a, .slice A n cp] _ _
 go_enter Tryz.func33, Tryz.ntmps33
 by_cases h3 : c.st = 3
 rotate_left
 ·have e3 : (c.st != 3) = true := by simpa using h3
  have H3 := az h3
  clear h3
  go_wp2_with fail
  refine bodyPost_ret (results_none rfl _ _ _) rfl ?_
  refine ⟨rfl, ?_, Cn.Fr.of_below HB1.out ok⟩
  unfold Cn.answered
  rw [if_pos H3.out]
  exact ⟨pp, vk, vs, HV1.out⟩
 have e3 : (c.st != 3) = false := by simpa using h3
 have H3 := az h3
 clear h3
 by_cases h0 : a = 0
 ·have e0 : (a != 0) = false := by simpa using h0
  have H0 := az h0
  clear h0
  go_wp2_with fail
  clear k5 e3
  generalize W.alloc (.cells (Pi.rqc x1 x2 ck x4 x5 v).toArray 67) = w1 at *
  obtain ⟨dd, HDD⟩ : ∃ dd, Aside0 (d = dd) := ⟨_, ⟨rfl⟩⟩
  obtain ⟨m, HM⟩ : ∃ m, Aside0 (dd.length = m ∧ m ≤ 1000000) := ⟨_, ⟨rfl, by rw [← HDD.out]; (rw [HN.out]; exact HCP.out.2)⟩⟩
  have HCD : Aside0 (∀ w', Below w1.heap.size w1 w' → Kd.C (Kd.int .u8) w' A m dd ∧ m ≤ cp ∧ Value.slice A n cp = Value.slice A m cp) := ⟨fun w' hb => by rw [← HM.out.1, ← HDD.out]; exact ⟨Kd.C_below HD.out (below_then HB1.out HB1.out.size hb), by rw [HN.out]; exact HCP.out.1, by rw [HN.out]⟩⟩
  rw [(HCD.out w1 (Below.refl _ _)).2.2]
  refine wp_region_noPanic ?_
  refine Rg.s1 14 (fun w' => Below w1.heap.size w1 w') [10, 13] (Below.refl _ _).drew #[false, false, false, false, false, false, false, false, false, false, false, false, false, false] (fun hHeld => ?_)
  refine Rg.p1 0 (.some 15) ?_
  refine Rg.p1 1 (.some 16) ?_
  refine Rg.p1 2 (.some 17) ?_
  refine Rg.p1 3 (.some 18) ?_
  refine Rg.t1 4 (.some 19) hHeld ?_ (hy := by intro w' hS'; (have c1 := (HV1.out.below hS').blk.at_ 4 rfl; go_simp); first | done | with_reducible rfl)
  refine Rg.p1 5 (.some 20) ?_
  refine Rg.p1 6 (.some 21) ?_
  refine Rg.t1 7 (.some 22) hHeld ?_ (hy := by intro w' hS'; (have c1 := (HX1.out.below_ hS').at_ 2 rfl; go_simp); first | done | with_reducible rfl)
  refine Rg.p1 8 (.some 23) ?_
  refine Rg.o1 9 (.some 24) (fun K hK => ?_)
  refine call_ 48 #[.int .u32 a, .int .u64 ck, .slice A m cp] (by rfl) rfl (by go_simp) ?_
  refine (Cn.answer_ HA.out (by rw [HM.out.1]; exact (HCD.out _ hHeld).1) HM.out.1 (HCD.out w1 (Below.refl _ _)).2.1 HM.out.2).mono ?_
  rintro e w2 ⟨A2, c2, rfl, hR2, hb2⟩
  have HR2 := az hR2
  have HB2 := az (below_then hHeld hHeld.size hb2)
  clear hR2 hb2
  refine ⟨_, rfl, ?_⟩
  refine hK.out _ _ HB2.out (fun hHeld => ?_)
  clear hK K
  refine Rg.n1 ?_
  have HV2 := az (HV1.out.below HB2.out)
  have HBW := az (below_then HB1.out HB1.out.size HB2.out)
  have HLR : Aside0 ((Cn.answer a ck dd).length ≤ 2000000) := ⟨by have := Cn.answer_len a ck dd; have := HM.out; omega⟩
  have HFS : Aside0 (∀ j, w2.heap.size ≤ j → ok j ∧ some j ≠ vk.ownBlock) := ⟨HV2.out.freshK (fun j hj => HF.out j (Nat.le_trans HBW.out.size hj))⟩
  refine Rg.l1 10 (.some 25) (fun K hK => ?_)
  refine Kd.R_append_rows_step (Kd.int .u8) (w0 := w2) (W := w2) 0 (by rfl) (.tmp 19) (.tmp 24) 35 5 (.int .u8 0) 1 rfl Tryz.underlying35 Cn.infoByte rfl (by decide) (by omega) vs c.send (Cn.answer a ck dd) A2 _ c2 (fun k => ok k ∧ some k ≠ vk.ownBlock) (fun _ => False) rfl rfl HV2.out.send (Kd.R_reads' HR2.out).2.2 (fun _ _ h => h) (fun _ h => h.elim) HFS.out (Below.refl _ _) (Nat.zero_le _) (by have := HS.out; have := HLR.out; omega) ?_
  intro v3 w3 hr3 _ hg3 hat3
  obtain ⟨A3, c3, hv3⟩ := Kd.R_slice hr3
  obtain ⟨L3, HL3⟩ : ∃ L, Aside0 ((c.send ++ Cn.answer a ck dd).length = L) := ⟨_, ⟨rfl⟩⟩
  rw [HL3.out] at hv3
  subst hv3
  have HR3 := az hr3
  have HG3 := az hg3
  have HA3 := az (Cn.hat_of hat3)
  have HX3 := az (HV2.out.blk.grown hg3 (Kd.R_ne HV2.out.send HV2.out.blk.out (by decide)))
  clear hr3 hg3 hat3
  refine hK.out _ _ ?_
  clear hK K
  refine Rg.n1 ?_
  refine Rg.p1 11 (.some 26) ?_
  refine Rg.p1 12 (.some 27) ?_
  refine Rg.l1 13 none (fun K hK => ?_)
  refine Wk.store_step (by rfl) rfl 35 (.tmp 27) (.tmp 25) rfl p 4 (.slice A3 L3 c3) [.slice A3 L3 c3] rfl rfl rfl 61 _ HX3.out HS2.out (Nat.le_of_ble_eq_true rfl) rfl ?_
  intro w4 hX hO
  have HO4 := az hO
  have HV4 : Aside0 (Cn.Cv w4 ok ex p tb pp vk (.slice A3 L3 c3) { c with send := c.send ++ Cn.answer a ck dd }) := ⟨HV2.out.sent HR3.out HG3.out HA3.out hO hX rfl rfl rfl⟩
  clear hX hO
  refine hK.out _ _ ?_
  clear hK K
  refine Rg.d1 ?_
  refine NoPanic.normal ?_
  go_wp2_with fail
  go_end0
  refine ⟨rfl, ?_, ((Cn.Fr.of_below HBW.out ok).trans (Cn.Fr.of_grown HG3.out HV2.out.okS)).trans (Cn.Fr.of_only HO4.out HV2.out.okp)⟩
  unfold Cn.answered
  rw [if_neg (fun h => h H3.out)]
  rw [if_pos H0.out, HDD.out]
  exact ⟨pp, vk, _, HV4.out⟩
 ·have e0 : (a != 0) = true := by simpa using h0
  have H0 := az h0
  clear h0
  go_wp2_with fail
  clear k5 e3
  generalize W.alloc (.cells (Pi.rqc x1 x2 ck x4 x5 v).toArray 67) = w1 at *
  obtain ⟨dd, HDD⟩ : ∃ dd, Aside0 (([] : List Int) = dd) := ⟨_, ⟨rfl⟩⟩
  obtain ⟨m, HM⟩ : ∃ m, Aside0 (dd.length = m ∧ m ≤ 1000000) := ⟨_, ⟨rfl, by rw [← HDD.out]; exact Nat.zero_le _⟩⟩
  have HCD : Aside0 (∀ w', Below w1.heap.size w1 w' → Kd.C (Kd.int .u8) w' none m dd ∧ m ≤ 0 ∧ Value.slice none 0 0 = Value.slice none m 0) := ⟨fun w' hb => by rw [← HM.out.1, ← HDD.out]; exact ⟨Kd.C_nil _ _, Nat.le_refl _, rfl⟩⟩
  rw [(HCD.out w1 (Below.refl _ _)).2.2]
  refine wp_region_noPanic ?_
  refine Rg.s1 14 (fun w' => Below w1.heap.size w1 w') [10, 13] (Below.refl _ _).drew #[false, false, false, false, false, false, false, false, false, false, false, false, false, false] (fun hHeld => ?_)
  refine Rg.p1 0 (.some 15) ?_
  refine Rg.p1 1 (.some 16) ?_
  refine Rg.p1 2 (.some 17) ?_
  refine Rg.p1 3 (.some 18) ?_
  refine Rg.t1 4 (.some 19) hHeld ?_ (hy := by intro w' hS'; (have c1 := (HV1.out.below hS').blk.at_ 4 rfl; go_simp); first | done | with_reducible rfl)
  refine Rg.p1 5 (.some 20) ?_
  refine Rg.p1 6 (.some 21) ?_
  refine Rg.t1 7 (.some 22) hHeld ?_ (hy := by intro w' hS'; (have c1 := (HX1.out.below_ hS').at_ 2 rfl; go_simp); first | done | with_reducible rfl)
  refine Rg.p1 8 (.some 23) ?_
  refine Rg.o1 9 (.some 24) (fun K hK => ?_)
  refine call_ 48 #[.int .u32 a, .int .u64 ck, .slice none m 0] (by rfl) rfl (by go_simp) ?_
  refine (Cn.answer_ HA.out (by rw [HM.out.1]; exact (HCD.out _ hHeld).1) HM.out.1 (HCD.out w1 (Below.refl _ _)).2.1 HM.out.2).mono ?_
  rintro e w2 ⟨A2, c2, rfl, hR2, hb2⟩
  have HR2 := az hR2
  have HB2 := az (below_then hHeld hHeld.size hb2)
  clear hR2 hb2
  refine ⟨_, rfl, ?_⟩
  refine hK.out _ _ HB2.out (fun hHeld => ?_)
  clear hK K
  refine Rg.n1 ?_
  have HV2 := az (HV1.out.below HB2.out)
  have HBW := az (below_then HB1.out HB1.out.size HB2.out)
  have HLR : Aside0 ((Cn.answer a ck dd).length ≤ 2000000) := ⟨by have := Cn.answer_len a ck dd; have := HM.out; omega⟩
  have HFS : Aside0 (∀ j, w2.heap.size ≤ j → ok j ∧ some j ≠ vk.ownBlock) := ⟨HV2.out.freshK (fun j hj => HF.out j (Nat.le_trans HBW.out.size hj))⟩
  refine Rg.l1 10 (.some 25) (fun K hK => ?_)
  refine Kd.R_append_rows_step (Kd.int .u8) (w0 := w2) (W := w2) 0 (by rfl) (.tmp 19) (.tmp 24) 35 5 (.int .u8 0) 1 rfl Tryz.underlying35 Cn.infoByte rfl (by decide) (by omega) vs c.send (Cn.answer a ck dd) A2 _ c2 (fun k => ok k ∧ some k ≠ vk.ownBlock) (fun _ => False) rfl rfl HV2.out.send (Kd.R_reads' HR2.out).2.2 (fun _ _ h => h) (fun _ h => h.elim) HFS.out (Below.refl _ _) (Nat.zero_le _) (by have := HS.out; have := HLR.out; omega) ?_
  intro v3 w3 hr3 _ hg3 hat3
  obtain ⟨A3, c3, hv3⟩ := Kd.R_slice hr3
  obtain ⟨L3, HL3⟩ : ∃ L, Aside0 ((c.send ++ Cn.answer a ck dd).length = L) := ⟨_, ⟨rfl⟩⟩
  rw [HL3.out] at hv3
  subst hv3
  have HR3 := az hr3
  have HG3 := az hg3
  have HA3 := az (Cn.hat_of hat3)
  have HX3 := az (HV2.out.blk.grown hg3 (Kd.R_ne HV2.out.send HV2.out.blk.out (by decide)))
  clear hr3 hg3 hat3
  refine hK.out _ _ ?_
  clear hK K
  refine Rg.n1 ?_
  refine Rg.p1 11 (.some 26) ?_
  refine Rg.p1 12 (.some 27) ?_
  refine Rg.l1 13 none (fun K hK => ?_)
  refine Wk.store_step (by rfl) rfl 35 (.tmp 27) (.tmp 25) rfl p 4 (.slice A3 L3 c3) [.slice A3 L3 c3] rfl rfl rfl 61 _ HX3.out HS2.out (Nat.le_of_ble_eq_true rfl) rfl ?_
  intro w4 hX hO
  have HO4 := az hO
  have HV4 : Aside0 (Cn.Cv w4 ok ex p tb pp vk (.slice A3 L3 c3) { c with send := c.send ++ Cn.answer a ck dd }) := ⟨HV2.out.sent HR3.out HG3.out HA3.out hO hX rfl rfl rfl⟩
  clear hX hO
  refine hK.out _ _ ?_
  clear hK K
  refine Rg.d1 ?_
  refine NoPanic.normal ?_
  go_wp2_with fail
  go_end0
  refine ⟨rfl, ?_, ((Cn.Fr.of_below HBW.out ok).trans (Cn.Fr.of_grown HG3.out HV2.out.okS)).trans (Cn.Fr.of_only HO4.out HV2.out.okp)⟩
  unfold Cn.answered
  rw [if_neg (fun h => h H3.out)]
  rw [if_neg H0.out, HDD.out]
  exact ⟨pp, vk, _, HV4.out⟩
namespace Cn
structure RCtx (w0 : World) (tb bs : Nat) (l : List Ps.Tn) : Prop where
  rt : ∀ w', Below w0.heap.size w0 w' → Ps.Tr w' bs tb l
  wf : ∀ x ∈ l, Ps.TnWf x
  few : l.length ≤ 70
def rkl (w : World) (p : Nat) : Nat := match w.cell? ⟨p, 2, none⟩ with | some (.slice _ n _) => n | _ => 0
theorem Rv.rkl {W : World} {ok ex : Nat → Prop} {p tb pp : Nat} {vk vs vp : Value} {c : St} (h : Rv W ok ex p tb pp vk vs vp c) : rkl W p = c.kept.length := by
  obtain ⟨A, cp, hv⟩ := Kd.R_slice h.kept
  have k3 := h.blk.at_ 2 rfl
  unfold Cn.rkl
  rw [k3]
  show (match some vk with | some (.slice _ n _) => n | _ => 0) = _
  rw [hv]
theorem Rn.rkl {W : World} {ok ex : Nat → Prop} {p tb : Nat} {c : St} (h : Rn W ok ex p tb c) : rkl W p = c.kept.length := by
  obtain ⟨pp, vk, vs, vp, h⟩ := h
  exact h.rkl
theorem Rv.shrink {W : World} {ok ex : Nat → Prop} {p tb pp : Nat} {vk vs vp : Value} {c : St} (h : Rv W ok ex p tb pp vk vs vp c) (S : Nat → Prop) (hp : ¬ S p) (hq : ¬ S pp) (hk : ∀ k, vk.ownBlock = some k → ¬ S k) (hs : ∀ k, vs.ownBlock = some k → ¬ S k) (hr : ∀ k, vp.ownBlock = some k → ¬ S k) : Rv W (fun k => ok k ∧ ¬ S k) (fun k => ok k ∨ ex k) p tb pp vk vs vp c :=
  ⟨h.blk, ⟨h.okp, hp⟩, ⟨h.okq, hq⟩, fun k hh => ⟨h.okr k hh, hr k hh⟩, Kd.R_mono (R_own h.kept) (fun k hh => ⟨⟨(h.kept.1 k hh).1, hk k hh⟩, (h.kept.1 k hh).2⟩), Kd.R_mono (R_own h.send) (fun k hh => ⟨⟨(h.send.1 k hh).1, hs k hh⟩, (h.send.1 k hh).2⟩), h.pb, h.few, Kd.R_mono h.row (fun k hh => ⟨.inr hh.1, hh.2⟩)⟩
end Cn
theorem rreadsc_.calls {W : World} {ok ex : Nat → Prop} {p tb bs : Nat} {c : Cn.St} {l : List Ps.Tn} (h : Cn.Rn W ok ex p tb c) (hf : ∀ k, W.heap.size ≤ k → ok k) (hc : Cn.Ok c) {w0 : World} (hX : Cn.RCtx w0 tb bs l) (hBW : Below w0.heap.size w0 W) (hok : ∀ k, ok k → w0.heap.size ≤ k) (hs : c.send.length + 40000 * (c.kept.length + 1) ≤ 8000000000000) :
  Calls Tryz.prog 47 #[.pointer (some ⟨p, 0, none⟩)] W fun e w' => e = .returned (.tuple #[]) ∧ Cn.Rn w' ok ex p tb (Cn.read l c) ∧ Cn.Fr W w' ok := by
 have HCN := az h
 have HF := az hf
 have HO := az hc
 have HX := az hX
 have HBW := az hBW
 have HOK := az hok
 have HS := az hs
 have HFR : Aside0 (Cn.Fr W W ok) := ⟨Cn.Fr.refl _ _⟩
 clear h hf hc hX hBW hok hs
 go_enter Tryz.func47, Tryz.ntmps47
 go_wp2_with fail
 have HRD : Aside0 (Cn.read l c = Cn.read l c) := ⟨rfl⟩
 go_loopw [2] (fun _ wr => ∃ c', Aside0 (Cn.Rn wr ok ex p tb c') ∧ Aside0 (Cn.Ok c') ∧ Aside0 (Cn.read l c' = Cn.read l c) ∧ Aside0 (Cn.Fr W wr ok) ∧ Aside0 (c'.send.length + 40000 * (c'.kept.length + 1) ≤ 8000000000000)) (fun _ w => Cn.rkl w p)
 case atStart => exact ⟨c, HCN, HO, HRD, HFR, HS⟩
 case round =>
  clear HCN HO HRD HFR HS
  obtain ⟨c', HCN, HO, HRD, HFR, HS⟩ := hrel
  have HKL : Aside0 (Cn.rkl wr p = c'.kept.length) := ⟨HCN.out.rkl⟩
  have HB : Aside0 (Below w0.heap.size w0 wr) := ⟨HFR.out.below HBW.out HBW.out.size HOK.out⟩
  go_wp2_with fail
  refine (rstepc_.calls HCN.out (fun j hj => HF.out j (Nat.le_trans HFR.out.size hj)) HO.out (HX.out.rt wr HB.out) (fun w' hf' => HX.out.rt w' (hf'.below HB.out HB.out.size HOK.out)) HX.out.few HX.out.wf (by have := HS.out; omega)).mono ?_
  rintro e w2 ⟨rfl, hc2, hf2⟩
  obtain ⟨b, c2, HST⟩ : ∃ b c2, Aside0 (Cn.rstep l c' = (b, c2)) := ⟨_, _, ⟨rfl⟩⟩
  rw [HST.out] at hc2 ⊢
  simp only [] at hc2 ⊢
  have HC2 := az hc2
  have HF2 := az (HFR.out.trans hf2)
  clear hc2 hf2
  cases b with
  | false =>
   have HE : Aside0 (c2 = Cn.read l c) := ⟨by have := Cn.rstep_no l c' HO.out (by rw [HST.out]); rw [HST.out] at this; exact this.trans HRD.out⟩
   go_wp2_with fail
   refine bodyPost_ret (results_none rfl _ _ _) rfl ?_
   rw [← HE.out]
   exact ⟨rfl, HC2.out, HF2.out⟩
  | true =>
   have HG := az (Cn.rstep_go l c' HO.out (by rw [HST.out]) (Cn.read_ok l 40000 (Nat.le_refl _) _ c' (Nat.le_refl _) HO.out).1)
   rw [HST.out] at HG
   have HS4 : Aside0 (c2.send.length + 40000 * (c2.kept.length + 1) ≤ 8000000000000) := ⟨by
    have g1 : c2.kept.length < c'.kept.length := HG.out.2.1
    have g2 : c2.send.length ≤ c'.send.length + 40000 := HG.out.2.2.1
    have g3 := HS.out
    omega⟩
   have HRR : Aside0 (Cn.read l c2 = Cn.read l c) := ⟨HG.out.2.2.2.trans HRD.out⟩
   go_wp2_with fail
   refine ⟨⟨c2, HC2, ⟨HG.out.1⟩, HRR, HF2, HS4⟩, ?_⟩
   rw [HKL.out, HC2.out.rkl]
   exact HG.out.2.1
theorem rfeedc_.calls {W w0 : World} {ok ex : Nat → Prop} {p tb bs : Nat} {c : Cn.St} {l : List Ps.Tn} (hX : Cn.RCtx w0 tb bs l) (h : Cn.Rn W ok ex p tb c) (hf : ∀ k, W.heap.size ≤ k → ok k) (hc : Cn.Ok c) (hBW : Below w0.heap.size w0 W) (hok : ∀ k, ok k → w0.heap.size ≤ k) (hs : c.send.length ≤ 7000000000000) {A : Option Addr} {n cp : Nat} {b : List Int} (hb : Kd.C (Kd.int .u8) W A b.length b) (hn : b.length = n) (hcp : n ≤ cp) (hby : Sh.Bytes b) :
  Calls Tryz.prog 36 #[.pointer (some ⟨p, 0, none⟩), .slice A n cp] W fun e w' => e = .returned (.tuple #[]) ∧ Cn.Rn w' ok ex p tb (Cn.feed l c b) ∧ Cn.Fr W w' ok := by
 have HCN := az h
 obtain ⟨pp, vk, vs, vp, hv⟩ := h
 obtain ⟨Ak, ck, rfl⟩ := Kd.R_slice hv.kept
 obtain ⟨m, HM⟩ : ∃ m, Aside0 (c.kept.length = m) := ⟨_, ⟨rfl⟩⟩
 have k3 := hv.blk.at_ 2 rfl
 have k5 := hv.blk.at_ 5 rfl
 rw [HM.out] at k3
 have HRK := az (Kd.R_reads' hv.kept)
 rw [HM.out] at HRK
 have HV := az hv
 have HX := az hX
 have HF := az hf
 have HO := az hc
 have HBW := az hBW
 have HOK := az hok
 have HS := az hs
 have HCB := az hb
 have HN := az hn
 have HCP := az hcp
 have HBY := az hby
 have HS2 := az Pi.size31
 have HML : Aside0 (m ≤ 131072) := ⟨by rw [← HM.out]; exact hc.len⟩
 clear hv hX hf hc hBW hok hs hb hn hcp hby
 go_enter Tryz.func36, Tryz.ntmps36
 by_cases h4 : c.st = 4
 ·have e4 : (c.st == 4) = true := by simpa using h4
  have H4 := az h4
  clear h4
  go_wp2_with fail
  refine bodyPost_ret (results_none rfl _ _ _) rfl ?_
  unfold Cn.feed
  rw [if_pos H4.out]
  exact ⟨rfl, HCN.out, Cn.Fr.refl _ _⟩
 have e4 : (c.st == 4) = false := by simpa using h4
 have H4 := az h4
 clear h4
 by_cases hb1 : (n : Int) > 131072
 ·have HB1 : Aside0 (131072 < n) := ⟨by omega⟩
  go_wp2_with fail
  clear k3 k5
  refine (rclose_.calls HCN.out).mono ?_
  rintro e w2 ⟨rfl, hc2, hf2⟩
  have HC2 := az hc2
  have HF2 := az hf2
  clear hc2 hf2
  go_wp2_with fail
  refine bodyPost_ret (results_none rfl _ _ _) rfl ?_
  unfold Cn.feed
  rw [if_neg H4.out, if_pos (Or.inl (by rw [HN.out]; exact HB1.out))]
  exact ⟨rfl, HC2.out, HF2.out⟩
 have hnI : (n : Int) ≤ 131072 := by omega
 have HNL : Aside0 (n ≤ 131072) := ⟨by omega⟩
 by_cases hb2 : (m : Int) > 131072 - (n : Int)
 ·have HB2 : Aside0 (131072 < m + n) := ⟨by omega⟩
  go_wp2_with fail
  clear k3 k5
  refine (rclose_.calls HCN.out).mono ?_
  rintro e w2 ⟨rfl, hc2, hf2⟩
  have HC2 := az hc2
  have HF2 := az hf2
  clear hc2 hf2
  go_wp2_with fail
  refine bodyPost_ret (results_none rfl _ _ _) rfl ?_
  unfold Cn.feed
  rw [if_neg H4.out, if_pos (Or.inr (by rw [HN.out, HM.out]; exact HB2.out))]
  exact ⟨rfl, HC2.out, HF2.out⟩
 have HB2 : Aside0 (m + n ≤ 131072) := ⟨by omega⟩
 have HRN : Aside0 (Kd.R (Kd.int .u8) 5 W W.heap.size (fun _ => True) (.slice none 0 0) ([] : List Int)) := ⟨Kd.R_nil _ _ _ _ _⟩
 have HLA : Aside0 ((([] : List Int).length + m) * 1 ≤ 140737488355328 ∧ (c.kept.length + n) * 1 ≤ 140737488355328) := ⟨by have := HB2.out; have := HM.out; simp; omega⟩
 have HCB' : Aside0 (Kd.C (Kd.int .u8) W A n b) := ⟨by have := HCB.out; rwa [HN.out] at this⟩
 go_wp2_with (first
  | (at_builtin; refine Kd.R_append_rows (Kd.int .u8) (w0 := W) W.heap.size rfl (.tmp 26) (.tmp 30) 35 5 (.int .u8 0) 1 rfl Tryz.underlying35 Cl.infoByte rfl (by decide) (by decide) (.slice none 0 0) ([] : List Int) c.kept Ak m ck (fun _ => True) (fun _ => False) rfl rfl HRN.out HRK.out.2.2 (fun _ _ h => h) (fun _ h => h.elim) (fun _ _ => trivial) (Below.refl _ _) (Nat.le_refl _) HLA.out.1 ?_; intro v4 w4 hr4 hb4 _ _; rw [List.nil_append] at hr4; obtain ⟨A4, c4, rfl⟩ := Kd.R_slice hr4; rw [HM.out] at hr4 ⊢; have HR4 := az hr4; have HB4 := az hb4; clear hr4 hb4)
  | (at_builtin; refine Kd.R_append_rows (Kd.int .u8) (w0 := W) W.heap.size rfl (.tmp 32) (.tmp 33) 35 5 (.int .u8 0) 1 rfl Tryz.underlying35 Cl.infoByte rfl (by decide) (by decide) (.slice A4 m c4) c.kept b A n cp (fun _ => True) (fun _ => False) rfl rfl HR4.out (Kd.C_below HCB'.out HB4.out) (fun _ _ h => h) (fun _ h => h.elim) (fun _ _ => trivial) HB4.out HB4.out.size HLA.out.2 ?_; intro v5 w5 hr5 hb5 _ _; obtain ⟨A5, c5, hv5⟩ := Kd.R_slice hr5; obtain ⟨L5, HL5⟩ : ∃ L, Aside0 ((c.kept ++ b).length = L) := ⟨_, ⟨rfl⟩⟩; rw [HL5.out] at hv5; subst hv5; have HR5 := az hr5; have HB5 := az hb5; have HV5 := az (HV.out.below hb5); clear hr5 hb5 k3 k5)
  | (refine Wk.store rfl rfl 35 (.tmp 38) (.tmp 36) rfl p 2 (.slice A5 L5 c5) [.slice A5 L5 c5] rfl rfl rfl 65 _ HV5.out.blk HS2.out (Nat.le_of_ble_eq_true rfl) rfl ?_; intro w6 hX hO; have HO6 := az hO; have HX6 := az hX; clear hX hO))
 have hbd := Kd.R_bound HR5.out
 have HV6 : Aside0 (Cn.Rv w6 ok ex p tb pp (.slice A5 L5 c5) vs vp { c with kept := c.kept ++ b }) := ⟨HV.out.keeps (W1 := w5) (c' := { c with kept := c.kept ++ b }) (Kd.R_mono (Kd.R_lower hbd (Nat.zero_le _)) (fun k hk => HV.out.freshS HF.out k hk.2.1)) (grown_of_below HB5.out _) (fun j hj => .inr (hbd.1 j hj).2.1) HO6.out HX6.out rfl rfl rfl⟩
 have HF6 : Aside0 (Cn.Fr W w6 ok) := ⟨(Cn.Fr.of_below HB5.out ok).trans (Cn.Fr.of_only HO6.out HV.out.okp)⟩
 have HO5 : Aside0 (Cn.Ok { c with kept := c.kept ++ b }) := ⟨(fun x hx => (List.mem_append.1 hx).elim (HO.out.by_ x) (HBY.out x)), by show (c.kept ++ b).length ≤ _; rw [List.length_append, HM.out, HN.out]; exact HB2.out, HO.out.rs_, HO.out.blk_⟩
 have HLL : Aside0 ((c.kept ++ b).length ≤ 131072) := ⟨by rw [List.length_append, HM.out, HN.out]; exact HB2.out⟩
 clear hbd HR5 HO6 HX6 HV5 HRN HLA HR4 HB4
 refine (rreadsc_.calls (l := l) (bs := bs) ⟨pp, _, vs, vp, HV6.out⟩ (fun j hj => HF.out j (Nat.le_trans HF6.out.size hj)) HO5.out HX.out (HF6.out.below HBW.out HBW.out.size HOK.out) HOK.out (by
  have := HS.out
  have := HLL.out
  show c.send.length + 40000 * ((c.kept ++ b).length + 1) ≤ 8000000000000
  omega)).mono ?_
 rintro e w7 ⟨rfl, hc7, hf7⟩
 have HC7 := az hc7
 have HF7 := az (HF6.out.trans hf7)
 clear hc7 hf7
 go_wp2_with fail
 go_end0
 unfold Cn.feed
 rw [if_neg H4.out, if_neg (by rw [HN.out, HM.out]; have := HNL.out; have := HB2.out; omega)]
 exact ⟨rfl, HC7.out, HF7.out⟩
theorem rtakec_.calls {W w0 : World} {ok ex : Nat → Prop} {p tb bs : Nat} {c : Cn.St} {l : List Ps.Tn} (hX : Cn.RCtx w0 tb bs l) (h : Cn.Rn W ok ex p tb c) (hf : ∀ k, W.heap.size ≤ k → ok k) (hc : Cn.Ok c) (hBW : Below w0.heap.size w0 W) (hok : ∀ k, ok k → w0.heap.size ≤ k) (hs : c.send.length ≤ 7000000000000) (k : Int) :
  Calls Tryz.prog 31 #[.pointer (some ⟨p, 0, none⟩), .int .i64 k] W fun e w' => Cn.TkPost c.rs (fun j => ok j ∨ ex j) k e w' ∧ Cn.Rn w' ok ex p tb (Cn.take l c k) ∧ Cn.Fr W w' ok := by
 obtain ⟨pp, vk, vs, vp, hv⟩ := h
 have HV0 := az hv
 have HX := az hX
 have HF := az hf
 have HO := az hc
 have HBW := az hBW
 have HOK := az hok
 have HS := az hs
 have HSR := az Pi.size33
 have HB1 : Aside0 (Below W.heap.size W (W.alloc (.cells Pi.zrq.toArray 67))) := ⟨below_alloc (Below.refl _ _) _⟩
 have HX1 : Aside0 (Wk.Blk (W.alloc (.cells Pi.zrq.toArray 67)) W.heap.size 67 Pi.zrq) := ⟨Wk.Blk.new W _ _⟩
 have HV : Aside0 (Cn.Rv (W.alloc (.cells Pi.zrq.toArray 67)) (fun k => ok k ∧ k ≠ W.heap.size) (fun k => ex k ∧ k < W.heap.size) p tb pp vk vs vp c) := ⟨(HV0.out.bound.below HB1.out).mono (fun k hk => ⟨hk.1, Nat.ne_of_lt hk.2⟩) (fun k hk => .inr hk)⟩
 have HF1 : Aside0 (∀ k, (W.alloc (.cells Pi.zrq.toArray 67)).heap.size ≤ k → ok k ∧ k ≠ W.heap.size) := ⟨fun k hk => ⟨HF.out k (Nat.le_trans HB1.out.size hk), by have := HX1.out.lt; omega⟩⟩
 have k0 := HV.out.blk.at_ 4 rfl
 change (W.alloc (.cells #[.int .u16 0, .int .u16 0, .int .u64 0, .int .u64 0, .int .u32 0, .slice none 0 0] 67)).cell? _ = _ at k0
 clear hv hX hf hc hBW hok hs
 go_enter Tryz.func31, Tryz.ntmps31
 go_wp2_with fail
 clear k0
 by_cases hk : k < 0 ∨ (c.rs.length : Int) ≤ k
 ·have HK := az hk
  refine (rtake_no HV.out.rf k hk).mono ?_
  rintro e w2 ⟨rfl, hb2⟩
  obtain ⟨x1, x2, x3, x4, x5, Av, nv, cv, HZ⟩ : ∃ x1 x2 x3 x4 x5 Av nv cv, Aside0 (Pi.rqc x1 x2 x3 x4 x5 (.slice Av nv cv) = Pi.zrq ∧ Value.slice Av nv cv = .slice none 0 0) := ⟨0, 0, 0, 0, 0, none, 0, 0, ⟨rfl, rfl⟩⟩
  rw [← HZ.out.1]
  obtain ⟨vp1, HVP⟩ : ∃ v, Aside0 (vp = v) := ⟨_, ⟨rfl⟩⟩
  have HV2 := az (HV.out.below hb2).bound
  rw [HVP.out] at HV2
  have HX2 := az (HX1.out.below_ hb2)
  have HF2 := az ((Cn.Fr.of_below HB1.out ok).trans (Cn.Fr.of_below hb2 ok))
  have HD2 : Aside0 (Kd.R (Kd.int .u8) 5 w2 0 (fun j => ok j ∨ ex j) (.slice Av nv cv) ([] : List Int)) := ⟨by rw [HZ.out.2]; exact Kd.R_nil _ _ _ _ _⟩
  have HAP : Aside0 ((∀ j, (Value.slice Av nv cv).ownBlock = some j → vk.ownBlock ≠ some j) ∧ (∀ j, (Value.slice Av nv cv).ownBlock = some j → vs.ownBlock ≠ some j)) := ⟨by rw [HZ.out.2]; exact ⟨fun j hj => (by cases hj), fun j hj => (by cases hj)⟩⟩
  have HO2 := HO
  obtain ⟨c1, HCE⟩ : ∃ c1 : Cn.St, Aside0 (c = c1) := ⟨_, ⟨rfl⟩⟩
  have HC1 : Aside0 (c1.send = c.send ∧ c1.kept = c.kept) := ⟨by rw [← HCE.out]; exact ⟨rfl, rfl⟩⟩
  rw [HCE.out] at HV2 HO2
  clear hb2 HV HX1 hk
  have HB3 := az (below_alloc (Below.refl w2.heap.size w2) (.cells Pi.zrq.toArray 67))
  have HX3 : Aside0 (Wk.Blk (w2.alloc (.cells Pi.zrq.toArray 67)) w2.heap.size 67 Pi.zrq) := ⟨Wk.Blk.new w2 _ _⟩
  go_wp2_with (refine Wk.store_all rfl rfl 67 (.tmp 6) (.tmp 15) rfl w2.heap.size (Pi.rqc x1 x2 x3 x4 x5 (.slice Av nv cv)) rfl rfl 67 _ HX3.out HSR.out rfl rfl ?_; intro w3 hX hO; have HX4 := az hX; have HB4 := az (Wk.Only.below HB3.out hO (Nat.le_refl _)); clear hX hO)
  obtain ⟨g6, HG6⟩ : ∃ g, Aside0 (w2.heap.size = g) := ⟨_, ⟨rfl⟩⟩
  obtain ⟨g4, HG4⟩ : ∃ g, Aside0 (W.heap.size = g) := ⟨_, ⟨rfl⟩⟩
  rw [HG6.out] at HX4 ⊢
  rw [HG4.out] at HX2 ⊢
  have HY3 := az (HX2.out.below_ HB4.out)
  have HV3 := az (HV2.out.below HB4.out)
  have HD3 := az (Cn.R_own (Kd.R_below HD2.out HB4.out))
  have HDK : Aside0 (∀ j, (Value.slice Av nv cv).ownBlock = some j → ok j ∨ ex j) := ⟨fun j hj => HD2.out.1 j hj⟩
  have HNG : Aside0 ((Value.slice Av nv cv).ownBlock ≠ some g4) := ⟨fun he => Kd.R_ne HD3.out HY3.out.out (by decide) he.symm⟩
  have HF3 := az (HF2.out.trans (Cn.Fr.of_below HB4.out ok))
  have HGG : Aside0 (g4 < g6 ∧ g6 < w3.heap.size ∧ (∀ j, (Value.slice Av nv cv).ownBlock = some j → j < w3.heap.size)) := ⟨by rw [← HG6.out]; exact HX2.out.lt, HX4.out.lt, fun j hj => ((Kd.R_bound HD3.out).1 j hj).2.2.1⟩
  have HS3 := az (HV3.out.shrink (fun j => j = g4 ∨ j = g6 ∨ (Value.slice Av nv cv).ownBlock = some j)
   (fun hh => hh.elim (fun e => by have := HV0.out.blk.lt; have := HG4.out; omega) (fun hh => hh.elim (fun e => by have := HV0.out.blk.lt; have := HG4.out; have := HGG.out.1; omega) (fun e => Kd.R_ne HD3.out HV3.out.blk.out (by decide) e.symm)))
   (fun hh => hh.elim (fun e => by have := HV0.out.pb.lt; have := HG4.out; omega) (fun hh => hh.elim (fun e => by have := HV0.out.pb.lt; have := HG4.out; have := HGG.out.1; omega) (fun e => Kd.R_ne HD3.out HV3.out.pb.out (by decide) e.symm)))
   (fun j hj hh => by have := ((Kd.R_bound HV0.out.kept).1 j hj).2.2.1; exact hh.elim (fun e => by have := HG4.out; omega) (fun hh => hh.elim (fun e => by have := HG4.out; have := HGG.out.1; omega) (fun e => HAP.out.1 j e hj)))
   (fun j hj hh => by have := ((Kd.R_bound HV0.out.send).1 j hj).2.2.1; exact hh.elim (fun e => by have := HG4.out; omega) (fun hh => hh.elim (fun e => by have := HG4.out; have := HGG.out.1; omega) (fun e => HAP.out.2 j e hj)))
   (fun j hj hh => by have h1 := HV3.out.okr j hj; have h2 := HG4.out; have h3 := HG6.out; exact hh.elim (fun e => h1.1.2 (by omega)) (fun hh => hh.elim (fun e => by have := h1.2; omega) (fun e => Cn.apart_types HV3.out.row HD3.out (by decide) j hj e))))
  have HS4 : Aside0 (Cn.Rv w3 (fun j => ok j ∧ ¬ (j = g4 ∨ j = g6 ∨ (Value.slice Av nv cv).ownBlock = some j)) (fun j => (ok j ∨ ex j) ∧ ¬ (j = g4 ∨ j = g6)) p tb pp vk vs vp1 c1) := ⟨HS3.out.mono (fun j hj => ⟨hj.1.1.1, hj.2⟩) (fun j hj => .inr ⟨hj.imp (fun h => h.1.1) (fun h => h.1.1), fun hh => by have h2 := HG4.out; have h3 := HG6.out; exact hj.elim (fun h => hh.elim (fun e => h.1.2 (by omega)) (fun e => by have := h.2; omega)) (fun h => by have := h.1.2; have := HGG.out.1; omega)⟩)⟩
  clear HX2 HV2 HD2 HF2 HX3 HB3 HB4 HV3 HAP HS3
  have HFS : Aside0 (∀ j, w3.heap.size ≤ j → ok j ∧ ¬ (j = g4 ∨ j = g6 ∨ (Value.slice Av nv cv).ownBlock = some j)) := ⟨fun j hj => ⟨HF.out j (Nat.le_trans HF3.out.size hj), fun hh => hh.elim (fun e => by have := HGG.out; omega) (fun hh => hh.elim (fun e => by have := HGG.out; omega) (fun e => by have := HGG.out.2.2 j e; omega))⟩⟩
  refine (rreadsc_.calls (l := l) (bs := bs) ⟨pp, vk, vs, vp1, HS4.out⟩ HFS.out HO2.out HX.out (HF3.out.below HBW.out HBW.out.size HOK.out) (fun j hj => HOK.out j hj.1) (by
   have := HS.out
   have h9 := HO.out.len
   rw [HC1.out.1, HC1.out.2]
   omega)).mono ?_
  rintro e w5 ⟨rfl, hc5, hf5⟩
  have HC5 := az hc5
  have HX5 := az (Cn.Blk_frame HX4.out hf5 (fun hh => hh.2 (.inr (.inl rfl))))
  have HY5 := az (Cn.Blk_frame HY3.out hf5 (fun hh => hh.2 (.inl rfl)))
  have HD5 := az (Cn.R_frame HD3.out hf5 (fun j hj hh => hh.2 (.inr (.inr hj))))
  have HF5 := az (HF3.out.trans (hf5.mono (fun j hj => hj.1)))
  clear hc5 hf5 HS4 HFS HX4 HY3 HD3 HF3
  go_wp2_with (first
   | refine Wk.load rfl 67 (.tmp 6) rfl (.agg (Pi.rqc x1 x2 x3 x4 x5 (.slice Av nv cv)).toArray) (.pointer (some ⟨g6, 0, none⟩)) rfl (Wk.run_load_blk (P := Tryz.prog) 67 g6 0 (Pi.rqc x1 x2 x3 x4 x5 (.slice Av nv cv)) _ HX5.out rfl Tryz.underlying67 rfl HSR.out) ?_
   | (refine Wk.store_all rfl rfl 67 (.tmp 4) (.tmp 19) rfl g4 (Pi.rqc x1 x2 x3 x4 x5 (.slice Av nv cv)) rfl rfl 67 _ HY5.out HSR.out rfl rfl ?_; intro w6 hX hO; have HX6 := az hX; have HO6 := az hO; clear hX hO))
  refine bodyPost_ret (Wk.res_ct rfl _ g4 67 _ _ rfl HX6.out Tryz.underlying67 rfl HSR.out) rfl ?_
  have HO7 : Cn.Fr w5 w6 (fun j => j = g4) := Cn.Fr.of_only HO6.out rfl
  have HC7 : Cn.Rn w6 ok ex p tb (Cn.read l c1) := (HC5.out.frame HO7 (fun j hj hh => hj.elim (fun h => h.2 (.inl hh)) (fun h => h.2 (.inl hh)))).mono (fun j hj => hj.1) (fun j hj => hj.1)
  have HF7 : Cn.Fr W w6 ok := HF5.out.trans (HO7.mono (fun j hj => by rw [hj, ← HG4.out]; exact HF.out _ (Nat.le_refl _)))
  have HD7 := Cn.R_frame HD5.out HO7 (fun j hj hh => HNG.out (by rw [← hh]; exact hj))
  refine ⟨.inl ⟨HK.out, congrArg (fun z => Ending.returned (.tuple #[.agg (List.toArray z), .bool false])) HZ.out.1⟩, ?_, HF7⟩
  unfold Cn.take
  rw [if_pos HK.out, HCE.out]
  exact HC7
 ·obtain ⟨i, rfl⟩ : ∃ i : Nat, k = i := ⟨k.toNat, by omega⟩
  have hi : i < c.rs.length := by omega
  have HK := az hi
  refine (Cn.rtakey_ HV.out.rf i hi (HV.out.freshP HF1.out)).mono ?_
  rintro e w2 ⟨cs, rfl, hm, ⟨vp1, hpb, hp, hpo⟩, hg⟩
  obtain ⟨⟨x1, x2, x3, x4, x5, data⟩, HR⟩ : ∃ r, Aside0 (c.rs[i] = r) := ⟨_, ⟨rfl⟩⟩
  rw [HR.out] at hm
  obtain ⟨v, hcs, hd⟩ : ∃ v, cs = Pi.rqc x1 x2 x3 x4 x5 v ∧ Kd.R (Kd.int .u8) 5 w2 0 (fun k_1 => ((ok k_1 ∧ k_1 ≠ W.heap.size) ∨ (ex k_1 ∧ k_1 < W.heap.size)) ∧ some k_1 ≠ vk.ownBlock ∧ some k_1 ≠ vs.ownBlock) v data := Pi.rq_Mc hm
  obtain ⟨Av, cv, rfl⟩ := Kd.R_slice hd
  obtain ⟨nv, HNV⟩ : ∃ n, Aside0 (data.length = n) := ⟨_, ⟨rfl⟩⟩
  rw [HNV.out] at hd hcs
  subst hcs
  obtain ⟨c1, HCE⟩ : ∃ c1 : Cn.St, Aside0 ({ c with rs := c.rs.eraseIdx i } = c1) := ⟨_, ⟨rfl⟩⟩
  have HC1 : Aside0 (c1.send = c.send ∧ c1.kept = c.kept) := ⟨by rw [← HCE.out]; exact ⟨rfl, rfl⟩⟩
  have HO2 : Aside0 (Cn.Ok c1) := ⟨by rw [← HCE.out]; exact ⟨HO.out.by_, HO.out.len, fun r hr => HO.out.rs_ r (List.mem_of_mem_eraseIdx hr), HO.out.blk_⟩⟩
  have HV2 := az (show Cn.Rv w2 (fun k => ok k ∧ k ≠ W.heap.size) (fun k => ex k ∧ k < W.heap.size) p tb pp vk vs vp1 c1 from by rw [← HCE.out]; exact HV.out.piped (Cn.ty_of_grown hg HV.out.pb (by simp)) hpb (by have := HV.out.few; have := List.length_eraseIdx_le c.rs i; omega) hp (fun j hj => HF1.out j (hpo j hj)) ⟨rfl, rfl, rfl, rfl⟩ rfl rfl rfl).bound
  have HX2 : Aside0 (Wk.Blk w2 W.heap.size 67 Pi.zrq) := ⟨HX1.out.grown hg (fun he => by have := HV0.out.pb.lt; injection he with he; omega)⟩
  have HF2 : Aside0 (Cn.Fr W w2 ok) := ⟨(Cn.Fr.of_below HB1.out ok).trans (Cn.Fr.of_grown hg (fun j hj => by cases hj; exact HV0.out.okq))⟩
  have HD2 : Aside0 (Kd.R (Kd.int .u8) 5 w2 0 (fun j => ok j ∨ ex j) (.slice Av nv cv) data) := ⟨Kd.R_mono hd (fun j hj => hj.1.imp And.left And.left)⟩
  have HAP : Aside0 ((∀ j, (Value.slice Av nv cv).ownBlock = some j → vk.ownBlock ≠ some j) ∧ (∀ j, (Value.slice Av nv cv).ownBlock = some j → vs.ownBlock ≠ some j)) := ⟨⟨fun j hj he => (hd.1 j hj).2.1 he.symm, fun j hj he => (hd.1 j hj).2.2 he.symm⟩⟩
  clear hm hd hp hpb hpo hg HV HX1 hk
  have HB3 := az (below_alloc (Below.refl w2.heap.size w2) (.cells Pi.zrq.toArray 67))
  have HX3 : Aside0 (Wk.Blk (w2.alloc (.cells Pi.zrq.toArray 67)) w2.heap.size 67 Pi.zrq) := ⟨Wk.Blk.new w2 _ _⟩
  go_wp2_with (refine Wk.store_all rfl rfl 67 (.tmp 6) (.tmp 15) rfl w2.heap.size (Pi.rqc x1 x2 x3 x4 x5 (.slice Av nv cv)) rfl rfl 67 _ HX3.out HSR.out rfl rfl ?_; intro w3 hX hO; have HX4 := az hX; have HB4 := az (Wk.Only.below HB3.out hO (Nat.le_refl _)); clear hX hO)
  obtain ⟨g6, HG6⟩ : ∃ g, Aside0 (w2.heap.size = g) := ⟨_, ⟨rfl⟩⟩
  obtain ⟨g4, HG4⟩ : ∃ g, Aside0 (W.heap.size = g) := ⟨_, ⟨rfl⟩⟩
  rw [HG6.out] at HX4 ⊢
  rw [HG4.out] at HX2 ⊢
  have HY3 := az (HX2.out.below_ HB4.out)
  have HV3 := az (HV2.out.below HB4.out)
  have HD3 := az (Cn.R_own (Kd.R_below HD2.out HB4.out))
  have HDK : Aside0 (∀ j, (Value.slice Av nv cv).ownBlock = some j → ok j ∨ ex j) := ⟨fun j hj => HD2.out.1 j hj⟩
  have HNG : Aside0 ((Value.slice Av nv cv).ownBlock ≠ some g4) := ⟨fun he => Kd.R_ne HD3.out HY3.out.out (by decide) he.symm⟩
  have HF3 := az (HF2.out.trans (Cn.Fr.of_below HB4.out ok))
  have HGG : Aside0 (g4 < g6 ∧ g6 < w3.heap.size ∧ (∀ j, (Value.slice Av nv cv).ownBlock = some j → j < w3.heap.size)) := ⟨by rw [← HG6.out]; exact HX2.out.lt, HX4.out.lt, fun j hj => ((Kd.R_bound HD3.out).1 j hj).2.2.1⟩
  have HS3 := az (HV3.out.shrink (fun j => j = g4 ∨ j = g6 ∨ (Value.slice Av nv cv).ownBlock = some j)
   (fun hh => hh.elim (fun e => by have := HV0.out.blk.lt; have := HG4.out; omega) (fun hh => hh.elim (fun e => by have := HV0.out.blk.lt; have := HG4.out; have := HGG.out.1; omega) (fun e => Kd.R_ne HD3.out HV3.out.blk.out (by decide) e.symm)))
   (fun hh => hh.elim (fun e => by have := HV0.out.pb.lt; have := HG4.out; omega) (fun hh => hh.elim (fun e => by have := HV0.out.pb.lt; have := HG4.out; have := HGG.out.1; omega) (fun e => Kd.R_ne HD3.out HV3.out.pb.out (by decide) e.symm)))
   (fun j hj hh => by have := ((Kd.R_bound HV0.out.kept).1 j hj).2.2.1; exact hh.elim (fun e => by have := HG4.out; omega) (fun hh => hh.elim (fun e => by have := HG4.out; have := HGG.out.1; omega) (fun e => HAP.out.1 j e hj)))
   (fun j hj hh => by have := ((Kd.R_bound HV0.out.send).1 j hj).2.2.1; exact hh.elim (fun e => by have := HG4.out; omega) (fun hh => hh.elim (fun e => by have := HG4.out; have := HGG.out.1; omega) (fun e => HAP.out.2 j e hj)))
   (fun j hj hh => by have h1 := HV3.out.okr j hj; have h2 := HG4.out; have h3 := HG6.out; exact hh.elim (fun e => h1.1.2 (by omega)) (fun hh => hh.elim (fun e => by have := h1.2; omega) (fun e => Cn.apart_types HV3.out.row HD3.out (by decide) j hj e))))
  have HS4 : Aside0 (Cn.Rv w3 (fun j => ok j ∧ ¬ (j = g4 ∨ j = g6 ∨ (Value.slice Av nv cv).ownBlock = some j)) (fun j => (ok j ∨ ex j) ∧ ¬ (j = g4 ∨ j = g6)) p tb pp vk vs vp1 c1) := ⟨HS3.out.mono (fun j hj => ⟨hj.1.1.1, hj.2⟩) (fun j hj => .inr ⟨hj.imp (fun h => h.1.1) (fun h => h.1.1), fun hh => by have h2 := HG4.out; have h3 := HG6.out; exact hj.elim (fun h => hh.elim (fun e => h.1.2 (by omega)) (fun e => by have := h.2; omega)) (fun h => by have := h.1.2; have := HGG.out.1; omega)⟩)⟩
  clear HX2 HV2 HD2 HF2 HX3 HB3 HB4 HV3 HAP HS3
  have HFS : Aside0 (∀ j, w3.heap.size ≤ j → ok j ∧ ¬ (j = g4 ∨ j = g6 ∨ (Value.slice Av nv cv).ownBlock = some j)) := ⟨fun j hj => ⟨HF.out j (Nat.le_trans HF3.out.size hj), fun hh => hh.elim (fun e => by have := HGG.out; omega) (fun hh => hh.elim (fun e => by have := HGG.out; omega) (fun e => by have := HGG.out.2.2 j e; omega))⟩⟩
  refine (rreadsc_.calls (l := l) (bs := bs) ⟨pp, vk, vs, vp1, HS4.out⟩ HFS.out HO2.out HX.out (HF3.out.below HBW.out HBW.out.size HOK.out) (fun j hj => HOK.out j hj.1) (by
   have := HS.out
   have h9 := HO.out.len
   rw [HC1.out.1, HC1.out.2]
   omega)).mono ?_
  rintro e w5 ⟨rfl, hc5, hf5⟩
  have HC5 := az hc5
  have HX5 := az (Cn.Blk_frame HX4.out hf5 (fun hh => hh.2 (.inr (.inl rfl))))
  have HY5 := az (Cn.Blk_frame HY3.out hf5 (fun hh => hh.2 (.inl rfl)))
  have HD5 := az (Cn.R_frame HD3.out hf5 (fun j hj hh => hh.2 (.inr (.inr hj))))
  have HF5 := az (HF3.out.trans (hf5.mono (fun j hj => hj.1)))
  clear hc5 hf5 HS4 HFS HX4 HY3 HD3 HF3
  go_wp2_with (first
   | refine Wk.load rfl 67 (.tmp 6) rfl (.agg (Pi.rqc x1 x2 x3 x4 x5 (.slice Av nv cv)).toArray) (.pointer (some ⟨g6, 0, none⟩)) rfl (Wk.run_load_blk (P := Tryz.prog) 67 g6 0 (Pi.rqc x1 x2 x3 x4 x5 (.slice Av nv cv)) _ HX5.out rfl Tryz.underlying67 rfl HSR.out) ?_
   | (refine Wk.store_all rfl rfl 67 (.tmp 4) (.tmp 19) rfl g4 (Pi.rqc x1 x2 x3 x4 x5 (.slice Av nv cv)) rfl rfl 67 _ HY5.out HSR.out rfl rfl ?_; intro w6 hX hO; have HX6 := az hX; have HO6 := az hO; clear hX hO))
  refine bodyPost_ret (Wk.res_ct rfl _ g4 67 _ _ rfl HX6.out Tryz.underlying67 rfl HSR.out) rfl ?_
  have HO7 : Cn.Fr w5 w6 (fun j => j = g4) := Cn.Fr.of_only HO6.out rfl
  have HC7 : Cn.Rn w6 ok ex p tb (Cn.read l c1) := (HC5.out.frame HO7 (fun j hj hh => hj.elim (fun h => h.2 (.inl hh)) (fun h => h.2 (.inl hh)))).mono (fun j hj => hj.1) (fun j hj => hj.1)
  have HF7 : Cn.Fr W w6 ok := HF5.out.trans (HO7.mono (fun j hj => by rw [hj, ← HG4.out]; exact HF.out _ (Nat.le_refl _)))
  have HD7 := Cn.R_frame HD5.out HO7 (fun j hj hh => HNG.out (by rw [← hh]; exact hj))
  refine ⟨.inr ⟨(x1, x2, x3, x4, x5, data), _, ⟨by omega, by rw [Int.toNat_natCast, List.getElem?_eq_getElem HK.out, HR.out]⟩, rfl, Kd.R_mono HD7 (fun j hj => HDK.out j hj)⟩, ?_, HF7⟩
  unfold Cn.take
  rw [if_neg (by have := HK.out; omega), Int.toNat_natCast, HCE.out]
  exact HC7
theorem ranswerc_.calls {W : World} {ok ex : Nat → Prop} {p tb : Nat} {c : Cn.St} (h : Cn.Rn W ok ex p tb c) (hf : ∀ k, W.heap.size ≤ k → ok k) (r : Rq) (v : Value) {A : Option Addr} {n cp : Nat} {a : Int} {d : List Int} (ha : 0 ≤ a ∧ a < 4294967296) (hd : Kd.C (Kd.int .u8) W A d.length d) (hn : d.length = n) (hc : n ≤ cp) (hl : n ≤ 1000000) (hs : c.send.length ≤ 10000000000000) :
  Calls Tryz.prog 34 #[.pointer (some ⟨p, 0, none⟩), .agg (Pi.rqc r.1 r.2.1 r.2.2.1 r.2.2.2.1 r.2.2.2.2.1 v).toArray, .int .u32 a, .slice A n cp] W fun e w' => e = .returned (.tuple #[]) ∧ Cn.Rn w' ok ex p tb (Cn.answered c r a d) ∧ Cn.Fr W w' ok := by
 obtain ⟨x1, x2, ck, x4, x5, data⟩ := r
 obtain ⟨pp, vk, vs, vp, hv⟩ := h
 have HV := az hv
 have HF := az hf
 have HA := az ha
 have HD := az hd
 have HN := az hn
 have HCP := az (And.intro hc hl)
 have HS := az hs
 have HS2 := az Pi.size31
 have HB1 : Aside0 (Below W.heap.size W (W.alloc (.cells (Pi.rqc x1 x2 ck x4 x5 v).toArray 67))) := ⟨below_alloc (Below.refl _ _) _⟩
 have HX1 : Aside0 (Wk.Blk (W.alloc (.cells (Pi.rqc x1 x2 ck x4 x5 v).toArray 67)) W.heap.size 67 (Pi.rqc x1 x2 ck x4 x5 v)) := ⟨Wk.Blk.new W _ _⟩
 have HV1 := az (HV.out.below HB1.out)
 have k5 := HV1.out.blk.at_ 5 rfl
 clear hv hf ha hd hn hc hl hs
 show Calls _ _ #[.pointer (some ⟨p, 0, none⟩), .agg (Pi.rqc x1 x2 ck x4 x5 v).toArray, .int .u32 a, .slice A n cp] _ _
 go_enter Tryz.func34, Tryz.ntmps34
 by_cases h3 : c.st = 3
 rotate_left
 ·have e3 : (c.st != 3) = true := by simpa using h3
  have H3 := az h3
  clear h3
  go_wp2_with fail
  refine bodyPost_ret (results_none rfl _ _ _) rfl ?_
  refine ⟨rfl, ?_, Cn.Fr.of_below HB1.out ok⟩
  unfold Cn.answered
  rw [if_pos H3.out]
  exact ⟨pp, vk, vs, vp, HV1.out⟩
 have e3 : (c.st != 3) = false := by simpa using h3
 have H3 := az h3
 clear h3
 by_cases h0 : a = 0
 ·have e0 : (a != 0) = false := by simpa using h0
  have H0 := az h0
  clear h0
  go_wp2_with fail
  clear k5 e3
  generalize W.alloc (.cells (Pi.rqc x1 x2 ck x4 x5 v).toArray 67) = w1 at *
  obtain ⟨dd, HDD⟩ : ∃ dd, Aside0 (d = dd) := ⟨_, ⟨rfl⟩⟩
  obtain ⟨m, HM⟩ : ∃ m, Aside0 (dd.length = m ∧ m ≤ 1000000) := ⟨_, ⟨rfl, by rw [← HDD.out]; (rw [HN.out]; exact HCP.out.2)⟩⟩
  have HCD : Aside0 (∀ w', Below w1.heap.size w1 w' → Kd.C (Kd.int .u8) w' A m dd ∧ m ≤ cp ∧ Value.slice A n cp = Value.slice A m cp) := ⟨fun w' hb => by rw [← HM.out.1, ← HDD.out]; exact ⟨Kd.C_below HD.out (below_then HB1.out HB1.out.size hb), by rw [HN.out]; exact HCP.out.1, by rw [HN.out]⟩⟩
  rw [(HCD.out w1 (Below.refl _ _)).2.2]
  refine wp_region_noPanic ?_
  refine Rg.s1 14 (fun w' => Below w1.heap.size w1 w') [10, 13] (Below.refl _ _).drew #[false, false, false, false, false, false, false, false, false, false, false, false, false, false] (fun hHeld => ?_)
  refine Rg.p1 0 (.some 15) ?_
  refine Rg.p1 1 (.some 16) ?_
  refine Rg.p1 2 (.some 17) ?_
  refine Rg.p1 3 (.some 18) ?_
  refine Rg.t1 4 (.some 19) hHeld ?_ (hy := by intro w' hS'; (have c1 := (HV1.out.below hS').blk.at_ 3 rfl; go_simp); first | done | with_reducible rfl)
  refine Rg.p1 5 (.some 20) ?_
  refine Rg.p1 6 (.some 21) ?_
  refine Rg.t1 7 (.some 22) hHeld ?_ (hy := by intro w' hS'; (have c1 := (HX1.out.below_ hS').at_ 2 rfl; go_simp); first | done | with_reducible rfl)
  refine Rg.p1 8 (.some 23) ?_
  refine Rg.o1 9 (.some 24) (fun K hK => ?_)
  refine call_ 49 #[.int .u32 a, .int .u64 ck, .slice A m cp] (by rfl) rfl (by go_simp) ?_
  refine (Cn.ranswer_ HA.out (by rw [HM.out.1]; exact (HCD.out _ hHeld).1) HM.out.1 (HCD.out w1 (Below.refl _ _)).2.1 HM.out.2).mono ?_
  rintro e w2 ⟨A2, c2, rfl, hR2, hb2⟩
  have HR2 := az hR2
  have HB2 := az (below_then hHeld hHeld.size hb2)
  clear hR2 hb2
  refine ⟨_, rfl, ?_⟩
  refine hK.out _ _ HB2.out (fun hHeld => ?_)
  clear hK K
  refine Rg.n1 ?_
  have HV2 := az (HV1.out.below HB2.out)
  have HBW := az (below_then HB1.out HB1.out.size HB2.out)
  have HLR : Aside0 ((Cn.answer a ck dd).length ≤ 2000000) := ⟨by have := Cn.answer_len a ck dd; have := HM.out; omega⟩
  have HFS : Aside0 (∀ j, w2.heap.size ≤ j → ok j ∧ some j ≠ vk.ownBlock) := ⟨HV2.out.freshK (fun j hj => HF.out j (Nat.le_trans HBW.out.size hj))⟩
  refine Rg.l1 10 (.some 25) (fun K hK => ?_)
  refine Kd.R_append_rows_step (Kd.int .u8) (w0 := w2) (W := w2) 0 (by rfl) (.tmp 19) (.tmp 24) 35 5 (.int .u8 0) 1 rfl Tryz.underlying35 Cn.infoByte rfl (by decide) (by omega) vs c.send (Cn.answer a ck dd) A2 _ c2 (fun k => ok k ∧ some k ≠ vk.ownBlock) (fun _ => False) rfl rfl HV2.out.send (Kd.R_reads' HR2.out).2.2 (fun _ _ h => h) (fun _ h => h.elim) HFS.out (Below.refl _ _) (Nat.zero_le _) (by have := HS.out; have := HLR.out; omega) ?_
  intro v3 w3 hr3 _ hg3 hat3
  obtain ⟨A3, c3, hv3⟩ := Kd.R_slice hr3
  obtain ⟨L3, HL3⟩ : ∃ L, Aside0 ((c.send ++ Cn.answer a ck dd).length = L) := ⟨_, ⟨rfl⟩⟩
  rw [HL3.out] at hv3
  subst hv3
  have HR3 := az hr3
  have HG3 := az hg3
  have HA3 := az (Cn.hat_of hat3)
  have HX3 := az (HV2.out.blk.grown hg3 (Kd.R_ne HV2.out.send HV2.out.blk.out (by decide)))
  clear hr3 hg3 hat3
  refine hK.out _ _ ?_
  clear hK K
  refine Rg.n1 ?_
  refine Rg.p1 11 (.some 26) ?_
  refine Rg.p1 12 (.some 27) ?_
  refine Rg.l1 13 none (fun K hK => ?_)
  refine Wk.store_step (by rfl) rfl 35 (.tmp 27) (.tmp 25) rfl p 3 (.slice A3 L3 c3) [.slice A3 L3 c3] rfl rfl rfl 65 _ HX3.out HS2.out (Nat.le_of_ble_eq_true rfl) rfl ?_
  intro w4 hX hO
  have HO4 := az hO
  have HV4 : Aside0 (Cn.Rv w4 ok ex p tb pp vk (.slice A3 L3 c3) vp { c with send := c.send ++ Cn.answer a ck dd }) := ⟨HV2.out.sent HR3.out HG3.out HA3.out hO hX rfl rfl rfl⟩
  clear hX hO
  refine hK.out _ _ ?_
  clear hK K
  refine Rg.d1 ?_
  refine NoPanic.normal ?_
  go_wp2_with fail
  go_end0
  refine ⟨rfl, ?_, ((Cn.Fr.of_below HBW.out ok).trans (Cn.Fr.of_grown HG3.out HV2.out.okS)).trans (Cn.Fr.of_only HO4.out HV2.out.okp)⟩
  unfold Cn.answered
  rw [if_neg (fun h => h H3.out)]
  rw [if_pos H0.out, HDD.out]
  exact ⟨pp, vk, _, vp, HV4.out⟩
 ·have e0 : (a != 0) = true := by simpa using h0
  have H0 := az h0
  clear h0
  go_wp2_with fail
  clear k5 e3
  generalize W.alloc (.cells (Pi.rqc x1 x2 ck x4 x5 v).toArray 67) = w1 at *
  obtain ⟨dd, HDD⟩ : ∃ dd, Aside0 (([] : List Int) = dd) := ⟨_, ⟨rfl⟩⟩
  obtain ⟨m, HM⟩ : ∃ m, Aside0 (dd.length = m ∧ m ≤ 1000000) := ⟨_, ⟨rfl, by rw [← HDD.out]; exact Nat.zero_le _⟩⟩
  have HCD : Aside0 (∀ w', Below w1.heap.size w1 w' → Kd.C (Kd.int .u8) w' none m dd ∧ m ≤ 0 ∧ Value.slice none 0 0 = Value.slice none m 0) := ⟨fun w' hb => by rw [← HM.out.1, ← HDD.out]; exact ⟨Kd.C_nil _ _, Nat.le_refl _, rfl⟩⟩
  rw [(HCD.out w1 (Below.refl _ _)).2.2]
  refine wp_region_noPanic ?_
  refine Rg.s1 14 (fun w' => Below w1.heap.size w1 w') [10, 13] (Below.refl _ _).drew #[false, false, false, false, false, false, false, false, false, false, false, false, false, false] (fun hHeld => ?_)
  refine Rg.p1 0 (.some 15) ?_
  refine Rg.p1 1 (.some 16) ?_
  refine Rg.p1 2 (.some 17) ?_
  refine Rg.p1 3 (.some 18) ?_
  refine Rg.t1 4 (.some 19) hHeld ?_ (hy := by intro w' hS'; (have c1 := (HV1.out.below hS').blk.at_ 3 rfl; go_simp); first | done | with_reducible rfl)
  refine Rg.p1 5 (.some 20) ?_
  refine Rg.p1 6 (.some 21) ?_
  refine Rg.t1 7 (.some 22) hHeld ?_ (hy := by intro w' hS'; (have c1 := (HX1.out.below_ hS').at_ 2 rfl; go_simp); first | done | with_reducible rfl)
  refine Rg.p1 8 (.some 23) ?_
  refine Rg.o1 9 (.some 24) (fun K hK => ?_)
  refine call_ 49 #[.int .u32 a, .int .u64 ck, .slice none m 0] (by rfl) rfl (by go_simp) ?_
  refine (Cn.ranswer_ HA.out (by rw [HM.out.1]; exact (HCD.out _ hHeld).1) HM.out.1 (HCD.out w1 (Below.refl _ _)).2.1 HM.out.2).mono ?_
  rintro e w2 ⟨A2, c2, rfl, hR2, hb2⟩
  have HR2 := az hR2
  have HB2 := az (below_then hHeld hHeld.size hb2)
  clear hR2 hb2
  refine ⟨_, rfl, ?_⟩
  refine hK.out _ _ HB2.out (fun hHeld => ?_)
  clear hK K
  refine Rg.n1 ?_
  have HV2 := az (HV1.out.below HB2.out)
  have HBW := az (below_then HB1.out HB1.out.size HB2.out)
  have HLR : Aside0 ((Cn.answer a ck dd).length ≤ 2000000) := ⟨by have := Cn.answer_len a ck dd; have := HM.out; omega⟩
  have HFS : Aside0 (∀ j, w2.heap.size ≤ j → ok j ∧ some j ≠ vk.ownBlock) := ⟨HV2.out.freshK (fun j hj => HF.out j (Nat.le_trans HBW.out.size hj))⟩
  refine Rg.l1 10 (.some 25) (fun K hK => ?_)
  refine Kd.R_append_rows_step (Kd.int .u8) (w0 := w2) (W := w2) 0 (by rfl) (.tmp 19) (.tmp 24) 35 5 (.int .u8 0) 1 rfl Tryz.underlying35 Cn.infoByte rfl (by decide) (by omega) vs c.send (Cn.answer a ck dd) A2 _ c2 (fun k => ok k ∧ some k ≠ vk.ownBlock) (fun _ => False) rfl rfl HV2.out.send (Kd.R_reads' HR2.out).2.2 (fun _ _ h => h) (fun _ h => h.elim) HFS.out (Below.refl _ _) (Nat.zero_le _) (by have := HS.out; have := HLR.out; omega) ?_
  intro v3 w3 hr3 _ hg3 hat3
  obtain ⟨A3, c3, hv3⟩ := Kd.R_slice hr3
  obtain ⟨L3, HL3⟩ : ∃ L, Aside0 ((c.send ++ Cn.answer a ck dd).length = L) := ⟨_, ⟨rfl⟩⟩
  rw [HL3.out] at hv3
  subst hv3
  have HR3 := az hr3
  have HG3 := az hg3
  have HA3 := az (Cn.hat_of hat3)
  have HX3 := az (HV2.out.blk.grown hg3 (Kd.R_ne HV2.out.send HV2.out.blk.out (by decide)))
  clear hr3 hg3 hat3
  refine hK.out _ _ ?_
  clear hK K
  refine Rg.n1 ?_
  refine Rg.p1 11 (.some 26) ?_
  refine Rg.p1 12 (.some 27) ?_
  refine Rg.l1 13 none (fun K hK => ?_)
  refine Wk.store_step (by rfl) rfl 35 (.tmp 27) (.tmp 25) rfl p 3 (.slice A3 L3 c3) [.slice A3 L3 c3] rfl rfl rfl 65 _ HX3.out HS2.out (Nat.le_of_ble_eq_true rfl) rfl ?_
  intro w4 hX hO
  have HO4 := az hO
  have HV4 : Aside0 (Cn.Rv w4 ok ex p tb pp vk (.slice A3 L3 c3) vp { c with send := c.send ++ Cn.answer a ck dd }) := ⟨HV2.out.sent HR3.out HG3.out HA3.out hO hX rfl rfl rfl⟩
  clear hX hO
  refine hK.out _ _ ?_
  clear hK K
  refine Rg.d1 ?_
  refine NoPanic.normal ?_
  go_wp2_with fail
  go_end0
  refine ⟨rfl, ?_, ((Cn.Fr.of_below HBW.out ok).trans (Cn.Fr.of_grown HG3.out HV2.out.okS)).trans (Cn.Fr.of_only HO4.out HV2.out.okp)⟩
  unfold Cn.answered
  rw [if_neg (fun h => h H3.out)]
  rw [if_neg H0.out, HDD.out]
  exact ⟨pp, vk, _, vp, HV4.out⟩
namespace Cn
theorem Ctx.new {W : World} {tb bs : Nat} {l : List Ps.Tn} (hK : Sh.Ks W) (hT : Ps.Tb W bs tb l) (hW : ∀ x ∈ l, Ps.TnWf x) : Ctx W tb bs l := ⟨fun w' hb => ⟨hK.below hb, hT.below hb⟩, hW⟩
def st1 : St := ⟨64, [], [], 1, ex0, false, []⟩
def st2 : St := ⟨64, [], [], 2, ex0, true, []⟩
def st3 : St := ⟨64, [], [0, 3, 232, 137, 4, 85, 101, 169, 0, 0, 0, 2, 0, 0, 0, 1, 0, 0, 0, 0], 4, ex0, true, []⟩
theorem out_new : out (new 64) = st1 := rfl
theorem feed_1 (l : List Ps.Tn) : feed l st1 [0, 0, 0, 3] = st2 := by kernel_rfl
theorem feed_2 (l : List Ps.Tn) : feed l st2 [73, 72, 65, 86, 69, 79, 80, 84, 0, 0, 0, 2, 0, 0, 0, 0] = st3 := by kernel_rfl
theorem feed_3 (l : List Ps.Tn) : (feed l (new 64) [0, 0, 0, 0]).st = 4 := by kernel_rfl
theorem lit_ok (c : St) (h : c.kept = []) (h' : c.rs = []) (hb : 0 ≤ c.blk ∧ c.blk ≤ 65535) : Ok c := ⟨(by rw [h]; intro x hx; cases hx), (by rw [h]; exact Nat.zero_le _), (by rw [h']; intro r hr; cases hr), hb⟩
theorem bytes_lit (l : List Int) (h : l.all (fun x => decide (0 ≤ x) && decide (x ≤ 255)) = true) : Sh.Bytes l := fun x hx => by
  have := List.all_eq_true.1 h x hx
  simpa using this
end Cn
theorem knownc_.calls (W : World) (hk : Sh.Ks W) : Calls Tryz.prog 6 #[] W fun e w' => e = .returned (.bool true) ∧ Below W.heap.size W w' := by
 have HK := az hk
 have HZ : Aside0 (∀ x ∈ ([] : List Ps.Tn), Ps.TnWf x) := ⟨fun x hx => by cases hx⟩
 clear hk
 go_enter Tryz.func6, Tryz.ntmps6
 go_wp2_with fail
 refine (new_pass.calls none 0 0 [] W (Kd.C_nil _ _) rfl HZ.out).mono ?_
 rintro e w1 ⟨hb1, ⟨h, -⟩ | ⟨-, h, -⟩ | ⟨-, -, tb, rfl, ht⟩⟩
 ·exact absurd h (by decide)
 ·cases h
 have HB1 := az hb1
 have HX := az (Cn.Ctx.new (HK.out.below hb1) ht HZ.out)
 clear hb1 ht
 go_wp2_with fail
 refine (newconn_.calls w1 tb 64).mono ?_
 rintro e w2 ⟨p, rfl, hc2, hb2⟩
 have HC2 := az hc2
 have HB2 := az hb2
 clear hc2 hb2
 go_wp2_with fail
 refine (out_.calls HC2.out).mono ?_
 rintro e w3 ⟨A3, n3, rfl, _, hc3, hf3⟩
 rw [Cn.out_new] at hc3
 have HC3 := az hc3
 have HB3 := az (hf3.below HB2.out HB2.out.size (fun k hk => hk))
 clear hc3 hf3
 have HB4 : Aside0 (Below w3.heap.size w3 (w3.alloc (.cells #[.int .u8 0, .int .u8 0, .int .u8 0, .int .u8 3] 5))) := ⟨below_alloc (Below.refl _ _) _⟩
 have HR4 : Aside0 (Kd.C (Kd.int .u8) (w3.alloc (.cells #[.int .u8 0, .int .u8 0, .int .u8 0, .int .u8 3] 5)) (some ⟨w3.heap.size, 0, none⟩) ([0, 0, 0, 3] : List Int).length [0, 0, 0, 3]) := ⟨Lit.reads_new w3 _ _ _ .u8 [0, 0, 0, 3] rfl (by simp)⟩
 go_wp2_with fail
 have HBX := az (below_then HB3.out HB3.out.size HB4.out)
 refine (feedc_.calls HX.out (HC3.out.below HB4.out) (fun k hk => Nat.le_trans HBX.out.size hk) (Cn.lit_ok _ rfl rfl (by decide)) HBX.out (fun k hk => hk) (by decide) HR4.out rfl (by decide) (Cn.bytes_lit _ (by decide))).mono ?_
 rintro e w5 ⟨rfl, hc5, hf5⟩
 rw [Cn.feed_1] at hc5
 have HC5 := az hc5
 have HB5 := az (hf5.below HBX.out HBX.out.size (fun k hk => hk))
 clear hc5 hf5
 go_wp2_with fail
 refine (state_.calls HC5.out).mono ?_
 rintro e w6 ⟨rfl, hb6⟩
 have HC6 := az (HC5.out.below hb6)
 have HB6 := az (below_then HB5.out HB5.out.size hb6)
 clear hb6
 have HB7 : Aside0 (Below w6.heap.size w6 (w6.alloc (.cells #[.int .u8 73, .int .u8 72, .int .u8 65, .int .u8 86, .int .u8 69, .int .u8 79, .int .u8 80, .int .u8 84, .int .u8 0, .int .u8 0, .int .u8 0, .int .u8 2, .int .u8 0, .int .u8 0, .int .u8 0, .int .u8 0] 5))) := ⟨below_alloc (Below.refl _ _) _⟩
 have HR7 : Aside0 (Kd.C (Kd.int .u8) (w6.alloc (.cells #[.int .u8 73, .int .u8 72, .int .u8 65, .int .u8 86, .int .u8 69, .int .u8 79, .int .u8 80, .int .u8 84, .int .u8 0, .int .u8 0, .int .u8 0, .int .u8 2, .int .u8 0, .int .u8 0, .int .u8 0, .int .u8 0] 5)) (some ⟨w6.heap.size, 0, none⟩) ([73, 72, 65, 86, 69, 79, 80, 84, 0, 0, 0, 2, 0, 0, 0, 0] : List Int).length [73, 72, 65, 86, 69, 79, 80, 84, 0, 0, 0, 2, 0, 0, 0, 0]) := ⟨Lit.reads_new w6 _ _ _ .u8 [73, 72, 65, 86, 69, 79, 80, 84, 0, 0, 0, 2, 0, 0, 0, 0] rfl (by simp)⟩
 go_wp2_with fail
 have HBY := az (below_then HB6.out HB6.out.size HB7.out)
 refine (feedc_.calls HX.out (HC6.out.below HB7.out) (fun k hk => Nat.le_trans HBY.out.size hk) (Cn.lit_ok _ rfl rfl (by decide)) HBY.out (fun k hk => hk) (by decide) HR7.out rfl (by decide) (Cn.bytes_lit _ (by decide))).mono ?_
 rintro e w8 ⟨rfl, hc8, hf8⟩
 rw [Cn.feed_2] at hc8
 have HC8 := az hc8
 have HB8 := az (hf8.below HBY.out HBY.out.size (fun k hk => hk))
 clear hc8 hf8
 go_wp2_with fail
 refine (out_.calls HC8.out).mono ?_
 rintro e w9 ⟨A9, n9, rfl, hr9, hc9, hf9⟩
 rw [show Cn.st3.send.length = 20 from rfl] at hr9 ⊢
 have HR9 := az (Kd.R_bound hr9)
 have HC9 := az hc9.bound
 have HB9 := az (hf9.below HB8.out HB8.out.size (fun k hk => hk))
 clear hr9 hc9 hf9
 go_wp2_with fail
 refine (newconn_.calls w9 tb 64).mono ?_
 rintro e w10 ⟨q, rfl, hc10, hb10⟩
 have HD10 := az hc10
 have HB10 := az (below_then HB9.out HB9.out.size hb10)
 have HC10 := az (HC9.out.below hb10)
 have HR10 := az (Kd.R_below HR9.out hb10)
 have HS10 : Aside0 (w9.heap.size ≤ w10.heap.size) := ⟨hb10.size⟩
 clear hc10 hb10
 have HB11 : Aside0 (Below w10.heap.size w10 (w10.alloc (.cells #[.int .u8 0, .int .u8 0, .int .u8 0, .int .u8 0] 5))) := ⟨below_alloc (Below.refl _ _) _⟩
 have HR11 : Aside0 (Kd.C (Kd.int .u8) (w10.alloc (.cells #[.int .u8 0, .int .u8 0, .int .u8 0, .int .u8 0] 5)) (some ⟨w10.heap.size, 0, none⟩) ([0, 0, 0, 0] : List Int).length [0, 0, 0, 0]) := ⟨Lit.reads_new w10 _ _ _ .u8 [0, 0, 0, 0] rfl (by simp)⟩
 go_wp2_with fail
 have HBZ := az (below_then HB10.out HB10.out.size HB11.out)
 refine (feedc_.calls HX.out (HD10.out.below HB11.out) (fun k hk => Nat.le_trans HS10.out (Nat.le_trans HB11.out.size hk)) (Cn.new_ok 64 (by decide)) HBZ.out (fun k hk => Nat.le_trans HB9.out.size hk) (by have := Cn.hello_len; show Cn.hello.length ≤ _; omega) HR11.out rfl (by decide) (Cn.bytes_lit _ (by decide))).mono ?_
 rintro e w12 ⟨rfl, hc12, hf12⟩
 have HD12 := az hc12
 have HS12 := az (Cn.feed_3 [])
 have HC12 := az ((HC10.out.below HB11.out).frame hf12 (fun k hk hh => by rcases hk with hk | hk <;> (have := hk.2; omega)))
 have HR12 := az (Kd.R_reads' (Cn.R_frame (Kd.R_below HR10.out HB11.out) hf12 (fun k hk hh => by have := hk.2.2.1; omega)))
 have HB12 := az (hf12.below HBZ.out HBZ.out.size (fun k hk => Nat.le_trans HB9.out.size hk))
 clear hc12 hf12
 obtain ⟨ad, hA9, hx9⟩ := Kd.at_int HR12.out.2.2 15 (by decide) (by decide)
 obtain ⟨ab, cap9, he9, -⟩ := Kd.R_form HR9.out (by decide)
 replace he9 := Value.slice.inj he9
 obtain ⟨he9, -, -⟩ := he9
 rw [hA9] at he9
 obtain rfl := Option.some.inj he9
 have hx9' : w12.cell? (⟨ab, 15, none⟩ : Addr) = some (.int .u8 1) := hx9
 subst hA9
 go_wp2_with fail
 refine (state_.calls HC12.out).mono ?_
 rintro e w13 ⟨rfl, hb13⟩
 have HB13 := az (below_then HB12.out HB12.out.size hb13)
 have HD13 := az (HD12.out.below hb13)
 have hx10 : w13.cell? (⟨ab, 15, none⟩ : Addr) = some (.int .u8 1) := (hb13.cell (World.block_lt_of_cell? _ _ hx9')).trans hx9'
 clear hb13 hx9 hx9'
 go_wp2_with fail
 refine (state_.calls HD13.out).mono ?_
 rintro e w14 ⟨rfl, hb14⟩
 rw [HS12.out]
 have HB14 := az (below_then HB1.out HB1.out.size (below_then HB13.out HB13.out.size hb14))
 clear hb14
 go_wp2_with fail
 go_ret
 exact ⟨rfl, HB14.out⟩
end Go.Proofs.YtgljicdpcapgnaaGreatDoor
namespace Go.Proofs.YtgljicdpcapgnaaGreatDoor
open Go.RowKit Go.Proofs.YtgljicdpcapgnaaGreatDoorW.PrintWords Go.Proofs.YtgljicdpcapgnaaGreatDoorW.PrintLast Go.Proofs.YtgljicdpcapgnaaGreatDoorW.PrintMore
theorem psame_.calls {w : World} {r : Rq} {c1 c2 : List Value} (h1 : kRq.K w r c1) (h2 : kRq.K w r c2) : Calls Tryz.prog 32 #[.agg c1.toArray, .agg c2.toArray] w fun e w' => e = .returned (.bool true) ∧ Below w.heap.size w w' := by
 obtain ⟨A, c, rfl, -, hC⟩ := rq_cells h1
 obtain ⟨B, d, rfl, -, hD⟩ := rq_cells h2
 obtain ⟨x1, x2, x3, x4, x5, data⟩ := r
 change Kd.C (Kd.int .u8) w A data.length data at hC
 change Kd.C (Kd.int .u8) w B data.length data at hD
 obtain ⟨n, HN⟩ : ∃ n, Aside0 (data.length = n) := ⟨_, ⟨rfl⟩⟩
 show Calls _ _ #[.agg #[.int .u16 x1, .int .u16 x2, .int .u64 x3, .int .u64 x4, .int .u32 x5, .slice A data.length c], .agg #[.int .u16 x1, .int .u16 x2, .int .u64 x3, .int .u64 x4, .int .u32 x5, .slice B data.length d]] _ _
 rw [HN.out] at hC hD ⊢
 have hb : Below w.heap.size w ((w.alloc (.cells #[.int .u16 x1, .int .u16 x2, .int .u64 x3, .int .u64 x4, .int .u32 x5, .slice A n c] 67)).alloc (.cells #[.int .u16 x1, .int .u16 x2, .int .u64 x3, .int .u64 x4, .int .u32 x5, .slice B n d] 67)) := below_alloc (below_alloc (Below.refl _ _) _) _
 have hX : Wk.Blk ((w.alloc (.cells #[.int .u16 x1, .int .u16 x2, .int .u64 x3, .int .u64 x4, .int .u32 x5, .slice A n c] 67)).alloc (.cells #[.int .u16 x1, .int .u16 x2, .int .u64 x3, .int .u64 x4, .int .u32 x5, .slice B n d] 67)) w.heap.size 67 [.int .u16 x1, .int .u16 x2, .int .u64 x3, .int .u64 x4, .int .u32 x5, .slice A n c] := (Wk.Blk.new w _ [.int .u16 x1, .int .u16 x2, .int .u64 x3, .int .u64 x4, .int .u32 x5, .slice A n c]).alloc _
 have hY : Wk.Blk ((w.alloc (.cells #[.int .u16 x1, .int .u16 x2, .int .u64 x3, .int .u64 x4, .int .u32 x5, .slice A n c] 67)).alloc (.cells #[.int .u16 x1, .int .u16 x2, .int .u64 x3, .int .u64 x4, .int .u32 x5, .slice B n d] 67)) (w.heap.size + 1) 67 [.int .u16 x1, .int .u16 x2, .int .u64 x3, .int .u64 x4, .int .u32 x5, .slice B n d] := ⟨heap_alloc2_new w _ _⟩
 have HB := az hb
 have HC := az (Kd.C_below hC hb)
 have HD := az (Kd.C_below hD hb)
 have a0 := hX.at_ 0 rfl
 have a1 := hX.at_ 1 rfl
 have a2 := hX.at_ 2 rfl
 have a3 := hX.at_ 3 rfl
 have a4 := hX.at_ 4 rfl
 have a5 := hX.at_ 5 rfl
 have b0 := hY.at_ 0 rfl
 have b1 := hY.at_ 1 rfl
 have b2 := hY.at_ 2 rfl
 have b3 := hY.at_ 3 rfl
 have b4 := hY.at_ 4 rfl
 have b5 := hY.at_ 5 rfl
 clear hX hY hb hC hD h1 h2
 have v1 : (convert 35 9 (.slice A n c)).run Tryz.prog ((w.alloc (.cells #[.int .u16 x1, .int .u16 x2, .int .u64 x3, .int .u64 x4, .int .u32 x5, .slice A n c] 67)).alloc (.cells #[.int .u16 x1, .int .u16 x2, .int .u64 x3, .int .u64 x4, .int .u32 x5, .slice B n d] 67)) = .ok (.string (strOfNums data)) ((w.alloc (.cells #[.int .u16 x1, .int .u16 x2, .int .u64 x3, .int .u64 x4, .int .u32 x5, .slice A n c] 67)).alloc (.cells #[.int .u16 x1, .int .u16 x2, .int .u64 x3, .int .u64 x4, .int .u32 x5, .slice B n d] 67)) := Kd.C_string Tryz.underlying35 Tryz.underlying5 Tryz.underlying9 HC.out
 have v2 : (convert 35 9 (.slice B n d)).run Tryz.prog ((w.alloc (.cells #[.int .u16 x1, .int .u16 x2, .int .u64 x3, .int .u64 x4, .int .u32 x5, .slice A n c] 67)).alloc (.cells #[.int .u16 x1, .int .u16 x2, .int .u64 x3, .int .u64 x4, .int .u32 x5, .slice B n d] 67)) = .ok (.string (strOfNums data)) ((w.alloc (.cells #[.int .u16 x1, .int .u16 x2, .int .u64 x3, .int .u64 x4, .int .u32 x5, .slice A n c] 67)).alloc (.cells #[.int .u16 x1, .int .u16 x2, .int .u64 x3, .int .u64 x4, .int .u32 x5, .slice B n d] 67)) := Kd.C_string Tryz.underlying35 Tryz.underlying5 Tryz.underlying9 HD.out
 go_enter Tryz.func32, Tryz.ntmps32
 go_wp2_with fail
 go_ret
 exact ⟨rfl, HB.out⟩
end Go.Proofs.YtgljicdpcapgnaaGreatDoor
namespace Go.Proofs.YtgljicdpcapgnaaGreatDoor
open Go.RowKit Go.Proofs.YtgljicdpcapgnaaGreatDoor.PBase Go.Proofs.YtgljicdpcapgnaaGreatDoorW.PrintWords Go.Proofs.YtgljicdpcapgnaaGreatDoorW.PrintLast Go.Proofs.YtgljicdpcapgnaaGreatDoorW.PrintMore
namespace Cn
theorem drawn_below {w w' : World} (h : Drawn0 w w') : Below w.heap.size w w' := by obtain ⟨m, hm⟩ := h.out; rw [hm]; exact pw_below_drewN (Below.refl _ _) m
theorem sameb_ {A B : Option Addr} {n m c d : Nat} {l : List Int} {w : World} (h0 : Kd.C (Kd.int .u8) w A l.length l) (hn : l.length = n) (hc : n ≤ c) (h1 : Kd.C (Kd.int .u8) w B l.length l) (hm : l.length = m) (hd : m ≤ d) :
    Calls Tryz.prog 21 #[.slice A n c, .slice B m d] w fun e w' => e = .returned (.bool true) ∧ Below w.heap.size w w' := by
  subst hn; subst hm
  exact (coamingref00_SameBytes.calls A c l B d l true w h0 hc h1 hd (by unfold coamingref00_SameBytes.f; rw [beq_self_eq_true])).mono (fun _ _ ⟨a, h⟩ => ⟨a, drawn_below h⟩)
def Later (s : Int) : Prop := s = 2 ∨ s = 3 ∨ s = 4
theorem asked_st (l : List Ps.Tn) (c : St) (k : Int) (d : List Int) (h : Later c.st) : Later (asked l c k d).st := by
  unfold asked
  split
  · exact h
  · split
    · exact h
    · by_cases hw : 3 ∈ (Gr.ak d).2.1
      · simp only [if_pos hw]
        split
        · exact .inr (.inl rfl)
        · exact h
      · simp only [if_neg hw]
        split
        · exact .inr (.inl rfl)
        · exact h
theorem option_st (l : List Ps.Tn) (c : St) (k : Int) (d : List Int) (h : Later c.st) : Later (option l c k d).st := by
  unfold option
  split
  · exact .inr (.inr rfl)
  · split
    · exact h
    · split
      · unfold oldway
        split
        · exact .inr (.inr rfl)
        · exact .inr (.inl rfl)
      · split
        · exact asked_st l c k d h
        · exact h
theorem request_st (c : St) (h : Later c.st) : Later (request c).2.2.st := by
  unfold request
  split
  · exact h
  · split
    split
    · exact h
    · split
      · exact .inr (.inr rfl)
      · exact h
theorem step_st (l : List Ps.Tn) (c : St) (h : Later c.st) : Later (step l c).2.2.st := by
  unfold step
  split
  · rename_i h1
    rcases h with h | h | h <;> (rw [h] at h1; exact absurd h1 (by decide))
  · split
    · show Later (if (Gr.nx c.kept).2.2.2 = 0 then option l c (Gr.nx c.kept).1 (Gr.nx c.kept).2.1 else c).st
      split
      · exact option_st _ _ _ _ h
      · exact h
    · split
      · exact request_st c h
      · exact h
def Few (c : St) : Prop := c.rs.length ≤ 16 ∧ (c.st ≠ 3 → c.rs = [])
theorem few_close (c : St) : Few (close c) := ⟨Nat.zero_le _, fun _ => rfl⟩
theorem few_option (l : List Ps.Tn) (c : St) (k : Int) (d : List Int) (h : c.rs = []) : Few (option l c k d) := by
  have e : (option l c k d).rs = [] := by
    rcases (option_keeps l c k d).2.2 with ⟨_, e⟩ | ⟨_, e, _⟩
    · rw [e, h]
    · exact e
  exact ⟨by rw [e]; exact Nat.zero_le _, fun _ => e⟩
theorem few_step (l : List Ps.Tn) (c : St) (h : Few c) : Few (step l c).2.2 := by
  unfold step
  split
  · rename_i h1
    have hr := h.2 (by rw [h1]; decide)
    show Few (if (Gr.fl c.kept).2.2 = 0 then { c with sh := (Gr.fl c.kept).1, st := 2 } else c)
    split
    · exact ⟨by show c.rs.length ≤ 16; exact h.1, fun _ => hr⟩
    · exact h
  · split
    · rename_i h2
      show Few (if (Gr.nx c.kept).2.2.2 = 0 then option l c (Gr.nx c.kept).1 (Gr.nx c.kept).2.1 else c)
      split
      · exact few_option l c _ _ (h.2 (by rw [h2]; decide))
      · exact h
    · split
      · rename_i h3
        unfold request
        split
        · exact h
        · rename_i h16
          split
          split
          · exact h
          · split
            · exact few_close c
            · refine ⟨?_, fun hh => absurd h3 hh⟩
              show (c.rs ++ [_]).length ≤ 16
              rw [List.length_append]
              have := h.1
              simp only [List.length_singleton]
              omega
      · exact h
theorem few_new (b : Int) : Few (new b) := ⟨Nat.zero_le _, fun _ => rfl⟩
end Cn
namespace Cn
def Lite (l : List Ps.Tn) (n : Nat) (ls : Nat → Nat) : Prop := Ps.few l = true ∧ n ≤ 60 ∧ ∀ i, i < n → ls i ≤ 3000
end Cn
theorem heavyc_.calls {W : World} {A0 A1 : Option Addr} {n0 c0 n c : Nat} {l : List Ps.Tn} {ls : Nat → Nat} (h0 : Ps.kTn.C W A0 l.length l) (hn0 : l.length = n0) (hc0 : n0 ≤ c0) (h1 : 0 < n → ∃ ad, A1 = some ad ∧ ∀ i : Nat, i < n → ∃ A c, W.cell? ⟨(ad.add (i * 4)).block, (ad.add (i * 4)).off + 1, none⟩ = some (.slice A (ls i) c)) :
  Calls Tryz.prog 5 #[.slice A0 n0 c0, .slice A1 n c] W fun e w' => ∃ b, e = .returned (.bool b) ∧ (b = false → Cn.Lite l n ls) ∧ Below W.heap.size W w' := by
 obtain ⟨fw, HFW⟩ : ∃ b, Aside0 (Ps.few l = b) := ⟨_, ⟨rfl⟩⟩
 have H1 := az h1
 have H0 := az h0
 have HN0 := az hn0
 have HC0 := az hc0
 clear h0 hn0 hc0 h1
 go_enter Tryz.func5, Tryz.ntmps5
 go_wp2_with fail
 refine (Ps.tenants_ H0.out HN0.out HC0.out HFW.out).mono ?_
 rintro e w1 ⟨rfl, hb1⟩
 have HB1 := az hb1
 clear hb1
 cases fw with
 | false =>
  go_wp2_with fail
  go_ret
  exact ⟨true, rfl, (fun h => by cases h), HB1.out⟩
 | true =>
 by_cases h60 : (n : Int) > 60
 ·go_wp2_with fail
  go_ret
  exact ⟨true, rfl, (fun h => by cases h), HB1.out⟩
 have HN60 : Aside0 (n ≤ 60) := ⟨by omega⟩
 go_wp2_with fail
 clear h60
 go_loopw [6] (fun ix wr => ∃ i : Nat, ix = .int .i64 i ∧ i ≤ n ∧ Aside0 (∀ j, j < i → ls j ≤ 3000) ∧ Aside0 (Below W.heap.size W wr)) (fun ix _ => n - (intOf ix).toNat)
 case atStart => exact ⟨0, rfl, Nat.zero_le _, ⟨fun j hj => absurd hj (Nat.not_lt_zero _)⟩, HB1⟩
 case round =>
  clear HB1
  obtain ⟨i, rfl, hi, HL, HB⟩ := hrel
  by_cases hlt : i < n
  ·have hltI : (i : Int) < n := by omega
   have hi60 : (i : Int) < 60 := by have := HN60.out; omega
   obtain ⟨ad, hA, hh⟩ := H1.out (by omega)
   subst hA
   obtain ⟨Ai, ci, hx⟩ := hh i hlt
   have hcell := (HB.out.cell (World.block_lt_of_cell? _ _ hx)).trans hx
   obtain ⟨q, HQ⟩ : ∃ q, Aside0 (ls i = q) := ⟨_, ⟨rfl⟩⟩
   rw [HQ.out] at hcell
   clear hh hx
   by_cases h3 : (q : Int) > 3000
   ·go_wp2_with fail
    go_ret
    exact ⟨true, rfl, (fun h => by cases h), HB.out⟩
   ·have HQ3 : Aside0 (q ≤ 3000) := ⟨by omega⟩
    go_wp2_with fail
    exact ⟨⟨i + 1, by simp, by omega, ⟨fun j hj => by
     rcases Nat.lt_or_ge j i with h | h
     ·exact HL.out j h
     ·obtain rfl : j = i := by omega
      rw [HQ.out]; exact HQ3.out⟩, HB⟩, by simp [intOf]; omega⟩
  ·obtain rfl : n = i := by omega
   go_wp2_with fail
   go_ret
   exact ⟨false, rfl, fun _ => ⟨HFW.out, HN60.out, HL.out⟩, HB.out⟩
namespace Cn
abbrev Co := Int × List Int × Int × Int
abbrev kCo : Kd Co := Kd.pair (Kd.int .u8) (Kd.pair (Kd.slice 5 (Kd.int .u8)) (Kd.pair (Kd.int .i64) (Kd.int .u32)))
def CoIn (x : Co) : Prop := (Lit.int .u8 x.1).wf = true ∧ (x.2.1.length ≤ maxLen ∧ ∀ y ∈ x.2.1, (Lit.int .u8 y).wf = true) ∧ (Lit.int .i64 x.2.2.1).wf = true ∧ (Lit.int .u32 x.2.2.2).wf = true
theorem opens_co : Opens Tryz.prog 38 kCo CoIn := by
  intro H enc w base spare held fuel cs x h
  obtain ⟨hl, hf⟩ := struct_fields Tryz.underlying38 h
  obtain ⟨a0, k0, w0⟩ := hf 0 _ rfl (opens_int Tryz.underlying5)
  obtain ⟨a1, k1, w1⟩ := hf 1 _ rfl opens_bytes
  obtain ⟨a2, k2, w2⟩ := hf 2 _ rfl (opens_int Tryz.underlying3)
  obtain ⟨a3, k3, w3⟩ := hf 3 _ rfl (opens_int Tryz.underlying36)
  have c1 : Tryz.prog.cellsOf 5 = 1 := by kernel_rfl
  have cb : Tryz.prog.cellsOf 35 = 1 := by kernel_rfl
  have ci : Tryz.prog.cellsOf 3 = 1 := by kernel_rfl
  have c32 : Tryz.prog.cellsOf 36 = 1 := by kernel_rfl
  have c4 : Tryz.prog.cellsOf 38 = 4 := by kernel_rfl
  rw [c4] at hl
  change (Kd.int .u8).K w a0 ((cs.drop 0).take (Tryz.prog.cellsOf 5)) at k0
  rw [c1] at k0
  change (Kd.slice 5 (Kd.int .u8)).K w a1 ((cs.drop 1).take (Tryz.prog.cellsOf 35)) at k1
  rw [cb] at k1
  change (Kd.int .i64).K w a2 ((cs.drop 2).take (Tryz.prog.cellsOf 3)) at k2
  rw [ci] at k2
  change (Kd.int .u32).K w a3 ((cs.drop 3).take (Tryz.prog.cellsOf 36)) at k3
  rw [c32] at k3
  refine ⟨(a0, a1, a2, a3), ?_, w0, w1, w2, w3⟩
  match cs, hl with
  | [y0, y1, y2, y3], _ => exact pairK k0 (pairK k1 (pairK k2 k3))
def coc (x : Co) (A : Option Addr) (c : Nat) : List Value := [.int .u8 x.1, .slice A x.2.1.length c, .int .i64 x.2.2.1, .int .u32 x.2.2.2]
theorem co_cells {w : World} {x : Co} {cs : List Value} (h : kCo.K w x cs) : ∃ A c, cs = coc x A c ∧ x.2.1.length ≤ c ∧ Kd.C (Kd.int .u8) w A x.2.1.length x.2.1 := by
  obtain ⟨_, _, rfl, rfl, _, _, rfl, ⟨A, c, rfl, hl, hC⟩, _, _, rfl, rfl, rfl⟩ := h
  exact ⟨A, c, rfl, hl, hC⟩
theorem sizeCo : (Tryz.prog.info? 38).map (·.size) = some 4 := by kernel_rfl
theorem co_get {w : World} {A : Option Addr} {n : Nat} {rs : List Co} (h : kCo.C w A n rs) (i : Nat) (hi : i < rs.length) (hn : rs.length = n) : ∃ ad A0 c0, A = some ad ∧
    (∀ w', Below w.heap.size w w' → (Instr.loadAt 38 (.pointer (some (ad.add (i * 4))))).run Tryz.prog w' = .ok (.agg (coc rs[i] A0 c0).toArray) w') ∧
    w.cell? ⟨(ad.add (i * 4)).block, (ad.add (i * 4)).off + 1, none⟩ = some (.slice A0 rs[i].2.1.length c0) ∧ rs[i].2.1.length ≤ c0 ∧ Kd.C (Kd.int .u8) w A0 rs[i].2.1.length rs[i].2.1 := by
  obtain ⟨ad, c, e, _, hK, hc0⟩ := Kd.C_get h ((0, [], 0, 0) : Co) (i : Int) (by omega) (by omega)
  rw [List.getD_eq_getElem?_getD, Int.toNat_natCast, List.getElem?_eq_getElem hi] at hK
  change kCo.K w rs[i] c at hK
  have hc : ∀ j u, c[j]? = some u → w.cell? (ad.add (i * 4 + j)) = some u := fun j u hu => by
    have := hc0 j u hu
    rwa [Int.toNat_natCast] at this
  obtain ⟨A0, c0, rfl, l0, g0⟩ := co_cells hK
  refine ⟨ad, A0, c0, e, ?_, by rw [← add_field _ _ 1 (by omega)]; exact hc 1 _ rfl, l0, g0⟩
  intro w' hb
  have hu := Tryz.underlying38
  obtain ⟨q, hi, hsz⟩ := Option.map_eq_some_iff.1 sizeCo
  have hl : (loadCells (ad.add (i * 4)) 4).run Tryz.prog w' = .ok (coc rs[i] A0 c0).toArray w' :=
    run_loadCells_list (P := Tryz.prog) w' (ad.add (i * 4)) (coc rs[i] A0 c0) (fun j v hv => by rw [add_add]; have := hc j v hv; exact (hb.cell (World.block_lt_of_cell? w _ this)).trans this)
  have hagg : (isAgg 38).run Tryz.prog w' = .ok true w' := by
    unfold isAgg
    rw [Sem.run_bind, run_underlying hu w']
    rfl
  simp [Instr.loadAt, Instr.sureAddr, loadVar, Sem.run_bind, hagg, sizeOf, typeInfo, hi, hsz, hl]
def doOp (l : List Ps.Tn) (c : St) (o : Co) : St :=
  if o.1 % 8 = 5 then (if 0 ≤ o.2.2.1 then (match c.rs[o.2.2.1.toNat]? with | some r => answered (take l c o.2.2.1) r o.2.2.2 o.2.1 | none => take l c o.2.2.1) else take l c o.2.2.1)
  else if o.1 % 8 = 6 then out c
  else if o.1 % 8 = 7 then (if o.2.2.1 = 0 then close c else c)
  else feed l c o.2.1
theorem take_ok (l : List Ps.Tn) (c : St) (k : Int) (h : Ok c) : Ok (take l c k) ∧ (take l c k).send.length ≤ c.send.length + 5300000000 := by
  have hl := h.len
  have hb : 40000 * (c.kept.length + 1) ≤ 5300000000 := by omega
  unfold take
  split
  · obtain ⟨g1, g2⟩ := read_ok l 40000 (Nat.le_refl _) _ c (Nat.le_refl _) h
    exact ⟨g1, Nat.le_trans g2 (Nat.add_le_add_left hb _)⟩
  · have h2 : Ok { c with rs := c.rs.eraseIdx k.toNat } := ⟨h.by_, h.len, fun r hr => h.rs_ r (List.mem_of_mem_eraseIdx hr), h.blk_⟩
    obtain ⟨g1, g2⟩ := read_ok l 40000 (Nat.le_refl _) _ _ (Nat.le_refl _) h2
    exact ⟨g1, Nat.le_trans g2 (Nat.add_le_add_left hb _)⟩
theorem answered_ok (c : St) (r : Rq) (a : Int) (d : List Int) (h : Ok c) : Ok (answered c r a d) ∧ (answered c r a d).send.length ≤ c.send.length + 8000 + d.length := by
  unfold answered
  split
  · exact ⟨h, by omega⟩
  · refine ⟨⟨h.by_, h.len, h.rs_, h.blk_⟩, ?_⟩
    show (c.send ++ answer a r.2.2.1 (if a = 0 then d else [])).length ≤ _
    rw [List.length_append]
    by_cases ha : a = 0
    · rw [if_pos ha]
      have := answer_len a r.2.2.1 d
      omega
    · rw [if_neg ha]
      have := answer_len a r.2.2.1 []
      rw [List.length_nil] at this
      omega
theorem doOp_ok (l : List Ps.Tn) (c : St) (o : Co) (h : Ok c) (hb : Sh.Bytes o.2.1) (hl : o.2.1.length ≤ 3000) : Ok (doOp l c o) ∧ (doOp l c o).send.length ≤ c.send.length + 6000000000 := by
  obtain ⟨t1, t2⟩ := take_ok l c o.2.2.1 h
  unfold doOp
  split
  · split
    · split
      · rename_i r _
        obtain ⟨a1, a2⟩ := answered_ok (take l c o.2.2.1) r o.2.2.2 o.2.1 t1
        exact ⟨a1, by omega⟩
      · exact ⟨t1, by omega⟩
    · exact ⟨t1, by omega⟩
  · split
    · exact ⟨⟨h.by_, h.len, h.rs_, h.blk_⟩, Nat.zero_le _⟩
    · split
      · split
        · exact ⟨close_ok c h, by show c.send.length ≤ _; omega⟩
        · exact ⟨h, by omega⟩
      · obtain ⟨f1, f2⟩ := feed_ok l c o.2.1 h hb
        exact ⟨f1, by omega⟩
structure Bo (W : World) (B N : Nat) (p tb q tr : Nat) (c d : St) (oc xc od xd : Nat → Prop) : Prop where mk_ ::
  l : Cn W oc xc p tb c
  r : Rn W od xd q tr d
  bc : ∀ k, oc k → B ≤ k
  bd : ∀ k, od k → B ≤ k
  lt : ∀ k, (oc k ∨ xc k) ∨ (od k ∨ xd k) → k < N
  nw : N ≤ W.heap.size
  a1 : ∀ k, oc k → ¬ (od k ∨ xd k)
  a2 : ∀ k, od k → ¬ (oc k ∨ xc k)
section
variable {W W' : World} {B N p tb q tr : Nat} {c d c' : St} {oc xc od xd : Nat → Prop}
theorem Bo.below (h : Bo W B N p tb q tr c d oc xc od xd) (hb : Below W.heap.size W W') : Bo W' B N p tb q tr c d oc xc od xd := ⟨h.l.below hb, h.r.below hb, h.bc, h.bd, h.lt, Nat.le_trans h.nw hb.size, h.a1, h.a2⟩
def oL (W : World) (oc : Nat → Prop) (k : Nat) : Prop := oc k ∨ W.heap.size ≤ k
theorem Bo.left (h : Bo W B N p tb q tr c d oc xc od xd) : Cn W (oL W oc) xc p tb c := h.l.mono (fun _ hk => .inl hk) (fun _ hk => .inr hk)
theorem Bo.right (h : Bo W B N p tb q tr c d oc xc od xd) : Rn W (oL W od) xd q tr d := h.r.mono (fun _ hk => .inl hk) (fun _ hk => .inr hk)
theorem oL_new : ∀ k, W.heap.size ≤ k → oL W oc k := fun _ hk => .inr hk
theorem Bo.okL (h : Bo W B N p tb q tr c d oc xc od xd) (hB : B ≤ W.heap.size) : ∀ k, oL W oc k → B ≤ k := fun k hk => hk.elim (h.bc k) (fun hk => Nat.le_trans hB hk)
theorem Bo.okR (h : Bo W B N p tb q tr c d oc xc od xd) (hB : B ≤ W.heap.size) : ∀ k, oL W od k → B ≤ k := fun k hk => hk.elim (h.bd k) (fun hk => Nat.le_trans hB hk)
theorem Bo.goL (h : Bo W B N p tb q tr c d oc xc od xd) (hB : B ≤ W.heap.size) (hc : Cn W' (oL W oc) xc p tb c') (hf : Fr W W' (oL W oc)) : Bo W' B W'.heap.size p tb q tr c' d (fun k => oL W oc k ∧ k < W'.heap.size) xc od xd :=
  ⟨hc.bound.mono (fun _ hk => hk) (fun _ hk => .inr hk.1), h.r.frame hf (fun k hk hh => hh.elim (fun hh => h.a1 k hh hk) (fun hh => by have := h.lt k (.inr hk); have := h.nw; omega)), fun k hk => h.okL hB k hk.1, h.bd,
    fun k hk => by
      have hs := hf.size
      have hn := h.nw
      rcases hk with (hk | hk) | hk
      · exact hk.2
      · have := h.lt k (.inl (.inr hk)); omega
      · have := h.lt k (.inr hk); omega,
    Nat.le_refl _, fun k hk hh => hk.1.elim (fun hk => h.a1 k hk hh) (fun hk => by have := h.lt k (.inr hh); have := h.nw; omega), fun k hk hh => hh.elim (fun hh => hh.1.elim (fun hh => h.a2 k hk (.inl hh)) (fun hh => by have := h.lt k (.inr (.inl hk)); have := h.nw; omega)) (fun hh => h.a2 k hk (.inr hh))⟩
theorem Bo.goR (h : Bo W B N p tb q tr c d oc xc od xd) (hB : B ≤ W.heap.size) (hc : Rn W' (oL W od) xd q tr c') (hf : Fr W W' (oL W od)) : Bo W' B W'.heap.size p tb q tr c c' oc xc (fun k => oL W od k ∧ k < W'.heap.size) xd :=
  ⟨h.l.frame hf (fun k hk hh => hh.elim (fun hh => h.a2 k hh hk) (fun hh => by have := h.lt k (.inl hk); have := h.nw; omega)), hc.bound.mono (fun _ hk => hk) (fun _ hk => .inr hk.1), h.bc, fun k hk => h.okR hB k hk.1,
    fun k hk => by
      have hs := hf.size
      have hn := h.nw
      rcases hk with hk | (hk | hk)
      · have := h.lt k (.inl hk); omega
      · exact hk.2
      · have := h.lt k (.inr (.inr hk)); omega,
    Nat.le_refl _, fun k hk hh => hh.elim (fun hh => hh.1.elim (fun hh => h.a1 k hk (.inl hh)) (fun hh => by have := h.lt k (.inl (.inl hk)); have := h.nw; omega)) (fun hh => h.a1 k hk (.inr hh)), fun k hk hh => hk.1.elim (fun hk => h.a2 k hk hh) (fun hk => by have := h.lt k (.inl hh); have := h.nw; omega)⟩
end
def BoE (W : World) (B : Nat) (p tb q tr : Nat) (c d : St) : Prop := ∃ N oc xc od xd, Bo W B N p tb q tr c d oc xc od xd
theorem BoE.below {W W' : World} {B p tb q tr : Nat} {c d : St} (h : BoE W B p tb q tr c d) (hb : Below W.heap.size W W') : BoE W' B p tb q tr c d := by
  obtain ⟨N, oc, xc, od, xd, h⟩ := h
  exact ⟨N, oc, xc, od, xd, h.below hb⟩
def Tab2 (W : World) (n : Nat) (l : List Ps.Tn) (e : Ending) (w' : World) : Prop :=
  Below W.heap.size W w' ∧ ((∃ p q, e = .returned (.tuple #[.pointer (some ⟨p, 0, none⟩), .pointer (some ⟨q, 0, none⟩), .bool true]) ∧ Ps.Tb w' W.heap.size p l ∧ Ps.Tr w' W.heap.size q l) ∨ e = .returned (.tuple #[.pointer none, .pointer none, .bool false]))
end Cn
theorem tables2_.calls {W : World} {A : Option Addr} {n c : Nat} {l : List Ps.Tn} (hC : Ps.kTn.C W A l.length l) (hn : l.length = n) (hw : ∀ x ∈ l, Ps.TnWf x) : Calls Tryz.prog 7 #[.slice A n c] W (Cn.Tab2 W n l) := by
 have HC := az hC
 have HN := az hn
 have HW := az hw
 clear hC hn hw
 go_enter Tryz.func7, Tryz.ntmps7
 go_wp2_with fail
 refine (new_pass.calls A n c l W HC.out HN.out HW.out).mono ?_
 rintro e w1 ⟨hb1, h1⟩
 have HB1 := az hb1
 have HC1 := az (Kd.C_below HC.out hb1)
 clear hb1
 rcases h1 with ⟨h64, rfl⟩ | ⟨h64, hg, rfl⟩ | ⟨h64, hg, p, rfl, ht⟩
 ·have H64 := az h64
  clear h64
  go_wp2_with fail
  refine (refnew_.calls A n c l w1 HC1.out HN.out HW.out).mono ?_
  rintro e w2 ⟨hb2, h2⟩
  have HB2 := az (below_then HB1.out HB1.out.size hb2)
  clear hb2
  rcases h2 with ⟨_, rfl⟩ | ⟨h, _⟩ | ⟨h, _⟩
  ·go_wp2_with fail
   go_ret3
   exact ⟨HB2.out, .inr rfl⟩
  ·exact absurd H64.out (by omega)
  ·exact absurd H64.out (by omega)
 ·have H64 := az (And.intro h64 hg)
  clear h64 hg
  go_wp2_with fail
  refine (refnew_.calls A n c l w1 HC1.out HN.out HW.out).mono ?_
  rintro e w2 ⟨hb2, h2⟩
  have HB2 := az (below_then HB1.out HB1.out.size hb2)
  clear hb2
  rcases h2 with ⟨h, _⟩ | ⟨_, _, rfl⟩ | ⟨_, h, _⟩
  ·exact absurd H64.out.1 (by omega)
  ·go_wp2_with fail
   go_ret3
   exact ⟨HB2.out, .inr rfl⟩
  ·have := H64.out.2
   rw [h] at this
   cases this
 ·have H64 := az (And.intro h64 hg)
  have HT := az ht
  clear h64 hg ht
  go_wp2_with fail
  refine (refnew_.calls A n c l w1 HC1.out HN.out HW.out).mono ?_
  rintro e w2 ⟨hb2, h2⟩
  have HB2 := az (below_then HB1.out HB1.out.size hb2)
  have HT2 := az (HT.out.below hb2)
  rcases h2 with ⟨h, _⟩ | ⟨_, h, _⟩ | ⟨_, _, q, rfl, hr⟩
  ·exact absurd H64.out.1 (by omega)
  ·have := H64.out.2
   rw [h] at this
   cases this
  ·obtain ⟨Ar, cr, r1, r2, r3, r4⟩ := hr
   have HR2 : Aside0 (Ps.Tr w2 W.heap.size q l) := ⟨⟨Ar, cr, Nat.le_trans HB1.out.size r1, r2, r3, Kd.F_mono r4 (fun k hk => Nat.le_trans HB1.out.size hk)⟩⟩
   clear hb2 r1 r2 r3 r4
   go_wp2_with fail
   go_ret3
   exact ⟨HB2.out, .inl ⟨p, q, rfl, HT2.out, HR2.out⟩⟩
theorem Wk.load_gd {P : Program} {ops : Array Oper} {o : Oper} {rest : List Oper} {a : Act} {w : World} {Q : Exit → Act → World → Prop} (hw : Region.wanted o (yielded ops a.tmps) = true) (t : TypeId) (p : Operand) (ho : o.op = .load t p) (v pv : Value) (hp : a.eval p = pv) (hrun : (Instr.loadAt t pv).run P w = .ok v w)
    (h : wpList P ops Q rest (a.put o.dst v) w) : wpList P ops Q (o :: rest) a w := by
  unfold wpList
  rw [if_pos hw]
  exact .inl (wp_load t p ho v pv hp hrun h)
namespace Cn
def tk (rs : List Rq) (k : Int) : Bool × Rq := if 0 ≤ k then (match rs[k.toNat]? with | some r => (true, r) | none => (false, (0, 0, 0, 0, 0, []))) else (false, (0, 0, 0, 0, 0, []))
theorem TkPost.tk {rs : List Rq} {D : Nat → Prop} {k : Int} {e : Ending} {w' : World} (h : TkPost rs D k e w') : ∃ A c, e = .returned (.tuple #[.agg (Pi.rqc (Cn.tk rs k).2.1 (Cn.tk rs k).2.2.1 (Cn.tk rs k).2.2.2.1 (Cn.tk rs k).2.2.2.2.1 (Cn.tk rs k).2.2.2.2.2.1 (.slice A (Cn.tk rs k).2.2.2.2.2.2.length c)).toArray, .bool (Cn.tk rs k).1]) ∧ Kd.R (Kd.int .u8) 5 w' 0 D (.slice A (Cn.tk rs k).2.2.2.2.2.2.length c) (Cn.tk rs k).2.2.2.2.2.2 := by
  rcases h with ⟨h, rfl⟩ | ⟨r, v, ⟨h0, h1⟩, rfl, hR⟩
  · have e : Cn.tk rs k = (false, (0, 0, 0, 0, 0, [])) := by
      unfold Cn.tk
      by_cases h0 : 0 ≤ k
      · rw [if_pos h0, List.getElem?_eq_none (by omega)]
      · rw [if_neg h0]
    rw [e]
    exact ⟨none, 0, rfl, Kd.R_nil _ _ _ _ _⟩
  · have e : Cn.tk rs k = (true, r) := by unfold Cn.tk; rw [if_pos h0, h1]
    obtain ⟨A, c, rfl⟩ := Kd.R_slice hR
    rw [e]
    exact ⟨A, c, rfl, hR⟩
theorem doOp_5 (l : List Ps.Tn) (c : St) (o : Co) (h : o.1 % 8 = 5) : doOp l c o = if (tk c.rs o.2.2.1).1 = true then answered (take l c o.2.2.1) (tk c.rs o.2.2.1).2 o.2.2.2 o.2.1 else take l c o.2.2.1 := by
  unfold doOp tk
  rw [if_pos h]
  by_cases h0 : 0 ≤ o.2.2.1
  · rw [if_pos h0, if_pos h0]
    cases c.rs[o.2.2.1.toNat]? with
    | none => rfl
    | some r => rfl
  · rw [if_neg h0, if_neg h0]
    rfl
end Cn
theorem does_.calls {W w0 : World} {p tb bs q tr br : Nat} {c : Cn.St} {l : List Ps.Tn} (h : Cn.BoE W w0.heap.size p tb q tr c c) (hX : Cn.Ctx w0 tb bs l) (hR : Cn.RCtx w0 tr br l) (hBW : Below w0.heap.size w0 W) (hc : Cn.Ok c) (hs : c.send.length ≤ 6000000000000) {kd k a : Int} {b : List Int} {A : Option Addr} {n cp : Nat} (hkd : 0 ≤ kd ∧ kd ≤ 255) (ha : 0 ≤ a ∧ a < 4294967296) (hA : Kd.C (Kd.int .u8) w0 A b.length b) (hn : b.length = n) (hcp : n ≤ cp) (hby : Sh.Bytes b) (hl : n ≤ 3000) :
  Calls Tryz.prog 10 #[.pointer (some ⟨p, 0, none⟩), .pointer (some ⟨q, 0, none⟩), .agg #[.int .u8 kd, .slice A n cp, .int .i64 k, .int .u32 a]] W fun e w' => e = .returned (.bool true) ∧ Cn.BoE w' w0.heap.size p tb q tr (Cn.doOp l c (kd, b, k, a)) (Cn.doOp l c (kd, b, k, a)) ∧ Below w0.heap.size w0 w' := by
 obtain ⟨N, oc, xc, od, xd, hb⟩ := h
 have HX := az hX
 have HRX := az hR
 have HO := az hc
 have HS := az hs
 have HA := az ha
 have HCB : Aside0 (∀ w', Below w0.heap.size w0 w' → Kd.C (Kd.int .u8) w' A n b) := ⟨fun w' hb => by have := Kd.C_below hA hb; rwa [hn] at this⟩
 have HN := az (And.intro hn (And.intro hcp hl))
 have HBY := az hby
 have HSO := az Cn.sizeCo
 have HSR := az Pi.size33
 have HB1 : Aside0 (Below W.heap.size W (W.alloc (.cells #[.int .u8 kd, .slice A n cp, .int .i64 k, .int .u32 a] 38))) := ⟨below_alloc (Below.refl _ _) _⟩
 have HX1 : Aside0 (Wk.Blk (W.alloc (.cells #[.int .u8 kd, .slice A n cp, .int .i64 k, .int .u32 a] 38)) W.heap.size 38 [.int .u8 kd, .slice A n cp, .int .i64 k, .int .u32 a]) := ⟨Wk.Blk.new W _ [.int .u8 kd, .slice A n cp, .int .i64 k, .int .u32 a]⟩
 have HBO := az (hb.below HB1.out)
 have HNW : Aside0 (N ≤ W.heap.size) := ⟨hb.nw⟩
 have HB0 : Aside0 (Below w0.heap.size w0 (W.alloc (.cells #[.int .u8 kd, .slice A n cp, .int .i64 k, .int .u32 a] 38))) := ⟨below_then hBW hBW.size HB1.out⟩
 obtain ⟨m, HM⟩ : ∃ m, Aside0 (kd % 8 = m) := ⟨_, ⟨rfl⟩⟩
 have hm : Int.tmod kd 8 = m := by rw [Int.tmod_eq_emod_of_nonneg hkd.1, HM.out]
 have c0 := HX1.out.at_ 0 rfl
 have c1 := HX1.out.at_ 1 rfl
 have c2 := HX1.out.at_ 2 rfl
 clear hX hR hc hs hA hn hcp hby hl hb ha hkd
 go_enter Tryz.func10, Tryz.ntmps10
 by_cases h5 : m = 5
 ·subst h5
  go_wp2_with fail
  clear c0 c1 c2 hm
  obtain ⟨g5, HG5⟩ : ∃ g, Aside0 (W.heap.size = g) := ⟨_, ⟨rfl⟩⟩
  generalize W.alloc (.cells #[.int .u8 kd, .slice A n cp, .int .i64 k, .int .u32 a] 38) = w1 at *
  rw [HG5.out] at HX1 HNW ⊢
  have HG1 : Aside0 (g5 < w1.heap.size) := ⟨HX1.out.lt⟩
  have HNG : Aside0 (¬ Cn.oL w1 oc g5 ∧ ¬ Cn.oL w1 od g5) := ⟨fun hh => hh.elim (fun hh => by have := HBO.out.lt g5 (.inl (.inl hh)); have := HNW.out; omega) (fun hh => by have := HG1.out; omega), fun hh => hh.elim (fun hh => by have := HBO.out.lt g5 (.inr (.inl hh)); have := HNW.out; omega) (fun hh => by have := HG1.out; omega)⟩
  refine (takec_.calls HX.out HBO.out.left Cn.oL_new HO.out HB0.out (HBO.out.okL HB0.out.size) (by have := HS.out; omega) k).mono ?_
  rintro e w2 ⟨hp2, hc2, hf2⟩
  obtain ⟨A2, cx2, rfl, hd2⟩ := hp2.tk
  obtain ⟨is, ⟨x1, x2, x3, x4, x5, data⟩, HTK⟩ : ∃ is r, Aside0 (Cn.tk c.rs k = (is, r)) := ⟨_, _, ⟨rfl⟩⟩
  simp only [HTK.out] at hd2 ⊢
  obtain ⟨nd, HND⟩ : ∃ n, Aside0 (data.length = n) := ⟨_, ⟨rfl⟩⟩
  simp only [HND.out] at hd2 ⊢
  have HB2 := az (hf2.below HB0.out HB0.out.size (HBO.out.okL HB0.out.size))
  have HBO2 := az (HBO.out.goL HB0.out.size hc2 hf2)
  have HD2 := az (Kd.R_bound hd2)
  have HX2 := az (Cn.Blk_frame HX1.out hf2 HNG.out.1)
  have HSZ2 : Aside0 (w1.heap.size ≤ w2.heap.size) := ⟨hf2.size⟩
  have HB3 := az (below_alloc (Below.refl w2.heap.size w2) (.cells Pi.zrq.toArray 67))
  have HY3 : Aside0 (Wk.Blk (w2.alloc (.cells Pi.zrq.toArray 67)) w2.heap.size 67 Pi.zrq) := ⟨Wk.Blk.new w2 _ _⟩
  clear hp2 hc2 hf2 hd2
  have c2 := (HX2.out.below_ HB3.out).at_ 2 rfl
  change (w2.alloc (.cells #[.int .u16 0, .int .u16 0, .int .u64 0, .int .u64 0, .int .u32 0, .slice none 0 0] 67)).cell? _ = _ at c2
  go_wp2_with (refine Wk.store_all rfl rfl 67 (.tmp 7) (.tmp 29) rfl w2.heap.size (Pi.rqc x1 x2 x3 x4 x5 (.slice A2 nd cx2)) rfl rfl 67 _ HY3.out HSR.out rfl rfl ?_; intro w3 hX hO; have HY4 := az hX; have HB4 := az (Wk.Only.below HB3.out hO (Nat.le_refl _)); have c2' := (HX2.out.below_ HB4.out).at_ 2 rfl; clear hX hO c2)
  clear c2'
  obtain ⟨g7, HG7⟩ : ∃ g, Aside0 (w2.heap.size = g) := ⟨_, ⟨rfl⟩⟩
  rw [HG7.out] at HY4 ⊢
  have HG3 : Aside0 (g7 < w3.heap.size) := ⟨HY4.out.lt⟩
  have HBO3 := az (HBO2.out.below HB4.out)
  have HD3 := az (Kd.R_below HD2.out HB4.out)
  have HX3 := az (HX2.out.below_ HB4.out)
  have HB5 := az (below_then HB2.out HB2.out.size HB4.out)
  have HNG3 : Aside0 (¬ Cn.oL w3 od g5 ∧ ¬ Cn.oL w3 od g7 ∧ (∀ j, ((Cn.oL w1 oc j ∨ xc j) ∧ 0 ≤ j ∧ j < w2.heap.size ∧ ∃ q', q' ∈ 5 :: (Kd.int .u8).E ∧ ∃ cells, w2.heap[j]? = some (.cells cells q' (0, 0))) → ¬ Cn.oL w3 od j)) := ⟨by
   have h1 := HBO3.out
   have h2 := HG7.out
   have h3 := HG3.out
   have h4 := HSZ2.out
   have h5 := HG1.out
   have h6 := HB4.out.size
   refine ⟨fun hh => hh.elim (fun hh => HNG.out.2 (.inl hh)) (fun hh => by omega), fun hh => hh.elim (fun hh => by have := h1.lt g7 (.inr (.inl hh)); omega) (fun hh => by omega), fun j hj hh => hh.elim (fun hh => h1.a2 j hh (hj.1.imp (fun h => ⟨h, by have := hj.2.2.1; omega⟩) id)) (fun hh => by have := hj.2.2.1; omega)⟩⟩
  clear HBO2 HD2 HX2 HB3 HY3 HB4 HB2
  refine (rtakec_.calls HRX.out HBO3.out.right Cn.oL_new HO.out HB5.out (HBO3.out.okR HB5.out.size) (by have := HS.out; omega) k).mono ?_
  rintro e w4 ⟨hp4, hc4, hf4⟩
  obtain ⟨A4, cx4, rfl, hd4⟩ := hp4.tk
  simp only [HTK.out, HND.out] at hd4 ⊢
  have HB6 := az (hf4.below HB5.out HB5.out.size (HBO3.out.okR HB5.out.size))
  have HBO4 := az (HBO3.out.goR HB5.out.size hc4 hf4)
  have HD4 := az hd4
  have HX4 := az (Cn.Blk_frame HX3.out hf4 HNG3.out.1)
  have HY5 := az (Cn.Blk_frame HY4.out hf4 HNG3.out.2.1)
  have HD5 := az (Cn.R_frame HD3.out hf4 HNG3.out.2.2)
  have HSZ4 : Aside0 (w3.heap.size ≤ w4.heap.size) := ⟨hf4.size⟩
  have HB7 := az (below_alloc (Below.refl w4.heap.size w4) (.cells Pi.zrq.toArray 67))
  have HZ7 : Aside0 (Wk.Blk (w4.alloc (.cells Pi.zrq.toArray 67)) w4.heap.size 67 Pi.zrq) := ⟨Wk.Blk.new w4 _ _⟩
  have hnn : (is != is) = false := by cases is <;> rfl
  clear hp4 hc4 hf4 hd4 HNG3
  go_wp2_with (first
   | (refine Wk.store_all rfl rfl 67 (.tmp 9) (.tmp 36) rfl w4.heap.size (Pi.rqc x1 x2 x3 x4 x5 (.slice A4 nd cx4)) rfl rfl 67 _ HZ7.out HSR.out rfl rfl ?_; intro w5 hX hO; have HZ8 := az hX; have HB8 := az (Wk.Only.below HB7.out hO (Nat.le_refl _)); have HY8 := az (HY5.out.below_ HB8.out); clear hX hO)
   | refine Wk.load_gd (by rfl) 67 (.tmp 7) rfl (.agg (Pi.rqc x1 x2 x3 x4 x5 (.slice A2 nd cx2)).toArray) (.pointer (some ⟨g7, 0, none⟩)) rfl (Wk.run_load_blk (P := Tryz.prog) 67 g7 0 _ _ HY8.out rfl Tryz.underlying67 rfl HSR.out) ?_
   | refine Wk.load_gd (by rfl) 67 (.tmp 9) rfl (.agg (Pi.rqc x1 x2 x3 x4 x5 (.slice A4 nd cx4)).toArray) (.pointer (some ⟨w4.heap.size, 0, none⟩)) rfl (Wk.run_load_blk (P := Tryz.prog) 67 w4.heap.size 0 _ _ HZ8.out rfl Tryz.underlying67 rfl HSR.out) ?_)
  clear hnn
  obtain ⟨g9, HG9⟩ : ∃ g, Aside0 (w4.heap.size = g) := ⟨_, ⟨rfl⟩⟩
  rw [HG9.out] at HZ8 ⊢
  have HD8 := az (Kd.R_below HD5.out HB8.out)
  have HE8 := az (Kd.R_below HD4.out HB8.out)
  have HX8 := az (HX4.out.below_ HB8.out)
  have HBO8 := az (HBO4.out.below HB8.out)
  have HB9 := az (below_then HB6.out HB6.out.size HB8.out)
  have HK1 : Aside0 (kRq.K w5 (x1, x2, x3, x4, x5, data) (Pi.rqc x1 x2 x3 x4 x5 (.slice A2 nd cx2)) ∧ kRq.K w5 (x1, x2, x3, x4, x5, data) (Pi.rqc x1 x2 x3 x4 x5 (.slice A4 nd cx4))) := ⟨Pi.K_of_R HD8.out, Pi.K_of_R HE8.out⟩
  clear HB7 HZ7 HBO4 HX4 HY5 HD5 HD4 HB8 HD8 HE8
  refine (psame_.calls HK1.out.1 HK1.out.2).mono ?_
  rintro e w6 ⟨rfl, hb6⟩
  have HX9 := az (HX8.out.below_ hb6)
  have HY9 := az (HY8.out.below_ hb6)
  have HZ9 := az (HZ8.out.below_ hb6)
  have HBO9 := az (HBO8.out.below hb6)
  have HB10 := az (below_then HB9.out HB9.out.size hb6)
  have HSZ6 : Aside0 (w4.heap.size < w6.heap.size) := ⟨by have := HZ9.out.lt; have := HG9.out; omega⟩
  clear HX8 HY8 HZ8 HBO8 HB9 HK1 hb6
  have HDO := az (Cn.doOp_5 l c (kd, b, k, a) HM.out)
  rw [show ((kd, b, k, a) : Cn.Co).2.2.1 = k from rfl, HTK.out] at HDO
  cases is with
  | false =>
   go_wp2_with fail
   go_ret
   refine ⟨rfl, ?_, HB10.out⟩
   rw [HDO.out]
   exact ⟨_, _, _, _, _, HBO9.out⟩
  | true =>
   obtain ⟨ct, HCT⟩ : ∃ ct, Aside0 (Cn.take l c k = ct) := ⟨_, ⟨rfl⟩⟩
   have HTO := az (Cn.take_ok l c k HO.out)
   rw [HCT.out] at HTO HDO HBO9
   have c1 := HX9.out.at_ 1 rfl
   have c3 := HX9.out.at_ 3 rfl
   go_wp2_with (refine Wk.load rfl 67 (.tmp 7) rfl (.agg (Pi.rqc x1 x2 x3 x4 x5 (.slice A2 nd cx2)).toArray) (.pointer (some ⟨g7, 0, none⟩)) rfl (Wk.run_load_blk (P := Tryz.prog) 67 g7 0 _ _ HY9.out rfl Tryz.underlying67 rfl HSR.out) ?_)
   clear c1 c3
   refine (answerc_.calls HBO9.out.left Cn.oL_new (x1, x2, x3, x4, x5, data) (.slice A2 nd cx2) HA.out (by have := HCB.out w6 HB10.out; rw [← HN.out.1] at this; exact this) HN.out.1 HN.out.2.1 (by have := HN.out.2.2; omega) (by have := HTO.out.2; have := HS.out; omega)).mono ?_
   rintro e w7 ⟨rfl, hc7, hf7⟩
   have HNG9 : Aside0 (¬ Cn.oL w6 (fun k => Cn.oL w1 oc k ∧ k < w2.heap.size) g5 ∧ ¬ Cn.oL w6 (fun k => Cn.oL w1 oc k ∧ k < w2.heap.size) g9) := ⟨by
    have h1 := HG1.out
    have h2 := HSZ2.out
    have h3 := HG3.out
    have h4 := HSZ4.out
    have h5 := HSZ6.out
    have h6 := HG7.out
    have h7 := HG9.out
    exact ⟨fun hh => hh.elim (fun hh => HNG.out.1 hh.1) (fun hh => by omega), fun hh => hh.elim (fun hh => by have := hh.2; omega) (fun hh => by omega)⟩⟩
   have HX10 := az (Cn.Blk_frame HX9.out hf7 HNG9.out.1)
   have HZ10 := az (Cn.Blk_frame HZ9.out hf7 HNG9.out.2)
   have HB11 := az (hf7.below HB10.out HB10.out.size (HBO9.out.okL HB10.out.size))
   have HBO10 := az (HBO9.out.goL HB10.out.size hc7 hf7)
   clear hc7 hf7 HX9 HY9 HZ9 HNG9 HBO9
   have c1 := HX10.out.at_ 1 rfl
   have c3 := HX10.out.at_ 3 rfl
   go_wp2_with (refine Wk.load rfl 67 (.tmp 9) rfl (.agg (Pi.rqc x1 x2 x3 x4 x5 (.slice A4 nd cx4)).toArray) (.pointer (some ⟨g9, 0, none⟩)) rfl (Wk.run_load_blk (P := Tryz.prog) 67 g9 0 _ _ HZ10.out rfl Tryz.underlying67 rfl HSR.out) ?_)
   clear c1 c3
   refine (ranswerc_.calls HBO10.out.right Cn.oL_new (x1, x2, x3, x4, x5, data) (.slice A4 nd cx4) HA.out (by have := HCB.out w7 HB11.out; rw [← HN.out.1] at this; exact this) HN.out.1 HN.out.2.1 (by have := HN.out.2.2; omega) (by have := HTO.out.2; have := HS.out; omega)).mono ?_
   rintro e w8 ⟨rfl, hc8, hf8⟩
   have HB12 := az (hf8.below HB11.out HB11.out.size (HBO10.out.okR HB11.out.size))
   have HBO11 := az (HBO10.out.goR HB11.out.size hc8 hf8)
   clear hc8 hf8 HX10 HZ10 HBO10
   go_wp2_with fail
   go_ret
   refine ⟨rfl, ?_, HB12.out⟩
   rw [HDO.out]
   exact ⟨_, _, _, _, _, HBO11.out⟩
 have e5 : (m == 5) = false := by simpa using h5
 have H5 := az h5
 clear h5
 by_cases h6 : m = 6
 ·subst h6
  go_wp2_with fail
  clear c0 c1 c2 hm
  obtain ⟨g5, HG5⟩ : ∃ g, Aside0 (W.heap.size = g) := ⟨_, ⟨rfl⟩⟩
  generalize W.alloc (.cells #[.int .u8 kd, .slice A n cp, .int .i64 k, .int .u32 a] 38) = w1 at *
  rw [HG5.out] at HX1 HNW ⊢
  have HG1 : Aside0 (g5 < w1.heap.size) := ⟨HX1.out.lt⟩
  have HNG : Aside0 (¬ Cn.oL w1 oc g5 ∧ ¬ Cn.oL w1 od g5) := ⟨fun hh => hh.elim (fun hh => by have := HBO.out.lt g5 (.inl (.inl hh)); have := HNW.out; omega) (fun hh => by have := HG1.out; omega), fun hh => hh.elim (fun hh => by have := HBO.out.lt g5 (.inr (.inl hh)); have := HNW.out; omega) (fun hh => by have := HG1.out; omega)⟩
  clear e5
  refine (out_.calls HBO.out.left).mono ?_
  rintro e w2 ⟨A2, n2, rfl, hr2, hc2, hf2⟩
  obtain ⟨nd, HND⟩ : ∃ n, Aside0 (c.send.length = n) := ⟨_, ⟨rfl⟩⟩
  rw [HND.out] at hr2 ⊢
  have HB2 := az (hf2.below HB0.out HB0.out.size (HBO.out.okL HB0.out.size))
  have HBO2 := az (HBO.out.goL HB0.out.size hc2 hf2)
  have HD2 := az (Kd.R_bound hr2)
  have HNG3 : Aside0 (∀ j, (Cn.oL w1 oc j ∧ 0 ≤ j ∧ j < w2.heap.size ∧ ∃ q', q' ∈ 5 :: (Kd.int .u8).E ∧ ∃ cells, w2.heap[j]? = some (.cells cells q' (0, 0))) → ¬ Cn.oL w2 od j) := ⟨fun j hj hh => hh.elim (fun hh => HBO2.out.a2 j hh (.inl ⟨hj.1, hj.2.2.1⟩)) (fun hh => by have := hj.2.2.1; omega)⟩
  clear hr2 hc2 hf2 HX1 HBO
  go_wp2_with fail
  refine (rout_.calls HBO2.out.right).mono ?_
  rintro e w3 ⟨A3, n3, rfl, hr3, hc3, hf3⟩
  rw [HND.out] at hr3 ⊢
  have HB3 := az (hf3.below HB2.out HB2.out.size (HBO2.out.okR HB2.out.size))
  have HBO3 := az (HBO2.out.goR HB2.out.size hc3 hf3)
  have HD3 := az (Kd.R_reads' (Cn.R_frame HD2.out hf3 HNG3.out))
  have HE3 := az (Kd.R_reads' hr3)
  clear hr3 hc3 hf3 HD2 HNG3 HBO2
  go_wp2_with fail
  refine (Cn.sameb_ HD3.out.2.2 HND.out HD3.out.2.1 HE3.out.2.2 HND.out HE3.out.2.1).mono ?_
  rintro e w4 ⟨rfl, hb4⟩
  have HB4 := az (below_then HB3.out HB3.out.size hb4)
  have HBO4 := az (HBO3.out.below hb4)
  clear hb4
  go_wp2_with fail
  go_ret
  refine ⟨rfl, ?_, HB4.out⟩
  have hd : Cn.doOp l c (kd, b, k, a) = Cn.out c := by unfold Cn.doOp; rw [if_neg (by rw [HM.out]; decide), if_pos HM.out]
  rw [hd]
  exact ⟨_, _, _, _, _, HBO4.out⟩
 have e6 : (m == 6) = false := by simpa using h6
 have H6 := az h6
 clear h6
 by_cases h7 : m = 7
 ·subst h7
  by_cases hk : k = 0
  ·have ek : (k == 0) = true := by simpa using hk
   have HK := az hk
   clear hk
   go_wp2_with fail
   clear c0 c1 c2 hm
   obtain ⟨g5, HG5⟩ : ∃ g, Aside0 (W.heap.size = g) := ⟨_, ⟨rfl⟩⟩
   generalize W.alloc (.cells #[.int .u8 kd, .slice A n cp, .int .i64 k, .int .u32 a] 38) = w1 at *
   rw [HG5.out] at HX1 HNW ⊢
   have HG1 : Aside0 (g5 < w1.heap.size) := ⟨HX1.out.lt⟩
   have HNG : Aside0 (¬ Cn.oL w1 oc g5 ∧ ¬ Cn.oL w1 od g5) := ⟨fun hh => hh.elim (fun hh => by have := HBO.out.lt g5 (.inl (.inl hh)); have := HNW.out; omega) (fun hh => by have := HG1.out; omega), fun hh => hh.elim (fun hh => by have := HBO.out.lt g5 (.inr (.inl hh)); have := HNW.out; omega) (fun hh => by have := HG1.out; omega)⟩
   clear e5 e6 ek
   refine (close_.calls HBO.out.left).mono ?_
   rintro e w2 ⟨rfl, hc2, hf2⟩
   have HB2 := az (hf2.below HB0.out HB0.out.size (HBO.out.okL HB0.out.size))
   have HBO2 := az (HBO.out.goL HB0.out.size hc2 hf2)
   clear hc2 hf2 HBO
   go_wp2_with fail
   refine (rclose_.calls HBO2.out.right).mono ?_
   rintro e w3 ⟨rfl, hc3, hf3⟩
   have HB3 := az (hf3.below HB2.out HB2.out.size (HBO2.out.okR HB2.out.size))
   have HBO3 := az (HBO2.out.goR HB2.out.size hc3 hf3)
   clear hc3 hf3 HBO2
   go_wp2_with fail
   go_ret
   refine ⟨rfl, ?_, HB3.out⟩
   have hd : Cn.doOp l c (kd, b, k, a) = Cn.close c := by unfold Cn.doOp; rw [if_neg (by rw [HM.out]; decide), if_neg (by rw [HM.out]; decide), if_pos HM.out, if_pos HK.out]
   rw [hd]
   exact ⟨_, _, _, _, _, HBO3.out⟩
  ·have ek : (k == 0) = false := by simpa using hk
   have HK := az hk
   clear hk
   go_wp2_with fail
   clear c0 c1 c2 hm
   obtain ⟨g5, HG5⟩ : ∃ g, Aside0 (W.heap.size = g) := ⟨_, ⟨rfl⟩⟩
   generalize W.alloc (.cells #[.int .u8 kd, .slice A n cp, .int .i64 k, .int .u32 a] 38) = w1 at *
   rw [HG5.out] at HX1 HNW ⊢
   have HG1 : Aside0 (g5 < w1.heap.size) := ⟨HX1.out.lt⟩
   have HNG : Aside0 (¬ Cn.oL w1 oc g5 ∧ ¬ Cn.oL w1 od g5) := ⟨fun hh => hh.elim (fun hh => by have := HBO.out.lt g5 (.inl (.inl hh)); have := HNW.out; omega) (fun hh => by have := HG1.out; omega), fun hh => hh.elim (fun hh => by have := HBO.out.lt g5 (.inr (.inl hh)); have := HNW.out; omega) (fun hh => by have := HG1.out; omega)⟩
   go_ret
   refine ⟨rfl, ?_, HB0.out⟩
   have hd : Cn.doOp l c (kd, b, k, a) = c := by unfold Cn.doOp; rw [if_neg (by rw [HM.out]; decide), if_neg (by rw [HM.out]; decide), if_pos HM.out, if_neg HK.out]
   rw [hd]
   exact ⟨_, _, _, _, _, HBO.out⟩
 have e7 : (m == 7) = false := by simpa using h7
 have H7 := az h7
 clear h7
 go_wp2_with fail
 clear c0 c1 c2 hm
 obtain ⟨g5, HG5⟩ : ∃ g, Aside0 (W.heap.size = g) := ⟨_, ⟨rfl⟩⟩
 generalize W.alloc (.cells #[.int .u8 kd, .slice A n cp, .int .i64 k, .int .u32 a] 38) = w1 at *
 rw [HG5.out] at HX1 HNW ⊢
 have HG1 : Aside0 (g5 < w1.heap.size) := ⟨HX1.out.lt⟩
 have HNG : Aside0 (¬ Cn.oL w1 oc g5 ∧ ¬ Cn.oL w1 od g5) := ⟨fun hh => hh.elim (fun hh => by have := HBO.out.lt g5 (.inl (.inl hh)); have := HNW.out; omega) (fun hh => by have := HG1.out; omega), fun hh => hh.elim (fun hh => by have := HBO.out.lt g5 (.inr (.inl hh)); have := HNW.out; omega) (fun hh => by have := HG1.out; omega)⟩
 clear e5 e6 e7
 refine (feedc_.calls HX.out HBO.out.left Cn.oL_new HO.out HB0.out (HBO.out.okL HB0.out.size) (by have := HS.out; omega) (by have := HCB.out w1 HB0.out; rw [← HN.out.1] at this; exact this) HN.out.1 HN.out.2.1 HBY.out).mono ?_
 rintro e w2 ⟨rfl, hc2, hf2⟩
 have HB2 := az (hf2.below HB0.out HB0.out.size (HBO.out.okL HB0.out.size))
 have HBO2 := az (HBO.out.goL HB0.out.size hc2 hf2)
 have HX2 := az (Cn.Blk_frame HX1.out hf2 HNG.out.1)
 have c1 := HX2.out.at_ 1 rfl
 clear hc2 hf2 HBO
 go_wp2_with fail
 clear c1
 refine (rfeedc_.calls HRX.out HBO2.out.right Cn.oL_new HO.out HB2.out (HBO2.out.okR HB2.out.size) (by have := HS.out; omega) (by have := HCB.out w2 HB2.out; rw [← HN.out.1] at this; exact this) HN.out.1 HN.out.2.1 HBY.out).mono ?_
 rintro e w3 ⟨rfl, hc3, hf3⟩
 have HB3 := az (hf3.below HB2.out HB2.out.size (HBO2.out.okR HB2.out.size))
 have HBO3 := az (HBO2.out.goR HB2.out.size hc3 hf3)
 clear hc3 hf3 HBO2 HX2
 go_wp2_with fail
 go_ret
 refine ⟨rfl, ?_, HB3.out⟩
 have hd : Cn.doOp l c (kd, b, k, a) = Cn.feed l c b := by unfold Cn.doOp; rw [if_neg (by rw [HM.out]; exact H5.out), if_neg (by rw [HM.out]; exact H6.out), if_neg (by rw [HM.out]; exact H7.out)]
 rw [hd]
 exact ⟨_, _, _, _, _, HBO3.out⟩
namespace Cn
def cz : Co := (0, [], 0, 0)
theorem heavy_ops {W : World} {A : Option Addr} {n : Nat} {os : List Co} (h : kCo.C W A os.length os) (hn : os.length = n) : 0 < n → ∃ ad, A = some ad ∧ ∀ i : Nat, i < n → ∃ A' c, W.cell? ⟨(ad.add (i * 4)).block, (ad.add (i * 4)).off + 1, none⟩ = some (.slice A' ((fun i => (os.getD i cz).2.1.length) i) c) := by
  intro hp
  obtain ⟨ad, _, _, rfl, _⟩ := co_get h 0 (by omega) rfl
  refine ⟨ad, rfl, fun i hi => ?_⟩
  obtain ⟨ad', A0, c0, e, _, hc, _⟩ := co_get h i (by omega) rfl
  obtain rfl : ad = ad' := Option.some.inj e
  refine ⟨A0, c0, ?_⟩
  rw [hc]
  show _ = some (Value.slice A0 (os.getD i cz).2.1.length c0)
  rw [List.getD_eq_getElem?_getD, List.getElem?_eq_getElem (by omega)]
  rfl
theorem wf_u8 {n : Int} (h : (Lit.int .u8 n).wf = true) : 0 ≤ n ∧ n ≤ 255 := by
  have := Wi.of_wf h
  simp [IntKind.min, IntKind.max, IntKind.bits, IntKind.signed] at this
  omega
end Cn
end Go.Proofs.YtgljicdpcapgnaaGreatDoor
