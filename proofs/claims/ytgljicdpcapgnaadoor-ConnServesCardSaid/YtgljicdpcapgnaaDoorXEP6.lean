/- What the law's proof stands on, part 6: ConnE, ConnP, ConnF, ConnG, ConnH, ConnI, PassF, PassH, PassS, PassU, ConnJ, ConnX, ConnS, ConnRq, ConnL5 (laid together by wip/pack.py). -/
import Derived.Test.YtgljicdpcapgnaaDoorXEP5
set_option linter.unusedVariables false
set_option linter.unusedSimpArgs false
namespace Go.Proofs.YtgljicdpcapgnaaDoor
open Go.RowKit Go.Proofs.YtgljicdpcapgnaaDoor.PBase Go.Proofs.YtgljicdpcapgnaaDoorW.PrintWords Go.Proofs.YtgljicdpcapgnaaDoorW.PrintLast Go.Proofs.YtgljicdpcapgnaaDoorW.PrintMore
namespace Cn
theorem sizeOp : (Tryd.prog.info? 113).map (·.size) = some 2 := by kernel_rfl
theorem Blk_frame {W W' : World} {ok : Nat → Prop} {g : Nat} {t : TypeId} {cs : List Value} (h : Wk.Blk W g t cs) (hf : Fr W W' ok) (hg : ¬ ok g) : Wk.Blk W' g t cs := ⟨(hf.block g h.lt hg).trans h.out⟩
theorem R_frame {α : Type} {d : Kd α} {e : Nat} {W W' : World} {base : Nat} {ok ok' : Nat → Prop} {v : Value} {xs : List α} (h : d.R e W base ok v xs) (hf : Fr W W' ok') (hd : ∀ k, ok k → ¬ ok' k) : d.R e W' base ok v xs := Kd.R_step h (fun k ho hk => hf.block k hk (hd k ho))
theorem refused_range (e : Int) : 0 ≤ refused e ∧ refused e < 4294967296 := by
  unfold refused
  split
  · decide
  · split
    · decide
    · decide
theorem rep_len (o k : Int) (d : List Int) : (rep o k d).length ≤ 8000 + d.length := by
  have := packs_len4 [8, 4, 4, 4] [1100100111001001, o, k, (d.length : Int)] (by simp)
  unfold rep
  rw [List.length_append]
  omega
theorem ak_size (d : List Int) : (Gr.ak d).1.size ≤ d.length := by
  unfold Gr.ak
  repeat' split
  all_goals first
    | exact Nat.zero_le _
    | (rw [str_size, List.length_take, List.length_drop]; omega)
theorem pairs_len : ∀ l : List Int, (Gr.pairs l).length ≤ l.length
  | [] => Nat.le_refl _
  | [_] => Nat.zero_le _
  | a :: b :: l => by
    rw [Gr.pairs, List.length_cons, List.length_cons, List.length_cons]
    have := pairs_len l
    omega
theorem ak_wants (d : List Int) : (Gr.ak d).2.1.length ≤ d.length := by
  unfold Gr.ak
  repeat' split
  all_goals first
    | exact Nat.zero_le _
    | (refine Nat.le_trans (pairs_len _) ?_; rw [List.length_drop, List.length_drop, List.length_drop]; omega)
theorem R_own {e : Nat} {k : IntKind} {W : World} {base : Nat} {ok : Nat → Prop} {v : Value} {xs : List Int} (h : Kd.R (Kd.int k) e W base ok v xs) : Kd.R (Kd.int k) e W base (fun j => v.ownBlock = some j) v xs := ⟨fun _ hk => hk, h.2.imp_ (fun _ _ hp => hp)⟩
theorem info_len (x : Ex) : (info x).length ≤ 8000 := packs_len4 _ _ (by simp)
theorem blocks_len (b : Int) : (blocks b).length ≤ 8000 := packs_len4 _ _ (by simp)
theorem say_len (c : St) (o k : Int) (d : List Int) : (say c o k d).send.length ≤ c.send.length + 8000 + d.length := by
  have := rep_len o k d
  unfold say
  simp only [List.length_append]
  omega
end Cn
set_option maxHeartbeats 8000000 in
set_option maxRecDepth 100000 in
theorem askedc_.calls {W : World} {ok : Nat → Prop} {p tb bs : Nat} {c : Cn.St} {l : List Ps.Tn} (h : Cn.Cn W ok p tb c) (hf : ∀ k, W.heap.size ≤ k → ok k) (hb : 0 ≤ c.blk ∧ c.blk ≤ 65535) (hK : Sh.Ks W) (hT : Ps.Tb W bs tb l) (hW : ∀ x ∈ l, Ps.TnWf x) {A : Option Addr} {n cd : Nat} {k : Int} {d : List Int} (hk : 0 ≤ k ∧ k < 4294967296) (hd : Kd.C (Kd.int .u8) W A d.length d) (hn : d.length = n) (hc : n ≤ cd) (hl : n ≤ 100000) (hby : Sh.Bytes d) (hs : c.send.length ≤ 9000000000000) :
  Calls Tryd.prog 68 #[.pointer (some ⟨p, 0, none⟩), .agg #[.int .u32 k, .slice A n cd]] W fun e w' => e = .returned (.tuple #[]) ∧ Cn.Cn w' ok p tb (Cn.asked l c k d) ∧ Cn.Fr W w' ok := by
 have HC0 := Aside0.mk h.bound
 have HF := Aside0.mk hf
 have HBK := Aside0.mk hb
 have HK := Aside0.mk hK
 have HT := Aside0.mk hT
 have HW := Aside0.mk hW
 have HKK := Aside0.mk hk
 have HD := Aside0.mk hd
 have HN := Aside0.mk hn
 have HL := Aside0.mk (And.intro hc hl)
 have HBY := Aside0.mk hby
 have HS := Aside0.mk hs
 have HS1 := Aside0.mk Cn.size1
 have HSO := Aside0.mk Cn.sizeOp
 have HSK := Aside0.mk Ps.sizeTk
 have HSE := Aside0.mk Cn.sizeEx
 clear h hf hb hK hT hW hk hd hn hc hl hby hs
 have HB1 : Aside0 (Below W.heap.size W (W.alloc (.cells #[.int .u32 k, .slice A n cd] 113))) := ⟨below_alloc (Below.refl _ _) _⟩
 have HX1 : Aside0 (Wk.Blk (W.alloc (.cells #[.int .u32 k, .slice A n cd] 113)) W.heap.size 113 [.int .u32 k, .slice A n cd]) := ⟨Wk.Blk.new W _ [.int .u32 k, .slice A n cd]⟩
 obtain ⟨s, ws, e, HAK⟩ : ∃ s ws e, Aside0 (Gr.ak d = (s, ws, e)) := ⟨_, _, _, ⟨rfl⟩⟩
 go_enter Tryd.func68, Tryd.ntmps68
 have k1 := HX1.out.at_ 1 rfl
 go_wp2_with fail
 clear k1
 generalize W.alloc (.cells #[.int .u32 k, .slice A n cd] 113) = w1 at *
 obtain ⟨g3, HG3⟩ : ∃ g, Aside0 (W.heap.size = g) := ⟨_, ⟨rfl⟩⟩
 rw [HG3.out] at HX1 ⊢
 refine (Cn.asked_ (Kd.C_below HD.out HB1.out) HN.out HL.out.1 HL.out.2 HBY.out HAK.out).mono ?_
 rintro e' w2 ⟨A5, c5, rfl, hR5, hb2⟩
 obtain ⟨n5, HN5⟩ : ∃ m, Aside0 (ws.length = m) := ⟨_, ⟨rfl⟩⟩
 rw [HN5.out] at hR5 ⊢
 have HB3 := Aside0.mk (below_then (below_then HB1.out HB1.out.size hb2) (below_then HB1.out HB1.out.size hb2).size (below_alloc (Below.refl w2.heap.size w2) (.cells #[.int .u32 0, .int .u32 0, .bool false, .int .u64 0] 55)))
 have HX3 := Aside0.mk ((HX1.out.below_ hb2).alloc (.cells #[.int .u32 0, .int .u32 0, .bool false, .int .u64 0] 55))
 have HY3 : Aside0 (Wk.Blk (w2.alloc (.cells #[.int .u32 0, .int .u32 0, .bool false, .int .u64 0] 55)) w2.heap.size 55 Ps.zt4) := ⟨Wk.Blk.new w2 _ Ps.zt4⟩
 have HR3 : Aside0 (Kd.R (Kd.int .u16) 56 (w2.alloc (.cells #[.int .u32 0, .int .u32 0, .bool false, .int .u64 0] 55)) w1.heap.size (fun _ => True) (.slice A5 n5 c5) ws) := ⟨Kd.R_below hR5 (below_alloc (Below.refl _ _) _)⟩
 have HG7 : Aside0 (g3 < w2.heap.size ∧ w1.heap.size ≤ w2.heap.size ∧ g3 < w1.heap.size) := ⟨(HX1.out.below_ hb2).lt, hb2.size, HX1.out.lt⟩
 have HR5 : Aside0 (Kd.R (Kd.int .u16) 56 w2 w1.heap.size (fun _ => True) (.slice A5 n5 c5) ws) := ⟨hR5⟩
 clear hR5 hb2
 by_cases he : e = 0
 ·subst he
  have k1 := ((HC0.out.below HB3.out).choose_spec.choose_spec.choose_spec).blk.at_ 1 rfl
  go_wp2_with fail
  clear k1
  generalize w2.alloc (.cells #[.int .u32 0, .int .u32 0, .bool false, .int .u64 0] 55) = w3 at *
  obtain ⟨b7, HB7⟩ : ∃ g, Aside0 (w2.heap.size = g) := ⟨_, ⟨rfl⟩⟩
  rw [HB7.out] at HY3 HG7 ⊢
  have HSS : Aside0 (s.size ≤ 100000) := ⟨by have := Cn.ak_size d; rw [HAK.out, HN.out] at this; change s.size ≤ n at this; have := HL.out.2; omega⟩
  have HWL : Aside0 (n5 ≤ 100000) := ⟨by have := Cn.ak_wants d; rw [HAK.out, HN.out] at this; change ws.length ≤ n at this; have := HL.out.2; have := HN5.out; omega⟩
  refine (check_.calls tb bs l s w3 (HK.out.below HB3.out) (HT.out.below HB3.out) (by have := HSS.out; omega) HW.out).mono ?_
  rintro e' wc ⟨rfl, hbc⟩
  obtain ⟨ti, se, ro, sz, f, HCK⟩ : ∃ ti se ro sz f, Aside0 (Ps.check l s = ((ti, se, ro, sz), f)) := ⟨_, _, _, _, _, ⟨rfl⟩⟩
  have HTK : Aside0 (Ps.TkWf (ti, se, ro, sz)) := ⟨by have := Cn.check_wf l s; rw [HCK.out] at this; exact this⟩
  rw [HCK.out]
  have HBc := Aside0.mk (below_then HB3.out HB3.out.size hbc)
  have HXc := Aside0.mk (HX3.out.below_ hbc)
  have HYc := Aside0.mk (HY3.out.below_ hbc)
  have HRc := Aside0.mk (Kd.R_below HR3.out hbc)
  have HW1 : Aside0 (W.heap.size ≤ w1.heap.size) := ⟨by have := HG7.out; have := HG3.out; omega⟩
  have HGW : Aside0 (W.heap.size ≤ b7 ∧ g3 ≠ b7) := ⟨by have := HG7.out; have := HG3.out; omega, by have := HG7.out; omega⟩
  clear hbc HX3 HY3 HR3 HR5 HB7 HX1 HB1 HG7
  by_cases hf0 : f = 0
  ·subst hf0
   go_wp2_with (first
    | (refine Wk.store_all rfl rfl 55 (.tmp 7) (.tmp 25) rfl b7 (Ps.tkc (ti, se, ro, sz)) rfl rfl 55 _ HYc.out HSK.out rfl rfl ?_; intro w4 hX hO; have HY4 := Aside0.mk hX; have HX4 := Aside0.mk (HXc.out.only hO HGW.out.2); have HBW := Aside0.mk (Wk.Only.below HBc.out hO HGW.out.1); have HR4 := Aside0.mk (Wk.R_only HRc.out HYc.out (by decide) hO); clear hX hO)
    | refine Wk.load rfl 55 (.tmp 7) rfl (.agg #[.int .u32 ti, .int .u32 se, .bool ro, .int .u64 sz]) (.pointer (some ⟨b7, 0, none⟩)) rfl (Wk.run_load_blk (P := Tryd.prog) 55 b7 0 (Ps.tkc (ti, se, ro, sz)) _ HY4.out rfl Tryd.underlying55 rfl HSK.out) ?_)
   have HCW := Aside0.mk (HC0.out.below HBW.out)
   refine (served_.calls HCW.out HBK.out (ti, se, ro, sz) HTK.out).mono ?_
   rintro e' w5 ⟨rfl, hb5⟩
   obtain ⟨x, HXE⟩ : ∃ x, Aside0 (Cn.served c.blk (ti, se, ro, sz) = x) := ⟨_, ⟨rfl⟩⟩
   rw [HXE.out]
   have HB5 := Aside0.mk (below_then HBW.out HBW.out.size hb5)
   have HX5 := Aside0.mk (HX4.out.below_ hb5)
   have HR5 := Aside0.mk (Kd.R_below HR4.out hb5)
   clear hb5 HBW HX4 HR4 HCW HY4 HBc HXc HYc HRc
   go_wp2_with (refine Wk.store_all rfl rfl 44 (.tmp 8) (.tmp 36) rfl w5.heap.size (Cn.exc x) rfl rfl 44 (Cn.exc Cn.ex0) (Wk.Blk.new w5 44 (Cn.exc Cn.ex0)) HSE.out rfl rfl ?_; intro w6 hX hO; have HF6 := Aside0.mk (Wk.Only.fresh HB5.out HB5.out.size hO); have HZ6 := Aside0.mk hX; clear hX hO)
   have HX6 := Aside0.mk (HX5.out.below_ HF6.out.2.2)
   have HR6 := Aside0.mk (Cn.R_own (Kd.R_below HR5.out HF6.out.2.2))
   have HB6 := Aside0.mk HF6.out.2.1
   obtain ⟨b8, HB8⟩ : ∃ g, Aside0 (w5.heap.size = g) := ⟨_, ⟨rfl⟩⟩
   rw [HB8.out] at HZ6 ⊢
   have HNE : Aside0 (W.heap.size ≤ g3 ∧ g3 < w6.heap.size ∧ W.heap.size ≤ b8 ∧ b8 < w6.heap.size ∧ ∀ j, (Value.slice A5 n5 c5).ownBlock = some j → W.heap.size ≤ j ∧ j < w6.heap.size) := ⟨by
    refine ⟨by rw [HG3.out]; exact Nat.le_refl _, HX6.out.lt, by rw [← HB8.out]; exact HB5.out.size, HZ6.out.lt, fun j hj => ?_⟩
    have := (Kd.R_bound HR6.out).1 j hj
    exact ⟨Nat.le_trans HW1.out this.2.1, this.2.2.1⟩⟩
   obtain ⟨okL, HOK⟩ : ∃ okL : Nat → Prop, Aside0 (∀ j, okL j ↔ (ok j ∧ j ≠ g3 ∧ j ≠ b8 ∧ (Value.slice A5 n5 c5).ownBlock ≠ some j)) := ⟨fun j => ok j ∧ j ≠ g3 ∧ j ≠ b8 ∧ (Value.slice A5 n5 c5).ownBlock ≠ some j, ⟨fun _ => Iff.rfl⟩⟩
   have HOL : Aside0 (∀ j, okL j → ok j) := ⟨fun j hj => ((HOK.out j).1 hj).1⟩
   have HFR : Aside0 (∀ j, w6.heap.size ≤ j → okL j) := ⟨fun j hj => (HOK.out j).2 ⟨HF.out j (Nat.le_trans HB6.out.size hj), by have := HNE.out.2.1; omega, by have := HNE.out.2.2.2.1; omega, fun he => by have := (HNE.out.2.2.2.2 j he).2; omega⟩⟩
   have HC6 : Aside0 (Cn.Cn w6 okL p tb c) := ⟨(HC0.out.below HB6.out).mono (fun j hj => (HOK.out j).2 ⟨hj.1, by have := HNE.out.1; have := hj.2; omega, by have := HNE.out.2.2.1; have := hj.2; omega, fun he => by have := (HNE.out.2.2.2.2 j he).1; have := hj.2; omega⟩)⟩
   have HNG : Aside0 (¬ okL g3 ∧ ¬ okL b8 ∧ ∀ j, (Value.slice A5 n5 c5).ownBlock = some j → ¬ okL j) := ⟨fun hh => ((HOK.out _).1 hh).2.1 rfl, fun hh => ((HOK.out _).1 hh).2.2.1 rfl, fun j hj hh => ((HOK.out _).1 hh).2.2.2 hj⟩
   clear HX5 HR5 HB5 HF6 HB8 HOK HNE
   refine wp_region_noPanic ?_
   refine Rg.s1 5 (fun w' => Below w6.heap.size w6 w') [4] (Below.refl _ _).drew #[false, false, false, false, false] (fun hHeld => ?_)
   refine Rg.p1 0 (.some 37) ?_
   refine Rg.t1 1 (.some 38) hHeld ?_ (hy := by intro w' hS'; (have hl := Wk.run_load_blk (P := Tryd.prog) 113 g3 0 [.int .u32 k, .slice A n cd] _ (HX6.out.below_ hS') rfl Tryd.underlying113 rfl HSO.out; refine (Wk.exec_load 113 (.tmp 3) rfl _ _ rfl hl).trans ?_); first | done | with_reducible rfl)
   refine Rg.t1 2 (.some 39) hHeld ?_ (hy := by intro w' hS'; (have hl := Wk.run_load_blk (P := Tryd.prog) 44 b8 0 (Cn.exc x) _ (HZ6.out.below_ hS') rfl Tryd.underlying44 rfl HSE.out; refine (Wk.exec_load 44 (.tmp 8) rfl _ _ rfl hl).trans ?_); first | done | with_reducible rfl)
   refine Rg.o1 3 (.some 40) (fun K hK => ?_)
   refine call_ 84 #[.agg (Cn.exc x).toArray] (by rfl) rfl (by go_simp) ?_
   refine (Cn.info_ _ x).mono ?_
   rintro e7 w7 ⟨A9, c9, rfl, hR7, hb7⟩
   have HR7 := Aside0.mk hR7
   have HB7 := Aside0.mk (below_then hHeld hHeld.size hb7)
   clear hR7 hb7
   refine ⟨_, rfl, ?_⟩
   refine hK.out _ _ HB7.out (fun hHeld => ?_)
   clear hK K
   refine Rg.n1 ?_
   refine Rg.l1 4 (.some 41) (fun K hK => ?_)
   refine call_ 66 #[.pointer (some ⟨p, 0, none⟩), .agg #[.int .u32 k, .slice A n cd], .int .u32 3, .slice A9 (Cn.info x).length c9] (by rfl) rfl (by go_simp) ?_
   refine (reply_.calls (HC6.out.below HB7.out) (fun j hj => HFR.out j (Nat.le_trans HB7.out.size hj)) HKK.out (by decide) (Kd.R_reads' HR7.out).2.2 rfl (Kd.R_reads' HR7.out).2.1 (by have := Cn.info_len x; omega) (by have := HS.out; omega)).mono ?_
   rintro e8 w8 ⟨rfl, hc8, hf8⟩
   have HC8 := Aside0.mk hc8
   have HX8 := Aside0.mk (Cn.Blk_frame (HX6.out.below_ HB7.out) hf8 HNG.out.1)
   have HZ8 := Aside0.mk (Cn.Blk_frame (HZ6.out.below_ HB7.out) hf8 HNG.out.2.1)
   have HR8 := Aside0.mk (Cn.R_frame (Kd.R_below HR6.out HB7.out) hf8 HNG.out.2.2)
   have HF8 := Aside0.mk (((Cn.Fr.of_below HB6.out ok).trans (Cn.Fr.of_below HB7.out ok)).trans (hf8.mono HOL.out))
   have HS8 : Aside0 (w6.heap.size ≤ w8.heap.size) := ⟨Nat.le_trans HB7.out.size hf8.size⟩
   clear hc8 hf8
   refine ⟨_, rfl, ?_⟩
   refine hK.out _ _ ?_
   clear hK K
   refine Rg.n1 ?_
   refine Rg.d1 ?_
   refine NoPanic.normal ?_
   clear HX6 HZ6 HR6 HC6 HB6
   obtain ⟨c1, HC1E⟩ : ∃ c1, Aside0 (Cn.say c k 3 (Cn.info x) = c1) := ⟨_, ⟨rfl⟩⟩
   have HL1 : Aside0 (c1.send.length ≤ 9000000100000 ∧ c1.blk = c.blk) := ⟨by
    rw [← HC1E.out]
    have h1 := Cn.say_len c k 3 (Cn.info x)
    have h2 := Cn.info_len x
    have h3 := HS.out
    exact ⟨by omega, rfl⟩⟩
   rw [HC1E.out] at HC8
   obtain ⟨wb, HWB⟩ : ∃ b, Aside0 (decide (3 ∈ ws) = b) := ⟨_, ⟨rfl⟩⟩
   go_wp2_with fail
   refine (Cn.cont16_ (Kd.R_reads' HR8.out).2.2 HN5.out (Kd.R_reads' HR8.out).2.1 (by have := HWL.out; omega) HWB.out).mono ?_
   rintro e9 w9 ⟨rfl, hb9⟩
   have HC9' := Aside0.mk (HC8.out.below hb9)
   have HX9' := Aside0.mk (HX8.out.below_ hb9)
   have HZ9' := Aside0.mk (HZ8.out.below_ hb9)
   have HF9' := Aside0.mk (HF8.out.trans (Cn.Fr.of_below hb9 ok))
   have HS9' : Aside0 (w6.heap.size ≤ w9.heap.size) := ⟨Nat.le_trans HS8.out hb9.size⟩
   clear hb9 HC8 HX8 HZ8 HF8 HS8 HR8
   cases wb with
   | true =>
    have k2 := (HC9'.out.choose_spec.choose_spec.choose_spec).blk.at_ 2 rfl
    rw [HL1.out.2] at k2
    go_wp2_with fail
    clear k2
    refine wp_region_noPanic ?_
    refine Rg.s1 8 (fun w' => Below w9.heap.size w9 w') [7] (Below.refl _ _).drew #[false, false, false, false, false, false, false, false] (fun hHeld => ?_)
    refine Rg.p1 0 (.some 44) ?_
    refine Rg.t1 1 (.some 45) hHeld ?_ (hy := by intro w' hS'; (have hl := Wk.run_load_blk (P := Tryd.prog) 113 g3 0 [.int .u32 k, .slice A n cd] _ (HX9'.out.below_ hS') rfl Tryd.underlying113 rfl HSO.out; refine (Wk.exec_load 113 (.tmp 3) rfl _ _ rfl hl).trans ?_); first | done | with_reducible rfl)
    refine Rg.p1 2 (.some 46) ?_
    refine Rg.p1 3 (.some 47) ?_
    refine Rg.p1 4 (.some 48) ?_
    refine Rg.t1 5 (.some 49) hHeld ?_ (hy := by intro w' hS'; (have k2 := ((HC9'.out.below hS').choose_spec.choose_spec.choose_spec).blk.at_ 2 rfl; rw [HL1.out.2] at k2; go_simp); first | done | with_reducible rfl)
    refine Rg.o1 6 (.some 50) (fun K hK => ?_)
    refine call_ 86 #[.int .i64 c.blk] (by rfl) rfl (by go_simp) ?_
    refine (Cn.blocks_ _ c.blk HBK.out.1 (by have := HBK.out.2; omega)).mono ?_
    rintro e7 w13 ⟨A9', c9', rfl, hR7, hb7⟩
    have HR13 := Aside0.mk hR7
    have HB13 := Aside0.mk (below_then hHeld hHeld.size hb7)
    clear hR7 hb7
    refine ⟨_, rfl, ?_⟩
    refine hK.out _ _ HB13.out (fun hHeld => ?_)
    clear hK K
    refine Rg.n1 ?_
    refine Rg.l1 7 (.some 51) (fun K hK => ?_)
    refine call_ 66 #[.pointer (some ⟨p, 0, none⟩), .agg #[.int .u32 k, .slice A n cd], .int .u32 3, .slice A9' (Cn.blocks c.blk).length c9'] (by rfl) rfl (by go_simp) ?_
    refine (reply_.calls (HC9'.out.below HB13.out) (fun j hj => HFR.out j (Nat.le_trans HS9'.out (Nat.le_trans HB13.out.size hj))) HKK.out (by decide) (Kd.R_reads' HR13.out).2.2 rfl (Kd.R_reads' HR13.out).2.1 (by have := Cn.blocks_len c.blk; omega) (by have := HL1.out.1; omega)).mono ?_
    rintro e8 w14 ⟨rfl, hc8, hf8⟩
    have HC9 := Aside0.mk hc8
    have HX9 := Aside0.mk (Cn.Blk_frame (HX9'.out.below_ HB13.out) hf8 HNG.out.1)
    have HZ9 := Aside0.mk (Cn.Blk_frame (HZ9'.out.below_ HB13.out) hf8 HNG.out.2.1)
    have HF9 := Aside0.mk ((HF9'.out.trans (Cn.Fr.of_below HB13.out ok)).trans (hf8.mono HOL.out))
    have HS9 : Aside0 (w6.heap.size ≤ w14.heap.size) := ⟨Nat.le_trans HS9'.out (Nat.le_trans HB13.out.size hf8.size)⟩
    clear hc8 hf8
    refine ⟨_, rfl, ?_⟩
    refine hK.out _ _ ?_
    clear hK K
    refine Rg.n1 ?_
    refine Rg.d1 ?_
    refine NoPanic.normal ?_
    have HL9 : Aside0 ((Cn.say c1 k 3 (Cn.blocks c.blk)).send.length ≤ 9000000200000) := ⟨by
     have h1 := Cn.say_len c1 k 3 (Cn.blocks c.blk)
     have h2 := Cn.blocks_len c.blk
     have h3 := HL1.out.1
     omega⟩
    clear HC9' HX9' HZ9' HF9' HS9'
    have hl11 := Wk.run_load_blk (P := Tryd.prog) 113 g3 0 [.int .u32 k, .slice A n cd] _ HX9.out rfl Tryd.underlying113 rfl HSO.out
    go_wp2_with (refine Wk.load rfl 113 (.tmp 3) rfl (.agg #[.int .u32 k, .slice A n cd]) (.pointer (some ⟨g3, 0, none⟩)) rfl hl11 ?_)
    clear hl11
    refine (reply_.calls HC9.out (fun j hj => HFR.out j (Nat.le_trans HS9.out hj)) HKK.out (by decide) (d := []) (Kd.C_nil _ _) rfl (Nat.le_refl _) (by decide) (by have := HL9.out; omega)).mono ?_
    rintro e10 w10 ⟨rfl, hc10, hf10⟩
    have HC10 := Aside0.mk hc10
    have HX10 := Aside0.mk (Cn.Blk_frame HX9.out hf10 HNG.out.1)
    have HZ10 := Aside0.mk (Cn.Blk_frame HZ9.out hf10 HNG.out.2.1)
    have HF10 := Aside0.mk (HF9.out.trans (hf10.mono HOL.out))
    have k0 := HX10.out.at_ 0 rfl
    clear hc10 hf10
    by_cases hk7 : k = 7
    ·have hkb : (k == 7) = true := by simpa using hk7
     have HK7 := Aside0.mk hk7
     clear hk7
     obtain ⟨pp, vk, vs, hv⟩ := HC10.out
     have HV10 := Aside0.mk hv
     clear hv
     go_wp2_with (first
      | refine Wk.load rfl 44 (.tmp 8) rfl (.agg (Cn.exc x).toArray) (.pointer (some ⟨b8, 0, none⟩)) rfl (Wk.run_load_blk (P := Tryd.prog) 44 b8 0 (Cn.exc x) _ HZ10.out rfl Tryd.underlying44 rfl HSE.out) ?_
      | (refine Wk.store rfl rfl 44 (.tmp 62) (.tmp 60) rfl p 6 (.agg (Cn.exc x).toArray) (Cn.exc x) rfl rfl (by simp [Value.cells]) 72 _ HV10.out.blk HSE.out (Nat.le_of_ble_eq_true rfl) rfl ?_; intro w11 hX hO; have HO11 := Aside0.mk hO; have HV11 : Aside0 (Cn.Cv w11 okL p tb pp vk vs { Cn.say (Cn.say c1 k 3 (Cn.blocks c.blk)) k 1 [] with ex := x }) := ⟨HV10.out.turn hO hX rfl rfl rfl⟩; clear hX hO)
      | (refine Wk.store rfl rfl 5 (.tmp 64) (.const (.int .u8 3)) rfl p 5 (.int .u8 3) [.int .u8 3] rfl rfl rfl 72 _ HV11.out.blk HS1.out (Nat.le_of_ble_eq_true rfl) rfl ?_; intro w12 hX hO; have HO12 := Aside0.mk hO; have HV12 : Aside0 (Cn.Cv w12 okL p tb pp vk vs { Cn.say (Cn.say c1 k 3 (Cn.blocks c.blk)) k 1 [] with ex := x, st := 3 }) := ⟨HV11.out.turn hO hX rfl rfl rfl⟩; clear hX hO))
     go_end0
     refine ⟨rfl, ?_, (HF10.out.trans (Cn.Fr.of_only HO11.out (HOL.out _ HV10.out.okp))).trans (Cn.Fr.of_only HO12.out (HOL.out _ HV10.out.okp))⟩
     unfold Cn.asked
     rw [HAK.out, if_neg (fun h => h rfl), HCK.out, if_neg (fun h => h rfl), HXE.out]
     simp only [HC1E.out]
     rw [(if_pos (of_decide_eq_true HWB.out)), if_pos HK7.out]
     exact ⟨pp, vk, vs, HV12.out.mono HOL.out⟩
    ·have hkb : (k == 7) = false := by simpa using hk7
     go_wp2_with fail
     go_end0
     refine ⟨rfl, ?_, HF10.out⟩
     unfold Cn.asked
     rw [HAK.out, if_neg (fun h => h rfl), HCK.out, if_neg (fun h => h rfl), HXE.out]
     simp only [HC1E.out]
     rw [(if_pos (of_decide_eq_true HWB.out)), if_neg hk7]
     exact HC10.out.mono HOL.out
   | false =>
    have HC9 := HC9'
    have HX9 := HX9'
    have HZ9 := HZ9'
    have HF9 := HF9'
    have HS9 := HS9'
    have HL9 : Aside0 (c1.send.length ≤ 9000000200000) := ⟨by have := HL1.out.1; omega⟩
    clear HC9' HX9' HZ9' HF9' HS9'
    have hl11 := Wk.run_load_blk (P := Tryd.prog) 113 g3 0 [.int .u32 k, .slice A n cd] _ HX9.out rfl Tryd.underlying113 rfl HSO.out
    go_wp2_with (refine Wk.load rfl 113 (.tmp 3) rfl (.agg #[.int .u32 k, .slice A n cd]) (.pointer (some ⟨g3, 0, none⟩)) rfl hl11 ?_)
    clear hl11
    refine (reply_.calls HC9.out (fun j hj => HFR.out j (Nat.le_trans HS9.out hj)) HKK.out (by decide) (d := []) (Kd.C_nil _ _) rfl (Nat.le_refl _) (by decide) (by have := HL9.out; omega)).mono ?_
    rintro e10 w10 ⟨rfl, hc10, hf10⟩
    have HC10 := Aside0.mk hc10
    have HX10 := Aside0.mk (Cn.Blk_frame HX9.out hf10 HNG.out.1)
    have HZ10 := Aside0.mk (Cn.Blk_frame HZ9.out hf10 HNG.out.2.1)
    have HF10 := Aside0.mk (HF9.out.trans (hf10.mono HOL.out))
    have k0 := HX10.out.at_ 0 rfl
    clear hc10 hf10
    by_cases hk7 : k = 7
    ·have hkb : (k == 7) = true := by simpa using hk7
     have HK7 := Aside0.mk hk7
     clear hk7
     obtain ⟨pp, vk, vs, hv⟩ := HC10.out
     have HV10 := Aside0.mk hv
     clear hv
     go_wp2_with (first
      | refine Wk.load rfl 44 (.tmp 8) rfl (.agg (Cn.exc x).toArray) (.pointer (some ⟨b8, 0, none⟩)) rfl (Wk.run_load_blk (P := Tryd.prog) 44 b8 0 (Cn.exc x) _ HZ10.out rfl Tryd.underlying44 rfl HSE.out) ?_
      | (refine Wk.store rfl rfl 44 (.tmp 62) (.tmp 60) rfl p 6 (.agg (Cn.exc x).toArray) (Cn.exc x) rfl rfl (by simp [Value.cells]) 72 _ HV10.out.blk HSE.out (Nat.le_of_ble_eq_true rfl) rfl ?_; intro w11 hX hO; have HO11 := Aside0.mk hO; have HV11 : Aside0 (Cn.Cv w11 okL p tb pp vk vs { Cn.say c1 k 1 [] with ex := x }) := ⟨HV10.out.turn hO hX rfl rfl rfl⟩; clear hX hO)
      | (refine Wk.store rfl rfl 5 (.tmp 64) (.const (.int .u8 3)) rfl p 5 (.int .u8 3) [.int .u8 3] rfl rfl rfl 72 _ HV11.out.blk HS1.out (Nat.le_of_ble_eq_true rfl) rfl ?_; intro w12 hX hO; have HO12 := Aside0.mk hO; have HV12 : Aside0 (Cn.Cv w12 okL p tb pp vk vs { Cn.say c1 k 1 [] with ex := x, st := 3 }) := ⟨HV11.out.turn hO hX rfl rfl rfl⟩; clear hX hO))
     go_end0
     refine ⟨rfl, ?_, (HF10.out.trans (Cn.Fr.of_only HO11.out (HOL.out _ HV10.out.okp))).trans (Cn.Fr.of_only HO12.out (HOL.out _ HV10.out.okp))⟩
     unfold Cn.asked
     rw [HAK.out, if_neg (fun h => h rfl), HCK.out, if_neg (fun h => h rfl), HXE.out]
     simp only [HC1E.out]
     rw [(if_neg (of_decide_eq_false HWB.out)), if_pos HK7.out]
     exact ⟨pp, vk, vs, HV12.out.mono HOL.out⟩
    ·have hkb : (k == 7) = false := by simpa using hk7
     go_wp2_with fail
     go_end0
     refine ⟨rfl, ?_, HF10.out⟩
     unfold Cn.asked
     rw [HAK.out, if_neg (fun h => h rfl), HCK.out, if_neg (fun h => h rfl), HXE.out]
     simp only [HC1E.out]
     rw [(if_neg (of_decide_eq_false HWB.out)), if_neg hk7]
     exact HC10.out.mono HOL.out
  ·have hfb : (f == 0) = false := by simpa using hf0
   go_wp2_with (refine Wk.store_all rfl rfl 55 (.tmp 7) (.tmp 25) rfl b7 (Ps.tkc (ti, se, ro, sz)) rfl rfl 55 _ HYc.out HSK.out rfl rfl ?_; intro w4 hX hO; have HX4 := Aside0.mk (HXc.out.only hO HGW.out.2); have HBW := Aside0.mk (Wk.Only.below HBc.out hO HGW.out.1); clear hX hO)
   have HCW := Aside0.mk (HC0.out.below HBW.out)
   have HCL : Aside0 (Cn.Cn w4 (fun j => ok j ∧ j ≠ g3) p tb c) := ⟨HCW.out.mono (fun j hj => ⟨hj.1, by have := hj.2; have := HG3.out; omega⟩)⟩
   have HFL : Aside0 (∀ j, w4.heap.size ≤ j → ok j ∧ j ≠ g3) := ⟨fun j hj => ⟨HF.out j (Nat.le_trans HBW.out.size hj), by have := HX4.out.lt; omega⟩⟩
   refine wp_region_noPanic ?_
   refine Rg.s1 5 (fun w' => Below w4.heap.size w4 w') [4] (Below.refl _ _).drew #[false, false, false, false, false] (fun hHeld => ?_)
   refine Rg.p1 0 (.some 29) ?_
   refine Rg.t1 1 (.some 30) hHeld ?_ (hy := by intro w' hS'; (have hl := Wk.run_load_blk (P := Tryd.prog) 113 g3 0 [.int .u32 k, .slice A n cd] _ (HX4.out.below_ hS') rfl Tryd.underlying113 rfl HSO.out; refine (Wk.exec_load 113 (.tmp 3) rfl _ _ rfl hl).trans ?_); first | done | with_reducible rfl)
   refine Rg.p1 2 (.some 31) ?_
   refine Rg.o1 3 (.some 32) (fun K hK => ?_)
   refine call_ 83 #[.int .u16 f] (by rfl) rfl (by go_simp) ?_
   refine (Cn.refused_ _ f).mono ?_
   rintro e5 w5 ⟨rfl, hb5⟩
   have HB5 := Aside0.mk (below_then hHeld hHeld.size hb5)
   clear hb5
   refine ⟨_, rfl, ?_⟩
   refine hK.out _ _ HB5.out (fun hHeld => ?_)
   clear hK K
   refine Rg.n1 ?_
   refine Rg.l1 4 (.some 33) (fun K hK => ?_)
   refine call_ 66 #[.pointer (some ⟨p, 0, none⟩), .agg #[.int .u32 k, .slice A n cd], .int .u32 (Cn.refused f), .slice none 0 0] (by rfl) rfl (by go_simp) ?_
   refine (reply_.calls (HCL.out.below HB5.out) (fun j hj => HFL.out j (Nat.le_trans HB5.out.size hj)) HKK.out (Cn.refused_range f) (d := []) (Kd.C_nil _ _) rfl (Nat.le_refl _) (by decide) (by have := HS.out; omega)).mono ?_
   rintro e6 w6 ⟨rfl, hc6, hf6⟩
   have HC6 := Aside0.mk (hc6.mono (fun j hj => hj.1))
   have HF6 := Aside0.mk (((Cn.Fr.of_below HBW.out ok).trans (Cn.Fr.of_below HB5.out ok)).trans (hf6.mono (fun j hj => hj.1)))
   clear hc6 hf6
   refine ⟨_, rfl, ?_⟩
   refine hK.out _ _ ?_
   clear hK K
   refine Rg.n1 ?_
   refine Rg.d1 ?_
   refine NoPanic.normal ?_
   go_wp2_with fail
   refine bodyPost_ret (results_none rfl _ _ _) rfl ?_
   refine ⟨rfl, ?_, HF6.out⟩
   unfold Cn.asked
   rw [HAK.out]
   rw [if_neg (fun h => h rfl), HCK.out, if_pos hf0]
   exact HC6.out
 ·have heb : (e == 0) = false := by simpa using he
  go_wp2_with fail
  generalize w2.alloc (.cells #[.int .u32 0, .int .u32 0, .bool false, .int .u64 0] 55) = w4 at *
  have HBW := HB3
  have HX4 := HX3
  have HCW := Aside0.mk (HC0.out.below HB3.out)
  have HCL : Aside0 (Cn.Cn w4 (fun j => ok j ∧ j ≠ g3) p tb c) := ⟨HCW.out.mono (fun j hj => ⟨hj.1, by have := hj.2; have := HG3.out; omega⟩)⟩
  have HFL : Aside0 (∀ j, w4.heap.size ≤ j → ok j ∧ j ≠ g3) := ⟨fun j hj => ⟨HF.out j (Nat.le_trans HBW.out.size hj), by have := HX4.out.lt; omega⟩⟩
  refine wp_region_noPanic ?_
  refine Rg.s1 5 (fun w' => Below w4.heap.size w4 w') [4] (Below.refl _ _).drew #[false, false, false, false, false] (fun hHeld => ?_)
  refine Rg.p1 0 (.some 29) ?_
  refine Rg.t1 1 (.some 30) hHeld ?_ (hy := by intro w' hS'; (have hl := Wk.run_load_blk (P := Tryd.prog) 113 g3 0 [.int .u32 k, .slice A n cd] _ (HX4.out.below_ hS') rfl Tryd.underlying113 rfl HSO.out; refine (Wk.exec_load 113 (.tmp 3) rfl _ _ rfl hl).trans ?_); first | done | with_reducible rfl)
  refine Rg.p1 2 (.some 31) ?_
  refine Rg.o1 3 (.some 32) (fun K hK => ?_)
  refine call_ 83 #[.int .u16 e] (by rfl) rfl (by go_simp) ?_
  refine (Cn.refused_ _ e).mono ?_
  rintro e5 w5 ⟨rfl, hb5⟩
  have HB5 := Aside0.mk (below_then hHeld hHeld.size hb5)
  clear hb5
  refine ⟨_, rfl, ?_⟩
  refine hK.out _ _ HB5.out (fun hHeld => ?_)
  clear hK K
  refine Rg.n1 ?_
  refine Rg.l1 4 (.some 33) (fun K hK => ?_)
  refine call_ 66 #[.pointer (some ⟨p, 0, none⟩), .agg #[.int .u32 k, .slice A n cd], .int .u32 (Cn.refused e), .slice none 0 0] (by rfl) rfl (by go_simp) ?_
  refine (reply_.calls (HCL.out.below HB5.out) (fun j hj => HFL.out j (Nat.le_trans HB5.out.size hj)) HKK.out (Cn.refused_range e) (d := []) (Kd.C_nil _ _) rfl (Nat.le_refl _) (by decide) (by have := HS.out; omega)).mono ?_
  rintro e6 w6 ⟨rfl, hc6, hf6⟩
  have HC6 := Aside0.mk (hc6.mono (fun j hj => hj.1))
  have HF6 := Aside0.mk (((Cn.Fr.of_below HBW.out ok).trans (Cn.Fr.of_below HB5.out ok)).trans (hf6.mono (fun j hj => hj.1)))
  clear hc6 hf6
  refine ⟨_, rfl, ?_⟩
  refine hK.out _ _ ?_
  clear hK K
  refine Rg.n1 ?_
  refine Rg.d1 ?_
  refine NoPanic.normal ?_
  go_wp2_with fail
  refine bodyPost_ret (results_none rfl _ _ _) rfl ?_
  refine ⟨rfl, ?_, HF6.out⟩
  unfold Cn.asked
  rw [HAK.out]
  rw [if_pos he]
  exact HC6.out
end Go.Proofs.YtgljicdpcapgnaaDoor
set_option linter.unusedVariables false
set_option linter.unusedSimpArgs false
namespace Go.Proofs.YtgljicdpcapgnaaDoor.Cn
open Go.RowKit Go.Proofs.YtgljicdpcapgnaaDoor Go.Proofs.YtgljicdpcapgnaaDoor.PBase Go.Proofs.YtgljicdpcapgnaaDoorW.PrintWords Go.Proofs.YtgljicdpcapgnaaDoorW.PrintLast Go.Proofs.YtgljicdpcapgnaaDoorW.PrintMore
theorem bytes_drop {l : List Int} (h : Sh.Bytes l) (n : Nat) : Sh.Bytes (l.drop n) := fun x hx => h x (List.mem_of_mem_drop hx)
theorem bytes_take {l : List Int} (h : Sh.Bytes l) (n : Nat) : Sh.Bytes (l.take n) := fun x hx => h x (List.mem_of_mem_take hx)
theorem fl_cases (l : List Int) : (l.length < 4 ∧ Gr.fl l = (false, 0, 70)) ∨ (4 ≤ l.length ∧ ∃ b, Gr.fl l = (b, 4, 0)) ∨ (4 ≤ l.length ∧ Gr.fl l = (false, 0, 72)) := by
  unfold Gr.fl
  by_cases h : l.length < 4
  · rw [if_pos h]; exact .inl ⟨h, rfl⟩
  · rw [if_neg h]
    split
    · exact .inr (.inl ⟨by omega, _, rfl⟩)
    · exact .inr (.inr ⟨by omega, rfl⟩)
theorem nx_cases (l : List Int) (hb : Sh.Bytes l) : Gr.nx l = (0, [], 0, 70) ∨ Gr.nx l = (0, [], 0, 71) ∨ Gr.nx l = (0, [], 0, 73) ∨
    ∃ (k : Int) (m : Nat), m ≤ 1024 ∧ 16 + m ≤ l.length ∧ (0 ≤ k ∧ k < 4294967296) ∧ Gr.nx l = (k, (l.drop 16).take m, 16 + (m : Int), 0) := by
  unfold Gr.nx
  by_cases h : l.length < 16
  · rw [if_pos h]; exact .inl rfl
  · rw [if_neg h]
    by_cases h1 : Wi.num (l.take 8) ≠ 5280542401877725268
    · rw [if_pos h1]; exact .inr (.inl rfl)
    · rw [if_neg h1]
      have b3 := Gr.num_bound (l.drop 12) (bytes_drop hb 12) 4 (by decide)
      have b2 := Gr.num_bound (l.drop 8) (bytes_drop hb 8) 4 (by decide)
      have p4 : (256 : Int) ^ 4 = 4294967296 := by decide
      rw [p4] at b2 b3
      by_cases h2 : Wi.num ((l.drop 12).take 4) > 1024
      · rw [if_pos h2]; exact .inr (.inr (.inl rfl))
      · rw [if_neg h2]
        by_cases h3 : 16 + Wi.num ((l.drop 12).take 4) > l.length
        · rw [if_pos h3]; exact .inl rfl
        · rw [if_neg h3]
          obtain ⟨m, hm⟩ := Int.eq_ofNat_of_zero_le b3.1
          rw [hm] at h2 h3 ⊢
          exact .inr (.inr (.inr ⟨_, m, by omega, by omega, b2, by rw [Int.toNat_natCast]⟩))
theorem rq_cases (l : List Int) (hb : Sh.Bytes l) : Wi.nextOf l = (0, 0, 0, 0, 0, [], 0, 80) ∨ Wi.nextOf l = (0, 0, 0, 0, 0, [], 0, 81) ∨ Wi.nextOf l = (0, 0, 0, 0, 0, [], 0, 82) ∨
    ∃ (m : Nat) (len : Int), m ≤ 65536 ∧ 28 + m ≤ l.length ∧ Wi.nextOf l = (Wi.rq1 l, Wi.rq2 l, Wi.rq3 l, Wi.rq4 l, len, (l.drop 28).take m, 28 + (m : Int), 0) := by
  unfold Wi.nextOf
  by_cases h : l.length < 28
  · rw [if_pos h]; exact .inl rfl
  · rw [if_neg h]
    by_cases h1 : Wi.rq0 l ≠ 627086611
    · rw [if_pos h1]; exact .inr (.inl rfl)
    · rw [if_neg h1]
      by_cases h2 : Wi.rq2 l = 1
      · rw [if_pos h2]
        have b5 : 0 ≤ Wi.rq5 l := (Wi.num_bnd _ (bytes_drop hb 24) 4).1
        by_cases h3 : Wi.rq5 l > 65536
        · rw [if_pos h3]; exact .inr (.inr (.inl rfl))
        · rw [if_neg h3]
          by_cases h4 : 28 + Wi.rq5 l > l.length
          · rw [if_pos h4]; exact .inl rfl
          · rw [if_neg h4]
            obtain ⟨m, hm⟩ := Int.eq_ofNat_of_zero_le b5
            rw [hm] at h3 h4 ⊢
            exact .inr (.inr (.inr ⟨m, _, by omega, by omega, by rw [Int.toNat_natCast]⟩))
      · rw [if_neg h2]
        exact .inr (.inr (.inr ⟨0, Wi.rq5 l, by omega, by omega, by simp⟩))
structure Ok (c : St) : Prop where
  by_ : Sh.Bytes c.kept
  len : c.kept.length ≤ 131072
  rs_ : ∀ r ∈ c.rs, r.2.2.2.2.2.length ≤ 131072
  blk_ : 0 ≤ c.blk ∧ c.blk ≤ 65535
theorem old_len (x : Ex) (sh : Bool) : (old x sh).length ≤ 9000 := by
  have := packs_len4 [8, 2] [x.2.1, can x.2.2] (by simp)
  unfold old
  rw [List.length_append]
  split
  · simp; omega
  · rw [List.length_replicate]; omega
theorem asked_keeps (l : List Ps.Tn) (c : St) (k : Int) (d : List Int) : (asked l c k d).kept = c.kept ∧ (asked l c k d).rs = c.rs ∧ (asked l c k d).blk = c.blk ∧ (asked l c k d).send.length ≤ c.send.length + 40000 := by
  unfold asked
  split
  · exact ⟨rfl, rfl, rfl, by have := say_len c k (refused (Gr.ak d).2.2) []; simp at this; omega⟩
  · split
    · exact ⟨rfl, rfl, rfl, by have := say_len c k (refused (Ps.check l (Gr.ak d).1).2) []; simp at this; omega⟩
    · have hi := info_len (served c.blk (Ps.check l (Gr.ak d).1).1)
      have hbl := blocks_len c.blk
      have h1 := say_len c k 3 (info (served c.blk (Ps.check l (Gr.ak d).1).1))
      have h2 := say_len (say c k 3 (info (served c.blk (Ps.check l (Gr.ak d).1).1))) k 3 (blocks c.blk)
      have h3 := say_len (say (say c k 3 (info (served c.blk (Ps.check l (Gr.ak d).1).1))) k 3 (blocks c.blk)) k 1 []
      have h4 := say_len (say c k 3 (info (served c.blk (Ps.check l (Gr.ak d).1).1))) k 1 []
      simp only [List.length_nil, Nat.add_zero] at h3 h4
      by_cases hw : 3 ∈ (Gr.ak d).2.1
      · simp only [if_pos hw]
        split
        · exact ⟨rfl, rfl, rfl, by show (say _ k 1 []).send.length ≤ _; omega⟩
        · exact ⟨rfl, rfl, rfl, by omega⟩
      · simp only [if_neg hw]
        split
        · exact ⟨rfl, rfl, rfl, by show (say _ k 1 []).send.length ≤ _; omega⟩
        · exact ⟨rfl, rfl, rfl, by omega⟩
theorem option_keeps (l : List Ps.Tn) (c : St) (k : Int) (d : List Int) : (option l c k d).blk = c.blk ∧ (option l c k d).send.length ≤ c.send.length + 40000 ∧ (((option l c k d).kept = c.kept ∧ (option l c k d).rs = c.rs) ∨ ((option l c k d).kept = [] ∧ (option l c k d).rs = [] ∧ (option l c k d).st = 4)) := by
  unfold option
  split
  · exact ⟨rfl, by have := say_len c k 1 []; simp at this; show (say c k 1 []).send.length ≤ _; omega, .inr ⟨rfl, rfl, rfl⟩⟩
  · split
    · exact ⟨rfl, by have := say_len c k (if 0 < d.length then 2147483651 else 1) []; simp only [List.length_nil, Nat.add_zero] at this; omega, .inl ⟨rfl, rfl⟩⟩
    · split
      · unfold oldway
        split
        · exact ⟨rfl, by show c.send.length ≤ _; omega, .inr ⟨rfl, rfl, rfl⟩⟩
        · refine ⟨rfl, ?_, .inl ⟨rfl, rfl⟩⟩
          have := old_len (served c.blk (Ps.check l (strOfNums d)).1) c.sh
          show (c.send ++ old _ c.sh).length ≤ _
          rw [List.length_append]
          omega
      · split
        · obtain ⟨h1, h2, h3, h4⟩ := asked_keeps l c k d
          exact ⟨h3, h4, .inl ⟨h1, h2⟩⟩
        · exact ⟨rfl, by have := say_len c k 2147483649 []; simp only [List.length_nil, Nat.add_zero] at this; omega, .inl ⟨rfl, rfl⟩⟩
theorem step_facts (l : List Ps.Tn) (c : St) (h : Ok c) : (step l c).2.2.blk = c.blk ∧ (step l c).2.2.send.length ≤ c.send.length + 40000 ∧ (∀ r ∈ (step l c).2.2.rs, r.2.2.2.2.2.length ≤ 131072) ∧
    (((step l c).2.2.kept = c.kept ∧ ((step l c).2.1 = 0 → 4 ≤ (step l c).1 ∧ (step l c).1 ≤ c.kept.length)) ∨ ((step l c).2.2.kept = [] ∧ (step l c).2.2.st = 4)) := by
  unfold step
  by_cases h1 : c.st = 1
  · rw [if_pos h1]
    rcases fl_cases c.kept with ⟨_, e⟩ | ⟨hl, b, e⟩ | ⟨_, e⟩
    · rw [e]
      exact ⟨rfl, Nat.le_add_right _ _, h.rs_, .inl ⟨rfl, fun h => by simp at h⟩⟩
    · rw [e]
      exact ⟨rfl, Nat.le_add_right _ _, h.rs_, .inl ⟨rfl, fun _ => ⟨by show (4 : Int) ≤ 4; decide, by show (4 : Int) ≤ _; omega⟩⟩⟩
    · rw [e]
      exact ⟨rfl, Nat.le_add_right _ _, h.rs_, .inl ⟨rfl, fun h => by simp at h⟩⟩
  · rw [if_neg h1]
    by_cases h2 : c.st = 2
    · rw [if_pos h2]
      rcases nx_cases c.kept h.by_ with e | e | e | ⟨k, m, hm, hl, _, e⟩
      · rw [e]
        exact ⟨rfl, Nat.le_add_right _ _, h.rs_, .inl ⟨rfl, fun h => by simp at h⟩⟩
      · rw [e]
        exact ⟨rfl, Nat.le_add_right _ _, h.rs_, .inl ⟨rfl, fun h => by simp at h⟩⟩
      · rw [e]
        exact ⟨rfl, Nat.le_add_right _ _, h.rs_, .inl ⟨rfl, fun h => by simp at h⟩⟩
      · rw [e]
        simp only [if_true]
        obtain ⟨o1, o2, o3⟩ := option_keeps l c k ((c.kept.drop 16).take m)
        refine ⟨o1, o2, ?_, ?_⟩
        · rcases o3 with ⟨_, o4⟩ | ⟨_, o4, _⟩
          · rw [o4]; exact h.rs_
          · rw [o4]; intro r hr; cases hr
        · rcases o3 with ⟨o4, _⟩ | ⟨o4, _, o5⟩
          · exact .inl ⟨o4, fun _ => ⟨by omega, by omega⟩⟩
          · exact .inr ⟨o4, o5⟩
    · rw [if_neg h2]
      by_cases h3 : c.st = 3
      · rw [if_pos h3]
        unfold request
        by_cases h16 : c.rs.length = 16
        · rw [if_pos h16]
          exact ⟨rfl, Nat.le_add_right _ _, h.rs_, .inl ⟨rfl, fun h => by simp at h⟩⟩
        · rw [if_neg h16]
          rcases rq_cases c.kept h.by_ with e | e | e | ⟨m, len, hm, hl, e⟩
          · rw [e]
            exact ⟨rfl, Nat.le_add_right _ _, h.rs_, .inl ⟨rfl, fun h => by simp at h⟩⟩
          · rw [e]
            exact ⟨rfl, Nat.le_add_right _ _, h.rs_, .inl ⟨rfl, fun h => by simp at h⟩⟩
          · rw [e]
            exact ⟨rfl, Nat.le_add_right _ _, h.rs_, .inl ⟨rfl, fun h => by simp at h⟩⟩
          · rw [e]
            simp only [ne_eq, not_true_eq_false, if_false]
            by_cases hk : Wi.rq2 c.kept = 2
            · rw [if_pos hk]
              exact ⟨rfl, Nat.le_add_right _ _, (by intro r hr; cases hr), .inr ⟨rfl, rfl⟩⟩
            · rw [if_neg hk]
              refine ⟨rfl, Nat.le_add_right _ _, ?_, .inl ⟨rfl, fun _ => ⟨by show (4 : Int) ≤ 28 + _; omega, by show 28 + (m : Int) ≤ _; omega⟩⟩⟩
              intro r hr
              rcases List.mem_append.1 hr with hr | hr
              · exact h.rs_ r hr
              · rw [List.mem_singleton.1 hr]
                show ((c.kept.drop 28).take m).length ≤ _
                rw [List.length_take]
                omega
      · rw [if_neg h3]
        exact ⟨rfl, Nat.le_add_right _ _, h.rs_, .inl ⟨rfl, fun h => by simp at h⟩⟩
def nextSt (l : List Ps.Tn) (c : St) : St := { (step l c).2.2 with kept := (step l c).2.2.kept.drop (step l c).1.toNat }
theorem next_ok (l : List Ps.Tn) (c : St) (h : Ok c) (he : (step l c).2.1 = 0) (h4 : (step l c).2.2.st ≠ 4) : Ok (nextSt l c) ∧ (nextSt l c).kept.length + 4 ≤ c.kept.length ∧ (nextSt l c).send.length ≤ c.send.length + 40000 ∧ 0 ≤ (step l c).1 ∧ (step l c).1 ≤ (step l c).2.2.kept.length := by
  obtain ⟨f1, f2, f3, f4⟩ := step_facts l c h
  rcases f4 with ⟨f4, f5⟩ | ⟨_, f5⟩
  · obtain ⟨g1, g2⟩ := f5 he
    have hk : (nextSt l c).kept = c.kept.drop (step l c).1.toNat := by unfold nextSt; rw [f4]
    refine ⟨⟨by rw [hk]; exact bytes_drop h.by_ _, by rw [hk, List.length_drop]; have := h.len; omega, f3, by have : (nextSt l c).blk = c.blk := f1; rw [this]; exact h.blk_⟩, by rw [hk, List.length_drop]; omega, f2, by omega, by rw [f4]; exact g2⟩
  · exact absurd f5 h4
theorem rd_fuel (l : List Ps.Tn) : ∀ (F G : Nat) (c : St), Ok c → c.kept.length < F → c.kept.length < G → rd l F c = rd l G c
  | 0, _, _, _, h, _ => absurd h (Nat.not_lt_zero _)
  | _ + 1, 0, _, _, _, h => absurd h (Nat.not_lt_zero _)
  | F + 1, G + 1, c, hc, hF, hG => by
    rw [rd, rd]
    split
    · rfl
    · split
      · rename_i he
        split
        · rfl
        · rename_i h4
          obtain ⟨h1, h2, _⟩ := next_ok l c hc he h4
          exact rd_fuel l F G (nextSt l c) h1 (by omega) (by omega)
      · rfl
theorem read_step (l : List Ps.Tn) (c : St) (h : Ok c) : read l c = if (step l c).2.1 = 70 ∨ (step l c).2.1 = 80 then (step l c).2.2 else if (step l c).2.1 = 0 then (if (step l c).2.2.st = 4 then (step l c).2.2 else read l (nextSt l c)) else close (step l c).2.2 := by
  unfold read
  rw [rd]
  split
  · rfl
  · split
    · rename_i he
      split
      · rfl
      · rename_i h4
        obtain ⟨h1, h2, _⟩ := next_ok l c h he h4
        exact rd_fuel l _ _ (nextSt l c) h1 (by omega) (Nat.lt_succ_self _)
    · rfl
end Go.Proofs.YtgljicdpcapgnaaDoor.Cn
set_option linter.unusedVariables false
set_option linter.unusedSimpArgs false
namespace Go.Proofs.YtgljicdpcapgnaaDoor
open Go.RowKit Go.Proofs.YtgljicdpcapgnaaDoor.PBase Go.Proofs.YtgljicdpcapgnaaDoorW.PrintWords Go.Proofs.YtgljicdpcapgnaaDoorW.PrintLast Go.Proofs.YtgljicdpcapgnaaDoorW.PrintMore
set_option maxHeartbeats 8000000 in
set_option maxRecDepth 100000 in
theorem optc_.calls {W : World} {ok : Nat → Prop} {p tb bs : Nat} {c : Cn.St} {l : List Ps.Tn} (h : Cn.Cn W ok p tb c) (hf : ∀ k, W.heap.size ≤ k → ok k) (hb : 0 ≤ c.blk ∧ c.blk ≤ 65535) (hK : Sh.Ks W) (hT : Ps.Tb W bs tb l) (hW : ∀ x ∈ l, Ps.TnWf x) {A : Option Addr} {n cd : Nat} {k : Int} {d : List Int} (hk : 0 ≤ k ∧ k < 4294967296) (hd : Kd.C (Kd.int .u8) W A d.length d) (hn : d.length = n) (hc : n ≤ cd) (hl : n ≤ 100000) (hby : Sh.Bytes d) (hs : c.send.length ≤ 9000000000000) :
  Calls Tryd.prog 55 #[.pointer (some ⟨p, 0, none⟩), .agg #[.int .u32 k, .slice A n cd]] W fun e w' => e = .returned (.tuple #[]) ∧ Cn.Cn w' ok p tb (Cn.option l c k d) ∧ Cn.Fr W w' ok := by
 have HC := Aside0.mk h
 have HF := Aside0.mk hf
 have HBK := Aside0.mk hb
 have HK := Aside0.mk hK
 have HT := Aside0.mk hT
 have HW := Aside0.mk hW
 have HKK := Aside0.mk hk
 have HD := Aside0.mk hd
 have HN := Aside0.mk hn
 have HL := Aside0.mk (And.intro hc hl)
 have HBY := Aside0.mk hby
 have HS := Aside0.mk hs
 have HSO := Aside0.mk Cn.sizeOp
 clear h hf hb hK hT hW hk hd hn hc hl hby hs
 have HB1 : Aside0 (Below W.heap.size W (W.alloc (.cells #[.int .u32 k, .slice A n cd] 113))) := ⟨below_alloc (Below.refl _ _) _⟩
 have HX1 : Aside0 (Wk.Blk (W.alloc (.cells #[.int .u32 k, .slice A n cd] 113)) W.heap.size 113 [.int .u32 k, .slice A n cd]) := ⟨Wk.Blk.new W _ [.int .u32 k, .slice A n cd]⟩
 have k0 := HX1.out.at_ 0 rfl
 have k1 := HX1.out.at_ 1 rfl
 have hl1 := Wk.run_load_blk (P := Tryd.prog) 113 W.heap.size 0 [.int .u32 k, .slice A n cd] _ HX1.out rfl Tryd.underlying113 rfl HSO.out
 go_enter Tryd.func55, Tryd.ntmps55
 by_cases h2 : k = 2
 ·have e2 : (k == 2) = true := by simpa using h2
  have H2 := Aside0.mk h2
  clear h2
  go_wp2_with (refine Wk.load rfl 113 (.tmp 3) rfl (.agg #[.int .u32 k, .slice A n cd]) (.pointer (some ⟨W.heap.size, 0, none⟩)) rfl hl1 ?_)
  clear k0 k1 hl1
  generalize W.alloc (.cells #[.int .u32 k, .slice A n cd] 113) = w1 at *
  refine (reply_.calls (HC.out.below HB1.out) (fun j hj => HF.out j (Nat.le_trans HB1.out.size hj)) HKK.out (by decide) (d := []) (Kd.C_nil _ _) rfl (Nat.le_refl _) (by decide) (by have := HS.out; omega)).mono ?_
  rintro e w2 ⟨rfl, hc2, hf2⟩
  have HC2 := Aside0.mk hc2
  have HF2 := Aside0.mk ((Cn.Fr.of_below HB1.out ok).trans hf2)
  clear hc2 hf2
  go_wp2_with fail
  refine (close_.calls HC2.out).mono ?_
  rintro e w3 ⟨rfl, hc3, hf3⟩
  have HC3 := Aside0.mk hc3
  have HF3 := Aside0.mk (HF2.out.trans hf3)
  clear hc3 hf3
  go_wp2_with fail
  go_end0
  refine ⟨rfl, ?_, HF3.out⟩
  unfold Cn.option
  rw [if_pos H2.out]
  exact HC3.out
 ·have e2 : (k == 2) = false := by simpa using h2
  have H2 := Aside0.mk h2
  clear h2
  by_cases h3 : k = 3
  ·have e3 : (k == 3) = true := by simpa using h3
   have H3 := Aside0.mk h3
   clear h3
   by_cases hn0 : 0 < n
   ·have hnI : (0 : Int) < n := by omega
    go_wp2_with (refine Wk.load rfl 113 (.tmp 3) rfl (.agg #[.int .u32 k, .slice A n cd]) (.pointer (some ⟨W.heap.size, 0, none⟩)) rfl hl1 ?_)
    clear k0 k1 hl1
    generalize W.alloc (.cells #[.int .u32 k, .slice A n cd] 113) = w1 at *
    refine (reply_.calls (HC.out.below HB1.out) (fun j hj => HF.out j (Nat.le_trans HB1.out.size hj)) HKK.out (by decide) (d := []) (Kd.C_nil _ _) rfl (Nat.le_refl _) (by decide) (by have := HS.out; omega)).mono ?_
    rintro e w2 ⟨rfl, hc2, hf2⟩
    have HC2 := Aside0.mk hc2
    have HF2 := Aside0.mk ((Cn.Fr.of_below HB1.out ok).trans hf2)
    clear hc2 hf2
    go_wp2_with fail
    go_end0
    refine ⟨rfl, ?_, HF2.out⟩
    unfold Cn.option
    rw [if_neg H2.out, if_pos H3.out, if_pos (by rw [HN.out]; exact hn0)]
    exact HC2.out
   ·have hnI : ¬ (0 : Int) < n := by omega
    go_wp2_with (refine Wk.load rfl 113 (.tmp 3) rfl (.agg #[.int .u32 k, .slice A n cd]) (.pointer (some ⟨W.heap.size, 0, none⟩)) rfl hl1 ?_)
    clear k0 k1 hl1
    generalize W.alloc (.cells #[.int .u32 k, .slice A n cd] 113) = w1 at *
    refine (reply_.calls (HC.out.below HB1.out) (fun j hj => HF.out j (Nat.le_trans HB1.out.size hj)) HKK.out (by decide) (d := []) (Kd.C_nil _ _) rfl (Nat.le_refl _) (by decide) (by have := HS.out; omega)).mono ?_
    rintro e w2 ⟨rfl, hc2, hf2⟩
    have HC2 := Aside0.mk hc2
    have HF2 := Aside0.mk ((Cn.Fr.of_below HB1.out ok).trans hf2)
    clear hc2 hf2
    go_wp2_with fail
    go_end0
    refine ⟨rfl, ?_, HF2.out⟩
    unfold Cn.option
    rw [if_neg H2.out, if_pos H3.out, if_neg (by rw [HN.out]; exact hn0)]
    exact HC2.out
  ·have e3 : (k == 3) = false := by simpa using h3
   have H3 := Aside0.mk h3
   clear h3
   by_cases h1 : k = 1
   ·have e1 : (k == 1) = true := by simpa using h1
    have H1 := Aside0.mk h1
    clear h1
    go_wp2_with (refine Wk.load rfl 113 (.tmp 3) rfl (.agg #[.int .u32 k, .slice A n cd]) (.pointer (some ⟨W.heap.size, 0, none⟩)) rfl hl1 ?_)
    clear k0 k1 hl1
    generalize W.alloc (.cells #[.int .u32 k, .slice A n cd] 113) = w1 at *
    refine (oldway_.calls (HC.out.below HB1.out) (fun j hj => HF.out j (Nat.le_trans HB1.out.size hj)) HBK.out (HK.out.below HB1.out) (HT.out.below HB1.out) HW.out (Kd.C_below HD.out HB1.out) HN.out (by have := HL.out.2; omega) (by have := HS.out; omega)).mono ?_
    rintro e w2 ⟨rfl, hc2, hf2⟩
    have HC2 := Aside0.mk hc2
    have HF2 := Aside0.mk ((Cn.Fr.of_below HB1.out ok).trans hf2)
    clear hc2 hf2
    go_wp2_with fail
    go_end0
    refine ⟨rfl, ?_, HF2.out⟩
    unfold Cn.option
    rw [if_neg H2.out, if_neg H3.out, if_pos H1.out]
    exact HC2.out
   ·have e1 : (k == 1) = false := by simpa using h1
    have H1 := Aside0.mk h1
    clear h1
    by_cases h6 : k = 6
    ·have e6 : (k == 6) = true := by simpa using h6
     have H6 := Aside0.mk h6
     clear h6
     go_wp2_with (refine Wk.load rfl 113 (.tmp 3) rfl (.agg #[.int .u32 k, .slice A n cd]) (.pointer (some ⟨W.heap.size, 0, none⟩)) rfl hl1 ?_)
     clear k0 k1 hl1
     generalize W.alloc (.cells #[.int .u32 k, .slice A n cd] 113) = w1 at *
     refine (askedc_.calls (HC.out.below HB1.out) (fun j hj => HF.out j (Nat.le_trans HB1.out.size hj)) HBK.out (HK.out.below HB1.out) (HT.out.below HB1.out) HW.out HKK.out (Kd.C_below HD.out HB1.out) HN.out HL.out.1 HL.out.2 HBY.out (by have := HS.out; omega)).mono ?_
     rintro e w2 ⟨rfl, hc2, hf2⟩
     have HC2 := Aside0.mk hc2
     have HF2 := Aside0.mk ((Cn.Fr.of_below HB1.out ok).trans hf2)
     clear hc2 hf2
     go_wp2_with fail
     go_end0
     refine ⟨rfl, ?_, HF2.out⟩
     unfold Cn.option
     rw [if_neg H2.out, if_neg H3.out, if_neg H1.out, if_pos (Or.inl H6.out)]
     exact HC2.out
    ·have e6 : (k == 6) = false := by simpa using h6
     have H6 := Aside0.mk h6
     clear h6
     by_cases h7 : k = 7
     ·have e7 : (k == 7) = true := by simpa using h7
      have H7 := Aside0.mk h7
      clear h7
      go_wp2_with (refine Wk.load rfl 113 (.tmp 3) rfl (.agg #[.int .u32 k, .slice A n cd]) (.pointer (some ⟨W.heap.size, 0, none⟩)) rfl hl1 ?_)
      clear k0 k1 hl1
      generalize W.alloc (.cells #[.int .u32 k, .slice A n cd] 113) = w1 at *
      refine (askedc_.calls (HC.out.below HB1.out) (fun j hj => HF.out j (Nat.le_trans HB1.out.size hj)) HBK.out (HK.out.below HB1.out) (HT.out.below HB1.out) HW.out HKK.out (Kd.C_below HD.out HB1.out) HN.out HL.out.1 HL.out.2 HBY.out (by have := HS.out; omega)).mono ?_
      rintro e w2 ⟨rfl, hc2, hf2⟩
      have HC2 := Aside0.mk hc2
      have HF2 := Aside0.mk ((Cn.Fr.of_below HB1.out ok).trans hf2)
      clear hc2 hf2
      go_wp2_with fail
      go_end0
      refine ⟨rfl, ?_, HF2.out⟩
      unfold Cn.option
      rw [if_neg H2.out, if_neg H3.out, if_neg H1.out, if_pos (Or.inr H7.out)]
      exact HC2.out
     ·have e7 : (k == 7) = false := by simpa using h7
      have H7 := Aside0.mk h7
      clear h7
      go_wp2_with (refine Wk.load rfl 113 (.tmp 3) rfl (.agg #[.int .u32 k, .slice A n cd]) (.pointer (some ⟨W.heap.size, 0, none⟩)) rfl hl1 ?_)
      clear k0 k1 hl1
      generalize W.alloc (.cells #[.int .u32 k, .slice A n cd] 113) = w1 at *
      refine (reply_.calls (HC.out.below HB1.out) (fun j hj => HF.out j (Nat.le_trans HB1.out.size hj)) HKK.out (by decide) (d := []) (Kd.C_nil _ _) rfl (Nat.le_refl _) (by decide) (by have := HS.out; omega)).mono ?_
      rintro e w2 ⟨rfl, hc2, hf2⟩
      have HC2 := Aside0.mk hc2
      have HF2 := Aside0.mk ((Cn.Fr.of_below HB1.out ok).trans hf2)
      clear hc2 hf2
      go_wp2_with fail
      go_end0
      refine ⟨rfl, ?_, HF2.out⟩
      unfold Cn.option
      rw [if_neg H2.out, if_neg H3.out, if_neg H1.out, if_neg (fun h => h.elim H6.out H7.out)]
      exact HC2.out
set_option maxHeartbeats 8000000 in
set_option maxRecDepth 100000 in
theorem reqc_.calls {W : World} {ok : Nat → Prop} {p tb : Nat} {c : Cn.St} (h : Cn.Cn W ok p tb c) (hf : ∀ k, W.heap.size ≤ k → ok k) (hc : Cn.Ok c) :
  Calls Tryd.prog 56 #[.pointer (some ⟨p, 0, none⟩)] W fun e w' => e = .returned (.tuple #[.int .i64 (Cn.request c).1, .int .u16 (Cn.request c).2.1]) ∧ Cn.Cn w' ok p tb (Cn.request c).2.2 ∧ Cn.Fr W w' ok := by
 obtain ⟨pp, vk, vs, hv⟩ := h
 obtain ⟨A, cp, rfl⟩ := Kd.R_slice hv.kept
 obtain ⟨n, HN⟩ : ∃ n, Aside0 (c.kept.length = n) := ⟨_, ⟨rfl⟩⟩
 have k0 := hv.blk.at_ 0 rfl
 have k3 := hv.blk.at_ 3 rfl
 rw [HN.out] at k3
 have HV := Aside0.mk hv
 have HF := Aside0.mk hf
 have HO := Aside0.mk hc
 have HSR := Aside0.mk Pi.size33
 clear hv hf hc
 obtain ⟨fu, HFU⟩ : ∃ b, Aside0 (decide (c.rs.length = 16) = b) := ⟨_, ⟨rfl⟩⟩
 go_enter Tryd.func56, Tryd.ntmps56
 go_wp2_with fail
 refine (full_.calls HV.out.pipe).mono ?_
 rintro e w' ⟨rfl, rfl⟩
 rw [HFU.out]
 cases fu with
 | true =>
  go_wp2_with fail
  go_ret2
  unfold Cn.request
  rw [if_pos (of_decide_eq_true HFU.out)]
  exact ⟨rfl, ⟨pp, _, vs, HV.out⟩, Cn.Fr.refl _ _⟩
 | false =>
  have HRQ : Aside0 (Cn.request c = (match Wi.nextOf c.kept with | (f, k, ck, off, len, data, n, e) => if e ≠ 0 then (0, e, c) else if k = 2 then (n, 0, Cn.close c) else (n, 0, { c with rs := c.rs ++ [(f, k, ck, off, len, data)] }))) := ⟨by unfold Cn.request; rw [if_neg (of_decide_eq_false HFU.out)]⟩
  obtain ⟨f, kd, ck, off, len, d, m, er, HNX⟩ : ∃ f kd ck off len d m er, Aside0 (Wi.nextOf c.kept = (f, kd, ck, off, len, d, m, er)) := ⟨_, _, _, _, _, _, _, _, ⟨rfl⟩⟩
  rw [HNX.out] at HRQ
  have HDL : Aside0 (d.length ≤ 131072) := ⟨by
   rcases Cn.rq_cases c.kept HO.out.by_ with e | e | e | ⟨m', len', _, _, e⟩ <;> rw [HNX.out] at e <;> simp only [Prod.mk.injEq] at e
   ·rw [e.2.2.2.2.2.1]; exact Nat.zero_le _
   ·rw [e.2.2.2.2.2.1]; exact Nat.zero_le _
   ·rw [e.2.2.2.2.2.1]; exact Nat.zero_le _
   ·rw [e.2.2.2.2.2.1, List.length_take]; omega⟩
  go_wp2_with fail
  clear k0 k3
  have hr := Kd.R_reads' HV.out.kept
  refine (Cn.reqnext_ hr.2.2 HN.out (by rw [← HN.out]; exact hr.2.1) (by have := HO.out.len; have := HN.out; omega) HO.out.by_ HNX.out).mono ?_
  rintro e w2 ⟨A2, c2, rfl, hR2, hb2⟩
  obtain ⟨nd, HND⟩ : ∃ n, Aside0 (d.length = n) := ⟨_, ⟨rfl⟩⟩
  rw [HND.out] at hR2 ⊢
  have HR2 := Aside0.mk hR2
  have HB2 := Aside0.mk hb2
  clear hR2 hb2 hr
  have HB3 : Aside0 (Below w2.heap.size w2 (w2.alloc (.cells #[.int .u16 f, .int .u16 kd, .int .u64 ck, .int .u64 off, .int .u32 len, .slice A2 nd c2] 61))) := ⟨below_alloc (Below.refl _ _) _⟩
  have HX3 : Aside0 (Wk.Blk (w2.alloc (.cells #[.int .u16 f, .int .u16 kd, .int .u64 ck, .int .u64 off, .int .u32 len, .slice A2 nd c2] 61)) w2.heap.size 61 (Pi.rqc f kd ck off len (.slice A2 nd c2))) := ⟨Wk.Blk.new w2 _ (Pi.rqc f kd ck off len (.slice A2 nd c2))⟩
  have HBW := Aside0.mk (below_then HB2.out HB2.out.size HB3.out)
  have HV3 := Aside0.mk (HV.out.below HBW.out)
  have HR3 := Aside0.mk (Kd.R_below HR2.out HB3.out)
  have k1 := HX3.out.at_ 1 rfl
  try simp only [Pi.rqc] at k1
  by_cases he : er = 0
  ·subst he
   by_cases h2 : kd = 2
   ·have e2 : (kd == 2) = true := by simpa using h2
    have H2 := Aside0.mk h2
    clear h2
    go_wp2_with fail
    clear k1
    refine (close_.calls ⟨pp, _, vs, HV3.out⟩).mono ?_
    rintro e w4 ⟨rfl, hc4, hf4⟩
    have HC4 := Aside0.mk hc4
    have HF4 := Aside0.mk ((Cn.Fr.of_below HBW.out ok).trans hf4)
    clear hc4 hf4
    go_wp2_with fail
    go_ret2
    rw [HRQ.out]
    simp only [ne_eq, not_true_eq_false, if_false]
    rw [if_pos H2.out]
    exact ⟨rfl, HC4.out, HF4.out⟩
   ·have e2 : (kd == 2) = false := by simpa using h2
    have H2 := Aside0.mk h2
    clear h2
    go_wp2_with fail
    clear k1
    generalize w2.alloc (.cells #[.int .u16 f, .int .u16 kd, .int .u64 ck, .int .u64 off, .int .u32 len, .slice A2 nd c2] 61) = w3 at *
    obtain ⟨g4, HG4⟩ : ∃ g, Aside0 (w2.heap.size = g) := ⟨_, ⟨rfl⟩⟩
    rw [HG4.out] at HX3 ⊢
    refine wp_region_noPanic ?_
    refine Rg.s1 6 (fun w' => Below w3.heap.size w3 w') [5] (Below.refl _ _).drew #[false, false, false, false, false, false] (fun hHeld => ?_)
    refine Rg.p1 0 (.some 21) ?_
    refine Rg.p1 1 (.some 22) ?_
    refine Rg.p1 2 (.some 23) ?_
    refine Rg.t1 3 (.some 24) hHeld ?_ (hy := by intro w' hS'; (have c1 := (HV3.out.below hS').blk.at_ 0 rfl; go_simp); first | done | with_reducible rfl)
    refine Rg.t1 4 (.some 25) hHeld ?_ (hy := by intro w' hS'; (have hl := Wk.run_load_blk (P := Tryd.prog) 61 g4 0 (Pi.rqc f kd ck off len (.slice A2 nd c2)) _ (HX3.out.below_ hS') rfl Tryd.underlying61 rfl HSR.out; refine (Wk.exec_load 61 (.tmp 4) rfl _ _ rfl hl).trans ?_); first | done | with_reducible rfl)
    have HBD : Aside0 (Below w3.heap.size w3 w3.drew) := ⟨(Below.refl _ _).drew⟩
    have HV4 := Aside0.mk (HV3.out.below HBD.out)
    have HKR : Aside0 (kRq.K w3.drew (f, kd, ck, off, len, d) (Pi.rqc f kd ck off len (.slice A2 nd c2))) := ⟨Pi.K_of_R (Kd.R_below HR3.out HBD.out)⟩
    have HFP : Aside0 (∀ j, w3.drew.heap.size ≤ j → ok j ∧ some j ≠ (Value.slice A c.kept.length cp).ownBlock ∧ some j ≠ vs.ownBlock) := ⟨HV4.out.freshP (fun j hj => HF.out j (Nat.le_trans HBW.out.size (Nat.le_trans HBD.out.size hj)))⟩
    refine Rg.l1 5 (.some 26) (fun K hK => ?_)
    refine call_ 71 #[.pointer (some ⟨pp, 0, none⟩), .agg (Pi.rqc f kd ck off len (.slice A2 nd c2)).toArray] (by rfl) rfl (by go_simp) ?_
    refine (add_.calls HV4.out.pipe HKR.out (by show d.length < _; have := HDL.out; omega) (Nat.zero_le _) HFP.out).mono ?_
    rintro e w5 ⟨rfl, hp5, hg5⟩
    have HV5 : Aside0 (Cn.Cv w5 ok p tb pp (.slice A c.kept.length cp) vs { c with rs := c.rs ++ [(f, kd, ck, off, len, d)] }) := ⟨by
     rw [if_pos (by have := HV4.out.pipe.le; have := of_decide_eq_false HFU.out; omega)] at hp5
     exact HV4.out.piped hp5 hg5 ⟨rfl, rfl, rfl, rfl⟩ rfl rfl rfl⟩
    have HF5 := Aside0.mk (((Cn.Fr.of_below HBW.out ok).trans (Cn.Fr.of_below HBD.out ok)).trans (Cn.Fr.of_grown hg5 (fun j hj => by cases hj; exact HV4.out.okq)))
    clear hp5 hg5
    refine ⟨_, rfl, ?_⟩
    refine hK.out _ _ ?_
    clear hK K
    refine Rg.n1 ?_
    refine Rg.d1 ?_
    refine NoPanic.normal ?_
    go_wp2_with fail
    go_ret2
    rw [HRQ.out]
    simp only [ne_eq, not_true_eq_false, if_false]
    rw [if_neg H2.out]
    exact ⟨rfl, ⟨pp, _, vs, HV5.out⟩, HF5.out⟩
  ·have heb : (er == 0) = false := by simpa using he
   have HE := Aside0.mk he
   clear he
   go_wp2_with fail
   go_ret2
   rw [HRQ.out]
   simp only []
   rw [if_pos HE.out]
   exact ⟨rfl, ⟨pp, _, vs, HV3.out⟩, Cn.Fr.of_below HBW.out ok⟩
end Go.Proofs.YtgljicdpcapgnaaDoor
set_option linter.unusedVariables false
set_option linter.unusedSimpArgs false
namespace Go.Proofs.YtgljicdpcapgnaaDoor
open Go.RowKit Go.Proofs.YtgljicdpcapgnaaDoor.PBase Go.Proofs.YtgljicdpcapgnaaDoorW.PrintWords Go.Proofs.YtgljicdpcapgnaaDoorW.PrintLast Go.Proofs.YtgljicdpcapgnaaDoorW.PrintMore
set_option maxHeartbeats 8000000 in
set_option maxRecDepth 100000 in
theorem stepc_.calls {W : World} {ok : Nat → Prop} {p tb bs : Nat} {c : Cn.St} {l : List Ps.Tn} (h : Cn.Cn W ok p tb c) (hf : ∀ k, W.heap.size ≤ k → ok k) (hc : Cn.Ok c) (hK : Sh.Ks W) (hT : Ps.Tb W bs tb l) (hW : ∀ x ∈ l, Ps.TnWf x) (hs : c.send.length ≤ 9000000000000) :
  Calls Tryd.prog 40 #[.pointer (some ⟨p, 0, none⟩)] W fun e w' => e = .returned (.tuple #[.int .i64 (Cn.step l c).1, .int .u16 (Cn.step l c).2.1]) ∧ Cn.Cn w' ok p tb (Cn.step l c).2.2 ∧ Cn.Fr W w' ok := by
 have HCN := Aside0.mk h
 obtain ⟨pp, vk, vs, hv⟩ := h
 obtain ⟨A, cp, rfl⟩ := Kd.R_slice hv.kept
 obtain ⟨n, HN⟩ : ∃ n, Aside0 (c.kept.length = n) := ⟨_, ⟨rfl⟩⟩
 have k3 := hv.blk.at_ 3 rfl
 have k5 := hv.blk.at_ 5 rfl
 rw [HN.out] at k3
 have HV := Aside0.mk hv
 have HF := Aside0.mk hf
 have HO := Aside0.mk hc
 have HK := Aside0.mk hK
 have HT := Aside0.mk hT
 have HW := Aside0.mk hW
 have HS := Aside0.mk hs
 have HS1 := Aside0.mk Cn.size1
 have HSB := Aside0.mk Cn.sizeB
 have HSO := Aside0.mk Cn.sizeOp
 have HLN : Aside0 (n ≤ 1000000 ∧ n ≤ cp) := ⟨by have := hc.len; have := HN.out; omega, by rw [← HN.out]; exact (Kd.R_reads' hv.kept).2.1⟩
 clear hv hf hc hK hT hW hs
 go_enter Tryd.func40, Tryd.ntmps40
 by_cases h1 : c.st = 1
 ·have e1 : (c.st == 1) = true := by simpa using h1
  have H1 := Aside0.mk h1
  clear h1
  have HST : Aside0 (Cn.step l c = ((Gr.fl c.kept).2.1, (Gr.fl c.kept).2.2, if (Gr.fl c.kept).2.2 = 0 then { c with sh := (Gr.fl c.kept).1, st := 2 } else c)) := ⟨by unfold Cn.step; rw [if_pos H1.out]⟩
  obtain ⟨s, m, e, HFL⟩ : ∃ s m e, Aside0 (Gr.fl c.kept = (s, m, e)) := ⟨_, _, _, ⟨rfl⟩⟩
  rw [HFL.out] at HST
  simp only [] at HST
  go_wp2_with fail
  clear k3 k5 e1
  refine (Cn.flags_ (Kd.R_reads' HV.out.kept).2.2 HN.out HLN.out.2 HLN.out.1 HO.out.by_ HFL.out).mono ?_
  rintro e' w2 ⟨rfl, hb2⟩
  have HV2 := Aside0.mk (HV.out.below hb2)
  have HB2 := Aside0.mk hb2
  clear hb2
  by_cases he : e = 0
  ·subst he
   go_wp2_with (first
    | (refine Wk.store rfl rfl 4 (.tmp 31) (.tmp 29) rfl p 9 (.bool s) [.bool s] rfl rfl rfl 72 _ HV2.out.blk HSB.out (Nat.le_of_ble_eq_true rfl) rfl ?_; intro w3 hX hO; have HO3 := Aside0.mk hO; have HV3 : Aside0 (Cn.Cv w3 ok p tb pp (.slice A c.kept.length cp) vs { c with sh := s }) := ⟨HV2.out.turn hO hX rfl rfl rfl⟩; clear hX hO)
    | (refine Wk.store rfl rfl 5 (.tmp 33) (.const (.int .u8 2)) rfl p 5 (.int .u8 2) [.int .u8 2] rfl rfl rfl 72 _ HV3.out.blk HS1.out (Nat.le_of_ble_eq_true rfl) rfl ?_; intro w4 hX hO; have HO4 := Aside0.mk hO; have HV4 : Aside0 (Cn.Cv w4 ok p tb pp (.slice A c.kept.length cp) vs { c with sh := s, st := 2 }) := ⟨HV3.out.turn hO hX rfl rfl rfl⟩; clear hX hO))
   go_ret2
   rw [HST.out]
   first | rw [if_pos trivial] | rw [if_pos rfl]
   exact ⟨rfl, ⟨pp, _, vs, HV4.out⟩, ((Cn.Fr.of_below HB2.out ok).trans (Cn.Fr.of_only HO3.out HV2.out.okp)).trans (Cn.Fr.of_only HO4.out HV2.out.okp)⟩
  ·have heb : (e == 0) = false := by simpa using he
   have HE := Aside0.mk he
   clear he
   go_wp2_with fail
   go_ret2
   rw [HST.out, if_neg HE.out]
   exact ⟨rfl, ⟨pp, _, vs, HV2.out⟩, Cn.Fr.of_below HB2.out ok⟩
 ·have e1 : (c.st == 1) = false := by simpa using h1
  have H1 := Aside0.mk h1
  clear h1
  by_cases h2 : c.st = 2
  ·have e2 : (c.st == 2) = true := by simpa using h2
   have H2 := Aside0.mk h2
   clear h2
   have HST : Aside0 (Cn.step l c = ((Gr.nx c.kept).2.2.1, (Gr.nx c.kept).2.2.2, if (Gr.nx c.kept).2.2.2 = 0 then Cn.option l c (Gr.nx c.kept).1 (Gr.nx c.kept).2.1 else c)) := ⟨by unfold Cn.step; rw [if_neg H1.out, if_pos H2.out]⟩
   obtain ⟨k, d, m, e, HNX⟩ : ∃ k d m e, Aside0 (Gr.nx c.kept = (k, d, m, e)) := ⟨_, _, _, _, ⟨rfl⟩⟩
   have HNK : Aside0 ((0 ≤ k ∧ k < 4294967296) ∧ d.length ≤ 1024 ∧ Sh.Bytes d) := ⟨by
    have hz : Sh.Bytes [] := fun x hx => by cases hx
    rcases Cn.nx_cases c.kept HO.out.by_ with q | q | q | ⟨k', m', h1, h2, h3, q⟩ <;> rw [HNX.out] at q <;> simp only [Prod.mk.injEq] at q <;> obtain ⟨q1, q2, _⟩ := q <;> rw [q1, q2]
    ·exact ⟨by decide, by simp, hz⟩
    ·exact ⟨by decide, by simp, hz⟩
    ·exact ⟨by decide, by simp, hz⟩
    ·exact ⟨h3, by rw [List.length_take]; omega, Cn.bytes_take (Cn.bytes_drop HO.out.by_ 16) m'⟩⟩
   rw [HNX.out] at HST
   simp only [] at HST
   go_wp2_with fail
   clear k3 k5 e1 e2
   refine (Cn.next_ (Kd.R_reads' HV.out.kept).2.2 HN.out HLN.out.2 HLN.out.1 HO.out.by_ HNX.out).mono ?_
   rintro e' w2 ⟨A2, c2, rfl, hR2, hb2⟩
   obtain ⟨nd, HND⟩ : ∃ n, Aside0 (d.length = n) := ⟨_, ⟨rfl⟩⟩
   rw [HND.out] at hR2 ⊢
   have HR2 := Aside0.mk hR2
   have HB2 := Aside0.mk hb2
   clear hR2 hb2
   have HB3 : Aside0 (Below w2.heap.size w2 (w2.alloc (.cells #[.int .u32 k, .slice A2 nd c2] 113))) := ⟨below_alloc (Below.refl _ _) _⟩
   have HX3 : Aside0 (Wk.Blk (w2.alloc (.cells #[.int .u32 k, .slice A2 nd c2] 113)) w2.heap.size 113 [.int .u32 k, .slice A2 nd c2]) := ⟨Wk.Blk.new w2 _ [.int .u32 k, .slice A2 nd c2]⟩
   have HBW := Aside0.mk (below_then HB2.out HB2.out.size HB3.out)
   have HC3 := Aside0.mk (HCN.out.below HBW.out)
   have HR3 := Aside0.mk (Kd.R_reads' (Kd.R_below HR2.out HB3.out))
   by_cases he : e = 0
   ·subst he
    have hl1 := Wk.run_load_blk (P := Tryd.prog) 113 w2.heap.size 0 [.int .u32 k, .slice A2 nd c2] _ HX3.out rfl Tryd.underlying113 rfl HSO.out
    go_wp2_with (refine Wk.load rfl 113 (.tmp 7) rfl (.agg #[.int .u32 k, .slice A2 nd c2]) (.pointer (some ⟨w2.heap.size, 0, none⟩)) rfl hl1 ?_)
    clear hl1
    refine (optc_.calls HC3.out (fun j hj => HF.out j (Nat.le_trans HBW.out.size hj)) HO.out.blk_ (HK.out.below HBW.out) (HT.out.below HBW.out) HW.out HNK.out.1 HR3.out.2.2 HND.out HR3.out.2.1 (by have := HNK.out.2.1; have := HND.out; omega) HNK.out.2.2 HS.out).mono ?_
    rintro e' w4 ⟨rfl, hc4, hf4⟩
    have HC4 := Aside0.mk hc4
    have HF4 := Aside0.mk ((Cn.Fr.of_below HBW.out ok).trans hf4)
    clear hc4 hf4
    go_wp2_with fail
    go_ret2
    rw [HST.out]
    first | rw [if_pos trivial] | rw [if_pos rfl]
    exact ⟨rfl, HC4.out, HF4.out⟩
   ·have heb : (e == 0) = false := by simpa using he
    have HE := Aside0.mk he
    clear he
    go_wp2_with fail
    go_ret2
    rw [HST.out, if_neg HE.out]
    exact ⟨rfl, HC3.out, Cn.Fr.of_below HBW.out ok⟩
  ·have e2 : (c.st == 2) = false := by simpa using h2
   have H2 := Aside0.mk h2
   clear h2
   by_cases h3 : c.st = 3
   ·have e3 : (c.st == 3) = true := by simpa using h3
    have H3 := Aside0.mk h3
    clear h3
    have HST : Aside0 (Cn.step l c = Cn.request c) := ⟨by unfold Cn.step; rw [if_neg H1.out, if_neg H2.out, if_pos H3.out]⟩
    go_wp2_with fail
    clear k3 k5 e1 e2 e3
    refine (reqc_.calls HCN.out HF.out HO.out).mono ?_
    rintro e' w2 ⟨rfl, hc2, hf2⟩
    have HC2 := Aside0.mk hc2
    have HF2 := Aside0.mk hf2
    clear hc2 hf2
    go_wp2_with fail
    go_ret2
    rw [HST.out]
    exact ⟨rfl, HC2.out, HF2.out⟩
   ·have e3 : (c.st == 3) = false := by simpa using h3
    have H3 := Aside0.mk h3
    clear h3
    have HST : Aside0 (Cn.step l c = (0, 80, c)) := ⟨by unfold Cn.step; rw [if_neg H1.out, if_neg H2.out, if_neg H3.out]⟩
    go_wp2_with fail
    go_ret2
    rw [HST.out]
    exact ⟨rfl, HCN.out, Cn.Fr.refl _ _⟩
end Go.Proofs.YtgljicdpcapgnaaDoor
set_option linter.unusedVariables false
set_option linter.unusedSimpArgs false
namespace Go.Proofs.YtgljicdpcapgnaaDoor
open Go.RowKit Go.Proofs.YtgljicdpcapgnaaDoor.PBase Go.Proofs.YtgljicdpcapgnaaDoorW.PrintWords Go.Proofs.YtgljicdpcapgnaaDoorW.PrintLast Go.Proofs.YtgljicdpcapgnaaDoorW.PrintMore
namespace Cn
def kl (w : World) (p : Nat) : Nat := match w.cell? ⟨p, 3, none⟩ with | some (.slice _ n _) => n | _ => 0
theorem Cv.kl {W : World} {ok : Nat → Prop} {p tb pp : Nat} {vk vs : Value} {c : St} (h : Cv W ok p tb pp vk vs c) : kl W p = c.kept.length := by
  obtain ⟨A, cp, hv⟩ := Kd.R_slice h.kept
  have k3 := h.blk.at_ 3 rfl
  unfold Cn.kl
  rw [k3]
  show (match some vk with | some (.slice _ n _) => n | _ => 0) = _
  rw [hv]
theorem Cn.kl {W : World} {ok : Nat → Prop} {p tb : Nat} {c : St} (h : Cn W ok p tb c) : kl W p = c.kept.length := by
  obtain ⟨pp, vk, vs, h⟩ := h
  exact h.kl
theorem step_ok (l : List Ps.Tn) (c : St) (h : Ok c) : Ok (step l c).2.2 := by
  obtain ⟨f1, f2, f3, f4⟩ := step_facts l c h
  refine ⟨?_, ?_, f3, by rw [f1]; exact h.blk_⟩
  · rcases f4 with ⟨e, _⟩ | ⟨e, _⟩
    · rw [e]; exact h.by_
    · rw [e]; intro x hx; cases hx
  · rcases f4 with ⟨e, _⟩ | ⟨e, _⟩
    · rw [e]; exact h.len
    · rw [e]; exact Nat.zero_le _
theorem close_ok (c : St) (h : Ok c) : Ok (close c) := ⟨(fun x hx => by cases hx), Nat.zero_le _, (fun r hr => by cases hr), h.blk_⟩
theorem read_ok (l : List Ps.Tn) (K : Nat) (hK : 40000 ≤ K) : ∀ (n : Nat) (c : St), c.kept.length ≤ n → Ok c → Ok (read l c) ∧ (read l c).send.length ≤ c.send.length + K * (c.kept.length + 1) := by
  intro n
  induction n with
  | zero =>
    intro c hn h
    have f2 := (step_facts l c h).2.1
    have hk1 : K ≤ K * (c.kept.length + 1) := Nat.le_mul_of_pos_right _ (Nat.succ_pos _)
    rw [read_step l c h]
    split
    · exact ⟨step_ok l c h, by omega⟩
    · split
      · rename_i he
        split
        · exact ⟨step_ok l c h, by omega⟩
        · rename_i h4
          have h2 := (next_ok l c h he h4).2.1
          omega
      · exact ⟨close_ok _ (step_ok l c h), Nat.le_trans f2 (by omega)⟩
  | succ n ih =>
    intro c hn h
    have f2 := (step_facts l c h).2.1
    have hk1 : K ≤ K * (c.kept.length + 1) := Nat.le_mul_of_pos_right _ (Nat.succ_pos _)
    rw [read_step l c h]
    split
    · exact ⟨step_ok l c h, by omega⟩
    · split
      · rename_i he
        split
        · exact ⟨step_ok l c h, by omega⟩
        · rename_i h4
          obtain ⟨h1, h2, h3, _⟩ := next_ok l c h he h4
          obtain ⟨g1, g2⟩ := ih (nextSt l c) (by omega) h1
          have hk2 : K * ((nextSt l c).kept.length + 1) + K ≤ K * (c.kept.length + 1) := by
            rw [← Nat.mul_succ]
            exact Nat.mul_le_mul_left K (by omega)
          exact ⟨g1, by omega⟩
      · exact ⟨close_ok _ (step_ok l c h), Nat.le_trans f2 (by omega)⟩
set_option maxRecDepth 100000 in
theorem feed_ok (l : List Ps.Tn) (c : St) (b : List Int) (h : Ok c) (hb : Sh.Bytes b) : Ok (feed l c b) ∧ (feed l c b).send.length ≤ c.send.length + 5300000000 := by
  unfold feed
  split
  · exact ⟨h, by omega⟩
  · split
    · exact ⟨close_ok c h, Nat.le_add_right _ _⟩
    · rename_i hn
      have hl : (c.kept ++ b).length ≤ 131072 := by rw [List.length_append]; omega
      have hok : Ok { c with kept := c.kept ++ b } := ⟨fun x hx => (List.mem_append.1 hx).elim (h.by_ x) (hb x), hl, h.rs_, h.blk_⟩
      obtain ⟨g1, g2⟩ := read_ok l 40000 (Nat.le_refl _) _ _ (Nat.le_refl _) hok
      have g3 : (read l { c with kept := c.kept ++ b }).send.length ≤ c.send.length + 40000 * ((c.kept ++ b).length + 1) := g2
      exact ⟨g1, by omega⟩
theorem new_ok (b : Int) (hb : 0 ≤ b ∧ b ≤ 65535) : Ok (new b) := ⟨(fun x hx => by cases hx), Nat.zero_le _, (fun r hr => by cases hr), hb⟩
theorem hello_len : hello.length ≤ 8000 := packs_len4 _ _ (by simp)
end Cn
set_option maxHeartbeats 8000000 in
set_option maxRecDepth 100000 in
theorem readc_.calls {W : World} {ok : Nat → Prop} {p tb bs : Nat} {c : Cn.St} {l : List Ps.Tn} (h : Cn.Cn W ok p tb c) (hf : ∀ k, W.heap.size ≤ k → ok k) (hc : Cn.Ok c) (hW : ∀ x ∈ l, Ps.TnWf x) (w0 : World) (hKt : ∀ w', Below w0.heap.size w0 w' → Sh.Ks w' ∧ Ps.Tb w' bs tb l) (hBW : Below w0.heap.size w0 W) (hok : ∀ k, ok k → w0.heap.size ≤ k) (hs : c.send.length + 40000 * (c.kept.length + 1) ≤ 8000000000000) :
  Calls Tryd.prog 27 #[.pointer (some ⟨p, 0, none⟩)] W fun e w' => e = .returned (.tuple #[]) ∧ Cn.Cn w' ok p tb (Cn.read l c) ∧ Cn.Fr W w' ok := by
 have HCN := Aside0.mk h
 have HF := Aside0.mk hf
 have HO := Aside0.mk hc
 have HW := Aside0.mk hW
 have HKT := Aside0.mk hKt
 have HBW := Aside0.mk hBW
 have HOK := Aside0.mk hok
 have HS := Aside0.mk hs
 have HS2 := Aside0.mk Pi.size31
 have HFR : Aside0 (Cn.Fr W W ok) := ⟨Cn.Fr.refl _ _⟩
 clear h hf hc hW hKt hBW hok hs
 go_enter Tryd.func27, Tryd.ntmps27
 go_wp2_with fail
 have HRD : Aside0 (Cn.read l c = Cn.read l c) := ⟨rfl⟩
 go_loopw [2] (fun _ wr => ∃ c', Aside0 (Cn.Cn wr ok p tb c') ∧ Aside0 (Cn.Ok c') ∧ Aside0 (Cn.read l c' = Cn.read l c) ∧ Aside0 (Cn.Fr W wr ok) ∧ Aside0 (c'.send.length + 40000 * (c'.kept.length + 1) ≤ 8000000000000)) (fun _ w => Cn.kl w p)
 case atStart => exact ⟨c, HCN, HO, HRD, HFR, HS⟩
 case round =>
  clear HCN HO HRD HFR HS
  obtain ⟨c', HCN, HO, HRD, HFR, HS⟩ := hrel
  have HKL : Aside0 (Cn.kl wr p = c'.kept.length) := ⟨HCN.out.kl⟩
  have HB : Aside0 (Below w0.heap.size w0 wr) := ⟨HFR.out.below HBW.out HBW.out.size HOK.out⟩
  have HRS := Aside0.mk (Cn.read_step l c' HO.out)
  have HSF := Aside0.mk (Cn.step_facts l c' HO.out)
  have HNX := Aside0.mk (Cn.next_ok l c' HO.out)
  go_wp2_with fail
  refine (stepc_.calls HCN.out (fun j hj => HF.out j (Nat.le_trans HFR.out.size hj)) HO.out (HKT.out wr HB.out).1 (HKT.out wr HB.out).2 HW.out (by have := HS.out; omega)).mono ?_
  rintro e w2 ⟨rfl, hc2, hf2⟩
  obtain ⟨n, er, c2, HST⟩ : ∃ n er c2, Aside0 (Cn.step l c' = (n, er, c2)) := ⟨_, _, _, ⟨rfl⟩⟩
  have HNS : Aside0 (Cn.nextSt l c' = { c2 with kept := c2.kept.drop n.toNat }) := ⟨by unfold Cn.nextSt; rw [HST.out]⟩
  rw [HST.out] at hc2 HRS HSF HNX ⊢
  rw [HNS.out] at HRS HNX
  simp only [] at hc2 HRS HSF HNX ⊢
  have HC2 := Aside0.mk hc2
  have HF2 := Aside0.mk (HFR.out.trans hf2)
  clear hc2 hf2
  by_cases h70 : er = 70
  ·subst h70
   go_wp2_with fail
   refine bodyPost_ret (results_none rfl _ _ _) rfl ?_
   rw [← HRD.out, HRS.out]
   first | rw [if_pos (Or.inl rfl)] | rw [if_pos (Or.inl trivial)]
   exact ⟨rfl, HC2.out, HF2.out⟩
  ·have e70 : (er == 70) = false := by simpa using h70
   have H70 := Aside0.mk h70
   clear h70
   by_cases h80 : er = 80
   ·subst h80
    go_wp2_with fail
    refine bodyPost_ret (results_none rfl _ _ _) rfl ?_
    rw [← HRD.out, HRS.out]
    first | rw [if_pos (Or.inr rfl)] | rw [if_pos (Or.inr trivial)]
    exact ⟨rfl, HC2.out, HF2.out⟩
   ·have e80 : (er == 80) = false := by simpa using h80
    have H80 := Aside0.mk h80
    clear h80
    by_cases h0 : er = 0
    ·have e0 : (er == 0) = true := by simpa using h0
     have H0 := Aside0.mk h0
     clear h0
     obtain ⟨pp, vk, vs, hv⟩ := HC2.out
     obtain ⟨A, cp, rfl⟩ := Kd.R_slice hv.kept
     obtain ⟨m, HM⟩ : ∃ m, Aside0 (c2.kept.length = m) := ⟨_, ⟨rfl⟩⟩
     have k3 := hv.blk.at_ 3 rfl
     have k5 := hv.blk.at_ 5 rfl
     rw [HM.out] at k3
     have HV := Aside0.mk hv
     clear hv
     by_cases h4 : c2.st = 4
     ·have e4 : (c2.st == 4) = true := by simpa using h4
      have H4 := Aside0.mk h4
      clear h4
      go_wp2_with fail
      refine bodyPost_ret (results_none rfl _ _ _) rfl ?_
      rw [← HRD.out, HRS.out, if_neg (fun h => h.elim H70.out H80.out), if_pos H0.out, if_pos H4.out]
      exact ⟨rfl, HC2.out, HF2.out⟩
     ·have e4 : (c2.st == 4) = false := by simpa using h4
      have H4 := Aside0.mk h4
      clear h4
      have HRR : Aside0 (Cn.read l { c2 with kept := c2.kept.drop n.toNat } = Cn.read l c) := ⟨by rw [← HRD.out, HRS.out, if_neg (fun h => h.elim H70.out H80.out), if_pos H0.out, if_neg H4.out]⟩
      have HNN := Aside0.mk (HNX.out H0.out H4.out)
      obtain ⟨nn, rfl⟩ := Int.eq_ofNat_of_zero_le HNN.out.2.2.2.1
      have hnm : nn ≤ m := by have := HNN.out.2.2.2.2; have := HM.out; omega
      have hmc : m ≤ cp := by rw [← HM.out]; exact (Kd.R_reads' HV.out.kept).2.1
      rw [Int.toNat_natCast] at HRR HNN
      obtain ⟨A', hcut, hcutC⟩ := Wk.cut_from_ (P := Tryd.prog) 23 5 .i64 Tryd.underlying23 (by kernel_rfl) .u8 A cp c2.kept (nn : Int) nn rfl (by rw [HM.out]; exact hnm) (by rw [HM.out]; exact hmc)
      have HCC := Aside0.mk hcutC
      rw [HM.out] at hcut
      have h1 := hcut w2
      have HNM := Aside0.mk (And.intro hnm hmc)
      have hnmI : (nn : Int) ≤ m := by omega
      clear hcutC hcut hnm hmc
      go_wp2_with fail
      clear h1 k3 k5 hnmI
      have HML : Aside0 (m ≤ 131072) := ⟨by
       rw [← HM.out]
       rcases HSF.out.2.2.2 with ⟨e, _⟩ | ⟨e, _⟩
       ·rw [e]; exact HO.out.len
       ·rw [e]; exact Nat.zero_le _⟩
      have hdl : (c2.kept.drop nn).length = m - nn := by rw [List.length_drop, HM.out]
      have hcl := clone_.calls A' (cp - nn) (c2.kept.drop nn) (c2.kept.drop nn) w2 (HCC.out w2 (Kd.R_reads' HV.out.kept).2.2) (by rw [hdl]; have := HNM.out; omega) (by unfold clone_.f; rw [if_pos (by rw [hdl]; have := HML.out; omega)])
      rw [hdl] at hcl
      refine hcl.mono ?_
      rintro e w3 ⟨v3, rfl, hR3, hb3⟩
      obtain ⟨A3, c3, hv3⟩ := Kd.R_slice hR3
      rw [hdl] at hv3
      subst hv3
      have HR3 := Aside0.mk hR3
      have HV3 := Aside0.mk (HV.out.below hb3)
      have HB3 := Aside0.mk hb3
      clear hR3 hb3 hcl
      go_wp2_with (refine Wk.store rfl rfl 23 (.tmp 31) (.tmp 29) rfl p 3 (.slice A3 (m - nn) c3) [.slice A3 (m - nn) c3] rfl rfl rfl 72 _ HV3.out.blk HS2.out (Nat.le_of_ble_eq_true rfl) rfl ?_; intro w4 hX hO; have HO4 := Aside0.mk hO; have HX4 := Aside0.mk hX; clear hX hO)
      have HV4 : Aside0 (Cn.Cv w4 ok p tb pp (.slice A3 (m - nn) c3) vs { c2 with kept := c2.kept.drop nn }) := ⟨by
       have hfr : ∀ b, (Value.slice A3 (m - nn) c3).ownBlock = some b → w2.heap.size ≤ b := fun b hb => ((Kd.R_bound HR3.out).1 b hb).2.1
       have hr : Kd.R (Kd.int .u8) 5 w3 0 (fun k => ok k ∧ some k ≠ vs.ownBlock) (.slice A3 (m - nn) c3) (c2.kept.drop nn) :=
        Kd.R_lower (Kd.R_mono (Kd.R_bound HR3.out) (fun k hk => HV.out.freshS (fun j hj => HF.out j (Nat.le_trans HF2.out.size hj)) k hk.2.1)) (Nat.zero_le _)
       exact HV.out.keeps hr (grown_of_below HB3.out _) (fun b hb => .inr (hfr b hb)) HO4.out HX4.out rfl rfl rfl⟩
      have HF4 := Aside0.mk ((HF2.out.trans (Cn.Fr.of_below HB3.out ok)).trans (Cn.Fr.of_only HO4.out HV.out.okp))
      have HS4 : Aside0 (({ c2 with kept := c2.kept.drop nn } : Cn.St).send.length + 40000 * (({ c2 with kept := c2.kept.drop nn } : Cn.St).kept.length + 1) ≤ 8000000000000) := ⟨by
       have g1 : (c2.kept.drop nn).length + 4 ≤ c'.kept.length := HNN.out.2.1
       have g2 : c2.send.length ≤ c'.send.length + 40000 := HNN.out.2.2.1
       have g3 := HS.out
       show c2.send.length + 40000 * ((c2.kept.drop nn).length + 1) ≤ 8000000000000
       omega⟩
      refine ⟨⟨_, ⟨⟨pp, _, vs, HV4.out⟩⟩, ⟨HNN.out.1⟩, HRR, HF4, HS4⟩, ?_⟩
      rw [HKL.out, HV4.out.kl]
      have g1 : (c2.kept.drop nn).length + 4 ≤ c'.kept.length := HNN.out.2.1
      show (c2.kept.drop nn).length < c'.kept.length
      omega
    ·have e0 : (er == 0) = false := by simpa using h0
     have H0 := Aside0.mk h0
     clear h0
     go_wp2_with fail
     refine (close_.calls HC2.out).mono ?_
     rintro e w3 ⟨rfl, hc3, hf3⟩
     have HC3 := Aside0.mk hc3
     have HF3 := Aside0.mk (HF2.out.trans hf3)
     clear hc3 hf3
     go_wp2_with fail
     refine bodyPost_ret (results_none rfl _ _ _) rfl ?_
     rw [← HRD.out, HRS.out, if_neg (fun h => h.elim H70.out H80.out), if_neg H0.out]
     exact ⟨rfl, HC3.out, HF3.out⟩
end Go.Proofs.YtgljicdpcapgnaaDoor
set_option linter.unusedVariables false
set_option linter.unusedSimpArgs false
namespace Go.Proofs.YtgljicdpcapgnaaDoor
open Go.RowKit Go.Proofs.YtgljicdpcapgnaaDoor.PBase Go.Proofs.YtgljicdpcapgnaaDoorW.PrintWords Go.Proofs.YtgljicdpcapgnaaDoorW.PrintLast Go.Proofs.YtgljicdpcapgnaaDoorW.PrintMore
namespace Cn
structure Ctx (w0 : World) (tb bs : Nat) (l : List Ps.Tn) : Prop where
  kt : ∀ w', Below w0.heap.size w0 w' → Sh.Ks w' ∧ Ps.Tb w' bs tb l
  wf : ∀ x ∈ l, Ps.TnWf x
end Cn
set_option maxHeartbeats 8000000 in
set_option maxRecDepth 100000 in
theorem feedc_.calls {W w0 : World} {ok : Nat → Prop} {p tb bs : Nat} {c : Cn.St} {l : List Ps.Tn} (hX : Cn.Ctx w0 tb bs l) (h : Cn.Cn W ok p tb c) (hf : ∀ k, W.heap.size ≤ k → ok k) (hc : Cn.Ok c) (hBW : Below w0.heap.size w0 W) (hok : ∀ k, ok k → w0.heap.size ≤ k) (hs : c.send.length ≤ 7000000000000) {A : Option Addr} {n cp : Nat} {b : List Int} (hb : Kd.C (Kd.int .u8) W A b.length b) (hn : b.length = n) (hcp : n ≤ cp) (hby : Sh.Bytes b) :
    Calls Tryd.prog 11 #[.pointer (some ⟨p, 0, none⟩), .slice A n cp] W fun e w' => e = .returned (.tuple #[]) ∧ Cn.Cn w' ok p tb (Cn.feed l c b) ∧ Cn.Fr W w' ok := by
  have HCN := Aside0.mk h
  obtain ⟨pp, vk, vs, hv⟩ := h
  obtain ⟨Ak, ck, rfl⟩ := Kd.R_slice hv.kept
  obtain ⟨m, HM⟩ : ∃ m, Aside0 (c.kept.length = m) := ⟨_, ⟨rfl⟩⟩
  have k3 := hv.blk.at_ 3 rfl
  have k5 := hv.blk.at_ 5 rfl
  rw [HM.out] at k3
  have HKM : Aside0 (Kd.R (Kd.int .u8) 5 W 0 (fun k => ok k ∧ some k ≠ vs.ownBlock) (.slice Ak m ck) c.kept) := ⟨by have := hv.kept; rwa [HM.out] at this⟩
  have HV := Aside0.mk hv
  have HX := Aside0.mk hX
  have HF := Aside0.mk hf
  have HO := Aside0.mk hc
  have HBW := Aside0.mk hBW
  have HOK := Aside0.mk hok
  have HS := Aside0.mk hs
  have HCB := Aside0.mk hb
  have HN := Aside0.mk hn
  have HCP := Aside0.mk hcp
  have HBY := Aside0.mk hby
  have HS2 := Aside0.mk Pi.size31
  have HML : Aside0 (m ≤ 131072) := ⟨by rw [← HM.out]; exact hc.len⟩
  clear hv hX hf hc hBW hok hs hb hn hcp hby
  go_enter Tryd.func11, Tryd.ntmps11
  by_cases h4 : c.st = 4
  · have e4 : (c.st == 4) = true := by simpa using h4
    have H4 := Aside0.mk h4
    clear h4
    go_wp2_with fail
    go_end0
    unfold Cn.feed
    rw [if_pos H4.out]
    exact ⟨rfl, HCN.out, Cn.Fr.refl _ _⟩
  · have e4 : (c.st == 4) = false := by simpa using h4
    have H4 := Aside0.mk h4
    clear h4
    by_cases hb1 : (n : Int) > 131072
    · have HB1 : Aside0 (131072 < n) := ⟨by omega⟩
      go_wp2_with fail
      clear k3 k5
      refine (close_.calls HCN.out).mono ?_
      rintro e w2 ⟨rfl, hc2, hf2⟩
      have HC2 := Aside0.mk hc2
      have HF2 := Aside0.mk hf2
      clear hc2 hf2
      go_wp2_with fail
      go_end0
      unfold Cn.feed
      rw [if_neg H4.out, if_pos (Or.inl (by rw [HN.out]; exact HB1.out))]
      exact ⟨rfl, HC2.out, HF2.out⟩
    · have hnI : (n : Int) ≤ 131072 := by omega
      have HNL : Aside0 (n ≤ 131072) := ⟨by omega⟩
      by_cases hb2 : (m : Int) > 131072 - (n : Int)
      · have HB2 : Aside0 (131072 < m + n) := ⟨by omega⟩
        go_wp2_with fail
        clear k3 k5
        refine (close_.calls HCN.out).mono ?_
        rintro e w2 ⟨rfl, hc2, hf2⟩
        have HC2 := Aside0.mk hc2
        have HF2 := Aside0.mk hf2
        clear hc2 hf2
        go_wp2_with fail
        go_end0
        unfold Cn.feed
        rw [if_neg H4.out, if_pos (Or.inr (by rw [HN.out, HM.out]; exact HB2.out))]
        exact ⟨rfl, HC2.out, HF2.out⟩
      · have HB2 : Aside0 (m + n ≤ 131072) := ⟨by omega⟩
        go_wp2_with (first
          | (at_builtin; refine Kd.R_append_rows (Kd.int .u8) (w0 := W) (W := W) 0 rfl (.tmp 8) (.tmp 9) 23 5 (.int .u8 0) 1 rfl Tryd.underlying23 Cn.infoByte rfl (by decide) (by omega) (.slice Ak m ck) c.kept b A n cp (fun k => ok k ∧ some k ≠ vs.ownBlock) (fun _ => False) rfl rfl HKM.out (by have := HCB.out; rw [HN.out] at this; exact this) (fun _ _ h => h) (fun _ h => h.elim) (HV.out.freshS HF.out) (Below.refl _ _) (Nat.zero_le _) (by rw [HM.out]; have := HB2.out; omega) ?_; intro v3 w3 hr3 _ hg3 hat3; obtain ⟨A3, c3, hv3⟩ := Kd.R_slice hr3; obtain ⟨L3, HL3⟩ : ∃ L, Aside0 ((c.kept ++ b).length = L) := ⟨_, ⟨rfl⟩⟩; rw [HL3.out] at hv3; subst hv3; have HR3 := Aside0.mk hr3; have HG3 := Aside0.mk hg3; have HA3 := Aside0.mk (Cn.hat_of hat3); have HX3 := Aside0.mk (HV.out.blk.grown hg3 (Kd.R_ne HKM.out HV.out.blk.out (by decide))); clear hr3 hg3 hat3 k3 k5)
          | (refine Wk.store rfl rfl 23 (.tmp 12) (.tmp 10) rfl p 3 (.slice A3 L3 c3) [.slice A3 L3 c3] rfl rfl rfl 72 _ HX3.out HS2.out (Nat.le_of_ble_eq_true rfl) rfl ?_; intro w4 hX hO; have HO4 := Aside0.mk hO; have HV4 : Aside0 (Cn.Cv w4 ok p tb pp (.slice A3 L3 c3) vs { c with kept := c.kept ++ b }) := ⟨HV.out.keeps HR3.out (by have := HG3.out; rwa [← HM.out] at this) (by have := HA3.out; rwa [← HM.out] at this) hO hX rfl rfl rfl⟩; clear hX hO))
        have HF4 : Aside0 (Cn.Fr W w4 ok) := ⟨(Cn.Fr.of_grown HG3.out (fun k hk => (HKM.out.1 k hk).1)).trans (Cn.Fr.of_only HO4.out HV.out.okp)⟩
        have HO5 : Aside0 (Cn.Ok { c with kept := c.kept ++ b }) := ⟨(fun x hx => (List.mem_append.1 hx).elim (HO.out.by_ x) (HBY.out x)), by show (c.kept ++ b).length ≤ _; rw [List.length_append, HM.out, HN.out]; exact HB2.out, HO.out.rs_, HO.out.blk_⟩
        have HL5 : Aside0 ((c.kept ++ b).length ≤ 131072) := ⟨by rw [List.length_append, HM.out, HN.out]; exact HB2.out⟩
        refine (readc_.calls (l := l) (bs := bs) ⟨pp, _, vs, HV4.out⟩ (fun j hj => HF.out j (Nat.le_trans HF4.out.size hj)) HO5.out HX.out.wf w0 HX.out.kt (HF4.out.below HBW.out HBW.out.size HOK.out) HOK.out (by
          have := HS.out
          have := HL5.out
          show c.send.length + 40000 * ((c.kept ++ b).length + 1) ≤ 8000000000000
          omega)).mono ?_
        rintro e w5 ⟨rfl, hc5, hf5⟩
        have HC5 := Aside0.mk hc5
        have HF5 := Aside0.mk (HF4.out.trans hf5)
        clear hc5 hf5
        go_wp2_with fail
        go_end0
        unfold Cn.feed
        rw [if_neg H4.out, if_neg (by rw [HN.out, HM.out]; have := HNL.out; have := HB2.out; omega)]
        exact ⟨rfl, HC5.out, HF5.out⟩
end Go.Proofs.YtgljicdpcapgnaaDoor
set_option linter.unusedVariables false
set_option linter.unusedSimpArgs false
namespace Go.Proofs.YtgljicdpcapgnaaDoor.Ps
open Go.RowKit Go.Proofs.YtgljicdpcapgnaaDoor.PBase Go.Proofs.YtgljicdpcapgnaaDoorW.PrintWords Go.Proofs.YtgljicdpcapgnaaDoorW.PrintLast Go.Proofs.YtgljicdpcapgnaaDoorW.PrintMore
def Dist (l : List Tn) : Prop := l.Pairwise (fun x y => x.f0 ≠ y.f0)
theorem find_none {l : List Tn} {id : Int} : find l id = none ↔ ∀ x ∈ l, x.f0 ≠ id := by
  unfold find
  rw [List.find?_eq_none]
  constructor
  · intro h x hx he
    exact h x hx (by simpa using he)
  · intro h x hx he
    exact h x hx (by simpa using he)
theorem good_iff : ∀ (l acc : List Tn), good acc l = true ↔ (∀ x ∈ l, 0 < x.f1.length) ∧ (∀ x ∈ l, find acc x.f0 = none) ∧ Dist l
  | [], acc => by simp [good, Dist]
  | x :: xs, acc => by
    rw [good]
    simp only [Bool.and_eq_true, Option.isNone_iff_eq_none, decide_eq_true_eq]
    rw [good_iff xs (acc ++ [x])]
    constructor
    · rintro ⟨⟨h1, h2⟩, h3, h4, h5⟩
      have h4' : ∀ y ∈ xs, y.f0 ≠ x.f0 ∧ find acc y.f0 = none := fun y hy => by
        have := h4 y hy
        rw [find_snoc acc x y.f0 h1] at this
        by_cases h : y.f0 = x.f0
        · rw [if_pos h] at this; cases this
        · rw [if_neg h] at this; exact ⟨h, this⟩
      refine ⟨?_, ?_, ?_⟩
      · intro y hy
        rcases List.mem_cons.1 hy with rfl | hy
        · exact h2
        · exact h3 y hy
      · intro y hy
        rcases List.mem_cons.1 hy with rfl | hy
        · exact h1
        · exact (h4' y hy).2
      · exact List.pairwise_cons.2 ⟨fun y hy he => (h4' y hy).1 he.symm, h5⟩
    · rintro ⟨h1, h2, h3⟩
      obtain ⟨h4, h5⟩ := List.pairwise_cons.1 h3
      have hx := h2 x List.mem_cons_self
      refine ⟨⟨hx, h1 x List.mem_cons_self⟩, fun y hy => h1 y (List.mem_cons_of_mem _ hy), fun y hy => ?_, h5⟩
      rw [find_snoc acc x y.f0 hx, if_neg (fun he => h4 y hy he.symm)]
      exact h2 y (List.mem_cons_of_mem _ hy)
theorem good_dist {l : List Tn} : good [] l = true ↔ (∀ x ∈ l, 0 < x.f1.length) ∧ Dist l := by
  rw [good_iff]
  constructor
  · exact fun h => ⟨h.1, h.2.2⟩
  · exact fun h => ⟨h.1, fun _ _ => rfl, h.2⟩
theorem find_of : ∀ {l : List Tn}, Dist l → ∀ {x : Tn}, x ∈ l → find l x.f0 = some x
  | [], _, x, h => by cases h
  | y :: ys, hd, x, h => by
    obtain ⟨h1, h2⟩ := List.pairwise_cons.1 hd
    unfold find
    rcases List.mem_cons.1 h with rfl | h
    · rw [List.find?_cons_of_pos (by simp)]
    · rw [List.find?_cons_of_neg (by simpa using h1 x h)]
      exact find_of h2 h
theorem verdict_cases (y : Tn) (b : List Int) : verdict y b = (zt, 52) ∨ verdict y b = (zt, 53) ∨ verdict y b = (zt, 54) ∨ verdict y b = (tok b, 0) := by
  unfold verdict
  split
  · exact .inl rfl
  · split
    · exact .inr (.inl rfl)
    · split
      · exact .inr (.inr (.inl rfl))
      · exact .inr (.inr (.inr rfl))
theorem verdict_51 (y : Tn) (b : List Int) : (verdict y b).2 ≠ 51 := by
  rcases verdict_cases y b with h | h | h | h <;> simp [h]
theorem apart {l : List Tn} (h : good [] l = true) {x : Tn} (hx : x ∈ l) (s : ByteArray) :
    ((check [x] s).2 = 51 ∧ ((check l s).2 ≠ 0 ∨ (check l s).1.1 ≠ x.f0)) ∨ ((check [x] s).2 ≠ 51 ∧ check [x] s = check l s) := by
  by_cases hi : is s = true
  · by_cases hid : (tok (got s)).1 = x.f0
    · have h1 : find [x] (tok (got s)).1 = some x := by rw [hid]; exact find_of (List.pairwise_singleton _ _) (List.mem_singleton.2 rfl)
      have h2 : find l (tok (got s)).1 = some x := by rw [hid]; exact find_of (good_dist.1 h).2 hx
      rw [check_some hi h1, check_some hi h2]
      exact .inr ⟨verdict_51 _ _, rfl⟩
    · have h1 : find [x] (tok (got s)).1 = none := find_none.2 fun y hy he => hid (by rw [List.mem_singleton.1 hy] at he; exact he.symm)
      rw [check_none hi h1]
      refine .inl ⟨rfl, ?_⟩
      cases h2 : find l (tok (got s)).1 with
      | none => rw [check_none hi h2]; exact .inl (by decide)
      | some y =>
        rw [check_some hi h2]
        rcases verdict_cases y (got s) with h | h | h | h <;> rw [h]
        · exact .inl (by decide)
        · exact .inl (by decide)
        · exact .inl (by decide)
        · exact .inr hid
  · rw [check_form hi, check_form hi]
    exact .inr ⟨by decide, rfl⟩
theorem infoTn : (Tryd.prog.info? 58).map (fun i => (i.zero, i.size, i.bytes)) = some (some (.agg z5.toArray), 5, 72) := by kernel_rfl
end Go.Proofs.YtgljicdpcapgnaaDoor.Ps
set_option linter.unusedVariables false
set_option linter.unusedSimpArgs false
namespace Go.Proofs.YtgljicdpcapgnaaDoor.Ps
open Go.RowKit Go.Proofs.YtgljicdpcapgnaaDoor.PBase Go.Proofs.YtgljicdpcapgnaaDoorW.PrintWords Go.Proofs.YtgljicdpcapgnaaDoorW.PrintLast Go.Proofs.YtgljicdpcapgnaaDoorW.PrintMore
theorem row_cells {W : World} {A : Option Addr} {n : Nat} {xs : List Tn} (h : kTn.C W A n xs) (hn : xs.length = n) (k : Nat) (hk : k < xs.length) : ∃ ad A0 c0 A1 c1, A = some ad ∧ xs[k].f1.length ≤ c0 ∧ xs[k].f4.length ≤ c1 ∧ Kd.C (Kd.int .u8) W A0 xs[k].f1.length xs[k].f1 ∧ Kd.C (Kd.int .u32) W A1 xs[k].f4.length xs[k].f4 ∧
    ∀ w', Below W.heap.size W w' → (Instr.loadAt 58 (.pointer (some (ad.add (k * 5))))).run Tryd.prog w' = .ok (.agg (tnc xs[k] A0 c0 A1 c1).toArray) w' ∧ w'.cell? (ad.add (k * 5)) = some (.int .u32 xs[k].f0) ∧ w'.cell? ⟨(ad.add (k * 5)).block, (ad.add (k * 5)).off + 1, none⟩ = some (.slice A0 xs[k].f1.length c0) := by
  obtain ⟨ad, A0, c0, A1, c1, hA, hl, hc, l0, l1, g0, g1⟩ := row_get h k hk hn
  refine ⟨ad, A0, c0, A1, c1, hA, l0, l1, g0, g1, fun w' hb => ⟨hl w' hb, ?_, ?_⟩⟩
  · have := hc 0 _ rfl
    exact (hb.cell (World.block_lt_of_cell? W _ this)).trans this
  · have := hc 1 _ rfl
    rw [add_field _ _ 1 (by omega)] at this
    exact (hb.cell (World.block_lt_of_cell? W _ this)).trans this
end Go.Proofs.YtgljicdpcapgnaaDoor.Ps
set_option linter.unusedVariables false
set_option linter.unusedSimpArgs false
namespace Go.Proofs.YtgljicdpcapgnaaDoor
open Go.RowKit Go.Proofs.YtgljicdpcapgnaaDoor.PBase Go.Proofs.YtgljicdpcapgnaaDoorW.PrintWords Go.Proofs.YtgljicdpcapgnaaDoorW.PrintLast Go.Proofs.YtgljicdpcapgnaaDoorW.PrintMore
namespace Ps
theorem find_at {l : List Tn} {id : Int} {k : Nat} (h : ∀ y ∈ l.take k, y.f0 ≠ id) (hk : k < l.length) (he : l[k].f0 = id) : find l id = some l[k] := by
  obtain ⟨x, hx⟩ : ∃ x, l[k] = x := ⟨_, rfl⟩
  have e : l = l.take k ++ x :: l.drop (k + 1) := by rw [← hx, ← List.drop_eq_getElem_cons hk, List.take_append_drop]
  have h1 : List.find? (fun y : Tn => y.f0 == id) (l.take k) = none := by
    rw [List.find?_eq_none]
    intro y hy hh
    exact h y hy (by simpa using hh)
  rw [hx] at he ⊢
  have h2 : find l id = find (l.take k ++ x :: l.drop (k + 1)) id := by rw [← e]
  rw [h2]
  unfold find
  rw [List.find?_append, h1, Option.none_or, List.find?_cons_of_pos (by simpa using he)]
theorem sizeTr : (Tryd.prog.info? 91).map (·.size) = some 1 := by kernel_rfl
end Ps
set_option maxHeartbeats 4000000 in
set_option maxRecDepth 100000 in
theorem reftenant_.calls (p base : Nat) (l : List Ps.Tn) (id : Int) (w : World) (hT : Ps.Tr w base p l) (hl70 : l.length ≤ 70) (hW : ∀ x ∈ l, Ps.TnWf x) :
    Calls Tryd.prog 37 #[.pointer (some ⟨p, 0, none⟩), .int .u32 id] w (Ps.TenPost w l id) := by
  obtain ⟨A, c, _, hlc, hP, hF⟩ := hT
  have HC := Aside0.mk (Kd.F_now hF)
  have HSZ := Aside0.mk Ps.sizeTn
  have HW := Aside0.mk hW
  obtain ⟨n, HN⟩ : ∃ n, Aside0 (l.length = n) := ⟨_, ⟨rfl⟩⟩
  rw [HN.out] at hlc hl70 hP
  have HP := Aside0.mk hP
  have HLC := Aside0.mk hlc
  clear hF hW hP hlc
  have HA : Aside0 (Below w.heap.size w (w.alloc (.cells Ps.z5.toArray 58))) := ⟨below_alloc (Below.refl _ _) _⟩
  have HX : Aside0 (Wk.Blk (w.alloc (.cells Ps.z5.toArray 58)) w.heap.size 58 Ps.z5) := ⟨Wk.Blk.new w _ Ps.z5⟩
  have H0 : Aside0 (∀ y ∈ l.take 0, y.f0 ≠ id) := ⟨fun y hy => by simp at hy⟩
  go_enter Tryd.func37, Tryd.ntmps37
  go_wp2_with fail
  go_loopw [6] (fun v6 wr => ∃ k : Nat, v6 = .int .i64 k ∧ k ≤ n ∧ Aside0 (∀ y ∈ l.take k, y.f0 ≠ id) ∧ Aside0 (Below w.heap.size w wr) ∧ Aside0 (Wk.Blk wr w.heap.size 58 Ps.z5)) (fun v _ => n - (intOf v).toNat)
  case atStart => exact ⟨0, rfl, Nat.zero_le _, H0, HA, HX⟩
  case round =>
    clear H0 HA HX
    obtain ⟨k, rfl, hk, HNO, HB, HX⟩ := hrel
    have p0 := (HP.out.below_ HB.out).at_ 0 rfl
    by_cases hlt : k < n
    · have hltI : (k : Int) < n := by omega
      have hki : k < l.length := by rw [HN.out]; exact hlt
      obtain ⟨ad, B0, d0, B1, d1, hA, hl0, hl1, hg0, hg1, hrow⟩ := Ps.row_cells HC.out rfl k hki
      subst hA
      have HTK := Aside0.mk (List.take_succ_eq_append_getElem hki)
      have HXM := Aside0.mk (List.getElem_mem hki)
      have HFA : Aside0 (l[k].f0 = id → Ps.find l id = some l[k]) := ⟨fun he => Ps.find_at HNO.out hki he⟩
      obtain ⟨x, HXK⟩ : ∃ x, Aside0 (l[k] = x) := ⟨_, ⟨rfl⟩⟩
      rw [HXK.out] at hrow hl0 hl1 hg0 hg1 HTK HXM HFA
      have hwx := HW.out x HXM.out
      obtain ⟨i, l0, q, s, l1⟩ := x
      obtain ⟨_, hm0, hm1, -⟩ := hwx
      change l0.length ≤ 1000 at hm0
      change l1.length ≤ 1000 at hm1
      obtain ⟨n0, HN0⟩ : ∃ i, Aside0 (l0.length = i) := ⟨_, ⟨rfl⟩⟩
      obtain ⟨n1, HN1⟩ : ∃ i, Aside0 (l1.length = i) := ⟨_, ⟨rfl⟩⟩
      simp only [Ps.tnc] at hrow hl0 hl1
      have HG0 : Aside0 (Kd.C (Kd.int .u8) w B0 l0.length l0) := ⟨hg0⟩
      have HG1 : Aside0 (Kd.C (Kd.int .u32) w B1 l1.length l1) := ⟨hg1⟩
      rw [HN0.out, HN1.out] at hrow
      rw [HN0.out] at hm0 hl0
      rw [HN1.out] at hm1 hl1
      have HROW : Aside0 (∀ w', Below w.heap.size w w' → (Instr.loadAt 58 (.pointer (some (ad.add (k * 5))))).run Tryd.prog w' = .ok (.agg (Ps.tv i q s (.slice B0 n0 d0) (.slice B1 n1 d1)).toArray) w' ∧ w'.cell? (ad.add (k * 5)) = some (.int .u32 i)) := ⟨fun w' hb => ⟨(hrow w' hb).1, (hrow w' hb).2.1⟩⟩
      clear hrow hg0 hg1 HXK
      have cc1 := (HROW.out wr HB.out).2
      by_cases hid : i = id
      · have HFI := Aside0.mk (HFA.out hid)
        have hidb : (i == id) = true := by simpa using hid
        have HRN := Aside0.mk (HROW.out wr HB.out).1
        clear HFA hid HNO
        have HIU := Aside0.mk Cl.infoByte
        have HIV := Aside0.mk Cl32.infoByte
        have HS1 := Aside0.mk Ps.sizeSl
        have HS2 := Aside0.mk Ps.sizeSm
        have HAL : Aside0 ((([] : List Int).length + n0) * 1 ≤ 140737488355328 ∧ (([] : List Int).length + n1) * 4 ≤ 140737488355328) := ⟨by simp only [List.length_nil]; omega⟩
        go_wp2_with (first
          | refine Wk.load rfl 58 (.tmp 34) rfl _ (.pointer (some (ad.add (k * 5)))) rfl HRN.out ?_
          | (refine Wk.store_all rfl rfl 58 (.tmp 7) (.tmp 35) rfl wr.heap.size (Ps.tv i q s (.slice B0 n0 d0) (.slice B1 n1 d1)) rfl rfl 58 Ps.z5 (Wk.Blk.new wr 58 Ps.z5) HSZ.out rfl rfl ?_; intro w1 hX hO; have HF1 := Aside0.mk (Wk.Only.fresh HB.out HB.out.size hO); have HY1 := Aside0.mk hX; have HX1 := Aside0.mk (HX.out.below_ HF1.out.2.2); have HC10 := Aside0.mk (Kd.C_below HG0.out HF1.out.2.1); have HC11 := Aside0.mk (Kd.C_below HG1.out HF1.out.2.1); have k1 := hX.at_ 1 rfl; clear hX hO)
          | (at_builtin; refine Kd.R_append_rows (Kd.int .u8) (w0 := w) (W := w1) w.heap.size rfl (.tmp 36) (.tmp 38) 23 5 (.int .u8 0) 1 rfl Tryd.underlying23 HIU.out rfl (by decide) (by omega) (.slice none 0 0) ([] : List Int) l0 B0 n0 d0 (fun _ => True) (fun _ => False) rfl rfl (Kd.R_nil _ _ _ _ _) (by rw [← HN0.out]; exact HC10.out) (fun _ _ h => h) (fun _ h => h.elim) (fun _ _ => trivial) HF1.out.2.1 HF1.out.2.1.size HAL.out.1 ?_; intro v2 w2 ho hb hg _; rw [List.nil_append] at ho; obtain ⟨A2, e2, rfl⟩ := Kd.R_slice ho; rw [HN0.out] at ho ⊢; have HR2 := Aside0.mk ho; have HB2 := Aside0.mk hb; have hbw : Below w1.heap.size w1 w2 := ⟨hg.os, hg.tape, hg.output, hg.size, fun kk hkk => hg.block kk hkk (by simp [Value.ownBlock])⟩; have HX2 := Aside0.mk (HX1.out.below_ hbw); have HY2 := Aside0.mk (HY1.out.below_ hbw); have HC21 := Aside0.mk (Kd.C_below HC11.out hbw); have k4 := HY2.out.at_ 4 rfl; clear ho hb hg hbw k1)
          | (at_builtin; refine Kd.R_append_rows (Kd.int .u32) (w0 := w) (W := w2) w.heap.size rfl (.tmp 40) (.tmp 42) 22 33 (.int .u32 0) 4 rfl Tryd.underlying22 HIV.out rfl (by decide) (by omega) (.slice none 0 0) ([] : List Int) l1 B1 n1 d1 (fun _ => True) (fun _ => False) rfl rfl (Kd.R_nil _ _ _ _ _) (by rw [← HN1.out]; exact HC21.out) (fun _ _ h => h) (fun _ h => h.elim) (fun _ _ => trivial) HB2.out HB2.out.size HAL.out.2 ?_; intro v3 w3 ho hb hg _; rw [List.nil_append] at ho; obtain ⟨A3, e3, rfl⟩ := Kd.R_slice ho; rw [HN1.out] at ho ⊢; have HR3 := Aside0.mk ho; have HB3 := Aside0.mk hb; have hbw : Below w2.heap.size w2 w3 := ⟨hg.os, hg.tape, hg.output, hg.size, fun kk hkk => hg.block kk hkk (by simp [Value.ownBlock])⟩; have HX3 := Aside0.mk (HX2.out.below_ hbw); have HY3 := Aside0.mk (HY2.out.below_ hbw); have HU3 := Aside0.mk (Kd.R_below HR2.out hbw); clear ho hb hg hbw k4)
          | (refine Wk.store rfl rfl 23 (.tmp 45) (.tmp 44) rfl wr.heap.size 1 (.slice A2 n0 e2) [.slice A2 n0 e2] rfl rfl rfl 58 _ HY3.out HS1.out (Nat.le_of_ble_eq_true rfl) rfl ?_; intro w4 hX hO; have HY4 := Aside0.mk (show Wk.Blk w4 wr.heap.size 58 (Ps.tv i q s (.slice A2 n0 e2) (.slice B1 n1 d1)) from hX); have HO4 := Aside0.mk hO; clear hX hO)
          | (refine Wk.store rfl rfl 22 (.tmp 47) (.tmp 46) rfl wr.heap.size 4 (.slice A3 n1 e3) [.slice A3 n1 e3] rfl rfl rfl 58 _ HY4.out HS2.out (Nat.le_of_ble_eq_true rfl) rfl ?_; intro w5 hX hO; have HY5 := Aside0.mk (show Wk.Blk w5 wr.heap.size 58 (Ps.tv i q s (.slice A2 n0 e2) (.slice A3 n1 e3)) from hX); have HO5 := Aside0.mk hO; have HNE : Aside0 (w.heap.size ≠ wr.heap.size) := ⟨by have := HX.out.lt; omega⟩; have HX5 := Aside0.mk ((HX3.out.only HO4.out HNE.out).only hO HNE.out); clear hX hO)
          | refine Wk.load rfl 58 (.tmp 7) rfl (.agg (Ps.tv i q s (.slice A2 n0 e2) (.slice A3 n1 e3)).toArray) (.pointer (some ⟨wr.heap.size, 0, none⟩)) rfl (Wk.run_load_blk 58 wr.heap.size 0 _ _ HY5.out rfl Tryd.underlying58 rfl HSZ.out) ?_
          | (refine Wk.store_all rfl rfl 58 (.tmp 4) (.tmp 48) rfl w.heap.size (Ps.tv i q s (.slice A2 n0 e2) (.slice A3 n1 e3)) rfl rfl 58 _ HX5.out HSZ.out rfl rfl ?_; intro w6 hX hO; have HX6 := Aside0.mk hX; have HO6 := Aside0.mk hO; clear hX hO))
        refine bodyPost_ret (Wk.res_ct rfl _ w.heap.size 58 _ _ rfl HX6.out Tryd.underlying58 rfl HSZ.out) rfl ?_
        have hne : ∀ q, q ∈ 5 :: (Kd.int .u8).E → q ≠ 58 := by decide
        have hne' : ∀ q, q ∈ 33 :: (Kd.int .u32).E → q ≠ 58 := by decide
        have hb4 := Wk.Only.below HB3.out HO4.out HB.out.size
        have hb5 := Wk.Only.below hb4 HO5.out HB.out.size
        have hR := Wk.R_only (Wk.R_only (Wk.R_only HU3.out HY3.out hne HO4.out) HY4.out hne HO5.out) HX5.out hne HO6.out
        have hR' := Wk.R_only (Wk.R_only (Wk.R_only HR3.out HY3.out hne' HO4.out) HY4.out hne' HO5.out) HX5.out hne' HO6.out
        have c2' : n0 ≤ e2 := (Kd.R_reads' hR).2.1
        have c3' : n1 ≤ e3 := (Kd.R_reads' hR').2.1
        unfold Ps.TenPost
        rw [HFI.out]
        simp only [Option.getD_some, Option.isSome_some]
        refine ⟨Wk.Only.below hb5 HO6.out (Nat.le_refl _), A2, e2, A3, e3, ?_, ?_, ?_, ?_, ?_⟩
        · simp only [Ps.tnc]; rw [HN0.out, HN1.out]; rfl
        · rw [HN0.out]; exact c2'
        · rw [HN1.out]; exact c3'
        · rw [HN0.out]; exact hR
        · rw [HN1.out]; exact hR'
      · have hidb : (i == id) = false := by simpa using hid
        clear HFA
        go_wp2_with fail
        refine ⟨⟨k + 1, by simp, by omega, ⟨?_⟩, HB, HX⟩, by simp [intOf]; omega⟩
        intro y hy
        rw [HTK.out] at hy
        rcases List.mem_append.1 hy with h | h
        · exact HNO.out y h
        · rw [List.mem_singleton.1 h]; exact hid
    · obtain rfl : k = n := by omega
      have HFN : Aside0 (Ps.find l id = none) := ⟨Ps.find_none.2 (by
        have := HNO.out
        rwa [List.take_of_length_le (by rw [HN.out]; exact Nat.le_refl _)] at this)⟩
      go_wp2_with (refine Wk.store_all rfl rfl 58 (.tmp 4) (.tmp 49) rfl w.heap.size Ps.z5 rfl rfl 58 _ HX.out HSZ.out rfl rfl ?_; intro w4 hX hO; have HX4 := Aside0.mk hX; have HO4 := Aside0.mk hO; clear hX hO)
      refine bodyPost_ret (Wk.res_ct rfl _ w.heap.size 58 _ _ rfl HX4.out Tryd.underlying58 rfl HSZ.out) rfl ?_
      unfold Ps.TenPost
      rw [HFN.out]
      exact ⟨Wk.Only.below HB.out HO4.out (Nat.le_refl _), none, 0, none, 0, rfl, Nat.le_refl _, Nat.le_refl _, Kd.R_nil _ _ _ _ _, Kd.R_nil _ _ _ _ _⟩
end Go.Proofs.YtgljicdpcapgnaaDoor
set_option linter.unusedVariables false
set_option linter.unusedSimpArgs false
namespace Go.Proofs.YtgljicdpcapgnaaDoor
open Go.RowKit Go.Proofs.YtgljicdpcapgnaaDoor.PBase Go.Proofs.YtgljicdpcapgnaaDoorW.PrintWords Go.Proofs.YtgljicdpcapgnaaDoorW.PrintLast Go.Proofs.YtgljicdpcapgnaaDoorW.PrintMore
namespace Ps
def Rt (W : World) (base p : Nat) (l : List Tn) : Prop := ∃ A c, base ≤ p ∧ Wk.Blk W p 91 [.slice A l.length c] ∧ Kd.R kTn 58 W base (fun _ => True) (.slice A l.length c) l
theorem Rt.tr {W : World} {base p : Nat} {l : List Tn} (h : Rt W base p l) : Tr W base p l := by
  obtain ⟨A, c, h1, h2, h3⟩ := h
  exact ⟨A, c, h1, (Kd.R_reads' h3).2.1, h2, Kd.F_mono (Kd.R_F (Kd.R_bound h3)) (fun k hk => hk.2.1)⟩
theorem Rt.below {W W' : World} {base p : Nat} {l : List Tn} (h : Rt W base p l) (hb : Below W.heap.size W W') : Rt W' base p l := by
  obtain ⟨A, c, h1, h2, h3⟩ := h
  exact ⟨A, c, h1, h2.below_ hb, Kd.R_below h3 hb⟩
def RNewPost (w : World) (n : Nat) (l : List Tn) (e : Ending) (w' : World) : Prop :=
  Below w.heap.size w w' ∧ ((64 < n ∧ e = .returned (.tuple #[.pointer none, .int .i64 3])) ∨ (n ≤ 64 ∧ good [] l = false ∧ e = .returned (.tuple #[.pointer none, .int .i64 1])) ∨ (n ≤ 64 ∧ good [] l = true ∧ ∃ p, e = .returned (.tuple #[.pointer (some ⟨p, 0, none⟩), .int .i64 0]) ∧ Tr w' w.heap.size p l))
theorem sizeTs : (Tryd.prog.info? 37).map (·.size) = some 1 := by kernel_rfl
theorem kTn_ne : ∀ q, q ∈ 58 :: kTn.E → q ≠ 91 := by decide
end Ps
set_option maxHeartbeats 4000000 in
set_option maxRecDepth 100000 in
theorem refnew_.calls (A : Option Addr) (n c : Nat) (l : List Ps.Tn) (w : World) (hC : Ps.kTn.C w A l.length l) (hn : l.length = n) (hw : ∀ x ∈ l, Ps.TnWf x) :
    Calls Tryd.prog 23 #[.slice A n c] w (Ps.RNewPost w n l) := by
  have HC := Aside0.mk hC
  have HN := Aside0.mk hn
  have HW := Aside0.mk hw
  clear hC hn hw
  have HSZ := Aside0.mk Ps.sizeTn
  have HST := Aside0.mk Ps.sizeTr
  have HTS := Aside0.mk Ps.sizeTs
  go_enter Tryd.func23, Tryd.ntmps23
  by_cases h64 : 64 < n
  · go_wp2_with fail
    go_ret2
    exact ⟨Below.refl _ _, .inl ⟨h64, rfl⟩⟩
  · have h64I : (n : Int) ≤ 64 := by omega
    go_wp2_with fail
    obtain ⟨pt, HPT⟩ : ∃ b, Aside0 (w.heap.size = b) := ⟨_, ⟨rfl⟩⟩
    generalize hWq : World.alloc w _ = W0
    have HB0 : Aside0 (Below w.heap.size w W0) := ⟨by rw [← hWq]; exact below_alloc (Below.refl _ _) _⟩
    have HR0 : Aside0 (Ps.Rt W0 w.heap.size pt []) := ⟨by
      rw [← HPT.out]
      exact ⟨none, 0, Nat.le_refl _, by rw [← hWq]; exact Wk.Blk.new w _ [.slice none 0 0], Kd.R_nil _ _ _ _ _⟩⟩
    clear hWq
    rw [HPT.out]
    go_loopw [5] (fun v wr => ∃ k : Nat, v = .int .i64 k ∧ k ≤ n ∧ Aside0 (Ps.Rt wr w.heap.size pt (l.take k)) ∧ Aside0 (Below w.heap.size w wr) ∧ Aside0 (Ps.good (l.take k) (l.drop k) = Ps.good [] l)) (fun v _ => n - (intOf v).toNat)
    case atStart => exact ⟨0, rfl, Nat.zero_le _, HR0, HB0, ⟨rfl⟩⟩
    case round =>
      clear HR0 HB0
      obtain ⟨k, rfl, hk, HT, HB, HG⟩ := hrel
      by_cases hlt : k < n
      · have hltI : (k : Int) < n := by omega
        have hki : k < l.length := by rw [HN.out]; exact hlt
        obtain ⟨ad, B0, d0, B1, d1, hA, hl0, hl1, hg0, hg1, hrow⟩ := Ps.row_cells HC.out rfl k hki
        subst hA
        have HTK := Aside0.mk (List.take_succ_eq_append_getElem hki)
        have HDK := Aside0.mk (List.drop_eq_getElem_cons hki)
        have hwx := HW.out _ (List.getElem_mem hki)
        obtain ⟨x, HXK⟩ : ∃ x, Aside0 (l[k] = x) := ⟨_, ⟨rfl⟩⟩
        rw [HXK.out] at hrow hl0 hl1 hg0 hg1 HTK HDK hwx
        obtain ⟨i, l0, q, s, l1⟩ := x
        obtain ⟨_, hm0, hm1, -⟩ := hwx
        change l0.length ≤ 1000 at hm0
        change l1.length ≤ 1000 at hm1
        obtain ⟨n0, HN0⟩ : ∃ i, Aside0 (l0.length = i) := ⟨_, ⟨rfl⟩⟩
        obtain ⟨n1, HN1⟩ : ∃ i, Aside0 (l1.length = i) := ⟨_, ⟨rfl⟩⟩
        simp only [Ps.tnc] at hrow hl0 hl1
        have HG0 : Aside0 (Kd.C (Kd.int .u8) w B0 l0.length l0) := ⟨hg0⟩
        have HG1 : Aside0 (Kd.C (Kd.int .u32) w B1 l1.length l1) := ⟨hg1⟩
        rw [HN0.out, HN1.out] at hrow
        rw [HN0.out] at hm0 hl0
        rw [HN1.out] at hm1 hl1
        have HROW : Aside0 (∀ w', Below w.heap.size w w' → (Instr.loadAt 58 (.pointer (some (ad.add (k * 5))))).run Tryd.prog w' = .ok (.agg (Ps.tv i q s (.slice B0 n0 d0) (.slice B1 n1 d1)).toArray) w' ∧ w'.cell? (ad.add (k * 5)) = some (.int .u32 i) ∧ w'.cell? ⟨(ad.add (k * 5)).block, (ad.add (k * 5)).off + 1, none⟩ = some (.slice B0 n0 d0)) := ⟨fun w' hb => hrow w' hb⟩
        have HLK : Aside0 ((l.take k).length = k) := ⟨by rw [List.length_take]; omega⟩
        clear hrow hg0 hg1 HXK
        have cc0 := (HROW.out wr HB.out).2.1
        go_wp2_with fail
        clear cc0
        refine (reftenant_.calls pt w.heap.size (l.take k) i wr HT.out.tr (by rw [HLK.out]; omega) (fun x hx => HW.out x (List.mem_of_mem_take hx))).mono ?_
        rintro e w4 ⟨hb4, Z0, z0, Z1, z1, rfl, -⟩
        generalize (Ps.find (l.take k) i).getD Ps.zn = y
        obtain ⟨yi, yl, yq, ys, ym⟩ := y
        simp only [Ps.tnc]
        generalize yl.length = yn
        generalize ym.length = yz
        have HB4 := Aside0.mk (below_then HB.out HB.out.size hb4)
        have HT4 := Aside0.mk (HT.out.below hb4)
        obtain ⟨fd, HFD⟩ : ∃ b, Aside0 ((Ps.find (l.take k) i).isSome = b) := ⟨_, ⟨rfl⟩⟩
        rw [HFD.out]
        clear hb4 HT HB
        have HB5 : Aside0 (Below w.heap.size w (w4.alloc (.cells #[.int .u32 yi, .slice Z0 yn z0, .int .u64 yq, .int .u64 ys, .slice Z1 yz z1] 58))) := ⟨HB4.out.alloc HB4.out.size _⟩
        have HT5 : Aside0 (Ps.Rt (w4.alloc (.cells #[.int .u32 yi, .slice Z0 yn z0, .int .u64 yq, .int .u64 ys, .slice Z1 yz z1] 58)) w.heap.size pt (l.take k)) := ⟨HT4.out.below (below_alloc (Below.refl _ _) _)⟩
        have cc1 := (HROW.out _ HB5.out).2.2
        cases fd with
        | true =>
          go_wp2_with fail
          go_ret2
          refine ⟨HB5.out, .inr (.inl ⟨by omega, ?_, rfl⟩)⟩
          rw [← HG.out, HDK.out]
          obtain ⟨y, hy⟩ := Option.isSome_iff_exists.1 HFD.out
          exact Ps.good_there _ _ _ hy
        | false =>
          have HFN : Aside0 (Ps.find (l.take k) i = none) := ⟨by
            have := HFD.out
            cases h : Ps.find (l.take k) i with
            | none => rfl
            | some y => rw [h] at this; cases this⟩
          by_cases hz : n0 = 0
          · have hzI : ((n0 : Int) == 0) = true := by simpa using hz
            go_wp2_with fail
            go_ret2
            refine ⟨HB5.out, .inr (.inl ⟨by omega, ?_, rfl⟩)⟩
            rw [← HG.out, HDK.out]
            exact Ps.good_bare _ _ _ (by show l0.length = 0; rw [HN0.out]; exact hz)
          · have hzI : ((n0 : Int) == 0) = false := by simpa using hz
            clear cc1 HB5 HT5
            have HIU := Aside0.mk Cl.infoByte
            have HIV := Aside0.mk Cl32.infoByte
            have HS1 := Aside0.mk Ps.sizeSl
            have HS2 := Aside0.mk Ps.sizeSm
            have HAL : Aside0 ((([] : List Int).length + n0) * 1 ≤ 140737488355328 ∧ (([] : List Int).length + n1) * 4 ≤ 140737488355328) := ⟨by simp only [List.length_nil]; omega⟩
            go_wp2_with (first
              | (refine Wk.store_all rfl rfl 58 (.tmp 6) (.tmp 30) rfl w4.heap.size [.int .u32 yi, .slice Z0 yn z0, .int .u64 yq, .int .u64 ys, .slice Z1 yz z1] rfl rfl 58 Ps.z5 (Wk.Blk.new w4 58 Ps.z5) HSZ.out rfl rfl ?_; intro w6 hX hO; have HF6 := Aside0.mk (Wk.Only.fresh HB4.out HB4.out.size hO); have HT6 := Aside0.mk (HT4.out.below HF6.out.2.2); have cc1 := (HROW.out w6 HF6.out.2.1).2.2; have HRN6 := Aside0.mk (HROW.out w6 HF6.out.2.1).1; clear hX hO)
              | refine Wk.load rfl 58 (.tmp 44) rfl _ (.pointer (some (ad.add (k * 5)))) rfl HRN6.out ?_
              | (refine Wk.store_all rfl rfl 58 (.tmp 8) (.tmp 45) rfl w6.heap.size (Ps.tv i q s (.slice B0 n0 d0) (.slice B1 n1 d1)) rfl rfl 58 Ps.z5 (Wk.Blk.new w6 58 Ps.z5) HSZ.out rfl rfl ?_; intro w1 hX hO; have HF1 := Aside0.mk (Wk.Only.fresh HF6.out.2.1 HF6.out.2.1.size hO); have HY1 := Aside0.mk hX; have HT1 := Aside0.mk (HT6.out.below HF1.out.2.2); have HC10 := Aside0.mk (Kd.C_below HG0.out HF1.out.2.1); have HC11 := Aside0.mk (Kd.C_below HG1.out HF1.out.2.1); have k1 := hX.at_ 1 rfl; obtain ⟨g8, HG8⟩ : ∃ b, Aside0 (w6.heap.size = b) := ⟨_, ⟨rfl⟩⟩; rw [HG8.out] at HY1 k1 ⊢; clear hX hO cc1)
              | (at_builtin; refine Kd.R_append_rows (Kd.int .u8) (w0 := w1) (W := w1) w1.heap.size rfl (.tmp 46) (.tmp 48) 23 5 (.int .u8 0) 1 rfl Tryd.underlying23 HIU.out rfl (by decide) (by omega) (.slice none 0 0) ([] : List Int) l0 B0 n0 d0 (fun _ => True) (fun _ => False) rfl rfl (Kd.R_nil _ _ _ _ _) (by rw [← HN0.out]; exact HC10.out) (fun _ _ h => h) (fun _ h => h.elim) (fun _ _ => trivial) (Below.refl _ _) (Nat.le_refl _) HAL.out.1 ?_; intro v2 w2 ho hb hg _; rw [List.nil_append] at ho; obtain ⟨A2, e2, rfl⟩ := Kd.R_slice ho; rw [HN0.out] at ho ⊢; have HR2 := Aside0.mk ho; have HB2 := Aside0.mk hb; have HY2 := Aside0.mk (HY1.out.below_ hb); have HC21 := Aside0.mk (Kd.C_below HC11.out hb); have k4 := HY2.out.at_ 4 rfl; clear ho hb hg k1)
              | (at_builtin; refine Kd.R_append_rows (Kd.int .u32) (w0 := w1) (W := w2) w1.heap.size rfl (.tmp 50) (.tmp 52) 22 33 (.int .u32 0) 4 rfl Tryd.underlying22 HIV.out rfl (by decide) (by omega) (.slice none 0 0) ([] : List Int) l1 B1 n1 d1 (fun _ => True) (fun _ => False) rfl rfl (Kd.R_nil _ _ _ _ _) (by rw [← HN1.out]; exact HC21.out) (fun _ _ h => h) (fun _ h => h.elim) (fun _ _ => trivial) HB2.out HB2.out.size HAL.out.2 ?_; intro v3 w3 ho hb hg _; rw [List.nil_append] at ho; obtain ⟨A3, e3, rfl⟩ := Kd.R_slice ho; rw [HN1.out] at ho ⊢; have HR3 := Aside0.mk ho; have HB3 := Aside0.mk hb; have hbw : Below w2.heap.size w2 w3 := ⟨hg.os, hg.tape, hg.output, hg.size, fun kk hkk => hg.block kk hkk (by simp [Value.ownBlock])⟩; have HY3 := Aside0.mk (HY2.out.below_ hbw); have HU3 := Aside0.mk (Kd.R_below HR2.out hbw); have HT3 := Aside0.mk (HT1.out.below hb); clear ho hb hg hbw k4)
              | (refine Wk.store rfl rfl 23 (.tmp 55) (.tmp 54) rfl g8 1 (.slice A2 n0 e2) [.slice A2 n0 e2] rfl rfl rfl 58 _ HY3.out HS1.out (Nat.le_of_ble_eq_true rfl) rfl ?_; intro w7 hX hO; have HY7 := Aside0.mk (show Wk.Blk w7 g8 58 (Ps.tv i q s (.slice A2 n0 e2) (.slice B1 n1 d1)) from hX); have HO7 := Aside0.mk hO; clear hX hO)
              | (refine Wk.store rfl rfl 22 (.tmp 57) (.tmp 56) rfl g8 4 (.slice A3 n1 e3) [.slice A3 n1 e3] rfl rfl rfl 58 _ HY7.out HS2.out (Nat.le_of_ble_eq_true rfl) rfl ?_; intro w8 hX hO; have HY8 := Aside0.mk (show Wk.Blk w8 g8 58 (Ps.tv i q s (.slice A2 n0 e2) (.slice A3 n1 e3)) from hX); have HO8 := Aside0.mk hO; clear hX hO))
            obtain ⟨A6, c6, hbp6, hblk6, hR6⟩ := HT6.out
            rw [HLK.out] at hblk6 hR6
            have hb13 := below_then HF1.out.2.2 HF1.out.2.2.size HB3.out
            have HG6 : Aside0 (w6.heap.size ≤ g8 ∧ pt ≠ g8 ∧ w6.heap.size ≤ w1.heap.size ∧ w.heap.size ≤ w6.heap.size) := ⟨by rw [← HG8.out]; exact ⟨Nat.le_refl _, by have := hblk6.lt; omega, HF1.out.2.2.size, HF6.out.2.1.size⟩⟩
            have HPB : Aside0 (Wk.Blk w8 pt 91 [.slice A6 k c6]) := ⟨((hblk6.below_ hb13).only HO7.out HG6.out.2.1).only HO8.out HG6.out.2.1⟩
            have HRR : Aside0 (Kd.R Ps.kTn 58 w8 w.heap.size (fun j => j < w6.heap.size) (.slice A6 k c6) (l.take k)) := ⟨by
              have h1 : Kd.R Ps.kTn 58 w6 w.heap.size (fun j => j < w6.heap.size) (.slice A6 k c6) (l.take k) := Kd.R_mono (Kd.R_bound hR6) (fun j hj => hj.2.2.1)
              have h2 := Kd.R_below h1 hb13
              have hne : ∀ j, j < w6.heap.size → some j ≠ some g8 := fun j hj he => by have := Option.some.inj he; have := HG6.out.1; omega
              exact Kd.R_grown (Kd.R_grown h2 HO7.out.grown hne) HO8.out.grown hne⟩
            have hne : ∀ q, q ∈ 5 :: (Kd.int .u8).E → q ≠ 58 := by decide
            have hne' : ∀ q, q ∈ 33 :: (Kd.int .u32).E → q ≠ 58 := by decide
            have HUU := Aside0.mk (Wk.R_only (Wk.R_only HU3.out HY3.out hne HO7.out) HY7.out hne HO8.out)
            have HVV := Aside0.mk (Wk.R_only (Wk.R_only HR3.out HY3.out hne' HO7.out) HY7.out hne' HO8.out)
            have HB8 : Aside0 (Below w.heap.size w w8) := ⟨by
              have hg : w.heap.size ≤ g8 := Nat.le_trans HF6.out.2.1.size HG6.out.1
              exact Wk.Only.below (Wk.Only.below (below_then HF1.out.2.1 HF1.out.2.1.size HB3.out) HO7.out hg) HO8.out hg⟩
            have HBS : Aside0 (w.heap.size ≤ pt) := ⟨hbp6⟩
            have HLM : Aside0 (((l.take k).length + 1) * 72 ≤ 140737488355328) := ⟨by rw [HLK.out]; omega⟩
            clear hbp6 hblk6 hR6 hb13 hne hne' HT6 HT1 HT3 HT4 HB4 HF6 HF1 HY1 HY2 HY3 HY7 HO7 HO8 HR2 HR3 HU3 HB2 HB3 HC10 HC11 HC21 HRN6
            refine wp_region_noPanic ?_
            refine Rg.s1 11 (fun w' => Below w8.heap.size w8 w') [7, 10] (Below.refl _ _).drew #[false, false, false, false, false, false, false, false, false, false, false] (fun hHeld => ?_)
            refine Rg.p1 0 (.some 58) ?_
            refine Rg.p1 1 (.some 59) ?_
            refine Rg.p1 2 (.some 60) ?_
            refine Rg.p1 3 (.some 61) ?_
            refine Rg.t1 4 (.some 62) hHeld ?_ (hy := by intro w' hS'; (have c1 := (HPB.out.below_ hS').at_ 0 rfl; go_simp); first | done | with_reducible rfl)
            refine Rg.t1 5 (.some 63) hHeld ?_ (hy := by intro w' hS'; (have hl := Wk.run_load_blk (P := Tryd.prog) 58 g8 0 (Ps.tv i q s (.slice A2 n0 e2) (.slice A3 n1 e3)) _ (HY8.out.below_ hS') rfl Tryd.underlying58 rfl HSZ.out; refine (Wk.exec_load 58 (.tmp 8) rfl _ _ rfl hl).trans ?_); first | done | with_reducible rfl)
            refine Rg.o1 6 (.some 64) (fun K hK => ?_)
            refine value_ (w1 := w8.drew.alloc (.cells (Ps.tv i q s (.slice A2 n0 e2) (.slice A3 n1 e3)).toArray 58)) (v := .slice (some ⟨w8.drew.heap.size, 0, none⟩) 1 1) (by rfl) rfl (by first | (go_simp; done) | (go_simp; rfl)) ?_
            refine hK.out _ _ (hHeld.alloc hHeld.size _) (fun hHeld => ?_)
            clear hK K
            refine Rg.n1 ?_
            have HH9 : Aside0 (Below w8.heap.size w8 w8.drew) := ⟨(Below.refl _ _).drew⟩
            have HRO : Aside0 (Kd.R Ps.kTn 58 w8.drew w.heap.size (fun _ => True) (.slice A6 k c6) (l.take k)) := ⟨Kd.R_mono (Kd.R_below HRR.out HH9.out) (fun _ _ => trivial)⟩
            have HBB : Aside0 (Below w.heap.size w w8.drew ∧ w.heap.size ≤ w8.drew.heap.size) := ⟨below_then HB8.out HB8.out.size HH9.out, (below_then HB8.out HB8.out.size HH9.out).size⟩
            have HOW : Aside0 (∀ j, (Value.slice A6 k c6).ownBlock = some j → j < w6.heap.size) := ⟨fun j hj => HRR.out.1 j hj⟩
            have HMM : Aside0 (Ps.kTn.M w8.drew w.heap.size (fun j => True ∧ some j ≠ (Value.slice A6 k c6).ownBlock) ⟨i, l0, q, s, l1⟩ (Ps.tv i q s (.slice A2 n0 e2) (.slice A3 n1 e3))) := ⟨by
              have hok : ∀ j, w1.heap.size ≤ j → True ∧ some j ≠ (Value.slice A6 k c6).ownBlock := fun j hj => ⟨trivial, fun he => by have := HOW.out j he.symm; have := HG6.out.2.2.1; omega⟩
              have hle : w.heap.size ≤ w1.heap.size := Nat.le_trans HG6.out.2.2.2 HG6.out.2.2.1
              have r2 := Kd.R_lower (Kd.R_mono (Kd.R_bound (Kd.R_below HUU.out HH9.out)) (fun j hj => hok j hj.2.1)) hle
              have r3 := Kd.R_lower (Kd.R_mono (Kd.R_bound (Kd.R_below HVV.out HH9.out)) (fun j hj => hok j hj.2.1)) hle
              exact PBase.k58_mkM w8.drew w.heap.size _ ⟨i, l0, q, s, l1⟩ r2 r3⟩
            refine Rg.l1 7 (.some 65) (fun K hK => ?_)
            refine Kd.R_append_step Ps.kTn (w0 := w) (W := w8.drew) w.heap.size (by rfl) (.tmp 62) (.tmp 64) 37 58 (.agg Ps.z5.toArray) 72 rfl Tryd.underlying37 Ps.infoTn rfl (by decide) (by omega) (.slice A6 k c6) (l.take k) ⟨i, l0, q, s, l1⟩ (Ps.tv i q s (.slice A2 n0 e2) (.slice A3 n1 e3)) (fun _ => True) (fun j => True ∧ some j ≠ (Value.slice A6 k c6).ownBlock) rfl rfl HMM.out (fun _ h => h) (fun _ _ => trivial) HRO.out HBB.out.1 HBB.out.2 HLM.out ?_
            intro v3 w11 hr3 hb3 hg3 _
            obtain ⟨A9, c9, rfl⟩ := Kd.R_slice hr3
            have hL : (l.take k ++ [(⟨i, l0, q, s, l1⟩ : Ps.Tn)]).length = k + 1 := by rw [List.length_append, HLK.out]; rfl
            rw [hL] at hr3 ⊢
            have HR11 := Aside0.mk hr3
            have HB11 := Aside0.mk hb3
            have hpo : some pt ≠ (Value.slice A6 k c6).ownBlock := fun he => Kd.R_ne HRO.out (HPB.out.below_ HH9.out).out (by decide) he
            have HP11 := Aside0.mk ((HPB.out.below_ HH9.out).grown hg3 hpo)
            clear hr3 hb3 hg3 hL hpo
            refine hK.out _ _ ?_
            clear hK K
            refine Rg.n1 ?_
            refine Rg.p1 8 (.some 66) ?_
            refine Rg.p1 9 (.some 67) ?_
            refine Rg.l1 10 none (fun K hK => ?_)
            refine Wk.store_step (by rfl) rfl 37 (.tmp 67) (.tmp 65) rfl pt 0 (.slice A9 (k + 1) c9) [.slice A9 (k + 1) c9] rfl rfl rfl 91 _ HP11.out HTS.out (Nat.le_refl 1) rfl ?_
            intro w12 hX hO
            have HP12 := Aside0.mk (show Wk.Blk w12 pt 91 [.slice A9 (k + 1) c9] from hX)
            have HO12 := Aside0.mk hO
            clear hX hO
            refine hK.out _ _ ?_
            clear hK K
            refine Rg.d1 ?_
            refine NoPanic.normal ?_
            go_wp2_with fail
            have HLK2 : (l.take (k + 1)).length = k + 1 := by rw [List.length_take]; omega
            refine ⟨⟨k + 1, by simp, by omega, ⟨A9, c9, HBS.out, ?_, ?_⟩, ⟨Wk.Only.below HB11.out HO12.out HBS.out⟩, ⟨?_⟩⟩, by simp [intOf]; omega⟩
            · rw [HLK2]; exact HP12.out
            · rw [HLK2, HTK.out]
              exact Wk.R_only HR11.out HP11.out Ps.kTn_ne HO12.out
            · rw [HTK.out, ← HG.out, HDK.out]
              exact (Ps.good_step _ _ _ HFN.out (by show 0 < l0.length; rw [HN0.out]; omega)).symm
      · obtain rfl : k = n := by omega
        go_wp2_with fail
        go_ret2
        refine ⟨HB.out, .inr (.inr ⟨by omega, ?_, pt, rfl, ?_⟩)⟩
        · rw [← HG.out, List.drop_of_length_le (by rw [HN.out]; exact Nat.le_refl _)]
          rfl
        · have := HT.out.tr
          rwa [List.take_of_length_le (by rw [HN.out]; exact Nat.le_refl _)] at this
end Go.Proofs.YtgljicdpcapgnaaDoor
set_option linter.unusedVariables false
set_option linter.unusedSimpArgs false
namespace Go.Proofs.YtgljicdpcapgnaaDoor
open Go.RowKit Go.Proofs.YtgljicdpcapgnaaDoor.PBase Go.Proofs.YtgljicdpcapgnaaDoorW.PrintWords Go.Proofs.YtgljicdpcapgnaaDoorW.PrintLast Go.Proofs.YtgljicdpcapgnaaDoorW.PrintMore
namespace Cn
def TabPost (W : World) (n : Nat) (l : List Ps.Tn) (e : Ending) (w' : World) : Prop :=
  Below W.heap.size W w' ∧ ((n ≤ 64 ∧ Ps.good [] l = true ∧ ∃ p q, e = .returned (.tuple #[.pointer (some ⟨p, 0, none⟩), .pointer (some ⟨q, 0, none⟩), .bool true]) ∧ Ps.Tb w' W.heap.size p l) ∨ (¬ (n ≤ 64 ∧ Ps.good [] l = true) ∧ e = .returned (.tuple #[.pointer none, .pointer none, .bool false])))
theorem Ctx.new {W : World} {tb bs : Nat} {l : List Ps.Tn} (hK : Sh.Ks W) (hT : Ps.Tb W bs tb l) (hW : ∀ x ∈ l, Ps.TnWf x) : Ctx W tb bs l := ⟨fun w' hb => ⟨hK.below hb, hT.below hb⟩, hW⟩
theorem Ctx.later {w0 w1 : World} {tb bs : Nat} {l : List Ps.Tn} (h : Ctx w0 tb bs l) (hb : Below w0.heap.size w0 w1) : Ctx w1 tb bs l := ⟨fun w' hb' => h.kt w' (below_then hb hb.size hb'), h.wf⟩
def st1 : St := ⟨64, [], [], 1, ex0, false, []⟩
def st2 : St := ⟨64, [], [], 2, ex0, true, []⟩
def st3 : St := ⟨64, [], [0, 3, 232, 137, 4, 85, 101, 169, 0, 0, 0, 2, 0, 0, 0, 1, 0, 0, 0, 0], 4, ex0, true, []⟩
theorem out_new : out (new 64) = st1 := rfl
theorem feed_1 (l : List Ps.Tn) : feed l st1 [0, 0, 0, 3] = st2 := by kernel_rfl
theorem feed_2 (l : List Ps.Tn) : feed l st2 [73, 72, 65, 86, 69, 79, 80, 84, 0, 0, 0, 2, 0, 0, 0, 0] = st3 := by kernel_rfl
theorem feed_3 (l : List Ps.Tn) : (feed l (new 64) [0, 0, 0, 0]).st = 4 := by kernel_rfl
theorem lit_ok (c : St) (h : c.kept = []) (h' : c.rs = []) (hb : 0 ≤ c.blk ∧ c.blk ≤ 65535) : Ok c := ⟨(by rw [h]; intro x hx; cases hx), (by rw [h]; exact Nat.zero_le _), (by rw [h']; intro r hr; cases hr), hb⟩
theorem bytes_lit (l : List Int) (h : l.all (fun x => decide (0 ≤ x) && decide (x ≤ 255)) = true) : Sh.Bytes l := fun x hx => by
  have := List.all_eq_true.1 h x hx
  simpa using this
end Cn
set_option maxHeartbeats 4000000 in
set_option maxRecDepth 100000 in
theorem tables_.calls {W : World} {A : Option Addr} {n c : Nat} {l : List Ps.Tn} (hC : Ps.kTn.C W A l.length l) (hn : l.length = n) (hw : ∀ x ∈ l, Ps.TnWf x) : Calls Tryd.prog 9 #[.slice A n c] W (Cn.TabPost W n l) := by
 have HC := Aside0.mk hC
 have HN := Aside0.mk hn
 have HW := Aside0.mk hw
 clear hC hn hw
 go_enter Tryd.func9, Tryd.ntmps9
 go_wp2_with fail
 refine (new_pass.calls A n c l W HC.out HN.out HW.out).mono ?_
 rintro e w1 ⟨hb1, h1⟩
 have HB1 := Aside0.mk hb1
 have HC1 := Aside0.mk (Kd.C_below HC.out hb1)
 clear hb1
 rcases h1 with ⟨h64, rfl⟩ | ⟨h64, hg, rfl⟩ | ⟨h64, hg, p, rfl, ht⟩
 ·have H64 := Aside0.mk h64
  clear h64
  go_wp2_with fail
  refine (refnew_.calls A n c l w1 HC1.out HN.out HW.out).mono ?_
  rintro e w2 ⟨hb2, h2⟩
  have HB2 := Aside0.mk (below_then HB1.out HB1.out.size hb2)
  clear hb2
  rcases h2 with ⟨_, rfl⟩ | ⟨h, _⟩ | ⟨h, _⟩
  ·go_wp2_with fail
   go_ret3
   exact ⟨HB2.out, .inr ⟨(fun hh => by have := H64.out; omega), rfl⟩⟩
  ·exact absurd H64.out (by omega)
  ·exact absurd H64.out (by omega)
 ·have H64 := Aside0.mk (And.intro h64 hg)
  clear h64 hg
  go_wp2_with fail
  refine (refnew_.calls A n c l w1 HC1.out HN.out HW.out).mono ?_
  rintro e w2 ⟨hb2, h2⟩
  have HB2 := Aside0.mk (below_then HB1.out HB1.out.size hb2)
  clear hb2
  rcases h2 with ⟨h, _⟩ | ⟨_, _, rfl⟩ | ⟨_, h, _⟩
  ·exact absurd H64.out.1 (by omega)
  ·go_wp2_with fail
   go_ret3
   exact ⟨HB2.out, .inr ⟨(fun hh => by have := H64.out.2; rw [hh.2] at this; cases this), rfl⟩⟩
  ·have := H64.out.2
   rw [h] at this
   cases this
 ·have H64 := Aside0.mk (And.intro h64 hg)
  have HT := Aside0.mk ht
  clear h64 hg ht
  go_wp2_with fail
  refine (refnew_.calls A n c l w1 HC1.out HN.out HW.out).mono ?_
  rintro e w2 ⟨hb2, h2⟩
  have HB2 := Aside0.mk (below_then HB1.out HB1.out.size hb2)
  have HT2 := Aside0.mk (HT.out.below hb2)
  clear hb2
  rcases h2 with ⟨h, _⟩ | ⟨_, h, _⟩ | ⟨_, _, q, rfl, _⟩
  ·exact absurd H64.out.1 (by omega)
  ·have := H64.out.2
   rw [h] at this
   cases this
  ·go_wp2_with fail
   go_ret3
   exact ⟨HB2.out, .inl ⟨H64.out.1, H64.out.2, p, q, rfl, HT2.out⟩⟩
set_option maxHeartbeats 8000000 in
set_option maxRecDepth 100000 in
theorem knownc_.calls (W : World) (hk : Sh.Ks W) : Calls Tryd.prog 8 #[] W fun e w' => e = .returned (.bool true) ∧ Below W.heap.size W w' := by
 have HK := Aside0.mk hk
 have HZ : Aside0 (∀ x ∈ ([] : List Ps.Tn), Ps.TnWf x) := ⟨fun x hx => by cases hx⟩
 clear hk
 go_enter Tryd.func8, Tryd.ntmps8
 go_wp2_with fail
 refine (new_pass.calls none 0 0 [] W (Kd.C_nil _ _) rfl HZ.out).mono ?_
 rintro e w1 ⟨hb1, ⟨h, -⟩ | ⟨-, h, -⟩ | ⟨-, -, tb, rfl, ht⟩⟩
 ·exact absurd h (by decide)
 ·cases h
 have HB1 := Aside0.mk hb1
 have HX := Aside0.mk (Cn.Ctx.new (HK.out.below hb1) ht HZ.out)
 clear hb1 ht
 go_wp2_with fail
 refine (newconn_.calls w1 tb 64).mono ?_
 rintro e w2 ⟨p, rfl, hc2, hb2⟩
 have HC2 := Aside0.mk hc2
 have HB2 := Aside0.mk hb2
 clear hc2 hb2
 go_wp2_with fail
 refine (out_.calls HC2.out).mono ?_
 rintro e w3 ⟨A3, n3, rfl, _, hc3, hf3⟩
 rw [Cn.out_new] at hc3
 have HC3 := Aside0.mk hc3
 have HB3 := Aside0.mk (hf3.below HB2.out HB2.out.size (fun k hk => hk))
 clear hc3 hf3
 have HB4 : Aside0 (Below w3.heap.size w3 (w3.alloc (.cells #[.int .u8 0, .int .u8 0, .int .u8 0, .int .u8 3] 5))) := ⟨below_alloc (Below.refl _ _) _⟩
 have HR4 : Aside0 (Kd.C (Kd.int .u8) (w3.alloc (.cells #[.int .u8 0, .int .u8 0, .int .u8 0, .int .u8 3] 5)) (some ⟨w3.heap.size, 0, none⟩) ([0, 0, 0, 3] : List Int).length [0, 0, 0, 3]) := ⟨Lit.reads_new w3 _ _ _ .u8 [0, 0, 0, 3] rfl (by simp)⟩
 go_wp2_with fail
 have HBX := Aside0.mk (below_then HB3.out HB3.out.size HB4.out)
 refine (feedc_.calls HX.out (HC3.out.below HB4.out) (fun k hk => Nat.le_trans HBX.out.size hk) (Cn.lit_ok _ rfl rfl (by decide)) HBX.out (fun k hk => hk) (by decide) HR4.out rfl (by decide) (Cn.bytes_lit _ (by decide))).mono ?_
 rintro e w5 ⟨rfl, hc5, hf5⟩
 rw [Cn.feed_1] at hc5
 have HC5 := Aside0.mk hc5
 have HB5 := Aside0.mk (hf5.below HBX.out HBX.out.size (fun k hk => hk))
 clear hc5 hf5
 go_wp2_with fail
 refine (state_.calls HC5.out).mono ?_
 rintro e w6 ⟨rfl, hb6⟩
 have HC6 := Aside0.mk (HC5.out.below hb6)
 have HB6 := Aside0.mk (below_then HB5.out HB5.out.size hb6)
 clear hb6
 have HB7 : Aside0 (Below w6.heap.size w6 (w6.alloc (.cells #[.int .u8 73, .int .u8 72, .int .u8 65, .int .u8 86, .int .u8 69, .int .u8 79, .int .u8 80, .int .u8 84, .int .u8 0, .int .u8 0, .int .u8 0, .int .u8 2, .int .u8 0, .int .u8 0, .int .u8 0, .int .u8 0] 5))) := ⟨below_alloc (Below.refl _ _) _⟩
 have HR7 : Aside0 (Kd.C (Kd.int .u8) (w6.alloc (.cells #[.int .u8 73, .int .u8 72, .int .u8 65, .int .u8 86, .int .u8 69, .int .u8 79, .int .u8 80, .int .u8 84, .int .u8 0, .int .u8 0, .int .u8 0, .int .u8 2, .int .u8 0, .int .u8 0, .int .u8 0, .int .u8 0] 5)) (some ⟨w6.heap.size, 0, none⟩) ([73, 72, 65, 86, 69, 79, 80, 84, 0, 0, 0, 2, 0, 0, 0, 0] : List Int).length [73, 72, 65, 86, 69, 79, 80, 84, 0, 0, 0, 2, 0, 0, 0, 0]) := ⟨Lit.reads_new w6 _ _ _ .u8 [73, 72, 65, 86, 69, 79, 80, 84, 0, 0, 0, 2, 0, 0, 0, 0] rfl (by simp)⟩
 go_wp2_with fail
 have HBY := Aside0.mk (below_then HB6.out HB6.out.size HB7.out)
 refine (feedc_.calls HX.out (HC6.out.below HB7.out) (fun k hk => Nat.le_trans HBY.out.size hk) (Cn.lit_ok _ rfl rfl (by decide)) HBY.out (fun k hk => hk) (by decide) HR7.out rfl (by decide) (Cn.bytes_lit _ (by decide))).mono ?_
 rintro e w8 ⟨rfl, hc8, hf8⟩
 rw [Cn.feed_2] at hc8
 have HC8 := Aside0.mk hc8
 have HB8 := Aside0.mk (hf8.below HBY.out HBY.out.size (fun k hk => hk))
 clear hc8 hf8
 go_wp2_with fail
 refine (out_.calls HC8.out).mono ?_
 rintro e w9 ⟨A9, n9, rfl, hr9, hc9, hf9⟩
 rw [show Cn.st3.send.length = 20 from rfl] at hr9 ⊢
 have HR9 := Aside0.mk (Kd.R_bound hr9)
 have HC9 := Aside0.mk hc9.bound
 have HB9 := Aside0.mk (hf9.below HB8.out HB8.out.size (fun k hk => hk))
 clear hr9 hc9 hf9
 go_wp2_with fail
 refine (newconn_.calls w9 tb 64).mono ?_
 rintro e w10 ⟨q, rfl, hc10, hb10⟩
 have HD10 := Aside0.mk hc10
 have HB10 := Aside0.mk (below_then HB9.out HB9.out.size hb10)
 have HC10 := Aside0.mk (HC9.out.below hb10)
 have HR10 := Aside0.mk (Kd.R_below HR9.out hb10)
 have HS10 : Aside0 (w9.heap.size ≤ w10.heap.size) := ⟨hb10.size⟩
 clear hc10 hb10
 have HB11 : Aside0 (Below w10.heap.size w10 (w10.alloc (.cells #[.int .u8 0, .int .u8 0, .int .u8 0, .int .u8 0] 5))) := ⟨below_alloc (Below.refl _ _) _⟩
 have HR11 : Aside0 (Kd.C (Kd.int .u8) (w10.alloc (.cells #[.int .u8 0, .int .u8 0, .int .u8 0, .int .u8 0] 5)) (some ⟨w10.heap.size, 0, none⟩) ([0, 0, 0, 0] : List Int).length [0, 0, 0, 0]) := ⟨Lit.reads_new w10 _ _ _ .u8 [0, 0, 0, 0] rfl (by simp)⟩
 go_wp2_with fail
 have HBZ := Aside0.mk (below_then HB10.out HB10.out.size HB11.out)
 refine (feedc_.calls HX.out (HD10.out.below HB11.out) (fun k hk => Nat.le_trans HS10.out (Nat.le_trans HB11.out.size hk)) (Cn.new_ok 64 (by decide)) HBZ.out (fun k hk => Nat.le_trans HB9.out.size hk) (by have := Cn.hello_len; show Cn.hello.length ≤ _; omega) HR11.out rfl (by decide) (Cn.bytes_lit _ (by decide))).mono ?_
 rintro e w12 ⟨rfl, hc12, hf12⟩
 have HD12 := Aside0.mk hc12
 have HS12 := Aside0.mk (Cn.feed_3 [])
 have HC12 := Aside0.mk ((HC10.out.below HB11.out).frame hf12 (fun k hk hh => by have := hk.2; omega))
 have HR12 := Aside0.mk (Kd.R_reads' (Cn.R_frame (Kd.R_below HR10.out HB11.out) hf12 (fun k hk hh => by have := hk.2.2.1; omega)))
 have HB12 := Aside0.mk (hf12.below HBZ.out HBZ.out.size (fun k hk => Nat.le_trans HB9.out.size hk))
 clear hc12 hf12
 obtain ⟨ad, hA9, hx9⟩ := Kd.at_int HR12.out.2.2 15 (by decide) (by decide)
 obtain ⟨ab, cap9, he9, -⟩ := Kd.R_form HR9.out (by decide)
 replace he9 := Value.slice.inj he9
 obtain ⟨he9, -, -⟩ := he9
 rw [hA9] at he9
 obtain rfl := Option.some.inj he9
 have hx9' : w12.cell? (⟨ab, 15, none⟩ : Addr) = some (.int .u8 1) := hx9
 subst hA9
 go_wp2_with fail
 refine (state_.calls HC12.out).mono ?_
 rintro e w13 ⟨rfl, hb13⟩
 have HB13 := Aside0.mk (below_then HB12.out HB12.out.size hb13)
 have HD13 := Aside0.mk (HD12.out.below hb13)
 have hx10 : w13.cell? (⟨ab, 15, none⟩ : Addr) = some (.int .u8 1) := (hb13.cell (World.block_lt_of_cell? _ _ hx9')).trans hx9'
 clear hb13 hx9 hx9'
 go_wp2_with fail
 refine (state_.calls HD13.out).mono ?_
 rintro e w14 ⟨rfl, hb14⟩
 rw [HS12.out]
 have HB14 := Aside0.mk (below_then HB1.out HB1.out.size (below_then HB13.out HB13.out.size hb14))
 clear hb14
 go_wp2_with fail
 go_ret
 exact ⟨rfl, HB14.out⟩
end Go.Proofs.YtgljicdpcapgnaaDoor
set_option linter.unusedVariables false
set_option linter.unusedSimpArgs false
namespace Go.Proofs.YtgljicdpcapgnaaDoor
open Go.RowKit Go.Proofs.YtgljicdpcapgnaaDoor.PBase Go.Proofs.YtgljicdpcapgnaaDoorW.PrintWords Go.Proofs.YtgljicdpcapgnaaDoorW.PrintLast Go.Proofs.YtgljicdpcapgnaaDoorW.PrintMore
namespace Cn
theorem reps_u8 {W : World} {base : Nat} {ok : Nat → Prop} : ∀ xs : List Int, Reps ((Kd.int .u8).M W base ok) 1 xs (xs.map (Value.int .u8))
  | [] => Reps.none _ _
  | x :: xs => Reps.one rfl (reps_u8 xs)
theorem R_new (w : World) (xs : List Int) (hm : xs.length ≤ 100000) {ok : Nat → Prop} (hok : ok w.heap.size) : Kd.R (Kd.int .u8) 5 (w.alloc (.cells (xs.map (Value.int .u8)).toArray 5)) 0 ok (.slice (some ⟨w.heap.size, 0, none⟩) xs.length xs.length) xs := by
  refine ⟨fun k hk => ?_, xs.map (Value.int .u8), ?_, reps_u8 xs⟩
  · have : w.heap.size = k := by simpa [Value.ownBlock] using hk
    subst this
    exact hok
  · have h2 := World.ownsRow_lit (base := 0) (e := 5) (size := 1) w (xs.map (Value.int .u8)).toArray xs.length (Nat.zero_le _) (by have : maxLen = 9223372036854775807 ∨ 100000 ≤ maxLen := .inr (by decide); omega) (by simp)
    show World.ownsRow _ 0 5 1 _ _ _
    simpa using h2
theorem take_pre_ (l m : List Int) (n : Nat) (h : n ≤ l.length) : (l ++ m).take n = l.take n := List.take_append_of_le_length h
def opt (k m : Int) : List Int := [73, 72, 65, 86, 69, 79, 80, 84, k / 16777216 % 256, k / 65536 % 256, k / 256 % 256, k % 256, 0, 0, 0, m]
theorem num4 (a b c d : Int) : Wi.num [a, b, c, d] = ((a * 256 + b) * 256 + c) * 256 + d := by simp [Wi.num]
theorem nx_opt (k : Int) (d more : List Int) (hk : 0 ≤ k ∧ k < 4294967296) (hd : d.length ≤ 255) : Gr.nx (opt k d.length ++ (d ++ more)) = (k, d, 16 + (d.length : Int), 0) := by
  have e1 : (opt k d.length ++ (d ++ more)).take 8 = [73, 72, 65, 86, 69, 79, 80, 84] := rfl
  have e2 : ((opt k d.length ++ (d ++ more)).drop 8).take 4 = [k / 16777216 % 256, k / 65536 % 256, k / 256 % 256, k % 256] := rfl
  have e3 : ((opt k d.length ++ (d ++ more)).drop 12).take 4 = [0, 0, 0, (d.length : Int)] := rfl
  have e4 : (opt k d.length ++ (d ++ more)).drop 16 = d ++ more := rfl
  have e5 : (opt k d.length ++ (d ++ more)).length = 16 + (d.length + more.length) := by rw [List.length_append, List.length_append]; rfl
  unfold Gr.nx
  rw [e1, e2, e3, e4, num4, num4, if_neg (by rw [e5]; omega), if_neg (fun h => h (by decide)), if_neg (by omega), if_neg (by rw [e5]; omega)]
  refine Prod.ext ?_ (Prod.ext ?_ (Prod.ext ?_ rfl))
  · show ((k / 16777216 % 256 * 256 + k / 65536 % 256) * 256 + k / 256 % 256) * 256 + k % 256 = k
    omega
  · show (d ++ more).take (((0 * 256 + 0) * 256 + 0) * 256 + (d.length : Int)).toNat = d
    rw [show ((((0 : Int) * 256 + 0) * 256 + 0) * 256 + (d.length : Int)).toNat = d.length from by omega]
    exact List.take_left' rfl
  · show 16 + ((((0 : Int) * 256 + 0) * 256 + 0) * 256 + (d.length : Int)) = 16 + (d.length : Int)
    omega
theorem step_opt (l : List Ps.Tn) (c : St) (k : Int) (d more : List Int) (hs : c.st = 2) (hk : 0 ≤ k ∧ k < 4294967296) (hd : d.length ≤ 255) (hc : c.kept = opt k d.length ++ (d ++ more)) : step l c = (16 + (d.length : Int), 0, option l c k d) := by
  unfold step
  rw [if_neg (by rw [hs]; decide), if_pos hs, hc, nx_opt k d more hk hd]
  rfl
theorem nx_nil : Gr.nx [] = (0, [], 0, 70) := rfl
theorem read_bare (l : List Ps.Tn) (c : St) (h : Ok c) (hs : c.st = 2) (hk : c.kept = []) : read l c = c := by
  have e : step l c = (0, 70, c) := by
    unfold step
    rw [if_neg (by rw [hs]; decide), if_pos hs, hk, nx_nil]
    rfl
  rw [read_step l c h, e]
  rfl
theorem opt_len (k m : Int) : (opt k m).length = 16 := rfl
theorem opt_bytes (k m : Int) (hm : 0 ≤ m ∧ m ≤ 255) : Sh.Bytes (opt k m) := by
  intro x hx
  simp only [opt, List.mem_cons, List.not_mem_nil, or_false] at hx
  omega
end Cn
end Go.Proofs.YtgljicdpcapgnaaDoor
set_option linter.unusedVariables false
set_option linter.unusedSimpArgs false
namespace Go.Proofs.YtgljicdpcapgnaaDoor
open Go.RowKit Go.Proofs.YtgljicdpcapgnaaDoor.PBase Go.Proofs.YtgljicdpcapgnaaDoorW.PrintWords Go.Proofs.YtgljicdpcapgnaaDoorW.PrintLast Go.Proofs.YtgljicdpcapgnaaDoorW.PrintMore
namespace Cn
def tn1 (id : Int) (key : List Int) (size : Int) : Ps.Tn := ⟨id, key, 0, size, []⟩
theorem good1 (id : Int) (key : List Int) (size : Int) (h : 0 < key.length) : Ps.good [] [tn1 id key size] = true := by
  show ((Ps.find [] id).isNone && decide (0 < key.length)) && true = true
  rw [decide_eq_true h]
  rfl
theorem check1 (key : List Int) (t : Ps.Tk) (size : Int) (h : Ps.TkWf t) : Ps.check [tn1 t.1 key size] (Ps.iss key t) = if t.2.2.2 = 0 ∨ t.2.2.2 > size then (Ps.zt, 54) else (t, 0) := by
  obtain ⟨h1, h2⟩ := Ps.got_iss key t
  have ht : Ps.tok (Ps.sealed key t) = t := Ps.tok_body t _ h
  unfold Ps.check
  rw [if_pos h2, h1, ht]
  have hf : Ps.find [tn1 t.1 key size] t.1 = some (tn1 t.1 key size) := by
    unfold Ps.find
    rw [List.find?_cons_of_pos (by show (t.1 == t.1) = true; exact beq_self_eq_true _)]
  rw [hf]
  show Ps.verdict (tn1 t.1 key size) (Ps.sealed key t) = _
  unfold Ps.verdict
  rw [Ps.sealed_take, Ps.sealed_drop, if_neg (fun h => h rfl), if_neg (fun h => by cases h), ht]
  rfl
theorem iss_size (key : List Int) (t : Ps.Tk) : (Ps.iss key t).size = 80 := by
  unfold Ps.iss Ps.txt
  show (Sp.enc (Sp.bitsOf (Ps.sealed key t))).toArray.size = 80
  rw [List.size_toArray, Sp.enc_length, Sp.bitsOf_length, Ps.sealed_len]
theorem str_bytes (s : ByteArray) : strOfNums (bytesOf s) = s := by
  have h : (strOfNums (bytesOf s)).data.toList = s.data.toList := by
    rw [strOfNums_data, bytesOf, List.map_map]
    conv => rhs; rw [← List.map_id s.data.toList]
    refine List.map_congr_left (fun x _ => ?_)
    simp
  have h2 : (strOfNums (bytesOf s)).data = s.data := Array.toList_inj.1 h
  cases s
  exact congrArg ByteArray.mk h2
theorem bytes_bytesOf (s : ByteArray) : Sh.Bytes (bytesOf s) := by
  intro x hx
  rw [bytesOf, List.mem_map] at hx
  obtain ⟨b, _, rfl⟩ := hx
  have := b.toNat_lt
  omega
theorem ak_name1 (name : List Int) (hn : name.length ≤ 255) : Gr.ak ([0, 0, 0, (name.length : Int)] ++ name ++ [0, 0]) = (strOfNums name, [], 0) := by
  unfold Gr.ak
  have e1 : Wi.num (([0, 0, 0, (name.length : Int)] ++ name ++ [0, 0]).take 4) = (name.length : Int) := by
    show Wi.num [0, 0, 0, (name.length : Int)] = _
    rw [num4]
    omega
  have e2 : ([0, 0, 0, (name.length : Int)] ++ name ++ [0, 0]).drop 4 = name ++ [0, 0] := by rw [List.append_assoc]; rfl
  rw [e1, e2, if_neg (by simp), if_neg (by omega), if_neg (by rw [List.length_append]; omega), Int.toNat_natCast, List.drop_left, List.take_left]
  rw [if_neg (by decide), if_neg (by decide)]
  rfl
def nrm (r : Rq) : Rq := (r.1, r.2.1, r.2.2.1, r.2.2.2.1, Rw.wl r, Rw.wd r)
def flat (rs : List Rq) : List Int := rs.flatMap Rw.bs
def RqOk (r : Rq) : Prop := RqWf r ∧ r.2.2.2.2.2.length ≤ 100 ∧ r.2.1 ≠ 2
theorem bs_short (r : Rq) (h : RqOk r) : (Rw.bs r).length ≤ 128 ∧ 28 ≤ (Rw.bs r).length := by
  have := h.2.1
  rw [Rw.bs_len]
  split <;> omega
theorem flat_len : ∀ rs : List Rq, (∀ r ∈ rs, RqOk r) → (flat rs).length ≤ 128 * rs.length
  | [], _ => Nat.zero_le _
  | r :: rs, h => by
    have h1 := (bs_short r (h r (List.mem_cons_self ..))).1
    have h2 := flat_len rs (fun q hq => h q (List.mem_cons_of_mem _ hq))
    show (Rw.bs r ++ flat rs).length ≤ _
    rw [List.length_append, List.length_cons]
    omega
theorem flat_bytes (rs : List Rq) (h : ∀ r ∈ rs, RqOk r) : Sh.Bytes (flat rs) := fun x hx => by
  obtain ⟨r, hr, hx⟩ := List.mem_flatMap.1 hx
  exact Rw.bs_bytes (h r hr).1 x hx
theorem rnext_nil : Wi.nextOf [] = (0, 0, 0, 0, 0, [], 0, 80) := rfl
theorem read_reqs (l : List Ps.Tn) : ∀ (rs : List Rq) (c : St), Ok c → c.st = 3 → c.kept = flat rs → c.rs.length + rs.length ≤ 16 → (∀ r ∈ rs, RqOk r) → (read l c).st = 3 ∧ (read l c).ex = c.ex ∧ (read l c).rs = c.rs ++ rs.map nrm := by
  intro rs
  induction rs with
  | nil =>
    intro c ho hs hk hn hr
    have e : step l c = (0, 80, c) := by
      unfold step
      rw [if_neg (by rw [hs]; decide), if_neg (by rw [hs]; decide), if_pos hs]
      unfold request
      by_cases h16 : c.rs.length = 16
      · rw [if_pos h16]
      · rw [if_neg h16, show c.kept = [] from hk, rnext_nil]
        rfl
    rw [read_step l c ho, e]
    rw [if_pos (Or.inr rfl)]
    exact ⟨hs, rfl, (List.append_nil _).symm⟩
  | cons r rs ih =>
    intro c ho hs hk hn hr
    have hq := hr r (List.mem_cons_self ..)
    have hnx : Wi.nextOf c.kept = (r.1, r.2.1, r.2.2.1, r.2.2.2.1, Rw.wl r, Rw.wd r, ((Rw.bs r).length : Int), 0) := by
      rw [hk]
      exact Rw.next_whole r hq.1 (by have := hq.2.1; omega) (flat rs)
    have e : step l c = (((Rw.bs r).length : Int), 0, { c with rs := c.rs ++ [nrm r] }) := by
      unfold step
      rw [if_neg (by rw [hs]; decide), if_neg (by rw [hs]; decide), if_pos hs]
      unfold request
      rw [if_neg (by have : (r :: rs).length = rs.length + 1 := rfl; omega), hnx]
      show (if (0 : Int) ≠ 0 then _ else if r.2.1 = 2 then _ else _) = _
      rw [if_neg (fun h => h rfl), if_neg hq.2.2]
      rfl
    have h4 : ¬(step l c).2.2.st = 4 := by rw [e]; show ¬c.st = 4; rw [hs]; decide
    have h0 : (step l c).2.1 = 0 := by rw [e]
    have en : nextSt l c = { c with rs := c.rs ++ [nrm r], kept := flat rs } := by
      unfold nextSt
      rw [e]
      show ({ c with rs := c.rs ++ [nrm r], kept := c.kept.drop ((Rw.bs r).length : Int).toNat } : St) = _
      rw [Int.toNat_natCast, hk]
      show ({ c with rs := c.rs ++ [nrm r], kept := (Rw.bs r ++ flat rs).drop (Rw.bs r).length } : St) = _
      rw [List.drop_left]
    obtain ⟨g1, _⟩ := next_ok l c ho h0 h4
    have hrd : read l c = read l (nextSt l c) := by rw [read_step l c ho, if_neg (by rw [h0]; decide), if_pos h0, if_neg h4]
    rw [hrd]
    rw [en] at g1 ⊢
    obtain ⟨i1, i2, i3⟩ := ih _ g1 hs rfl (by show (c.rs ++ [nrm r]).length + rs.length ≤ 16; rw [List.length_append]; have : (r :: rs).length = rs.length + 1 := rfl; simp only [List.length_singleton]; omega) (fun q hq => hr q (List.mem_cons_of_mem _ hq))
    refine ⟨i1, i2, i3.trans ?_⟩
    show (c.rs ++ [nrm r]) ++ rs.map nrm = c.rs ++ nrm r :: rs.map nrm
    rw [List.append_assoc]
    rfl
theorem nx_reqs (r : Rq) (h : RqOk r) (more : List Int) : Gr.nx (Rw.bs r ++ more) = (0, [], 0, 71) := by
  obtain ⟨b1, b2⟩ := bs_short r h
  have hb0 := Wi.of_wf16 h.1.1
  have hb1 := Wi.of_wf16 h.1.2.1
  have e : (Rw.bs r ++ more).take 8 = [37, 96, 149, 19, r.1 / 256 % 256, r.1 % 256, r.2.1 / 256 % 256, r.2.1 % 256] := by
    have e2 : ∀ v : Int, Wi.be v 2 = [v / 256 % 256, v % 256] := fun v => by
      show [v / 256 ^ 1 % 256, v / 256 ^ 0 % 256] = _
      rw [show (256 : Int) ^ 1 = 256 from by decide, show (256 : Int) ^ 0 = 1 from by decide, Int.ediv_one]
    have e4 : Wi.be 627086611 4 = [37, 96, 149, 19] := by decide
    rw [take_pre_ _ _ 8 (by omega)]
    unfold Rw.bs Wi.rqb
    split
    · rw [take_pre_ _ _ 8 (by rw [Wi.hd_len]; decide), Wi.hd_eq, e4, e2, e2]
      rfl
    · rw [Wi.hd_eq, e4, e2, e2]
      rfl
  unfold Gr.nx
  rw [if_neg (by rw [List.length_append]; omega), if_pos]
  rw [e]
  simp only [Wi.num, List.foldl_cons, List.foldl_nil]
  omega
theorem read_other (l : List Ps.Tn) (rs : List Rq) (c : St) (ho : Ok c) (hs : c.st = 2) (hk : c.kept = flat rs) (hr : ∀ r ∈ rs, RqOk r) : (read l c).st ≠ 3 ∧ (read l c).ex = c.ex := by
  cases rs with
  | nil => rw [read_bare l c ho hs hk]; exact ⟨by rw [hs]; decide, rfl⟩
  | cons r rs =>
    have e : step l c = (0, 71, c) := by
      unfold step
      rw [if_neg (by rw [hs]; decide), if_pos hs, hk]
      show ((Gr.nx (Rw.bs r ++ flat rs)).2.2.1, (Gr.nx (Rw.bs r ++ flat rs)).2.2.2, if (Gr.nx (Rw.bs r ++ flat rs)).2.2.2 = 0 then _ else c) = _
      rw [nx_reqs r (hr r (List.mem_cons_self ..))]
      rfl
    rw [read_step l c ho, e]
    exact ⟨by show (close c).st ≠ 3; exact (show (4 : Int) ≠ 3 by decide), rfl⟩
def okind (old : Bool) : Int := if old then 1 else 7
def odata (old : Bool) (name : List Int) : List Int := if old then name else [0, 0, 0, (name.length : Int)] ++ name ++ [0, 0]
def hail (old : Bool) (name : List Int) : List Int := [0, 0, 0, 1] ++ (opt (okind old) (odata old name).length ++ odata old name)
theorem odata_len (old : Bool) (name : List Int) (h : name.length = 80) : (odata old name).length ≤ 86 := by
  cases old
  · show ([0, 0, 0, (name.length : Int)] ++ name ++ [0, 0]).length ≤ 86
    simp [h]
  · show name.length ≤ 86
    omega
theorem hail_len (old : Bool) (name : List Int) (h : name.length = 80) : (hail old name).length ≤ 106 := by
  have := odata_len old name h
  unfold hail
  rw [List.length_append, List.length_append, opt_len]
  show 4 + _ ≤ _
  omega
theorem odata_bytes (old : Bool) (name : List Int) (hb : Sh.Bytes name) (h : name.length = 80) : Sh.Bytes (odata old name) := by
  cases old
  · intro x hx
    change x ∈ [0, 0, 0, (name.length : Int)] ++ name ++ [0, 0] at hx
    simp only [List.mem_append, List.mem_cons, List.not_mem_nil, or_false] at hx
    rcases hx with (hx | hx) | hx
    · omega
    · exact hb x hx
    · omega
  · exact hb
theorem hail_bytes (old : Bool) (name : List Int) (hb : Sh.Bytes name) (h : name.length = 80) : Sh.Bytes (hail old name) := by
  intro x hx
  have := odata_len old name h
  unfold hail at hx
  rcases List.mem_append.1 hx with hx | hx
  · simp only [List.mem_cons, List.not_mem_nil, or_false] at hx; omega
  · rcases List.mem_append.1 hx with hx | hx
    · exact opt_bytes _ _ (by omega) x hx
    · exact odata_bytes old name hb h x hx
def begun (blk : Int) (k : List Int) : St := ⟨blk, k, hello, 2, ex0, false, []⟩
def fresh (blk : Int) (k : List Int) : St := ⟨blk, k, hello, 1, ex0, false, []⟩
theorem read_flags (l : List Ps.Tn) (blk : Int) (k : List Int) (ho : Ok (fresh blk ([0, 0, 0, 1] ++ k))) : read l (fresh blk ([0, 0, 0, 1] ++ k)) = read l (begun blk k) := by
  have hf : Gr.fl ([0, 0, 0, 1] ++ k) = (false, 4, 0) := by
    unfold Gr.fl
    rw [if_neg (by rw [List.length_append]; show ¬(4 + _ < 4); omega), if_pos]
    · rfl
    · exact .inl (by show Wi.num [0, 0, 0, 1] = 1; decide)
  have e : step l (fresh blk ([0, 0, 0, 1] ++ k)) = (4, 0, begun blk ([0, 0, 0, 1] ++ k)) := by
    unfold step
    rw [if_pos (show (fresh blk ([0, 0, 0, 1] ++ k)).st = 1 from rfl), show (fresh blk ([0, 0, 0, 1] ++ k)).kept = [0, 0, 0, 1] ++ k from rfl, hf]
    rfl
  have en : nextSt l (fresh blk ([0, 0, 0, 1] ++ k)) = begun blk k := by
    unfold nextSt
    rw [e]
    rfl
  rw [read_step l _ ho, en, e]
  rw [if_neg (show ¬((0 : Int) = 70 ∨ (0 : Int) = 80) by decide), if_pos rfl]
  exact if_neg (show ¬(2 : Int) = 4 by decide)
theorem served_feed (l : List Ps.Tn) (blk : Int) (hbk : 0 ≤ blk ∧ blk ≤ 65535) (old : Bool) (name : List Int) (hn : name.length = 80) (hby : Sh.Bytes name) (rs : List Rq) (hr : ∀ r ∈ rs, RqOk r) (hl : rs.length ≤ 16) :
    feed l (new blk) (hail old name ++ flat rs) = read l (begun blk (opt (okind old) (odata old name).length ++ (odata old name ++ flat rs))) ∧ Ok (begun blk (opt (okind old) (odata old name).length ++ (odata old name ++ flat rs))) := by
  have hfl := flat_len rs hr
  have hhl := hail_len old name hn
  have hlen : (hail old name ++ flat rs).length ≤ 131072 := by rw [List.length_append]; omega
  have hbb : Sh.Bytes (hail old name ++ flat rs) := fun x hx => (List.mem_append.1 hx).elim (hail_bytes old name hby hn x) (flat_bytes rs hr x)
  have e : hail old name ++ flat rs = [0, 0, 0, 1] ++ (opt (okind old) (odata old name).length ++ (odata old name ++ flat rs)) := by
    unfold hail
    rw [List.append_assoc, List.append_assoc]
  have ho : Ok (fresh blk ([0, 0, 0, 1] ++ (opt (okind old) (odata old name).length ++ (odata old name ++ flat rs)))) := by
    rw [← e]
    exact ⟨hbb, hlen, (fun r hr => by cases hr), hbk⟩
  have ho2 : Ok (begun blk (opt (okind old) (odata old name).length ++ (odata old name ++ flat rs))) := ⟨(fun x hx => hbb x (by rw [e]; exact List.mem_append_right _ hx)), (by have h2 := hlen; rw [e, List.length_append] at h2; show (opt (okind old) (odata old name).length ++ (odata old name ++ flat rs)).length ≤ _; omega), (fun r hr => by cases hr), hbk⟩
  refine ⟨?_, ho2⟩
  rw [← read_flags l blk _ ho]
  unfold feed
  rw [if_neg (by show ¬(1 : Int) = 4; decide), if_neg (by show ¬(131072 < (hail old name ++ flat rs).length ∨ 131072 < 0 + (hail old name ++ flat rs).length); omega), e]
  rfl
theorem serves (key : List Int) (t : Ps.Tk) (size blk : Int) (old : Bool) (rs : List Rq) (hw : Ps.TkWf t) (hbk : 0 ≤ blk ∧ blk ≤ 65535) (hr : ∀ r ∈ rs, RqOk r) (hl : rs.length ≤ 16) :
    (t.2.2.2 = 0 ∨ t.2.2.2 > size → (feed [tn1 t.1 key size] (new blk) (hail old (bytesOf (Ps.iss key t)) ++ flat rs)).st ≠ 3 ∧ (feed [tn1 t.1 key size] (new blk) (hail old (bytesOf (Ps.iss key t)) ++ flat rs)).ex = ex0) ∧
    (¬(t.2.2.2 = 0 ∨ t.2.2.2 > size) → (feed [tn1 t.1 key size] (new blk) (hail old (bytesOf (Ps.iss key t)) ++ flat rs)).st = 3 ∧ (feed [tn1 t.1 key size] (new blk) (hail old (bytesOf (Ps.iss key t)) ++ flat rs)).ex = served blk t ∧ (feed [tn1 t.1 key size] (new blk) (hail old (bytesOf (Ps.iss key t)) ++ flat rs)).rs = rs.map nrm) := by
  have hn : (bytesOf (Ps.iss key t)).length = 80 := by rw [bytesOf_length, iss_size]
  have hby := bytes_bytesOf (Ps.iss key t)
  obtain ⟨e1, ho⟩ := served_feed [tn1 t.1 key size] blk hbk old (bytesOf (Ps.iss key t)) hn hby rs hr hl
  have hck := check1 key t size hw
  have hdl := odata_len old _ hn
  rw [e1]
  have es := step_opt [tn1 t.1 key size] (begun blk (opt (okind old) (odata old (bytesOf (Ps.iss key t))).length ++ (odata old (bytesOf (Ps.iss key t)) ++ flat rs))) (okind old) (odata old (bytesOf (Ps.iss key t))) (flat rs) rfl (by cases old <;> decide) (by omega) rfl
  obtain ⟨c, hc⟩ : ∃ c, begun blk (opt (okind old) (odata old (bytesOf (Ps.iss key t))).length ++ (odata old (bytesOf (Ps.iss key t)) ++ flat rs)) = c := ⟨_, rfl⟩
  rw [hc] at es ho ⊢
  have hk : c.kept.drop (16 + ((odata old (bytesOf (Ps.iss key t))).length : Int)).toNat = flat rs := by
    rw [← hc]
    show (opt (okind old) (odata old (bytesOf (Ps.iss key t))).length ++ (odata old (bytesOf (Ps.iss key t)) ++ flat rs)).drop _ = _
    rw [← List.append_assoc]
    exact List.drop_left' (by rw [List.length_append, opt_len]; omega)
  have hst : c.st = 2 := by rw [← hc]; rfl
  have hex : c.ex = ex0 := by rw [← hc]; rfl
  have hrs : c.rs = [] := by rw [← hc]; rfl
  have hbl : c.blk = blk := by rw [← hc]; rfl
  clear e1
  have go : ∀ c2 : St, option [tn1 t.1 key size] c (okind old) (odata old (bytesOf (Ps.iss key t))) = c2 → c2.st ≠ 4 → c2.kept = c.kept → read [tn1 t.1 key size] c = read [tn1 t.1 key size] { c2 with kept := flat rs } ∧ Ok { c2 with kept := flat rs } := by
    intro c2 h2 h4 hkk
    rw [h2] at es
    have h0 : (step [tn1 t.1 key size] c).2.1 = 0 := by rw [es]
    have h44 : (step [tn1 t.1 key size] c).2.2.st ≠ 4 := by rw [es]; exact h4
    have en : nextSt [tn1 t.1 key size] c = { c2 with kept := flat rs } := by
      unfold nextSt
      rw [es]
      show ({ c2 with kept := c2.kept.drop (16 + ((odata old (bytesOf (Ps.iss key t))).length : Int)).toNat } : St) = _
      rw [hkk, hk]
    obtain ⟨g1, _⟩ := next_ok _ c ho h0 h44
    rw [en] at g1
    refine ⟨?_, g1⟩
    rw [read_step _ c ho, if_neg (by rw [h0]; decide), if_pos h0, if_neg h44, en]
  have stop : ∀ c2 : St, option [tn1 t.1 key size] c (okind old) (odata old (bytesOf (Ps.iss key t))) = c2 → c2.st = 4 → read [tn1 t.1 key size] c = c2 := by
    intro c2 h2 h4
    rw [h2] at es
    rw [read_step _ c ho, es]
    show (if (0 : Int) = 70 ∨ (0 : Int) = 80 then c2 else if (0 : Int) = 0 then (if c2.st = 4 then c2 else _) else _) = _
    rw [if_neg (by decide), if_pos rfl, if_pos h4]
  cases old with
  | true =>
    have eo : option [tn1 t.1 key size] c (okind true) (odata true (bytesOf (Ps.iss key t))) = oldway [tn1 t.1 key size] c (bytesOf (Ps.iss key t)) := by
      unfold option
      rw [if_neg (show ¬okind true = 2 by decide), if_neg (show ¬okind true = 3 by decide), if_pos (show okind true = 1 from rfl), show ∀ x, odata true x = x from fun _ => rfl]
    unfold oldway at eo
    rw [str_bytes, hck] at eo
    constructor
    · intro hh
      rw [if_pos hh, if_pos (Or.inl (by show (54 : Int) ≠ 0; decide))] at eo
      rw [stop _ eo rfl]
      exact ⟨by show (4 : Int) ≠ 3; decide, hex⟩
    · intro hh
      rw [if_neg hh, if_neg (by rw [hn]; show ¬((0 : Int) ≠ 0 ∨ 255 < 80); decide)] at eo
      obtain ⟨g1, g2⟩ := go _ eo (by show (3 : Int) ≠ 4; decide) rfl
      rw [g1]
      obtain ⟨i1, i2, i3⟩ := read_reqs _ rs _ g2 rfl rfl (by show c.rs.length + rs.length ≤ 16; rw [hrs]; simp; exact hl) hr
      refine ⟨i1, i2.trans ?_, i3.trans ?_⟩
      · show served c.blk t = _
        rw [hbl]
      · show c.rs ++ _ = _
        rw [hrs]
        rfl
  | false =>
    have eo : option [tn1 t.1 key size] c (okind false) (odata false (bytesOf (Ps.iss key t))) = asked [tn1 t.1 key size] c 7 ([0, 0, 0, ((bytesOf (Ps.iss key t)).length : Int)] ++ bytesOf (Ps.iss key t) ++ [0, 0]) := by
      unfold option
      rw [if_neg (show ¬okind false = 2 by decide), if_neg (show ¬okind false = 3 by decide), if_neg (show ¬okind false = 1 by decide), if_pos (show okind false = 6 ∨ okind false = 7 from Or.inr rfl), show okind false = 7 from rfl, show ∀ x, odata false x = [0, 0, 0, (x.length : Int)] ++ x ++ [0, 0] from fun _ => rfl]
    unfold asked at eo
    rw [ak_name1 _ (by omega), if_neg (by show ¬(0 : Int) ≠ 0; decide), str_bytes, hck] at eo
    constructor
    · intro hh
      rw [if_pos hh, if_pos (by show (54 : Int) ≠ 0; decide)] at eo
      obtain ⟨g1, g2⟩ := go _ eo (by show c.st ≠ 4; rw [hst]; decide) rfl
      rw [g1]
      obtain ⟨i1, i2⟩ := read_other _ rs _ g2 hst rfl hr
      exact ⟨i1, i2.trans hex⟩
    · intro hh
      rw [if_neg hh, if_neg (by show ¬(0 : Int) ≠ 0; decide)] at eo
      simp only [List.not_mem_nil, if_false, if_true] at eo
      obtain ⟨g1, g2⟩ := go _ eo (by show (3 : Int) ≠ 4; decide) rfl
      rw [g1]
      obtain ⟨i1, i2, i3⟩ := read_reqs _ rs _ g2 rfl rfl (by show c.rs.length + rs.length ≤ 16; rw [hrs]; simp; exact hl) hr
      refine ⟨i1, i2.trans ?_, i3.trans ?_⟩
      · show served c.blk t = _
        rw [hbl]
      · show c.rs ++ _ = _
        rw [hrs]
        rfl
end Cn
end Go.Proofs.YtgljicdpcapgnaaDoor
set_option linter.unusedVariables false
set_option linter.unusedSimpArgs false
namespace Go.Proofs.YtgljicdpcapgnaaDoor
open Go.RowKit Go.Proofs.YtgljicdpcapgnaaDoor Go.Proofs.YtgljicdpcapgnaaDoor.PBase Go.Proofs.YtgljicdpcapgnaaDoorW.PrintWords Go.Proofs.YtgljicdpcapgnaaDoorW.PrintLast Go.Proofs.YtgljicdpcapgnaaDoorW.PrintMore Go.Proofs.YtgljicdpcapgnaaDoor.Wi
namespace Rw
theorem row_get {w : World} {A : Option Addr} {n : Nat} {rs : List Rq} (h : kRq.C w A n rs) (i : Nat) (hi : i < rs.length) (hn : rs.length = n) : ∃ ad A1 c1, A = some ad ∧ (∀ w', Below w.heap.size w w' → (Instr.loadAt 61 (.pointer (some (ad.add (i * 6))))).run Tryd.prog w' = .ok (.agg (rqc rs[i].1 rs[i].2.1 rs[i].2.2.1 rs[i].2.2.2.1 rs[i].2.2.2.2.1 (.slice A1 rs[i].2.2.2.2.2.length c1)).toArray) w') ∧ kRq.K w rs[i] (rqc rs[i].1 rs[i].2.1 rs[i].2.2.1 rs[i].2.2.2.1 rs[i].2.2.2.2.1 (.slice A1 rs[i].2.2.2.2.2.length c1)) ∧ w.cell? ⟨(ad.add (i * 6)).block, (ad.add (i * 6)).off + 1, none⟩ = some (.int .u16 rs[i].2.1) ∧ w.cell? ⟨(ad.add (i * 6)).block, (ad.add (i * 6)).off + 2, none⟩ = some (.int .u64 rs[i].2.2.1) ∧ w.cell? ⟨(ad.add (i * 6)).block, (ad.add (i * 6)).off + 5, none⟩ = some (.slice A1 rs[i].2.2.2.2.2.length c1) := by
  obtain ⟨ad, c, e, _, hK, hc0⟩ := Kd.C_get h ((0, 0, 0, 0, 0, []) : Rq) (i : Int) (by omega) (by omega)
  rw [List.getD_eq_getElem?_getD, Int.toNat_natCast, List.getElem?_eq_getElem hi] at hK
  change kRq.K w rs[i] c at hK
  have hc : ∀ j u, c[j]? = some u → w.cell? (ad.add (i * 6 + j)) = some u := fun j u hu => by
    have := hc0 j u hu
    rwa [Int.toNat_natCast] at this
  obtain ⟨A5, c5, rfl, l5, g5⟩ := rq_cells hK
  refine ⟨ad, A5, c5, e, ?_, hK, by rw [← add_field _ _ 1 (by omega)]; exact hc 1 _ rfl, by rw [← add_field _ _ 2 (by omega)]; exact hc 2 _ rfl, by rw [← add_field _ _ 5 (by omega)]; exact hc 5 _ rfl⟩
  intro w' hb
  have hu := Tryd.underlying61
  obtain ⟨q, hi, hsz⟩ := Option.map_eq_some_iff.1 size28
  have hl : (loadCells (ad.add (i * 6)) 6).run Tryd.prog w' = .ok (rqc rs[i].1 rs[i].2.1 rs[i].2.2.1 rs[i].2.2.2.1 rs[i].2.2.2.2.1 (.slice A5 rs[i].2.2.2.2.2.length c5)).toArray w' :=
    run_loadCells_list (P := Tryd.prog) w' (ad.add (i * 6)) (rqc rs[i].1 rs[i].2.1 rs[i].2.2.1 rs[i].2.2.2.1 rs[i].2.2.2.2.1 (.slice A5 rs[i].2.2.2.2.2.length c5)) (fun j v hv => by rw [add_add]; have := hc j v hv; exact (hb.cell (World.block_lt_of_cell? w _ this)).trans this)
  have hagg : (isAgg 61).run Tryd.prog w' = .ok true w' := by
    unfold isAgg
    rw [Sem.run_bind, run_underlying hu w']
    rfl
  simp [Instr.loadAt, Instr.sureAddr, loadVar, Sem.run_bind, hagg, sizeOf, typeInfo, hi, hsz, hl]
end Rw
theorem rwr_.calls {w : World} {r : Rq} {cs : List Value} (hK : kRq.K w r cs) (hw : RqWf r) (hd' : r.2.2.2.2.2.length ≤ 100000) : Calls Tryd.prog 21 #[.agg cs.toArray] w fun e w' => ∃ A c, e = .returned (.slice A (Rw.bs r).length c) ∧ Kd.R (Kd.int .u8) 5 w' w.heap.size (fun _ => True) (.slice A (Rw.bs r).length c) (Rw.bs r) ∧ Below w.heap.size w w' := by
  obtain ⟨A, c, rfl, hl, hC⟩ := rq_cells hK
  obtain ⟨fl, kd, ck, off, len, data⟩ := r
  refine (coamingref08_Write.calls 1000 fl kd ck off len A c data _ w hC hl (rwrite_is 1000 (Nat.le_refl _) fl kd ck off len data (of_wf16 hw.1) (of_wf16 hw.2.1) (of_wf32' hw.2.2.2.2.1) hd')).mono ?_
  rintro e w' ⟨v, rfl, hR, hb⟩
  obtain ⟨A', c', rfl⟩ := Kd.R_slice hR
  exact ⟨A', c', rfl, hR, hb⟩
end Go.Proofs.YtgljicdpcapgnaaDoor
set_option linter.unusedVariables false
set_option linter.unusedSimpArgs false
namespace Go.Proofs.YtgljicdpcapgnaaDoor
open Go.RowKit Go.Proofs.YtgljicdpcapgnaaDoor.PBase Go.Proofs.YtgljicdpcapgnaaDoorW.PrintWords Go.Proofs.YtgljicdpcapgnaaDoorW.PrintLast Go.Proofs.YtgljicdpcapgnaaDoorW.PrintMore
namespace Cn
theorem own_of_R {e base : Nat} {w : World} {ok : Nat → Prop} {v : Value} {xs : List Int} (h : Kd.R (Kd.int .u8) e w base ok v xs) : w.ownsRow base e 1 v xs.length (nums .u8 xs) := by
  obtain ⟨_, inner, ho, hr⟩ := h
  have : inner = nums .u8 xs := Kd.reps_encs (enc := Value.int .u8) hr
  rw [← this]
  exact ho
theorem lit_R (w : World) {base : Nat} (hb : base ≤ w.heap.size) (xs : List Int) (hm : xs.length ≤ 100000) : Kd.R (Kd.int .u8) 5 (w.alloc (.cells (xs.map (Value.int .u8)).toArray 5)) base (fun _ => True) (.slice (some ⟨w.heap.size, 0, none⟩) xs.length xs.length) xs :=
  Kd.R_of_own (own_lit w base 5 .u8 xs hb (by omega)) (fun _ _ => trivial)
theorem odata_86 (name : List Int) (h : name.length = 80) : (odata false name).length = 86 := by
  show ([0, 0, 0, (name.length : Int)] ++ name ++ [0, 0]).length = 86
  simp [h]
theorem hail_new (name : List Int) (h : name.length = 80) : [0, 0, 0, 1, 73, 72, 65, 86, 69, 79, 80, 84, 0, 0, 0, 7, 0, 0, 0, 86, 0, 0, 0, 80] ++ name ++ [0, 0] = hail false name := by
  unfold hail
  rw [odata_86 name h]
  show _ = [0, 0, 0, 1] ++ (opt 7 ((86 : Nat) : Int) ++ ([0, 0, 0, (name.length : Int)] ++ name ++ [0, 0]))
  rw [h]
  rfl
theorem hail_old (name : List Int) (h : name.length = 80) : [0, 0, 0, 1, 73, 72, 65, 86, 69, 79, 80, 84, 0, 0, 0, 1, 0, 0, 0, 80] ++ name = hail true name := by
  unfold hail
  show _ = [0, 0, 0, 1] ++ (opt 1 (name.length : Int) ++ name)
  rw [h]
  rfl
theorem flat_next (rs : List Rq) (i : Nat) (h : i < rs.length) : flat (rs.take (i + 1)) = flat (rs.take i) ++ Rw.bs rs[i] := by
  unfold flat
  rw [List.take_succ_eq_append_getElem h, List.flatMap_append]
  congr 1
  exact List.append_nil _
end Cn
set_option maxHeartbeats 8000000 in
set_option maxRecDepth 100000 in
theorem connServes_.calls (x0 : List Int) (v0 : Value) (x1 : Ps.Tk) (cs1 : List Value) (x2 : Int) (x3 : Int) (x4 : Bool) (x5 : List Rq) (v5 : Value) (W : World) (hk : Sh.Ks W) (hK0 : (Kd.slice 5 (Kd.int .u8)).K W x0 [v0]) (hw0 : x0.length ≤ maxLen ∧ ∀ x ∈ x0, (Lit.int .u8 x).wf = true) (hK1 : Ps.kTk.K W x1 cs1) (hw1 : Ps.TkWf x1) (hw2 : (Lit.int .u64 x2).wf = true) (hw3 : (Lit.int .u16 x3).wf = true) (hK5 : (Kd.slice 61 kRq).K W x5 [v5]) (hw5 : x5.length ≤ maxLen ∧ ∀ x ∈ x5, RqWf x) :
    Calls Tryd.prog 7 #[v0, .agg cs1.toArray, .int .u64 x2, .int .u16 x3, .bool x4, v5] W fun e w' => e = .returned (.bool true) ∧ Below W.heap.size W w' := by
  obtain ⟨A0, c0, he0, hlc0, hC0⟩ := hK0
  obtain rfl : v0 = .slice A0 x0.length c0 := by simpa using he0
  obtain ⟨A5, c5, he5, hlc5, hC5⟩ := hK5
  obtain rfl : v5 = .slice A5 x5.length c5 := by simpa using he5
  obtain rfl := Ps.tk_cells hK1
  obtain ⟨ta, tb, ro, tz⟩ := x1
  have HW := Aside0.mk hw1
  have HK := Aside0.mk hk
  have HC0 := Aside0.mk hC0
  have HC5 := Aside0.mk hC5
  have HBY := Aside0.mk (Ps.bytes_of hw0.2)
  have HRW := Aside0.mk hw5.2
  have H64 := Aside0.mk (Wi.of_wf64 hw2)
  have H16 := Aside0.mk (Wi.of_wf16 hw3)
  have HLC0 := Aside0.mk hlc0
  obtain ⟨n, HN⟩ : ∃ n, Aside0 (x0.length = n) := ⟨_, ⟨rfl⟩⟩
  obtain ⟨r, HR⟩ : ∃ n, Aside0 (x5.length = n) := ⟨_, ⟨rfl⟩⟩
  rw [HN.out] at HLC0 ⊢
  rw [HR.out] at hlc5 ⊢
  clear hw0 hC0 he0 hlc0 hw1 hK1 hk hw2 hw3 hC5 he5 hlc5 hw5
  have HA : Aside0 (Below W.heap.size W (W.alloc (.cells #[.int .u32 ta, .int .u32 tb, .bool ro, .int .u64 tz] 55))) := ⟨below_alloc (Below.refl _ _) _⟩
  have HXT : Aside0 (Wk.Blk (W.alloc (.cells #[.int .u32 ta, .int .u32 tb, .bool ro, .int .u64 tz] 55)) W.heap.size 55 (Ps.tkc (ta, tb, ro, tz))) := ⟨Wk.Blk.new W _ (Ps.tkc (ta, tb, ro, tz))⟩
  have HSK := Aside0.mk Ps.sizeTk
  go_enter Tryd.func7, Tryd.ntmps7
  by_cases h1 : (n : Int) > 100
  · skip
    go_wp2_with fail
    refine (knownc_.calls _ (HK.out.below HA.out)).mono ?_
    rintro e w2 ⟨rfl, hb2⟩
    have HB2 := Aside0.mk (below_then HA.out HA.out.size hb2)
    clear hb2
    go_wp2_with fail
    go_ret
    exact ⟨rfl, HB2.out⟩
  by_cases h2 : n = 0
  · have e2 : ((n : Int) == 0) = true := by subst h2; rfl
    go_wp2_with fail
    refine (knownc_.calls _ (HK.out.below HA.out)).mono ?_
    rintro e w2 ⟨rfl, hb2⟩
    have HB2 := Aside0.mk (below_then HA.out HA.out.size hb2)
    clear hb2
    go_wp2_with fail
    go_ret
    exact ⟨rfl, HB2.out⟩
  have e2 : ((n : Int) == 0) = false := by rw [beq_eq_false_iff_ne]; omega
  by_cases h3 : (r : Int) > 16
  · skip
    go_wp2_with fail
    refine (knownc_.calls _ (HK.out.below HA.out)).mono ?_
    rintro e w2 ⟨rfl, hb2⟩
    have HB2 := Aside0.mk (below_then HA.out HA.out.size hb2)
    clear hb2
    go_wp2_with fail
    go_ret
    exact ⟨rfl, HB2.out⟩
  by_cases h4 : x3 = 0
  · have e4 : (x3 == 0) = true := by subst h4; rfl
    go_wp2_with fail
    refine (knownc_.calls _ (HK.out.below HA.out)).mono ?_
    rintro e w2 ⟨rfl, hb2⟩
    have HB2 := Aside0.mk (below_then HA.out HA.out.size hb2)
    clear hb2
    go_wp2_with fail
    go_ret
    exact ⟨rfl, HB2.out⟩
  have e4 : (x3 == 0) = false := by simpa using h4
  have HN1 : Aside0 (0 < n ∧ n ≤ 100) := ⟨by omega⟩
  have HR1 : Aside0 (r ≤ 16) := ⟨by omega⟩
  have HX3 : Aside0 (1 ≤ x3 ∧ x3 ≤ 65535) := ⟨by have := H16.out; omega⟩
  go_wp2_with fail
  refine (knownc_.calls _ (HK.out.below HA.out)).mono ?_
  rintro e w2 ⟨rfl, hb2⟩
  have HB2 := Aside0.mk (below_then HA.out HA.out.size hb2)
  have HXT2 := Aside0.mk (HXT.out.below_ hb2)
  have hq0 := HXT2.out.at_ 0 rfl
  have HA3 : Aside0 (Below w2.heap.size w2 (w2.alloc (.cells #[.int .u32 ta, .slice A0 n c0, .int .u64 0, .int .u64 x2, .slice none 0 0] 58))) := ⟨below_alloc (Below.refl _ _) _⟩
  have HX3R : Aside0 (Ps.kTn.C (w2.alloc (.cells #[.int .u32 ta, .slice A0 n c0, .int .u64 0, .int .u64 x2, .slice none 0 0] 58)) (some ⟨w2.heap.size, 0, none⟩) [Cn.tn1 ta x0 x2].length [Cn.tn1 ta x0 x2]) := ⟨Ps.row1 (T := 58) (A0 := A0) (c0 := c0) (A1 := none) (c1 := 0) (by
    have := Wk.Blk.new w2 58 [.int .u32 ta, .slice A0 n c0, .int .u64 0, .int .u64 x2, .slice none 0 0]
    rw [← HN.out] at this ⊢
    exact this) (by show x0.length ≤ c0; rw [HN.out]; exact HLC0.out) (Kd.C_below (Kd.C_below HC0.out HB2.out) HA3.out) (Nat.le_refl _) (Kd.C_nil _ _)⟩
  have HTN : Aside0 (∀ y ∈ [Cn.tn1 ta x0 x2], Ps.TnWf y) := ⟨fun y hy => by
    obtain rfl := List.mem_singleton.1 hy
    exact ⟨HW.out.1, by show x0.length ≤ 1000; rw [HN.out]; have := HN1.out.2; omega, by show 0 ≤ 1000; decide, HBY.out⟩⟩
  clear hb2 HXT
  go_wp2_with fail
  clear hq0
  refine (tables_.calls (n := 1) (c := 1) HX3R.out rfl HTN.out).mono ?_
  rintro e w4 ⟨hb4, hpost⟩
  have HB4 := Aside0.mk (below_then HB2.out HB2.out.size (below_then HA3.out HA3.out.size hb4))
  rcases hpost with ⟨_, _, tbl, q, rfl, ht⟩ | ⟨h, _⟩
  rotate_left
  · exact absurd ⟨by decide, Cn.good1 ta x0 x2 (by rw [HN.out]; exact HN1.out.1)⟩ h
  have HX := Aside0.mk (Cn.Ctx.new (HK.out.below HB4.out) ht HTN.out)
  have HXT4 := Aside0.mk (HXT2.out.below_ (below_then HA3.out HA3.out.size hb4))
  clear hb4 ht HX3R HXT2 HA3 HB2
  have HLD := Wk.run_load_blk (P := Tryd.prog) 55 W.heap.size 0 (Ps.tkc (ta, tb, ro, tz)) _ HXT4.out rfl Tryd.underlying55 rfl HSK.out
  go_wp2_with (refine Wk.load rfl 55 (.tmp 7) rfl _ (.pointer (some ⟨W.heap.size, 0, none⟩)) rfl HLD ?_)
  refine (refissue_.calls A0 n c0 x0 ta tb ro tz w4 (Kd.C_below HC0.out HB4.out) HN.out HLC0.out HBY.out (by have := HN1.out.2; omega) HW.out).mono ?_
  rintro e w5 ⟨rfl, hb5⟩
  have HSS := Cn.iss_size x0 (ta, tb, ro, tz)
  obtain ⟨s, HS⟩ : ∃ s, Aside0 (Ps.iss x0 (ta, tb, ro, tz) = s) := ⟨_, ⟨rfl⟩⟩
  rw [HS.out] at HSS ⊢
  have HB5 := Aside0.mk hb5
  have HXT5 := Aside0.mk (HXT4.out.below_ hb5)
  clear hb5 HLD HXT4
  cases x4 with
  | false =>
    have HL106 : Aside0 ((([0, 0, 0, 1, 73, 72, 65, 86, 69, 79, 80, 84, 0, 0, 0, 7, 0, 0, 0, 86, 0, 0, 0, 80] : List Int) ++ bytesOf s ++ [0, 0]).length = 106) := ⟨by simp [bytesOf_length, HSS]⟩
    have HB6 : Aside0 (Below w5.heap.size w5 (w5.alloc (.cells #[.int .u8 0, .int .u8 0, .int .u8 0, .int .u8 1, .int .u8 73, .int .u8 72, .int .u8 65, .int .u8 86, .int .u8 69, .int .u8 79, .int .u8 80, .int .u8 84, .int .u8 0, .int .u8 0, .int .u8 0, .int .u8 7, .int .u8 0, .int .u8 0, .int .u8 0, .int .u8 86, .int .u8 0, .int .u8 0, .int .u8 0, .int .u8 80] 5))) := ⟨below_alloc (Below.refl _ _) _⟩
    have HR6 : Aside0 (Kd.R (Kd.int .u8) 5 (w5.alloc (.cells #[.int .u8 0, .int .u8 0, .int .u8 0, .int .u8 1, .int .u8 73, .int .u8 72, .int .u8 65, .int .u8 86, .int .u8 69, .int .u8 79, .int .u8 80, .int .u8 84, .int .u8 0, .int .u8 0, .int .u8 0, .int .u8 7, .int .u8 0, .int .u8 0, .int .u8 0, .int .u8 86, .int .u8 0, .int .u8 0, .int .u8 0, .int .u8 80] 5)) w5.heap.size (fun _ => True) (.slice (some ⟨w5.heap.size, 0, none⟩) 24 24) ([0, 0, 0, 1, 73, 72, 65, 86, 69, 79, 80, 84, 0, 0, 0, 7, 0, 0, 0, 86, 0, 0, 0, 80] : List Int)) := ⟨Cn.lit_R w5 (Nat.le_refl _) ([0, 0, 0, 1, 73, 72, 65, 86, 69, 79, 80, 84, 0, 0, 0, 7, 0, 0, 0, 86, 0, 0, 0, 80] : List Int) (by decide)⟩
    go_wp2_with (first
      | (at_builtin; refine print_append_str (w0 := w5) w5.heap.size rfl (.tmp 74) (.tmp 75) 23 9 5 rfl Tryd.underlying23 Tryd.underlying9 Cn.infoByte (.slice (some ⟨w5.heap.size, 0, none⟩) 24 24) ([0, 0, 0, 1, 73, 72, 65, 86, 69, 79, 80, 84, 0, 0, 0, 7, 0, 0, 0, 86, 0, 0, 0, 80] : List Int) s rfl rfl (Cn.own_of_R HR6.out) HB6.out HB6.out.size (by rw [HSS]; decide) ?_; intro v7 w7 ho7 hb7 _; obtain ⟨A7, c7, rfl⟩ := Kd.R_slice (show Kd.R (Kd.int .u8) 5 w7 w5.heap.size (fun _ => True) v7 (([0, 0, 0, 1, 73, 72, 65, 86, 69, 79, 80, 84, 0, 0, 0, 7, 0, 0, 0, 86, 0, 0, 0, 80] : List Int) ++ bytesOf s) from Kd.R_of_own ho7 (fun _ _ => trivial)); have HR7 := Aside0.mk (show Kd.R (Kd.int .u8) 5 w7 w5.heap.size (fun _ => True) (.slice A7 (([0, 0, 0, 1, 73, 72, 65, 86, 69, 79, 80, 84, 0, 0, 0, 7, 0, 0, 0, 86, 0, 0, 0, 80] : List Int) ++ bytesOf s).length c7) (([0, 0, 0, 1, 73, 72, 65, 86, 69, 79, 80, 84, 0, 0, 0, 7, 0, 0, 0, 86, 0, 0, 0, 80] : List Int) ++ bytesOf s) from Kd.R_of_own ho7 (fun _ _ => trivial)); have HB7 := Aside0.mk hb7; rw [show (([0, 0, 0, 1, 73, 72, 65, 86, 69, 79, 80, 84, 0, 0, 0, 7, 0, 0, 0, 86, 0, 0, 0, 80] : List Int) ++ bytesOf s).length = 104 from by rw [List.length_append, bytesOf_length, HSS]; rfl] at HR7 ⊢; clear ho7 hb7)
      | (at_builtin; refine Kd.R_append_rows (Kd.int .u8) (w0 := w5) w5.heap.size rfl (.tmp 79) (.tmp 80) 23 5 (.int .u8 0) 1 rfl Tryd.underlying23 Cn.infoByte rfl (by decide) (by decide) (.slice A7 104 c7) (([0, 0, 0, 1, 73, 72, 65, 86, 69, 79, 80, 84, 0, 0, 0, 7, 0, 0, 0, 86, 0, 0, 0, 80] : List Int) ++ bytesOf s) [0, 0] (some ⟨w7.heap.size, 0, none⟩) 2 2 (fun _ => True) (fun _ => False) rfl rfl (Kd.R_below HR7.out (below_alloc (Below.refl _ _) _)) (Lit.reads_new w7 _ _ _ .u8 [0, 0] rfl (by decide)) (fun _ _ h => h) (fun _ h => h.elim) (fun _ _ => trivial) (below_then HB7.out HB7.out.size (below_alloc (Below.refl _ _) _)) (Nat.le_trans HB7.out.size (below_alloc (Below.refl _ _) _).size) (by rw [List.length_append, bytesOf_length, HSS]; decide) ?_; intro v8 w8 hr8 hb8 _ _; obtain ⟨A8, c8, rfl⟩ := Kd.R_slice hr8; have HR8 := Aside0.mk hr8; have HB8 := Aside0.mk hb8; rw [HL106.out] at HR8 ⊢; clear hr8 hb8))
    have HRB : Aside0 (Kd.R (Kd.int .u8) 5 w8 w5.heap.size (fun _ => True) (.slice A8 106 c8) (Cn.hail false (bytesOf s) ++ Cn.flat (x5.take 0))) := ⟨by
      rw [List.take_zero, show Cn.flat [] = [] from rfl, List.append_nil, ← Cn.hail_new (bytesOf s) (by rw [bytesOf_length, HSS])]
      exact HR8.out⟩
    have HNL : Aside0 (106 = (Cn.hail false (bytesOf s) ++ Cn.flat (x5.take 0)).length) := ⟨by rw [List.take_zero, show Cn.flat [] = [] from rfl, List.append_nil, ← Cn.hail_new (bytesOf s) (by rw [bytesOf_length, HSS])]; simp [bytesOf_length, HSS]⟩
    have HRO : Aside0 (∀ q ∈ x5.take 0, Cn.RqOk q) := ⟨fun q hq => by rw [List.take_zero] at hq; cases hq⟩
    go_loopw [18, 19] (fun bx ix wr => ∃ (i nb cb : Nat) (Ab : Option Addr), bx = .slice Ab nb cb ∧ ix = .int .i64 i ∧ i ≤ r ∧ Aside0 (nb = (Cn.hail false (bytesOf s) ++ Cn.flat (x5.take i)).length) ∧ Aside0 (∀ q ∈ x5.take i, Cn.RqOk q) ∧ Aside0 (Kd.R (Kd.int .u8) 5 wr w5.heap.size (fun _ => True) (.slice Ab nb cb) (Cn.hail false (bytesOf s) ++ Cn.flat (x5.take i))) ∧ Aside0 (Below w5.heap.size w5 wr)) (fun _ ix _ => r - (intOf ix).toNat)
    case atStart => exact ⟨0, 106, c8, A8, rfl, rfl, Nat.zero_le _, HNL, HRO, HRB, HB8⟩
    case round =>
      clear HRB HNL HRO HR6 HB6
      obtain ⟨i, nb, cb, Ab, rfl, rfl, hi, HNB, HRO, HRB, HB⟩ := hrel
      have HBW := Aside0.mk (below_then HB4.out HB4.out.size (below_then HB5.out HB5.out.size HB.out))
      by_cases hlt : i < r
      · have hltI : (i : Int) < r := by omega
        have hi16 : (i : Int) < 16 := by have := HR1.out; omega
        have hki : i < x5.length := by rw [HR.out]; exact hlt
        obtain ⟨ad, A1, c1, hA, hrun, hKr, hkd, hck, hcell⟩ := Rw.row_get (Kd.C_below HC5.out HBW.out) i hki rfl
        subst hA
        have HQW : Aside0 (RqWf x5[i]) := ⟨HRW.out _ (List.getElem_mem hki)⟩
        obtain ⟨rq, HRQ⟩ : ∃ rq, Aside0 (x5[i] = rq) := ⟨_, ⟨rfl⟩⟩
        rw [HRQ.out] at hrun hKr hcell hkd HQW
        have HKR := Aside0.mk hKr
        obtain ⟨m, HM⟩ : ∃ m, Aside0 (rq.2.2.2.2.2.length = m) := ⟨_, ⟨rfl⟩⟩
        obtain ⟨kd, HKD⟩ : ∃ k, Aside0 (rq.2.1 = k) := ⟨_, ⟨rfl⟩⟩
        rw [HM.out] at hcell HKR hrun
        rw [HKD.out] at hkd
        have HRUN := Aside0.mk (hrun _ (Below.refl _ _))
        clear hrun hKr hck
        by_cases h100 : (m : Int) > 100
        · go_wp2_with fail
          go_ret
          exact ⟨rfl, HBW.out⟩
        by_cases hk2 : kd = 2
        · have e5 : (kd == 2) = true := by subst hk2; rfl
          go_wp2_with fail
          go_ret
          exact ⟨rfl, HBW.out⟩
        have e5 : (kd == 2) = false := by simpa using hk2
        have HOK : Aside0 (Cn.RqOk rq) := ⟨HQW.out, by rw [HM.out]; omega, by rw [HKD.out]; exact hk2⟩
        clear hk2
        go_wp2_with (refine Wk.load rfl 61 (.tmp 106) rfl _ (.pointer (some (ad.add (i * 6)))) rfl HRUN.out ?_)
        clear e5 hcell hkd
        refine (rwr_.calls HKR.out HQW.out (by rw [HM.out]; omega)).mono ?_
        rintro e w9 ⟨A9, c9, rfl, hr9, hb9⟩
        have HR9 := Aside0.mk (Kd.R_reads' hr9)
        have HRB9 := Aside0.mk (Kd.R_below HRB.out hb9)
        have HB9 := Aside0.mk (below_then HB.out HB.out.size hb9)
        have HSH := Aside0.mk (Cn.bs_short rq HOK.out)
        have HFL := Aside0.mk (Cn.flat_len (x5.take i) HRO.out)
        have HTI : Aside0 ((x5.take i).length ≤ 16) := ⟨by rw [List.length_take]; have := HR1.out; have := HR.out; omega⟩
        obtain ⟨nb2, HN2⟩ : ∃ q, Aside0 ((Rw.bs rq).length = q) := ⟨_, ⟨rfl⟩⟩
        rw [HN2.out] at HR9 ⊢
        have HSH2 : Aside0 (nb2 ≤ 128) := ⟨by rw [← HN2.out]; exact HSH.out.1⟩
        have HHL := Aside0.mk (Cn.hail_len false (bytesOf s) (by rw [bytesOf_length, HSS]))
        clear hr9 hb9
        go_wp2_with (at_builtin; refine Kd.R_append_rows (Kd.int .u8) (w0 := w5) w5.heap.size rfl (.tmp 103) (.tmp 108) 23 5 (.int .u8 0) 1 rfl Tryd.underlying23 Cn.infoByte rfl (by decide) (by decide) (.slice Ab nb cb) (Cn.hail false (bytesOf s) ++ Cn.flat (x5.take i)) (Rw.bs rq) A9 nb2 c9 (fun _ => True) (fun _ => False) rfl rfl HRB9.out HR9.out.2.2 (fun _ _ h => h) (fun _ h => h.elim) (fun _ _ => trivial) HB9.out HB9.out.size (by rw [List.length_append]; have := HHL.out; have := HFL.out; have := HTI.out; have := HSH2.out; omega) ?_; intro v10 w10 hr10 hb10 _ _; obtain ⟨A10, c10, rfl⟩ := Kd.R_slice hr10; have HR10 := Aside0.mk hr10; have HB10 := Aside0.mk hb10; clear hr10 hb10)
        have HFN : Aside0 (Cn.hail false (bytesOf s) ++ Cn.flat (x5.take i) ++ Rw.bs rq = Cn.hail false (bytesOf s) ++ Cn.flat (x5.take (i + 1))) := ⟨by rw [Cn.flat_next x5 i hki, HRQ.out, List.append_assoc]⟩
        have HRO10 : Aside0 (∀ q ∈ x5.take (i + 1), Cn.RqOk q) := ⟨fun q hq => by
          rw [List.take_succ_eq_append_getElem hki] at hq
          rcases List.mem_append.1 hq with hq | hq
          · exact HRO.out q hq
          · rw [List.mem_singleton.1 hq, HRQ.out]; exact HOK.out⟩
        exact ⟨⟨i + 1, (Cn.hail false (bytesOf s) ++ Cn.flat (x5.take (i + 1))).length, c10, A10, by rw [← HFN.out]; simp [Nat.add_assoc], by simp, by omega, ⟨rfl⟩, HRO10, ⟨by have := HR10.out; rw [HFN.out] at this; exact this⟩, HB10⟩, by simp [intOf]; omega⟩
      · obtain rfl : r = i := by omega
        have HTA : Aside0 (x5.take r = x5) := ⟨List.take_of_length_le (by rw [HR.out]; exact Nat.le_refl _)⟩
        rw [HTA.out] at HRO HRB HNB
        have HRC := Aside0.mk (Kd.R_reads' HRB.out)
        have HX5R : Aside0 (x5.length ≤ 16) := ⟨by rw [HR.out]; exact HR1.out⟩
        have HSV := Aside0.mk (Cn.serves x0 (ta, tb, ro, tz) x2 x3 false x5 HW.out (by have := HX3.out; omega) HRO.out HX5R.out)
        rw [HS.out] at HSV
        have HBB : Aside0 (Sh.Bytes (Cn.hail false (bytesOf s) ++ Cn.flat x5)) := ⟨fun x hx => (List.mem_append.1 hx).elim (Cn.hail_bytes false _ (Cn.bytes_bytesOf s) (by rw [bytesOf_length, HSS]) x) (Cn.flat_bytes x5 HRO.out x)⟩
        have HB45 := Aside0.mk (below_then HB5.out HB5.out.size HB.out)
        have hx30 : 0 ≤ x3 := by have := HX3.out; omega
        have hx31 : x3 ≤ 65535 := HX3.out.2
        have HXTr := Aside0.mk (HXT5.out.below_ HB.out)
        go_wp2_with fail
        refine (newconn_.calls wr tbl x3).mono ?_
        rintro e w11 ⟨p, rfl, hc11, hb11⟩
        have HC11 := Aside0.mk hc11
        have HB11 := Aside0.mk (below_then HB45.out HB45.out.size hb11)
        have HRC11 := Aside0.mk (Kd.C_below HRC.out.2.2 hb11)
        have HXT11 := Aside0.mk (HXTr.out.below_ hb11)
        have HS11 : Aside0 (wr.heap.size ≤ w11.heap.size) := ⟨hb11.size⟩
        have HS4r : Aside0 (w4.heap.size ≤ wr.heap.size) := ⟨HB45.out.size⟩
        have HWr : Aside0 (W.heap.size < wr.heap.size) := ⟨HXTr.out.lt⟩
        clear hc11 hb11 HB45 HXTr HXT5 HRB HB
        go_wp2_with fail
        refine (feedc_.calls HX.out HC11.out (fun k hk => Nat.le_trans HS11.out hk) (Cn.new_ok x3 (by have := HX3.out; omega)) HB11.out (fun k hk => Nat.le_trans HS4r.out hk) (by have := Cn.hello_len; show Cn.hello.length ≤ _; omega) HRC11.out HNB.out.symm HRC.out.2.1 HBB.out).mono ?_
        rintro e w12 ⟨rfl, hc12, hf12⟩
        have HFE := Aside0.mk (Cn.feed_ok [Cn.tn1 ta x0 x2] (Cn.new x3) _ (Cn.new_ok x3 (by have := HX3.out; omega)) HBB.out).1
        obtain ⟨S, HSQ⟩ : ∃ S, Aside0 (Cn.feed [Cn.tn1 ta x0 x2] (Cn.new x3) (Cn.hail false (bytesOf s) ++ Cn.flat x5) = S) := ⟨_, ⟨rfl⟩⟩
        have hsv := HSV.out
        change (tz = 0 ∨ tz > x2 → (Cn.feed [Cn.tn1 ta x0 x2] (Cn.new x3) (Cn.hail false (bytesOf s) ++ Cn.flat x5)).st ≠ 3 ∧ (Cn.feed [Cn.tn1 ta x0 x2] (Cn.new x3) (Cn.hail false (bytesOf s) ++ Cn.flat x5)).ex = Cn.ex0) ∧ (¬(tz = 0 ∨ tz > x2) → (Cn.feed [Cn.tn1 ta x0 x2] (Cn.new x3) (Cn.hail false (bytesOf s) ++ Cn.flat x5)).st = 3 ∧ (Cn.feed [Cn.tn1 ta x0 x2] (Cn.new x3) (Cn.hail false (bytesOf s) ++ Cn.flat x5)).ex = Cn.served x3 (ta, tb, ro, tz) ∧ (Cn.feed [Cn.tn1 ta x0 x2] (Cn.new x3) (Cn.hail false (bytesOf s) ++ Cn.flat x5)).rs = x5.map Cn.nrm) at hsv
        rw [HSQ.out] at hc12 HFE hsv
        have HSV2 := Aside0.mk hsv
        have HC12 := Aside0.mk hc12
        have HB12 := Aside0.mk (hf12.below HB11.out HB11.out.size (fun k hk => Nat.le_trans HS4r.out hk))
        have HXT12 := Aside0.mk (Cn.Blk_frame HXT11.out hf12 (fun hh => by have := HWr.out; omega))
        have z3 := HXT12.out.at_ 3 rfl
        clear hc12 hf12 hsv HSV HB11 HXT11 HC11
        by_cases hz : tz = 0 ∨ tz > x2
        · obtain ⟨h3, hex⟩ := HSV2.out.1 hz
          have HST := Aside0.mk h3
          have HEX := Aside0.mk hex
          have HBZ : Aside0 (Below W.heap.size W w12) := ⟨below_then HB4.out HB4.out.size HB12.out⟩
          clear h3 hex
          by_cases hz0 : tz = 0
          · have e7 : (tz == 0) = true := by subst hz0; rfl
            go_wp2_with fail
            clear z3
            refine (state_.calls HC12.out).mono ?_
            rintro e w13 ⟨rfl, hb13⟩
            have HC13 := Aside0.mk (HC12.out.below hb13)
            have HB13 := Aside0.mk (below_then HBZ.out HBZ.out.size hb13)
            obtain ⟨st, HST0⟩ : ∃ s, Aside0 (S.st = s) := ⟨_, ⟨rfl⟩⟩
            rw [HST0.out] at HST ⊢
            have e6 : (st == 3) = false := by simpa using HST.out
            have e6n : ¬st = 3 := HST.out
            have e6m : (st != 3) = true := by simpa using HST.out
            clear hb13
            go_wp2_with fail
            refine (export_.calls HC13.out).mono ?_
            rintro e w14 ⟨rfl, hb14⟩
            have HB14 := Aside0.mk (below_then HB13.out HB13.out.size hb14)
            rw [HEX.out]
            simp only [Cn.exc, Cn.ex0]
            clear hb14
            go_wp2_with fail
            go_ret
            exact ⟨rfl, HB14.out⟩
          · have e7 : (tz == 0) = false := by simpa using hz0
            have hz1 : tz > x2 := hz.resolve_left hz0
            clear hz hz0
            go_wp2_with fail
            clear z3
            refine (state_.calls HC12.out).mono ?_
            rintro e w13 ⟨rfl, hb13⟩
            have HC13 := Aside0.mk (HC12.out.below hb13)
            have HB13 := Aside0.mk (below_then HBZ.out HBZ.out.size hb13)
            obtain ⟨st, HST0⟩ : ∃ s, Aside0 (S.st = s) := ⟨_, ⟨rfl⟩⟩
            rw [HST0.out] at HST ⊢
            have e6 : (st == 3) = false := by simpa using HST.out
            have e6n : ¬st = 3 := HST.out
            have e6m : (st != 3) = true := by simpa using HST.out
            clear hb13
            go_wp2_with fail
            refine (export_.calls HC13.out).mono ?_
            rintro e w14 ⟨rfl, hb14⟩
            have HB14 := Aside0.mk (below_then HB13.out HB13.out.size hb14)
            rw [HEX.out]
            simp only [Cn.exc, Cn.ex0]
            clear hb14
            go_wp2_with fail
            go_ret
            exact ⟨rfl, HB14.out⟩
        · obtain ⟨h3, hex, hrs⟩ := HSV2.out.2 hz
          have e7 : (tz == 0) = false := by rw [beq_eq_false_iff_ne]; omega
          have hz1 : ¬tz > x2 := by omega
          have HZ := Aside0.mk hz
          have HST := Aside0.mk h3
          have HEX := Aside0.mk hex
          have HRS := Aside0.mk hrs
          clear h3 hex hrs hz
          go_wp2_with fail
          obtain ⟨Q, HQ⟩ : ∃ Q, Aside0 ((18446744073709551615 : Int) / x3 = Q) := ⟨_, ⟨rfl⟩⟩
          have hw16 : IntKind.u64.wrap x3 = x3 := Bt.wraps_u64 x3 hx30 (by omega)
          have hdv : IntKind.u64.wrap (Int.tdiv 18446744073709551615 x3) = Q := by
            rw [Int.tdiv_eq_ediv_of_nonneg (by decide), HQ.out]
            refine Bt.wraps_u64 Q ?_ ?_
            · rw [← HQ.out]; exact Int.ediv_nonneg (by decide) hx30
            · have : (18446744073709551615 : Int) / x3 ≤ 18446744073709551615 := Int.ediv_le_self _ (by decide)
              rw [HQ.out] at this
              omega
          refine wp_region_noPanic ?_
          refine Rg.s1 6 (fun w' => Below w12.heap.size w12 w') [] (Below.refl _ _).drew #[false, false, false, false, false, false] (fun hHeld => ?_)
          refine Rg.p1 0 (.some 140) ?_
          refine Rg.t1 1 (.some 141) hHeld ?_ (hy := by intro w' hS'; (have c1 := (HXT12.out.below_ hS').at_ 3 rfl; go_simp); first | done | with_reducible rfl)
          refine Rg.p1 2 (.some 142) ?_
          refine Rg.p1 3 (.some 143) ?_
          refine Rg.p1 4 (.some 144) ?_ (hy := by intro w'; (go_simp; try rw [if_neg h4, hdv]); first | done | with_reducible rfl)
          refine Rg.p1 5 (.some 145) ?_
          refine Rg.d1 ?_
          refine NoPanic.normal ?_
          have HB13 : Aside0 (Below w4.heap.size w4 w12.drew) := ⟨HB12.out.drew⟩
          have HC13 : Aside0 (Cn.Cn w12.drew (fun k => wr.heap.size ≤ k) p tbl S) := ⟨HC12.out.below (Below.refl _ _).drew⟩
          have HXT13 : Aside0 (Wk.Blk w12.drew W.heap.size 55 (Ps.tkc (ta, tb, ro, tz))) := ⟨HXT12.out.below_ (Below.refl _ _).drew⟩
          have HSE : Aside0 (Cn.served x3 (ta, tb, ro, tz) = (ta, (if tz ≤ Q then tz * x3 else 18446744073709551615), ro)) := ⟨by
            unfold Cn.served
            show (ta, (if x3 = 0 ∨ tz ≤ 18446744073709551615 / x3 then tz * x3 else 18446744073709551615), ro) = _
            rw [HQ.out]
            by_cases hq : tz ≤ Q
            · rw [if_pos (Or.inr hq), if_pos hq]
            · rw [if_neg (fun h => h.elim h4 hq), if_neg hq]⟩
          have HML : Aside0 (tz ≤ Q → IntKind.u64.wrap (tz * x3) = tz * x3) := ⟨fun hq => by
            have h0 : 0 ≤ tz := HW.out.2.2.1
            have h1 : tz * x3 ≤ Q * x3 := Int.mul_le_mul_of_nonneg_right hq hx30
            have h2 : Q * x3 ≤ 18446744073709551615 := by rw [← HQ.out]; exact Int.ediv_mul_le _ h4
            exact Bt.wraps_u64 _ (Int.mul_nonneg h0 hx30) (by omega)⟩
          rw [HSE.out] at HEX
          clear z3 hw16 hdv
          by_cases hq : Q < tz
          · rw [if_neg (by omega)] at HEX
            go_wp2_with fail
            refine (waits_.calls HC13.out (fun q hq => by have := HFE.out.rs_ q hq; omega)).mono ?_
            rintro e w14 ⟨A14, n14, rfl, hR14, hb14⟩
            rw [HRS.out] at hR14 ⊢
            have HR14 := Aside0.mk (Kd.R_reads' hR14)
            have HML14 : Aside0 ((x5.map Cn.nrm).length = r) := ⟨by rw [List.length_map, HR.out]⟩
            rw [HML14.out] at HR14 ⊢
            have HC14 := Aside0.mk (HC13.out.below hb14)
            have HXT14 := Aside0.mk (HXT13.out.below_ hb14)
            have HB14 := Aside0.mk (below_then HB13.out HB13.out.size hb14)
            have hr16 : (r : Int) ≤ 16 := by have := HR1.out; omega
            clear hb14 hR14
            go_wp2_with fail
            go_loopw [23] (fun ix wq => ∃ (j : Nat), ix = .int .i64 j ∧ j ≤ r ∧ Aside0 (Below w14.heap.size w14 wq)) (fun ix _ => r - (intOf ix).toNat)
            case atStart => exact ⟨0, rfl, Nat.zero_le _, ⟨Below.refl _ _⟩⟩
            case round =>
              obtain ⟨wY, rfl⟩ : ∃ w : World, w = wr := ⟨_, rfl⟩
              obtain ⟨j, rfl, hj, HBJ⟩ := hrel
              by_cases hjr : j < r
              · have hjrI : (j : Int) < r := by omega
                have hkj : j < x5.length := by rw [HR.out]; exact hjr
                have hkm : j < (x5.map Cn.nrm).length := by rw [List.length_map]; exact hkj
                have hbw14 := below_then HB4.out HB4.out.size HB14.out
                obtain ⟨ad1, A15, c15, hA1, -, -, hkd1, hck1, -⟩ := Rw.row_get HR14.out.2.2 j hkm HML14.out
                obtain ⟨ad2, A16, c16, hA2, -, -, hkd2, hck2, -⟩ := Rw.row_get (Kd.C_below HC5.out hbw14) j hkj rfl
                rw [List.getElem_map] at hkd1 hck1
                change w14.cell? _ = some (.int .u16 x5[j].2.1) at hkd1
                change w14.cell? _ = some (.int .u64 x5[j].2.2.1) at hck1
                obtain ⟨kj, HKJ⟩ : ∃ k, Aside0 (x5[j].2.1 = k) := ⟨_, ⟨rfl⟩⟩
                obtain ⟨cj, HCJ⟩ : ∃ k, Aside0 (x5[j].2.2.1 = k) := ⟨_, ⟨rfl⟩⟩
                rw [HKJ.out] at hkd1 hkd2
                rw [HCJ.out] at hck1 hck2
                have hst : ∀ a v, w14.cell? a = some v → ∀ w', Below wY.heap.size wY w' → w'.cell? a = some v := fun a v h w' hb => ((below_then HBJ.out HBJ.out.size hb).cell (World.block_lt_of_cell? _ _ h)).trans h
                have H1 := Aside0.mk (hst _ _ hkd1)
                have H2 := Aside0.mk (hst _ _ hkd2)
                have H3 := Aside0.mk (hst _ _ hck1)
                have H4 := Aside0.mk (hst _ _ hck2)
                subst hA1
                subst hA2
                clear hst hkd1 hkd2 hck1 hck2 hbw14
                go_wp2_with fail
                refine wp_region_noPanic ?_
                refine Rg.s1 24 (fun w' => Below wY.heap.size wY w') [] (Below.refl _ _).drew #[false, false, false, false, false, false, false, false, false, false, false, false, false, false, false, false, false, false, false, false, false, false, false, false] (fun hHeld => ?_)
                refine Rg.p1 0 (.some 159) ?_
                refine Rg.p1 1 (.some 160) ?_
                refine Rg.p1 2 (.some 161) ?_
                refine Rg.p1 3 (.some 162) ?_
                refine Rg.t1 4 (.some 163) hHeld ?_ (hy := by intro w' hS'; (have c1 := H3.out _ hS'; go_simp); first | done | with_reducible rfl)
                refine Rg.p1 5 (.some 164) ?_
                refine Rg.p1 6 (.some 165) ?_
                refine Rg.p1 7 (.some 166) ?_
                refine Rg.p1 8 (.some 167) ?_
                refine Rg.t1 9 (.some 168) hHeld ?_ (hy := by intro w' hS'; (have c1 := H4.out _ hS'; go_simp); first | done | with_reducible rfl)
                refine Rg.p1 10 (.some 169) ?_
                refine Rg.p1 11 (.some 170) ?_
                refine Rg.p1 12 (.some 171) ?_
                refine Rg.p1 13 (.some 172) ?_
                refine Rg.p1 14 (.some 173) ?_
                refine Rg.p1 15 (.some 174) ?_
                refine Rg.t1 16 (.some 175) hHeld ?_ (hy := by intro w' hS'; (have c1 := H1.out _ hS'; go_simp); first | done | with_reducible rfl)
                refine Rg.p1 17 (.some 176) ?_
                refine Rg.p1 18 (.some 177) ?_
                refine Rg.p1 19 (.some 178) ?_
                refine Rg.p1 20 (.some 179) ?_
                refine Rg.t1 21 (.some 180) hHeld ?_ (hy := by intro w' hS'; (have c1 := H2.out _ hS'; go_simp); first | done | with_reducible rfl)
                refine Rg.p1 22 (.some 181) ?_
                refine Rg.p1 23 (.some 182) ?_
                refine Rg.d1 ?_
                refine NoPanic.normal ?_
                have HBJ2 : Aside0 (Below w14.heap.size w14 wY.drew) := ⟨HBJ.out.drew⟩
                go_wp2_with fail
                exact ⟨⟨j + 1, by simp, by omega, HBJ2⟩, by simp [intOf]; omega⟩
              · obtain rfl : r = j := by omega
                have HC15 := Aside0.mk (HC14.out.below HBJ.out)
                have HXT15 := Aside0.mk (HXT14.out.below_ HBJ.out)
                have HBW15 := Aside0.mk (below_then HB4.out HB4.out.size (below_then HB14.out HB14.out.size HBJ.out))
                go_wp2_with fail
                refine wp_region_noPanic ?_
                refine Rg.s1 15 (fun w' => Below wY.heap.size wY w') [] (Below.refl _ _).drew #[false, false, false, false, false, false, false, false, false, false, false, false, false, false, false] (fun hHeld => ?_)
                refine Rg.p1 0 (.some 183) ?_
                refine Rg.o1 1 (.some 184) (fun K hK => ?_)
                refine call_ 13 #[.pointer (some ⟨p, 0, none⟩)] (by rfl) rfl (by go_simp) ?_
                refine (state_.calls (HC15.out.below hHeld)).mono ?_
                rintro e w16 ⟨rfl, hb16⟩
                rw [HST.out]
                have HB16 := Aside0.mk (below_then hHeld hHeld.size hb16)
                clear hb16
                refine ⟨_, rfl, ?_⟩
                refine hK.out _ _ HB16.out (fun hHeld => ?_)
                clear hK K
                refine Rg.n1 ?_
                refine Rg.p1 2 (.some 185) ?_
                refine Rg.p1 3 (.some 186) ?_
                refine Rg.p1 4 (.some 187) ?_
                refine Rg.p1 6 (.some 189) ?_
                refine Rg.t1 7 (.some 190) hHeld ?_ (hy := by intro w' hS'; (have c1 := (HXT15.out.below_ hS').at_ 0 rfl; go_simp); first | done | with_reducible rfl)
                refine Rg.p1 8 (.some 191) ?_
                refine Rg.p1 9 (.some 192) ?_
                refine Rg.t1 10 (.some 193) hHeld ?_ (hy := by intro w' hS'; (have c1 := (HXT15.out.below_ hS').at_ 2 rfl; go_simp); first | done | with_reducible rfl)
                refine Rg.p1 11 (.some 194) ?_
                refine Rg.o1 5 (.some 188) (fun K hK => ?_)
                refine call_ 15 #[.pointer (some ⟨p, 0, none⟩)] (by rfl) rfl (by go_simp) ?_
                refine (export_.calls (HC15.out.below hHeld)).mono ?_
                rintro e w17 ⟨rfl, hb17⟩
                rw [HEX.out]
                simp only [Cn.exc]
                have HB17 := Aside0.mk (below_then hHeld hHeld.size hb17)
                clear hb17
                refine ⟨_, rfl, ?_⟩
                refine hK.out _ _ HB17.out (fun hHeld => ?_)
                clear hK K
                refine Rg.n1 ?_
                refine Rg.p1 12 (.some 195) ?_
                refine Rg.p1 13 (.some 196) ?_
                refine Rg.p1 14 (.some 12) ?_
                refine Rg.d1 ?_
                refine NoPanic.normal ?_
                have HB18 := Aside0.mk (below_then HBW15.out HBW15.out.size HB17.out)
                go_wp2_with fail
                go_ret
                exact ⟨rfl, HB18.out⟩
          · rw [if_pos (by omega)] at HEX
            rw [HML.out (by omega)]
            obtain ⟨sz, HSZ⟩ : ∃ sz, Aside0 (tz * x3 = sz) := ⟨_, ⟨rfl⟩⟩
            rw [HSZ.out] at HEX ⊢
            have hq2 : tz ≤ Q := by omega
            go_wp2_with fail
            refine (waits_.calls HC13.out (fun q hq => by have := HFE.out.rs_ q hq; omega)).mono ?_
            rintro e w14 ⟨A14, n14, rfl, hR14, hb14⟩
            rw [HRS.out] at hR14 ⊢
            have HR14 := Aside0.mk (Kd.R_reads' hR14)
            have HML14 : Aside0 ((x5.map Cn.nrm).length = r) := ⟨by rw [List.length_map, HR.out]⟩
            rw [HML14.out] at HR14 ⊢
            have HC14 := Aside0.mk (HC13.out.below hb14)
            have HXT14 := Aside0.mk (HXT13.out.below_ hb14)
            have HB14 := Aside0.mk (below_then HB13.out HB13.out.size hb14)
            have hr16 : (r : Int) ≤ 16 := by have := HR1.out; omega
            clear hb14 hR14
            go_wp2_with fail
            go_loopw [23] (fun ix wq => ∃ (j : Nat), ix = .int .i64 j ∧ j ≤ r ∧ Aside0 (Below w14.heap.size w14 wq)) (fun ix _ => r - (intOf ix).toNat)
            case atStart => exact ⟨0, rfl, Nat.zero_le _, ⟨Below.refl _ _⟩⟩
            case round =>
              obtain ⟨wY, rfl⟩ : ∃ w : World, w = wr := ⟨_, rfl⟩
              obtain ⟨j, rfl, hj, HBJ⟩ := hrel
              by_cases hjr : j < r
              · have hjrI : (j : Int) < r := by omega
                have hkj : j < x5.length := by rw [HR.out]; exact hjr
                have hkm : j < (x5.map Cn.nrm).length := by rw [List.length_map]; exact hkj
                have hbw14 := below_then HB4.out HB4.out.size HB14.out
                obtain ⟨ad1, A15, c15, hA1, -, -, hkd1, hck1, -⟩ := Rw.row_get HR14.out.2.2 j hkm HML14.out
                obtain ⟨ad2, A16, c16, hA2, -, -, hkd2, hck2, -⟩ := Rw.row_get (Kd.C_below HC5.out hbw14) j hkj rfl
                rw [List.getElem_map] at hkd1 hck1
                change w14.cell? _ = some (.int .u16 x5[j].2.1) at hkd1
                change w14.cell? _ = some (.int .u64 x5[j].2.2.1) at hck1
                obtain ⟨kj, HKJ⟩ : ∃ k, Aside0 (x5[j].2.1 = k) := ⟨_, ⟨rfl⟩⟩
                obtain ⟨cj, HCJ⟩ : ∃ k, Aside0 (x5[j].2.2.1 = k) := ⟨_, ⟨rfl⟩⟩
                rw [HKJ.out] at hkd1 hkd2
                rw [HCJ.out] at hck1 hck2
                have hst : ∀ a v, w14.cell? a = some v → ∀ w', Below wY.heap.size wY w' → w'.cell? a = some v := fun a v h w' hb => ((below_then HBJ.out HBJ.out.size hb).cell (World.block_lt_of_cell? _ _ h)).trans h
                have H1 := Aside0.mk (hst _ _ hkd1)
                have H2 := Aside0.mk (hst _ _ hkd2)
                have H3 := Aside0.mk (hst _ _ hck1)
                have H4 := Aside0.mk (hst _ _ hck2)
                subst hA1
                subst hA2
                clear hst hkd1 hkd2 hck1 hck2 hbw14
                go_wp2_with fail
                refine wp_region_noPanic ?_
                refine Rg.s1 24 (fun w' => Below wY.heap.size wY w') [] (Below.refl _ _).drew #[false, false, false, false, false, false, false, false, false, false, false, false, false, false, false, false, false, false, false, false, false, false, false, false] (fun hHeld => ?_)
                refine Rg.p1 0 (.some 159) ?_
                refine Rg.p1 1 (.some 160) ?_
                refine Rg.p1 2 (.some 161) ?_
                refine Rg.p1 3 (.some 162) ?_
                refine Rg.t1 4 (.some 163) hHeld ?_ (hy := by intro w' hS'; (have c1 := H3.out _ hS'; go_simp); first | done | with_reducible rfl)
                refine Rg.p1 5 (.some 164) ?_
                refine Rg.p1 6 (.some 165) ?_
                refine Rg.p1 7 (.some 166) ?_
                refine Rg.p1 8 (.some 167) ?_
                refine Rg.t1 9 (.some 168) hHeld ?_ (hy := by intro w' hS'; (have c1 := H4.out _ hS'; go_simp); first | done | with_reducible rfl)
                refine Rg.p1 10 (.some 169) ?_
                refine Rg.p1 11 (.some 170) ?_
                refine Rg.p1 12 (.some 171) ?_
                refine Rg.p1 13 (.some 172) ?_
                refine Rg.p1 14 (.some 173) ?_
                refine Rg.p1 15 (.some 174) ?_
                refine Rg.t1 16 (.some 175) hHeld ?_ (hy := by intro w' hS'; (have c1 := H1.out _ hS'; go_simp); first | done | with_reducible rfl)
                refine Rg.p1 17 (.some 176) ?_
                refine Rg.p1 18 (.some 177) ?_
                refine Rg.p1 19 (.some 178) ?_
                refine Rg.p1 20 (.some 179) ?_
                refine Rg.t1 21 (.some 180) hHeld ?_ (hy := by intro w' hS'; (have c1 := H2.out _ hS'; go_simp); first | done | with_reducible rfl)
                refine Rg.p1 22 (.some 181) ?_
                refine Rg.p1 23 (.some 182) ?_
                refine Rg.d1 ?_
                refine NoPanic.normal ?_
                have HBJ2 : Aside0 (Below w14.heap.size w14 wY.drew) := ⟨HBJ.out.drew⟩
                go_wp2_with fail
                exact ⟨⟨j + 1, by simp, by omega, HBJ2⟩, by simp [intOf]; omega⟩
              · obtain rfl : r = j := by omega
                have HC15 := Aside0.mk (HC14.out.below HBJ.out)
                have HXT15 := Aside0.mk (HXT14.out.below_ HBJ.out)
                have HBW15 := Aside0.mk (below_then HB4.out HB4.out.size (below_then HB14.out HB14.out.size HBJ.out))
                go_wp2_with fail
                refine wp_region_noPanic ?_
                refine Rg.s1 15 (fun w' => Below wY.heap.size wY w') [] (Below.refl _ _).drew #[false, false, false, false, false, false, false, false, false, false, false, false, false, false, false] (fun hHeld => ?_)
                refine Rg.p1 0 (.some 183) ?_
                refine Rg.o1 1 (.some 184) (fun K hK => ?_)
                refine call_ 13 #[.pointer (some ⟨p, 0, none⟩)] (by rfl) rfl (by go_simp) ?_
                refine (state_.calls (HC15.out.below hHeld)).mono ?_
                rintro e w16 ⟨rfl, hb16⟩
                rw [HST.out]
                have HB16 := Aside0.mk (below_then hHeld hHeld.size hb16)
                clear hb16
                refine ⟨_, rfl, ?_⟩
                refine hK.out _ _ HB16.out (fun hHeld => ?_)
                clear hK K
                refine Rg.n1 ?_
                refine Rg.p1 2 (.some 185) ?_
                refine Rg.p1 3 (.some 186) ?_
                refine Rg.p1 4 (.some 187) ?_
                refine Rg.p1 6 (.some 189) ?_
                refine Rg.t1 7 (.some 190) hHeld ?_ (hy := by intro w' hS'; (have c1 := (HXT15.out.below_ hS').at_ 0 rfl; go_simp); first | done | with_reducible rfl)
                refine Rg.p1 8 (.some 191) ?_
                refine Rg.p1 9 (.some 192) ?_
                refine Rg.t1 10 (.some 193) hHeld ?_ (hy := by intro w' hS'; (have c1 := (HXT15.out.below_ hS').at_ 2 rfl; go_simp); first | done | with_reducible rfl)
                refine Rg.p1 11 (.some 194) ?_
                refine Rg.o1 5 (.some 188) (fun K hK => ?_)
                refine call_ 15 #[.pointer (some ⟨p, 0, none⟩)] (by rfl) rfl (by go_simp) ?_
                refine (export_.calls (HC15.out.below hHeld)).mono ?_
                rintro e w17 ⟨rfl, hb17⟩
                rw [HEX.out]
                simp only [Cn.exc]
                have HB17 := Aside0.mk (below_then hHeld hHeld.size hb17)
                clear hb17
                refine ⟨_, rfl, ?_⟩
                refine hK.out _ _ HB17.out (fun hHeld => ?_)
                clear hK K
                refine Rg.n1 ?_
                refine Rg.p1 12 (.some 195) ?_
                refine Rg.p1 13 (.some 196) ?_
                refine Rg.p1 14 (.some 12) ?_
                refine Rg.d1 ?_
                refine NoPanic.normal ?_
                have HB18 := Aside0.mk (below_then HBW15.out HBW15.out.size HB17.out)
                go_wp2_with fail
                go_ret
                exact ⟨rfl, HB18.out⟩
  | true =>
    have HB6 : Aside0 (Below w5.heap.size w5 ((w5.alloc (.cells #[.int .u8 0, .int .u8 0, .int .u8 0, .int .u8 1, .int .u8 73, .int .u8 72, .int .u8 65, .int .u8 86, .int .u8 69, .int .u8 79, .int .u8 80, .int .u8 84, .int .u8 0, .int .u8 0, .int .u8 0, .int .u8 7, .int .u8 0, .int .u8 0, .int .u8 0, .int .u8 86, .int .u8 0, .int .u8 0, .int .u8 0, .int .u8 80] 5)).alloc (.cells #[.int .u8 0, .int .u8 0, .int .u8 0, .int .u8 1, .int .u8 73, .int .u8 72, .int .u8 65, .int .u8 86, .int .u8 69, .int .u8 79, .int .u8 80, .int .u8 84, .int .u8 0, .int .u8 0, .int .u8 0, .int .u8 1, .int .u8 0, .int .u8 0, .int .u8 0, .int .u8 80] 5))) := ⟨below_alloc (below_alloc (Below.refl _ _) _) _⟩
    have HR6 : Aside0 (Kd.R (Kd.int .u8) 5 ((w5.alloc (.cells #[.int .u8 0, .int .u8 0, .int .u8 0, .int .u8 1, .int .u8 73, .int .u8 72, .int .u8 65, .int .u8 86, .int .u8 69, .int .u8 79, .int .u8 80, .int .u8 84, .int .u8 0, .int .u8 0, .int .u8 0, .int .u8 7, .int .u8 0, .int .u8 0, .int .u8 0, .int .u8 86, .int .u8 0, .int .u8 0, .int .u8 0, .int .u8 80] 5)).alloc (.cells #[.int .u8 0, .int .u8 0, .int .u8 0, .int .u8 1, .int .u8 73, .int .u8 72, .int .u8 65, .int .u8 86, .int .u8 69, .int .u8 79, .int .u8 80, .int .u8 84, .int .u8 0, .int .u8 0, .int .u8 0, .int .u8 1, .int .u8 0, .int .u8 0, .int .u8 0, .int .u8 80] 5)) w5.heap.size (fun _ => True) (.slice (some ⟨w5.heap.size + 1, 0, none⟩) 20 20) ([0, 0, 0, 1, 73, 72, 65, 86, 69, 79, 80, 84, 0, 0, 0, 1, 0, 0, 0, 80] : List Int)) := ⟨by
      have h := Cn.lit_R (w5.alloc (.cells #[.int .u8 0, .int .u8 0, .int .u8 0, .int .u8 1, .int .u8 73, .int .u8 72, .int .u8 65, .int .u8 86, .int .u8 69, .int .u8 79, .int .u8 80, .int .u8 84, .int .u8 0, .int .u8 0, .int .u8 0, .int .u8 7, .int .u8 0, .int .u8 0, .int .u8 0, .int .u8 86, .int .u8 0, .int .u8 0, .int .u8 0, .int .u8 80] 5)) (base := w5.heap.size) (by show _ ≤ (w5.heap.push _).size; simp) ([0, 0, 0, 1, 73, 72, 65, 86, 69, 79, 80, 84, 0, 0, 0, 1, 0, 0, 0, 80] : List Int) (by decide)
      have e : (w5.alloc (.cells #[.int .u8 0, .int .u8 0, .int .u8 0, .int .u8 1, .int .u8 73, .int .u8 72, .int .u8 65, .int .u8 86, .int .u8 69, .int .u8 79, .int .u8 80, .int .u8 84, .int .u8 0, .int .u8 0, .int .u8 0, .int .u8 7, .int .u8 0, .int .u8 0, .int .u8 0, .int .u8 86, .int .u8 0, .int .u8 0, .int .u8 0, .int .u8 80] 5)).heap.size = w5.heap.size + 1 := by show (w5.heap.push _).size = _; simp
      rw [e] at h
      exact h⟩
    go_wp2_with (at_builtin; refine print_append_str (w0 := w5) w5.heap.size rfl (.tmp 74) (.tmp 75) 23 9 5 rfl Tryd.underlying23 Tryd.underlying9 Cn.infoByte (.slice (some ⟨w5.heap.size + 1, 0, none⟩) 20 20) ([0, 0, 0, 1, 73, 72, 65, 86, 69, 79, 80, 84, 0, 0, 0, 1, 0, 0, 0, 80] : List Int) s rfl rfl (Cn.own_of_R HR6.out) HB6.out HB6.out.size (by rw [HSS]; decide) ?_; intro v7 w7 ho7 hb7 _; obtain ⟨A7, c7, rfl⟩ := Kd.R_slice (show Kd.R (Kd.int .u8) 5 w7 w5.heap.size (fun _ => True) v7 (([0, 0, 0, 1, 73, 72, 65, 86, 69, 79, 80, 84, 0, 0, 0, 1, 0, 0, 0, 80] : List Int) ++ bytesOf s) from Kd.R_of_own ho7 (fun _ _ => trivial)); have HR7 := Aside0.mk (show Kd.R (Kd.int .u8) 5 w7 w5.heap.size (fun _ => True) (.slice A7 (([0, 0, 0, 1, 73, 72, 65, 86, 69, 79, 80, 84, 0, 0, 0, 1, 0, 0, 0, 80] : List Int) ++ bytesOf s).length c7) (([0, 0, 0, 1, 73, 72, 65, 86, 69, 79, 80, 84, 0, 0, 0, 1, 0, 0, 0, 80] : List Int) ++ bytesOf s) from Kd.R_of_own ho7 (fun _ _ => trivial)); have HB7 := Aside0.mk hb7; rw [show (([0, 0, 0, 1, 73, 72, 65, 86, 69, 79, 80, 84, 0, 0, 0, 1, 0, 0, 0, 80] : List Int) ++ bytesOf s).length = 100 from by rw [List.length_append, bytesOf_length, HSS]; rfl] at HR7 ⊢; clear ho7 hb7)
    have HRB : Aside0 (Kd.R (Kd.int .u8) 5 w7 w5.heap.size (fun _ => True) (.slice A7 100 c7) (Cn.hail true (bytesOf s) ++ Cn.flat (x5.take 0))) := ⟨by
      rw [List.take_zero, show Cn.flat [] = [] from rfl, List.append_nil, ← Cn.hail_old (bytesOf s) (by rw [bytesOf_length, HSS])]
      exact HR7.out⟩
    have HNL : Aside0 (100 = (Cn.hail true (bytesOf s) ++ Cn.flat (x5.take 0)).length) := ⟨by rw [List.take_zero, show Cn.flat [] = [] from rfl, List.append_nil, ← Cn.hail_old (bytesOf s) (by rw [bytesOf_length, HSS])]; simp [bytesOf_length, HSS]⟩
    have HRO : Aside0 (∀ q ∈ x5.take 0, Cn.RqOk q) := ⟨fun q hq => by rw [List.take_zero] at hq; cases hq⟩
    go_loopw [18, 19] (fun bx ix wr => ∃ (i nb cb : Nat) (Ab : Option Addr), bx = .slice Ab nb cb ∧ ix = .int .i64 i ∧ i ≤ r ∧ Aside0 (nb = (Cn.hail true (bytesOf s) ++ Cn.flat (x5.take i)).length) ∧ Aside0 (∀ q ∈ x5.take i, Cn.RqOk q) ∧ Aside0 (Kd.R (Kd.int .u8) 5 wr w5.heap.size (fun _ => True) (.slice Ab nb cb) (Cn.hail true (bytesOf s) ++ Cn.flat (x5.take i))) ∧ Aside0 (Below w5.heap.size w5 wr)) (fun _ ix _ => r - (intOf ix).toNat)
    case atStart => exact ⟨0, 100, c7, A7, rfl, rfl, Nat.zero_le _, HNL, HRO, HRB, HB7⟩
    case round =>
      clear HRB HNL HRO HR6 HB6
      obtain ⟨i, nb, cb, Ab, rfl, rfl, hi, HNB, HRO, HRB, HB⟩ := hrel
      have HBW := Aside0.mk (below_then HB4.out HB4.out.size (below_then HB5.out HB5.out.size HB.out))
      by_cases hlt : i < r
      · have hltI : (i : Int) < r := by omega
        have hi16 : (i : Int) < 16 := by have := HR1.out; omega
        have hki : i < x5.length := by rw [HR.out]; exact hlt
        obtain ⟨ad, A1, c1, hA, hrun, hKr, hkd, hck, hcell⟩ := Rw.row_get (Kd.C_below HC5.out HBW.out) i hki rfl
        subst hA
        have HQW : Aside0 (RqWf x5[i]) := ⟨HRW.out _ (List.getElem_mem hki)⟩
        obtain ⟨rq, HRQ⟩ : ∃ rq, Aside0 (x5[i] = rq) := ⟨_, ⟨rfl⟩⟩
        rw [HRQ.out] at hrun hKr hcell hkd HQW
        have HKR := Aside0.mk hKr
        obtain ⟨m, HM⟩ : ∃ m, Aside0 (rq.2.2.2.2.2.length = m) := ⟨_, ⟨rfl⟩⟩
        obtain ⟨kd, HKD⟩ : ∃ k, Aside0 (rq.2.1 = k) := ⟨_, ⟨rfl⟩⟩
        rw [HM.out] at hcell HKR hrun
        rw [HKD.out] at hkd
        have HRUN := Aside0.mk (hrun _ (Below.refl _ _))
        clear hrun hKr hck
        by_cases h100 : (m : Int) > 100
        · go_wp2_with fail
          go_ret
          exact ⟨rfl, HBW.out⟩
        by_cases hk2 : kd = 2
        · have e5 : (kd == 2) = true := by subst hk2; rfl
          go_wp2_with fail
          go_ret
          exact ⟨rfl, HBW.out⟩
        have e5 : (kd == 2) = false := by simpa using hk2
        have HOK : Aside0 (Cn.RqOk rq) := ⟨HQW.out, by rw [HM.out]; omega, by rw [HKD.out]; exact hk2⟩
        clear hk2
        go_wp2_with (refine Wk.load rfl 61 (.tmp 106) rfl _ (.pointer (some (ad.add (i * 6)))) rfl HRUN.out ?_)
        clear e5 hcell hkd
        refine (rwr_.calls HKR.out HQW.out (by rw [HM.out]; omega)).mono ?_
        rintro e w9 ⟨A9, c9, rfl, hr9, hb9⟩
        have HR9 := Aside0.mk (Kd.R_reads' hr9)
        have HRB9 := Aside0.mk (Kd.R_below HRB.out hb9)
        have HB9 := Aside0.mk (below_then HB.out HB.out.size hb9)
        have HSH := Aside0.mk (Cn.bs_short rq HOK.out)
        have HFL := Aside0.mk (Cn.flat_len (x5.take i) HRO.out)
        have HTI : Aside0 ((x5.take i).length ≤ 16) := ⟨by rw [List.length_take]; have := HR1.out; have := HR.out; omega⟩
        obtain ⟨nb2, HN2⟩ : ∃ q, Aside0 ((Rw.bs rq).length = q) := ⟨_, ⟨rfl⟩⟩
        rw [HN2.out] at HR9 ⊢
        have HSH2 : Aside0 (nb2 ≤ 128) := ⟨by rw [← HN2.out]; exact HSH.out.1⟩
        have HHL := Aside0.mk (Cn.hail_len true (bytesOf s) (by rw [bytesOf_length, HSS]))
        clear hr9 hb9
        go_wp2_with (at_builtin; refine Kd.R_append_rows (Kd.int .u8) (w0 := w5) w5.heap.size rfl (.tmp 103) (.tmp 108) 23 5 (.int .u8 0) 1 rfl Tryd.underlying23 Cn.infoByte rfl (by decide) (by decide) (.slice Ab nb cb) (Cn.hail true (bytesOf s) ++ Cn.flat (x5.take i)) (Rw.bs rq) A9 nb2 c9 (fun _ => True) (fun _ => False) rfl rfl HRB9.out HR9.out.2.2 (fun _ _ h => h) (fun _ h => h.elim) (fun _ _ => trivial) HB9.out HB9.out.size (by rw [List.length_append]; have := HHL.out; have := HFL.out; have := HTI.out; have := HSH2.out; omega) ?_; intro v10 w10 hr10 hb10 _ _; obtain ⟨A10, c10, rfl⟩ := Kd.R_slice hr10; have HR10 := Aside0.mk hr10; have HB10 := Aside0.mk hb10; clear hr10 hb10)
        have HFN : Aside0 (Cn.hail true (bytesOf s) ++ Cn.flat (x5.take i) ++ Rw.bs rq = Cn.hail true (bytesOf s) ++ Cn.flat (x5.take (i + 1))) := ⟨by rw [Cn.flat_next x5 i hki, HRQ.out, List.append_assoc]⟩
        have HRO10 : Aside0 (∀ q ∈ x5.take (i + 1), Cn.RqOk q) := ⟨fun q hq => by
          rw [List.take_succ_eq_append_getElem hki] at hq
          rcases List.mem_append.1 hq with hq | hq
          · exact HRO.out q hq
          · rw [List.mem_singleton.1 hq, HRQ.out]; exact HOK.out⟩
        exact ⟨⟨i + 1, (Cn.hail true (bytesOf s) ++ Cn.flat (x5.take (i + 1))).length, c10, A10, by rw [← HFN.out]; simp [Nat.add_assoc], by simp, by omega, ⟨rfl⟩, HRO10, ⟨by have := HR10.out; rw [HFN.out] at this; exact this⟩, HB10⟩, by simp [intOf]; omega⟩
      · obtain rfl : r = i := by omega
        have HTA : Aside0 (x5.take r = x5) := ⟨List.take_of_length_le (by rw [HR.out]; exact Nat.le_refl _)⟩
        rw [HTA.out] at HRO HRB HNB
        have HRC := Aside0.mk (Kd.R_reads' HRB.out)
        have HX5R : Aside0 (x5.length ≤ 16) := ⟨by rw [HR.out]; exact HR1.out⟩
        have HSV := Aside0.mk (Cn.serves x0 (ta, tb, ro, tz) x2 x3 true x5 HW.out (by have := HX3.out; omega) HRO.out HX5R.out)
        rw [HS.out] at HSV
        have HBB : Aside0 (Sh.Bytes (Cn.hail true (bytesOf s) ++ Cn.flat x5)) := ⟨fun x hx => (List.mem_append.1 hx).elim (Cn.hail_bytes true _ (Cn.bytes_bytesOf s) (by rw [bytesOf_length, HSS]) x) (Cn.flat_bytes x5 HRO.out x)⟩
        have HB45 := Aside0.mk (below_then HB5.out HB5.out.size HB.out)
        have hx30 : 0 ≤ x3 := by have := HX3.out; omega
        have hx31 : x3 ≤ 65535 := HX3.out.2
        have HXTr := Aside0.mk (HXT5.out.below_ HB.out)
        go_wp2_with fail
        refine (newconn_.calls wr tbl x3).mono ?_
        rintro e w11 ⟨p, rfl, hc11, hb11⟩
        have HC11 := Aside0.mk hc11
        have HB11 := Aside0.mk (below_then HB45.out HB45.out.size hb11)
        have HRC11 := Aside0.mk (Kd.C_below HRC.out.2.2 hb11)
        have HXT11 := Aside0.mk (HXTr.out.below_ hb11)
        have HS11 : Aside0 (wr.heap.size ≤ w11.heap.size) := ⟨hb11.size⟩
        have HS4r : Aside0 (w4.heap.size ≤ wr.heap.size) := ⟨HB45.out.size⟩
        have HWr : Aside0 (W.heap.size < wr.heap.size) := ⟨HXTr.out.lt⟩
        clear hc11 hb11 HB45 HXTr HXT5 HRB HB
        go_wp2_with fail
        refine (feedc_.calls HX.out HC11.out (fun k hk => Nat.le_trans HS11.out hk) (Cn.new_ok x3 (by have := HX3.out; omega)) HB11.out (fun k hk => Nat.le_trans HS4r.out hk) (by have := Cn.hello_len; show Cn.hello.length ≤ _; omega) HRC11.out HNB.out.symm HRC.out.2.1 HBB.out).mono ?_
        rintro e w12 ⟨rfl, hc12, hf12⟩
        have HFE := Aside0.mk (Cn.feed_ok [Cn.tn1 ta x0 x2] (Cn.new x3) _ (Cn.new_ok x3 (by have := HX3.out; omega)) HBB.out).1
        obtain ⟨S, HSQ⟩ : ∃ S, Aside0 (Cn.feed [Cn.tn1 ta x0 x2] (Cn.new x3) (Cn.hail true (bytesOf s) ++ Cn.flat x5) = S) := ⟨_, ⟨rfl⟩⟩
        have hsv := HSV.out
        change (tz = 0 ∨ tz > x2 → (Cn.feed [Cn.tn1 ta x0 x2] (Cn.new x3) (Cn.hail true (bytesOf s) ++ Cn.flat x5)).st ≠ 3 ∧ (Cn.feed [Cn.tn1 ta x0 x2] (Cn.new x3) (Cn.hail true (bytesOf s) ++ Cn.flat x5)).ex = Cn.ex0) ∧ (¬(tz = 0 ∨ tz > x2) → (Cn.feed [Cn.tn1 ta x0 x2] (Cn.new x3) (Cn.hail true (bytesOf s) ++ Cn.flat x5)).st = 3 ∧ (Cn.feed [Cn.tn1 ta x0 x2] (Cn.new x3) (Cn.hail true (bytesOf s) ++ Cn.flat x5)).ex = Cn.served x3 (ta, tb, ro, tz) ∧ (Cn.feed [Cn.tn1 ta x0 x2] (Cn.new x3) (Cn.hail true (bytesOf s) ++ Cn.flat x5)).rs = x5.map Cn.nrm) at hsv
        rw [HSQ.out] at hc12 HFE hsv
        have HSV2 := Aside0.mk hsv
        have HC12 := Aside0.mk hc12
        have HB12 := Aside0.mk (hf12.below HB11.out HB11.out.size (fun k hk => Nat.le_trans HS4r.out hk))
        have HXT12 := Aside0.mk (Cn.Blk_frame HXT11.out hf12 (fun hh => by have := HWr.out; omega))
        have z3 := HXT12.out.at_ 3 rfl
        clear hc12 hf12 hsv HSV HB11 HXT11 HC11
        by_cases hz : tz = 0 ∨ tz > x2
        · obtain ⟨h3, hex⟩ := HSV2.out.1 hz
          have HST := Aside0.mk h3
          have HEX := Aside0.mk hex
          have HBZ : Aside0 (Below W.heap.size W w12) := ⟨below_then HB4.out HB4.out.size HB12.out⟩
          clear h3 hex
          by_cases hz0 : tz = 0
          · have e7 : (tz == 0) = true := by subst hz0; rfl
            go_wp2_with fail
            clear z3
            refine (state_.calls HC12.out).mono ?_
            rintro e w13 ⟨rfl, hb13⟩
            have HC13 := Aside0.mk (HC12.out.below hb13)
            have HB13 := Aside0.mk (below_then HBZ.out HBZ.out.size hb13)
            obtain ⟨st, HST0⟩ : ∃ s, Aside0 (S.st = s) := ⟨_, ⟨rfl⟩⟩
            rw [HST0.out] at HST ⊢
            have e6 : (st == 3) = false := by simpa using HST.out
            have e6n : ¬st = 3 := HST.out
            have e6m : (st != 3) = true := by simpa using HST.out
            clear hb13
            go_wp2_with fail
            refine (export_.calls HC13.out).mono ?_
            rintro e w14 ⟨rfl, hb14⟩
            have HB14 := Aside0.mk (below_then HB13.out HB13.out.size hb14)
            rw [HEX.out]
            simp only [Cn.exc, Cn.ex0]
            clear hb14
            go_wp2_with fail
            go_ret
            exact ⟨rfl, HB14.out⟩
          · have e7 : (tz == 0) = false := by simpa using hz0
            have hz1 : tz > x2 := hz.resolve_left hz0
            clear hz hz0
            go_wp2_with fail
            clear z3
            refine (state_.calls HC12.out).mono ?_
            rintro e w13 ⟨rfl, hb13⟩
            have HC13 := Aside0.mk (HC12.out.below hb13)
            have HB13 := Aside0.mk (below_then HBZ.out HBZ.out.size hb13)
            obtain ⟨st, HST0⟩ : ∃ s, Aside0 (S.st = s) := ⟨_, ⟨rfl⟩⟩
            rw [HST0.out] at HST ⊢
            have e6 : (st == 3) = false := by simpa using HST.out
            have e6n : ¬st = 3 := HST.out
            have e6m : (st != 3) = true := by simpa using HST.out
            clear hb13
            go_wp2_with fail
            refine (export_.calls HC13.out).mono ?_
            rintro e w14 ⟨rfl, hb14⟩
            have HB14 := Aside0.mk (below_then HB13.out HB13.out.size hb14)
            rw [HEX.out]
            simp only [Cn.exc, Cn.ex0]
            clear hb14
            go_wp2_with fail
            go_ret
            exact ⟨rfl, HB14.out⟩
        · obtain ⟨h3, hex, hrs⟩ := HSV2.out.2 hz
          have e7 : (tz == 0) = false := by rw [beq_eq_false_iff_ne]; omega
          have hz1 : ¬tz > x2 := by omega
          have HZ := Aside0.mk hz
          have HST := Aside0.mk h3
          have HEX := Aside0.mk hex
          have HRS := Aside0.mk hrs
          clear h3 hex hrs hz
          go_wp2_with fail
          obtain ⟨Q, HQ⟩ : ∃ Q, Aside0 ((18446744073709551615 : Int) / x3 = Q) := ⟨_, ⟨rfl⟩⟩
          have hw16 : IntKind.u64.wrap x3 = x3 := Bt.wraps_u64 x3 hx30 (by omega)
          have hdv : IntKind.u64.wrap (Int.tdiv 18446744073709551615 x3) = Q := by
            rw [Int.tdiv_eq_ediv_of_nonneg (by decide), HQ.out]
            refine Bt.wraps_u64 Q ?_ ?_
            · rw [← HQ.out]; exact Int.ediv_nonneg (by decide) hx30
            · have : (18446744073709551615 : Int) / x3 ≤ 18446744073709551615 := Int.ediv_le_self _ (by decide)
              rw [HQ.out] at this
              omega
          refine wp_region_noPanic ?_
          refine Rg.s1 6 (fun w' => Below w12.heap.size w12 w') [] (Below.refl _ _).drew #[false, false, false, false, false, false] (fun hHeld => ?_)
          refine Rg.p1 0 (.some 140) ?_
          refine Rg.t1 1 (.some 141) hHeld ?_ (hy := by intro w' hS'; (have c1 := (HXT12.out.below_ hS').at_ 3 rfl; go_simp); first | done | with_reducible rfl)
          refine Rg.p1 2 (.some 142) ?_
          refine Rg.p1 3 (.some 143) ?_
          refine Rg.p1 4 (.some 144) ?_ (hy := by intro w'; (go_simp; try rw [if_neg h4, hdv]); first | done | with_reducible rfl)
          refine Rg.p1 5 (.some 145) ?_
          refine Rg.d1 ?_
          refine NoPanic.normal ?_
          have HB13 : Aside0 (Below w4.heap.size w4 w12.drew) := ⟨HB12.out.drew⟩
          have HC13 : Aside0 (Cn.Cn w12.drew (fun k => wr.heap.size ≤ k) p tbl S) := ⟨HC12.out.below (Below.refl _ _).drew⟩
          have HXT13 : Aside0 (Wk.Blk w12.drew W.heap.size 55 (Ps.tkc (ta, tb, ro, tz))) := ⟨HXT12.out.below_ (Below.refl _ _).drew⟩
          have HSE : Aside0 (Cn.served x3 (ta, tb, ro, tz) = (ta, (if tz ≤ Q then tz * x3 else 18446744073709551615), ro)) := ⟨by
            unfold Cn.served
            show (ta, (if x3 = 0 ∨ tz ≤ 18446744073709551615 / x3 then tz * x3 else 18446744073709551615), ro) = _
            rw [HQ.out]
            by_cases hq : tz ≤ Q
            · rw [if_pos (Or.inr hq), if_pos hq]
            · rw [if_neg (fun h => h.elim h4 hq), if_neg hq]⟩
          have HML : Aside0 (tz ≤ Q → IntKind.u64.wrap (tz * x3) = tz * x3) := ⟨fun hq => by
            have h0 : 0 ≤ tz := HW.out.2.2.1
            have h1 : tz * x3 ≤ Q * x3 := Int.mul_le_mul_of_nonneg_right hq hx30
            have h2 : Q * x3 ≤ 18446744073709551615 := by rw [← HQ.out]; exact Int.ediv_mul_le _ h4
            exact Bt.wraps_u64 _ (Int.mul_nonneg h0 hx30) (by omega)⟩
          rw [HSE.out] at HEX
          clear z3 hw16 hdv
          by_cases hq : Q < tz
          · rw [if_neg (by omega)] at HEX
            go_wp2_with fail
            refine (waits_.calls HC13.out (fun q hq => by have := HFE.out.rs_ q hq; omega)).mono ?_
            rintro e w14 ⟨A14, n14, rfl, hR14, hb14⟩
            rw [HRS.out] at hR14 ⊢
            have HR14 := Aside0.mk (Kd.R_reads' hR14)
            have HML14 : Aside0 ((x5.map Cn.nrm).length = r) := ⟨by rw [List.length_map, HR.out]⟩
            rw [HML14.out] at HR14 ⊢
            have HC14 := Aside0.mk (HC13.out.below hb14)
            have HXT14 := Aside0.mk (HXT13.out.below_ hb14)
            have HB14 := Aside0.mk (below_then HB13.out HB13.out.size hb14)
            have hr16 : (r : Int) ≤ 16 := by have := HR1.out; omega
            clear hb14 hR14
            go_wp2_with fail
            go_loopw [23] (fun ix wq => ∃ (j : Nat), ix = .int .i64 j ∧ j ≤ r ∧ Aside0 (Below w14.heap.size w14 wq)) (fun ix _ => r - (intOf ix).toNat)
            case atStart => exact ⟨0, rfl, Nat.zero_le _, ⟨Below.refl _ _⟩⟩
            case round =>
              obtain ⟨wY, rfl⟩ : ∃ w : World, w = wr := ⟨_, rfl⟩
              obtain ⟨j, rfl, hj, HBJ⟩ := hrel
              by_cases hjr : j < r
              · have hjrI : (j : Int) < r := by omega
                have hkj : j < x5.length := by rw [HR.out]; exact hjr
                have hkm : j < (x5.map Cn.nrm).length := by rw [List.length_map]; exact hkj
                have hbw14 := below_then HB4.out HB4.out.size HB14.out
                obtain ⟨ad1, A15, c15, hA1, -, -, hkd1, hck1, -⟩ := Rw.row_get HR14.out.2.2 j hkm HML14.out
                obtain ⟨ad2, A16, c16, hA2, -, -, hkd2, hck2, -⟩ := Rw.row_get (Kd.C_below HC5.out hbw14) j hkj rfl
                rw [List.getElem_map] at hkd1 hck1
                change w14.cell? _ = some (.int .u16 x5[j].2.1) at hkd1
                change w14.cell? _ = some (.int .u64 x5[j].2.2.1) at hck1
                obtain ⟨kj, HKJ⟩ : ∃ k, Aside0 (x5[j].2.1 = k) := ⟨_, ⟨rfl⟩⟩
                obtain ⟨cj, HCJ⟩ : ∃ k, Aside0 (x5[j].2.2.1 = k) := ⟨_, ⟨rfl⟩⟩
                rw [HKJ.out] at hkd1 hkd2
                rw [HCJ.out] at hck1 hck2
                have hst : ∀ a v, w14.cell? a = some v → ∀ w', Below wY.heap.size wY w' → w'.cell? a = some v := fun a v h w' hb => ((below_then HBJ.out HBJ.out.size hb).cell (World.block_lt_of_cell? _ _ h)).trans h
                have H1 := Aside0.mk (hst _ _ hkd1)
                have H2 := Aside0.mk (hst _ _ hkd2)
                have H3 := Aside0.mk (hst _ _ hck1)
                have H4 := Aside0.mk (hst _ _ hck2)
                subst hA1
                subst hA2
                clear hst hkd1 hkd2 hck1 hck2 hbw14
                go_wp2_with fail
                refine wp_region_noPanic ?_
                refine Rg.s1 24 (fun w' => Below wY.heap.size wY w') [] (Below.refl _ _).drew #[false, false, false, false, false, false, false, false, false, false, false, false, false, false, false, false, false, false, false, false, false, false, false, false] (fun hHeld => ?_)
                refine Rg.p1 0 (.some 159) ?_
                refine Rg.p1 1 (.some 160) ?_
                refine Rg.p1 2 (.some 161) ?_
                refine Rg.p1 3 (.some 162) ?_
                refine Rg.t1 4 (.some 163) hHeld ?_ (hy := by intro w' hS'; (have c1 := H3.out _ hS'; go_simp); first | done | with_reducible rfl)
                refine Rg.p1 5 (.some 164) ?_
                refine Rg.p1 6 (.some 165) ?_
                refine Rg.p1 7 (.some 166) ?_
                refine Rg.p1 8 (.some 167) ?_
                refine Rg.t1 9 (.some 168) hHeld ?_ (hy := by intro w' hS'; (have c1 := H4.out _ hS'; go_simp); first | done | with_reducible rfl)
                refine Rg.p1 10 (.some 169) ?_
                refine Rg.p1 11 (.some 170) ?_
                refine Rg.p1 12 (.some 171) ?_
                refine Rg.p1 13 (.some 172) ?_
                refine Rg.p1 14 (.some 173) ?_
                refine Rg.p1 15 (.some 174) ?_
                refine Rg.t1 16 (.some 175) hHeld ?_ (hy := by intro w' hS'; (have c1 := H1.out _ hS'; go_simp); first | done | with_reducible rfl)
                refine Rg.p1 17 (.some 176) ?_
                refine Rg.p1 18 (.some 177) ?_
                refine Rg.p1 19 (.some 178) ?_
                refine Rg.p1 20 (.some 179) ?_
                refine Rg.t1 21 (.some 180) hHeld ?_ (hy := by intro w' hS'; (have c1 := H2.out _ hS'; go_simp); first | done | with_reducible rfl)
                refine Rg.p1 22 (.some 181) ?_
                refine Rg.p1 23 (.some 182) ?_
                refine Rg.d1 ?_
                refine NoPanic.normal ?_
                have HBJ2 : Aside0 (Below w14.heap.size w14 wY.drew) := ⟨HBJ.out.drew⟩
                go_wp2_with fail
                exact ⟨⟨j + 1, by simp, by omega, HBJ2⟩, by simp [intOf]; omega⟩
              · obtain rfl : r = j := by omega
                have HC15 := Aside0.mk (HC14.out.below HBJ.out)
                have HXT15 := Aside0.mk (HXT14.out.below_ HBJ.out)
                have HBW15 := Aside0.mk (below_then HB4.out HB4.out.size (below_then HB14.out HB14.out.size HBJ.out))
                go_wp2_with fail
                refine wp_region_noPanic ?_
                refine Rg.s1 15 (fun w' => Below wY.heap.size wY w') [] (Below.refl _ _).drew #[false, false, false, false, false, false, false, false, false, false, false, false, false, false, false] (fun hHeld => ?_)
                refine Rg.p1 0 (.some 183) ?_
                refine Rg.o1 1 (.some 184) (fun K hK => ?_)
                refine call_ 13 #[.pointer (some ⟨p, 0, none⟩)] (by rfl) rfl (by go_simp) ?_
                refine (state_.calls (HC15.out.below hHeld)).mono ?_
                rintro e w16 ⟨rfl, hb16⟩
                rw [HST.out]
                have HB16 := Aside0.mk (below_then hHeld hHeld.size hb16)
                clear hb16
                refine ⟨_, rfl, ?_⟩
                refine hK.out _ _ HB16.out (fun hHeld => ?_)
                clear hK K
                refine Rg.n1 ?_
                refine Rg.p1 2 (.some 185) ?_
                refine Rg.p1 3 (.some 186) ?_
                refine Rg.p1 4 (.some 187) ?_
                refine Rg.p1 6 (.some 189) ?_
                refine Rg.t1 7 (.some 190) hHeld ?_ (hy := by intro w' hS'; (have c1 := (HXT15.out.below_ hS').at_ 0 rfl; go_simp); first | done | with_reducible rfl)
                refine Rg.p1 8 (.some 191) ?_
                refine Rg.p1 9 (.some 192) ?_
                refine Rg.t1 10 (.some 193) hHeld ?_ (hy := by intro w' hS'; (have c1 := (HXT15.out.below_ hS').at_ 2 rfl; go_simp); first | done | with_reducible rfl)
                refine Rg.p1 11 (.some 194) ?_
                refine Rg.o1 5 (.some 188) (fun K hK => ?_)
                refine call_ 15 #[.pointer (some ⟨p, 0, none⟩)] (by rfl) rfl (by go_simp) ?_
                refine (export_.calls (HC15.out.below hHeld)).mono ?_
                rintro e w17 ⟨rfl, hb17⟩
                rw [HEX.out]
                simp only [Cn.exc]
                have HB17 := Aside0.mk (below_then hHeld hHeld.size hb17)
                clear hb17
                refine ⟨_, rfl, ?_⟩
                refine hK.out _ _ HB17.out (fun hHeld => ?_)
                clear hK K
                refine Rg.n1 ?_
                refine Rg.p1 12 (.some 195) ?_
                refine Rg.p1 13 (.some 196) ?_
                refine Rg.p1 14 (.some 12) ?_
                refine Rg.d1 ?_
                refine NoPanic.normal ?_
                have HB18 := Aside0.mk (below_then HBW15.out HBW15.out.size HB17.out)
                go_wp2_with fail
                go_ret
                exact ⟨rfl, HB18.out⟩
          · rw [if_pos (by omega)] at HEX
            rw [HML.out (by omega)]
            obtain ⟨sz, HSZ⟩ : ∃ sz, Aside0 (tz * x3 = sz) := ⟨_, ⟨rfl⟩⟩
            rw [HSZ.out] at HEX ⊢
            have hq2 : tz ≤ Q := by omega
            go_wp2_with fail
            refine (waits_.calls HC13.out (fun q hq => by have := HFE.out.rs_ q hq; omega)).mono ?_
            rintro e w14 ⟨A14, n14, rfl, hR14, hb14⟩
            rw [HRS.out] at hR14 ⊢
            have HR14 := Aside0.mk (Kd.R_reads' hR14)
            have HML14 : Aside0 ((x5.map Cn.nrm).length = r) := ⟨by rw [List.length_map, HR.out]⟩
            rw [HML14.out] at HR14 ⊢
            have HC14 := Aside0.mk (HC13.out.below hb14)
            have HXT14 := Aside0.mk (HXT13.out.below_ hb14)
            have HB14 := Aside0.mk (below_then HB13.out HB13.out.size hb14)
            have hr16 : (r : Int) ≤ 16 := by have := HR1.out; omega
            clear hb14 hR14
            go_wp2_with fail
            go_loopw [23] (fun ix wq => ∃ (j : Nat), ix = .int .i64 j ∧ j ≤ r ∧ Aside0 (Below w14.heap.size w14 wq)) (fun ix _ => r - (intOf ix).toNat)
            case atStart => exact ⟨0, rfl, Nat.zero_le _, ⟨Below.refl _ _⟩⟩
            case round =>
              obtain ⟨wY, rfl⟩ : ∃ w : World, w = wr := ⟨_, rfl⟩
              obtain ⟨j, rfl, hj, HBJ⟩ := hrel
              by_cases hjr : j < r
              · have hjrI : (j : Int) < r := by omega
                have hkj : j < x5.length := by rw [HR.out]; exact hjr
                have hkm : j < (x5.map Cn.nrm).length := by rw [List.length_map]; exact hkj
                have hbw14 := below_then HB4.out HB4.out.size HB14.out
                obtain ⟨ad1, A15, c15, hA1, -, -, hkd1, hck1, -⟩ := Rw.row_get HR14.out.2.2 j hkm HML14.out
                obtain ⟨ad2, A16, c16, hA2, -, -, hkd2, hck2, -⟩ := Rw.row_get (Kd.C_below HC5.out hbw14) j hkj rfl
                rw [List.getElem_map] at hkd1 hck1
                change w14.cell? _ = some (.int .u16 x5[j].2.1) at hkd1
                change w14.cell? _ = some (.int .u64 x5[j].2.2.1) at hck1
                obtain ⟨kj, HKJ⟩ : ∃ k, Aside0 (x5[j].2.1 = k) := ⟨_, ⟨rfl⟩⟩
                obtain ⟨cj, HCJ⟩ : ∃ k, Aside0 (x5[j].2.2.1 = k) := ⟨_, ⟨rfl⟩⟩
                rw [HKJ.out] at hkd1 hkd2
                rw [HCJ.out] at hck1 hck2
                have hst : ∀ a v, w14.cell? a = some v → ∀ w', Below wY.heap.size wY w' → w'.cell? a = some v := fun a v h w' hb => ((below_then HBJ.out HBJ.out.size hb).cell (World.block_lt_of_cell? _ _ h)).trans h
                have H1 := Aside0.mk (hst _ _ hkd1)
                have H2 := Aside0.mk (hst _ _ hkd2)
                have H3 := Aside0.mk (hst _ _ hck1)
                have H4 := Aside0.mk (hst _ _ hck2)
                subst hA1
                subst hA2
                clear hst hkd1 hkd2 hck1 hck2 hbw14
                go_wp2_with fail
                refine wp_region_noPanic ?_
                refine Rg.s1 24 (fun w' => Below wY.heap.size wY w') [] (Below.refl _ _).drew #[false, false, false, false, false, false, false, false, false, false, false, false, false, false, false, false, false, false, false, false, false, false, false, false] (fun hHeld => ?_)
                refine Rg.p1 0 (.some 159) ?_
                refine Rg.p1 1 (.some 160) ?_
                refine Rg.p1 2 (.some 161) ?_
                refine Rg.p1 3 (.some 162) ?_
                refine Rg.t1 4 (.some 163) hHeld ?_ (hy := by intro w' hS'; (have c1 := H3.out _ hS'; go_simp); first | done | with_reducible rfl)
                refine Rg.p1 5 (.some 164) ?_
                refine Rg.p1 6 (.some 165) ?_
                refine Rg.p1 7 (.some 166) ?_
                refine Rg.p1 8 (.some 167) ?_
                refine Rg.t1 9 (.some 168) hHeld ?_ (hy := by intro w' hS'; (have c1 := H4.out _ hS'; go_simp); first | done | with_reducible rfl)
                refine Rg.p1 10 (.some 169) ?_
                refine Rg.p1 11 (.some 170) ?_
                refine Rg.p1 12 (.some 171) ?_
                refine Rg.p1 13 (.some 172) ?_
                refine Rg.p1 14 (.some 173) ?_
                refine Rg.p1 15 (.some 174) ?_
                refine Rg.t1 16 (.some 175) hHeld ?_ (hy := by intro w' hS'; (have c1 := H1.out _ hS'; go_simp); first | done | with_reducible rfl)
                refine Rg.p1 17 (.some 176) ?_
                refine Rg.p1 18 (.some 177) ?_
                refine Rg.p1 19 (.some 178) ?_
                refine Rg.p1 20 (.some 179) ?_
                refine Rg.t1 21 (.some 180) hHeld ?_ (hy := by intro w' hS'; (have c1 := H2.out _ hS'; go_simp); first | done | with_reducible rfl)
                refine Rg.p1 22 (.some 181) ?_
                refine Rg.p1 23 (.some 182) ?_
                refine Rg.d1 ?_
                refine NoPanic.normal ?_
                have HBJ2 : Aside0 (Below w14.heap.size w14 wY.drew) := ⟨HBJ.out.drew⟩
                go_wp2_with fail
                exact ⟨⟨j + 1, by simp, by omega, HBJ2⟩, by simp [intOf]; omega⟩
              · obtain rfl : r = j := by omega
                have HC15 := Aside0.mk (HC14.out.below HBJ.out)
                have HXT15 := Aside0.mk (HXT14.out.below_ HBJ.out)
                have HBW15 := Aside0.mk (below_then HB4.out HB4.out.size (below_then HB14.out HB14.out.size HBJ.out))
                go_wp2_with fail
                refine wp_region_noPanic ?_
                refine Rg.s1 15 (fun w' => Below wY.heap.size wY w') [] (Below.refl _ _).drew #[false, false, false, false, false, false, false, false, false, false, false, false, false, false, false] (fun hHeld => ?_)
                refine Rg.p1 0 (.some 183) ?_
                refine Rg.o1 1 (.some 184) (fun K hK => ?_)
                refine call_ 13 #[.pointer (some ⟨p, 0, none⟩)] (by rfl) rfl (by go_simp) ?_
                refine (state_.calls (HC15.out.below hHeld)).mono ?_
                rintro e w16 ⟨rfl, hb16⟩
                rw [HST.out]
                have HB16 := Aside0.mk (below_then hHeld hHeld.size hb16)
                clear hb16
                refine ⟨_, rfl, ?_⟩
                refine hK.out _ _ HB16.out (fun hHeld => ?_)
                clear hK K
                refine Rg.n1 ?_
                refine Rg.p1 2 (.some 185) ?_
                refine Rg.p1 3 (.some 186) ?_
                refine Rg.p1 4 (.some 187) ?_
                refine Rg.p1 6 (.some 189) ?_
                refine Rg.t1 7 (.some 190) hHeld ?_ (hy := by intro w' hS'; (have c1 := (HXT15.out.below_ hS').at_ 0 rfl; go_simp); first | done | with_reducible rfl)
                refine Rg.p1 8 (.some 191) ?_
                refine Rg.p1 9 (.some 192) ?_
                refine Rg.t1 10 (.some 193) hHeld ?_ (hy := by intro w' hS'; (have c1 := (HXT15.out.below_ hS').at_ 2 rfl; go_simp); first | done | with_reducible rfl)
                refine Rg.p1 11 (.some 194) ?_
                refine Rg.o1 5 (.some 188) (fun K hK => ?_)
                refine call_ 15 #[.pointer (some ⟨p, 0, none⟩)] (by rfl) rfl (by go_simp) ?_
                refine (export_.calls (HC15.out.below hHeld)).mono ?_
                rintro e w17 ⟨rfl, hb17⟩
                rw [HEX.out]
                simp only [Cn.exc]
                have HB17 := Aside0.mk (below_then hHeld hHeld.size hb17)
                clear hb17
                refine ⟨_, rfl, ?_⟩
                refine hK.out _ _ HB17.out (fun hHeld => ?_)
                clear hK K
                refine Rg.n1 ?_
                refine Rg.p1 12 (.some 195) ?_
                refine Rg.p1 13 (.some 196) ?_
                refine Rg.p1 14 (.some 12) ?_
                refine Rg.d1 ?_
                refine NoPanic.normal ?_
                have HB18 := Aside0.mk (below_then HBW15.out HBW15.out.size HB17.out)
                go_wp2_with fail
                go_ret
                exact ⟨rfl, HB18.out⟩
end Go.Proofs.YtgljicdpcapgnaaDoor
