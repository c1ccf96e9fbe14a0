/- What the law's proof stands on alone: ConnY, ConnL3 (laid together by wip/pack.py). -/
import Derived.Test.YtgljicdpcapgnaaDoorXDP6
set_option linter.unusedVariables false
set_option linter.unusedSimpArgs false
namespace Go.Proofs.YtgljicdpcapgnaaDoor
open Go.RowKit Go.Proofs.YtgljicdpcapgnaaDoor.PBase Go.Proofs.YtgljicdpcapgnaaDoorW.PrintWords Go.Proofs.YtgljicdpcapgnaaDoorW.PrintLast Go.Proofs.YtgljicdpcapgnaaDoorW.PrintMore
namespace Cn
def Shown (l : List Ps.Tn) (b : List Int) (x : Ex) : Prop := ∃ (i : Nat) (t : Ps.Tk), i + 80 ≤ b.length ∧ Ps.check l (strOfNums ((b.drop i).take 80)) = (t, 0) ∧ served 64 t = x
theorem check_size {l : List Ps.Tn} {s : ByteArray} (h : (Ps.check l s).2 = 0) : s.size = 80 := by
  unfold Ps.check at h
  by_cases hi : Ps.is s = true
  · obtain ⟨h1, _, h3⟩ := Ps.got_of s hi
    unfold Ps.form at h1
    rw [decide_eq_true_eq] at h1
    rw [h3]
    unfold Ps.txt
    show (Sp.enc (Sp.bitsOf (Ps.got s))).toArray.size = 80
    rw [List.size_toArray, Sp.enc_length, Sp.bitsOf_length, h1.1]
  · rw [if_neg hi] at h
    exact absurd h (by decide)
structure Gated (l : List Ps.Tn) (b : List Int) (c : St) : Prop where
  blk_ : c.blk = 64
  kept_ : ∃ j, c.kept = b.drop j
  ex_ : (c.st = 3 ∨ c.ex ≠ ex0) → Shown l b c.ex
theorem gated_close {l : List Ps.Tn} {b : List Int} {c : St} (h : Gated l b c) : Gated l b (close c) := ⟨h.blk_, ⟨b.length, by rw [List.drop_length]; rfl⟩, fun hh => h.ex_ (hh.elim (fun h' => absurd h' (by show (4 : Int) ≠ 3; decide)) .inr)⟩
theorem gated_say {l : List Ps.Tn} {b : List Int} {c : St} (h : Gated l b c) (o k : Int) (d : List Int) : Gated l b (say c o k d) := ⟨h.blk_, h.kept_, h.ex_⟩
theorem shown_of {l : List Ps.Tn} {b : List Int} (i n : Nat) {t : Ps.Tk} (hn : ((b.drop i).take n).length = n) (h : Ps.check l (strOfNums ((b.drop i).take n)) = (t, 0)) : Shown l b (served 64 t) := by
  have h1 := check_size (l := l) (s := strOfNums ((b.drop i).take n)) (by rw [h])
  rw [str_size, hn] at h1
  subst h1
  rw [List.length_take, List.length_drop] at hn
  exact ⟨i, t, by omega, h, rfl⟩
theorem ok_pair {p : Ps.Tk × Int} (h : ¬ p.2 ≠ 0) : p = (p.1, 0) := Prod.ext rfl (Decidable.not_not.1 h)
theorem ak_name (d : List Int) (h : (Gr.ak d).2.2 = 0) : ∃ n : Nat, ((d.drop 4).take n).length = n ∧ (Gr.ak d).1 = strOfNums ((d.drop 4).take n) := by
  refine ⟨(Wi.num (d.take 4)).toNat, ?_⟩
  unfold Gr.ak at h ⊢
  by_cases a1 : d.length < 4
  · rw [if_pos a1] at h; exact absurd h (by show (74 : Int) ≠ 0; decide)
  rw [if_neg a1] at h ⊢
  by_cases a2 : Wi.num (d.take 4) > 255
  · rw [if_pos a2] at h; exact absurd h (by show (74 : Int) ≠ 0; decide)
  rw [if_neg a2] at h ⊢
  by_cases a3 : Wi.num (d.take 4) > ((d.drop 4).length : Int)
  · rw [if_pos a3] at h; exact absurd h (by show (74 : Int) ≠ 0; decide)
  rw [if_neg a3] at h ⊢
  by_cases a4 : ((d.drop 4).drop (Wi.num (d.take 4)).toNat).length < 2
  · rw [if_pos a4] at h; exact absurd h (by show (74 : Int) ≠ 0; decide)
  rw [if_neg a4] at h ⊢
  by_cases a5 : ((((d.drop 4).drop (Wi.num (d.take 4)).toNat).drop 2).length : Int) ≠ 2 * Wi.num (((d.drop 4).drop (Wi.num (d.take 4)).toNat).take 2)
  · rw [if_pos a5] at h; exact absurd h (by show (74 : Int) ≠ 0; decide)
  rw [if_neg a5]
  exact ⟨by rw [List.length_take]; omega, rfl⟩
theorem gated_asked {l : List Ps.Tn} {b : List Int} {c : St} {k : Int} {j m : Nat} (h : Gated l b c) (hd : 16 + m ≤ (b.drop j).length) : Gated l b (asked l c k (((b.drop j).drop 16).take m)) := by
  unfold asked
  split
  · exact gated_say h _ _ _
  · rename_i h74
    split
    · exact gated_say h _ _ _
    · rename_i hck
      have hs : Shown l b (served c.blk (Ps.check l (Gr.ak (((b.drop j).drop 16).take m)).1).1) := by
        rw [h.blk_]
        obtain ⟨t, ht⟩ : ∃ t, Ps.check l (Gr.ak (((b.drop j).drop 16).take m)).1 = (t, 0) := ⟨_, ok_pair hck⟩
        rw [ht]
        obtain ⟨n, hn, hak⟩ : ∃ n : Nat, ((((((b.drop j).drop 16).take m).drop 4).take n).length = n) ∧ (Gr.ak (((b.drop j).drop 16).take m)).1 = strOfNums (((((b.drop j).drop 16).take m).drop 4).take n) := by
          exact ak_name _ (Decidable.not_not.1 h74)
        rw [hak] at ht
        have hp : ((((b.drop j).drop 16).take m).drop 4).take n = (b.drop (j + 20)).take n := by
          rw [List.drop_take, List.drop_drop, List.drop_drop, List.take_take, show j + (16 + 4) = j + 20 from by omega]
          congr 1
          have h2 := hn
          rw [List.length_take, List.length_drop, List.length_take] at h2
          omega
        rw [hp] at ht hn
        exact shown_of (j + 20) n hn ht
      have key : ∀ c3 : St, c3.blk = c.blk → c3.kept = c.kept → c3.ex = c.ex → c3.st = c.st → Gated l b (if k = 7 then { c3 with ex := served c.blk (Ps.check l (Gr.ak (((b.drop j).drop 16).take m)).1).1, st := 3 } else c3) := by
        intro c3 e1 e2 e3 e4
        split
        · exact ⟨e1.trans h.blk_, by obtain ⟨j', hj⟩ := h.kept_; exact ⟨j', e2.trans hj⟩, fun _ => hs⟩
        · exact ⟨e1.trans h.blk_, by obtain ⟨j', hj⟩ := h.kept_; exact ⟨j', e2.trans hj⟩, fun hh => by rw [e3]; exact h.ex_ (by rw [← e3, ← e4]; exact hh)⟩
      by_cases hw : 3 ∈ (Gr.ak (((b.drop j).drop 16).take m)).2.1
      · simp only [if_pos hw]
        exact key _ rfl rfl rfl rfl
      · simp only [if_neg hw]
        exact key _ rfl rfl rfl rfl
theorem gated_option {l : List Ps.Tn} {b : List Int} {c : St} {k : Int} {j m : Nat} (h : Gated l b c) (hd : 16 + m ≤ (b.drop j).length) : Gated l b (option l c k (((b.drop j).drop 16).take m)) := by
  unfold option
  split
  · exact gated_close (gated_say h _ _ _)
  · split
    · exact gated_say h _ _ _
    · split
      · unfold oldway
        split
        · exact gated_close h
        · rename_i hh
          obtain ⟨t, ht⟩ : ∃ t, Ps.check l (strOfNums (((b.drop j).drop 16).take m)) = (t, 0) := ⟨_, ok_pair (fun h => hh (.inl h))⟩
          refine ⟨h.blk_, h.kept_, fun _ => ?_⟩
          show Shown l b (served c.blk (Ps.check l (strOfNums (((b.drop j).drop 16).take m))).1)
          rw [ht, h.blk_]
          rw [List.drop_drop] at ht
          rw [List.length_drop] at hd
          exact shown_of (j + 16) m (by rw [List.length_take, List.length_drop]; omega) ht
      · split
        · exact gated_asked h hd
        · exact gated_say h _ _ _
theorem gated_step {l : List Ps.Tn} {b : List Int} {c : St} (h : Gated l b c) (ho : Ok c) : Gated l b (step l c).2.2 := by
  unfold step
  split
  · show Gated l b (if (Gr.fl c.kept).2.2 = 0 then { c with sh := (Gr.fl c.kept).1, st := 2 } else c)
    split
    · exact ⟨h.blk_, h.kept_, fun hh => h.ex_ (hh.elim (fun h' => absurd h' (by show (2 : Int) ≠ 3; decide)) .inr)⟩
    · exact h
  · split
    · show Gated l b (if (Gr.nx c.kept).2.2.2 = 0 then option l c (Gr.nx c.kept).1 (Gr.nx c.kept).2.1 else c)
      rcases nx_cases c.kept ho.by_ with e | e | e | ⟨k, m, _, hm, _, e⟩
      · rw [e]; exact h
      · rw [e]; exact h
      · rw [e]; exact h
      · rw [e]
        simp only [if_true]
        obtain ⟨j, hj⟩ := h.kept_
        rw [hj] at hm ⊢
        exact gated_option h hm
    · split
      · rename_i h3
        have hx := h.ex_ (.inl h3)
        unfold request
        split
        · exact h
        · split
          split
          · exact h
          · split
            · exact gated_close h
            · exact ⟨h.blk_, h.kept_, h.ex_⟩
      · exact h
theorem gated_next {l : List Ps.Tn} {b : List Int} {c : St} (h : Gated l b c) (ho : Ok c) : Gated l b (nextSt l c) := by
  have h1 := gated_step h ho
  obtain ⟨j, hj⟩ := h1.kept_
  exact ⟨h1.blk_, ⟨j + (step l c).1.toNat, by show (step l c).2.2.kept.drop (step l c).1.toNat = _; rw [hj, List.drop_drop]⟩, h1.ex_⟩
theorem gated_read {l : List Ps.Tn} {b : List Int} : ∀ (n : Nat) (c : St), c.kept.length ≤ n → Ok c → Gated l b c → Gated l b (read l c) := by
  intro n
  induction n with
  | zero =>
    intro c hn ho h
    rw [read_step l c ho]
    split
    · exact gated_step h ho
    · split
      · rename_i he
        split
        · exact gated_step h ho
        · rename_i h4
          have h2 := (next_ok l c ho he h4).2.1
          omega
      · exact gated_close (gated_step h ho)
  | succ n ih =>
    intro c hn ho h
    rw [read_step l c ho]
    split
    · exact gated_step h ho
    · split
      · rename_i he
        split
        · exact gated_step h ho
        · rename_i h4
          obtain ⟨h1, h2, _⟩ := next_ok l c ho he h4
          exact ih (nextSt l c) (by omega) h1 (gated_next h ho)
      · exact gated_close (gated_step h ho)
theorem gated_feed (l : List Ps.Tn) (b : List Int) (hb : Sh.Bytes b) : Gated l b (feed l (new 64) b) := by
  have h0 : Gated l b (new 64) := ⟨rfl, ⟨b.length, by rw [List.drop_length]; rfl⟩, fun hh => hh.elim (fun h => absurd h (by show (1 : Int) ≠ 3; decide)) (fun h => absurd rfl h)⟩
  unfold feed
  rw [if_neg (by show ¬(1 : Int) = 4; decide)]
  split
  · exact gated_close h0
  · rename_i hn
    refine gated_read (b.length) _ (by show ([] ++ b).length ≤ _; rw [List.nil_append]; exact Nat.le_refl _) ⟨(fun x hx => hb x hx), (by show b.length ≤ _; omega), (fun r hr => by cases hr), (show (0 : Int) ≤ 64 ∧ (64 : Int) ≤ 65535 by decide)⟩ ⟨rfl, ⟨0, rfl⟩, fun hh => hh.elim (fun h => absurd h (by show (1 : Int) ≠ 3; decide)) (fun h => absurd rfl h)⟩
end Cn
end Go.Proofs.YtgljicdpcapgnaaDoor
set_option linter.unusedVariables false
set_option linter.unusedSimpArgs false
namespace Go.Proofs.YtgljicdpcapgnaaDoor
open Go.RowKit Go.Proofs.YtgljicdpcapgnaaDoor.PBase Go.Proofs.YtgljicdpcapgnaaDoorW.PrintWords Go.Proofs.YtgljicdpcapgnaaDoorW.PrintLast Go.Proofs.YtgljicdpcapgnaaDoorW.PrintMore
set_option maxHeartbeats 8000000 in
set_option maxRecDepth 100000 in
theorem shown_.calls {W : World} {tb bs : Nat} {l : List Ps.Tn} {A : Option Addr} {n c : Nat} {b : List Int} {x : Cn.Ex} (hK : Sh.Ks W) (hT : Ps.Tb W bs tb l) (hW : ∀ x ∈ l, Ps.TnWf x) (hb : Kd.C (Kd.int .u8) W A b.length b) (hn : b.length = n) (hc : n ≤ c) (hl : n ≤ 3000) (hs : Cn.Shown l b x) :
  Calls Tryd.prog 16 #[.pointer (some ⟨tb, 0, none⟩), .slice A n c, .agg #[.int .u32 x.1, .int .u64 x.2.1, .bool x.2.2]] W fun e w' => e = .returned (.bool true) ∧ Below W.heap.size W w' := by
 obtain ⟨i0, t0, hi0, hck0, hsv0⟩ := hs
 obtain ⟨x1, x2, x3⟩ := x
 simp only []
 have HK := Aside0.mk hK
 have HT := Aside0.mk hT
 have HW := Aside0.mk hW
 have HC := Aside0.mk hb
 have HN := Aside0.mk hn
 have HCP := Aside0.mk hc
 have HL := Aside0.mk hl
 rw [hn] at hi0
 have HI0 := Aside0.mk hi0
 have HCK0 := Aside0.mk hck0
 have HSV0 := Aside0.mk hsv0
 have HSE := Aside0.mk Cn.sizeEx
 clear hK hT hW hb hn hc hl hi0 hck0 hsv0
 have HA1 : Aside0 (Below W.heap.size W (W.alloc (.cells #[.int .u32 x1, .int .u64 x2, .bool x3] 44))) := ⟨below_alloc (Below.refl _ _) _⟩
 have HX1 : Aside0 (Wk.Blk (W.alloc (.cells #[.int .u32 x1, .int .u64 x2, .bool x3] 44)) W.heap.size 44 [.int .u32 x1, .int .u64 x2, .bool x3]) := ⟨Wk.Blk.new W _ [.int .u32 x1, .int .u64 x2, .bool x3]⟩
 go_enter Tryd.func16, Tryd.ntmps16
 go_wp2_with fail
 generalize W.alloc (.cells #[.int .u32 x1, .int .u64 x2, .bool x3] 44) = w1 at *
 obtain ⟨g5, HG5⟩ : ∃ b, Aside0 (W.heap.size = b) := ⟨_, ⟨rfl⟩⟩
 rw [HG5.out] at HX1 ⊢
 go_loopw [7] (fun ix wr => ∃ i : Nat, ix = .int .i64 i ∧ i ≤ i0 ∧ Aside0 (Below w1.heap.size w1 wr)) (fun ix _ => i0 - (intOf ix).toNat)
 case atStart => exact ⟨0, rfl, Nat.zero_le _, ⟨Below.refl _ _⟩⟩
 case round =>
  obtain ⟨i, rfl, hi, HB⟩ := hrel
  have hi3 : (i : Int) ≤ 2920 := by have := HI0.out; have := HL.out; omega
  have hnI : (i : Int) + 80 ≤ (n : Int) := by have := HI0.out; omega
  have HBW := Aside0.mk (below_then HA1.out HA1.out.size HB.out)
  obtain ⟨A1, hs1, hln1, hC1⟩ := Wk.cut_mid_ (P := Tryd.prog) 23 5 .i64 .i64 Tryd.underlying23 Cn.size1 .u8 A c b (i : Int) ((i : Int) + 80) i (i + 80) rfl (by omega) (by omega) (by rw [HN.out]; omega) (by rw [HN.out]; exact HCP.out)
  rw [HN.out, show i + 80 - i = 80 from by omega] at hs1
  rw [show i + 80 - i = 80 from by omega] at hln1 hC1
  have hcv : ∀ w', Below w1.heap.size w1 w' → (convert 23 9 (.slice A1 80 (c - i))).run Tryd.prog w' = .ok (.string (strOfNums ((b.drop i).take 80))) w' := fun w' hb' => Kd.C_string Tryd.underlying23 Tryd.underlying5 Tryd.underlying9 (hC1 w' (Kd.C_below HC.out (below_then HA1.out HA1.out.size hb')))
  have hcv1 := hcv wr HB.out
  have HSS : Aside0 ((strOfNums ((b.drop i).take 80)).size ≤ 1000000) := ⟨by rw [Cn.str_size, hln1]; decide⟩
  obtain ⟨s, HS⟩ : ∃ s, Aside0 (strOfNums ((b.drop i).take 80) = s) := ⟨_, ⟨rfl⟩⟩
  rw [HS.out] at hcv1 HSS
  clear hcv hC1 hln1
  go_wp2_with fail
  clear hcv1
  refine (check_.calls tb bs l s wr (HK.out.below HBW.out) (HT.out.below HBW.out) HSS.out HW.out).mono ?_
  rintro e w6 ⟨rfl, hb6⟩
  obtain ⟨zi, ze, zo, zs, cr, HCK⟩ : ∃ zi ze zo zs cr, Aside0 (Ps.check l s = ((zi, ze, zo, zs), cr)) := ⟨_, _, _, _, _, ⟨rfl⟩⟩
  have HWF : Aside0 (Ps.TkWf (zi, ze, zo, zs)) := ⟨by have := Cn.check_wf l s; rw [HCK.out] at this; exact this⟩
  rw [HCK.out]
  obtain ⟨sz, HSZ⟩ : ∃ sz, Aside0 ((if zs ≤ 288230376151711743 then zs * 64 else 18446744073709551615) = sz) := ⟨_, ⟨rfl⟩⟩
  have HSV : Aside0 (Cn.served 64 (zi, ze, zo, zs) = (zi, sz, zo)) := ⟨by
   rw [← HSZ.out]
   unfold Cn.served
   rw [show (18446744073709551615 : Int) / 64 = 288230376151711743 from by decide]
   by_cases h : zs ≤ 288230376151711743
   ·rw [if_pos (Or.inr h), if_pos h]
   ·rw [if_neg (fun hh => hh.elim (fun h' => absurd h' (by decide)) h), if_neg h]⟩
  have HEQ : Aside0 (i = i0 → cr = 0 ∧ zi = x1 ∧ sz = x2 ∧ zo = x3) := ⟨fun he => by
   subst he
   have h1 := HCK0.out
   rw [HS.out, HCK.out] at h1
   have h2 := HSV0.out
   rw [← (Prod.mk.inj h1).1, HSV.out] at h2
   obtain ⟨h3, h4⟩ := Prod.mk.inj h2
   obtain ⟨h4, h5⟩ := Prod.mk.inj h4
   exact ⟨(Prod.mk.inj h1).2, h3, h4, h5⟩⟩
  have HB6 := Aside0.mk (below_then HB.out HB.out.size hb6)
  have HA7 : Aside0 (Below w6.heap.size w6 (w6.alloc (.cells #[.int .u32 zi, .int .u32 ze, .bool zo, .int .u64 zs] 55))) := ⟨below_alloc (Below.refl _ _) _⟩
  have HX7 : Aside0 (Wk.Blk (w6.alloc (.cells #[.int .u32 zi, .int .u32 ze, .bool zo, .int .u64 zs] 55)) w6.heap.size 55 (Ps.tkc (zi, ze, zo, zs))) := ⟨Wk.Blk.new w6 _ (Ps.tkc (zi, ze, zo, zs))⟩
  have HB7 := Aside0.mk (below_then HB6.out HB6.out.size HA7.out)
  have HX17 := Aside0.mk (HX1.out.below_ HB7.out)
  have hz64 : 0 ≤ zs := HWF.out.2.2.1
  clear hb6 HB
  have e0 := HX17.out.at_ 0 rfl
  have e1 := HX17.out.at_ 1 rfl
  have e2 := HX17.out.at_ 2 rfl
  by_cases hsz : zs ≤ 288230376151711743
  ·obtain rfl : zs * 64 = sz := by rw [← HSZ.out, if_pos hsz]
   have hz65 : zs * 64 < 18446744073709551616 := by omega
   clear HSZ
   cases hb1 : cr == 0
   ·skip
    have hlt : i < i0 := by
     rcases Nat.lt_or_ge i i0 with h | h
     ·exact h
     ·exfalso
      obtain ⟨h1, h2, h3, h4⟩ := HEQ.out (by omega)
      rw [h1] at hb1; exact absurd hb1 (by decide)
    go_wp2_with fail
    exact ⟨⟨i + 1, by simp, by omega, HB7⟩, by simp [intOf]; omega⟩
   cases hb2 : zi == x1
   ·skip
    have hlt : i < i0 := by
     rcases Nat.lt_or_ge i i0 with h | h
     ·exact h
     ·exfalso
      obtain ⟨h1, h2, h3, h4⟩ := HEQ.out (by omega)
      rw [h2, beq_self_eq_true] at hb2; cases hb2
    go_wp2_with fail
    exact ⟨⟨i + 1, by simp, by omega, HB7⟩, by simp [intOf]; omega⟩
   cases hb3 : zo == x3
   ·skip
    have hlt : i < i0 := by
     rcases Nat.lt_or_ge i i0 with h | h
     ·exact h
     ·exfalso
      obtain ⟨h1, h2, h3, h4⟩ := HEQ.out (by omega)
      rw [h4, beq_self_eq_true] at hb3; cases hb3
    go_wp2_with fail
    exact ⟨⟨i + 1, by simp, by omega, HB7⟩, by simp [intOf]; omega⟩
   cases hb4 : zs * 64 == x2
   ·skip
    have hlt : i < i0 := by
     rcases Nat.lt_or_ge i i0 with h | h
     ·exact h
     ·exfalso
      obtain ⟨h1, h2, h3, h4⟩ := HEQ.out (by omega)
      rw [h3, beq_self_eq_true] at hb4; cases hb4
    go_wp2_with fail
    exact ⟨⟨i + 1, by simp, by omega, HB7⟩, by simp [intOf]; omega⟩
   clear HEQ
   go_wp2_with fail
   go_ret
   exact ⟨rfl, below_then HA1.out HA1.out.size HB7.out⟩
  ·obtain rfl : 18446744073709551615 = sz := by rw [← HSZ.out, if_neg hsz]
   clear HSZ
   cases hb1 : cr == 0
   ·skip
    have hlt : i < i0 := by
     rcases Nat.lt_or_ge i i0 with h | h
     ·exact h
     ·exfalso
      obtain ⟨h1, h2, h3, h4⟩ := HEQ.out (by omega)
      rw [h1] at hb1; exact absurd hb1 (by decide)
    go_wp2_with fail
    exact ⟨⟨i + 1, by simp, by omega, HB7⟩, by simp [intOf]; omega⟩
   cases hb2 : zi == x1
   ·skip
    have hlt : i < i0 := by
     rcases Nat.lt_or_ge i i0 with h | h
     ·exact h
     ·exfalso
      obtain ⟨h1, h2, h3, h4⟩ := HEQ.out (by omega)
      rw [h2, beq_self_eq_true] at hb2; cases hb2
    go_wp2_with fail
    exact ⟨⟨i + 1, by simp, by omega, HB7⟩, by simp [intOf]; omega⟩
   cases hb3 : zo == x3
   ·skip
    have hlt : i < i0 := by
     rcases Nat.lt_or_ge i i0 with h | h
     ·exact h
     ·exfalso
      obtain ⟨h1, h2, h3, h4⟩ := HEQ.out (by omega)
      rw [h4, beq_self_eq_true] at hb3; cases hb3
    go_wp2_with fail
    exact ⟨⟨i + 1, by simp, by omega, HB7⟩, by simp [intOf]; omega⟩
   cases hb4 : (18446744073709551615 : Int) == x2
   ·skip
    have hlt : i < i0 := by
     rcases Nat.lt_or_ge i i0 with h | h
     ·exact h
     ·exfalso
      obtain ⟨h1, h2, h3, h4⟩ := HEQ.out (by omega)
      rw [h3, beq_self_eq_true] at hb4; cases hb4
    go_wp2_with fail
    exact ⟨⟨i + 1, by simp, by omega, HB7⟩, by simp [intOf]; omega⟩
   clear HEQ
   go_wp2_with fail
   go_ret
   exact ⟨rfl, below_then HA1.out HA1.out.size HB7.out⟩
set_option maxHeartbeats 8000000 in
set_option maxRecDepth 100000 in
theorem connGates_.calls (x0 : List Ps.Tn) (v0 : Value) (x1 : List Int) (v1 : Value) (W : World) (hk : Sh.Ks W) (hK0 : (Kd.slice 58 Ps.kTn).K W x0 [v0]) (hw0 : x0.length ≤ maxLen ∧ ∀ x ∈ x0, Ps.TnIn x) (hK1 : (Kd.slice 5 (Kd.int .u8)).K W x1 [v1]) (hw1 : x1.length ≤ maxLen ∧ ∀ x ∈ x1, (Lit.int .u8 x).wf = true) :
  Calls Tryd.prog 4 #[v0, v1] W fun e w' => e = .returned (.bool true) ∧ Below W.heap.size W w' := by
 obtain ⟨A0, c0, he0, hlc, hC⟩ := hK0
 obtain rfl : v0 = .slice A0 x0.length c0 := by simpa using he0
 obtain ⟨A1, c1, he1, hlc1, hC1⟩ := hK1
 obtain rfl : v1 = .slice A1 x1.length c1 := by simpa using he1
 have HK := Aside0.mk hk
 have HC := Aside0.mk hC
 have HC1 := Aside0.mk hC1
 have HI := Aside0.mk hw0.2
 have HBY := Aside0.mk (Ps.bytes_of hw1.2)
 obtain ⟨n, HN⟩ : ∃ n, Aside0 (x0.length = n) := ⟨_, ⟨rfl⟩⟩
 obtain ⟨m, HM⟩ : ∃ n, Aside0 (x1.length = n) := ⟨_, ⟨rfl⟩⟩
 rw [HN.out] at hlc ⊢
 rw [HM.out] at hlc1 ⊢
 have HLC := Aside0.mk hlc
 have HLC1 := Aside0.mk hlc1
 clear hw0 hC he0 hk hlc hC1 he1 hlc1 hw1
 have HB0 : Aside0 (Below W.heap.size W (W.alloc (.cells #[.int .u8 0, .slice A1 m c1, .int .i64 0, .int .u32 0] 40))) := ⟨below_alloc (Below.refl _ _) _⟩
 have HH0 : Aside0 (0 < 1 → ∃ ad, (some (⟨W.heap.size, 0, none⟩ : Addr)) = some ad ∧ ∀ i : Nat, i < 1 → ∃ A c, (W.alloc (.cells #[.int .u8 0, .slice A1 m c1, .int .i64 0, .int .u32 0] 40)).cell? ⟨(ad.add (i * 4)).block, (ad.add (i * 4)).off + 1, none⟩ = some (.slice A ((fun _ => m) i) c)) := ⟨fun _ => ⟨_, rfl, fun i hi => by
  obtain rfl : i = 0 := by omega
  exact ⟨A1, c1, Lit.cell_new W _ _ _ 1⟩⟩⟩
 go_enter Tryd.func4, Tryd.ntmps4
 go_wp2_with fail
 refine (heavyc_.calls (Kd.C_below HC.out HB0.out) HN.out HLC.out HH0.out).mono ?_
 rintro e w1 ⟨b, rfl, hb, hb1⟩
 have HB1 := Aside0.mk (below_then HB0.out HB0.out.size hb1)
 have HLT := Aside0.mk hb
 clear hb hb1 HB0 HH0
 cases b with
 | true =>
  go_wp2_with fail
  refine (knownc_.calls _ (HK.out.below HB1.out)).mono ?_
  rintro e w2 ⟨rfl, hb2⟩
  have HB2 := Aside0.mk (below_then HB1.out HB1.out.size hb2)
  clear hb2
  go_wp2_with fail
  go_ret
  exact ⟨rfl, HB2.out⟩
 | false =>
 have HLI := Aside0.mk (HLT.out rfl)
 have HTW := Aside0.mk (Ps.few_wf HLI.out.1 HI.out)
 have HM3 : Aside0 (m ≤ 3000) := ⟨HLI.out.2.2 0 (by decide)⟩
 clear HLT HLI HI
 go_wp2_with fail
 refine (knownc_.calls _ (HK.out.below HB1.out)).mono ?_
 rintro e w2 ⟨rfl, hb2⟩
 have HB2 := Aside0.mk (below_then HB1.out HB1.out.size hb2)
 clear hb2 HB1
 go_wp2_with fail
 refine (tables_.calls (Kd.C_below HC.out HB2.out) HN.out HTW.out).mono ?_
 rintro e w3 ⟨hb3, hpost⟩
 have HB3 := Aside0.mk (below_then HB2.out HB2.out.size hb3)
 rcases hpost with ⟨_, _, tb, q, rfl, ht⟩ | ⟨_, rfl⟩
 rotate_left
 ·go_wp2_with fail
  go_ret
  exact ⟨rfl, HB3.out⟩
 have HT := Aside0.mk ht
 have HX := Aside0.mk (Cn.Ctx.new (HK.out.below HB3.out) ht HTW.out)
 clear hb3 ht
 go_wp2_with fail
 refine (newconn_.calls w3 tb 64).mono ?_
 rintro e w4 ⟨p, rfl, hc4, hb4⟩
 have HC4 := Aside0.mk hc4
 have HB4 := Aside0.mk hb4
 clear hc4 hb4
 go_wp2_with fail
 refine (feedc_.calls HX.out HC4.out (fun k hk => Nat.le_trans HB4.out.size hk) (Cn.new_ok 64 (by decide)) HB4.out (fun k hk => hk) (by have := Cn.hello_len; show Cn.hello.length ≤ _; omega) (Kd.C_below HC1.out (below_then HB3.out HB3.out.size HB4.out)) HM.out HLC1.out HBY.out).mono ?_
 rintro e w5 ⟨rfl, hc5, hf5⟩
 have HG := Aside0.mk (Cn.gated_feed x0 x1 HBY.out).ex_
 obtain ⟨c5, H5⟩ : ∃ c5, Aside0 (Cn.feed x0 (Cn.new 64) x1 = c5) := ⟨_, ⟨rfl⟩⟩
 rw [H5.out] at hc5 HG
 have HC5 := Aside0.mk hc5
 have HB5 := Aside0.mk (hf5.below HB4.out HB4.out.size (fun k hk => hk))
 clear hc5 hf5 HC4 HB4
 go_wp2_with fail
 refine (export_.calls HC5.out).mono ?_
 rintro e w6 ⟨rfl, hb6⟩
 have HC6 := Aside0.mk (HC5.out.below hb6)
 have HB6 := Aside0.mk (below_then HB5.out HB5.out.size hb6)
 obtain ⟨x, HEX⟩ : ∃ x, Aside0 (c5.ex = x) := ⟨_, ⟨rfl⟩⟩
 rw [HEX.out] at HG ⊢
 obtain ⟨xt, xs, xr⟩ := x
 simp only [Cn.exc]
 have HA7 : Aside0 (Below w6.heap.size w6 (w6.alloc (.cells #[.int .u32 xt, .int .u64 xs, .bool xr] 44))) := ⟨below_alloc (Below.refl _ _) _⟩
 have HB7 := Aside0.mk (below_then HB6.out HB6.out.size HA7.out)
 have HC7 := Aside0.mk (HC6.out.below HA7.out)
 have HBX := Aside0.mk (below_then HB3.out HB3.out.size HB7.out)
 clear hb6 HA7
 by_cases h1 : xt = 0
 rotate_left
 ·have e1 : (xt == 0) = false := by simpa using h1
  go_wp2_with fail
  refine (shown_.calls (x := (xt, xs, xr)) (HX.out.kt _ HB7.out).1 (HX.out.kt _ HB7.out).2 HTW.out (Kd.C_below HC1.out (below_then HB3.out HB3.out.size HB7.out)) HM.out HLC1.out HM3.out (HG.out (Or.inr (fun h => h1 (Prod.mk.inj h).1)))).mono ?_
  rintro e w8 ⟨rfl, hb8⟩
  have HB8 := Aside0.mk (below_then HB3.out HB3.out.size (below_then HB7.out HB7.out.size hb8))
  clear hb8
  go_wp2_with fail
  go_ret
  exact ⟨rfl, HB8.out⟩
 subst h1
 by_cases h2 : xs = 0
 rotate_left
 ·have e1 : (xs == 0) = false := by simpa using h2
  go_wp2_with fail
  refine (shown_.calls (x := (0, xs, xr)) (HX.out.kt _ HB7.out).1 (HX.out.kt _ HB7.out).2 HTW.out (Kd.C_below HC1.out (below_then HB3.out HB3.out.size HB7.out)) HM.out HLC1.out HM3.out (HG.out (Or.inr (fun h => h2 (Prod.mk.inj (Prod.mk.inj h).2).1)))).mono ?_
  rintro e w8 ⟨rfl, hb8⟩
  have HB8 := Aside0.mk (below_then HB3.out HB3.out.size (below_then HB7.out HB7.out.size hb8))
  clear hb8
  go_wp2_with fail
  go_ret
  exact ⟨rfl, HB8.out⟩
 subst h2
 cases xr with
 | true =>
  go_wp2_with fail
  refine (shown_.calls (x := (0, 0, true)) (HX.out.kt _ HB7.out).1 (HX.out.kt _ HB7.out).2 HTW.out (Kd.C_below HC1.out (below_then HB3.out HB3.out.size HB7.out)) HM.out HLC1.out HM3.out (HG.out (Or.inr (fun h => absurd (Prod.mk.inj (Prod.mk.inj h).2).2 (by decide))))).mono ?_
  rintro e w8 ⟨rfl, hb8⟩
  have HB8 := Aside0.mk (below_then HB3.out HB3.out.size (below_then HB7.out HB7.out.size hb8))
  clear hb8
  go_wp2_with fail
  go_ret
  exact ⟨rfl, HB8.out⟩
 | false =>
  go_wp2_with fail
  refine (state_.calls HC7.out).mono ?_
  rintro e w8 ⟨rfl, hb8⟩
  have HB9 := Aside0.mk (below_then HB7.out HB7.out.size hb8)
  obtain ⟨st, HST⟩ : ∃ s, Aside0 (c5.st = s) := ⟨_, ⟨rfl⟩⟩
  rw [HST.out] at HG ⊢
  have HX9 := Aside0.mk ((Wk.Blk.new w6 44 (Cn.exc (0, 0, false))).below_ hb8)
  have y0 := HX9.out.at_ 0 rfl
  have y1 := HX9.out.at_ 1 rfl
  have y2 := HX9.out.at_ 2 rfl
  clear hb8
  by_cases h3 : st = 3
  ·subst h3
   go_wp2_with fail
   clear y0 y1 y2
   refine (shown_.calls (x := (0, 0, false)) (HX.out.kt _ HB9.out).1 (HX.out.kt _ HB9.out).2 HTW.out (Kd.C_below HC1.out (below_then HB3.out HB3.out.size HB9.out)) HM.out HLC1.out HM3.out (HG.out (Or.inl trivial))).mono ?_
   rintro e w8 ⟨rfl, hb8⟩
   have HB8 := Aside0.mk (below_then HB3.out HB3.out.size (below_then HB9.out HB9.out.size hb8))
   clear hb8
   go_wp2_with fail
   go_ret
   exact ⟨rfl, HB8.out⟩
  ·have e3 : (st == 3) = false := by simpa using h3
   go_wp2_with fail
   go_ret
   exact ⟨rfl, below_then HB3.out HB3.out.size HB9.out⟩
end Go.Proofs.YtgljicdpcapgnaaDoor
