/- The walk of the law ShaStays. -/
import Derived.Test.YtnfkinhikgikiaaDoorShaL3
import Derived.Deep.RegionHeld3
set_option linter.unusedVariables false
set_option linter.unusedSimpArgs false
namespace Go.Proofs.YtnfkinhikgikiaaDoor
open Go.RowKit Go.Proofs.YtnfkinhikgikiaaDoorW.PrintWords Go.Proofs.YtnfkinhikgikiaaDoorW.PrintLast Go.Proofs.YtnfkinhikgikiaaDoorW.PrintMore
namespace Sh
theorem load_exec {oi : Oper} {x : Operand} {a : Act} {w' : World} {b : Nat} {D : Array Value} (ho : oi.op = .load 25 x) (hx : a.eval x = .pointer (some ⟨b, 0, none⟩)) (hg : w'.heap[b]? = some (.cells D 25 (0, 0))) (hi : (Tryd.prog.info? 25).map (·.size) = some D.size) :
    (execOp a.eval oi).run Tryd.prog w' = .ok (.value (.agg D)) w' := by
  unfold execOp
  simp only [ho, hx, Instr.loadAt, Instr.sureAddr, Sem.run_bind, Sem.run_pure, Result.andThen_ok, run_loadVar_row w' b 25 25 D (0, 0) _ hg Tryd.underlying25 rfl hi]
theorem store_new (w5 : World) (D : Array Value) : ((w5.alloc (.cells (u8s (List.replicate 32 0)) 25)).setRow w5.heap.size D).heap[w5.heap.size]? = some (.cells D 25 (0, 0)) ∧ Below w5.heap.size w5 ((w5.alloc (.cells (u8s (List.replicate 32 0)) 25)).setRow w5.heap.size D) :=
  ⟨setRow_heap _ _ _ _ _ _ (heap_alloc_new w5 _), below_setRow (below_alloc (Below.refl _ _) _) (Nat.le_refl _) D⟩
theorem dig_info (l : List Int) : (Tryd.prog.info? 25).map (·.size) = some (u8s (dig l)).size := by
  rw [show (u8s (dig l)).size = 32 by simp [u8s, dig_length l]]
  kernel_rfl
theorem dig_zeros (l : List Int) : (u8s (List.replicate 32 0)).size = (u8s (dig l)).size := by
  rw [show (u8s (dig l)).size = 32 by simp [u8s, dig_length l]]
  rfl
theorem dig_one (l : List Int) : (u8s (dig l)).all (·.oneCell') = true := by simp [u8s, Value.oneCell']
/-- two hashes -/
structure Tw (w : World) (bh bg : Nat) (ah ag rh rg : List Int) (wr : World) : Prop where
  h : Ha wr bh ah rh
  k : Ha wr bg ag rg
  g : Below w.heap.size w wr
theorem Tw.below {w : World} {bh bg : Nat} {ah ag rh rg : List Int} {wr W : World} (h : Tw w bh bg ah ag rh rg wr) (hb : Below wr.heap.size wr W) : Tw w bh bg ah ag rh rg W :=
  ⟨h.h.below hb, h.k.below hb, below_then h.g h.g.size hb⟩
theorem below_of_none {w W : World} (hg : w.grownBy W (Value.slice none 0 0).ownBlock) : Below w.heap.size w W :=
  ⟨hg.os, hg.tape, hg.output, hg.size, fun k hk => hg.block k hk (by simp [Value.ownBlock])⟩
theorem below_own {w W1 W : World} {r : Option Nat} (h : Below w.heap.size w W1) (hr : ∀ k, r = some k → w.heap.size ≤ k) (hg : W1.grownBy W r) : Below w.heap.size w W :=
  h.grown hg h.size hr
theorem C_len {w : World} {A : Option Addr} {l : List Int} {N : Nat} (hN : l.length = N) (h : Kd.C (Kd.int .u8) w A l.length l) : Kd.C (Kd.int .u8) w A N l := hN ▸ h
theorem below_step2 {w W W2 : World} (h : Below w.heap.size w W) (hb : Below W.heap.size W W2) : Below w.heap.size w W2 := below_then h h.size hb
theorem Ha.other {w W : World} {b k : Nat} {bs rest : List Int} (h : Ha w b bs rest) (hg : w.grownBy W (some k)) (hk : b ≠ k) : Ha W b bs rest :=
  ⟨h.len, h.tl, h.by_, (hg.block b h.lt (fun e => hk (Option.some.inj e))).trans h.h⟩
theorem Bytes.app {a b : List Int} (ha : Bytes a) (hb : Bytes b) : Bytes (a ++ b) := by
  intro x hx
  rcases List.mem_append.1 hx with h | h
  · exact ha x h
  · exact hb x h
end Sh
set_option maxHeartbeats 1600000 in
set_option maxRecDepth 100000 in
theorem shaStays_.calls (A0 A1 A2 : Option Addr) (c0 c1 c2 : Nat) (a b c : List Int) (w : World) (hk : Sh.Ks w)
    (hr0 : Kd.C (Kd.int .u8) w A0 a.length a) (hc0 : a.length ≤ c0) (hby0 : Sh.Bytes a) (hm0 : a.length ≤ 9223372036854775807)
    (hr1 : Kd.C (Kd.int .u8) w A1 b.length b) (hc1 : b.length ≤ c1) (hby1 : Sh.Bytes b) (hm1 : b.length ≤ 9223372036854775807)
    (hr2 : Kd.C (Kd.int .u8) w A2 c.length c) (hc2 : c.length ≤ c2) (hby2 : Sh.Bytes c) (hm2 : c.length ≤ 9223372036854775807) :
    Calls Tryd.prog 5 #[.slice A0 a.length c0, .slice A1 b.length c1, .slice A2 c.length c2] w fun e w' => e = .returned (.bool true) ∧ Below w.heap.size w w' := by
  have HR0 := Aside0.mk hr0
  have HR1 := Aside0.mk hr1
  have HR2 := Aside0.mk hr2
  have HY0 := Aside0.mk hby0
  have HY1 := Aside0.mk hby1
  have HY2 := Aside0.mk hby2
  have HK := Aside0.mk hk
  clear hr0 hr1 hr2 hby0 hby1 hby2 hk
  obtain ⟨N0, HN0⟩ : ∃ N, Aside0 (a.length = N) := ⟨_, ⟨rfl⟩⟩
  obtain ⟨N1, HN1⟩ : ∃ N, Aside0 (b.length = N) := ⟨_, ⟨rfl⟩⟩
  obtain ⟨N2, HN2⟩ : ∃ N, Aside0 (c.length = N) := ⟨_, ⟨rfl⟩⟩
  rw [HN0.out] at hc0 hm0 ⊢
  rw [HN1.out] at hc1 hm1 ⊢
  rw [HN2.out] at hc2 hm2 ⊢
  by_cases hb : 1200 < N0 ∨ 1200 < N1 ∨ 1200 < N2
  · have early : ∀ x0 x1 x2 : Bool, decide (1200 < (N0 : Int)) = x0 → decide (1200 < (N1 : Int)) = x1 → decide (1200 < (N2 : Int)) = x2 → (x0 || x1 || x2) = true →
        Calls Tryd.prog 5 #[.slice A0 N0 c0, .slice A1 N1 c1, .slice A2 N2 c2] w fun e w' => e = .returned (.bool true) ∧ Below w.heap.size w w' := by
      intro x0 x1 x2 h0 h1 h2 hx
      clear hb
      go_enter Tryd.func5, Tryd.ntmps5
      cases x0 <;> cases x1 <;> cases x2 <;> first | (exact absurd hx Bool.false_ne_true) | skip
      all_goals
        go_wp2_with fail
        refine (known_.calls w HK.out).mono ?_
        rintro e w1 ⟨rfl, hb1⟩
        have HB1 := Aside0.mk hb1
        clear hb1
        go_wp2_with fail
        go_ret
        exact ⟨rfl, HB1.out⟩
    refine early _ _ _ rfl rfl rfl ?_
    rcases hb with h | h | h
    · rw [show decide (1200 < (N0 : Int)) = true from decide_eq_true (by omega)]; rfl
    · rw [show decide (1200 < (N1 : Int)) = true from decide_eq_true (by omega)]; simp
    · rw [show decide (1200 < (N2 : Int)) = true from decide_eq_true (by omega)]; simp
  · have g0 : ¬ 1200 < N0 := by omega
    have g1 : ¬ 1200 < N1 := by omega
    have g2 : ¬ 1200 < N2 := by omega
    clear hb
    go_enter Tryd.func5, Tryd.ntmps5
    go_wp2_with fail
    refine (known_.calls w HK.out).mono ?_
    rintro e w1 ⟨rfl, hb1⟩
    have HB1 := Aside0.mk hb1
    clear hb1
    go_wp2_with fail
    refine (new_.calls w1).mono ?_
    rintro e w2 ⟨rfl, h2, hb2⟩
    have HB2 : Aside0 (Below w.heap.size w w2) := ⟨below_then HB1.out HB1.out.size hb2⟩
    obtain ⟨bh, HBH⟩ : ∃ b, Aside0 (w1.heap.size = b) := ⟨_, ⟨rfl⟩⟩
    have HNH : Aside0 (w.heap.size ≤ bh ∧ 0 < bh ∧ bh < w2.heap.size) := ⟨by rw [← HBH.out]; exact ⟨HB1.out.size, by have := HK.out.pos; have := HB1.out.size; omega, h2.lt⟩⟩
    rw [HBH.out] at h2 ⊢
    have H2 := Aside0.mk h2
    clear h2 hb2 HB1 HBH
    go_wp2_with fail
    refine (new_.calls w2).mono ?_
    rintro e w3 ⟨rfl, h3, hb3⟩
    have HNG : Aside0 (w.heap.size ≤ w2.heap.size ∧ 0 < w2.heap.size ∧ bh ≠ w2.heap.size) := ⟨by have := HNH.out; omega⟩
    have HT3 : Aside0 (Sh.Tw w bh w2.heap.size [] [] _ _ w3) := ⟨⟨H2.out.below hb3, h3, below_then HB2.out HB2.out.size hb3⟩⟩
    obtain ⟨bg, HBG⟩ : ∃ b, Aside0 (w2.heap.size = b) := ⟨_, ⟨rfl⟩⟩
    rw [HBG.out] at HT3 HNG ⊢
    clear h3 hb3 HB2 H2 HBG
    have HW : Aside0 (Calls Tryd.prog 11 #[.pointer (some ⟨bh, 0, none⟩), .slice A0 N0 c0] w3 fun e w' => e = .returned (.tuple #[]) ∧ (∃ rest', Sh.Ha w' bh a rest') ∧ w3.grownBy w' (some bh)) := ⟨by
      have := write_.calls bh [] _ A0 c0 a w3 HT3.out.h (by have := HNH.out; omega) (HK.out.below HT3.out.g) (Kd.C_below HR0.out HT3.out.g) (by rw [HN0.out]; exact hc0) (fun hl a e => Sh.far_of_C HR0.out hl e HNH.out.1) HY0.out (by rw [HN0.out]; simp; omega)
      rw [HN0.out, List.nil_append] at this
      exact this⟩
    go_wp2_with fail
    refine HW.out.mono ?_
    rintro e w4 ⟨rfl, ⟨r4, h4⟩, gg4⟩
    have HT4 : Aside0 (Sh.Tw w bh bg a [] r4 _ w4) := ⟨⟨h4, HT3.out.k.other gg4 (fun e => HNG.out.2.2 e.symm), Sh.below_of_gb HT3.out.g gg4 HNH.out.1⟩⟩
    clear h4 gg4 HW HT3
    have HW : Aside0 (Calls Tryd.prog 11 #[.pointer (some ⟨bg, 0, none⟩), .slice A2 N2 c2] w4 fun e w' => e = .returned (.tuple #[]) ∧ (∃ rest', Sh.Ha w' bg c rest') ∧ w4.grownBy w' (some bg)) := ⟨by
      have := write_.calls bg [] _ A2 c2 c w4 HT4.out.k (by have := HNG.out; omega) (HK.out.below HT4.out.g) (Kd.C_below HR2.out HT4.out.g) (by rw [HN2.out]; exact hc2) (fun hl a e => Sh.far_of_C HR2.out hl e HNG.out.1) HY2.out (by rw [HN2.out]; simp; omega)
      rw [HN2.out, List.nil_append] at this
      exact this⟩
    go_wp2_with fail
    refine HW.out.mono ?_
    rintro e w5 ⟨rfl, ⟨r5, h5⟩, gg5⟩
    have HT5 : Aside0 (Sh.Tw w bh bg a c r4 r5 w5) := ⟨⟨HT4.out.h.other gg5 HNG.out.2.2, h5, Sh.below_of_gb HT4.out.g gg5 HNG.out.1⟩⟩
    clear h5 gg5 HW HT4
    obtain ⟨D1, HD1⟩ : ∃ D, Aside0 (Sh.u8s (Sh.dig a) = D) := ⟨_, ⟨rfl⟩⟩
    have HI1 : Aside0 ((Tryd.prog.info? 25).map (·.size) = some D1.size) := ⟨by rw [← HD1.out]; exact Sh.dig_info a⟩
    have HZ1 : Aside0 ((Sh.u8s (List.replicate 32 0)).size = D1.size) := ⟨by rw [← HD1.out]; exact Sh.dig_zeros a⟩
    have HE1 : Aside0 (D1.all (·.oneCell') = true) := ⟨by rw [← HD1.out]; exact Sh.dig_one a⟩
    have HS : Aside0 (∀ W rh, Sh.Ha W bh a rh → Below w.heap.size w W → Calls Tryd.prog 12 #[.pointer (some ⟨bh, 0, none⟩)] W fun e w' => e = .returned (.agg D1) ∧ Below W.heap.size W w') := ⟨fun W rh hh hb => by
      have := sum_.calls bh a rh W hh (HK.out.below hb) HY0.out (by rw [HN0.out]; omega)
      rw [HD1.out] at this
      exact this⟩
    go_wp2_with fail
    refine (HS.out _ _ HT5.out.h HT5.out.g).mono ?_
    rintro e w6 ⟨rfl, hb6⟩
    have HT6 := Aside0.mk (HT5.out.below hb6)
    have HX6 := Aside0.mk (Sh.store_new w6 D1)
    have HO6 : Aside0 ((w6.alloc (.cells (Sh.u8s (List.replicate 32 0)) 25)).heap[w6.heap.size]? = some (.cells (Sh.u8s (List.replicate 32 0)) 25 (0, 0))) := ⟨heap_alloc_new w6 _⟩
    clear hb6 HT5
    go_wp2_with (refine wpList_store_row rfl 25 (.tmp 9) (.tmp 39) rfl w6.heap.size D1 rfl rfl 25 _ HO6.out HI1.out HZ1.out HE1.out ?_; generalize hWq : World.setRow _ w6.heap.size D1 = W7; have HX7 : Aside0 (W7.heap[w6.heap.size]? = some (.cells D1 25 (0, 0)) ∧ Below w6.heap.size w6 W7) := ⟨by rw [← hWq]; exact HX6.out⟩; clear hWq)
    have HT7 := Aside0.mk (HT6.out.below HX7.out.2)
    obtain ⟨bx, HBX⟩ : ∃ b, Aside0 (w6.heap.size = b) := ⟨_, ⟨rfl⟩⟩
    have HNX : Aside0 (bh < bx ∧ bg < bx) := ⟨by rw [← HBX.out]; exact ⟨HT6.out.h.lt, HT6.out.k.lt⟩⟩
    have HXX : Aside0 (W7.heap[bx]? = some (.cells D1 25 (0, 0))) := ⟨by rw [← HBX.out]; exact HX7.out.1⟩
    rw [HBX.out]
    clear HX6 HO6 HT6 HX7 HBX
    refine (HS.out _ _ HT7.out.h HT7.out.g).mono ?_
    rintro e w8 ⟨rfl, hb8⟩
    have HT8 := Aside0.mk (HT7.out.below hb8)
    have HX8 : Aside0 (w8.heap[bx]? = some (.cells D1 25 (0, 0))) := ⟨(hb8.block _ (Array.getElem?_eq_some_iff.1 HXX.out).1).trans HXX.out⟩
    have HX6 := Aside0.mk (Sh.store_new w8 D1)
    have HO6 : Aside0 ((w8.alloc (.cells (Sh.u8s (List.replicate 32 0)) 25)).heap[w8.heap.size]? = some (.cells (Sh.u8s (List.replicate 32 0)) 25 (0, 0))) := ⟨heap_alloc_new w8 _⟩
    clear hb8 HT7 HXX HS
    go_wp2_with (refine wpList_store_row rfl 25 (.tmp 10) (.tmp 41) rfl w8.heap.size D1 rfl rfl 25 _ HO6.out HI1.out HZ1.out HE1.out ?_; generalize hWq : World.setRow _ w8.heap.size D1 = W9; have HX9 : Aside0 (W9.heap[w8.heap.size]? = some (.cells D1 25 (0, 0)) ∧ Below w8.heap.size w8 W9) := ⟨by rw [← hWq]; exact HX6.out⟩; clear hWq)
    have HT9 := Aside0.mk (HT8.out.below HX9.out.2)
    have HXX : Aside0 (W9.heap[bx]? = some (.cells D1 25 (0, 0))) := ⟨(HX9.out.2.block _ (Array.getElem?_eq_some_iff.1 HX8.out).1).trans HX8.out⟩
    have hbxy : bx < w8.heap.size := (Array.getElem?_eq_some_iff.1 HX8.out).1
    obtain ⟨by_, HBX⟩ : ∃ b, Aside0 (w8.heap.size = b) := ⟨_, ⟨rfl⟩⟩
    have HYY : Aside0 (W9.heap[by_]? = some (.cells D1 25 (0, 0))) := ⟨by rw [← HBX.out]; exact HX9.out.1⟩
    rw [HBX.out]
    have hbxy2 : bx < by_ := by rw [← HBX.out]; exact hbxy
    have HNY := Aside0.mk hbxy2
    clear HX6 HO6 HT8 HX9 HBX HX8 hbxy hbxy2
    have HW : Aside0 (Calls Tryd.prog 11 #[.pointer (some ⟨bh, 0, none⟩), .slice A1 N1 c1] W9 fun e w' => e = .returned (.tuple #[]) ∧ (∃ rest', Sh.Ha w' bh (a ++ b) rest') ∧ W9.grownBy w' (some bh)) := ⟨by
      have := write_.calls bh a _ A1 c1 b W9 HT9.out.h (by have := HNH.out; omega) (HK.out.below HT9.out.g) (Kd.C_below HR1.out HT9.out.g) (by rw [HN1.out]; exact hc1) (fun hl a e => Sh.far_of_C HR1.out hl e HNH.out.1) HY1.out (by rw [HN1.out, HN0.out]; omega)
      rw [HN1.out] at this
      exact this⟩
    refine HW.out.mono ?_
    rintro e w10 ⟨rfl, ⟨r10, h10⟩, gg10⟩
    have HT10 : Aside0 (Sh.Tw w bh bg (a ++ b) c r10 r5 w10) := ⟨⟨h10, HT9.out.k.other gg10 (fun e => HNG.out.2.2 e.symm), Sh.below_of_gb HT9.out.g gg10 HNH.out.1⟩⟩
    have HXX2 : Aside0 (w10.heap[bx]? = some (.cells D1 25 (0, 0)) ∧ w10.heap[by_]? = some (.cells D1 25 (0, 0))) := ⟨(gg10.block bx (Array.getElem?_eq_some_iff.1 HXX.out).1 (fun e => by have := Option.some.inj e; have := HNX.out; omega)).trans HXX.out, (gg10.block by_ (Array.getElem?_eq_some_iff.1 HYY.out).1 (fun e => by have := Option.some.inj e; have := HNX.out; have := HNY.out; omega)).trans HYY.out⟩
    have HCa : Aside0 (Kd.C (Kd.int .u8) w10 A0 N0 a) := ⟨by have := Kd.C_below HR0.out HT10.out.g; rwa [HN0.out] at this⟩
    clear h10 gg10 HW HT9 HXX HYY
    go_wp2_with (first
      | ((with_reducible refine gate_builtin (b := .append) (xs := #[.tmp 45, .tmp 46]) rfl ?_); at_builtin; refine Kd.R_append_rows (Kd.int .u8) (w0 := w) w.heap.size rfl (.tmp 45) (.tmp 46) 22 5 (.int .u8 0) 1 rfl Tryd.underlying22 Sh.info8 rfl (by decide) (by omega) (.slice none 0 0) ([] : List Int) a A0 N0 c0 (fun k => w10.heap.size ≤ k) (fun _ => False) rfl rfl (Kd.R_nil _ _ _ _ _) HCa.out (fun _ _ h => h) (fun _ h => h.elim) (fun k hk => hk) HT10.out.g HT10.out.g.size (by simp only [List.length_nil]; omega) ?_; intro v11 w11 ho hb11 hg _; have HV11 : Aside0 (Kd.R (Kd.int .u8) 5 w11 w.heap.size (fun k => w10.heap.size ≤ k) v11 ([] ++ a)) := ⟨ho⟩; have HB11 : Aside0 (Below w10.heap.size w10 w11) := ⟨Sh.below_of_none hg⟩; have HG11 : Aside0 (Below w.heap.size w w11) := ⟨hb11⟩; have HCb : Aside0 (Kd.C (Kd.int .u8) w11 A1 N1 b) := ⟨Sh.C_len HN1.out (Kd.C_below HR1.out hb11)⟩; clear ho hb11 hg)
      | ((with_reducible refine gate_builtin (b := .append) (xs := #[.tmp 48, .tmp 49]) rfl ?_); at_builtin; refine Kd.R_append_rows (Kd.int .u8) (w0 := w) w.heap.size rfl (.tmp 48) (.tmp 49) 22 5 (.int .u8 0) 1 rfl Tryd.underlying22 Sh.info8 rfl (by decide) (by omega) v11 ([] ++ a) b A1 N1 c1 (fun k => w10.heap.size ≤ k) (fun _ => False) rfl rfl HV11.out HCb.out (fun _ _ h => h) (fun _ h => h.elim) (fun k hk => Nat.le_trans HB11.out.size hk) HG11.out HG11.out.size (by rw [List.nil_append, HN0.out]; omega) ?_; intro v12 w12 ho hb12 hg _; have HV12 : Aside0 (Kd.R (Kd.int .u8) 5 w12 w.heap.size (fun k => w10.heap.size ≤ k) v12 ([] ++ a ++ b)) := ⟨ho⟩; have HB12 : Aside0 (Below w10.heap.size w10 w12) := ⟨Sh.below_own HB11.out HV11.out.1 hg⟩; have HG12 : Aside0 (Below w.heap.size w w12) := ⟨hb12⟩; clear ho hb12 hg))
    obtain ⟨A12, c12, hv12⟩ := Kd.R_slice HV12.out
    obtain ⟨e12, hc12, hC12⟩ := Kd.R_reads' (hv12 ▸ HV12.out)
    clear e12
    have hl12 : ([] ++ a ++ b).length = N0 + N1 := by rw [List.nil_append, List.length_append, HN0.out, HN1.out]
    rw [hl12] at hv12 hc12
    subst hv12
    rw [List.nil_append] at hC12
    have HL12 : Aside0 ((a ++ b).length = N0 + N1) := ⟨by rw [List.length_append, HN0.out, HN1.out]⟩
    have HC12 := Aside0.mk hC12
    have HT12 := Aside0.mk (HT10.out.below HB12.out)
    have HX12 : Aside0 (w12.heap[bx]? = some (.cells D1 25 (0, 0)) ∧ w12.heap[by_]? = some (.cells D1 25 (0, 0))) := ⟨(HB12.out.block _ (Array.getElem?_eq_some_iff.1 HXX2.out.1).1).trans HXX2.out.1, (HB12.out.block _ (Array.getElem?_eq_some_iff.1 HXX2.out.2).1).trans HXX2.out.2⟩
    clear hC12 hl12 HV11 HV12 HB11 HB12 HG11 HG12 HCb HCa HXX2 HT10
    obtain ⟨D2, HD2⟩ : ∃ D, Aside0 (Sh.u8s (Sh.dig (a ++ b)) = D) := ⟨_, ⟨rfl⟩⟩
    obtain ⟨D3, HD3⟩ : ∃ D, Aside0 (Sh.u8s (Sh.dig c) = D) := ⟨_, ⟨rfl⟩⟩
    have heq1 : ∀ W, (Op.equalIn 10000 25 (.agg D1) (.agg D1)).run Tryd.prog W = .ok true W := fun W => by rw [← HD1.out]; exact Sh.eq_self _ (Sh.dig_length _) W
    have heq2 : ∀ W, (Op.equalIn 10000 25 (.agg D2) (.agg D2)).run Tryd.prog W = .ok true W := fun W => by rw [← HD2.out]; exact Sh.eq_self _ (Sh.dig_length _) W
    have heq3 : ∀ W, (Op.equalIn 10000 25 (.agg D3) (.agg D3)).run Tryd.prog W = .ok true W := fun W => by rw [← HD3.out]; exact Sh.eq_self _ (Sh.dig_length _) W
    have KA : Aside0 (∀ W, Below w12.heap.size w12 W → Calls Tryd.prog 8 #[.slice A0 N0 c0] W fun e w' => e = .returned (.agg D1) ∧ Below W.heap.size W w') := ⟨fun W hW => by
      have hb := below_then HT12.out.g HT12.out.g.size hW
      have := lawsum_.calls A0 c0 a W (HK.out.below hb) (Kd.C_below HR0.out hb) (by rw [HN0.out]; exact hc0) HY0.out (by rw [HN0.out]; omega)
      rw [HN0.out, HD1.out] at this
      exact this⟩
    have KC : Aside0 (∀ W, Below w12.heap.size w12 W → Calls Tryd.prog 8 #[.slice A2 N2 c2] W fun e w' => e = .returned (.agg D3) ∧ Below W.heap.size W w') := ⟨fun W hW => by
      have hb := below_then HT12.out.g HT12.out.g.size hW
      have := lawsum_.calls A2 c2 c W (HK.out.below hb) (Kd.C_below HR2.out hb) (by rw [HN2.out]; exact hc2) HY2.out (by rw [HN2.out]; omega)
      rw [HN2.out, HD3.out] at this
      exact this⟩
    have KL : Aside0 (∀ W, Below w12.heap.size w12 W → Calls Tryd.prog 8 #[.slice A12 (N0 + N1) c12] W fun e w' => e = .returned (.agg D2) ∧ Below W.heap.size W w') := ⟨fun W hW => by
      have hb := below_then HT12.out.g HT12.out.g.size hW
      have := lawsum_.calls A12 c12 (a ++ b) W (HK.out.below hb) (Kd.C_below HC12.out hW) (by rw [HL12.out]; exact hc12) (Sh.Bytes.app HY0.out HY1.out) (by rw [HL12.out]; omega)
      rw [HL12.out, HD2.out] at this
      exact this⟩
    have KH : Aside0 (∀ W, Below w12.heap.size w12 W → Calls Tryd.prog 12 #[.pointer (some ⟨bh, 0, none⟩)] W fun e w' => e = .returned (.agg D2) ∧ Below W.heap.size W w') := ⟨fun W hW => by
      have hb := below_then HT12.out.g HT12.out.g.size hW
      have := sum_.calls bh (a ++ b) r10 W (HT12.out.h.below hW) (HK.out.below hb) (Sh.Bytes.app HY0.out HY1.out) (by rw [HL12.out]; omega)
      rw [HD2.out] at this
      exact this⟩
    have KG : Aside0 (∀ W, Below w12.heap.size w12 W → Calls Tryd.prog 12 #[.pointer (some ⟨bg, 0, none⟩)] W fun e w' => e = .returned (.agg D3) ∧ Below W.heap.size W w') := ⟨fun W hW => by
      have hb := below_then HT12.out.g HT12.out.g.size hW
      have := sum_.calls bg c r5 W (HT12.out.k.below hW) (HK.out.below hb) HY2.out (by rw [HN2.out]; omega)
      rw [HD3.out] at this
      exact this⟩
    have KN : Aside0 (∀ W, Below w12.heap.size w12 W → Calls Tryd.prog 13 #[.pointer (some ⟨bg, 0, none⟩)] W fun e w' => e = .returned (.int .u64 N2) ∧ Below W.heap.size W w') := ⟨fun W hW => by
      have := len_.calls bg c r5 W (HT12.out.k.below hW)
      rw [HN2.out] at this
      exact this.mono fun e w' ⟨h1, h2⟩ => ⟨h1, by rw [h2]; exact Below.refl _ _⟩⟩
    have KX : Aside0 (∀ W, Below w12.heap.size w12 W → W.heap[bx]? = some (.cells D1 25 (0, 0)) ∧ W.heap[by_]? = some (.cells D1 25 (0, 0))) := ⟨fun W hW => ⟨(hW.block _ (Array.getElem?_eq_some_iff.1 HX12.out.1).1).trans HX12.out.1, (hW.block _ (Array.getElem?_eq_some_iff.1 HX12.out.2).1).trans HX12.out.2⟩⟩
    have HG12 := Aside0.mk HT12.out.g
    clear HT12 HX12 HC12 HR0 HR1 HR2 HD1 HD2 HD3 HZ1 HE1
    go_wp2_with fail
    refine wp_region_noPanic ?_
    refine start_ (n := 32) (S := (fun w' => Below w12.heap.size w12 w')) (ds := [31]) #[false, false, false, false, false, false, false, false, false, false, false, false, false, false, false, false, false, false, false, false, false, false, false, false, false, false, false, false, false, false, false, false] (by kernel_rfl) rfl rfl (Below.refl _ _).drew (fun hHeld => ?_)
    refine take_ (i := 0) (N := (some 51)) (v := ?_) (a' := ?_) #[true, false, false, false, false, false, false, false, false, false, false, false, false, false, false, false, false, false, false, false, false, false, false, false, false, false, false, false, false, false, false, false] rfl rfl (by kernel_rfl) (fun _ _ _ h => h) (Or.inl ⟨by rfl, ?_⟩) hHeld ?_ ?_
    rotate_left
    · intro w' hS'
      (refine (Sh.load_exec (x := .tmp 9) rfl rfl (KX.out _ hS').1 HI1.out).trans ?_)
      with_reducible rfl
    rotate_left
    · simp only [Act.put, List.setIfInBounds_toArray, List.set_cons_zero, List.set_cons_succ]
      rfl
    refine take_ (i := 1) (N := (some 52)) (v := ?_) (a' := ?_) #[true, true, false, false, false, false, false, false, false, false, false, false, false, false, false, false, false, false, false, false, false, false, false, false, false, false, false, false, false, false, false, false] rfl rfl (by kernel_rfl) (fun _ _ _ h => h) (Or.inl ⟨by rfl, ?_⟩) hHeld ?_ ?_
    rotate_left
    · intro w' hS'
      (refine (Sh.load_exec (x := .tmp 10) rfl rfl (KX.out _ hS').2 HI1.out).trans ?_)
      with_reducible rfl
    rotate_left
    · simp only [Act.put, List.setIfInBounds_toArray, List.set_cons_zero, List.set_cons_succ]
      rfl
    refine pure_ (i := 2) (N := (some 53)) (v := ?_) (a' := ?_) #[true, true, true, false, false, false, false, false, false, false, false, false, false, false, false, false, false, false, false, false, false, false, false, false, false, false, false, false, false, false, false, false] rfl rfl (by kernel_rfl) (fun _ _ _ h => h) (Or.inl ⟨by rfl, ?_⟩) ?_ ?_
    rotate_left
    · intro w'
      go_simp
      with_reducible rfl
    rotate_left
    · simp only [Act.put, List.setIfInBounds_toArray, List.set_cons_zero, List.set_cons_succ]
      rfl
    refine pure_ (i := 3) (N := (some 54)) (v := ?_) (a' := ?_) #[true, true, true, true, false, false, false, false, false, false, false, false, false, false, false, false, false, false, false, false, false, false, false, false, false, false, false, false, false, false, false, false] rfl rfl (by kernel_rfl) (fun _ _ _ h => h) (Or.inl ⟨by rfl, ?_⟩) ?_ ?_
    rotate_left
    · intro w'
      go_simp
      with_reducible rfl
    rotate_left
    · simp only [Act.put, List.setIfInBounds_toArray, List.set_cons_zero, List.set_cons_succ]
      rfl
    refine take_ (i := 4) (N := (some 55)) (v := ?_) (a' := ?_) #[true, true, true, true, true, false, false, false, false, false, false, false, false, false, false, false, false, false, false, false, false, false, false, false, false, false, false, false, false, false, false, false] rfl rfl (by kernel_rfl) (fun _ _ _ h => h) (Or.inl ⟨by rfl, ?_⟩) hHeld ?_ ?_
    rotate_left
    · intro w' hS'
      (refine (Sh.load_exec (x := .tmp 9) rfl rfl (KX.out _ hS').1 HI1.out).trans ?_)
      with_reducible rfl
    rotate_left
    · simp only [Act.put, List.setIfInBounds_toArray, List.set_cons_zero, List.set_cons_succ]
      rfl
    refine pure_ (i := 5) (N := (some 56)) (v := ?_) (a' := ?_) #[true, true, true, true, true, true, false, false, false, false, false, false, false, false, false, false, false, false, false, false, false, false, false, false, false, false, false, false, false, false, false, false] rfl rfl (by kernel_rfl) (fun _ _ _ h => h) (Or.inl ⟨by rfl, ?_⟩) ?_ ?_
    rotate_left
    · intro w'
      go_simp
      with_reducible rfl
    rotate_left
    · simp only [Act.put, List.setIfInBounds_toArray, List.set_cons_zero, List.set_cons_succ]
      rfl
    refine one_ (i := 6) (N := (some 57)) #[true, true, true, true, true, true, true, false, false, false, false, false, false, false, false, false, false, false, false, false, false, false, false, false, false, false, false, false, false, false, false, false] rfl rfl (by kernel_rfl) (by decide) (fun K hK => ?_)
    refine call_ 8 #[.slice A0 N0 c0] (by rfl) rfl (by go_simp) ?_
    refine (KA.out _ hHeld).mono ?_
    rintro e w' ⟨rfl, hbw⟩
    have HQ := Aside0.mk (Sh.below_step2 hHeld hbw)
    clear hbw
    refine ⟨_, rfl, ?_⟩
    refine hK.out _ _ HQ.out (fun hHeld => ?_)
    clear hK K
    refine norm_ (a' := ?_) ?_ ?_
    rotate_left
    · show Act.put _ (some 57) _ = _
      simp only [Act.put, List.setIfInBounds_toArray, List.set_cons_zero, List.set_cons_succ]
      rfl
    refine pure_ (i := 7) (N := (some 58)) (v := ?_) (a' := ?_) #[true, true, true, true, true, true, true, true, false, false, false, false, false, false, false, false, false, false, false, false, false, false, false, false, false, false, false, false, false, false, false, false] rfl rfl (by kernel_rfl) (fun _ _ _ h => h) (Or.inl ⟨by rfl, ?_⟩) ?_ ?_
    rotate_left
    · intro w'
      go_simp
      with_reducible rfl
    rotate_left
    · simp only [Act.put, List.setIfInBounds_toArray, List.set_cons_zero, List.set_cons_succ]
      rfl
    refine pure_ (i := 8) (N := (some 59)) (v := ?_) (a' := ?_) #[true, true, true, true, true, true, true, true, true, false, false, false, false, false, false, false, false, false, false, false, false, false, false, false, false, false, false, false, false, false, false, false] rfl rfl (by kernel_rfl) (fun _ _ _ h => h) (Or.inl ⟨by rfl, ?_⟩) ?_ ?_
    rotate_left
    · intro w'
      go_simp
      with_reducible rfl
    rotate_left
    · simp only [Act.put, List.setIfInBounds_toArray, List.set_cons_zero, List.set_cons_succ]
      rfl
    refine pure_ (i := 9) (N := (some 60)) (v := ?_) (a' := ?_) #[true, true, true, true, true, true, true, true, true, true, false, false, false, false, false, false, false, false, false, false, false, false, false, false, false, false, false, false, false, false, false, false] rfl rfl (by kernel_rfl) (fun _ _ _ h => h) (Or.inl ⟨by rfl, ?_⟩) ?_ ?_
    rotate_left
    · intro w'
      go_simp
      with_reducible rfl
    rotate_left
    · simp only [Act.put, List.setIfInBounds_toArray, List.set_cons_zero, List.set_cons_succ]
      rfl
    refine pure_ (i := 10) (N := (some 61)) (v := ?_) (a' := ?_) #[true, true, true, true, true, true, true, true, true, true, true, false, false, false, false, false, false, false, false, false, false, false, false, false, false, false, false, false, false, false, false, false] rfl rfl (by kernel_rfl) (fun _ _ _ h => h) (Or.inl ⟨by rfl, ?_⟩) ?_ ?_
    rotate_left
    · intro w'
      go_simp
      with_reducible rfl
    rotate_left
    · simp only [Act.put, List.setIfInBounds_toArray, List.set_cons_zero, List.set_cons_succ]
      rfl
    refine pure_ (i := 12) (N := (some 63)) (v := ?_) (a' := ?_) #[true, true, true, true, true, true, true, true, true, true, true, false, true, false, false, false, false, false, false, false, false, false, false, false, false, false, false, false, false, false, false, false] rfl rfl (by kernel_rfl) (fun _ _ _ h => h) (Or.inl ⟨by rfl, ?_⟩) ?_ ?_
    rotate_left
    · intro w'
      go_simp
      with_reducible rfl
    rotate_left
    · simp only [Act.put, List.setIfInBounds_toArray, List.set_cons_zero, List.set_cons_succ]
      rfl
    refine one_ (i := 11) (N := (some 62)) #[true, true, true, true, true, true, true, true, true, true, true, true, true, false, false, false, false, false, false, false, false, false, false, false, false, false, false, false, false, false, false, false] rfl rfl (by kernel_rfl) (by decide) (fun K hK => ?_)
    refine call_ 12 #[.pointer (some ⟨bh, 0, none⟩)] (by rfl) rfl (by go_simp) ?_
    refine (KH.out _ hHeld).mono ?_
    rintro e w' ⟨rfl, hbw⟩
    have HQ := Aside0.mk (Sh.below_step2 hHeld hbw)
    clear hbw
    refine ⟨_, rfl, ?_⟩
    refine hK.out _ _ HQ.out (fun hHeld => ?_)
    clear hK K
    refine norm_ (a' := ?_) ?_ ?_
    rotate_left
    · show Act.put _ (some 62) _ = _
      simp only [Act.put, List.setIfInBounds_toArray, List.set_cons_zero, List.set_cons_succ]
      rfl
    refine one_ (i := 13) (N := (some 64)) #[true, true, true, true, true, true, true, true, true, true, true, true, true, true, false, false, false, false, false, false, false, false, false, false, false, false, false, false, false, false, false, false] rfl rfl (by kernel_rfl) (by decide) (fun K hK => ?_)
    refine call_ 8 #[.slice A12 (N0 + N1) c12] (by rfl) rfl (by go_simp) ?_
    refine (KL.out _ hHeld).mono ?_
    rintro e w' ⟨rfl, hbw⟩
    have HQ := Aside0.mk (Sh.below_step2 hHeld hbw)
    clear hbw
    refine ⟨_, rfl, ?_⟩
    refine hK.out _ _ HQ.out (fun hHeld => ?_)
    clear hK K
    refine norm_ (a' := ?_) ?_ ?_
    rotate_left
    · show Act.put _ (some 64) _ = _
      simp only [Act.put, List.setIfInBounds_toArray, List.set_cons_zero, List.set_cons_succ]
      rfl
    refine pure_ (i := 14) (N := (some 65)) (v := ?_) (a' := ?_) #[true, true, true, true, true, true, true, true, true, true, true, true, true, true, true, false, false, false, false, false, false, false, false, false, false, false, false, false, false, false, false, false] rfl rfl (by kernel_rfl) (fun _ _ _ h => h) (Or.inl ⟨by rfl, ?_⟩) ?_ ?_
    rotate_left
    · intro w'
      go_simp
      with_reducible rfl
    rotate_left
    · simp only [Act.put, List.setIfInBounds_toArray, List.set_cons_zero, List.set_cons_succ]
      rfl
    refine pure_ (i := 15) (N := (some 66)) (v := ?_) (a' := ?_) #[true, true, true, true, true, true, true, true, true, true, true, true, true, true, true, true, false, false, false, false, false, false, false, false, false, false, false, false, false, false, false, false] rfl rfl (by kernel_rfl) (fun _ _ _ h => h) (Or.inl ⟨by rfl, ?_⟩) ?_ ?_
    rotate_left
    · intro w'
      go_simp
      with_reducible rfl
    rotate_left
    · simp only [Act.put, List.setIfInBounds_toArray, List.set_cons_zero, List.set_cons_succ]
      rfl
    refine pure_ (i := 16) (N := (some 67)) (v := ?_) (a' := ?_) #[true, true, true, true, true, true, true, true, true, true, true, true, true, true, true, true, true, false, false, false, false, false, false, false, false, false, false, false, false, false, false, false] rfl rfl (by kernel_rfl) (fun _ _ _ h => h) (Or.inl ⟨by rfl, ?_⟩) ?_ ?_
    rotate_left
    · intro w'
      go_simp
      with_reducible rfl
    rotate_left
    · simp only [Act.put, List.setIfInBounds_toArray, List.set_cons_zero, List.set_cons_succ]
      rfl
    refine pure_ (i := 17) (N := (some 68)) (v := ?_) (a' := ?_) #[true, true, true, true, true, true, true, true, true, true, true, true, true, true, true, true, true, true, false, false, false, false, false, false, false, false, false, false, false, false, false, false] rfl rfl (by kernel_rfl) (fun _ _ _ h => h) (Or.inl ⟨by rfl, ?_⟩) ?_ ?_
    rotate_left
    · intro w'
      go_simp
      with_reducible rfl
    rotate_left
    · simp only [Act.put, List.setIfInBounds_toArray, List.set_cons_zero, List.set_cons_succ]
      rfl
    refine pure_ (i := 19) (N := (some 70)) (v := ?_) (a' := ?_) #[true, true, true, true, true, true, true, true, true, true, true, true, true, true, true, true, true, true, false, true, false, false, false, false, false, false, false, false, false, false, false, false] rfl rfl (by kernel_rfl) (fun _ _ _ h => h) (Or.inl ⟨by rfl, ?_⟩) ?_ ?_
    rotate_left
    · intro w'
      go_simp
      with_reducible rfl
    rotate_left
    · simp only [Act.put, List.setIfInBounds_toArray, List.set_cons_zero, List.set_cons_succ]
      rfl
    refine one_ (i := 18) (N := (some 69)) #[true, true, true, true, true, true, true, true, true, true, true, true, true, true, true, true, true, true, true, true, false, false, false, false, false, false, false, false, false, false, false, false] rfl rfl (by kernel_rfl) (by decide) (fun K hK => ?_)
    refine call_ 12 #[.pointer (some ⟨bg, 0, none⟩)] (by rfl) rfl (by go_simp) ?_
    refine (KG.out _ hHeld).mono ?_
    rintro e w' ⟨rfl, hbw⟩
    have HQ := Aside0.mk (Sh.below_step2 hHeld hbw)
    clear hbw
    refine ⟨_, rfl, ?_⟩
    refine hK.out _ _ HQ.out (fun hHeld => ?_)
    clear hK K
    refine norm_ (a' := ?_) ?_ ?_
    rotate_left
    · show Act.put _ (some 69) _ = _
      simp only [Act.put, List.setIfInBounds_toArray, List.set_cons_zero, List.set_cons_succ]
      rfl
    refine one_ (i := 20) (N := (some 71)) #[true, true, true, true, true, true, true, true, true, true, true, true, true, true, true, true, true, true, true, true, true, false, false, false, false, false, false, false, false, false, false, false] rfl rfl (by kernel_rfl) (by decide) (fun K hK => ?_)
    refine call_ 8 #[.slice A2 N2 c2] (by rfl) rfl (by go_simp) ?_
    refine (KC.out _ hHeld).mono ?_
    rintro e w' ⟨rfl, hbw⟩
    have HQ := Aside0.mk (Sh.below_step2 hHeld hbw)
    clear hbw
    refine ⟨_, rfl, ?_⟩
    refine hK.out _ _ HQ.out (fun hHeld => ?_)
    clear hK K
    refine norm_ (a' := ?_) ?_ ?_
    rotate_left
    · show Act.put _ (some 71) _ = _
      simp only [Act.put, List.setIfInBounds_toArray, List.set_cons_zero, List.set_cons_succ]
      rfl
    refine pure_ (i := 21) (N := (some 72)) (v := ?_) (a' := ?_) #[true, true, true, true, true, true, true, true, true, true, true, true, true, true, true, true, true, true, true, true, true, true, false, false, false, false, false, false, false, false, false, false] rfl rfl (by kernel_rfl) (fun _ _ _ h => h) (Or.inl ⟨by rfl, ?_⟩) ?_ ?_
    rotate_left
    · intro w'
      go_simp
      with_reducible rfl
    rotate_left
    · simp only [Act.put, List.setIfInBounds_toArray, List.set_cons_zero, List.set_cons_succ]
      rfl
    refine pure_ (i := 22) (N := (some 73)) (v := ?_) (a' := ?_) #[true, true, true, true, true, true, true, true, true, true, true, true, true, true, true, true, true, true, true, true, true, true, true, false, false, false, false, false, false, false, false, false] rfl rfl (by kernel_rfl) (fun _ _ _ h => h) (Or.inl ⟨by rfl, ?_⟩) ?_ ?_
    rotate_left
    · intro w'
      go_simp
      with_reducible rfl
    rotate_left
    · simp only [Act.put, List.setIfInBounds_toArray, List.set_cons_zero, List.set_cons_succ]
      rfl
    refine pure_ (i := 23) (N := (some 74)) (v := ?_) (a' := ?_) #[true, true, true, true, true, true, true, true, true, true, true, true, true, true, true, true, true, true, true, true, true, true, true, true, false, false, false, false, false, false, false, false] rfl rfl (by kernel_rfl) (fun _ _ _ h => h) (Or.inl ⟨by rfl, ?_⟩) ?_ ?_
    rotate_left
    · intro w'
      go_simp
      with_reducible rfl
    rotate_left
    · simp only [Act.put, List.setIfInBounds_toArray, List.set_cons_zero, List.set_cons_succ]
      rfl
    refine pure_ (i := 24) (N := (some 75)) (v := ?_) (a' := ?_) #[true, true, true, true, true, true, true, true, true, true, true, true, true, true, true, true, true, true, true, true, true, true, true, true, true, false, false, false, false, false, false, false] rfl rfl (by kernel_rfl) (fun _ _ _ h => h) (Or.inl ⟨by rfl, ?_⟩) ?_ ?_
    rotate_left
    · intro w'
      go_simp
      with_reducible rfl
    rotate_left
    · simp only [Act.put, List.setIfInBounds_toArray, List.set_cons_zero, List.set_cons_succ]
      rfl
    refine pure_ (i := 26) (N := (some 77)) (v := ?_) (a' := ?_) #[true, true, true, true, true, true, true, true, true, true, true, true, true, true, true, true, true, true, true, true, true, true, true, true, true, false, true, false, false, false, false, false] rfl rfl (by kernel_rfl) (fun _ _ _ h => h) (Or.inl ⟨by rfl, ?_⟩) ?_ ?_
    rotate_left
    · intro w'
      go_simp
      with_reducible rfl
    rotate_left
    · simp only [Act.put, List.setIfInBounds_toArray, List.set_cons_zero, List.set_cons_succ]
      rfl
    refine pure_ (i := 27) (N := (some 78)) (v := ?_) (a' := ?_) #[true, true, true, true, true, true, true, true, true, true, true, true, true, true, true, true, true, true, true, true, true, true, true, true, true, false, true, true, false, false, false, false] rfl rfl (by kernel_rfl) (fun _ _ _ h => h) (Or.inl ⟨by rfl, ?_⟩) ?_ ?_
    rotate_left
    · intro w'
      go_simp
      with_reducible rfl
    rotate_left
    · simp only [Act.put, List.setIfInBounds_toArray, List.set_cons_zero, List.set_cons_succ]
      rfl
    refine pure_ (i := 28) (N := (some 79)) (v := ?_) (a' := ?_) #[true, true, true, true, true, true, true, true, true, true, true, true, true, true, true, true, true, true, true, true, true, true, true, true, true, false, true, true, true, false, false, false] rfl rfl (by kernel_rfl) (fun _ _ _ h => h) (Or.inl ⟨by rfl, ?_⟩) ?_ ?_
    rotate_left
    · intro w'
      go_simp
      with_reducible rfl
    rotate_left
    · simp only [Act.put, List.setIfInBounds_toArray, List.set_cons_zero, List.set_cons_succ]
      rfl
    refine one_ (i := 25) (N := (some 76)) #[true, true, true, true, true, true, true, true, true, true, true, true, true, true, true, true, true, true, true, true, true, true, true, true, true, true, true, true, true, false, false, false] rfl rfl (by kernel_rfl) (by decide) (fun K hK => ?_)
    refine call_ 13 #[.pointer (some ⟨bg, 0, none⟩)] (by rfl) rfl (by go_simp) ?_
    refine (KN.out _ hHeld).mono ?_
    rintro e w' ⟨rfl, hbw⟩
    have HQ := Aside0.mk (Sh.below_step2 hHeld hbw)
    clear hbw
    refine ⟨_, rfl, ?_⟩
    refine hK.out _ _ HQ.out (fun hHeld => ?_)
    clear hK K
    refine norm_ (a' := ?_) ?_ ?_
    rotate_left
    · show Act.put _ (some 76) _ = _
      simp only [Act.put, List.setIfInBounds_toArray, List.set_cons_zero, List.set_cons_succ]
      rfl
    refine pure_ (i := 29) (N := (some 80)) (v := ?_) (a' := ?_) #[true, true, true, true, true, true, true, true, true, true, true, true, true, true, true, true, true, true, true, true, true, true, true, true, true, true, true, true, true, true, false, false] rfl rfl (by kernel_rfl) (fun _ _ _ h => h) (Or.inl ⟨by rfl, ?_⟩) ?_ ?_
    rotate_left
    · intro w'
      go_simp
      with_reducible rfl
    rotate_left
    · simp only [Act.put, List.setIfInBounds_toArray, List.set_cons_zero, List.set_cons_succ]
      rfl
    refine pure_ (i := 30) (N := (some 81)) (v := ?_) (a' := ?_) #[true, true, true, true, true, true, true, true, true, true, true, true, true, true, true, true, true, true, true, true, true, true, true, true, true, true, true, true, true, true, true, false] rfl rfl (by kernel_rfl) (fun _ _ _ h => h) (Or.inl ⟨by rfl, ?_⟩) ?_ ?_
    rotate_left
    · intro w'
      go_simp
      with_reducible rfl
    rotate_left
    · simp only [Act.put, List.setIfInBounds_toArray, List.set_cons_zero, List.set_cons_succ]
      rfl
    refine pure_ (i := 31) (N := (some 6)) (v := ?_) (a' := ?_) #[true, true, true, true, true, true, true, true, true, true, true, true, true, true, true, true, true, true, true, true, true, true, true, true, true, true, true, true, true, true, true, true] rfl rfl (by kernel_rfl) (fun _ _ _ h => h) (Or.inl ⟨by rfl, ?_⟩) ?_ ?_
    rotate_left
    · intro w'
      go_simp
      with_reducible rfl
    rotate_left
    · simp only [Act.put, List.setIfInBounds_toArray, List.set_cons_zero, List.set_cons_succ]
      rfl
    refine done_ (by kernel_rfl) ?_
    have HBF : Aside0 (Below w.heap.size w _) := ⟨below_then HG12.out HG12.out.size hHeld⟩
    refine NoPanic.normal ?_
    go_wp2_with fail
    go_ret
    have hwr : IntKind.u64.wrap (N2 : Int) = N2 := Bt.wraps_u64 _ (by omega) (by omega)
    exact ⟨by simp [hwr], HBF.out⟩
#print axioms shaStays_.calls
end Go.Proofs.YtnfkinhikgikiaaDoor
