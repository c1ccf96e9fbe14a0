/- What the law's proof stands on, part 3: ShaWr, Lit, ShaSum, ShaRM, ShaRS, ShaK, MacM, PassM, Wk, Open, PassT, PassP, PassRb, Clone, MacD, MacO, MacR, PassI, Clone32, PassN, PassO, PassQ (laid together by wip/pack.py). -/
import Derived.Test.YtgljicdpcapgnaaGreatDoorProg
import Derived.Test.YtgljicdpcapgnaaGreatDoorXBP2
import Derived.Laws.CopyOwn
import Derived.Lib.Slices
import Derived.Lib.SlBytesConst
import Derived.Laws.Closers25b
import Derived.ChangeArms
import Derived.ChangeSlices
import Derived.ChangeOld
import Derived.Maps.OwnOps
import Derived.Maps.OwnSet
import Derived.Maps.Views
import Derived.WalkSpells
set_option linter.unusedVariables false
set_option linter.unusedSimpArgs false
set_option maxRecDepth 100000
set_option maxHeartbeats 8000000
namespace Go.Proofs.YtgljicdpcapgnaaGreatDoor
open Go.RowKit Go.Proofs.YtgljicdpcapgnaaGreatDoorW.PrintWords Go.Proofs.YtgljicdpcapgnaaGreatDoorW.PrintLast
namespace Sh
structure Ha (w : World) (b : Nat) (bs : List Int) (rest : List Int) : Prop where
  len : rest.length = 64
  tl : rest.take (bs.length % 64) = tail bs
  by_ : Bytes rest
  h : w.heap[b]? = some (.cells (hc (state bs).list rest bs.length) 178 (0, 0))
def Ks (w : World) : Prop := ∀ i, i < 64 → w.cell? ⟨0, i, none⟩ = some (.int .u32 (keys.getD i 0))
theorem Ks.far {w W : World} (h : Ks w) {hb : Nat} (hg : w.grownBy W (some hb)) (h0 : hb ≠ 0) : Ks W := fun i hi => hg.cell (h i hi) (fun e => h0 (Option.some.inj e).symm)
theorem Ks.below {w W : World} (h : Ks w) (hg : Below w.heap.size w W) : Ks W := fun i hi => (hg.cell (World.block_lt_of_cell? w _ (h i hi))).trans (h i hi)
theorem add_block (a : Addr) (j : Nat) : (a.add j).block = a.block := by unfold Addr.add; split <;> rfl
theorem add_add (a : Addr) (i j : Nat) : (a.add i).add j = a.add (i + j) := by
  by_cases hi : i = 0
  · subst hi; rw [Addr.add_zero', Nat.zero_add]
  · by_cases hj : j = 0
    · subst hj; rw [Addr.add_zero', Nat.add_zero]
    · simp [Addr.add, hi, hj, Nat.add_assoc]
theorem hc_splice (s : V) (rest c : List Int) (n : Int) (r : Nat) (h : r + c.length ≤ rest.length) : (splice (hc s.list rest n).toList (8 + r) (c.map (Value.int .u8))) = (hc s.list (rest.take r ++ c ++ rest.drop (r + c.length)) n).toList := by
  have h8 : s.list.length = 8 := rfl
  simp only [splice, hc, List.toList_toArray, List.length_map, List.append_assoc, List.map_append]
  rw [List.take_append, List.take_append, List.drop_append, List.drop_append]
  simp only [List.length_map, h8]
  rw [show 8 + r - 8 = r by omega, show 8 + r + c.length - 8 = r + c.length by omega, show r - rest.length = 0 by omega, show r + c.length - rest.length = 0 by omega, List.take_of_length_le (l := s.list.map _) (by rw [List.length_map, h8]; omega), List.drop_of_length_le (l := s.list.map _) (by rw [List.length_map, h8]; omega)]
  simp [List.map_take, List.map_drop]
theorem hc_setn (s : V) (rest : List Int) (n m : Int) (h : rest.length = 64) : (hc s.list rest n).setIfInBounds 72 (.int .u64 m) = hc s.list rest m := by
  have h8 : s.list.length = 8 := rfl
  simp only [hc, List.setIfInBounds_toArray]
  rw [List.set_append_right _ _ (by simp [h8, h])]
  simp [h8, h]
theorem cell_n {w : World} {b : Nat} {bs rest : List Int} (h : Ha w b bs rest) : w.cell? ⟨b, 72, none⟩ = some (.int .u64 bs.length) := by
  have := cellAt h.h (8 + rest.length) _ (hc_n (state bs).list rest bs.length)
  rw [h.len] at this
  exact this
theorem rest_put (bs rest c : List Int) (hl : rest.length = 64) (ht : rest.take (bs.length % 64) = tail bs) (hb : Bytes rest) (hc : Bytes c) (h : bs.length % 64 + c.length ≤ 64) :
    (rest.take (bs.length % 64) ++ c ++ rest.drop (bs.length % 64 + c.length)).length = 64 ∧ Bytes (rest.take (bs.length % 64) ++ c ++ rest.drop (bs.length % 64 + c.length)) ∧
    (rest.take (bs.length % 64) ++ c ++ rest.drop (bs.length % 64 + c.length)).take (bs.length % 64 + c.length) = tail bs ++ c := by
  refine ⟨by simp only [List.length_append, List.length_take, List.length_drop]; omega, ?_, ?_⟩
  · intro x hx
    simp only [List.mem_append] at hx
    rcases hx with (hx | hx) | hx
    · exact hb x (List.mem_of_mem_take hx)
    · exact hc x hx
    · exact hb x (List.mem_of_mem_drop hx)
  · rw [ht, List.take_left' (by rw [List.length_append, tail_length])]
theorem ha_next {w : World} {hb : Nat} (bs2 cs rest1 : List Int) (M : Nat) (hM : M = bs2.length + cs.length) (h64 : rest1.length = 64) (hby : Bytes rest1) (hle : bs2.length % 64 + cs.length ≤ 64) (hc0 : 0 < cs.length) (ht : rest1.take (bs2.length % 64 + cs.length) = tail bs2 ++ cs) :
    (M % 64 = 0 → w.heap[hb]? = some (.cells (hc (comp (state bs2) rest1).list rest1 M) 178 (0, 0)) → Ha w hb (bs2 ++ cs) rest1) ∧ (¬ M % 64 = 0 → w.heap[hb]? = some (.cells (hc (state bs2).list rest1 M) 178 (0, 0)) → Ha w hb (bs2 ++ cs) rest1) := by
  have hl : (bs2 ++ cs).length = M := by rw [List.length_append]; exact hM.symm
  constructor
  · intro h0 h
    have hf : bs2.length % 64 + cs.length = 64 := by omega
    obtain ⟨e1, e2⟩ := state_full bs2 cs hf
    have er : rest1 = tail bs2 ++ cs := by rw [← ht, hf, List.take_of_length_le (by omega)]
    refine ⟨h64, ?_, hby, ?_⟩
    · rw [hl, h0, e2]; rfl
    · rw [hl, e1, ← er]; exact h
  · intro h0 h
    have hf : bs2.length % 64 + cs.length < 64 := by omega
    obtain ⟨e1, e2⟩ := state_part bs2 cs hf
    refine ⟨h64, ?_, hby, ?_⟩
    · rw [hl, e2, ← ht, show M % 64 = bs2.length % 64 + cs.length by omega]
    · rw [hl, e1]; exact h
theorem copy_run {w : World} {g : Nat} {s : V} {rest : List Int} {n : Int} (ty : TypeId) (r m c1 c2 : Nat) (ad : Addr) (cs : List Int) (hg : w.heap[g]? = some (.cells (hc s.list rest n) 178 (0, 0))) (hl : rest.length = 64)
    (hn : cs.length = Nat.min m (64 - r)) (hr : r < 64) (hsrc : ∀ j, j < cs.length → w.cell? (ad.add j) = some (.int .u8 (cs.getD j 0))) :
    (Builtin.copy_ #[35, 35] ty #[.slice (some ⟨g, 8 + r, none⟩) (64 - r) c1, .slice (some ad) m c2]).run Tryz.prog w = .ok (goInt cs.length) (w.setRow g (hc s.list (rest.take r ++ cs ++ rest.drop (r + cs.length)) n)) := by
  have hle : r + cs.length ≤ 64 := by have : m.min (64 - r) ≤ 64 - r := Nat.min_le_right _ _; omega
  have hrun := run_copy_row (P := Tryz.prog) w 35 35 ty 5 g (8 + r) (64 - r) c1 ad m c2 (hc s.list rest n) 178 (cs.map (Value.int .u8)) (by kernel_rfl) (by kernel_rfl) hg (by rw [List.length_map]; exact hn)
    (fun j v hv => by
      rw [List.getElem?_map] at hv
      have hj : j < cs.length := by
        rcases Nat.lt_or_ge j cs.length with h | h
        · exact h
        · rw [List.getElem?_eq_none h] at hv; cases hv
      rw [hsrc j hj]
      rw [List.getElem?_eq_getElem hj] at hv
      rw [← hv, List.getD_eq_getElem?_getD, List.getElem?_eq_getElem hj]
      rfl)
    (by simp [hc, hl, list_length]; omega) (by intro v hv; simp only [List.mem_map] at hv; obtain ⟨x, _, rfl⟩ := hv; rfl)
  rw [hrun]
  rw [List.length_map]
  congr 2
  rw [List.append_assoc]
  have := hc_splice s rest cs n r (by rw [hl]; exact hle)
  unfold splice at this
  rw [List.length_map] at this
  rw [this]
theorem src {w wr : World} {ad : Addr} {l : List Int} {hb : Nat} (h : Kd.C (Kd.int .u8) w (some ad) l.length l) (hg : w.grownBy wr (some hb)) (hA : ad.block ≠ hb) (i : Nat) (hi : i < l.length) : wr.cell? (ad.add i) = some (.int .u8 (l.getD i 0)) := by
  obtain ⟨_, _, h3⟩ := Kd.reads_of_C (d := (0 : Int)) h
  obtain ⟨ad', e, hc⟩ := h3 (by omega)
  obtain rfl := Option.some.inj e
  exact hg.cell (hc i hi) (fun e2 => hA (by rw [← add_block ad i]; exact Option.some.inj e2))
theorem gb_row {a b : World} {k : Nat} (h : a.grownBy b (some k)) (cs : Array Value) : a.grownBy (b.setRow k cs) (some k) :=
  gb_trans h ⟨rfl, rfl, rfl, by simp [World.setRow], fun j hj hr => setRow_other b k j cs (fun e => hr (by rw [e]))⟩
theorem cut_run (w : World) (A : Option Addr) (m c : Nat) (k : Nat) (hk : k ≤ m) :
    (Instr.slice 35 (.slice A m c) (some (.int .i64 k)) none none).run Tryz.prog w = .ok (.slice (if c = k then A else A.map (·.add k)) (m - k) (c - k)) w := by
  rw [run_slice_l w 35 A m c (by kernel_rfl) .i64 k (by omega) (by omega)]
  rw [show Tryz.prog.elem 35 = 5 by kernel_rfl, show (sizeOf 5).run Tryz.prog w = .ok 1 w by kernel_rfl]
  simp [Result.andThen, sliced]
theorem cutAt_run (w : World) (A : Option Addr) (m c : Nat) (k : Nat) (hk : k ≤ m) :
    (Instr.sliceAt 35 (.slice A m c) (some (.int .i64 k)) none none).run Tryz.prog w = .ok (.slice (if c = k then A else A.map (·.add k)) (m - k) (c - k)) w := by
  rw [run_sliceAt_slice w _ _ _ _ _ (by kernel_rfl)]
  exact cut_run w A m c k hk
end Sh
theorem write_.calls (hb : Nat) (bs rest : List Int) (A : Option Addr) (c : Nat) (l : List Int) (w : World) (hH : Sh.Ha w hb bs rest) (hb0 : hb ≠ 0) (hk : Sh.Ks w) (hr : Kd.C (Kd.int .u8) w A l.length l) (hc : l.length ≤ c)
  (hA : 0 < l.length → ∀ a, A = some a → a.block ≠ hb) (hby : Sh.Bytes l) (hlen : bs.length + l.length ≤ 1099511627776) :
  Calls Tryz.prog 117 #[.pointer (some ⟨hb, 0, none⟩), .slice A l.length c] w fun e w' => e = .returned (.tuple #[]) ∧ (∃ rest', Sh.Ha w' hb (bs ++ l) rest') ∧ w.grownBy w' (some hb) := by
 have HK := az hk
 have HR := az hr
 have HA := az hA
 have HB := az hby
 have HH := az hH
 clear hk hr hA hby hH
 go_enter Tryz.func117, Tryz.ntmps117
 go_wp2_with fail
 go_loopw [1] (fun v1 wr => ∃ (j : Nat) (A' : Option Addr) (c' : Nat) (rest' : List Int), v1 = .slice A' (l.length - j) c' ∧ j ≤ l.length ∧ l.length - j ≤ c' ∧ Aside0 (j < l.length → ∃ ad, A = some ad ∧ A' = some (ad.add j)) ∧ Aside0 (Sh.Ha wr hb (bs ++ l.take j) rest') ∧ Aside0 (w.grownBy wr (some hb))) (fun v _ => match v with | .slice _ n _ => n | _ => 0)
 case atStart =>
  refine ⟨0, A, c, rest, rfl, by omega, by omega, ⟨fun hj => ?_⟩, ⟨by simpa using HH.out⟩, ⟨Sh.gb_refl _ _⟩⟩
  obtain ⟨ad, e, _⟩ := Kd.at_int HR.out 0 (by omega) (by omega)
  exact ⟨ad, e, by rw [e, Addr.add_zero']⟩
 case round =>
  clear HH
  obtain ⟨j, A', c', rest', rfl, hj, hc', HA', HH, HG⟩ := hrel
  by_cases hlt : j < l.length
  ·obtain ⟨ad, e1, e2⟩ := HA'.out hlt
   subst e1; subst e2
   clear HA'
   obtain ⟨N, HN⟩ : ∃ N, Aside0 ((bs ++ l.take j).length = N) := ⟨_, ⟨rfl⟩⟩
   have hN : N ≤ 1099511627776 := by rw [← HN.out, List.length_append, List.length_take]; omega
   have HNJ : Aside0 (N = bs.length + j) := ⟨by rw [← HN.out, List.length_append, List.length_take]; omega⟩
   have cn := Sh.cell_n HH.out
   rw [HN.out] at cn
   have hs := Sh.slice_rest hb 8 .u64 ((N : Int).tmod 64) (N % 64) (by rw [Int.tmod_eq_emod_of_nonneg (by omega)]; omega) (by omega)
   obtain ⟨k, hkd⟩ : ∃ k, k = Nat.min (l.length - j) (64 - N % 64) := ⟨_, rfl⟩
   have hk1 : k ≤ l.length - j := by rw [hkd]; exact Nat.min_le_left _ _
   have hk2 : k ≤ 64 - N % 64 := by rw [hkd]; exact Nat.min_le_right _ _
   have hk0 : 0 < k := by rw [hkd]; exact Nat.lt_min.2 ⟨by omega, by omega⟩
   have hk3 : k = l.length - j ∨ k = 64 - N % 64 := by
    rw [hkd]
    rcases Nat.le_total (l.length - j) (64 - N % 64) with h | h
    ·exact .inl (Nat.min_eq_left h)
    ·exact .inr (Nat.min_eq_right h)
   have HKD := az hkd
   clear hkd
   obtain ⟨cs, HCS⟩ : ∃ cs, Aside0 ((l.drop j).take k = cs) := ⟨_, ⟨rfl⟩⟩
   have hcl : cs.length = k := by rw [← HCS.out, List.length_take, List.length_drop]; omega
   obtain ⟨st, HST⟩ : ∃ st, Aside0 (Sh.state (bs ++ l.take j) = st) := ⟨_, ⟨rfl⟩⟩
   have HST2 : Aside0 (wr.drew.heap[hb]? = some (.cells (Sh.hc st.list rest' N) 178 (0, 0))) := ⟨by
    have := HH.out.h
    rw [HN.out, HST.out] at this
    exact this⟩
   have HCC := az (Sh.copy_run (w := wr.drew) 3 (N % 64) (l.length - j) (64 - N % 64) c' (ad.add j) cs HST2.out HH.out.len (by rw [hcl, HKD.out]) (by omega) (fun i hi => by
    have := Sh.src HR.out HG.out (HA.out (by omega) ad rfl) (j + i) (by omega)
    rw [← Sh.add_add] at this
    refine Eq.trans this ?_
    rw [← HCS.out, List.getD_eq_getElem?_getD, List.getD_eq_getElem?_getD, List.getElem?_take, if_pos (by omega), List.getElem?_drop]))
   have CN := az (show wr.drew.cell? ⟨hb, 72, none⟩ = some (.int .u64 N) from cn)
   clear cn
   go_wp2_with fail
   refine wp_region_noPanic ?_
   refine Rg.s1 12 (fun w' => w'.cell? ⟨hb, 72, none⟩ = some (.int .u64 N)) [10] CN.out #[false, false, false, false, false, false, false, false, false, false, false, false] (fun hHeld => ?_)
   refine Rg.p1 0 (.some 8) ?_
   refine Rg.p1 1 (.some 9) ?_
   refine Rg.p1 2 (.some 10) ?_
   refine Rg.p1 3 (.some 11) ?_
   refine Rg.p1 4 (.some 12) ?_
   refine Rg.p1 5 (.some 13) ?_
   refine Rg.t1 6 (.some 14) hHeld ?_ (hy := by intro w' hS'; go_simp; first | done | with_reducible rfl)
   refine Rg.p1 7 (.some 15) ?_
   refine Rg.p1 8 (.some 16) ?_
   refine Rg.p1 9 (.some 17) ?_
   refine Rg.l1 10 (.some 18) (fun K hK => ?_)
   have hcc := HCC.out
   rw [hcl] at hcc
   refine value_ (w1 := wr.drew.setRow hb (Sh.hc st.list (rest'.take (N % 64) ++ cs ++ rest'.drop (N % 64 + k)) N)) (v := .int .i64 k) (by rfl) rfl (by simp [execOp, resolve, invoke, builtin, Act.eval, hcc, Result.andThen, goInt]) ?_
   clear hcc
   refine hK.out _ _ ?_
   clear hK K
   refine Rg.n1 ?_
   refine Rg.p1 11 (.some 4) ?_
   refine Rg.d1 ?_
   obtain ⟨rest1, HR1⟩ : ∃ r, Aside0 (rest'.take (N % 64) ++ cs ++ rest'.drop (N % 64 + k) = r) := ⟨_, ⟨rfl⟩⟩
   rw [HR1.out]
   have H1 := az (show (wr.drew.setRow hb (Sh.hc st.list rest1 N)).heap[hb]? = some (.cells (Sh.hc st.list rest1 N) 178 (0, 0)) from setRow_heap wr.drew hb _ _ _ _ HST2.out)
   have G1 := az (show w.grownBy (wr.drew.setRow hb (Sh.hc st.list rest1 N)) (some hb) from Sh.gb_row (b := wr.drew) ⟨HG.out.os, HG.out.tape, HG.out.output, HG.out.size, HG.out.block⟩ _)
   generalize wr.drew.setRow hb (Sh.hc st.list rest1 N) = W1 at *
   have HR64 : rest1.length = 64 ∧ Sh.Bytes rest1 ∧ rest1.take (N % 64 + k) = Sh.tail (bs ++ l.take j) ++ cs := by
    have := Sh.rest_put (bs ++ l.take j) rest' cs HH.out.len HH.out.tl HH.out.by_ (fun x hx => HB.out x (List.mem_of_mem_drop (List.mem_of_mem_take (HCS.out ▸ hx)))) (by rw [HN.out, hcl]; omega)
    rw [HN.out, hcl, HR1.out] at this
    exact this
   clear HCC CN hs hHeld HST2
   obtain ⟨M, HMd⟩ : ∃ M, Aside0 (M = N + k) := ⟨_, ⟨rfl⟩⟩
   have hM : M = N + k := HMd.out
   have c1 : W1.cell? ⟨hb, 72, none⟩ = some (.int .u64 N) := by
    have := Sh.cellAt H1.out (8 + rest1.length) _ (Sh.hc_n st.list rest1 N)
    rw [HR64.1] at this
    exact this
   have f1 : W1.frozen? ⟨hb, 72, none⟩ = false := Sh.frozenAt H1.out 72
   have q1 := fun W => Sh.cut_run W (some (ad.add j)) (l.length - j) c' k hk1
   have q2 := fun W => Sh.cutAt_run W (some (ad.add j)) (l.length - j) c' k hk1
   obtain ⟨A2, HA2⟩ : ∃ A2, Aside0 ((if c' = k then some (ad.add j) else (some (ad.add j)).map (·.add k)) = A2) := ⟨_, ⟨rfl⟩⟩
   rw [HA2.out] at q1 q2
   have wk : IntKind.u64.wrap (k : Int) = k := Bt.wraps_u64 _ (by omega) (by omega)
   have wn : IntKind.u64.wrap ((N : Int) + k) = M := by rw [Bt.wraps_u64 _ (by omega) (by omega)]; omega
   have HW2 := az (show (W1.setCell ⟨hb, 72, none⟩ (.int .u64 M)).heap[hb]? = some (.cells (Sh.hc st.list rest1 M) 178 (0, 0)) from by rw [Sh.row_set H1.out, Sh.hc_setn _ _ _ _ HR64.1])
   have HTK : Aside0 (bs ++ l.take (j + k) = (bs ++ l.take j) ++ cs) := ⟨by rw [List.append_assoc, ← HCS.out, List.take_add]⟩
   have HML : Aside0 (M = (bs ++ l.take j).length + cs.length) := ⟨by rw [HN.out, hcl]; exact hM⟩
   clear hM
   by_cases hf : M % 64 = 0
   ·have ht : (M : Int).tmod 64 = 0 := by rw [Int.tmod_eq_emod_of_nonneg (by omega)]; omega
    refine NoPanic.normal ?_
    go_wp2_with fail
    have HM := az (mix_.calls hb st rest1 M _ HR64.1 HR64.2.1 (HW2.out) hb0 (HK.out.far (Sh.gb_set G1.out 72 (.int .u64 M)) hb0))
    refine HM.out.mono ?_
    rintro e w3 ⟨rfl, h3, g3⟩
    have H3 := az h3
    have G3 := az (Sh.gb_trans (Sh.gb_set G1.out 72 (.int .u64 M)) g3)
    clear h3 g3 HM
    go_wp2_with fail
    refine ⟨⟨j + k, A2, c' - k, rest1, by rw [Nat.sub_sub], by omega, by omega, ⟨fun hjk => ?_⟩, ⟨?_⟩, ⟨?_⟩⟩, by show l.length - j - k < l.length - j; omega⟩
    ·refine ⟨ad, rfl, ?_⟩
     rw [← HA2.out, if_neg (by omega)]
     show some ((ad.add j).add k) = _
     rw [Sh.add_add]
    ·rw [HTK.out]
     exact (Sh.ha_next (bs ++ l.take j) cs rest1 M HML.out HR64.1 HR64.2.1 (by rw [HN.out, hcl]; omega) (by omega) (by rw [HN.out, hcl]; exact HR64.2.2)).1 hf (by rw [HST.out]; exact H3.out)
    ·exact G3.out
   ·have ht : ¬ (M : Int).tmod 64 = 0 := by rw [Int.tmod_eq_emod_of_nonneg (by omega)]; omega
    refine NoPanic.normal ?_
    go_wp2_with fail
    refine ⟨⟨j + k, A2, c' - k, rest1, by rw [Nat.sub_sub], by omega, by omega, ⟨fun hjk => ?_⟩, ⟨?_⟩, ⟨?_⟩⟩, by show l.length - j - k < l.length - j; omega⟩
    ·refine ⟨ad, rfl, ?_⟩
     rw [← HA2.out, if_neg (by omega)]
     show some ((ad.add j).add k) = _
     rw [Sh.add_add]
    ·rw [HTK.out]
     exact (Sh.ha_next (bs ++ l.take j) cs rest1 M HML.out HR64.1 HR64.2.1 (by rw [HN.out, hcl]; omega) (by omega) (by rw [HN.out, hcl]; exact HR64.2.2)).2 hf (by rw [HST.out]; exact HW2.out)
    ·exact Sh.gb_set G1.out 72 (.int .u64 M)
  ·obtain rfl : j = l.length := by omega
   go_wp2_with fail
   refine ⟨rfl, .tuple #[], by simp [results, Tryz.results117, go_sem], rfl, ⟨rest', ?_⟩, HG.out⟩
   have := HH.out
   rwa [List.take_length] at this
end Go.Proofs.YtgljicdpcapgnaaGreatDoor
namespace Go.Proofs.YtgljicdpcapgnaaGreatDoor.Lit
open Go.RowKit Go.Proofs.YtgljicdpcapgnaaGreatDoorW.PrintWords
theorem cell_new (w : World) (C : Array Value) (e : TypeId) (fr : Nat × Nat) (j : Nat) : (w.alloc (.cells C e fr)).cell? ⟨w.heap.size, j, none⟩ = C[j]? := by
  have h : (w.alloc (.cells C e fr)).heap[w.heap.size]? = some (.cells C e fr) := by show (w.heap.push _)[w.heap.size]? = _; simp
  unfold World.cell?
  rw [h]
  rfl
theorem reads_block {w : World} {b : Nat} {C : Array Value} {e : TypeId} {fr : Nat × Nat} (h : w.heap[b]? = some (.cells C e fr)) (k : IntKind) (xs : List Int) (hC : C.toList = xs.map (Value.int k)) (hl : xs.length ≤ 9223372036854775807) : Kd.C (Kd.int k) w (some ⟨b, 0, none⟩) xs.length xs := by
  refine Kd.C_of_reads (d := 0) ⟨rfl, hl, fun hn => ⟨_, rfl, fun j hj => ?_⟩⟩
  have e1 : (⟨b, 0, none⟩ : Addr).add j = ⟨b, j, none⟩ := add_plain b j
  rw [e1]
  unfold World.cell?
  rw [h]
  show C[j]? = _
  have e2 : C[j]? = (xs.map (Value.int k))[j]? := by rw [← hC]; simp
  simp [e2, List.getElem?_eq_getElem hj, List.getD_eq_getElem?_getD]
theorem reads_new (w : World) (C : Array Value) (e : TypeId) (fr : Nat × Nat) (k : IntKind) (xs : List Int) (hC : C.toList = xs.map (Value.int k)) (hl : xs.length ≤ 9223372036854775807) : Kd.C (Kd.int k) (w.alloc (.cells C e fr)) (some ⟨w.heap.size, 0, none⟩) xs.length xs :=
  reads_block (C := C) (e := e) (fr := fr) (by show (w.heap.push _)[w.heap.size]? = _; simp) k xs hC hl
theorem two_reads (w : World) {o : Obj} (C : Array Value) (e : TypeId) {fr : Nat × Nat} (k : IntKind) (xs : List Int) (hC : C.toList = xs.map (Value.int k)) (hl : xs.length ≤ 9223372036854775807) : Kd.C (Kd.int k) ((w.alloc o).alloc (.cells C e fr)) (some ⟨w.heap.size + 1, 0, none⟩) xs.length xs :=
  reads_block (C := C) (e := e) (fr := fr) (by show ((w.heap.push _).push _)[_]? = _; simp only [Array.getElem?_push, Array.size_push, if_true]) k xs hC hl
end Go.Proofs.YtgljicdpcapgnaaGreatDoor.Lit
namespace Go.Proofs.YtgljicdpcapgnaaGreatDoor
open Go.RowKit Go.Proofs.YtgljicdpcapgnaaGreatDoorW.PrintWords Go.Proofs.YtgljicdpcapgnaaGreatDoorW.PrintLast
namespace Sh
theorem ha_new (w : World) : Ha (w.alloc (.cells (hc v0.list (List.replicate 64 0) 0) 178)) w.heap.size [] (List.replicate 64 0) :=
  ⟨rfl, rfl, by intro x hx; obtain ⟨_, rfl⟩ := List.mem_replicate.1 hx; omega, heap_alloc_new _ _⟩
def z73 : Array Value := hc (List.replicate 8 0) (List.replicate 64 0) 0
theorem z73_size : z73.size = 73 := rfl
theorem z73_zero (w : World) : (zeroValue 178).run Tryz.prog w = .ok (.agg z73) w := by kernel_rfl
theorem z73_set : ((((((((z73.setIfInBounds 0 (.int .u32 1779033703)).setIfInBounds 1 (.int .u32 3144134277)).setIfInBounds 2 (.int .u32 1013904242)).setIfInBounds 3 (.int .u32 2773480762)).setIfInBounds 4 (.int .u32 1359893119)).setIfInBounds 5 (.int .u32 2600822924)).setIfInBounds 6 (.int .u32 528734635)).setIfInBounds 7 (.int .u32 1541459225)) = hc v0.list (List.replicate 64 0) 0 := by kernel_rfl
end Sh
theorem new_.calls (w : World) : Calls Tryz.prog 116 #[] w fun e w' => e = .returned (.pointer (some ⟨w.heap.size, 0, none⟩)) ∧ Sh.Ha w' w.heap.size [] (List.replicate 64 0) ∧ Below w.heap.size w w' := by
 have HN := az (Sh.ha_new w)
 have hz := Sh.z73_zero
 have hz2 := Sh.z73_size
 have hz3 := Sh.z73_set
 generalize Sh.hc Sh.v0.list (List.replicate 64 0) 0 = C at *
 generalize Sh.z73 = Z at *
 go_enter Tryz.func116, Tryz.ntmps116
 go_wp2_with fail
 go_ret
 exact ⟨rfl, HN.out, below_alloc (Below.refl _ _) _⟩
namespace Sh
def u8s (l : List Int) : Array Value := (l.map (Value.int .u8)).toArray
structure Sm (w : World) (bs : List Int) (rest : List Int) (wr : World) : Prop where
  o : wr.heap[w.heap.size]? = some (.cells (u8s (List.replicate 32 0)) 152 (0, 0))
  h : Ha wr (w.heap.size + 1) bs rest
  g : Below w.heap.size w wr
  k : Ks w
theorem u8s_at (l : List Int) (i : Nat) (h : i < l.length) : (u8s l)[i]? = some (.int .u8 (l.getD i 0)) := by
  simp [u8s, List.getD_eq_getElem?_getD, List.getElem?_eq_getElem h]
theorem u8s_set (l : List Int) (i : Nat) (x : Int) : (u8s l).setIfInBounds i (.int .u8 x) = u8s (l.set i x) := by
  simp [u8s, List.map_set]
theorem be8_take (x : Int) (i : Nat) (hi : i < 8) : (be8 x).take (i + 1) = (be8 x).take i ++ [x / 2 ^ (56 - 8 * i) % 256] := by
  rw [List.take_add_one]
  simp [be8, hi]
theorem put_next (xs : List Int) (n k : Nat) (hn : xs.length = n) (hk : k < n) (x : Int) (hx : xs.getD k 0 = x) : (xs.take k ++ List.replicate (n - k) 0).set k x = xs.take (k + 1) ++ List.replicate (n - (k + 1)) 0 := by
  have hl : (xs.take k).length = k := by rw [List.length_take]; omega
  rw [List.set_append_right _ _ (by omega), hl, Nat.sub_self, List.take_add_one, List.getElem?_eq_getElem (by omega), show n - k = (n - (k + 1)) + 1 by omega, List.replicate_succ]
  rw [List.getD_eq_getElem?_getD, List.getElem?_eq_getElem (by omega)] at hx
  simp only [Option.getD_some] at hx
  simp [hx]
theorem outs_at (s : V) (k : Nat) (hk : k < 32) : (outs s).getD k 0 = s.list.getD (k / 4) 0 / 2 ^ (24 - k % 4 * 8) % 256 := by
  simp [outs, List.getD_eq_getElem?_getD, hk]
structure S3 (w : World) (b : Nat) (C : Array Value) (L : List Int) (wr : World) : Prop where
  o : wr.heap[w.heap.size]? = some (.cells (u8s (List.replicate 32 0)) 152 (0, 0))
  h : wr.heap[w.heap.size + 1]? = some (.cells C 178 (0, 0))
  u : wr.heap[b]? = some (.cells (u8s L) 152 (0, 0))
  g : Below w.heap.size w wr
  lt : w.heap.size + 1 < b
theorem S3.put {w : World} {b : Nat} {C : Array Value} {L : List Int} {wr : World} (h : S3 w b C L wr) (k : Nat) (x : Int) : S3 w b C (L.set k x) (wr.setCell ⟨b, k, none⟩ (.int .u8 x)) :=
  ⟨row_far h.o _ (by have := h.lt; omega) _ _, row_far h.h _ (by have := h.lt; omega) _ _, by rw [row_set h.u, u8s_set], h.g.setCell (p := ⟨b, k, none⟩) (by show w.heap.size ≤ b; have := h.lt; omega) _, h.lt⟩
theorem Sm.write {w wr : World} {bs rest : List Int} (h : Sm w bs rest wr) (x : Int) (hx : 0 ≤ x ∧ x ≤ 255) (hl : bs.length + 1 ≤ 1099511627776) :
    Calls Tryz.prog 117 #[.pointer (some ⟨w.heap.size + 1, 0, none⟩), .slice (some ⟨wr.heap.size, 0, none⟩) 1 1] (wr.alloc (.cells #[.int .u8 x] 5)) fun e w' => e = .returned (.tuple #[]) ∧ ∃ rest', Sm w (bs ++ [x]) rest' w' := by
  have hlt : w.heap.size + 1 < wr.heap.size := (Array.getElem?_eq_some_iff.1 h.h.h).1
  have b1 : ∀ k, k < wr.heap.size → (wr.alloc (.cells #[.int .u8 x] 5)).heap[k]? = wr.heap[k]? := fun k hk => Below.heap_alloc _ _ _ hk
  have g1 : Below w.heap.size w (wr.alloc (.cells #[.int .u8 x] 5)) := h.g.alloc h.g.size _
  refine (write_.calls (w.heap.size + 1) bs rest (some ⟨wr.heap.size, 0, none⟩) 1 [x] _ ⟨h.h.len, h.h.tl, h.h.by_, (b1 _ hlt).trans h.h.h⟩ (by omega) (h.k.below g1) (Lit.reads_new wr #[.int .u8 x] 5 (0, 0) .u8 [x] rfl (by simp)) (Nat.le_refl _)
    (fun _ a e => by obtain rfl := Option.some.inj e; show wr.heap.size ≠ _; omega) (by intro y hy; obtain rfl := List.mem_singleton.1 hy; exact hx) (by simpa using hl)).mono ?_
  rintro e w' ⟨rfl, ⟨rest', h2⟩, g2⟩
  refine ⟨rfl, rest', ⟨?_, h2, ?_, h.k⟩⟩
  · exact (g2.block _ (by show w.heap.size < (wr.heap.push _).size; rw [Array.size_push]; omega) (by simp)).trans ((b1 _ (by omega)).trans h.o)
  · exact ⟨g2.os.trans g1.os, g2.tape.trans g1.tape, g2.output.trans g1.output, Nat.le_trans g1.size g2.size, fun k hk => (g2.block k (by show k < (wr.heap.push _).size; rw [Array.size_push]; omega) (by intro e; have := Option.some.inj e; omega)).trans (g1.block k hk)⟩
end Sh
theorem sum_.calls (hb : Nat) (bs rest : List Int) (w : World) (hH : Sh.Ha w hb bs rest) (hk : Sh.Ks w) (hby : Sh.Bytes bs) (hlen : bs.length ≤ 1099511000000) :
  Calls Tryz.prog 118 #[.pointer (some ⟨hb, 0, none⟩)] w fun e w' => e = .returned (.agg (Sh.u8s (Sh.dig bs))) ∧ Below w.heap.size w w' := by
 have HH := az hH
 have HK := az hk
 have hlt : hb < w.heap.size := (Array.getElem?_eq_some_iff.1 hH.h).1
 clear hH hk hby
 obtain ⟨C, HC⟩ : ∃ C, Aside0 (Sh.hc (Sh.state bs).list rest bs.length = C) := ⟨_, ⟨rfl⟩⟩
 have hz := Sh.z73_zero
 obtain ⟨Z, HZ⟩ : ∃ Z, Aside0 (Sh.z73 = Z) := ⟨_, ⟨rfl⟩⟩
 rw [HZ.out] at hz
 go_enter Tryz.func118, Tryz.ntmps118
 have HG1 : Aside0 ((w.alloc (.cells (Sh.u8s (List.replicate 32 0)) 152)).heap[hb]? = some (.cells C 178 (0, 0))) := ⟨by
  rw [← HC.out]
  exact (Below.heap_alloc _ _ _ hlt).trans HH.out.h⟩
 have HG2 : Aside0 (((w.alloc (.cells (Sh.u8s (List.replicate 32 0)) 152)).alloc (.cells Z 178)).heap[w.heap.size + 1]? = some (.cells Z 178 (0, 0))) := ⟨by
  have := heap_alloc_new (w.alloc (.cells (Sh.u8s (List.replicate 32 0)) 152)) (.cells Z 178)
  rwa [show (w.alloc (.cells (Sh.u8s (List.replicate 32 0)) 152)).heap.size = w.heap.size + 1 by show (w.heap.push _).size = _; simp] at this⟩
 have hCs : C.size = 73 := by rw [← HC.out]; simp [Sh.hc, Sh.list_length, HH.out.len]
 have HS : Aside0 ((Tryz.prog.info? 178).map (·.size) = some C.size) := ⟨by rw [hCs]; kernel_rfl⟩
 have HZC : Aside0 (Z.size = C.size) := ⟨by rw [hCs, ← HZ.out]; rfl⟩
 have HONE : Aside0 (C.all (·.oneCell') = true) := ⟨by rw [← HC.out]; simp [Sh.hc, Value.oneCell']⟩
 clear hCs
 have HSM : Aside0 (Sh.Sm w bs rest (((w.alloc (.cells (Sh.u8s (List.replicate 32 0)) 152)).alloc (.cells Z 178)).setRow (w.heap.size + 1) C)) := ⟨by
  refine ⟨?_, ⟨HH.out.len, HH.out.tl, HH.out.by_, ?_⟩, ?_, HK.out⟩
  ·rw [setRow_other _ _ _ _ (by omega)]
   exact (Below.heap_alloc _ _ _ (by show w.heap.size < (w.heap.push _).size; simp)).trans (heap_alloc_new _ _)
  ·rw [HC.out]
   exact setRow_heap _ _ _ _ _ _ HG2.out
  ·exact below_setRow (below_alloc (below_alloc (Below.refl _ _) _) _) (by omega) _⟩
 obtain ⟨N, HN⟩ : ∃ N, Aside0 (bs.length = N) := ⟨_, ⟨rfl⟩⟩
 have hN : N ≤ 1099511000000 := by rw [← HN.out]; exact hlen
 go_wp2_with (first | (refine wpList_load_row rfl 178 (.tmp 9) rfl hb rfl 178 C (0, 0) _ HG1.out Tryz.underlying178 rfl HS.out ?_) | (refine wpList_store_row rfl 178 (.tmp 3) (.tmp 10) rfl (w.heap.size + 1) C rfl rfl 178 Z HG2.out HS.out HZC.out HONE.out ?_; generalize hWq : World.setRow _ (w.heap.size + 1) C = W; have HM : Aside0 (Sh.Sm w bs rest W) := ⟨by rw [← hWq]; exact HSM.out⟩; have cn := Sh.cell_n HM.out.h; rw [HN.out] at cn; clear hWq))
 clear cn HG1 HG2 HSM HS HZC HONE HZ hz HC HH
 refine (HM.out.write 128 (by omega) (by rw [HN.out]; omega)).mono ?_
 rintro e w1 ⟨rfl, rest1, h1⟩
 have H1 := az h1
 clear h1 HM
 go_wp2_with fail
 go_loopw [20] (fun _ wr => ∃ (z : Nat) (rest' : List Int), z ≤ Sh.zeros N ∧ Aside0 (Sh.Sm w (bs ++ [128] ++ List.replicate z 0) rest' wr)) (fun _ wr => match wr.cell? ⟨w.heap.size + 1, 72, none⟩ with | some (.int _ n) => ((120 - n) % 64).toNat | _ => 0)
 case atStart => exact ⟨0, rest1, Nat.zero_le _, ⟨by simpa using H1.out⟩⟩
 case round =>
  clear H1
  obtain ⟨z, rest', hz, HM⟩ := hrel
  have hzn : Sh.zeros N = (119 - N % 64) % 64 := rfl
  have cm := Sh.cell_n HM.out.h
  obtain ⟨M, HMd⟩ : ∃ M, Aside0 ((bs ++ [128] ++ List.replicate z 0).length = M) := ⟨_, ⟨rfl⟩⟩
  have hM : M = N + 1 + z := by rw [← HMd.out, ← HN.out, List.length_append, List.length_append, List.length_replicate]; rfl
  rw [HMd.out] at cm
  by_cases hlt2 : z < Sh.zeros N
  ·have ht3 : ¬ (M : Int) % 64 = 56 := by omega
   have ht2 : ((M : Int) % 64 != 56) = true := by simpa using ht3
   clear ht3
   have HMN := az hM
   have HZN := az hzn
   clear hM hzn
   go_wp2_with fail
   refine (HM.out.write 0 (by omega) (by rw [HMd.out, HMN.out]; have := HZN.out; omega)).mono ?_
   rintro e w2 ⟨rfl, rest2, h2⟩
   have cm2 := Sh.cell_n h2.h
   have H2 : Aside0 (Sh.Sm w (bs ++ [128] ++ List.replicate (z + 1) 0) rest2 w2) := ⟨by
    rw [List.replicate_succ', ← List.append_assoc]; exact h2⟩
   rw [List.length_append, HMd.out] at cm2
   have CM := az cm
   have CM2 := az cm2
   clear h2 cm cm2 HM
   go_wp2_with fail
   refine ⟨⟨z + 1, rest2, by omega, H2⟩, ?_⟩
   rw [CM.out, CM2.out]
   simp only [List.length_cons, List.length_nil]
   have := HMN.out
   have := HZN.out
   omega
  ·obtain rfl : z = Sh.zeros N := by omega
   have ht : (M : Int) % 64 = 56 := by omega
   clear hM hzn
   go_wp2_with fail
   clear cm ht
   obtain ⟨P0, HP0⟩ : ∃ P, Aside0 (bs ++ [128] ++ List.replicate (Sh.zeros N) 0 = P) := ⟨_, ⟨rfl⟩⟩
   have HM0 : Aside0 (Sh.Sm w (P0 ++ (Sh.be8 (N * 8)).take 0) rest' wr) := ⟨by rw [← HP0.out]; simpa using HM.out⟩
   have HPL : Aside0 (P0.length = M) := ⟨by rw [← HP0.out]; exact HMd.out⟩
   have hMM : M ≤ N + 64 := by
    have : Sh.zeros N = (119 - N % 64) % 64 := rfl
    have := HMd.out
    rw [List.length_append, List.length_append, List.length_replicate, HN.out] at this
    simp only [List.length_cons, List.length_nil] at this
    omega
   clear HM HMd hz hlt2
   go_loopw [22] (fun v22 wr => ∃ (i : Nat) (rest' : List Int), v22 = .int .i64 i ∧ i ≤ 8 ∧ Aside0 (Sh.Sm w (P0 ++ (Sh.be8 (N * 8)).take i) rest' wr)) (fun v _ => 8 - (intOf v).toNat)
   case atStart => exact ⟨0, rest', rfl, by omega, HM0⟩
   case round =>
    clear HM0
    obtain ⟨i, rest', rfl, hi, HM⟩ := hrel
    by_cases hlt3 : i < 8
    ·go_wp2_with fail
     have hx0 : 0 ≤ (N : Int) * 8 / 2 ^ (56 - 8 * i) % 256 := by omega
     have hx1 : (N : Int) * 8 / 2 ^ (56 - 8 * i) % 256 ≤ 255 := by omega
     refine (HM.out.write _ ⟨hx0, hx1⟩ (by rw [List.length_append, HPL.out, List.length_take]; omega)).mono ?_
     rintro e w2 ⟨rfl, rest2, h2⟩
     have H2 : Aside0 (Sh.Sm w (P0 ++ (Sh.be8 (N * 8)).take (i + 1)) rest2 w2) := ⟨by
      rw [Sh.be8_take _ _ hlt3, ← List.append_assoc]; exact h2⟩
     clear h2 hx0 hx1 HM
     go_wp2_with fail
     exact ⟨⟨i + 1, rest2, by go_num, by omega, H2⟩, by simp [intOf]; omega⟩
    ·obtain rfl : i = 8 := by omega
     have HP : Aside0 (P0 ++ (Sh.be8 (N * 8)).take 8 = Sh.padded bs) := ⟨by
      rw [List.take_of_length_le (by rw [Sh.be8_length]; exact Nat.le_refl _), ← HP0.out, ← HN.out]; rfl⟩
     rw [HP.out] at HM
     obtain ⟨st, HST⟩ : ∃ st, Aside0 (Sh.state (Sh.padded bs) = st) := ⟨_, ⟨rfl⟩⟩
     obtain ⟨C3, HC3⟩ : ∃ C, Aside0 (Sh.hc st.list rest' (Sh.padded bs).length = C) := ⟨_, ⟨rfl⟩⟩
     have hltb : w.heap.size + 1 < wr.heap.size := (Array.getElem?_eq_some_iff.1 HM.out.h.h).1
     have HS3 : Aside0 (Sh.S3 w wr.heap.size C3 ((Sh.outs st).take 0 ++ List.replicate (32 - 0) 0) (wr.alloc (.cells (Sh.u8s (List.replicate 32 0)) 152))) := ⟨by
      refine ⟨(Below.heap_alloc _ _ _ (by omega)).trans HM.out.o, ?_, heap_alloc_new _ _, HM.out.g.alloc HM.out.g.size _, hltb⟩
      rw [← HC3.out, ← HST.out]
      exact (Below.heap_alloc _ _ _ hltb).trans HM.out.h.h⟩
     have HSUM : Aside0 (∀ j, j < 8 → C3[j]? = some (.int .u32 (st.list.getD j 0))) := ⟨fun j hj => by rw [← HC3.out]; exact Sh.hc_sum _ _ _ _ hj⟩
     have HD : Aside0 (Sh.dig bs = Sh.outs st) := ⟨by rw [Sh.dig, HST.out]⟩
     clear HM HP HP0 HPL HC3 HST
     go_wp2_with fail
     obtain ⟨b, HB⟩ : ∃ b, Aside0 (wr.heap.size = b) := ⟨_, ⟨rfl⟩⟩
     rw [HB.out] at HS3 ⊢
     go_loopw [34] (fun v34 wr => ∃ k : Nat, v34 = .int .i64 k ∧ k ≤ 32 ∧ Aside0 (Sh.S3 w b C3 ((Sh.outs st).take k ++ List.replicate (32 - k) 0) wr)) (fun v _ => 32 - (intOf v).toNat)
     case atStart => exact ⟨0, rfl, by omega, HS3⟩
     case round =>
      clear HS3
      obtain ⟨k, rfl, hk, HM⟩ := hrel
      by_cases hlt4 : k < 32
      ·have cs := Sh.cellAt HM.out.h (k / 4) _ (HSUM.out (k / 4) (by omega))
       have hl32 : ((Sh.outs st).take k ++ List.replicate (32 - k) 0).length = 32 := by rw [List.length_append, List.length_take, Sh.outs_length, List.length_replicate]; omega
       have cu := Sh.cellAt HM.out.u k _ (Sh.u8s_at _ k (by rw [hl32]; exact hlt4))
       have fu := Sh.frozenAt HM.out.u k
       clear hl32
       generalize ((Sh.outs st).take k ++ List.replicate (32 - k) 0).getD k 0 = old at cu
       go_wp2_with fail
       have HN2 : Aside0 (Sh.S3 w b C3 ((Sh.outs st).take (k + 1) ++ List.replicate (32 - (k + 1)) 0) (wr.setCell ⟨b, k, none⟩ (.int .u8 (st.list.getD (k / 4) 0 / 2 ^ (24 - k % 4 * 8) % 256)))) := ⟨by
        have := HM.out.put k (st.list.getD (k / 4) 0 / 2 ^ (24 - k % 4 * 8) % 256)
        rwa [Sh.put_next _ 32 k (Sh.outs_length st) hlt4 _ (Sh.outs_at st k hlt4)] at this⟩
       rw [List.getD_eq_getElem?_getD] at HN2
       exact ⟨⟨k + 1, by go_num, by omega, HN2⟩, by simp [intOf]; omega⟩
      ·obtain rfl : k = 32 := by omega
       have hL : (Sh.outs st).take 32 ++ List.replicate (32 - 32) 0 = Sh.outs st := by
        rw [List.take_of_length_le (by rw [Sh.outs_length]; exact Nat.le_refl _)]; simp
       rw [hL] at HM
       clear hL
       have hl32 : (Sh.outs st).length = 32 := Sh.outs_length st
       obtain ⟨D, HDD⟩ : ∃ D, Aside0 (Sh.u8s (Sh.outs st) = D) := ⟨_, ⟨rfl⟩⟩
       have hDs : D.size = 32 := by rw [← HDD.out]; simp [Sh.u8s, hl32]
       have HS : Aside0 ((Tryz.prog.info? 152).map (·.size) = some D.size) := ⟨by rw [hDs]; kernel_rfl⟩
       have HU : Aside0 (wr.heap[b]? = some (.cells D 152 (0, 0))) := ⟨by rw [← HDD.out]; exact HM.out.u⟩
       have HZ2 : Aside0 ((Sh.u8s (List.replicate 32 0)).size = D.size) := ⟨by rw [hDs]; rfl⟩
       have HONE : Aside0 (D.all (·.oneCell') = true) := ⟨by rw [← HDD.out]; simp [Sh.u8s, Value.oneCell']⟩
       have HO := az HM.out.o
       clear hDs hl32
       go_wp2_with (first | (refine wpList_load_row rfl 152 (.tmp 6) rfl b rfl 152 D (0, 0) _ HU.out Tryz.underlying152 rfl HS.out ?_) | (refine wpList_store_row rfl 152 (.tmp 2) (.tmp 51) rfl w.heap.size D rfl rfl 152 _ HO.out HS.out HZ2.out HONE.out ?_))
       refine ⟨rfl, .agg D, ?_, ?_, below_setRow HM.out.g (Nat.le_refl _) D⟩
       ·exact results_cell_row rfl _ _ w.heap.size 152 D (0, 0) _ rfl (setRow_heap wr w.heap.size _ D _ _ HO.out) Tryz.underlying152 rfl HS.out
       ·rw [HD.out, HDD.out]
end Go.Proofs.YtgljicdpcapgnaaGreatDoor
namespace Go.Proofs.YtgljicdpcapgnaaGreatDoor
open Go.RowKit Go.Proofs.YtgljicdpcapgnaaGreatDoorW.PrintWords Go.Proofs.YtgljicdpcapgnaaGreatDoorW.PrintLast Go.Proofs.YtgljicdpcapgnaaGreatDoorW.PrintMore
namespace Sh
open PBase in
theorem rrefs (v : Int) : coamingref02_ror.f v 7 = some (rot v 7) ∧ coamingref02_ror.f v 18 = some (rot v 18) ∧ coamingref02_ror.f v 17 = some (rot v 17) ∧ coamingref02_ror.f v 19 = some (rot v 19) ∧ coamingref02_ror.f v 6 = some (rot v 6) ∧ coamingref02_ror.f v 11 = some (rot v 11) ∧
    coamingref02_ror.f v 25 = some (rot v 25) ∧ coamingref02_ror.f v 2 = some (rot v 2) ∧ coamingref02_ror.f v 13 = some (rot v 13) ∧ coamingref02_ror.f v 22 = some (rot v 22) := by
  refine ⟨?_, ?_, ?_, ?_, ?_, ?_, ?_, ?_, ?_, ?_⟩ <;> (rw [rot, bits_or_comm]; kernel_rfl)
theorem rror (v n r : Int) (W : World) (h : PBase.coamingref02_ror.f v n = some r) : Calls Tryz.prog 131 #[.int .u32 v, .int .i64 n] W fun e w' => e = .returned (.int .u32 r) ∧ ∃ m, w' = W.drewN m :=
  (PBase.coamingref02_ror.calls v n r W h).mono fun _ _ ⟨he, hd⟩ => ⟨he, hd.out⟩
theorem rr0 {v n r : Int} {W : World} {a : Nat} (h : PBase.coamingref02_ror.f v n = some r) : Calls Tryz.prog 131 #[.int .u32 v, .int .i64 n] (W.drewN a) fun e w' => e = .returned (.int .u32 r) ∧ ∃ m, w' = W.drewN m :=
  (rror v n r _ h).mono fun _ _ ⟨he, m, hm⟩ => ⟨he, a + m, by rw [hm, World.drewN_drewN]⟩
theorem rr1 {v n r : Int} {W : World} {k a : Nat} (h : PBase.coamingref02_ror.f v n = some r) : Calls Tryz.prog 131 #[.int .u32 v, .int .i64 n] (W.drewN (k + a)) fun e w' => e = .returned (.int .u32 r) ∧ ∃ m, w' = W.drewN (k + m) := quiet_then (rror v n r _ h)
theorem rd_nat (l : List Int) (i : Nat) : rd l (i : Int) = l.getD i 0 := by simp [rd, List.getD_eq_getElem?_getD]
theorem byte_at {p : List Int} (hp : p.length = 64) (hb : Bytes p) (i : Nat) (hi : i < 64) : 0 ≤ p.getD i 0 ∧ p.getD i 0 ≤ 255 := by
  rw [List.getD_eq_getElem?_getD, List.getElem?_eq_getElem (by omega)]
  exact hb _ (List.getElem_mem _)
theorem not_and (e g : Int) : bits .and .u32 (bits .xor .u32 IntKind.u32.max e) g = bits .andNot .u32 g e := by
  have h : BitVec.ofInt IntKind.u32.bits (bits .xor .u32 IntKind.u32.max e) = ~~~ (BitVec.ofInt IntKind.u32.bits e) := by
    show BitVec.ofInt 32 (IntKind.u32.wrap ((BitVec.ofInt 32 4294967295 ^^^ BitVec.ofInt 32 e).toNat : Int)) = ~~~ (BitVec.ofInt 32 e)
    have hall : BitVec.ofInt 32 4294967295 ^^^ BitVec.ofInt 32 e = ~~~ (BitVec.ofInt 32 e) := by
      rw [show BitVec.ofInt 32 4294967295 = BitVec.allOnes 32 from rfl, BitVec.allOnes_xor]
    rw [hall, IntKind.wrap_u32]
    generalize ~~~ (BitVec.ofInt 32 e) = x
    have := x.isLt
    rw [show ((x.toNat : Int) % 4294967296) = (x.toNat : Int) by omega]
    apply BitVec.eq_of_toNat_eq
    rw [BitVec.ofInt_natCast, BitVec.toNat_ofNat]
    exact Nat.mod_eq_of_lt this
  unfold bits at h ⊢
  simp only at h ⊢
  rw [h, BitVec.and_comm]
theorem info32 : (Tryz.prog.info? 36).map (fun i => (i.zero, i.size, i.bytes)) = some (some (.int .u32 0), 1, 4) := by kernel_rfl
def part (p : List Int) (t : Nat) : Nat → Int
  | 0 => 0
  | j + 1 => part p t j * 256 + p.getD (4 * t + j) 0
theorem part_four (p : List Int) (t : Nat) : part p t 4 = four p t := by
  simp only [part, four, Nat.add_zero]; omega
theorem part_lt {p : List Int} (hp : p.length = 64) (hb : Bytes p) (t : Nat) (ht : t < 16) (j : Nat) (hj : j < 4) : 0 ≤ part p t j ∧ part p t j < 16777216 := by
  have b0 := byte_at hp hb (4 * t) (by omega)
  have b1 := byte_at hp hb (4 * t + 1) (by omega)
  have b2 := byte_at hp hb (4 * t + 2) (by omega)
  match j, hj with
  | 0, _ => simp only [part]; omega
  | 1, _ => simp only [part, Nat.add_zero]; omega
  | 2, _ => simp only [part, Nat.add_zero]; omega
  | 3, _ => simp only [part, Nat.add_zero]; omega
theorem part_or {p : List Int} (hp : p.length = 64) (hb : Bytes p) (t : Nat) (ht : t < 16) (j : Nat) (hj : j < 4) : bits .or .u32 (part p t j * 256 % 4294967296) (p.getD (4 * t + j) 0 % 4294967296) = part p t (j + 1) := by
  obtain ⟨b0, b1⟩ := byte_at hp hb (4 * t + j) (by omega)
  obtain ⟨h0, h1⟩ := part_lt hp hb t ht j hj
  rw [part]
  generalize part p t j = x at *
  generalize p.getD (4 * t + j) 0 = y at *
  rw [show x * 256 % 4294967296 = x * 256 by omega, show y % 4294967296 = y by omega, Bt.or_u32 8 (x * 256) y (by omega) (by omega) (by omega) (by omega) (by omega) (by omega)]
structure Rw (w : World) (v : Value) (l : List Int) (wr : World) : Prop where
  r : Kd.R (Kd.int .u32) 36 wr w.heap.size (fun _ => True) v l
  g : Below w.heap.size w wr
theorem reps_u32 {w : World} {b : Nat} {ok : Nat → Prop} : ∀ l : List Int, Reps (fun y cs => Kd.M (Kd.int .u32) w b ok y cs) 1 l (l.map (Value.int .u32))
  | [] => Reps.none _ _
  | x :: l => Reps.one (show Kd.M (Kd.int .u32) w b ok x [.int .u32 x] from rfl) (reps_u32 l)
end Sh
theorem refkeys_.calls (w : World) : Calls Tryz.prog 130 #[] w fun e w' => ∃ v, e = .returned v ∧ Sh.Rw w v Sh.keys w' := by
 go_enter Tryz.func130, Tryz.ntmps130
 go_wp2_with ((with_reducible refine gate_dst (N := 1) rfl ?_); refine Kd.R_lit (Kd.int .u32) _ 36 ?hg (N := 1) ?hd (xs := Sh.keys) (inner := Sh.keys.map (Value.int .u32)) (ok := fun _ => True) (okp := fun _ => True) ?hr ?hp (fun _ hk => hk) trivial (Below.refl w.heap.size w) (Nat.le_refl _) (by decide) ?_; (case hd => rfl); (case hg => rfl); (case hr => go_simp; exact ⟨rfl, by first | kernel_rfl | simp [Sh.keys]⟩); (case hp => exact Sh.reps_u32 _); intro v1 w1 ho hb hg_ hnew_; have HO := az ho; have HB := az hb; clear ho hb hg_ hnew_)
 go_ret
 exact ⟨_, rfl, HO.out, HB.out⟩
namespace Sh
theorem Rw.drewN {w : World} {v : Value} {l : List Int} {wr : World} (h : Rw w v l wr) (m : Nat) : Rw w v l (wr.drewN m) := ⟨Kd.R_drewN h.r m, ⟨h.g.os, h.g.tape, h.g.output, h.g.size, h.g.block⟩⟩
end Sh
theorem refwords_.calls (A : Option Addr) (c : Nat) (p : List Int) (w : World) (hp : p.length = 64) (hby : Sh.Bytes p) (hr : Kd.C (Kd.int .u8) w A 64 p) (hc : 64 ≤ c) :
  Calls Tryz.prog 129 #[.slice A 64 c] w fun e w' => ∃ v, e = .returned v ∧ Sh.Rw w v (Sh.words p 64) w' := by
 obtain ⟨ad, hA, -⟩ := Kd.at_int hr 0 (by decide) (by decide)
 subst hA
 have HC := az hr
 have HBY := az hby
 have HP := az hp
 clear hr hby hp
 go_enter Tryz.func129, Tryz.ntmps129
 go_wp2_with fail
 go_loopw [4, 3] (fun v4 v3 wr => ∃ (t : Nat) (A3 : Option Addr) (c3 : Nat), v4 = .int .i64 t ∧ t ≤ 64 ∧ v3 = .slice A3 t c3 ∧ Aside0 (Sh.Rw w (.slice A3 t c3) (Sh.words p t) wr)) (fun i _ _ => 64 - (intOf i).toNat)
 case atStart => exact ⟨0, none, 0, rfl, by omega, rfl, ⟨⟨Kd.R_nil _ _ _ _ _, Below.refl _ _⟩⟩⟩
 case round =>
  obtain ⟨t, A3, c3, rfl, ht, rfl, HM⟩ := hrel
  by_cases hlt : t < 64
  ·by_cases h16 : t < 16
   ·go_wp2_with fail
    go_loopw [6, 5] (fun v6 v5 wr => ∃ j : Nat, v6 = .int .i64 j ∧ j ≤ 4 ∧ v5 = .int .u32 (Sh.part p t j) ∧ Aside0 (Sh.Rw w (.slice A3 t c3) (Sh.words p t) wr)) (fun i _ _ => 4 - (intOf i).toNat)
    case atStart => exact ⟨0, rfl, by omega, rfl, HM⟩
    case round =>
     clear HM
     obtain ⟨j, rfl, hj, rfl, HM⟩ := hrel
     by_cases hj4 : j < 4
     ·obtain ⟨i, hi⟩ : ∃ i : Nat, i = 4 * t + j := ⟨_, rfl⟩
      obtain ⟨ad', e, hcs⟩ := Kd.at_int (Kd.C_below HC.out HM.out.g) (i : Nat) (by omega) (by omega)
      obtain rfl := Option.some.inj e
      rw [Sh.rd_nat, Int.toNat_natCast] at hcs
      have HI := az hi
      have hi2 : 4 * (t : Int) + j = i := by omega
      have hi64 : i < 64 := by omega
      clear e hi
      go_wp2_with fail
      refine ⟨⟨j + 1, rfl, by omega, ?_, HM⟩, by simp [intOf]; omega⟩
      rw [← Sh.part_or HP.out HBY.out t h16 j hj4, ← HI.out, List.getD_eq_getElem?_getD]
     ·obtain rfl : j = 4 := by omega
      obtain ⟨x, HX⟩ : ∃ x, Aside0 (Sh.part p t 4 = x) := ⟨_, ⟨rfl⟩⟩
      rw [HX.out]
      have HX4 : Aside0 (Sh.words p (t + 1) = Sh.words p t ++ [x]) := ⟨by rw [← HX.out, Sh.part_four, Sh.words, if_pos h16]⟩
      have HLW : Aside0 ((Sh.words p t).length = t) := ⟨Sh.words_length p t⟩
      clear HX
      go_wp2_with ((with_reducible refine gate_builtin (b := .append) (xs := #[.tmp 30, .tmp 32]) rfl ?_); at_builtin; refine Kd.R_append (Kd.int .u32) (w0 := w) w.heap.size rfl (.tmp 30) (.tmp 32) 72 36 (.int .u32 0) 4 rfl Tryz.underlying72 Sh.info32 rfl (by decide) (by omega) (.slice A3 t c3) (Sh.words p t) x [.int .u32 x] (fun _ => True) (fun _ => False) rfl rfl rfl (fun _ h => h.elim) (fun k hk => trivial) HM.out.r HM.out.g HM.out.g.size (by rw [HLW.out]; omega) ?_; intro v4 w4 ho hb hg _; rw [← HX4.out] at ho; have HM4 : Aside0 (Sh.Rw w v4 (Sh.words p (t + 1)) w4) := ⟨⟨ho, hb⟩⟩; clear ho hb hg; obtain ⟨A4, c4, hv4⟩ := Kd.R_slice HM4.out.r; rw [Sh.words_length] at hv4; subst hv4)
      refine ⟨⟨t + 1, A4, c4, rfl, by omega, rfl, HM4⟩, by simp [intOf]; omega⟩
   ·obtain ⟨a15, A15⟩ : ∃ a, Aside0 (a = t - 15) := ⟨_, ⟨rfl⟩⟩
    obtain ⟨a2, A2⟩ : ∃ a, Aside0 (a = t - 2) := ⟨_, ⟨rfl⟩⟩
    obtain ⟨a16, A16⟩ : ∃ a, Aside0 (a = t - 16) := ⟨_, ⟨rfl⟩⟩
    obtain ⟨a7, A7⟩ : ∃ a, Aside0 (a = t - 7) := ⟨_, ⟨rfl⟩⟩
    have HLW : Aside0 ((Sh.words p t).length = t) := ⟨Sh.words_length p t⟩
    have hC3 : Kd.C (Kd.int .u32) wr A3 t (Sh.words p t) := by have := (Kd.R_reads' HM.out.r).2.2; rwa [HLW.out] at this
    obtain ⟨ad3, hA3, -⟩ := Kd.at_int hC3 0 (by decide) (by omega)
    subst hA3
    have hx : ∀ a : Nat, a < t → wr.cell? (ad3.add a) = some (.int .u32 ((Sh.words p t).getD a 0)) := fun a ha => by
     obtain ⟨ad', e, hcs⟩ := Kd.at_int hC3 (a : Nat) (by omega) (by omega)
     obtain rfl := Option.some.inj e
     rwa [Sh.rd_nat, Int.toNat_natCast] at hcs
    have k15 : (a15 : Int) < t := by have := A15.out; omega
    have k2 : (a2 : Int) < t := by have := A2.out; omega
    have k16 : (a16 : Int) < t := by have := A16.out; omega
    have k7 : (a7 : Int) < t := by have := A7.out; omega
    have i15 := hx a15 (by omega)
    have i2 := hx a2 (by omega)
    have i16 := hx a16 (by omega)
    have i7 := hx a7 (by omega)
    obtain ⟨x15, X15⟩ : ∃ x, Aside0 ((Sh.words p t).getD a15 0 = x) := ⟨_, ⟨rfl⟩⟩
    obtain ⟨x2, X2⟩ : ∃ x, Aside0 ((Sh.words p t).getD a2 0 = x) := ⟨_, ⟨rfl⟩⟩
    obtain ⟨x16, X16⟩ : ∃ x, Aside0 ((Sh.words p t).getD a16 0 = x) := ⟨_, ⟨rfl⟩⟩
    obtain ⟨x7, X7⟩ : ∃ x, Aside0 ((Sh.words p t).getD a7 0 = x) := ⟨_, ⟨rfl⟩⟩
    rw [X15.out] at i15
    rw [X2.out] at i2
    rw [X16.out] at i16
    rw [X7.out] at i7
    have w15 : IntKind.i64.wrap ((t : Int) - 15) = a15 := by have := A15.out; rw [IntKind.wrap_i64]; omega
    have w2 : IntKind.i64.wrap ((t : Int) - 2) = a2 := by have := A2.out; rw [IntKind.wrap_i64]; omega
    have w16 : IntKind.i64.wrap ((t : Int) - 16) = a16 := by have := A16.out; rw [IntKind.wrap_i64]; omega
    have w7 : IntKind.i64.wrap ((t : Int) - 7) = a7 := by have := A7.out; rw [IntKind.wrap_i64]; omega
    clear hx hC3
    obtain ⟨x, HX⟩ : ∃ x, Aside0 (IntKind.u32.wrap (IntKind.u32.wrap (IntKind.u32.wrap (x16 + bits .xor .u32 (bits .xor .u32 (Sh.rot x15 7) (Sh.rot x15 18)) (x15 / 8)) + x7) + bits .xor .u32 (bits .xor .u32 (Sh.rot x2 17) (Sh.rot x2 19)) (x2 / 1024)) = x) := ⟨_, ⟨rfl⟩⟩
    have HX4 : Aside0 (Sh.words p (t + 1) = Sh.words p t ++ [x]) := ⟨by
     rw [← HX.out, Sh.words, if_neg h16]
     have := A15.out
     have := A2.out
     have := A16.out
     have := A7.out
     unfold Sh.next
     rw [← A15.out, ← A2.out, ← A16.out, ← A7.out, X15.out, X2.out, X16.out, X7.out]
     simp only [IntKind.wrap_u32, Sh.m32, Sh.s0, Sh.s1]⟩
    go_upto_region 14 with fail
    clear i15 i2 w15 w2 k15 k2
    refine wp_region_noPanic ?_
    refine Rg.s1 33 (fun w' => w'.cell? (ad3.add a16) = some (.int .u32 x16) ∧ w'.cell? (ad3.add a7) = some (.int .u32 x7)) [30, 31] (⟨i16, i7⟩) #[false, false, false, false, false, false, false, false, false, false, false, false, false, false, false, false, false, false, false, false, false, false, false, false, false, false, false, false, false, false, false, false, false] (fun hHeld => ?_)
    refine Rg.p1 0 (.some 44) ?_
    refine Rg.p1 1 (.some 45) ?_
    refine Rg.p1 2 (.some 46) ?_
    refine Rg.p1 3 (.some 47) ?_
    refine Rg.p1 4 (.some 48) ?_
    refine Rg.t1 5 (.some 49) hHeld ?_ (hy := by intro w' hS'; (obtain ⟨hS0, _⟩ := hS'; go_simp); first | done | with_reducible rfl)
    refine Rg.p1 6 (.some 50) ?_
    refine Rg.p1 8 (.some 52) ?_
    refine Rg.p1 11 (.some 55) ?_
    refine Rg.p1 12 (.some 56) ?_
    refine Rg.p1 15 (.some 59) ?_
    refine Rg.p1 16 (.some 60) ?_
    refine Rg.p1 17 (.some 61) ?_
    refine Rg.p1 18 (.some 62) ?_
    refine Rg.t1 19 (.some 63) hHeld ?_ (hy := by intro w' hS'; (obtain ⟨_, hS1⟩ := hS'; go_simp); first | done | with_reducible rfl)
    refine Rg.p1 21 (.some 65) ?_
    refine Rg.p1 23 (.some 67) ?_
    refine Rg.p1 26 (.some 70) ?_
    refine Rg.p1 27 (.some 71) ?_
    refine Rg.o1 7 (.some 51) (fun K hK => ?_)
    refine call_ 131 #[.int .u32 x15, .int .i64 7] (by rfl) rfl (by go_simp) ?_
    refine (Sh.rror x15 7 _ _ (Sh.rrefs x15).1).mono ?_
    rintro e w' ⟨rfl, m7, rfl⟩
    refine ⟨_, rfl, ?_⟩
    refine hK.out _ _ hHeld (fun hHeld => ?_)
    clear hK K
    refine Rg.n1 ?_
    refine Rg.o1 9 (.some 53) (fun K hK => ?_)
    refine call_ 131 #[.int .u32 x15, .int .i64 18] (by rfl) rfl (by go_simp) ?_
    refine (Sh.rror x15 18 _ _ (Sh.rrefs x15).2.1).mono ?_
    rintro e w' ⟨rfl, m9, rfl⟩
    refine ⟨_, rfl, ?_⟩
    refine hK.out _ _ hHeld (fun hHeld => ?_)
    clear hK K
    refine Rg.n1 ?_
    refine Rg.p1 10 (.some 54) ?_
    refine Rg.p1 13 (.some 57) ?_
    refine Rg.p1 14 (.some 58) ?_
    refine Rg.p1 20 (.some 64) ?_
    refine Rg.o1 22 (.some 66) (fun K hK => ?_)
    refine call_ 131 #[.int .u32 x2, .int .i64 17] (by rfl) rfl (by go_simp) ?_
    refine (Sh.rror x2 17 _ _ (Sh.rrefs x2).2.2.1).mono ?_
    rintro e w' ⟨rfl, m22, rfl⟩
    refine ⟨_, rfl, ?_⟩
    refine hK.out _ _ hHeld (fun hHeld => ?_)
    clear hK K
    refine Rg.n1 ?_
    refine Rg.o1 24 (.some 68) (fun K hK => ?_)
    refine call_ 131 #[.int .u32 x2, .int .i64 19] (by rfl) rfl (by go_simp) ?_
    refine (Sh.rror x2 19 _ _ (Sh.rrefs x2).2.2.2.1).mono ?_
    rintro e w' ⟨rfl, m24, rfl⟩
    refine ⟨_, rfl, ?_⟩
    refine hK.out _ _ hHeld (fun hHeld => ?_)
    clear hK K
    refine Rg.n1 ?_
    refine Rg.p1 25 (.some 69) ?_
    refine Rg.p1 28 (.some 72) ?_
    refine Rg.p1 29 (.some 73) ?_
    refine Rg.l1 30 (.some 74) (fun K hK => ?_)
    refine value_ (w1 := (((((wr.drew).drewN m7).drewN m9).drewN m22).drewN m24).alloc (.cells #[.int .u32 x] 36)) (v := .slice (some ⟨wr.heap.size, 0, none⟩) 1 1) (by rfl) rfl (by rw [← HX.out]; first | (go_simp; done) | (go_simp; rfl)) ?_
    refine hK.out _ _ ?_
    clear hK K
    refine Rg.n1 ?_
    refine Rg.l1 31 (.some 75) (fun K hK => ?_)
    have HM2 := az ((((HM.out.drewN 1).drewN m7).drewN m9).drewN m22 |>.drewN m24)
    refine Kd.R_append_step (Kd.int .u32) (w0 := w) (W := ((((wr.drew).drewN m7).drewN m9).drewN m22).drewN m24) w.heap.size (by rfl) (.tmp 44) (.tmp 74) 72 36 (.int .u32 0) 4 rfl Tryz.underlying72 Sh.info32 rfl (by decide) (by omega) (.slice (some ad3) t c3) (Sh.words p t) x [.int .u32 x] (fun _ => True) (fun _ => False) rfl rfl rfl (fun _ h => h.elim) (fun k hk => trivial) HM2.out.r HM2.out.g HM2.out.g.size (by rw [HLW.out]; omega) ?_
    intro v4 w4 ho hb hg _
    rw [← HX4.out] at ho
    have HM4 : Aside0 (Sh.Rw w v4 (Sh.words p (t + 1)) w4) := ⟨⟨ho, hb⟩⟩
    clear ho hb hg
    obtain ⟨A4, c4, hv4⟩ := Kd.R_slice HM4.out.r
    rw [Sh.words_length] at hv4
    subst hv4
    refine hK.out _ _ ?_
    clear hK K
    refine Rg.n1 ?_
    refine Rg.p1 32 (.some 3) ?_
    refine Rg.d1 ?_
    refine NoPanic.normal ?_
    go_wp2_with fail
    refine ⟨⟨t + 1, A4, c4, rfl, by omega, rfl, HM4⟩, by simp [intOf]; omega⟩
  ·obtain rfl : t = 64 := by omega
   go_wp2_with fail
   go_ret
   exact ⟨_, rfl, HM.out⟩
theorem refmore_.calls (A0 : Option Addr) (c0 : Nat) (s : Sh.V) (A1 : Option Addr) (c1 : Nat) (p : List Int) (w : World) (hr0 : Kd.C (Kd.int .u32) w A0 8 s.list) (hc0 : 8 ≤ c0) (hp : p.length = 64) (hby : Sh.Bytes p) (hr1 : Kd.C (Kd.int .u8) w A1 64 p) (hc1 : 64 ≤ c1) :
  Calls Tryz.prog 126 #[.slice A0 8 c0, .slice A1 64 c1] w fun e w' => ∃ (A : Option Addr) (c : Nat), e = .returned (.slice A 8 c) ∧ 8 ≤ c ∧ Kd.C (Kd.int .u32) w' A 8 (Sh.comp s p).list ∧ Below w.heap.size w w' := by
 obtain ⟨ad0, hA, -⟩ := Kd.at_int hr0 0 (by decide) (by decide)
 subst hA
 have HC0 := az hr0
 have HF1 := az (refwords_.calls A1 c1 p w hp hby hr1 hc1)
 clear hr0 hr1 hp hby
 go_enter Tryz.func126, Tryz.ntmps126
 go_wp2_with fail
 refine HF1.out.mono ?_
 rintro e w1 ⟨v5, rfl, hW⟩
 obtain ⟨A5, c5, hv5⟩ := Kd.R_slice hW.r
 rw [Sh.words_length] at hv5
 subst hv5
 have hC5 : Kd.C (Kd.int .u32) w1 A5 64 (Sh.words p 64) := by have := (Kd.R_reads' hW.r).2.2; rwa [Sh.words_length] at this
 obtain ⟨ad5, hA, -⟩ := Kd.at_int hC5 0 (by decide) (by decide)
 subst hA
 have HW := az hW
 have HC5 := az hC5
 clear hW hC5 HF1
 go_wp2_with fail
 refine (refkeys_.calls w1).mono ?_
 rintro e w2 ⟨v6, rfl, hK⟩
 obtain ⟨A6, c6, hv6⟩ := Kd.R_slice hK.r
 rw [show Sh.keys.length = 64 from rfl] at hv6
 subst hv6
 have hC6 : Kd.C (Kd.int .u32) w2 A6 64 Sh.keys := (Kd.R_reads' hK.r).2.2
 obtain ⟨ad6, hA, -⟩ := Kd.at_int hC6 0 (by decide) (by decide)
 subst hA
 have HB2 := az (below_then HW.out.g HW.out.g.size hK.g)
 have HC52 := az (Kd.C_below HC5.out hK.g)
 have HC02 := az (Kd.C_below HC0.out HB2.out)
 have HC6 := az hC6
 clear hK hC6 HC5 HC0 HW
 go_wp2_with ((with_reducible refine gate_builtin (b := .append) (xs := #[.tmp 15, .tmp 16]) rfl ?_); at_builtin; refine Kd.R_append_rows (Kd.int .u32) (w0 := w2) w2.heap.size rfl (.tmp 15) (.tmp 16) 72 36 (.int .u32 0) 4 rfl Tryz.underlying72 Sh.info32 rfl (by decide) (by omega) (.slice none 0 0) ([] : List Int) s.list (some ad0) 8 c0 (fun _ => True) (fun _ => False) rfl rfl (Kd.R_nil _ _ _ _ _) HC02.out (fun _ _ h => h) (fun _ h => h.elim) (fun k hk => trivial) (Below.refl _ _) (Nat.le_refl _) (by simp) ?_; intro v7 w3 ho hb hg _; have H7 : Aside0 (Kd.R (Kd.int .u32) 36 w3 w2.heap.size (fun _ => True) v7 s.list) := ⟨ho⟩; have HB7 := az hb; clear ho hb hg; obtain ⟨A7, c7, hv7⟩ := Kd.R_slice H7.out; rw [Sh.list_length] at hv7; subst hv7)
 obtain ⟨-, hc7, hC7⟩ := Kd.R_reads' H7.out
 rw [Sh.list_length] at hC7
 obtain ⟨ad7, hA, -⟩ := Kd.at_int hC7 0 (by decide) (by decide)
 subst hA
 have HC7 := az hC7
 clear hC7 H7
 go_loopw [8, 7] (fun v8 v7 wr => ∃ (t : Nat) (ad : Addr) (c7 : Nat), v8 = .int .i64 t ∧ t ≤ 64 ∧ v7 = .slice (some ad) 8 c7 ∧ 8 ≤ c7 ∧ Aside0 (Kd.C (Kd.int .u32) wr (some ad) 8 (Sh.rounds (Sh.words p 64) s t).list) ∧ Aside0 (Below w2.heap.size w2 wr) ∧
  Aside0 (0 < t → ∃ b, ad = ⟨b, 0, none⟩ ∧ w2.heap.size ≤ b ∧ wr.heap[b]? = some (.cells (Sh.u32s (Sh.rounds (Sh.words p 64) s t).list) 36 (0, 0)))) (fun i _ _ => 64 - (intOf i).toNat)
 case atStart => exact ⟨0, ad7, c7, rfl, by omega, rfl, hc7, HC7, HB7, ⟨fun h => absurd h (by omega)⟩⟩
 case round =>
  clear HC7 HB7 hc7
  obtain ⟨t, ad, c7, rfl, ht, rfl, hc7, HC7, HB7, HT⟩ := hrel
  by_cases hlt : t < 64
  ·clear HT
   obtain ⟨v, HV⟩ : ∃ v, Aside0 (Sh.rounds (Sh.words p 64) s t = v) := ⟨_, ⟨rfl⟩⟩
   obtain ⟨kx, HKX⟩ : ∃ k, Aside0 (Sh.keys.getD t 0 = k) := ⟨_, ⟨rfl⟩⟩
   obtain ⟨x, HX⟩ : ∃ x, Aside0 ((Sh.words p 64).getD t 0 = x) := ⟨_, ⟨rfl⟩⟩
   rw [HV.out] at HC7
   have hx : ∀ a : Nat, a < 8 → wr.cell? (ad.add a) = some (.int .u32 (v.list.getD a 0)) := fun a ha => by
    obtain ⟨ad', e, hcs⟩ := Kd.at_int HC7.out (a : Nat) (by omega) (by omega)
    obtain rfl := Option.some.inj e
    rwa [Sh.rd_nat, Int.toNat_natCast] at hcs
   have b0 : wr.cell? ad = some (.int .u32 v.a) := by have := hx 0 (by decide); rwa [Go.Addr.add_zero'] at this
   have b1 : wr.cell? ⟨ad.block, ad.off + 1, none⟩ = some (.int .u32 v.b) := hx 1 (by decide)
   have b2 : wr.cell? ⟨ad.block, ad.off + 2, none⟩ = some (.int .u32 v.c) := hx 2 (by decide)
   have b3 : wr.cell? ⟨ad.block, ad.off + 3, none⟩ = some (.int .u32 v.d) := hx 3 (by decide)
   have b4 : wr.cell? ⟨ad.block, ad.off + 4, none⟩ = some (.int .u32 v.e) := hx 4 (by decide)
   have b5 : wr.cell? ⟨ad.block, ad.off + 5, none⟩ = some (.int .u32 v.f) := hx 5 (by decide)
   have b6 : wr.cell? ⟨ad.block, ad.off + 6, none⟩ = some (.int .u32 v.g) := hx 6 (by decide)
   have b7 : wr.cell? ⟨ad.block, ad.off + 7, none⟩ = some (.int .u32 v.h) := hx 7 (by decide)
   have bk : wr.cell? (ad6.add t) = some (.int .u32 kx) := by
    obtain ⟨ad', e, hcs⟩ := Kd.at_int (Kd.C_below HC6.out HB7.out) (t : Nat) (by omega) (by omega)
    obtain rfl := Option.some.inj e
    rwa [Sh.rd_nat, Int.toNat_natCast, HKX.out] at hcs
   have bx : wr.cell? (ad5.add t) = some (.int .u32 x) := by
    obtain ⟨ad', e, hcs⟩ := Kd.at_int (Kd.C_below HC52.out HB7.out) (t : Nat) (by omega) (by omega)
    obtain rfl := Option.some.inj e
    rwa [Sh.rd_nat, Int.toNat_natCast, HX.out] at hcs
   clear hx
   go_wp2_with fail
   go_quiet (first | exact Sh.rr0 (Sh.rrefs _).2.2.2.2.1 | exact Sh.rr1 (Sh.rrefs _).2.2.2.2.1 | exact Sh.rr0 (Sh.rrefs _).2.2.2.2.2.1 | exact Sh.rr1 (Sh.rrefs _).2.2.2.2.2.1 | exact Sh.rr0 (Sh.rrefs _).2.2.2.2.2.2.1 | exact Sh.rr1 (Sh.rrefs _).2.2.2.2.2.2.1)
   obtain ⟨n1, rfl⟩ : ∃ n, n = nq := ⟨_, rfl⟩
   go_wp2_with fail
   go_quiet (first | exact Sh.rr0 (Sh.rrefs _).2.2.2.2.2.2.2.1 | exact Sh.rr1 (Sh.rrefs _).2.2.2.2.2.2.2.1 | exact Sh.rr0 (Sh.rrefs _).2.2.2.2.2.2.2.2.1 | exact Sh.rr1 (Sh.rrefs _).2.2.2.2.2.2.2.2.1 | exact Sh.rr0 (Sh.rrefs _).2.2.2.2.2.2.2.2.2 | exact Sh.rr1 (Sh.rrefs _).2.2.2.2.2.2.2.2.2)
   go_wp2_with fail
   refine wp_region_noPanic ?_
   refine Rg.s1 28 (fun w' => w'.cell? ad = some (.int .u32 v.a) ∧ w'.cell? ⟨ad.block, ad.off + 1, none⟩ = some (.int .u32 v.b) ∧ w'.cell? ⟨ad.block, ad.off + 2, none⟩ = some (.int .u32 v.c) ∧ w'.cell? ⟨ad.block, ad.off + 3, none⟩ = some (.int .u32 v.d) ∧ w'.cell? ⟨ad.block, ad.off + 4, none⟩ = some (.int .u32 v.e) ∧ w'.cell? ⟨ad.block, ad.off + 5, none⟩ = some (.int .u32 v.f) ∧ w'.cell? ⟨ad.block, ad.off + 6, none⟩ = some (.int .u32 v.g)) [26] (⟨b0, b1, b2, b3, b4, b5, b6⟩) #[false, false, false, false, false, false, false, false, false, false, false, false, false, false, false, false, false, false, false, false, false, false, false, false, false, false, false, false] (fun hHeld => ?_)
   refine Rg.p1 0 (.some 105) ?_
   refine Rg.p1 1 (.some 106) ?_
   refine Rg.p1 2 (.some 107) ?_
   refine Rg.p1 3 (.some 108) ?_
   refine Rg.p1 4 (.some 109) ?_
   refine Rg.t1 5 (.some 110) hHeld ?_ (hy := by intro w' hS'; (obtain ⟨hS0, _, _, _, _, _, _⟩ := hS'; go_simp); first | done | with_reducible rfl)
   refine Rg.p1 6 (.some 111) ?_
   refine Rg.p1 7 (.some 112) ?_
   refine Rg.t1 8 (.some 113) hHeld ?_ (hy := by intro w' hS'; (obtain ⟨_, hS0, _, _, _, _, _⟩ := hS'; go_simp); first | done | with_reducible rfl)
   refine Rg.p1 9 (.some 114) ?_
   refine Rg.p1 10 (.some 115) ?_
   refine Rg.t1 11 (.some 116) hHeld ?_ (hy := by intro w' hS'; (obtain ⟨_, _, hS0, _, _, _, _⟩ := hS'; go_simp); first | done | with_reducible rfl)
   refine Rg.p1 12 (.some 117) ?_
   refine Rg.p1 13 (.some 118) ?_
   refine Rg.t1 14 (.some 119) hHeld ?_ (hy := by intro w' hS'; (obtain ⟨_, _, _, hS0, _, _, _⟩ := hS'; go_simp); first | done | with_reducible rfl)
   refine Rg.p1 15 (.some 120) ?_
   refine Rg.p1 16 (.some 121) ?_
   refine Rg.p1 17 (.some 122) ?_
   refine Rg.p1 18 (.some 123) ?_
   refine Rg.t1 19 (.some 124) hHeld ?_ (hy := by intro w' hS'; (obtain ⟨_, _, _, _, hS0, _, _⟩ := hS'; go_simp); first | done | with_reducible rfl)
   refine Rg.p1 20 (.some 125) ?_
   refine Rg.p1 21 (.some 126) ?_
   refine Rg.t1 22 (.some 127) hHeld ?_ (hy := by intro w' hS'; (obtain ⟨_, _, _, _, _, hS0, _⟩ := hS'; go_simp); first | done | with_reducible rfl)
   refine Rg.p1 23 (.some 128) ?_
   refine Rg.p1 24 (.some 129) ?_
   refine Rg.t1 25 (.some 130) hHeld ?_ (hy := by intro w' hS'; (obtain ⟨_, _, _, _, _, _, hS0⟩ := hS'; go_simp); first | done | with_reducible rfl)
   refine Rg.l1 26 (.some 131) (fun K hK => ?_)
   refine value_ (w1 := (((wr.drewN n1).drewN nq).drew).alloc (.cells (Sh.u32s (v.rnd kx x).list) 36)) (v := .slice (some ⟨wr.heap.size, 0, none⟩) 8 8) (by rfl) rfl (by go_simp; simp only [Sh.u32s, Sh.V.list, List.map_cons, List.map_nil, Sh.V.rnd, Sh.V.x, Sh.V.y, Sh.m32, Sh.big1, Sh.big0, Sh.ch, Sh.maj, Sh.not_and, IntKind.wrap_u32, Int.emod_add_emod, Int.add_emod_emod]) ?_
   refine hK.out _ _ ?_
   clear hK K
   refine Rg.n1 ?_
   refine Rg.p1 27 (.some 7) ?_
   refine Rg.d1 ?_
   have HBW : Aside0 (Below w2.heap.size w2 (wr.drewN (n1 + nq + 1))) := ⟨⟨HB7.out.os, HB7.out.tape, HB7.out.output, HB7.out.size, HB7.out.block⟩⟩
   have HER : Aside0 (Sh.rounds (Sh.words p 64) s (t + 1) = v.rnd kx x) := ⟨by rw [Sh.rounds, HV.out, HKX.out, HX.out]⟩
   clear b0 b1 b2 b3 b4 b5 b6 b7 bk bx hHeld HC7
   refine NoPanic.normal ?_
   go_wp2_with fail
   refine ⟨⟨t + 1, ⟨wr.heap.size, 0, none⟩, 8, by go_num, by omega, rfl, Nat.le_refl _, ?_, ?_, ?_⟩, by simp [intOf]; omega⟩
   ·rw [HER.out]
    exact ⟨Lit.reads_new (wr.drewN (n1 + nq + 1)) (Sh.u32s (v.rnd kx x).list) 36 (0, 0) .u32 (v.rnd kx x).list (by simp [Sh.u32s]) (by rw [Sh.list_length]; decide)⟩
   ·exact ⟨below_alloc HBW.out _⟩
   ·rw [HER.out]
    exact ⟨fun _ => ⟨_, rfl, HBW.out.size, heap_alloc_new (wr.drewN (n1 + nq + 1)) _⟩⟩
  ·obtain rfl : t = 64 := by omega
   obtain ⟨b, rfl, hb, hH⟩ := HT.out (by decide)
   obtain ⟨v, HV⟩ : ∃ v, Aside0 (Sh.rounds (Sh.words p 64) s 64 = v) := ⟨_, ⟨rfl⟩⟩
   rw [HV.out] at hH
   have HH : Aside0 (wr.heap[b]? = some (.cells (Sh.u32s (Sh.some8 s v 0)) 36 (0, 0))) := ⟨hH⟩
   have HCO : Aside0 (Sh.comp s p = s.add v) := ⟨by rw [Sh.comp, HV.out]; simp only [Sh.V.add, Int.add_comm]⟩
   have HB := az hb
   clear hb hH HT HC7 HV ht
   go_wp2_with fail
   clear hlt
   go_loopw [11] (fun v11 wr => ∃ k : Nat, v11 = .int .i64 k ∧ k ≤ 8 ∧ Aside0 (wr.heap[b]? = some (.cells (Sh.u32s (Sh.some8 s v k)) 36 (0, 0))) ∧ Aside0 (Below w2.heap.size w2 wr)) (fun i _ => 8 - (intOf i).toNat)
   case atStart => exact ⟨0, rfl, by omega, HH, HB7⟩
   case round =>
    clear HH HB7
    obtain ⟨k, rfl, hk, HM, HB7⟩ := hrel
    by_cases hlt : k < 8
    ·have hl8 := Sh.some8_length s v k hk
     obtain ⟨e1, e2⟩ := Sh.some8_at s v k hlt
     have I1 : Aside0 (wr.drew.cell? ⟨b, k, none⟩ = some (.int .u32 (v.list.getD k 0))) := ⟨by rw [← e1]; exact Sh.cellAt (w := wr.drew) HM.out k _ (Sh.u32s_at _ _ (by rw [hl8]; exact hlt))⟩
     have I2 : Aside0 (wr.drew.cell? (ad0.add k) = some (.int .u32 (s.list.getD k 0))) := ⟨by
      obtain ⟨ad', e, hcs⟩ := Kd.at_int (Kd.C_below HC02.out HB7.out) (k : Nat) (by omega) (by omega)
      obtain rfl := Option.some.inj e
      rwa [Sh.rd_nat, Int.toNat_natCast] at hcs⟩
     have CF : Aside0 (wr.drew.frozen? ⟨b, k, none⟩ = false) := ⟨Sh.frozenAt (w := wr.drew) HM.out k⟩
     have E2 := az e2
     have HL8 := az hl8
     clear e1 e2 hl8
     generalize s.list.getD k 0 = y at *
     generalize v.list.getD k 0 = z at *
     go_wp2_with fail
     refine wp_region_noPanic ?_
     refine Rg.s1 13 (fun w' => w'.cell? ⟨b, k, none⟩ = some (.int .u32 z) ∧ w'.cell? (ad0.add k) = some (.int .u32 y)) [12] (⟨I1.out, I2.out⟩) #[false, false, false, false, false, false, false, false, false, false, false, false, false] (fun hHeld => ?_)
     refine Rg.p1 0 (.some 136) ?_
     refine Rg.p1 1 (.some 137) ?_
     refine Rg.p1 2 (.some 138) ?_
     refine Rg.p1 3 (.some 139) ?_
     refine Rg.p1 4 (.some 140) ?_
     refine Rg.t1 5 (.some 141) hHeld ?_ (hy := by intro w' hS'; (obtain ⟨hS0, _⟩ := hS'; go_simp); first | done | with_reducible rfl)
     refine Rg.p1 6 (.some 142) ?_
     refine Rg.p1 7 (.some 143) ?_
     refine Rg.p1 8 (.some 144) ?_
     refine Rg.t1 9 (.some 145) hHeld ?_ (hy := by intro w' hS'; (obtain ⟨_, hS1⟩ := hS'; go_simp); first | done | with_reducible rfl)
     refine Rg.p1 10 (.some 146) ?_
     refine Rg.p1 11 (.some 147) ?_
     refine Rg.l1 12 none (fun K hK => ?_)
     have ct := I1.out
     have cf := CF.out
     refine skip_ (w1 := wr.drew.setCell ⟨b, k, none⟩ (.int .u32 (IntKind.u32.wrap (z + y)))) (by rfl) rfl (by go_simp) ?_
     clear ct cf
     refine hK.out _ _ ?_
     clear hK K
     refine Rg.d1 ?_
     have HM2 : Aside0 ((wr.drew.setCell ⟨b, k, none⟩ (.int .u32 (IntKind.u32.wrap (z + y)))).heap[b]? = some (.cells (Sh.u32s (Sh.some8 s v (k + 1))) 36 (0, 0))) := ⟨by
      have := Sh.row_set (w := wr.drew) HM.out k (.int .u32 (IntKind.u32.wrap (z + y)))
      rw [Sh.u32s_set, E2.out] at this
      exact this⟩
     have HBN : Aside0 (Below w2.heap.size w2 (wr.drew.setCell ⟨b, k, none⟩ (.int .u32 (IntKind.u32.wrap (z + y))))) := ⟨(HB7.out.drew).setCell (p := ⟨b, k, none⟩) HB.out _⟩
     clear HM I1 I2 CF E2 hHeld
     refine NoPanic.normal ?_
     go_wp2_with fail
     exact ⟨⟨k + 1, by go_num, by omega, HM2, HBN⟩, by simp [intOf]; omega⟩
    ·obtain rfl : k = 8 := by omega
     go_wp2_with fail
     go_ret
     refine ⟨_, _, rfl, hc7, ?_, below_then HB2.out HB2.out.size HB7.out⟩
     rw [HCO.out]
     exact Lit.reads_block HM.out .u32 (s.add v).list (by simp [Sh.u32s, Sh.some8, Sh.V.list]) (by rw [Sh.list_length]; decide)
namespace Sh
theorem info8 : (Tryz.prog.info? 5).map (fun i => (i.zero, i.size, i.bytes)) = some (some (.int .u8 0), 1, 1) := by kernel_rfl
structure Rm (w : World) (v : Value) (acc : List Int) (wr : World) : Prop where
  o : wr.heap[w.heap.size]? = some (.cells (u8s (List.replicate 32 0)) 152 (0, 0))
  r : Kd.R (Kd.int .u8) 5 wr w.heap.size (fun k => w.heap.size < k) v acc
  g : Below w.heap.size w wr
theorem Rm.next {w wr w2 : World} {v v1 : Value} {acc acc1 : List Int} (h : Rm w v acc wr) (hr : Kd.R (Kd.int .u8) 5 w2 w.heap.size (fun k => w.heap.size < k) v1 acc1) (hb : Below w.heap.size w w2) (hg : wr.grownBy w2 v.ownBlock) : Rm w v1 acc1 w2 :=
  ⟨(hg.block _ (Array.getElem?_eq_some_iff.1 h.o).1 (fun e => by have := h.r.1 _ e.symm; omega)).trans h.o, hr, hb⟩
theorem Rm.lt {w wr : World} {v : Value} {acc : List Int} (h : Rm w v acc wr) : w.heap.size < wr.heap.size := (Array.getElem?_eq_some_iff.1 h.o).1
theorem C_cut {k : IntKind} {w : World} {A : Option Addr} {n c at_ m : Nat} {xs : List Int} (h : Kd.C (Kd.int k) w A n xs) (hm : at_ + m ≤ n) (h0 : 0 < m) (hc : n ≤ c) :
    Kd.C (Kd.int k) w (if c = at_ then A else A.map (·.add at_)) m ((xs.drop at_).take m) := by
  obtain ⟨h1, h2, h3⟩ := Kd.reads_of_C (d := (0 : Int)) h
  obtain ⟨ad, e, hcell⟩ := h3 (by omega)
  subst e
  rw [if_neg (by omega)]
  refine Kd.C_of_reads (d := 0) ⟨by rw [List.length_take, List.length_drop]; omega, by omega, fun _ => ⟨_, rfl, fun j hj => ?_⟩⟩
  rw [add_add]
  refine (hcell (at_ + j) (by omega)).trans ?_
  rw [List.getD_eq_getElem?_getD, List.getD_eq_getElem?_getD, List.getElem?_take, if_pos hj, List.getElem?_drop]
structure S4 (w3 : World) (L : List Int) (wr : World) : Prop where
  u : wr.heap[w3.heap.size]? = some (.cells (u8s L) 152 (0, 0))
  g : Below w3.heap.size w3 wr
theorem S4.put {w3 : World} {L : List Int} {wr : World} (h : S4 w3 L wr) (k : Nat) (x : Int) : S4 w3 (L.set k x) (wr.setCell ⟨w3.heap.size, k, none⟩ (.int .u8 x)) :=
  ⟨by rw [row_set h.u, u8s_set], h.g.setCell (p := ⟨w3.heap.size, k, none⟩) (Nat.le_refl _) _⟩
theorem cut2_run (w : World) (A : Option Addr) (m c : Nat) (i j : Nat) (hi : i ≤ j) (hj : j ≤ c) :
    (Instr.slice 35 (.slice A m c) (some (.int .i64 i)) (some (.int .i64 j)) none).run Tryz.prog w = .ok (.slice (if c = i then A else A.map (·.add i)) (j - i) (c - i)) w := by
  rw [run_slice_lh w 35 A m c (by kernel_rfl) .i64 .i64 i j (by omega) (by omega) (by omega)]
  rw [show Tryz.prog.elem 35 = 5 by kernel_rfl, show (sizeOf 5).run Tryz.prog w = .ok 1 w by kernel_rfl]
  simp [Result.andThen, sliced]
theorem cut2At_run (w : World) (A : Option Addr) (m c : Nat) (i j : Nat) (hi : i ≤ j) (hj : j ≤ c) :
    (Instr.sliceAt 35 (.slice A m c) (some (.int .i64 i)) (some (.int .i64 j)) none).run Tryz.prog w = .ok (.slice (if c = i then A else A.map (·.add i)) (j - i) (c - i)) w := by
  rw [run_sliceAt_slice w _ _ _ _ _ (by kernel_rfl)]
  exact cut2_run w A m c i j hi hj
theorem be8_at (x : Int) (j : Nat) (hj : j < 8) : (be8 x).take (j + 1) = (be8 x).take j ++ [x / 2 ^ (8 * (7 - j)) % 256] := by
  rw [be8_take x j hj, show 56 - 8 * j = 8 * (7 - j) by omega]
end Sh
theorem refsum_.calls (A : Option Addr) (c : Nat) (l : List Int) (w : World) (hr : Kd.C (Kd.int .u8) w A l.length l) (hc : l.length ≤ c) (hby : Sh.Bytes l) (hlen : l.length ≤ 1099511000000) :
  Calls Tryz.prog 123 #[.slice A l.length c] w fun e w' => e = .returned (.agg (Sh.u8s (Sh.dig l))) ∧ Below w.heap.size w w' := by
 have HR := az hr
 have HBY := az hby
 clear hr hby
 obtain ⟨N, HN⟩ : ∃ N, Aside0 (l.length = N) := ⟨_, ⟨rfl⟩⟩
 have hN : N ≤ 1099511000000 := by rw [← HN.out]; exact hlen
 have hcN : N ≤ c := by rw [← HN.out]; exact hc
 rw [HN.out]
 have HO : Aside0 ((w.alloc (.cells (Sh.u8s (List.replicate 32 0)) 152)).heap[w.heap.size]? = some (.cells (Sh.u8s (List.replicate 32 0)) 152 (0, 0))) := ⟨heap_alloc_new _ _⟩
 have HB0 : Aside0 (Below w.heap.size w (w.alloc (.cells (Sh.u8s (List.replicate 32 0)) 152))) := ⟨below_alloc (Below.refl _ _) _⟩
 have HC0 : Aside0 (Kd.C (Kd.int .u8) (w.alloc (.cells (Sh.u8s (List.replicate 32 0)) 152)) A N l) := ⟨by have := Kd.C_alloc HR.out (.cells (Sh.u8s (List.replicate 32 0)) 152); rwa [HN.out] at this⟩
 have HS0 : Aside0 (w.heap.size < (w.alloc (.cells (Sh.u8s (List.replicate 32 0)) 152)).heap.size) := ⟨by show _ < (w.heap.push _).size; rw [Array.size_push]; omega⟩
 go_enter Tryz.func123, Tryz.ntmps123
 go_wp2_with (first
  | ((with_reducible refine gate_builtin (b := .append) (xs := #[.tmp 10, .tmp 11]) rfl ?_); at_builtin; refine Kd.R_append_rows (Kd.int .u8) (w0 := w) w.heap.size rfl (.tmp 10) (.tmp 11) 35 5 (.int .u8 0) 1 rfl Tryz.underlying35 Sh.info8 rfl (by decide) (by omega) (.slice none 0 0) ([] : List Int) l A N c (fun k => w.heap.size < k) (fun _ => False) rfl rfl (Kd.R_nil _ _ _ _ _) HC0.out (fun _ _ h => h) (fun _ h => h.elim) (fun k hk => Nat.lt_of_lt_of_le HS0.out hk) HB0.out (Nat.le_of_lt HS0.out) (by simp only [List.length_nil]; omega) ?_; intro v1 w1 ho hb hg _; have H1 : Aside0 (Sh.Rm w v1 ([] ++ l) w1) := ⟨⟨(hg.block _ HS0.out (by simp [Value.ownBlock])).trans HO.out, ho, hb⟩⟩; clear ho hb hg)
  | ((with_reducible refine gate_builtin (b := .append) (xs := #[.tmp 13, .tmp 14]) rfl ?_); at_builtin; refine Kd.R_append (Kd.int .u8) (w0 := w) w.heap.size rfl (.tmp 13) (.tmp 14) 35 5 (.int .u8 0) 1 rfl Tryz.underlying35 Sh.info8 rfl (by decide) (by omega) v1 ([] ++ l) 128 [.int .u8 128] (fun k => w.heap.size < k) (fun _ => False) rfl rfl rfl (fun _ h => h.elim) (fun k hk => Nat.lt_of_lt_of_le H1.out.lt hk) H1.out.r H1.out.g (Nat.le_of_lt H1.out.lt) (by rw [List.nil_append, HN.out]; omega) ?_; intro v2 w2 ho hb hg _; have H2 : Aside0 (Sh.Rm w v2 ([] ++ l ++ [128]) w2) := ⟨H1.out.next ho hb hg⟩; clear ho hb hg))
 have HZL : Aside0 (∀ z, (l ++ [128] ++ List.replicate z 0).length = N + 1 + z) := ⟨fun z => by rw [List.length_append, List.length_append, List.length_replicate, HN.out]; rfl⟩
 obtain ⟨A2, c2, hv2⟩ := Kd.R_slice H2.out.r
 subst hv2
 have hl2 : ([] ++ l ++ [(128 : Int)]).length = N + 1 := by rw [List.nil_append, List.length_append, HN.out]; rfl
 have H2' : Aside0 (Sh.Rm w (.slice A2 (N + 1) c2) (l ++ [128] ++ List.replicate 0 0) w2) := ⟨by
  have := H2.out
  rw [hl2] at this
  simpa using this⟩
 rw [hl2]
 clear H2 H1 HO HB0 HC0 HS0 hl2
 go_loopw [3] (fun v3 wr => ∃ (z : Nat) (A3 : Option Addr) (c3 M : Nat), v3 = .slice A3 M c3 ∧ z ≤ Sh.zeros N ∧ Aside0 (M = N + 1 + z) ∧ Aside0 (Sh.Rm w (.slice A3 M c3) (l ++ [128] ++ List.replicate z 0) wr)) (fun v _ => match v with | .slice _ n _ => (120 - n % 64) % 64 | _ => 0)
 case atStart => exact ⟨0, A2, c2, N + 1, rfl, Nat.zero_le _, ⟨rfl⟩, H2'⟩
 case round =>
  clear H2'
  obtain ⟨z, A3, c3, M, rfl, hz, HMN, HM⟩ := hrel
  have hzn : Sh.zeros N = (119 - N % 64) % 64 := rfl
  have hM := HMN.out
  by_cases hlt2 : z < Sh.zeros N
  ·have ht3 : ¬ (M : Int) % 64 = 56 := by omega
   have ht2 : ((M : Int) % 64 != 56) = true := by simpa using ht3
   have HZN := az hzn
   clear hM hzn ht3
   go_wp2_with ((with_reducible refine gate_builtin (b := .append) (xs := #[.tmp 20, .tmp 21]) rfl ?_); at_builtin; refine Kd.R_append (Kd.int .u8) (w0 := w) w.heap.size rfl (.tmp 20) (.tmp 21) 35 5 (.int .u8 0) 1 rfl Tryz.underlying35 Sh.info8 rfl (by decide) (by omega) (.slice A3 M c3) (l ++ [128] ++ List.replicate z 0) 0 [.int .u8 0] (fun k => w.heap.size < k) (fun _ => False) rfl rfl rfl (fun _ h => h.elim) (fun k hk => Nat.lt_of_lt_of_le HM.out.lt hk) HM.out.r HM.out.g (Nat.le_of_lt HM.out.lt) (by rw [HZL.out]; have := HZN.out; omega) ?_; intro v4 w4 ho hb hg _; have H4 : Aside0 (Sh.Rm w v4 ((l ++ [128] ++ List.replicate z 0) ++ [0]) w4) := ⟨HM.out.next ho hb hg⟩; clear ho hb hg)
   obtain ⟨A4, c4, hv4⟩ := Kd.R_slice H4.out.r
   have hl4 : (l ++ [128] ++ List.replicate z 0 ++ [(0 : Int)]).length = M + 1 := by rw [List.length_append, HZL.out, HMN.out]; rfl
   rw [hl4] at hv4
   subst hv4
   have H5 : Aside0 (Sh.Rm w (.slice A4 (M + 1) c4) (l ++ [128] ++ List.replicate (z + 1) 0) w4) := ⟨by rw [List.replicate_succ', ← List.append_assoc]; exact H4.out⟩
   clear H4 HM hl4
   refine ⟨⟨z + 1, A4, c4, M + 1, rfl, by omega, ⟨by rw [HMN.out]; omega⟩, H5⟩, ?_⟩
   show (120 - (M + 1) % 64) % 64 < (120 - M % 64) % 64
   have := HMN.out
   have := HZN.out
   omega
  ·obtain rfl : z = Sh.zeros N := by omega
   have ht : (M : Int) % 64 = 56 := by omega
   clear hM hzn
   go_wp2_with fail
   clear ht
   obtain ⟨P0, HP0⟩ : ∃ P, Aside0 (l ++ [128] ++ List.replicate (Sh.zeros N) 0 = P) := ⟨_, ⟨rfl⟩⟩
   have HPL : Aside0 (P0.length = M) := ⟨by rw [← HP0.out, HZL.out, HMN.out]⟩
   have hMM : M ≤ N + 64 := by have : Sh.zeros N = (119 - N % 64) % 64 := rfl; have := HMN.out; omega
   have HM0 : Aside0 (Sh.Rm w (.slice A3 M c3) (P0 ++ (Sh.be8 (N * 8)).take 0) wr) := ⟨by rw [← HP0.out]; simpa using HM.out⟩
   have HPAD : Aside0 (P0 ++ (Sh.be8 (N * 8)).take 8 = Sh.padded l) := ⟨by
    rw [List.take_of_length_le (by rw [Sh.be8_length]; exact Nat.le_refl _), ← HP0.out, ← HN.out]; rfl⟩
   have HM64 : Aside0 (M % 64 = 56) := ⟨by have : Sh.zeros N = (119 - N % 64) % 64 := rfl; have := HMN.out; omega⟩
   clear HM hz hlt2 HP0 HMN HZL
   go_loopw [5, 3] (fun v5 v3 wr => ∃ (j : Nat) (x : Int) (A3 : Option Addr) (c3 M3 : Nat), v5 = .int .i64 x ∧ Aside0 (x = 7 - (j : Int)) ∧ j ≤ 8 ∧ v3 = .slice A3 M3 c3 ∧ Aside0 (M3 = M + j) ∧ Aside0 (Sh.Rm w (.slice A3 M3 c3) (P0 ++ (Sh.be8 (N * 8)).take j) wr)) (fun v _ _ => (intOf v + 1).toNat)
   case atStart => exact ⟨0, 7, A3, c3, M, rfl, ⟨rfl⟩, by omega, rfl, ⟨rfl⟩, HM0⟩
   case round =>
    clear HM0
    obtain ⟨j, x, A3, c3, M3, rfl, HX, hj, rfl, HM3, HM⟩ := hrel
    by_cases hj8 : j < 8
    ·obtain ⟨i, hi⟩ : ∃ i : Nat, x = (i : Int) := ⟨7 - j, by have := HX.out; omega⟩
     subst hi
     have hi7 : i ≤ 7 := by have := HX.out; omega
     have HIJ : Aside0 (i = 7 - j) := ⟨by have := HX.out; omega⟩
     have HLL : Aside0 ((P0 ++ (Sh.be8 (N * 8)).take j).length = M + j) := ⟨by rw [List.length_append, HPL.out, List.length_take, Sh.be8_length]; omega⟩
     go_wp2_with ((with_reducible refine gate_builtin (b := .append) (xs := #[.tmp 31, .tmp 38]) rfl ?_); at_builtin; refine Kd.R_append (Kd.int .u8) (w0 := w) w.heap.size rfl (.tmp 31) (.tmp 38) 35 5 (.int .u8 0) 1 rfl Tryz.underlying35 Sh.info8 rfl (by decide) (by omega) (.slice A3 M3 c3) (P0 ++ (Sh.be8 (N * 8)).take j) ((N : Int) * 8 / 2 ^ (8 * i) % 256) [.int .u8 ((N : Int) * 8 / 2 ^ (8 * i) % 256)] (fun k => w.heap.size < k) (fun _ => False) rfl rfl rfl (fun _ h => h.elim) (fun k hk => Nat.lt_of_lt_of_le HM.out.lt hk) HM.out.r HM.out.g (Nat.le_of_lt HM.out.lt) (by rw [HLL.out]; omega) ?_; intro v4 w4 ho hb hg _; have H4 : Aside0 (Sh.Rm w v4 ((P0 ++ (Sh.be8 (N * 8)).take j) ++ [((N : Int) * 8 / 2 ^ (8 * i) % 256)]) w4) := ⟨HM.out.next ho hb hg⟩; clear ho hb hg)
     obtain ⟨A4, c4, hv4⟩ := Kd.R_slice H4.out.r
     have hl4 : (P0 ++ (Sh.be8 (N * 8)).take j ++ [(N : Int) * 8 / 2 ^ (8 * i) % 256]).length = M3 + 1 := by rw [List.length_append, HLL.out, HM3.out]; rfl
     rw [hl4] at hv4
     subst hv4
     have H5 : Aside0 (Sh.Rm w (.slice A4 (M3 + 1) c4) (P0 ++ (Sh.be8 (N * 8)).take (j + 1)) w4) := ⟨by
      rw [Sh.be8_at _ _ hj8, ← HIJ.out, ← List.append_assoc]; exact H4.out⟩
     clear H4 HM hl4
     go_wp2_with fail
     refine ⟨⟨j + 1, (i : Int) - 1, A4, c4, M3 + 1, rfl, ⟨by have := HX.out; omega⟩, by omega, rfl, ⟨by rw [HM3.out]; omega⟩, H5⟩, by simp [intOf]⟩
    ·obtain rfl : j = 8 := by omega
     have hx : x = -1 := by have := HX.out; omega
     subst hx
     obtain ⟨p, HPP⟩ : ∃ p, Aside0 (Sh.padded l = p) := ⟨_, ⟨rfl⟩⟩
     have HMp : Aside0 (Sh.Rm w (.slice A3 M3 c3) p wr) := ⟨by rw [← HPP.out, ← HPAD.out]; exact HM.out⟩
     obtain ⟨hpl, hpc, hpC⟩ := Kd.R_reads' HMp.out.r
     have HPBY : Aside0 (Sh.Bytes p) := ⟨by rw [← HPP.out]; exact Sh.padded_bytes l HBY.out⟩
     obtain ⟨K, HK⟩ : ∃ K, Aside0 (M3 = 64 * K) := ⟨M3 / 64, ⟨by have := HM3.out; have := HM64.out; omega⟩⟩
     have hM3 : M3 ≤ 1099511700000 := by have := HM3.out; omega
     rw [← hpl] at hpC
     have HPL3 : Aside0 (p.length = M3) := ⟨hpl.symm⟩
     have HPC := az hpC
     clear hpl hpC HM HPAD HPL HM64 HM3 HX
     obtain ⟨wq, rfl⟩ : ∃ q : World, q = wr := ⟨_, rfl⟩
     have HC6 : Aside0 (Kd.C (Kd.int .u32) (wq.alloc (.cells (Sh.u32s Sh.v0.list) 36)) (some ⟨wq.heap.size, 0, none⟩) 8 (Sh.feed p 0).list) := ⟨Lit.reads_new wq (Sh.u32s Sh.v0.list) 36 (0, 0) .u32 Sh.v0.list (by simp [Sh.u32s]) (by decide)⟩
     have HB6 : Aside0 (Below wq.heap.size wq (wq.alloc (.cells (Sh.u32s Sh.v0.list) 36))) := ⟨below_alloc (Below.refl _ _) _⟩
     go_wp2_with fail
     go_loopw [7, 6] (fun v7 v6 w' => ∃ (k a : Nat) (A6 : Option Addr) (c6 : Nat), v7 = .int .i64 a ∧ Aside0 (a = 64 * k) ∧ k ≤ K ∧ v6 = .slice A6 8 c6 ∧ 8 ≤ c6 ∧ Aside0 (Kd.C (Kd.int .u32) w' A6 8 (Sh.feed p k).list) ∧ Aside0 (Below wq.heap.size wq w')) (fun v _ _ => M3 - (intOf v).toNat)
     case atStart => exact ⟨0, 0, _, 8, rfl, ⟨rfl⟩, Nat.zero_le _, rfl, Nat.le_refl _, HC6, HB6⟩
     case round =>
      clear HC6 HB6
      obtain ⟨k, a, A6, c6, rfl, HA, hk, rfl, hc6, HC6, HB6⟩ := hrel
      by_cases hkK : k < K
      ·have ha : a + 64 ≤ M3 := by have := HK.out; have := HA.out; omega
       have ha2 : a < M3 := by omega
       obtain ⟨A9, HA9⟩ : ∃ A9, Aside0 ((if c3 = a then A3 else A3.map (·.add a)) = A9) := ⟨_, ⟨rfl⟩⟩
       have q1 : ∀ W, (Instr.slice 35 (.slice A3 M3 c3) (some (.int .i64 a)) (some (.int .i64 ((a : Int) + 64))) none).run Tryz.prog W = .ok (.slice A9 64 (c3 - a)) W := fun W => by
        have := Sh.cut2_run W A3 M3 c3 a (a + 64) (by omega) (by omega)
        rw [HA9.out, Nat.add_sub_cancel_left] at this
        exact this
       have q2 : ∀ W, (Instr.sliceAt 35 (.slice A3 M3 c3) (some (.int .i64 a)) (some (.int .i64 ((a : Int) + 64))) none).run Tryz.prog W = .ok (.slice A9 64 (c3 - a)) W := fun W => by
        have := Sh.cut2At_run W A3 M3 c3 a (a + 64) (by omega) (by omega)
        rw [HA9.out, Nat.add_sub_cancel_left] at this
        exact this
       have h64 : ((p.drop a).take 64).length = 64 := by rw [List.length_take, List.length_drop, HPL3.out]; omega
       have HF : Aside0 (Calls Tryz.prog 126 #[.slice A6 8 c6, .slice A9 64 (c3 - a)] wr fun e w' => ∃ (A : Option Addr) (c : Nat), e = .returned (.slice A 8 c) ∧ 8 ≤ c ∧ Kd.C (Kd.int .u32) w' A 8 (Sh.comp (Sh.feed p k) ((p.drop a).take 64)).list ∧ Below wr.heap.size wr w') := ⟨by
        have hC9 := Sh.C_cut (c := c3) (at_ := a) (m := 64) (Kd.C_below HPC.out HB6.out) ha (by decide) hpc
        rw [HA9.out] at hC9
        exact refmore_.calls A6 c6 (Sh.feed p k) A9 (c3 - a) ((p.drop a).take 64) wr HC6.out hc6 h64 (fun x hx => HPBY.out x (List.mem_of_mem_drop (List.mem_of_mem_take hx))) hC9 (by omega)⟩
       clear h64
       go_wp2_with fail
       refine HF.out.mono ?_
       rintro e w5 ⟨A7, c7, rfl, hc7, hC7, hb5⟩
       have HC7 : Aside0 (Kd.C (Kd.int .u32) w5 A7 8 (Sh.feed p (k + 1)).list) := ⟨by rw [Sh.feed, ← HA.out]; exact hC7⟩
       have HB7 : Aside0 (Below wq.heap.size wq w5) := ⟨below_then HB6.out HB6.out.size hb5⟩
       clear hC7 hb5 HF q1 q2
       go_wp2_with fail
       refine ⟨⟨k + 1, a + 64, A7, c7, by go_num, ⟨by rw [HA.out]; omega⟩, by omega, rfl, hc7, HC7, HB7⟩, by simp [intOf]; omega⟩
      ·obtain rfl : k = K := by omega
       have hae : ¬ (a : Int) < M3 := by have := HK.out; have := HA.out; omega
       obtain ⟨st, HST⟩ : ∃ st, Aside0 (Sh.feed p k = st) := ⟨_, ⟨rfl⟩⟩
       rw [HST.out] at HC6
       have HD : Aside0 (Sh.dig l = Sh.outs st) := ⟨by
        rw [Sh.dig, Sh.state, HPP.out, HPL3.out, HK.out, show 64 * k / 64 = k by omega, HST.out]⟩
       obtain ⟨w3, rfl⟩ : ∃ q : World, q = wr := ⟨_, rfl⟩
       have HO3 : Aside0 (w3.heap[w.heap.size]? = some (.cells (Sh.u8s (List.replicate 32 0)) 152 (0, 0))) := ⟨(HB6.out.block _ HMp.out.lt).trans HMp.out.o⟩
       have HB3 : Aside0 (Below w.heap.size w w3) := ⟨below_then HMp.out.g HMp.out.g.size HB6.out⟩
       have HS4 : Aside0 (Sh.S4 w3 ((Sh.outs st).take 0 ++ List.replicate (32 - 0) 0) (w3.alloc (.cells (Sh.u8s (List.replicate 32 0)) 152))) := ⟨⟨heap_alloc_new _ _, below_alloc (Below.refl _ _) _⟩⟩
       obtain ⟨ad, hA6, _⟩ := Kd.at_int HC6.out 0 (by decide) (by decide)
       subst hA6
       clear HB6 HMp HPC HPBY HPL3 HPP HK HA HST
       go_wp2_with fail
       clear hae
       go_loopw [9] (fun v9 wr => ∃ k : Nat, v9 = .int .i64 k ∧ k ≤ 32 ∧ Aside0 (Sh.S4 w3 ((Sh.outs st).take k ++ List.replicate (32 - k) 0) wr)) (fun v _ => 32 - (intOf v).toNat)
       case atStart => exact ⟨0, rfl, by omega, HS4⟩
       case round =>
        clear HS4
        obtain ⟨k, rfl, hk, HM⟩ := hrel
        by_cases hlt4 : k < 32
        ·obtain ⟨ad', e, hcs⟩ := Kd.at_int (Kd.C_below HC6.out HM.out.g) (k / 4 : Nat) (by omega) (by omega)
         obtain rfl := Option.some.inj e
         rw [Sh.rd_nat, Int.toNat_natCast] at hcs
         have hl32 : ((Sh.outs st).take k ++ List.replicate (32 - k) 0).length = 32 := by rw [List.length_append, List.length_take, Sh.outs_length, List.length_replicate]; omega
         have cu := Sh.cellAt HM.out.u k _ (Sh.u8s_at _ k (by rw [hl32]; exact hlt4))
         have fu := Sh.frozenAt HM.out.u k
         clear hl32 e
         generalize ((Sh.outs st).take k ++ List.replicate (32 - k) 0).getD k 0 = old at cu
         go_wp2_with fail
         have HN2 : Aside0 (Sh.S4 w3 ((Sh.outs st).take (k + 1) ++ List.replicate (32 - (k + 1)) 0) (wr.setCell ⟨w3.heap.size, k, none⟩ (.int .u8 (st.list.getD (k / 4) 0 / 2 ^ (24 - k % 4 * 8) % 256)))) := ⟨by
          have := HM.out.put k (st.list.getD (k / 4) 0 / 2 ^ (24 - k % 4 * 8) % 256)
          rwa [Sh.put_next _ 32 k (Sh.outs_length st) hlt4 _ (Sh.outs_at st k hlt4)] at this⟩
         rw [List.getD_eq_getElem?_getD] at HN2
         exact ⟨⟨k + 1, by go_num, by omega, HN2⟩, by simp [intOf]; omega⟩
        ·obtain rfl : k = 32 := by omega
         have hL : (Sh.outs st).take 32 ++ List.replicate (32 - 32) 0 = Sh.outs st := by
          rw [List.take_of_length_le (by rw [Sh.outs_length]; exact Nat.le_refl _)]; simp
         rw [hL] at HM
         clear hL
         have hl32 : (Sh.outs st).length = 32 := Sh.outs_length st
         obtain ⟨D, HDD⟩ : ∃ D, Aside0 (Sh.u8s (Sh.outs st) = D) := ⟨_, ⟨rfl⟩⟩
         have hDs : D.size = 32 := by rw [← HDD.out]; simp [Sh.u8s, hl32]
         have HS : Aside0 ((Tryz.prog.info? 152).map (·.size) = some D.size) := ⟨by rw [hDs]; kernel_rfl⟩
         have HU : Aside0 (wr.heap[w3.heap.size]? = some (.cells D 152 (0, 0))) := ⟨by rw [← HDD.out]; exact HM.out.u⟩
         have HZ2 : Aside0 ((Sh.u8s (List.replicate 32 0)).size = D.size) := ⟨by rw [hDs]; rfl⟩
         have HONE : Aside0 (D.all (·.oneCell') = true) := ⟨by rw [← HDD.out]; simp [Sh.u8s, Value.oneCell']⟩
         have HO : Aside0 (wr.heap[w.heap.size]? = some (.cells (Sh.u8s (List.replicate 32 0)) 152 (0, 0))) := ⟨(HM.out.g.block _ (Array.getElem?_eq_some_iff.1 HO3.out).1).trans HO3.out⟩
         have HGW : Aside0 (Below w.heap.size w wr) := ⟨below_then HB3.out HB3.out.size HM.out.g⟩
         clear hDs hl32
         go_wp2_with (first | (refine wpList_load_row rfl 152 (.tmp 8) rfl w3.heap.size rfl 152 D (0, 0) _ HU.out Tryz.underlying152 rfl HS.out ?_) | (refine wpList_store_row rfl 152 (.tmp 2) (.tmp 72) rfl w.heap.size D rfl rfl 152 _ HO.out HS.out HZ2.out HONE.out ?_))
         refine ⟨rfl, .agg D, ?_, ?_, below_setRow HGW.out (Nat.le_refl _) D⟩
         ·exact results_cell_row rfl _ _ w.heap.size 152 D (0, 0) _ rfl (setRow_heap wr w.heap.size _ D _ _ HO.out) Tryz.underlying152 rfl HS.out
         ·rw [HD.out, HDD.out]
namespace Sh
theorem dig_length (l : List Int) : (dig l).length = 32 := by rw [dig]; exact outs_length _
theorem below_of_gb {w a b : World} {k : Nat} (h : Below w.heap.size w a) (hg : a.grownBy b (some k)) (hk : w.heap.size ≤ k) : Below w.heap.size w b :=
  ⟨hg.os.trans h.os, hg.tape.trans h.tape, hg.output.trans h.output, Nat.le_trans h.size hg.size, fun j hj => (hg.block j (Nat.lt_of_lt_of_le hj h.size) (fun e => by have := Option.some.inj e; omega)).trans (h.block j hj)⟩
theorem Ha.below {w W : World} {b : Nat} {bs rest : List Int} (h : Ha w b bs rest) (hb : Below w.heap.size w W) : Ha W b bs rest :=
  ⟨h.len, h.tl, h.by_, (hb.block _ (Array.getElem?_eq_some_iff.1 h.h).1).trans h.h⟩
theorem far_of_C {w : World} {A : Option Addr} {n : Nat} {l : List Int} (h : Kd.C (Kd.int .u8) w A n l) (hl : 0 < l.length) {a : Addr} (e : A = some a) {b : Nat} (hb : w.heap.size ≤ b) : a.block ≠ b := by
  obtain ⟨h1, _, h3⟩ := Kd.reads_of_C (d := (0 : Int)) h
  obtain ⟨ad, e2, hc⟩ := h3 (by omega)
  obtain rfl := Option.some.inj (e.symm.trans e2)
  have := World.block_lt_of_cell? w _ (hc 0 (by omega))
  rw [add_block] at this
  omega
theorem Ha.lt {w : World} {b : Nat} {bs rest : List Int} (h : Ha w b bs rest) : b < w.heap.size := (Array.getElem?_eq_some_iff.1 h.h).1
end Sh
end Go.Proofs.YtgljicdpcapgnaaGreatDoor
namespace Go.Proofs.YtgljicdpcapgnaaGreatDoor.Sh
open Go.RowKit Go.Proofs.YtgljicdpcapgnaaGreatDoorW.PrintWords
def turn (l : List Int) (t : Int) : List Int := l.map fun x => bits .xor .u8 x t
def kblock (key : List Int) : List Int := if 64 < key.length then dig key ++ List.replicate 32 0 else key ++ List.replicate (64 - key.length) 0
def hm (key b : List Int) : List Int := dig (turn (kblock key) 92 ++ dig (turn (kblock key) 54 ++ b))
def cat (ps : Nat → List Int) : Nat → List Int
  | 0 => []
  | i + 1 => cat ps i ++ ps i
theorem cat_bytes (ps : Nat → List Int) (n : Nat) (h : ∀ i, i < n → Bytes (ps i)) : ∀ i, i ≤ n → Bytes (cat ps i)
  | 0, _ => by intro x hx; cases hx
  | i + 1, hi => by
    intro x hx
    rcases List.mem_append.1 hx with hx | hx
    · exact cat_bytes ps n h i (by omega) x hx
    · exact h i (by omega) x hx
theorem turn_length (l : List Int) (t : Int) : (turn l t).length = l.length := by simp [turn]
theorem turn_bytes (l : List Int) (t : Int) : Bytes (turn l t) := by
  intro x hx
  obtain ⟨y, _, rfl⟩ := List.mem_map.1 hx
  exact ⟨bits_lo_u8 _ _ _, bits_hi_u8 _ _ _⟩
theorem outs_bytes (s : V) : Bytes (outs s) := by
  intro x hx
  simp only [outs, List.mem_map] at hx
  obtain ⟨i, _, rfl⟩ := hx
  omega
theorem dig_bytes (l : List Int) : Bytes (dig l) := outs_bytes _
theorem rep_bytes (n : Nat) : Bytes (List.replicate n 0) := by
  intro x hx
  obtain ⟨_, rfl⟩ := List.mem_replicate.1 hx
  omega
theorem app_bytes {a b : List Int} (ha : Bytes a) (hb : Bytes b) : Bytes (a ++ b) := by
  intro x hx
  rcases List.mem_append.1 hx with h | h
  · exact ha x h
  · exact hb x h
theorem kblock_length (key : List Int) : (kblock key).length = 64 := by
  unfold kblock
  split
  · rw [List.length_append, dig_length, List.length_replicate]
  · rw [List.length_append, List.length_replicate]; omega
theorem kblock_bytes (key : List Int) (h : Bytes key) : Bytes (kblock key) := by
  unfold kblock
  split
  · exact app_bytes (dig_bytes _) (rep_bytes _)
  · exact app_bytes h (rep_bytes _)
def some64 (l : List Int) (t : Int) (k : Nat) : List Int := (turn l t).take k ++ l.drop k
theorem some64_length (l : List Int) (t : Int) (k : Nat) : (some64 l t k).length = l.length := by
  unfold some64; rw [List.length_append, List.length_take, List.length_drop, turn_length]; omega
theorem some64_at (l : List Int) (t : Int) (k : Nat) (hk : k < l.length) : (some64 l t k).getD k 0 = l.getD k 0 ∧ (some64 l t k).set k (bits .xor .u8 (l.getD k 0) t) = some64 l t (k + 1) := by
  have hl : ((turn l t).take k).length = k := by rw [List.length_take, turn_length]; omega
  constructor
  · unfold some64
    rw [List.getD_eq_getElem?_getD, List.getElem?_append_right (by omega), hl, Nat.sub_self, List.getElem?_drop, Nat.add_zero, List.getD_eq_getElem?_getD]
  · unfold some64
    rw [List.set_append_right _ _ (by omega), hl, Nat.sub_self, List.take_add_one, List.drop_eq_getElem_cons hk]
    have : (turn l t)[k]? = some (bits .xor .u8 (l.getD k 0) t) := by
      simp [turn, List.getElem?_map, List.getElem?_eq_getElem hk, List.getD_eq_getElem?_getD]
    rw [this, Option.toList_some, List.append_assoc, List.set_cons_zero]
    rfl
end Go.Proofs.YtgljicdpcapgnaaGreatDoor.Sh
namespace Go.Proofs.YtgljicdpcapgnaaGreatDoor.Ps
open Go.RowKit
abbrev Tk := Int × Int × Bool × Int
abbrev Tn := PBase.S74
def zt : Tk := (0, 0, false, 0)
def be : Nat → Int → List Int
  | 0, _ => []
  | n + 1, x => x / 256 ^ n % 256 :: be n x
def fr (a : Int) (l : List Int) : Int := l.foldl (fun n x => n * 256 + x) a
def num (l : List Int) : Int := fr 0 l
def flag (b : Bool) : Int := if b then 1 else 0
def body (t : Tk) : List Int := 1 :: (be 4 t.1 ++ (be 4 t.2.1 ++ (be 8 t.2.2.2 ++ [flag t.2.2.1])))
def tok (b : List Int) : Tk := (num ((b.drop 1).take 4), num ((b.drop 5).take 4), b.getD 17 0 == 1, num ((b.drop 9).take 8))
def form (b : List Int) : Bool := decide (b.length = 50 ∧ b.getD 0 0 = 1 ∧ b.getD 17 0 ≤ 1)
def sealed (key : List Int) (t : Tk) : List Int := body t ++ Sh.hm key (body t)
def txt (l : List Int) : ByteArray := ⟨(Sp.enc (Sp.bitsOf l)).toArray⟩
def iss (key : List Int) (t : Tk) : ByteArray := txt (sealed key t)
def got (s : ByteArray) : List Int := (Sp.readOf (Sp.bs s)).1
def is (s : ByteArray) : Bool := decide ((Sp.readOf (Sp.bs s)).2 = 0) && form (got s)
def look (s : ByteArray) : Tk × Int := if is s = true then (tok (got s), 0) else (zt, 50)
def find (l : List Tn) (id : Int) : Option Tn := l.find? fun x => x.f0 == id
def verdict (x : Tn) (b : List Int) : Tk × Int :=
  if Sh.hm x.f1 (b.take 18) ≠ b.drop 18 then (zt, 52) else if (tok b).2.1 ∈ x.f4 then (zt, 53) else if (tok b).2.2.2 = 0 ∨ (tok b).2.2.2 > x.f3 then (zt, 54) else (tok b, 0)
def check (l : List Tn) (s : ByteArray) : Tk × Int := if is s = true then (match find l (tok (got s)).1 with | none => (zt, 51) | some x => verdict x (got s)) else (zt, 50)
def good : List Tn → List Tn → Bool
  | _, [] => true
  | acc, x :: xs => ((find acc x.f0).isNone && decide (0 < x.f1.length)) && good (acc ++ [x]) xs
def TnWf (x : Tn) : Prop := (0 ≤ x.f0 ∧ x.f0 < 4294967296) ∧ x.f1.length ≤ 1000 ∧ x.f4.length ≤ 1000 ∧ Sh.Bytes x.f1
def TkWf (t : Tk) : Prop := (0 ≤ t.1 ∧ t.1 < 4294967296) ∧ (0 ≤ t.2.1 ∧ t.2.1 < 4294967296) ∧ (0 ≤ t.2.2.2 ∧ t.2.2.2 < 18446744073709551616)
theorem be_len : ∀ (n : Nat) (x : Int), (be n x).length = n
  | 0, _ => rfl
  | n + 1, x => by simp [be, be_len n x]
theorem be_bytes : ∀ (n : Nat) (x : Int), Sh.Bytes (be n x)
  | 0, _ => fun y h => by cases h
  | n + 1, x => fun y h => by
    rcases List.mem_cons.1 h with rfl | h
    · omega
    · exact be_bytes n x y h
theorem fr_append (a : Int) (l m : List Int) : fr a (l ++ m) = fr (fr a l) m := List.foldl_append
theorem fr_is (l : List Int) : ∀ a, fr a l = a * 256 ^ l.length + fr 0 l := by
  induction l with
  | nil => intro a; simp [fr]
  | cons c r ih =>
    intro a
    have h1 : fr a (c :: r) = fr (a * 256 + c) r := rfl
    have h2 : fr 0 (c :: r) = fr (0 * 256 + c) r := rfl
    rw [h1, h2, ih, ih (0 * 256 + c), List.length_cons, Int.pow_succ]
    rw [Int.add_mul, Int.add_mul]
    have : a * 256 * 256 ^ r.length = a * (256 ^ r.length * 256) := by rw [Int.mul_assoc, Int.mul_comm 256]
    rw [this]
    omega
theorem pow_pos (n : Nat) : (0 : Int) < 256 ^ n := Int.pow_pos (by decide)
theorem pow_mono (m n : Nat) (h : m ≤ n) : (256 : Int) ^ m ≤ 256 ^ n := by
  rw [show (256 : Int) = ((256 : Nat) : Int) from rfl, ← Int.natCast_pow, ← Int.natCast_pow]
  exact Int.ofNat_le.2 (Nat.pow_le_pow_right (by decide) h)
theorem num_range (l : List Int) (h : Sh.Bytes l) : 0 ≤ num l ∧ num l < 256 ^ l.length := by
  induction l with
  | nil => simp [num, fr]
  | cons c r ih =>
    have hc := h c List.mem_cons_self
    have ih := ih fun x hx => h x (List.mem_cons_of_mem _ hx)
    unfold num at ih ⊢
    have h1 : fr 0 (c :: r) = fr (0 * 256 + c) r := rfl
    rw [h1, fr_is, Int.zero_mul, Int.zero_add, List.length_cons, Int.pow_succ]
    have p := pow_pos r.length
    have q0 : 0 ≤ c * 256 ^ r.length := Int.mul_nonneg hc.1 (by omega)
    have q1 : c * 256 ^ r.length ≤ 255 * 256 ^ r.length := Int.mul_le_mul_of_nonneg_right hc.2 (by omega)
    omega
theorem be_fr (l : List Int) : ∀ a, Sh.Bytes l → be l.length (fr a l) = l := by
  induction l with
  | nil => intro a _; rfl
  | cons c r ih =>
    intro a h
    have hc := h c List.mem_cons_self
    have hr : Sh.Bytes r := fun x hx => h x (List.mem_cons_of_mem _ hx)
    have h1 : fr a (c :: r) = fr (a * 256 + c) r := rfl
    have hn := num_range r hr
    have p := pow_pos r.length
    rw [List.length_cons, be, h1, ih _ hr]
    congr 1
    rw [fr_is, Int.add_comm, Int.add_mul_ediv_right _ _ (by omega), show fr 0 r = num r from rfl, Int.ediv_eq_zero_of_lt hn.1 hn.2]
    omega
theorem be_num (l : List Int) (n : Nat) (hn : l.length = n) (h : Sh.Bytes l) : be n (num l) = l := by subst hn; exact be_fr l 0 h
theorem body_len (t : Tk) : (body t).length = 18 := by simp [body, be_len]
theorem flag_range (b : Bool) : 0 ≤ flag b ∧ flag b ≤ 1 := by cases b <;> simp [flag]
theorem body_bytes (t : Tk) : Sh.Bytes (body t) := by
  intro x hx
  unfold body at hx
  rcases List.mem_cons.1 hx with rfl | hx
  · omega
  rcases List.mem_append.1 hx with hx | hx
  · exact be_bytes _ _ x hx
  rcases List.mem_append.1 hx with hx | hx
  · exact be_bytes _ _ x hx
  rcases List.mem_append.1 hx with hx | hx
  · exact be_bytes _ _ x hx
  · have := flag_range t.2.2.1
    rw [List.mem_singleton.1 hx]; omega
theorem hm_len (k b : List Int) : (Sh.hm k b).length = 32 := Sh.dig_length _
theorem hm_bytes (k b : List Int) : Sh.Bytes (Sh.hm k b) := Sh.dig_bytes _
theorem sealed_bytes (k : List Int) (t : Tk) : Sh.Bytes (sealed k t) := Sh.app_bytes (body_bytes t) (hm_bytes _ _)
theorem sealed_drop (k : List Int) (t : Tk) : (sealed k t).drop 18 = Sh.hm k (body t) := by rw [sealed, List.drop_left' (body_len t)]
theorem one_take (b : List Int) (i : Nat) (h : i < b.length) : (b.drop i).take 1 = [b.getD i 0] := by
  rw [List.drop_eq_getElem_cons h, List.take_succ_cons, List.take_zero, List.getD_eq_getElem?_getD, List.getElem?_eq_getElem h]
  rfl
theorem take18 (b : List Int) (h : 18 ≤ b.length) : b.take 18 = b.getD 0 0 :: ((b.drop 1).take 4 ++ ((b.drop 5).take 4 ++ ((b.drop 9).take 8 ++ [b.getD 17 0]))) := by
  have h0 : b.take 1 = [b.getD 0 0] := one_take b 0 (by omega)
  rw [← one_take b 17 (by omega), show (18 : Nat) = 1 + 17 from rfl, List.take_add, h0, show (17 : Nat) = 4 + 13 from rfl, List.take_add, List.drop_drop, show (13 : Nat) = 4 + 9 from rfl, List.take_add, List.drop_drop, show (9 : Nat) = 8 + 1 from rfl, List.take_add, List.drop_drop]
  rfl
theorem body_tok (b : List Int) (hb : Sh.Bytes b) (h : form b = true) : body (tok b) = b.take 18 := by
  unfold form at h
  rw [decide_eq_true_eq] at h
  obtain ⟨hl, h0, h17⟩ := h
  have hsub : ∀ i n, Sh.Bytes ((b.drop i).take n) := fun i n x hx => hb x (List.mem_of_mem_drop (List.mem_of_mem_take hx))
  have hlen : ∀ i n, i + n ≤ 50 → ((b.drop i).take n).length = n := fun i n hin => by rw [List.length_take, List.length_drop]; omega
  have h17b : 0 ≤ b.getD 17 0 := by
    rw [List.getD_eq_getElem?_getD, List.getElem?_eq_getElem (by omega)]
    exact (hb _ (List.getElem_mem _)).1
  rw [take18 b (by omega), h0]
  unfold body tok
  simp only
  rw [be_num _ 4 (hlen 1 4 (by omega)) (hsub _ _), be_num _ 4 (hlen 5 4 (by omega)) (hsub _ _), be_num _ 8 (hlen 9 8 (by omega)) (hsub _ _)]
  congr 4
  rcases (show b.getD 17 0 = 0 ∨ b.getD 17 0 = 1 by omega) with h | h <;> rw [h] <;> rfl
theorem txt_inj (a b : List Int) (ha : Sh.Bytes a) (hb : Sh.Bytes b) (h : txt a = txt b) : a = b := by
  have h1 : Sp.enc (Sp.bitsOf a) = Sp.enc (Sp.bitsOf b) := by
    have := congrArg (fun s => s.data.toList) h
    simpa [txt] using this
  have r1 := Sp.read_written a ha
  rw [h1, Sp.read_written b hb] at r1
  exact (congrArg Prod.fst r1).symm
theorem got_of (s : ByteArray) (h : is s = true) : form (got s) = true ∧ Sh.Bytes (got s) ∧ s = txt (got s) := by
  unfold is at h
  rw [Bool.and_eq_true, decide_eq_true_eq] at h
  obtain ⟨h1, h2⟩ := h
  obtain ⟨a, b, c⟩ := Sp.readOf_ok s h1
  refine ⟨h2, b, ?_⟩
  unfold txt got
  rw [a]
theorem same_iss (k : List Int) (s : ByteArray) (h : is s = true) : iss k (tok (got s)) = s ↔ Sh.hm k ((got s).take 18) = (got s).drop 18 := by
  obtain ⟨h1, h2, h3⟩ := got_of s h
  have hb := body_tok _ h2 h1
  constructor
  · intro e
    have e2 : sealed k (tok (got s)) = got s := txt_inj _ _ (sealed_bytes _ _) h2 (by rw [← h3]; exact e)
    have := congrArg (List.drop 18) e2
    rwa [sealed_drop, hb] at this
  · intro e
    unfold iss
    rw [sealed, hb, e, List.take_append_drop, ← h3]
theorem tok_wf (b : List Int) (hb : Sh.Bytes b) : TkWf (tok b) := by
  have hsub : ∀ i n, Sh.Bytes ((b.drop i).take n) := fun i n x hx => hb x (List.mem_of_mem_drop (List.mem_of_mem_take hx))
  have key : ∀ i n, 0 ≤ num ((b.drop i).take n) ∧ num ((b.drop i).take n) < 256 ^ n := fun i n => by
    have h1 := num_range _ (hsub i n)
    have h2 : ((b.drop i).take n).length ≤ n := by rw [List.length_take]; exact Nat.min_le_left _ _
    have h3 : (256 : Int) ^ ((b.drop i).take n).length ≤ 256 ^ n := by
      exact pow_mono _ _ h2
    omega
  have k1 := key 1 4
  have k2 := key 5 4
  have k3 := key 9 8
  rw [show (256 : Int) ^ 4 = 4294967296 by decide] at k1 k2
  rw [show (256 : Int) ^ 8 = 18446744073709551616 by decide] at k3
  exact ⟨k1, k2, k3⟩
end Go.Proofs.YtgljicdpcapgnaaGreatDoor.Ps
namespace Go.Proofs.YtgljicdpcapgnaaGreatDoor.Wk
open Go.RowKit Go.Proofs.YtgljicdpcapgnaaGreatDoorW.PrintWords Go.Proofs.YtgljicdpcapgnaaGreatDoorW.PrintLast
structure Blk (w : World) (g : Nat) (t : TypeId) (cs : List Value) : Prop where mk :: (out : w.heap[g]? = some (.cells cs.toArray t (0, 0)))
structure Only (w w' : World) (g : Nat) : Prop where
  os : w'.os = w.os
  tape : w'.tape = w.tape
  output : w'.output = w.output
  size : w'.heap.size = w.heap.size
  block : ∀ k, k ≠ g → w'.heap[k]? = w.heap[k]?
section
variable {w w' w0 : World} {g : Nat} {t : TypeId} {cs : List Value}
theorem Blk.lt (h : Blk w g t cs) : g < w.heap.size := (Array.getElem?_eq_some_iff.1 h.out).1
theorem Blk.cell (h : Blk w g t cs) (i : Nat) : w.cell? ⟨g, i, none⟩ = cs[i]? := by rw [cell_of_row w g i _ t (0, 0) h.out]; simp
theorem Blk.at_ (h : Blk w g t cs) (i : Nat) {v : Value} (hv : cs[i]? = some v) : w.cell? ⟨g, i, none⟩ = some v := (h.cell i).trans hv
theorem Blk.frozen (h : Blk w g t cs) (i : Nat) : w.frozen? ⟨g, i, none⟩ = false := blk_frozen h.out i
theorem Blk.new (w : World) (t : TypeId) (cs : List Value) : Blk (w.alloc (.cells cs.toArray t)) w.heap.size t cs := ⟨heap_alloc_new w _⟩
theorem Blk.alloc (h : Blk w g t cs) (o : Obj) : Blk (w.alloc o) g t cs := ⟨(Below.heap_alloc w o g h.lt).trans h.out⟩
theorem Blk.drew (h : Blk w g t cs) : Blk w.drew g t cs := ⟨h.out⟩
theorem Blk.below {B : Nat} (h : Blk w g t cs) (hb : Below B w w') (hg : g < B) : Blk w' g t cs := ⟨(hb.block g hg).trans h.out⟩
theorem Blk.below_ (h : Blk w g t cs) (hb : Below w.heap.size w w') : Blk w' g t cs := h.below hb h.lt
theorem Blk.grown {row : Option Nat} (h : Blk w g t cs) (hb : w.grownBy w' row) (hg : some g ≠ row) : Blk w' g t cs := ⟨(hb.block g h.lt hg).trans h.out⟩
theorem Blk.only {g' : Nat} (h : Blk w g t cs) (hb : Only w w' g') (hg : g ≠ g') : Blk w' g t cs := ⟨(hb.block g hg).trans h.out⟩
theorem Blk.ne_ {g' : Nat} {t' : TypeId} {cs' : List Value} (h : Blk w g t cs) (h' : Blk w g' t' cs') (hne : t ≠ t') : g ≠ g' := blk_ne h.out h'.out hne
theorem Only.grown (h : Only w w' g) : w.grownBy w' (some g) := ⟨h.os, h.tape, h.output, Nat.le_of_eq h.size.symm, fun k _ hk => h.block k (fun e => hk (by rw [e]))⟩
theorem Only.below {B : Nat} (hB : Below B w0 w) (h : Only w w' g) (hg : B ≤ g) : Below B w0 w' :=
  hB.trans ⟨h.os, h.tape, h.output, Nat.le_of_eq h.size.symm, fun k hk => h.block k (by omega)⟩
theorem only_setCells (w : World) (g off : Nat) (vs : List Value) : Only w (w.setCells g off vs) g :=
  ⟨(setCells_same g vs off w).1, (setCells_same g vs off w).2.1, (setCells_same g vs off w).2.2.1, (setCells_same g vs off w).2.2.2, fun k hk => setCells_far vs off k hk⟩
theorem Only.fresh {B : Nat} {o : Obj} (hB : Below B w0 w) (hBs : B ≤ w.heap.size) (h : Only (w.alloc o) w' w.heap.size) : w'.heap.size = w.heap.size + 1 ∧ Below B w0 w' ∧ Below w.heap.size w w' := by
  refine ⟨by rw [h.size]; simp, Only.below (hB.alloc hBs o) h hBs, Only.below ((Below.refl _ _).alloc (Nat.le_refl _) o) h (Nat.le_refl _)⟩
def over (cs : List Value) (off : Nat) (vs : List Value) : List Value := cs.take off ++ vs ++ cs.drop (off + vs.length)
theorem over_all (cs vs : List Value) (h : vs.length = cs.length) : over cs 0 vs = vs := by
  unfold over
  rw [Nat.zero_add, h, List.drop_length]
  simp
theorem blk_setCells (h : Blk w g t cs) (off : Nat) (vs : List Value) (hl : off + vs.length ≤ cs.length) : Blk (w.setCells g off vs) g t (over cs off vs) := by
  obtain ⟨cur, h1, _, h3⟩ := setCells_row vs off w _ h.out (by simpa using hl)
  refine ⟨h1.trans ?_⟩
  have : cur = (over cs off vs).toArray := by
    apply Array.ext'
    rw [h3]
    simp [over]
  rw [this]
end
section
variable {P : Program} {ops : Array Oper} {rest : List Oper} {o : Oper} {a : Act} {w : World} {Q : Exit → Act → World → Prop} {K : Act → World → Prop}
theorem run_store (t : TypeId) (g off : Nat) (u : Value) (seg : List Value) (e : TypeId) (cur : List Value) (hh : Blk w g e cur) (hu : u.cells.toList = seg) (ht : (P.info? t).map (·.size) = some seg.length) (hfit : off + seg.length ≤ cur.length) (h1 : seg.all (·.oneCell') = true) :
    (Instr.storeAt t (.pointer (some ⟨g, off, none⟩)) u).run P w = .ok () (w.setCells g off seg) :=
  run_store_run t u seg hh.out hu ht (by simpa using hfit) (List.all_eq_true.1 h1)
theorem wp_store (hN : o.dst = none) (t : TypeId) (p x : Operand) (ho : o.op = .store t p x) (g off : Nat) (u : Value) (seg : List Value) (hp : a.eval p = .pointer (some ⟨g, off, none⟩)) (hx : a.eval x = u) (hu : u.cells.toList = seg)
    (e : TypeId) (cur : List Value) (hh : Blk w g e cur) (ht : (P.info? t).map (·.size) = some seg.length) (hfit : off + seg.length ≤ cur.length) (h1 : seg.all (·.oneCell') = true)
    (h : ∀ w', Blk w' g e (over cur off seg) → Only w w' g → K a w') : o.wp P a w K Q := by
  unfold Oper.wp execOp
  simp only [ho, hp, hx, Sem.run_bind, Sem.run_pure, Result.andThen_ok, run_store t g off u seg e cur hh hu ht hfit h1]
  show K (a.put o.dst undef) _
  rw [hN]
  exact h _ (blk_setCells hh off seg hfit) (only_setCells w g off seg)
theorem store (hgd : o.guard = none) (hN : o.dst = none) (t : TypeId) (p x : Operand) (ho : o.op = .store t p x) (g off : Nat) (u : Value) (seg : List Value) (hp : a.eval p = .pointer (some ⟨g, off, none⟩)) (hx : a.eval x = u) (hu : u.cells.toList = seg)
    (e : TypeId) (cur : List Value) (hh : Blk w g e cur) (ht : (P.info? t).map (·.size) = some seg.length) (hfit : off + seg.length ≤ cur.length) (h1 : seg.all (·.oneCell') = true)
    (h : ∀ w', Blk w' g e (over cur off seg) → Only w w' g → wpList P ops Q rest a w') : wpList P ops Q (o :: rest) a w :=
  wpList_plain hgd fun K hK => wp_store hN t p x ho g off u seg hp hx hu e cur hh ht hfit h1 (fun w' h2 h3 => hK _ _ (h w' h2 h3))
theorem store_all (hgd : o.guard = none) (hN : o.dst = none) (t : TypeId) (p x : Operand) (ho : o.op = .store t p x) (g : Nat) (seg : List Value) (hp : a.eval p = .pointer (some ⟨g, 0, none⟩)) (hx : a.eval x = .agg seg.toArray)
    (e : TypeId) (cur : List Value) (hh : Blk w g e cur) (ht : (P.info? t).map (·.size) = some seg.length) (hfit : seg.length = cur.length) (h1 : seg.all (·.oneCell') = true)
    (h : ∀ w', Blk w' g e seg → Only w w' g → wpList P ops Q rest a w') : wpList P ops Q (o :: rest) a w :=
  store hgd hN t p x ho g 0 _ seg hp hx (by simp [Value.cells]) e cur hh ht (by omega) h1 (fun w' h2 h3 => h w' (by rw [over_all cur seg hfit] at h2; exact h2) h3)
theorem store_all_step {N : Option Tmp} (hw : Region.wanted o (yielded ops a.tmps) = true) (hN : o.dst = none) (t : TypeId) (p x : Operand) (ho : o.op = .store t p x) (g : Nat) (seg : List Value) (hp : a.eval p = .pointer (some ⟨g, 0, none⟩)) (hx : a.eval x = .agg seg.toArray)
    (e : TypeId) (cur : List Value) (hh : Blk w g e cur) (ht : (P.info? t).map (·.size) = some seg.length) (hfit : seg.length = cur.length) (h1 : seg.all (·.oneCell') = true)
    (h : ∀ w', Blk w' g e seg → Only w w' g → K a w') : if Region.wanted o (yielded ops a.tmps) = true then Oper.wp P o a w K Q else K (a.put N undef) w := by
  rw [if_pos hw]
  exact wp_store hN t p x ho g 0 _ seg hp hx (by simp [Value.cells]) e cur hh ht (by omega) h1 (fun w' h2 h3 => h w' (by rw [over_all cur seg hfit] at h2; exact h2) h3)
theorem store_step {N : Option Tmp} (hw : Region.wanted o (yielded ops a.tmps) = true) (hN : o.dst = none) (t : TypeId) (p x : Operand) (ho : o.op = .store t p x) (g off : Nat) (u : Value) (seg : List Value) (hp : a.eval p = .pointer (some ⟨g, off, none⟩)) (hx : a.eval x = u) (hu : u.cells.toList = seg)
    (e : TypeId) (cur : List Value) (hh : Blk w g e cur) (ht : (P.info? t).map (·.size) = some seg.length) (hfit : off + seg.length ≤ cur.length) (h1 : seg.all (·.oneCell') = true)
    (h : ∀ w', Blk w' g e (over cur off seg) → Only w w' g → K a w') : if Region.wanted o (yielded ops a.tmps) = true then Oper.wp P o a w K Q else K (a.put N undef) w := by
  rw [if_pos hw]
  exact wp_store hN t p x ho g off u seg hp hx hu e cur hh ht hfit h1 h
theorem run_load (t : TypeId) (g off : Nat) (seg : List Value) (d : TypeDesc) (hc : ∀ j v, seg[j]? = some v → w.cell? ⟨g, off + j, none⟩ = some v) (hu : P.underlying t = some d) (hd : (match d with | .struct _ | .array _ _ => true | _ => false) = true) (ht : (P.info? t).map (·.size) = some seg.length) :
    (Instr.loadAt t (.pointer (some ⟨g, off, none⟩))).run P w = .ok (.agg seg.toArray) w := by
  obtain ⟨i, hi, hsz⟩ := Option.map_eq_some_iff.1 ht
  have hl : (loadCells ⟨g, off, none⟩ seg.length).run P w = .ok seg.toArray w :=
    run_loadCells_list (P := P) w ⟨g, off, none⟩ seg (fun j v hv => by
      have hadd : (⟨g, off, none⟩ : Addr).add j = ⟨g, off + j, none⟩ := by unfold Addr.add; split <;> simp_all
      rw [hadd]
      exact hc j v hv)
  have hagg : (isAgg t).run P w = .ok true w := by
    unfold isAgg
    rw [Sem.run_bind, run_underlying hu w]
    cases d <;> simp_all
  simp [Instr.loadAt, Instr.sureAddr, loadVar, Sem.run_bind, hagg, sizeOf, typeInfo, hi, hsz, hl]
theorem run_load_blk (t : TypeId) (g off : Nat) (seg : List Value) (d : TypeDesc) {e : TypeId} {cur : List Value} (hh : Blk w g e cur) (hseg : (cur.drop off).take seg.length = seg) (hu : P.underlying t = some d) (hd : (match d with | .struct _ | .array _ _ => true | _ => false) = true) (ht : (P.info? t).map (·.size) = some seg.length) :
    (Instr.loadAt t (.pointer (some ⟨g, off, none⟩))).run P w = .ok (.agg seg.toArray) w := by
  refine run_load t g off seg d (fun j v hv => ?_) hu hd ht
  rw [hh.cell]
  rw [← hseg] at hv
  have hj : j < seg.length := by
    rcases Nat.lt_or_ge j seg.length with h | h
    · exact h
    · rw [List.getElem?_take, if_neg (by omega)] at hv; cases hv
  rw [List.getElem?_take, if_pos hj, List.getElem?_drop] at hv
  exact hv
theorem wp_load (t : TypeId) (p : Operand) (ho : o.op = .load t p) (v pv : Value) (hp : a.eval p = pv) (hrun : (Instr.loadAt t pv).run P w = .ok v w)
    (h : K (a.put o.dst v) w) : o.wp P a w K Q := by
  unfold Oper.wp execOp
  simp only [ho, hp, Sem.run_bind, Sem.run_pure, Result.andThen_ok, hrun]
  exact h
theorem exec_load (t : TypeId) (p : Operand) (ho : o.op = .load t p) (v pv : Value) (hp : a.eval p = pv) (hrun : (Instr.loadAt t pv).run P w = .ok v w) : (execOp a.eval o).run P w = .ok (.value v) w := by
  unfold execOp
  simp only [ho, hp, Sem.run_bind, Sem.run_pure, Result.andThen_ok, hrun]
theorem load (hgd : o.guard = none) (t : TypeId) (p : Operand) (ho : o.op = .load t p) (v pv : Value) (hp : a.eval p = pv) (hrun : (Instr.loadAt t pv).run P w = .ok v w)
    (h : wpList P ops Q rest (a.put o.dst v) w) : wpList P ops Q (o :: rest) a w :=
  wpList_plain hgd fun K hK => wp_load t p ho v pv hp hrun (hK _ _ h)
theorem res_c {fn : Func} {p : Tmp} {ty : TypeId} (h : fn.results = #[.cell p ty]) (tmps : Array Value) (g : Nat) (t : TypeId) (cs : List Value) (d : TypeDesc) (hp : tmps.getD p undef = .pointer (some ⟨g, 0, none⟩)) (hg : Blk w g t cs)
    (hu : P.underlying ty = some d) (hd : (match d with | .struct _ | .array _ _ => true | _ => false) = true) (hi : (P.info? ty).map (·.size) = some cs.length) : (results fn tmps).run P w = .ok (.agg cs.toArray) w :=
  results_cell_row h tmps w g t cs.toArray (0, 0) d hp hg.out hu hd (by simpa using hi)
theorem res_ct {fn : Func} {p u : Tmp} {ty : TypeId} (h : fn.results = #[.cell p ty, .tmp u]) (tmps : Array Value) (g : Nat) (t : TypeId) (cs : List Value) (d : TypeDesc) (hp : tmps.getD p undef = .pointer (some ⟨g, 0, none⟩)) (hg : Blk w g t cs)
    (hu : P.underlying ty = some d) (hd : (match d with | .struct _ | .array _ _ => true | _ => false) = true) (hi : (P.info? ty).map (·.size) = some cs.length) : (results fn tmps).run P w = .ok (.tuple #[.agg cs.toArray, tmps.getD u undef]) w :=
  results_ct h tmps w g t cs.toArray (0, 0) d hp hg.out hu hd (by simpa using hi)
theorem res_ctt {fn : Func} {p u v : Tmp} {ty : TypeId} (h : fn.results = #[.cell p ty, .tmp u, .tmp v]) (tmps : Array Value) (g : Nat) (t : TypeId) (cs : List Value) (d : TypeDesc) (hp : tmps.getD p undef = .pointer (some ⟨g, 0, none⟩)) (hg : Blk w g t cs)
    (hu : P.underlying ty = some d) (hd : (match d with | .struct _ | .array _ _ => true | _ => false) = true) (hi : (P.info? ty).map (·.size) = some cs.length) : (results fn tmps).run P w = .ok (.tuple #[.agg cs.toArray, tmps.getD u undef, tmps.getD v undef]) w :=
  results_ctt h tmps w g t cs.toArray (0, 0) d hp hg.out hu hd (by simpa using hi)
end
theorem R_only {α : Type} {d : Kd α} {e : Nat} {w w' : World} {base : Nat} {ok : Nat → Prop} {v : Value} {xs : List α} {g : Nat} {t : TypeId} {cs : List Value} (h : d.R e w base ok v xs) (hb : Blk w g t cs) (ht : ∀ q, q ∈ e :: d.E → q ≠ t) (hO : Only w w' g) : d.R e w' base ok v xs :=
  Kd.R_mono (Kd.R_grown (Kd.R_types h hb.out ht) hO.grown (fun k hk he => hk.2 (by injection he))) (fun _ hk => hk.1)
section
variable {P : Program}
theorem cut_mid_ (t e : TypeId) (kl kh : IntKind) (ht : P.underlying t = some (.slice e)) (hi : (P.info? e).map (·.size) = some 1) (k : IntKind) (A : Option Addr) (c : Nat) (l : List Int) (lo' hi' : Int) (lo h : Nat) (e1 : lo' = lo) (e2 : hi' = h) (h1 : lo ≤ h) (h2 : h ≤ l.length) (hc : l.length ≤ c) :
    ∃ A' : Option Addr, (∀ W : World, (Instr.slice t (.slice A l.length c) (some (.int kl lo')) (some (.int kh hi')) none).run P W = .ok (.slice A' (h - lo) (c - lo)) W) ∧
      ((l.drop lo).take (h - lo)).length = h - lo ∧ ∀ W : World, Kd.C (Kd.int k) W A l.length l → Kd.C (Kd.int k) W A' (h - lo) ((l.drop lo).take (h - lo)) := by
  subst e1; subst e2
  obtain ⟨i, hi1, hsz⟩ := Option.map_eq_some_iff.1 hi
  have hl : ((l.drop lo).take (h - lo)).length = h - lo := by rw [List.length_take, List.length_drop]; omega
  refine ⟨if c = lo then A else A.map (·.add (lo * 1)), fun W => ?_, hl, fun W hC => ?_⟩
  · have := cut_mid (P := P) t e kl kh ht hi1 1 hsz A l.length c (lo : Int) (h : Int) (by omega) (by omega) (by omega) hc W
    simpa using this
  · have := Kd.C_mid (lo := lo) (hi := h) (c := c) hC h1 h2 hc
    rw [List.drop_take] at this
    rw [hl] at this
    exact this
theorem cut_from_ (t e : TypeId) (kl : IntKind) (ht : P.underlying t = some (.slice e)) (hi : (P.info? e).map (·.size) = some 1) (k : IntKind) (A : Option Addr) (c : Nat) (l : List Int) (lo' : Int) (lo : Nat) (e1 : lo' = lo) (h1 : lo ≤ l.length) (hc : l.length ≤ c) :
    ∃ A' : Option Addr, (∀ W : World, (Instr.slice t (.slice A l.length c) (some (.int kl lo')) none none).run P W = .ok (.slice A' (l.length - lo) (c - lo)) W) ∧
      ∀ W : World, Kd.C (Kd.int k) W A l.length l → Kd.C (Kd.int k) W A' (l.drop lo).length (l.drop lo) := by
  subst e1
  obtain ⟨i, hi1, hsz⟩ := Option.map_eq_some_iff.1 hi
  refine ⟨if c = lo then A else A.map (·.add (lo * 1)), fun W => ?_, fun W hC => Kd.C_drop (c := c) hC h1 hc⟩
  have := cut_from (P := P) t e kl ht hi1 1 hsz A l.length c (lo : Int) (by omega) (by omega) W
  simpa using this
theorem cut_to_ (t e : TypeId) (kh : IntKind) (ht : P.underlying t = some (.slice e)) (hi : (P.info? e).map (·.size) = some 1) (A : Option Addr) (c : Nat) (l : List Int) (hi' : Int) (h : Nat) (e2 : hi' = h) (h2 : h ≤ l.length) (hc : l.length ≤ c) :
    ∀ W : World, (Instr.slice t (.slice A l.length c) none (some (.int kh hi')) none).run P W = .ok (.slice A h c) W := by
  subst e2
  obtain ⟨i, hi1, hsz⟩ := Option.map_eq_some_iff.1 hi
  intro W
  have := cut_to (P := P) t e kh ht hi1 A l.length c (h : Int) (by omega) (by omega) hc W
  simpa using this
end
section
variable {P : Program} {ops : Array Oper} {o : Oper} {a : Act} {w : World} {Q : Exit → Act → World → Prop} {K : Act → World → Prop}
theorem cast_ {w w' : World} {rest : List Oper} (e : w = w') (h : wpList P ops Q rest a w') : wpList P ops Q rest a w := by rw [e]; exact h
end
end Go.Proofs.YtgljicdpcapgnaaGreatDoor.Wk
namespace Go.Proofs.YtgljicdpcapgnaaGreatDoor
open Go.RowKit Go.Proofs.YtgljicdpcapgnaaGreatDoorW.PrintWords
def Opens {α : Type} (P : Program) (t : TypeId) (d : Kd α) (Wf : α → Prop) : Prop :=
  ∀ {H : Type} (enc : TypeId × Value → H) (w : World) (base : Nat) (spare : Nat → Bool) (held : Bool) (fuel : Nat) (cs : List Value) (x : DataW H × List MemPlace), DataW.trod enc P w base spare held fuel t cs = some x → ∃ a, d.K w a cs ∧ Wf a
section
variable {P : Program}
theorem opens_int {t : TypeId} {k : IntKind} (ht : P.underlying t = some (.int k)) : Opens P t (Kd.int k) (fun n => (Lit.int k n).wf = true) := by
  intro H enc w base spare held fuel cs x h
  obtain ⟨n, rfl, _, hw⟩ := DataW.trod_int ht h
  exact ⟨n, rfl, hw⟩
theorem cells_at {w : World} {base : Nat} {a : Addr} {n : Nat} {cs : List Value} (h : w.cells? base a n = some cs) : ∀ j u, cs[j]? = some u → w.cell? (a.add j) = some u := by
  intro j u hu
  unfold World.cells? at h
  split at h
  · have hj : j < n := by
      have := mapM_some_length h
      have hl := (List.getElem?_eq_some_iff.1 hu).1
      simp at this
      omega
    have := mapM_some_get h j j (by simp [hj])
    rw [this, hu]
  · cases h
theorem opens_slice {α : Type} {d : Kd α} {Wf : α → Prop} {t e : TypeId} (ht : P.underlying t = some (.slice e)) (hs : P.cellsOf e = d.sz) (he : Opens P e d Wf) : Opens P t (Kd.slice e d) (fun xs => xs.length ≤ maxLen ∧ ∀ x ∈ xs, Wf x) := by
  intro H enc w base spare held fuel cs x h
  rcases DataW.trod_slice ht h with ⟨rfl, _⟩ | ⟨a, len, cap, elems, rest, n, rfl, rfl, _, _, hl, hm, hlen, hel, _, _⟩
  · exact ⟨[], ⟨none, 0, rfl, Nat.le_refl _, rfl, by simp, fun h => absurd h (by simp)⟩, by simp, fun x hx => by cases hx⟩
  · have key : ∀ i, i < len → ∃ p : α, Wf p ∧ ∃ c, c.length = d.sz ∧ d.K w p c ∧ ∀ j u, c[j]? = some u → w.cell? (a.add (i * d.sz + j)) = some u := by
      intro i hi
      have h1 := hel i hi
      rw [List.getElem?_eq_getElem (by omega)] at h1
      obtain ⟨c, hc, htr⟩ := Option.bind_eq_some_iff.1 h1
      obtain ⟨p, hK, hW⟩ := he enc w base spare held n c _ htr
      refine ⟨p, hW, c, d.K_len hK, hK, fun j u hu => ?_⟩
      have := cells_at hc j u hu
      rw [hs, add_add] at this
      exact this
    have hmx : maxLen ≤ 9223372036854775807 := by decide
    refine ⟨(List.range len).attach.map (fun i => (key i.1 (List.mem_range.1 i.2)).choose), ⟨some a, cap, by simp, by simp; omega, rfl, by simp; omega, fun _ => ⟨a, rfl, fun j p hj => ?_⟩⟩, by simp; omega, fun x hx => ?_⟩
    · obtain ⟨hj1, hj2⟩ := List.getElem?_eq_some_iff.1 hj
      simp at hj1 hj2
      subst hj2
      obtain ⟨_, c, h1, h2, h3⟩ := (key j hj1).choose_spec
      exact ⟨c, h1, h2, h3⟩
    · obtain ⟨i, _, rfl⟩ := List.mem_map.1 hx
      exact (key i.1 (List.mem_range.1 i.2)).choose_spec.1
theorem pairK {α β : Type} {a : Kd α} {b : Kd β} {w : World} {x : α} {y : β} {cs : List Value} (h0 : a.K w x (cs.take a.sz)) (h1 : b.K w y (cs.drop a.sz)) : (Kd.pair a b).K w (x, y) cs := ⟨_, _, (List.take_append_drop _ _).symm, h0, h1⟩
theorem struct_fields {t : TypeId} {fs : Array Field} (ht : P.underlying t = some (.struct fs)) {H : Type} {enc : TypeId × Value → H} {w : World} {base : Nat} {spare : Nat → Bool} {held : Bool} {fuel : Nat} {cs : List Value} {x : DataW H × List MemPlace} (h : DataW.trod enc P w base spare held fuel t cs = some x) :
    cs.length = P.cellsOf t ∧ ∀ {α : Type} {d : Kd α} {Wf : α → Prop} (i : Nat) (f : Field), fs[i]? = some f → Opens P f.type d Wf → ∃ a, d.K w a ((cs.drop f.offset).take (P.cellsOf f.type)) ∧ Wf a := by
  obtain ⟨xs, n, rfl, _, hl, hxs, hel⟩ := DataW.trod_struct ht h
  refine ⟨hl, fun i f hf ho => ?_⟩
  have h1 := hel i f hf
  have hi : i < xs.length := by
    have := (Array.getElem?_eq_some_iff.1 hf).1
    omega
  rw [List.getElem?_eq_getElem hi] at h1
  exact ho enc w base spare held n _ _ h1
end
end Go.Proofs.YtgljicdpcapgnaaGreatDoor
namespace Go.Proofs.YtgljicdpcapgnaaGreatDoor.Ps
open Go.RowKit Go.Proofs.YtgljicdpcapgnaaGreatDoorW.PrintWords Go.Proofs.YtgljicdpcapgnaaGreatDoorW.PrintLast Go.Proofs.YtgljicdpcapgnaaGreatDoorW.PrintMore Go.Proofs.YtgljicdpcapgnaaGreatDoor.Wk Go.Maps
abbrev kTn : Kd Tn := PBase.k74
abbrev tnc (x : Tn) (A0 : Option Addr) (c0 : Nat) (A1 : Option Addr) (c1 : Nat) : List Value := [.int .u32 x.f0, .slice A0 x.f1.length c0, .int .u64 x.f2, .int .u64 x.f3, .slice A1 x.f4.length c1]
abbrev z5 : List Value := [.int .u32 0, .slice none 0 0, .int .u64 0, .int .u64 0, .slice none 0 0]
abbrev zn : Tn := PBase.z74
theorem sizeTn : (Tryz.prog.info? 74).map (·.size) = some 5 := by kernel_rfl
def hold (v : Value) : Option (DataW Value × List MemPlace) := some (.held v, [])
theorem hold_inv {v d : Value} {ps : List MemPlace} (h : hold v = some (.held d, ps)) : v = d := DataW.held.inj (Prod.mk.inj (Option.some.inj h)).1
theorem law32 : Keyed Tryz.prog 36 := int_keyed Tryz.underlying36
theorem zeroTn (w : World) : (zeroValue 74).run Tryz.prog w = .ok (.agg z5.toArray) w := by kernel_rfl
theorem wf32 {k : Int} (h0 : 0 ≤ k) (h1 : k < 4294967296) : (Lit.int .u32 k).wf = true := by
  simp [Lit.wf, IntKind.min, IntKind.max, IntKind.signed, IntKind.bits]
  omega
theorem key32 {k : Int} (h0 : 0 ≤ k) (h1 : k < 4294967296) : keyOf Tryz.prog 36 (.int .u32 k) = some (.int .u32 k) := keyOf_int_mk Tryz.underlying36 (wf32 h0 h1)
def Held (W : World) (b : Nat) (x : Tn) (v : Value) : Prop := ∃ A0 c0 A1 c1, v = .agg (tnc x A0 c0 A1 c1).toArray ∧ x.f1.length ≤ c0 ∧ x.f4.length ≤ c1 ∧ Kd.F (Kd.int .u8) W (fun k => b < k) A0 x.f1.length x.f1 ∧ Kd.F (Kd.int .u32) W (fun k => b < k) A1 x.f4.length x.f4
theorem Held.kept {W W' : World} {b : Nat} {x : Tn} {v : Value} {row : Option Nat} (h : Held W b x v) (hg : W.grownBy W' row) (hr : ∀ k, row = some k → k ≤ b) : Held W' b x v := by
  obtain ⟨A0, c0, A1, c1, h1, h2, h3, h4, h5⟩ := h
  exact ⟨A0, c0, A1, c1, h1, h2, h3, Kd.F_grown h4 hg (fun k hk he => by have := hr k he.symm; omega), Kd.F_grown h5 hg (fun k hk he => by have := hr k he.symm; omega)⟩
def Says (W : World) (b : Nat) (l : List Tn) (D : DataW Value) : Prop := ∀ id, 0 ≤ id → id < 4294967296 →
  match find l id with
  | none => has D (.int .u32 id) = false
  | some x => has D (.int .u32 id) = true ∧ ∃ v, (∀ z, D.atKey (.int .u32 id) z = .held v) ∧ Held W b x v
def Tm (W : World) (b : Nat) (l : List Tn) : Prop := ∃ D, W.ownsMap Tryz.prog 36 hold b l.length D ∧ Says W b l D
theorem isMap_of {W : World} {k b n : Nat} {R : Value → Option (DataW Value × List MemPlace)} {D : DataW Value} (h : W.ownsMap Tryz.prog k R b n D) : IsMap D := by
  obtain ⟨es, clock, _, _, _, h⟩ := h
  exact ⟨_, h⟩
theorem Says.kept {W W' : World} {b : Nat} {l : List Tn} {D : DataW Value} {row : Option Nat} (h : Says W b l D) (hg : W.grownBy W' row) (hr : ∀ k, row = some k → k ≤ b) : Says W' b l D := by
  intro id h0 h1
  have := h id h0 h1
  split
  · rename_i he; rw [he] at this; exact this
  · rename_i x he
    rw [he] at this
    obtain ⟨ha, v, hv, hH⟩ := this
    exact ⟨ha, v, hv, hH.kept hg hr⟩
theorem Tm.lt {W : World} {b : Nat} {l : List Tn} (h : Tm W b l) : b < W.heap.size := by
  obtain ⟨D, h, _⟩ := h
  exact h.lt
theorem Tm.kept {W W' : World} {b : Nat} {l : List Tn} {row : Option Nat} (h : Tm W b l) (hg : W.grownBy W' row) (hr : ∀ k, row = some k → k < b) : Tm W' b l := by
  obtain ⟨D, h1, h2⟩ := h
  exact ⟨D, h1.kept hg (fun he => by have := hr b he.symm; omega), h2.kept hg (fun k hk => Nat.le_of_lt (hr k hk))⟩
theorem Tm.below {W W' : World} {b : Nat} {l : List Tn} (h : Tm W b l) (hb : Below W.heap.size W W') : Tm W' b l := h.kept (grown_of_below hb none) (fun k hk => by cases hk)
theorem has_nil (k : Lit) : has (DataW.map [] : DataW Value) k = false := rfl
theorem Tm.made (W : World) : Tm (W.alloc (.map #[] 0)) W.heap.size [] := ⟨_, World.ownsMap_made _ _ _ _, fun id _ _ => has_nil _⟩
theorem find_snoc (l : List Tn) (x : Tn) (id : Int) (hx : find l x.f0 = none) : find (l ++ [x]) id = if id = x.f0 then some x else find l id := by
  unfold find at *
  rw [List.find?_append]
  by_cases h : id = x.f0
  · subst h
    rw [hx, if_pos rfl]
    simp
  · rw [if_neg h]
    have : List.find? (fun y : Tn => y.f0 == id) [x] = none := by
      rw [List.find?_cons_of_neg (by simp; omega)]
      rfl
    rw [this]
    cases List.find? (fun y : Tn => y.f0 == id) l <;> rfl
theorem Tm.put {W W' : World} {b : Nat} {l : List Tn} {x : Tn} {v : Value} {D : DataW Value} (hS : Says W b l D) (hM : IsMap D) (hx : find l x.f0 = none) (hH : Held W b x v) (hg : W.grownBy W' (some b))
    (h : W'.ownsMap Tryz.prog 36 hold b (l.length + 1) (D.put (.int .u32 x.f0) (.held v))) : Tm W' b (l ++ [x]) := by
  refine ⟨_, by rw [List.length_append]; exact h, fun id h0 h1 => ?_⟩
  have hr : ∀ k, some b = some k → k ≤ b := fun k hk => by cases hk; exact Nat.le_refl _
  rw [find_snoc l x id hx]
  by_cases he : id = x.f0
  · subst he
    rw [if_pos rfl]
    exact ⟨has_put_same hM (show WideAt.IsKeyLit (.int .u32 x.f0) from trivial) _, v, fun z => atKey_put_same hM (show WideAt.IsKeyLit (.int .u32 x.f0) from trivial) _ z, hH.kept hg hr⟩
  · rw [if_neg he]
    have hne : (Lit.int .u32 id) ≠ .int .u32 x.f0 := fun h => he (by injection h)
    have := hS.kept hg hr id h0 h1
    split
    · rename_i hf; rw [hf] at this; rw [has_put_other hne]; exact this
    · rename_i y hf
      rw [hf] at this
      obtain ⟨ha, u, hu, hy⟩ := this
      exact ⟨by rw [has_put_other hne]; exact ha, u, fun z => by rw [atKey_put_other hne]; exact hu z, hy⟩
theorem Tm.look {W : World} {b : Nat} {l : List Tn} (h : Tm W b l) (id : Int) (h0 : 0 ≤ id) (h1 : id < 4294967296) :
    (find l id = none ∧ ∀ W', Below W.heap.size W W' → (Instr.lookup 75 (.map (some b)) (.int .u32 id) true).run Tryz.prog W' = .ok (.tuple #[.agg z5.toArray, .bool false]) W') ∨
    ∃ x A0 c0 A1 c1, find l id = some x ∧ (∀ W', Below W.heap.size W W' → (Instr.lookup 75 (.map (some b)) (.int .u32 id) true).run Tryz.prog W' = .ok (.tuple #[.agg (tnc x A0 c0 A1 c1).toArray, .bool true]) W') ∧ x.f1.length ≤ c0 ∧ x.f4.length ≤ c1 ∧ Kd.C (Kd.int .u8) W A0 x.f1.length x.f1 ∧ Kd.C (Kd.int .u32) W A1 x.f4.length x.f4 := by
  obtain ⟨D, hO, hS⟩ := h
  have key : ∀ W', Below W.heap.size W W' → ∃ v ps, (Instr.lookup 75 (.map (some b)) (.int .u32 id) true).run Tryz.prog W' = .ok (.tuple #[v, .bool (has D (.int .u32 id))]) W' ∧ hold v = some (D.atKey (.int .u32 id) (.held (.agg z5.toArray)), ps) := fun W' hb =>
    (hO.kept (grown_of_below hb none) (fun he => by cases he)).look_ok law32 Tryz.underlying75 (zeroTn W') (zd := .held (.agg z5.toArray)) (zp := []) rfl (key32 h0 h1)
  have := hS id h0 h1
  cases hf : find l id with
  | none =>
    rw [hf] at this
    refine .inl ⟨rfl, fun W' hb => ?_⟩
    obtain ⟨v, ps, hrun, hv⟩ := key W' hb
    change has D (.int .u32 id) = false at this
    rw [this] at hrun
    rw [hrun]
    rw [atKey_of_not_has this] at hv
    rw [hold_inv hv]
  | some x =>
    rw [hf] at this
    obtain ⟨ha, u, hu, A0, c0, A1, c1, rfl, l0, l1, f0, f1⟩ := this
    refine .inr ⟨x, A0, c0, A1, c1, rfl, fun W' hb => ?_, l0, l1, Kd.F_now f0, Kd.F_now f1⟩
    obtain ⟨v, ps, hrun, hv⟩ := key W' hb
    rw [ha] at hrun
    rw [hu] at hv
    rw [hold_inv hv] at hrun
    exact hrun
theorem Tm.update {W : World} {b : Nat} {l : List Tn} (h : Tm W b l) (x : Tn) (v : Value) (h0 : 0 ≤ x.f0 ∧ x.f0 < 4294967296) (hl : l.length < maxLen) (hx : find l x.f0 = none) (hH : Held W b x v) :
    ∃ W', (Instr.mapUpdate 75 (.map (some b)) (.int .u32 x.f0) v).run Tryz.prog W = .ok () W' ∧ Tm W' b (l ++ [x]) ∧ W.grownBy W' (some b) := by
  obtain ⟨D, hO, hS⟩ := h
  obtain ⟨W', h1, h2, h3⟩ := hO.update law32 Tryz.underlying75 hl (key32 h0.1 h0.2) (val := v) (d := .held v) (ps := []) rfl
  exact ⟨W', h1, Tm.put hS (isMap_of hO) hx hH h3 h2, h3⟩
section
variable {P : Program} {ops : Array Oper} {rest : List Oper} {o : Oper} {a : Act} {w w' : World} {Q : Exit → Act → World → Prop} {K : Act → World → Prop}
theorem map_step {N : Option Tmp} (hw : Region.wanted o (yielded ops a.tmps) = true) (hN : o.dst = none) (t : TypeId) (m x v : Operand) (ho : o.op = .mapUpdate t m x v) (mv key val : Value) (hm : a.eval m = mv) (hx : a.eval x = key) (hv : a.eval v = val)
    (hrun : (Instr.mapUpdate t mv key val).run P w = .ok () w') (h : K a w') : if Region.wanted o (yielded ops a.tmps) = true then Oper.wp P o a w K Q else K (a.put N undef) w := by
  rw [if_pos hw]
  unfold Oper.wp execOp
  simp only [ho, hm, hx, hv, Sem.run_bind, Sem.run_pure, Result.andThen_ok, hrun]
  show K (a.put o.dst undef) _
  rw [hN]
  exact h
end
def Tb (W : World) (base p : Nat) (l : List Tn) : Prop := ∃ b, base ≤ p ∧ base ≤ b ∧ Blk W p 77 [.map (some b)] ∧ Tm W b l
theorem Tb.kept {W W' : World} {base p : Nat} {l : List Tn} {row : Option Nat} (h : Tb W base p l) (hg : W.grownBy W' row) (hr : ∀ k, row = some k → k < base) : Tb W' base p l := by
  obtain ⟨b, h1, h2, h3, h4⟩ := h
  exact ⟨b, h1, h2, h3.grown hg (fun he => by have := hr p he.symm; omega), h4.kept hg (fun k hk => by have := hr k hk; omega)⟩
theorem Tb.below {W W' : World} {base p : Nat} {l : List Tn} (h : Tb W base p l) (hb : Below W.heap.size W W') : Tb W' base p l := h.kept (grown_of_below hb none) (fun k hk => by cases hk)
theorem tn_cells {w : World} {x : Tn} {cs : List Value} (h : kTn.K w x cs) : ∃ A0 c0 A1 c1, cs = tnc x A0 c0 A1 c1 ∧ x.f1.length ≤ c0 ∧ x.f4.length ≤ c1 ∧ Kd.C (Kd.int .u8) w A0 x.f1.length x.f1 ∧ Kd.C (Kd.int .u32) w A1 x.f4.length x.f4 := by
  obtain ⟨A0, c0, A1, c1, rfl, l0, g0, l1, g1⟩ := PBase.k74_open h
  exact ⟨A0, c0, A1, c1, rfl, l0, l1, g0, g1⟩
theorem row_get {w : World} {A : Option Addr} {n : Nat} {rs : List Tn} (h : kTn.C w A n rs) (i : Nat) (hi : i < rs.length) (hn : rs.length = n) : ∃ ad A0 c0 A1 c1, A = some ad ∧
    (∀ w', Below w.heap.size w w' → (Instr.loadAt 74 (.pointer (some (ad.add (i * 5))))).run Tryz.prog w' = .ok (.agg (tnc rs[i] A0 c0 A1 c1).toArray) w') ∧
    (∀ j v, (tnc rs[i] A0 c0 A1 c1)[j]? = some v → w.cell? (ad.add (i * 5 + j)) = some v) ∧
    rs[i].f1.length ≤ c0 ∧ rs[i].f4.length ≤ c1 ∧ Kd.C (Kd.int .u8) w A0 rs[i].f1.length rs[i].f1 ∧ Kd.C (Kd.int .u32) w A1 rs[i].f4.length rs[i].f4 := by
  obtain ⟨ad, c, e, _, hK, hc0⟩ := Kd.C_get h zn (i : Int) (by omega) (by omega)
  rw [List.getD_eq_getElem?_getD, Int.toNat_natCast, List.getElem?_eq_getElem hi] at hK
  change kTn.K w rs[i] c at hK
  have hc : ∀ j u, c[j]? = some u → w.cell? (ad.add (i * 5 + j)) = some u := fun j u hu => by
    have := hc0 j u hu
    rwa [Int.toNat_natCast] at this
  obtain ⟨A0, c0, A1, c1, rfl, l0, l1, g0, g1⟩ := tn_cells hK
  refine ⟨ad, A0, c0, A1, c1, e, ?_, hc, l0, l1, g0, g1⟩
  intro w' hb
  have hu := Tryz.underlying74
  obtain ⟨q, hi, hsz⟩ := Option.map_eq_some_iff.1 sizeTn
  have hl : (loadCells (ad.add (i * 5)) 5).run Tryz.prog w' = .ok (tnc rs[i] A0 c0 A1 c1).toArray w' :=
    run_loadCells_list (P := Tryz.prog) w' (ad.add (i * 5)) (tnc rs[i] A0 c0 A1 c1) (fun j v hv => by rw [add_add]; have := hc j v hv; exact (hb.cell (World.block_lt_of_cell? w _ this)).trans this)
  have hagg : (isAgg 74).run Tryz.prog w' = .ok true w' := by
    unfold isAgg
    rw [Sem.run_bind, run_underlying hu w']
    rfl
  simp [Instr.loadAt, Instr.sureAddr, loadVar, Sem.run_bind, hagg, sizeOf, typeInfo, hi, hsz, hl]
def Tr (W : World) (base p : Nat) (l : List Tn) : Prop := ∃ A c, base ≤ p ∧ l.length ≤ c ∧ Blk W p 81 [.slice A l.length c] ∧ Kd.F kTn W (fun k => base ≤ k) A l.length l
theorem Tr.kept {W W' : World} {base p : Nat} {l : List Tn} {row : Option Nat} (h : Tr W base p l) (hg : W.grownBy W' row) (hr : ∀ k, row = some k → k < base) : Tr W' base p l := by
  obtain ⟨A, c, h1, h2, h3, h4⟩ := h
  exact ⟨A, c, h1, h2, h3.grown hg (fun he => by have := hr p he.symm; omega), Kd.F_grown h4 hg (fun k hk he => by have := hr k he.symm; omega)⟩
theorem Tr.below {W W' : World} {base p : Nat} {l : List Tn} (h : Tr W base p l) (hb : Below W.heap.size W W') : Tr W' base p l := h.kept (grown_of_below hb none) (fun k hk => by cases hk)
end Go.Proofs.YtgljicdpcapgnaaGreatDoor.Ps
namespace Go.Proofs.YtgljicdpcapgnaaGreatDoor.Ps
open Go.RowKit Go.Proofs.YtgljicdpcapgnaaGreatDoor.PBase Go.Proofs.YtgljicdpcapgnaaGreatDoorW.PrintWords Go.Proofs.YtgljicdpcapgnaaGreatDoorW.PrintLast Go.Proofs.YtgljicdpcapgnaaGreatDoorW.PrintMore
theorem pow8 : ∀ n : Nat, n < 8 → (2 : Int) ^ (8 * n) = 256 ^ n := by decide
theorem rd_drop (l : List Int) (i : Nat) (hi : i < l.length) : rd l (i : Int) = l[i] ∧ l.drop i = l[i] :: l.drop (i + 1) := by
  refine ⟨by simp [rd, List.getD_eq_getElem?_getD, List.getElem?_eq_getElem hi], List.drop_eq_getElem_cons hi⟩
theorem or_step (n x : Int) (h0 : 0 ≤ n) (h1 : n < 72057594037927936) (hx : 0 ≤ x ∧ x ≤ 255) : Go.bits .or .u64 (IntKind.u64.wrap (n * 256)) (IntKind.u64.wrap x) = n * 256 + x := by
  rw [Bt.wraps_u64 _ (by omega) (by omega), Bt.wraps_u64 x (by omega) (by omega), Bt.or_256 n x h0 h1 hx.1 hx.2]
theorem fr_le (a : Int) (ha : 0 ≤ a) (l : List Int) (h : Sh.Bytes l) (m : Nat) (hm : a < 256 ^ m) : 0 ≤ fr a l ∧ fr a l < 256 ^ (m + l.length) := by
  have hn := num_range l h
  rw [fr_is]
  have p := pow_pos l.length
  have q0 : 0 ≤ a * 256 ^ l.length := Int.mul_nonneg ha (by omega)
  have q1 : a * 256 ^ l.length ≤ (256 ^ m - 1) * 256 ^ l.length := Int.mul_le_mul_of_nonneg_right (by omega) (by omega)
  rw [Int.sub_mul, ← Int.pow_add, Int.one_mul] at q1
  change 0 ≤ _ + num l ∧ _ + num l < _
  omega
theorem pow_le7 (m : Nat) (h : m ≤ 7) : (256 : Int) ^ m ≤ 256 ^ 7 := pow_mono m 7 h
theorem number_l (l : List Int) (hb : Sh.Bytes l) (h8 : l.length ≤ 8) : ∀ (d i k : Nat), i + d = l.length → d < k → pass_number.l0 k (fr 0 (l.take i)) l (l.length : Int) i = some (num l)
  | 0, i, k, hi, hk => by
    obtain ⟨k, rfl⟩ : ∃ m, k = m + 1 := ⟨k - 1, by omega⟩
    rw [pass_number.l0, if_neg (by omega), List.take_of_length_le (by omega)]
    rfl
  | d + 1, i, k, hi, hk => by
    obtain ⟨k, rfl⟩ : ∃ m, k = m + 1 := ⟨k - 1, by omega⟩
    have hlt : i < l.length := by omega
    have e1 : wrap64 ((i : Int) + 1) = ((i + 1 : Nat) : Int) := by unfold wrap64; omega
    obtain ⟨hr, _⟩ := rd_drop l i hlt
    have hbt := hb _ (List.getElem_mem hlt)
    have hf := fr_le 0 (by omega) (l.take i) (fun x hx => hb x (List.mem_of_mem_take hx)) 0 (by simp)
    have hp : (256 : Int) ^ (0 + (l.take i).length) ≤ 256 ^ 7 := pow_le7 _ (by rw [List.length_take]; omega)
    have hp7 : (256 : Int) ^ 7 = 72057594037927936 := by decide
    rw [pass_number.l0, e1, hr, or_step _ _ hf.1 (by omega) hbt]
    clear e1
    rw [if_pos (by omega), if_pos (by omega), if_pos (by omega)]
    have e2 : fr 0 (l.take i) * 256 + l[i] = fr 0 (l.take (i + 1)) := by
      rw [List.take_succ_eq_append_getElem hlt, fr_append]
      rfl
    rw [e2]
    exact number_l l hb h8 d (i + 1) k (by omega) (by omega)
theorem number_is (l : List Int) (hb : Sh.Bytes l) (h8 : l.length ≤ 8) (k : Nat) (hk : 9 < k) : pass_number.f k l = some (num l) := number_l l hb h8 l.length 0 k (by omega) (by omega)
theorem rnumber_l (l : List Int) (hb : Sh.Bytes l) (h8 : l.length ≤ 8) : ∀ (d i k : Nat), i + d = l.length → d < k → coamingref05_number.l0 k l (fr 0 (l.take i)) i = some (num l)
  | 0, i, k, hi, hk => by
    obtain ⟨k, rfl⟩ : ∃ m, k = m + 1 := ⟨k - 1, by omega⟩
    rw [coamingref05_number.l0, if_neg (by omega), List.take_of_length_le (by omega)]
    rfl
  | d + 1, i, k, hi, hk => by
    obtain ⟨k, rfl⟩ : ∃ m, k = m + 1 := ⟨k - 1, by omega⟩
    have hlt : i < l.length := by omega
    have e1 : wrap64 ((i : Int) + 1) = ((i + 1 : Nat) : Int) := by unfold wrap64; omega
    obtain ⟨hr, _⟩ := rd_drop l i hlt
    have hbt := hb _ (List.getElem_mem hlt)
    have hf := fr_le 0 (by omega) (l.take i) (fun x hx => hb x (List.mem_of_mem_take hx)) 0 (by simp)
    have hp : (256 : Int) ^ (0 + (l.take i).length) ≤ 256 ^ 7 := pow_le7 _ (by rw [List.length_take]; omega)
    have hp7 : (256 : Int) ^ 7 = 72057594037927936 := by decide
    rw [coamingref05_number.l0, e1, hr, or_step _ _ hf.1 (by omega) hbt]
    clear e1
    rw [if_pos (by omega), if_pos (by omega)]
    have e2 : fr 0 (l.take i) * 256 + l[i] = fr 0 (l.take (i + 1)) := by
      rw [List.take_succ_eq_append_getElem hlt, fr_append]
      rfl
    rw [e2]
    exact rnumber_l l hb h8 d (i + 1) k (by omega) (by omega)
theorem rnumber_is (l : List Int) (hb : Sh.Bytes l) (h8 : l.length ≤ 8) (k : Nat) (hk : 9 < k) : coamingref05_number.f k l = some (num l) := rnumber_l l hb h8 l.length 0 k (by omega) (by omega)
theorem part (l : List Int) (i n : Nat) : (l.take (i + n)).drop i = (l.drop i).take n := by rw [List.drop_take]; congr 1; omega
theorem part_bytes (l : List Int) (hb : Sh.Bytes l) (i n : Nat) : Sh.Bytes ((l.drop i).take n) := fun x hx => hb x (List.mem_of_mem_drop (List.mem_of_mem_take hx))
theorem rd_nat (l : List Int) (i : Nat) : rd l (i : Int) = l.getD i 0 := by simp [rd, List.getD_eq_getElem?_getD]
theorem got_bytes (s : ByteArray) : Sh.Bytes (got s) := by
  rcases Sp.readOf_code (Sp.bs s) with h | h
  · exact (Sp.readOf_ok s h).2.1
  · have : got s = [] := by
      unfold got
      unfold Sp.readOf at h ⊢
      cases hd : Sp.digits (Sp.bs s) with
      | none => rfl
      | some ds =>
        rw [hd] at h
        dsimp only at h ⊢
        split at h
        · rename_i c; rw [if_pos c]
        · rename_i c
          split at h
          · cases h
          · rename_i c2; rw [if_neg c, if_neg c2]
    rw [this]
    intro x hx; cases hx
theorem read_is (s : ByteArray) (hs : s.size ≤ 1000000) (k : Nat) (hk : s.size + 1 < k) : pass_read.f k s = some (got s, is s) := by
  unfold pass_read.f
  rw [Sp.read_is s hs k hk, Option.bind_some]
  unfold is form got
  generalize Sp.readOf (Sp.bs s) = p
  obtain ⟨b, e⟩ := p
  dsimp only
  by_cases h0 : e = 0
  · rw [if_pos h0]
    by_cases h1 : b.length = 50
    · rw [if_pos (by omega), if_pos (by omega), show rd b 0 = b.getD 0 0 from rd_nat b 0, show rd b 17 = b.getD 17 0 from rd_nat b 17]
      by_cases h2 : b.getD 0 0 = 1
      · rw [if_pos h2, if_pos (by omega)]
        simp only [h0, h1, h2, decide_true, Bool.true_and, true_and]
      · rw [if_neg h2]
        simp only [h2, false_and, and_false, decide_false, Bool.and_false]
    · rw [if_neg (by omega)]
      simp [h1]
  · rw [if_neg h0]
    simp [h0]
theorem index_l (l : List Int) (x : Int) (hl : l.length ≤ 1000000) : ∀ (d i k : Nat), i + d = l.length → d < k → ∃ r, slices_Index_uint32_uint32.l0 k l x (l.length : Int) i = some r ∧ (0 ≤ r ↔ x ∈ l.drop i)
  | 0, i, k, hi, hk => by
    obtain ⟨k, rfl⟩ : ∃ m, k = m + 1 := ⟨k - 1, by omega⟩
    refine ⟨-1, by rw [slices_Index_uint32_uint32.l0, if_neg (by omega)], ?_⟩
    rw [List.drop_of_length_le (by omega)]
    simp
  | d + 1, i, k, hi, hk => by
    obtain ⟨k, rfl⟩ : ∃ m, k = m + 1 := ⟨k - 1, by omega⟩
    have hlt : i < l.length := by omega
    have e1 : wrap64 ((i : Int) + 1) = ((i + 1 : Nat) : Int) := by unfold wrap64; omega
    obtain ⟨hr, hd⟩ := rd_drop l i hlt
    rw [slices_Index_uint32_uint32.l0, e1, hr, hd]
    clear e1
    rw [if_pos (by omega), if_pos (by omega), if_pos (by omega)]
    by_cases h : x = l[i]
    · rw [if_pos h]
      exact ⟨_, rfl, by rw [← h]; simp⟩
    · rw [if_neg h]
      obtain ⟨r, h1, h2⟩ := index_l l x hl d (i + 1) k (by omega) (by omega)
      refine ⟨r, h1, h2.trans ?_⟩
      rw [List.mem_cons]
      exact ⟨Or.inr, fun h' => h'.resolve_left h⟩
theorem contains_is (l : List Int) (x : Int) (hl : l.length ≤ 1000000) (k : Nat) (hk : l.length < k) : slices_Contains_uint32_uint32.f k l x = some (decide (x ∈ l)) := by
  obtain ⟨r, h1, h2⟩ := index_l l x hl l.length 0 k (by omega) hk
  unfold slices_Contains_uint32_uint32.f slices_Index_uint32_uint32.f
  rw [show (0 : Int) = ((0 : Nat) : Int) from rfl, h1, Option.bind_some]
  rw [List.drop_zero] at h2
  congr 1
  rw [decide_eq_decide]
  exact h2
end Go.Proofs.YtgljicdpcapgnaaGreatDoor.Ps
namespace Go.Proofs.YtgljicdpcapgnaaGreatDoor
open Go.RowKit Go.Proofs.YtgljicdpcapgnaaGreatDoorW.PrintWords Go.Proofs.YtgljicdpcapgnaaGreatDoorW.PrintLast Go.Proofs.YtgljicdpcapgnaaGreatDoorW.PrintMore
namespace Ps
structure Bm (w : World) (C : Array Value) (v : Value) (l : List Int) (wr : World) : Prop where
  o : wr.heap[w.heap.size]? = some (.cells C 122 (0, 0))
  r : Kd.R (Kd.int .u8) 5 wr w.heap.size (fun k => w.heap.size < k) v l
  g : Below w.heap.size w wr
theorem Bm.lt {w : World} {C : Array Value} {v : Value} {l : List Int} {wr : World} (h : Bm w C v l wr) : w.heap.size < wr.heap.size := (Array.getElem?_eq_some_iff.1 h.o).1
theorem Bm.next {w wr w2 : World} {C : Array Value} {v v1 : Value} {l l1 : List Int} (h : Bm w C v l wr) (hr : Kd.R (Kd.int .u8) 5 w2 w.heap.size (fun k => w.heap.size < k) v1 l1) (hb : Below w.heap.size w w2) (hg : wr.grownBy w2 v.ownBlock) : Bm w C v1 l1 w2 :=
  ⟨(hg.block _ h.lt (fun e => by have := h.r.1 _ e.symm; omega)).trans h.o, hr, hb⟩
theorem Bm.below {w wr w2 : World} {C : Array Value} {v : Value} {l : List Int} (h : Bm w C v l wr) (hb : Below wr.heap.size wr w2) : Bm w C v l w2 :=
  ⟨(hb.block _ h.lt).trans h.o, Kd.R_below h.r hb, below_then h.g h.g.size hb⟩
theorem infoU8 : (Tryz.prog.info? 5).map (fun i => (i.zero, i.size, i.bytes)) = some (some (.int .u8 0), 1, 1) := by kernel_rfl
end Ps
theorem refbig_.calls (x : Int) (n : Nat) (hn : n ≤ 8) (N : Int) (hN : N = n) (w : World) : Calls Tryz.prog 122 #[.int .u64 x, .int .i64 N] w fun e w' => ∃ v, e = .returned v ∧ Kd.R (Kd.int .u8) 5 w' w.heap.size (fun _ => True) v (Ps.be n x) ∧ Below w.heap.size w w' := by
 subst hN
 go_enter Tryz.func122, Tryz.ntmps122
 go_wp2_with fail
 go_loopw [6, 5] (fun v6 v5 wr => ∃ (m : Nat) (y : Int) (out : List Int) (A5 : Option Addr) (L c5 : Nat), v6 = .int .i64 y ∧ Aside0 (y = (m : Int) - 1) ∧ m ≤ n ∧ Aside0 (out.length = L ∧ L + m = n) ∧ v5 = .slice A5 L c5 ∧ Aside0 (out ++ Ps.be m x = Ps.be n x) ∧ Aside0 (Kd.R (Kd.int .u8) 5 wr w.heap.size (fun _ => True) (.slice A5 L c5) out) ∧ Aside0 (Below w.heap.size w wr)) (fun i _ _ => (intOf i + 1).toNat)
 case atStart => exact ⟨n, _, [], none, 0, 0, rfl, ⟨rfl⟩, Nat.le_refl _, ⟨rfl, by omega⟩, rfl, ⟨rfl⟩, ⟨Kd.R_nil _ _ _ _ _⟩, ⟨Below.refl _ _⟩⟩
 case round =>
  obtain ⟨m, y, out, A5, L, c5, rfl, HY, hm, HL, rfl, HE, HR, HB⟩ := hrel
  by_cases h0 : m = 0
  ·subst h0
   have hy : y = -1 := by have := HY.out; omega
   subst hy
   go_wp2_with fail
   go_ret
   exact ⟨_, rfl, by have := HE.out; rw [Ps.be, List.append_nil] at this; rw [← this]; exact HR.out, HB.out⟩
  ·obtain ⟨i, hi⟩ : ∃ i : Nat, y = (i : Int) := ⟨m - 1, by have := HY.out; omega⟩
   subst hi
   obtain rfl : m = i + 1 := by have := HY.out; omega
   have h7 : i ≤ 7 := by omega
   have HL7 : Aside0 (L ≤ 8) := ⟨by have := HL.out; omega⟩
   clear h0 hm
   go_wp2_with ((with_reducible refine gate_builtin (b := .append) (xs := #[.tmp 13, .tmp 20]) rfl ?_); at_builtin; refine Kd.R_append (Kd.int .u8) (w0 := w) w.heap.size rfl (.tmp 13) (.tmp 20) 35 5 (.int .u8 0) 1 rfl Tryz.underlying35 Ps.infoU8 rfl (by decide) (by omega) (.slice A5 L c5) out _ _ (fun _ => True) (fun _ => False) rfl rfl rfl (fun _ h => h.elim) (fun k hk => trivial) HR.out HB.out HB.out.size (by rw [HL.out.1]; have := HL7.out; omega) ?_; intro v4 w4 ho hb hg _; have HO := az ho; have HB4 := az hb; clear ho hb hg)
   obtain ⟨A4, c4, hv⟩ := Kd.R_slice HO.out
   rw [List.length_append, HL.out.1] at hv
   subst hv
   refine ⟨⟨i, (i : Int) - 1, out ++ [x / 256 ^ i % 256], A4, L + 1, c4, rfl, ⟨rfl⟩, by have := HL.out; omega, ⟨by rw [List.length_append, HL.out.1]; rfl, by have := HL.out; omega⟩, rfl, ⟨?_⟩, ⟨?_⟩, HB4⟩, by simp [intOf]⟩
   ·rw [← HE.out, Ps.be, List.append_assoc, List.singleton_append]
   ·rw [← Ps.pow8 i (by omega)]; exact HO.out
theorem refbody_.calls (a b : Int) (ro : Bool) (d : Int) (w : World) (hw : Ps.TkWf (a, b, ro, d)) : Calls Tryz.prog 111 #[.agg #[.int .u32 a, .int .u32 b, .bool ro, .int .u64 d]] w fun e w' => ∃ v, e = .returned v ∧ Kd.R (Kd.int .u8) 5 w' w.heap.size (fun _ => True) v (Ps.body (a, b, ro, d)) ∧ Below w.heap.size w w' := by
 obtain ⟨w1, w2, w3⟩ := hw
 have ea : IntKind.u64.wrap a = a := Bt.wraps_u64 a (by simp only at w1; omega) (by simp only at w1; omega)
 have eb : IntKind.u64.wrap b = b := Bt.wraps_u64 b (by simp only at w2; omega) (by simp only at w2; omega)
 have EA := az ea
 have EB := az eb
 clear w1 w2 w3 ea eb
 have HB0 : Aside0 (Below w.heap.size w (w.alloc (.cells #[.int .u32 a, .int .u32 b, .bool ro, .int .u64 d] 122))) := ⟨below_alloc (Below.refl _ _) _⟩
 have HS0 : Aside0 (w.heap.size < (w.alloc (.cells #[.int .u32 a, .int .u32 b, .bool ro, .int .u64 d] 122)).heap.size) := ⟨by show _ < (w.heap.push _).size; rw [Array.size_push]; omega⟩
 obtain ⟨C, HC⟩ : ∃ C : Array Value, Aside0 (#[.int .u32 a, .int .u32 b, .bool ro, .int .u64 d] = C) := ⟨_, ⟨rfl⟩⟩
 have HX0 : Aside0 ((w.alloc (.cells #[.int .u32 a, .int .u32 b, .bool ro, .int .u64 d] 122)).heap[w.heap.size]? = some (.cells C 122 (0, 0))) := ⟨by rw [← HC.out]; exact heap_alloc_new _ _⟩
 go_enter Tryz.func111, Tryz.ntmps111
 go_wp2_with ((with_reducible refine gate_dst (N := 4) rfl ?_); refine Kd.R_lit (Kd.int .u8) w.heap.size 5 ?hg (N := 4) ?hd (xs := [1]) (inner := [.int .u8 1]) (ok := fun k => w.heap.size < k) (okp := fun _ => False) ?hr ?hp (fun _ hk => hk.elim) HS0.out HB0.out HB0.out.size (by decide) ?_; (case hd => rfl); (case hg => rfl); (case hr => first | (go_simp; done) | (go_simp; rfl)); (case hp => exact Reps.one (show Kd.M (Kd.int .u8) _ _ _ 1 [.int .u8 1] from rfl) (Reps.none _ _)); intro v1 w1 ho hb hg_ hnew_; have HM : Aside0 (Ps.Bm w C v1 [1] w1) := ⟨⟨(hg_.block _ HS0.out (by simp)).trans HX0.out, ho, hb⟩⟩; clear ho hb hg_ hnew_; obtain ⟨A3, c3, hv4⟩ := Kd.R_slice HM.out.r; simp only [List.length_cons, List.length_nil, Nat.reduceAdd] at hv4; subst hv4; have hc : w1.cell? ⟨w.heap.size, 0, none⟩ = some (.int .u32 a) := Sh.cellAt HM.out.o 0 _ (by rw [← HC.out]; rfl))
 clear hc HX0 HB0 HS0
 refine (refbig_.calls _ 4 (by decide) _ rfl _).mono ?_
 rintro e w2 ⟨v9, rfl, hR, hb⟩
 rw [EA.out] at hR
 obtain ⟨A9, c9, hv9⟩ := Kd.R_slice hR
 rw [Ps.be_len] at hv9
 subst hv9
 have hC9 := (Kd.R_reads' hR).2.2
 rw [Ps.be_len] at hC9
 have HC9 := az hC9
 have HMb := az (HM.out.below hb)
 clear hC9 hR hb HM
 go_wp2_with ((with_reducible refine gate_builtin (b := .append) (xs := #[.tmp 5, .tmp 9]) rfl ?_); at_builtin; refine Kd.R_append_rows (Kd.int .u8) (w0 := w) w.heap.size rfl (.tmp 5) (.tmp 9) 35 5 (.int .u8 0) 1 rfl Tryz.underlying35 Ps.infoU8 rfl (by decide) (by omega) (.slice A3 _ c3) _ _ A9 4 c9 (fun k => w.heap.size < k) (fun _ => False) rfl rfl HMb.out.r HC9.out (fun _ _ h => h) (fun _ h => h.elim) (fun k hk => Nat.lt_of_lt_of_le HMb.out.lt hk) HMb.out.g (Nat.le_of_lt HMb.out.lt) (by simp [Ps.be_len]) ?_; intro v4 w4 ho hb hg _; have HM := az (HMb.out.next ho hb hg); clear ho hb hg HMb HC9; obtain ⟨A3, c3, hv4⟩ := Kd.R_slice HM.out.r; simp only [List.length_append, Ps.be_len, List.length_cons, List.length_nil, Nat.reduceAdd] at hv4; subst hv4; have hc : w4.cell? ⟨w.heap.size, 1, none⟩ = some (.int .u32 b) := Sh.cellAt HM.out.o 1 _ (by rw [← HC.out]; rfl))
 clear hc
 refine (refbig_.calls _ 4 (by decide) _ rfl _).mono ?_
 rintro e w2 ⟨v9, rfl, hR, hb⟩
 rw [EB.out] at hR
 obtain ⟨A9, c9, hv9⟩ := Kd.R_slice hR
 rw [Ps.be_len] at hv9
 subst hv9
 have hC9 := (Kd.R_reads' hR).2.2
 rw [Ps.be_len] at hC9
 have HC9 := az hC9
 have HMb := az (HM.out.below hb)
 clear hC9 hR hb HM
 go_wp2_with ((with_reducible refine gate_builtin (b := .append) (xs := #[.tmp 11, .tmp 15]) rfl ?_); at_builtin; refine Kd.R_append_rows (Kd.int .u8) (w0 := w) w.heap.size rfl (.tmp 11) (.tmp 15) 35 5 (.int .u8 0) 1 rfl Tryz.underlying35 Ps.infoU8 rfl (by decide) (by omega) (.slice A3 _ c3) _ _ A9 4 c9 (fun k => w.heap.size < k) (fun _ => False) rfl rfl HMb.out.r HC9.out (fun _ _ h => h) (fun _ h => h.elim) (fun k hk => Nat.lt_of_lt_of_le HMb.out.lt hk) HMb.out.g (Nat.le_of_lt HMb.out.lt) (by simp [Ps.be_len]) ?_; intro v4 w4 ho hb hg _; have HM := az (HMb.out.next ho hb hg); clear ho hb hg HMb HC9; obtain ⟨A3, c3, hv4⟩ := Kd.R_slice HM.out.r; simp only [List.length_append, Ps.be_len, List.length_cons, List.length_nil, Nat.reduceAdd] at hv4; subst hv4; have hc : w4.cell? ⟨w.heap.size, 3, none⟩ = some (.int .u64 d) := Sh.cellAt HM.out.o 3 _ (by rw [← HC.out]; rfl))
 clear hc
 refine (refbig_.calls _ 8 (by decide) _ rfl _).mono ?_
 rintro e w2 ⟨v9, rfl, hR, hb⟩
 rw [show d = d from rfl] at hR
 obtain ⟨A9, c9, hv9⟩ := Kd.R_slice hR
 rw [Ps.be_len] at hv9
 subst hv9
 have hC9 := (Kd.R_reads' hR).2.2
 rw [Ps.be_len] at hC9
 have HC9 := az hC9
 have HMb := az (HM.out.below hb)
 clear hC9 hR hb HM
 go_upto_region 5 with ((with_reducible refine gate_builtin (b := .append) (xs := #[.tmp 17, .tmp 20]) rfl ?_); at_builtin; refine Kd.R_append_rows (Kd.int .u8) (w0 := w) w.heap.size rfl (.tmp 17) (.tmp 20) 35 5 (.int .u8 0) 1 rfl Tryz.underlying35 Ps.infoU8 rfl (by decide) (by omega) (.slice A3 _ c3) _ _ A9 8 c9 (fun k => w.heap.size < k) (fun _ => False) rfl rfl HMb.out.r HC9.out (fun _ _ h => h) (fun _ h => h.elim) (fun k hk => Nat.lt_of_lt_of_le HMb.out.lt hk) HMb.out.g (Nat.le_of_lt HMb.out.lt) (by simp [Ps.be_len]) ?_; intro v4 w4 ho hb hg _; have HM := az (HMb.out.next ho hb hg); clear ho hb hg HMb HC9; obtain ⟨A3, c3, hv4⟩ := Kd.R_slice HM.out.r; simp only [List.length_append, Ps.be_len, List.length_cons, List.length_nil, Nat.reduceAdd] at hv4; subst hv4; have hc : w4.cell? ⟨w.heap.size, 2, none⟩ = some (.bool ro) := Sh.cellAt HM.out.o 2 _ (by rw [← HC.out]; rfl))
 cases ro
 ·go_wp2_with ((with_reducible refine gate_builtin (b := .append) (xs := #[.tmp 27, .tmp 28]) rfl ?_); at_builtin; refine Kd.R_append (Kd.int .u8) (w0 := w) w.heap.size rfl (.tmp 27) (.tmp 28) 35 5 (.int .u8 0) 1 rfl Tryz.underlying35 Ps.infoU8 rfl (by decide) (by omega) (.slice A3 17 c3) _ 0 [.int .u8 0] (fun k => w.heap.size < k) (fun _ => False) rfl rfl rfl (fun _ h => h.elim) (fun k hk => Nat.lt_of_lt_of_le HM.out.lt hk) HM.out.r HM.out.g (Nat.le_of_lt HM.out.lt) (by simp [Ps.be_len]) ?_; intro v4 w5 ho hb hg _; have HO := az ho; have HB := az hb; clear ho hb hg)
  clear hc
  go_ret
  refine ⟨_, rfl, Kd.R_mono HO.out (fun _ _ => trivial), HB.out⟩
 ·go_wp2_with ((with_reducible refine gate_builtin (b := .append) (xs := #[.tmp 24, .tmp 25]) rfl ?_); at_builtin; refine Kd.R_append (Kd.int .u8) (w0 := w) w.heap.size rfl (.tmp 24) (.tmp 25) 35 5 (.int .u8 0) 1 rfl Tryz.underlying35 Ps.infoU8 rfl (by decide) (by omega) (.slice A3 17 c3) _ 1 [.int .u8 1] (fun k => w.heap.size < k) (fun _ => False) rfl rfl rfl (fun _ h => h.elim) (fun k hk => Nat.lt_of_lt_of_le HM.out.lt hk) HM.out.r HM.out.g (Nat.le_of_lt HM.out.lt) (by simp [Ps.be_len]) ?_; intro v4 w5 ho hb hg _; have HO := az ho; have HB := az hb; clear ho hb hg)
  clear hc
  go_ret
  refine ⟨_, rfl, Kd.R_mono HO.out (fun _ _ => trivial), HB.out⟩
end Go.Proofs.YtgljicdpcapgnaaGreatDoor
namespace Go.Proofs.YtgljicdpcapgnaaGreatDoor
open Go.RowKit Go.Proofs.YtgljicdpcapgnaaGreatDoorW.PrintWords Go.Proofs.YtgljicdpcapgnaaGreatDoorW.PrintLast
namespace Cl
theorem infoByte : (Tryz.prog.info? 5).map (fun i => (i.zero, i.size, i.bytes)) = some (some (.int .u8 0), 1, 1) := by kernel_rfl
end Cl
def clone_.f (l : List Int) : Option (List Int) := if l.length < 140737488355328 then some l else none
theorem clone_.calls (A0 : Option Addr) (c0 : Nat) (l0 : List Int) (r : List Int) (w : World) (hr0 : Kd.C (Kd.int .u8) w A0 l0.length l0) (hc0 : l0.length ≤ c0) (h : clone_.f l0 = some r) :
  Calls Tryz.prog 53 #[.slice A0 l0.length c0] w fun e w' => ∃ v0_ : Value, e = .returned (v0_) ∧ Kd.R (Kd.int .u8) 5 w' w.heap.size (fun _ => True) v0_ r ∧ Below w.heap.size w w' := by
 have HL : Aside0 (l0.length < 140737488355328 ∧ l0 = r) := ⟨by
  unfold clone_.f at h
  by_cases c : l0.length < 140737488355328
  ·rw [if_pos c] at h; exact ⟨c, Option.some.inj h⟩
  ·rw [if_neg c] at h; cases h⟩
 clear h
 have HR0 := az hr0
 have heq := fun (w : World) => Lib.run_eql_slice_nil (P := Tryz.prog) w 35 5 A0 l0.length c0 0 0 Tryz.underlying35
 cases A0 with
 | none =>
  have HE : Aside0 (l0 = []) := ⟨by
   rcases Nat.eq_zero_or_pos l0.length with h0 | h0
   ·exact List.eq_nil_of_length_eq_zero h0
   ·obtain ⟨ad, e, _⟩ := hr0.2.2 h0; cases e⟩
  clear hr0
  go_enter Tryz.func53, Tryz.ntmps53
  go_wp2_with fail
  go_ret
  refine ⟨_, rfl, ?_, Below.refl _ _⟩
  rw [← HL.out.2, HE.out]
  exact Kd.R_nil _ _ _ _ _
 | some ad =>
  clear hr0
  go_enter Tryz.func53, Tryz.ntmps53
  have HM := az (World.ownsRow_made (base := w.heap.size) (e := 5) (size := 1) w #[] 0 (Nat.le_refl _) (by unfold maxLen; omega) rfl)
  go_wp2_with (at_builtin; refine Kd.R_append_rows (Kd.int .u8) (w0 := w) w.heap.size rfl (.tmp 5) (.tmp 6) 35 5 (.int .u8 0) 1 rfl Tryz.underlying35 Cl.infoByte rfl (by decide) (by omega) (.slice (some ⟨w.heap.size, 0, none⟩) 0 0) ([] : List Int) l0 _ _ _ (fun _ => True) (fun _ => False) rfl rfl ?aO ?aR (fun _ _ h => h) (fun _ h => h.elim) (fun _ _ => trivial) ?aB ?aS ?aL ?_)
  case aO => exact Kd.R_of_own HM.out (fun _ _ => trivial)
  case aR => exact Kd.C_below HR0.out (below_alloc (Below.refl _ _) _)
  case aB => exact below_alloc (Below.refl _ _) _
  case aS => simp
  case aL => have := HL.out.1; simp; omega
  intro v1 w1 ho hb _ _
  have HO := az ho
  have HB := az hb
  clear ho hb
  go_wp2_with fail
  go_ret
  refine ⟨_, rfl, ?_, HB.out⟩
  rw [← HL.out.2]
  exact HO.out
end Go.Proofs.YtgljicdpcapgnaaGreatDoor
namespace Go.Proofs.YtgljicdpcapgnaaGreatDoor
open Go.RowKit Go.Proofs.YtgljicdpcapgnaaGreatDoorW.PrintWords Go.Proofs.YtgljicdpcapgnaaGreatDoorW.PrintLast Go.Proofs.YtgljicdpcapgnaaGreatDoorW.PrintMore
namespace Sh
def Rows (w : World) (B : Option Addr) (n : Nat) (ps : Nat → List Int) (As : Nat → Option Addr) (Cs : Nat → Nat) : Prop :=
  ∀ i, i < n → ∃ ad, B = some ad ∧ w.cell? (ad.add i) = some (.slice (As i) (ps i).length (Cs i)) ∧ (ps i).length ≤ Cs i ∧ Bytes (ps i) ∧ Kd.C (Kd.int .u8) w (As i) (ps i).length (ps i)
theorem slice_all (b : Nat) (W : World) :
    (Instr.sliceAt 165 (.pointer (some ⟨b, 0, none⟩)) none none none).run Tryz.prog W = .ok (.slice (some ⟨b, 0, none⟩) 64 64) W := by
  rw [run_sliceAt_array_all W 165 ⟨b, 0, none⟩ (by kernel_rfl)]
  rw [show Tryz.prog.arrayLen 165 = 64 by kernel_rfl, show Tryz.prog.elem 165 = 5 by kernel_rfl]
  rw [show (sizeOf 5).run Tryz.prog W = .ok 1 W by kernel_rfl]
  simp [Result.andThen, slicedAt, Addr.add]
structure Md (w : World) (L : List Int) (wr : World) : Prop where
  k : wr.heap[w.heap.size]? = some (.cells (u8s L) 165 (0, 0))
  o : wr.heap[w.heap.size + 1]? = some (.cells (u8s (List.replicate 32 0)) 152 (0, 0))
  g : Below w.heap.size w wr
theorem Md.put {w : World} {L : List Int} {wr : World} (h : Md w L wr) (k : Nat) (x : Int) : Md w (L.set k x) (wr.setCell ⟨w.heap.size, k, none⟩ (.int .u8 x)) :=
  ⟨by rw [row_set h.k, u8s_set], row_far h.o _ (by omega) _ _, h.g.setCell (p := ⟨w.heap.size, k, none⟩) (Nat.le_refl _) _⟩
structure Mp (w : World) (hb : Nat) (acc r : List Int) (wr : World) : Prop where
  h : Ha wr hb acc r
  o : wr.heap[w.heap.size + 1]? = some (.cells (u8s (List.replicate 32 0)) 152 (0, 0))
  g : Below w.heap.size w wr
  n : w.heap.size + 1 < hb
theorem Mp.next {w : World} {hb : Nat} {acc r acc2 r2 : List Int} {wr W : World} (h : Mp w hb acc r wr) (h2 : Ha W hb acc2 r2) (hg : wr.grownBy W (some hb)) : Mp w hb acc2 r2 W :=
  ⟨h2, (hg.block _ (Array.getElem?_eq_some_iff.1 h.o).1 (fun e => by have := Option.some.inj e; have := h.n; omega)).trans h.o, below_of_gb h.g hg (by have := h.n; omega), h.n⟩
end Sh
theorem digest_.calls (kb : List Int) (t : Int) (B : Option Addr) (n c : Nat) (ps : Nat → List Int) (As : Nat → Option Addr) (Cs : Nat → Nat) (w : World) (hk : Sh.Ks w) (hl : kb.length = 64) (hby : Sh.Bytes kb) (hn : n ≤ 9223372036854775807)
  (hr : Sh.Rows w B n ps As Cs) (hlen : ∀ i, i ≤ n → (Sh.cat ps i).length ≤ 1099510000000) :
  Calls Tryz.prog 119 #[.agg (Sh.u8s kb), .int .u8 t, .slice B n c] w fun e w' => e = .returned (.agg (Sh.u8s (Sh.dig (Sh.turn kb t ++ Sh.cat ps n)))) ∧ Below w.heap.size w w' := by
 have HR := az hr
 have HK := az hk
 have HBY := az hby
 have HLN := az hlen
 have HL := az hl
 clear hr hk hby hlen hl
 obtain ⟨K, HKB⟩ : ∃ K, Aside0 (Sh.u8s kb = K) := ⟨_, ⟨rfl⟩⟩
 rw [HKB.out]
 have HM0 : Aside0 (Sh.Md w (Sh.some64 kb t 0) ((w.alloc (.cells K 165)).alloc (.cells (Sh.u8s (List.replicate 32 0)) 152))) := ⟨by
  refine ⟨?_, ?_, below_alloc (below_alloc (Below.refl _ _) _) _⟩
  ·rw [← HKB.out]
   exact (Below.heap_alloc _ _ _ (by show w.heap.size < (w.heap.push _).size; simp)).trans (heap_alloc_new _ _)
  ·have := heap_alloc_new (w.alloc (.cells K 165)) (.cells (Sh.u8s (List.replicate 32 0)) 152)
   rwa [show (w.alloc (.cells K 165)).heap.size = w.heap.size + 1 by show (w.heap.push _).size = _; simp] at this⟩
 go_enter Tryz.func119, Tryz.ntmps119
 go_wp2_with fail
 go_loopw [11] (fun v11 wr => ∃ k : Nat, v11 = .int .i64 k ∧ k ≤ 64 ∧ Aside0 (Sh.Md w (Sh.some64 kb t k) wr)) (fun v _ => 64 - (intOf v).toNat)
 case atStart => exact ⟨0, rfl, by omega, HM0⟩
 case round =>
  clear HM0
  obtain ⟨k, rfl, hk, HM⟩ := hrel
  by_cases hlt : k < 64
  ·obtain ⟨e1, e2⟩ := Sh.some64_at kb t k (by rw [HL.out]; exact hlt)
   have cu := Sh.cellAt HM.out.k k _ (Sh.u8s_at _ k (by rw [Sh.some64_length, HL.out]; exact hlt))
   have fu := Sh.frozenAt HM.out.k k
   rw [e1] at cu
   have HN2 : Aside0 (Sh.Md w (Sh.some64 kb t (k + 1)) (wr.setCell ⟨w.heap.size, k, none⟩ (.int .u8 (bits .xor .u8 (kb.getD k 0) t)))) := ⟨by
    have := HM.out.put k (bits .xor .u8 (kb.getD k 0) t)
    rwa [e2] at this⟩
   clear e1 e2 HM
   generalize kb.getD k 0 = y at *
   go_wp2_with fail
   exact ⟨⟨k + 1, by go_num, by omega, HN2⟩, by simp [intOf]; omega⟩
  ·obtain rfl : k = 64 := by omega
   have HT : Aside0 (Sh.Md w (Sh.turn kb t) wr) := ⟨by
    have := HM.out
    rwa [Sh.some64, List.take_of_length_le (by rw [Sh.turn_length, HL.out]; exact Nat.le_refl _), List.drop_of_length_le (by rw [HL.out]; exact Nat.le_refl _), List.append_nil] at this⟩
   clear HM hlt hk
   obtain ⟨wq, rfl⟩ : ∃ q : World, q = wr := ⟨_, rfl⟩
   go_wp2_with fail
   refine (new_.calls wq).mono ?_
   rintro e w2 ⟨rfl, h2, hb2⟩
   obtain ⟨hb, HHB⟩ : ∃ b, Aside0 (wq.heap.size = b) := ⟨_, ⟨rfl⟩⟩
   have HP2 : Aside0 (Sh.Mp w hb [] (List.replicate 64 0) w2) := ⟨⟨by rw [← HHB.out]; exact h2, (hb2.block _ (Array.getElem?_eq_some_iff.1 HT.out.o).1).trans HT.out.o, below_then HT.out.g HT.out.g.size hb2, by rw [← HHB.out]; exact (Array.getElem?_eq_some_iff.1 HT.out.o).1⟩⟩
   have HC2 : Aside0 (Kd.C (Kd.int .u8) w2 (some ⟨w.heap.size, 0, none⟩) 64 (Sh.turn kb t)) := ⟨by
    have hk2 : w2.heap[w.heap.size]? = some (.cells (Sh.u8s (Sh.turn kb t)) 165 (0, 0)) := (hb2.block _ (Array.getElem?_eq_some_iff.1 HT.out.k).1).trans HT.out.k
    have := Lit.reads_block hk2 .u8 (Sh.turn kb t) (by simp [Sh.u8s]) (by rw [Sh.turn_length, HL.out]; decide)
    rwa [Sh.turn_length, HL.out] at this⟩
   rw [HHB.out]
   clear h2 hb2 HT HHB
   have hsl := Sh.slice_all w.heap.size
   have HF : Aside0 (Calls Tryz.prog 117 #[.pointer (some ⟨hb, 0, none⟩), .slice (some ⟨w.heap.size, 0, none⟩) 64 64] w2 fun e w' => e = .returned (.tuple #[]) ∧ (∃ rest', Sh.Ha w' hb (Sh.turn kb t) rest') ∧ w2.grownBy w' (some hb)) := ⟨by
    have hTL : (Sh.turn kb t).length = 64 := by rw [Sh.turn_length, HL.out]
    have := write_.calls hb [] _ (some ⟨w.heap.size, 0, none⟩) 64 (Sh.turn kb t) w2 HP2.out.h (by have := HP2.out.n; omega) (HK.out.below HP2.out.g) (by rw [hTL]; exact HC2.out) (by rw [hTL]; exact Nat.le_refl _) (fun _ a e => by obtain rfl := Option.some.inj e; show w.heap.size ≠ hb; have := HP2.out.n; omega) (Sh.turn_bytes _ _) (by rw [hTL]; simp)
    rw [hTL, List.nil_append] at this
    exact this⟩
   go_wp2_with fail
   refine HF.out.mono ?_
   rintro e w3 ⟨rfl, ⟨r3, h3⟩, g3⟩
   have HP3 : Aside0 (Sh.Mp w hb (Sh.turn kb t ++ Sh.cat ps 0) r3 w3) := ⟨by rw [Sh.cat, List.append_nil]; exact HP2.out.next h3 g3⟩
   clear h3 g3 HF HP2 HC2 hsl
   go_wp2_with fail
   go_loopw [27] (fun v27 wr => ∃ (i : Nat) (r : List Int), v27 = .int .i64 i ∧ i ≤ n ∧ Aside0 (Sh.Mp w hb (Sh.turn kb t ++ Sh.cat ps i) r wr)) (fun v _ => n - (intOf v).toNat)
   case atStart => exact ⟨0, r3, rfl, Nat.zero_le _, HP3⟩
   case round =>
    clear HP3
    obtain ⟨i, r, rfl, hi, HP⟩ := hrel
    by_cases hlt : i < n
    ·obtain ⟨ad, e1, hcell, hlc, hpb, hpC⟩ := HR.out i hlt
     subst e1
     obtain ⟨L, HLL⟩ : ∃ L, Aside0 ((ps i).length = L) := ⟨_, ⟨rfl⟩⟩
     rw [HLL.out] at hcell hlc
     obtain ⟨Ai, HAi⟩ : ∃ a, Aside0 (As i = a) := ⟨_, ⟨rfl⟩⟩
     obtain ⟨Ci, HCi⟩ : ∃ a, Aside0 (Cs i = a) := ⟨_, ⟨rfl⟩⟩
     have hx : wr.cell? (ad.add i) = some (.slice Ai L Ci) := by
      rw [← HAi.out, ← HCi.out]
      exact (HP.out.g.cell (World.block_lt_of_cell? w _ hcell)).trans hcell
     have HF : Aside0 (Calls Tryz.prog 117 #[.pointer (some ⟨hb, 0, none⟩), .slice Ai L Ci] wr fun e w' => e = .returned (.tuple #[]) ∧ (∃ rest', Sh.Ha w' hb (Sh.turn kb t ++ Sh.cat ps (i + 1)) rest') ∧ wr.grownBy w' (some hb)) := ⟨by
      rw [HAi.out] at hpC
      have hlen := HLN.out (i + 1) hlt
      rw [Sh.cat, List.length_append] at hlen
      have := write_.calls hb (Sh.turn kb t ++ Sh.cat ps i) r Ai Ci (ps i) wr HP.out.h (by have := HP.out.n; omega) (HK.out.below HP.out.g) (Kd.C_below hpC HP.out.g) (by rw [HLL.out, ← HCi.out]; exact hlc)
       (fun hl a e => Sh.far_of_C hpC hl e (by have := HP.out.n; omega)) hpb (by rw [List.length_append, Sh.turn_length, HL.out]; omega)
      rw [HLL.out, List.append_assoc] at this
      exact this⟩
     clear hcell hlc hpb hpC
     go_wp2_with fail
     refine HF.out.mono ?_
     rintro e w4 ⟨rfl, ⟨r4, h4⟩, g4⟩
     have HP4 := az (HP.out.next h4 g4)
     clear h4 g4 HF HP hx
     go_wp2_with fail
     exact ⟨⟨i + 1, r4, by go_num, by omega, HP4⟩, by simp [intOf]; omega⟩
    ·obtain rfl : i = n := by omega
     obtain ⟨D, HDD⟩ : ∃ D, Aside0 (Sh.u8s (Sh.dig (Sh.turn kb t ++ Sh.cat ps i)) = D) := ⟨_, ⟨rfl⟩⟩
     have HF : Aside0 (Calls Tryz.prog 118 #[.pointer (some ⟨hb, 0, none⟩)] wr fun e w' => e = .returned (.agg D) ∧ Below wr.heap.size wr w') := ⟨by
      have := sum_.calls hb (Sh.turn kb t ++ Sh.cat ps i) r wr HP.out.h (HK.out.below HP.out.g) (Sh.app_bytes (Sh.turn_bytes _ _) (Sh.cat_bytes ps i (fun j hj => (HR.out j hj).choose_spec.2.2.2.1) i (Nat.le_refl _))) (by rw [List.length_append, Sh.turn_length, HL.out]; have := HLN.out i (Nat.le_refl _); omega)
      rw [HDD.out] at this
      exact this⟩
     go_wp2_with fail
     refine HF.out.mono ?_
     rintro e w4 ⟨rfl, hb4⟩
     have HB4 : Aside0 (Below w.heap.size w w4) := ⟨below_then HP.out.g HP.out.g.size hb4⟩
     have HO4 : Aside0 (w4.heap[w.heap.size + 1]? = some (.cells (Sh.u8s (List.replicate 32 0)) 152 (0, 0))) := ⟨(hb4.block _ (Array.getElem?_eq_some_iff.1 HP.out.o).1).trans HP.out.o⟩
     clear hb4 HF HP
     have hl32 := Sh.dig_length (Sh.turn kb t ++ Sh.cat ps i)
     have hDs : D.size = 32 := by rw [← HDD.out]; simp [Sh.u8s, hl32]
     have HS : Aside0 ((Tryz.prog.info? 152).map (·.size) = some D.size) := ⟨by rw [hDs]; kernel_rfl⟩
     have HZ2 : Aside0 ((Sh.u8s (List.replicate 32 0)).size = D.size) := ⟨by rw [hDs]; rfl⟩
     have HONE : Aside0 (D.all (·.oneCell') = true) := ⟨by rw [← HDD.out]; simp [Sh.u8s, Value.oneCell']⟩
     clear hDs hl32
     go_wp2_with (refine wpList_store_row rfl 152 (.tmp 6) (.tmp 36) rfl (w.heap.size + 1) D rfl rfl 152 _ HO4.out HS.out HZ2.out HONE.out ?_)
     refine ⟨rfl, .agg D, ?_, by rw [HDD.out], below_setRow HB4.out (Nat.le_succ _) D⟩
     exact results_cell_row rfl _ _ (w.heap.size + 1) 152 D (0, 0) _ rfl (setRow_heap w4 (w.heap.size + 1) _ D _ _ HO4.out) Tryz.underlying152 rfl HS.out
namespace Sh
theorem Rows.below {w W : World} {B : Option Addr} {n : Nat} {ps : Nat → List Int} {As : Nat → Option Addr} {Cs : Nat → Nat} (h : Rows w B n ps As Cs) (hb : Below w.heap.size w W) : Rows W B n ps As Cs := fun i hi => by
  obtain ⟨ad, h1, h2, h3, h4, h5⟩ := h i hi
  exact ⟨ad, h1, (hb.cell (World.block_lt_of_cell? w _ h2)).trans h2, h3, h4, Kd.C_below h5 hb⟩
theorem row_fill (l : List Int) (n m : Nat) (hm : l.length = m) : ((u8s (List.replicate n 0)).toList.take 0 ++ (l.map (Value.int .u8) ++ (u8s (List.replicate n 0)).toList.drop (0 + m))).toArray = u8s (l ++ List.replicate (n - m) 0) := by
  unfold u8s
  rw [List.take_zero, List.nil_append, Nat.zero_add, List.toList_toArray, List.map_append, ← List.map_drop, List.drop_replicate]
theorem copy64 {W : World} {g : Nat} (ty : TypeId) (A : Option Addr) (m c2 : Nat) (l : List Int) (hg : W.heap[g]? = some (.cells (u8s (List.replicate 64 0)) 165 (0, 0))) (hC : Kd.C (Kd.int .u8) W A m l) (hm : l.length = m) (h64 : m ≤ 64) :
    ∃ W', (Builtin.copy_ #[35, 35] ty #[.slice (some ⟨g, 0, none⟩) 64 64, .slice A m c2]).run Tryz.prog W = .ok (goInt m) W' ∧ W'.heap[g]? = some (.cells (u8s (l ++ List.replicate (64 - m) 0)) 165 (0, 0)) ∧ W.grownBy W' (some g) := by
  by_cases h0 : m = 0
  · subst h0
    obtain rfl := List.eq_nil_of_length_eq_zero hm
    exact ⟨W, run_copy_none (P := Tryz.prog) W 35 35 ty 5 _ _ 64 64 0 c2 (by kernel_rfl) (by kernel_rfl) (by simp), hg, gb_refl _ _⟩
  · obtain ⟨_, _, h3⟩ := Kd.reads_of_C (d := (0 : Int)) hC
    obtain ⟨ad, rfl, hcell⟩ := h3 (by omega)
    have hrun := run_copy_row (P := Tryz.prog) W 35 35 ty 5 g 0 64 64 ad m c2 (u8s (List.replicate 64 0)) 165 (l.map (Value.int .u8)) (by kernel_rfl) (by kernel_rfl) hg (by rw [List.length_map, hm]; exact (Nat.min_eq_left h64).symm)
      (fun j v hv => by
        rw [List.getElem?_map] at hv
        have hj : j < l.length := by
          rcases Nat.lt_or_ge j l.length with h | h
          · exact h
          · rw [List.getElem?_eq_none h] at hv; cases hv
        rw [hcell j (by omega)]
        rw [List.getElem?_eq_getElem hj] at hv
        rw [← hv, List.getD_eq_getElem?_getD, List.getElem?_eq_getElem hj]
        rfl)
      (by simp [u8s]; omega) (by intro v hv; simp only [List.mem_map] at hv; obtain ⟨x, _, rfl⟩ := hv; rfl)
    refine ⟨_, ?_, ?_, gb_row (gb_refl _ _) (u8s (l ++ List.replicate (64 - m) 0))⟩
    · rw [hrun, List.length_map, hm]
      congr 2
      rw [List.append_assoc]
      exact row_fill l 64 m hm
    · exact setRow_heap W g _ _ _ _ hg
theorem wpList_copy64 {ops : Array Oper} {rest : List Oper} {o : Oper} {a : Act} {W : World} {Q : Exit → Act → World → Prop} (hgd : o.guard = none) (d s : Operand)
    (ho : o.op = .call { callee := .builtin .copy, args := #[d, s], argTypes := #[35, 35] }) (g : Nat) (A : Option Addr) (m c2 : Nat) (l : List Int) (hd : a.eval d = .slice (some ⟨g, 0, none⟩) 64 64) (hs : a.eval s = .slice A m c2)
    (hg : W.heap[g]? = some (.cells (u8s (List.replicate 64 0)) 165 (0, 0))) (hC : Kd.C (Kd.int .u8) W A m l) (hm : l.length = m) (h64 : m ≤ 64)
    (h : ∀ W', W'.heap[g]? = some (.cells (u8s (l ++ List.replicate (64 - m) 0)) 165 (0, 0)) → W.grownBy W' (some g) → wpList Tryz.prog ops Q rest (a.put o.dst (goInt m)) W') : wpList Tryz.prog ops Q (o :: rest) a W := by
  refine wpList_plain hgd fun K hK => ?_
  obtain ⟨W', hrun, h1, h2⟩ := copy64 (g := g) o.type A m c2 l hg hC hm h64
  unfold Oper.wp
  simp [execOp, ho, resolve, invoke, builtin, hd, hs, hrun, Result.andThen]
  exact hK _ _ (h W' h1 h2)
theorem step_copy64 {ops : Array Oper} {o : Oper} {a : Act} {W : World} {K : Act → World → Prop} {Q : Exit → Act → World → Prop} {E : Prop} (hgd : o.guard = none) (d s : Operand)
    (ho : o.op = .call { callee := .builtin .copy, args := #[d, s], argTypes := #[35, 35] }) (g : Nat) (A : Option Addr) (m c2 : Nat) (l : List Int) (hd : a.eval d = .slice (some ⟨g, 0, none⟩) 64 64) (hs : a.eval s = .slice A m c2)
    (hg : W.heap[g]? = some (.cells (u8s (List.replicate 64 0)) 165 (0, 0))) (hC : Kd.C (Kd.int .u8) W A m l) (hm : l.length = m) (h64 : m ≤ 64)
    (h : ∀ W', W'.heap[g]? = some (.cells (u8s (l ++ List.replicate (64 - m) 0)) 165 (0, 0)) → W.grownBy W' (some g) → K (a.put o.dst (goInt m)) W') : if Region.wanted o (yielded ops a.tmps) = true then Oper.wp Tryz.prog o a W K Q else E := by
  have hw : Region.wanted o (yielded ops a.tmps) = true := by simp [Region.wanted, hgd]
  rw [if_pos hw]
  obtain ⟨W', hrun, h1, h2⟩ := copy64 (g := g) o.type A m c2 l hg hC hm h64
  unfold Oper.wp
  simp [execOp, ho, resolve, invoke, builtin, hd, hs, hrun, Result.andThen]
  exact h W' h1 h2
theorem slice_all32 (b : Nat) (W : World) :
    (Instr.sliceAt 152 (.pointer (some ⟨b, 0, none⟩)) none none none).run Tryz.prog W = .ok (.slice (some ⟨b, 0, none⟩) 32 32) W := by
  rw [run_sliceAt_array_all W 152 ⟨b, 0, none⟩ (by kernel_rfl)]
  rw [show Tryz.prog.arrayLen 152 = 32 by kernel_rfl, show Tryz.prog.elem 152 = 5 by kernel_rfl]
  rw [show (sizeOf 5).run Tryz.prog W = .ok 1 W by kernel_rfl]
  simp [Result.andThen, slicedAt, Addr.add]
theorem load64_exec {oi : Oper} {x : Operand} {a : Act} {w' : World} {b : Nat} {D : Array Value} (ho : oi.op = .load 165 x) (hx : a.eval x = .pointer (some ⟨b, 0, none⟩)) (hg : w'.heap[b]? = some (.cells D 165 (0, 0))) (hi : (Tryz.prog.info? 165).map (·.size) = some D.size) :
    (execOp a.eval oi).run Tryz.prog w' = .ok (.value (.agg D)) w' := by
  unfold execOp
  simp only [ho, hx, Instr.loadAt, Instr.sureAddr, Sem.run_bind, Sem.run_pure, Result.andThen_ok, run_loadVar_row w' b 165 165 D (0, 0) _ hg Tryz.underlying165 rfl hi]
theorem store_exec {oi : Oper} {x y : Operand} {a : Act} {w' : World} {b : Nat} {C D : Array Value} (ho : oi.op = .store 152 x y) (hx : a.eval x = .pointer (some ⟨b, 0, none⟩)) (hy : a.eval y = .agg D) (hg : w'.heap[b]? = some (.cells C 152 (0, 0))) (hi : (Tryz.prog.info? 152).map (·.size) = some D.size)
    (hold : C.size = D.size) (h1 : D.all (·.oneCell') = true) : (execOp a.eval oi).run Tryz.prog w' = .ok .skip (w'.setRow b D) := by
  unfold execOp
  simp only [ho, hx, hy, Instr.storeAt, Instr.sureAddr, Sem.run_bind, Sem.run_pure, Result.andThen_ok, run_storeVar_row w' b 152 152 C D hg hi hold h1]
theorem store_new (w5 : World) (D : Array Value) : ((w5.alloc (.cells (u8s (List.replicate 32 0)) 152)).setRow w5.heap.size D).heap[w5.heap.size]? = some (.cells D 152 (0, 0)) ∧ Below w5.heap.size w5 ((w5.alloc (.cells (u8s (List.replicate 32 0)) 152)).setRow w5.heap.size D) :=
  ⟨setRow_heap _ _ _ _ _ _ (heap_alloc_new w5 _), below_setRow (below_alloc (Below.refl _ _) _) (Nat.le_refl _) D⟩
theorem dig_info (l : List Int) : (Tryz.prog.info? 152).map (·.size) = some (u8s (dig l)).size := by
  rw [show (u8s (dig l)).size = 32 by simp [u8s, dig_length l]]
  kernel_rfl
theorem dig_zeros (l : List Int) : (u8s (List.replicate 32 0)).size = (u8s (dig l)).size := by
  rw [show (u8s (dig l)).size = 32 by simp [u8s, dig_length l]]
  rfl
theorem dig_one (l : List Int) : (u8s (dig l)).all (·.oneCell') = true := by simp [u8s, Value.oneCell']
theorem info64 (l : List Int) (h : l.length = 64) : (Tryz.prog.info? 165).map (·.size) = some (u8s l).size := by
  rw [show (u8s l).size = 64 by simp [u8s, h]]
  kernel_rfl
theorem below_step2 {w W W2 : World} (h : Below w.heap.size w W) (hb : Below W.heap.size W W2) : Below w.heap.size w W2 := below_then h h.size hb
theorem one_row {W : World} {b m : Nat} {l : List Int} (hw : W.cell? ⟨b, 0, none⟩ = some (.slice (some ⟨m, 0, none⟩) 32 32)) (hl : l.length = 32) (hb : Bytes l) (hC : Kd.C (Kd.int .u8) W (some ⟨m, 0, none⟩) 32 l) : Rows W (some ⟨b, 0, none⟩) 1 (fun _ => l) (fun _ => some ⟨m, 0, none⟩) (fun _ => 32) := fun i hi => by
  obtain rfl : i = 0 := by omega
  refine ⟨_, rfl, ?_, by rw [hl]; exact Nat.le_refl _, hb, by rw [hl]; exact hC⟩
  rw [hl, Addr.add_zero']
  exact hw
end Sh
theorem of_.calls (A : Option Addr) (c : Nat) (key : List Int) (B : Option Addr) (n cB : Nat) (ps : Nat → List Int) (As : Nat → Option Addr) (Cs : Nat → Nat) (w : World) (hk : Sh.Ks w) (hrk : Kd.C (Kd.int .u8) w A key.length key) (hc : key.length ≤ c) (hby : Sh.Bytes key) (hlk : key.length ≤ 1099510000000) (hn : n ≤ 9223372036854775807)
  (hr : Sh.Rows w B n ps As Cs) (hlen : ∀ i, i ≤ n → (Sh.cat ps i).length ≤ 1099510000000) :
  Calls Tryz.prog 104 #[.slice A key.length c, .slice B n cB] w fun e w' => e = .returned (.agg (Sh.u8s (Sh.hm key (Sh.cat ps n)))) ∧ Below w.heap.size w w' := by
 have HR := az hr
 have HK := az hk
 have HRK := az hrk
 have HBY := az hby
 have HLN := az hlen
 clear hr hk hrk hby hlen
 obtain ⟨N, HN⟩ : ∃ N, Aside0 (key.length = N) := ⟨_, ⟨rfl⟩⟩
 have hcN : N ≤ c := by rw [← HN.out]; exact hc
 have hlN : N ≤ 1099510000000 := by rw [← HN.out]; exact hlk
 rw [HN.out]
 obtain ⟨W0, HW0⟩ : ∃ W, Aside0 ((w.alloc (.cells (Sh.u8s (List.replicate 32 0)) 152)).alloc (.cells (Sh.u8s (List.replicate 64 0)) 165) = W) := ⟨_, ⟨rfl⟩⟩
 have HO0 : Aside0 (W0.heap[w.heap.size]? = some (.cells (Sh.u8s (List.replicate 32 0)) 152 (0, 0))) := ⟨by
  rw [← HW0.out]
  exact (Below.heap_alloc _ _ _ (by show w.heap.size < (w.heap.push _).size; simp)).trans (heap_alloc_new _ _)⟩
 have HK0 : Aside0 (W0.heap[w.heap.size + 1]? = some (.cells (Sh.u8s (List.replicate 64 0)) 165 (0, 0))) := ⟨by
  rw [← HW0.out]
  have := heap_alloc_new (w.alloc (.cells (Sh.u8s (List.replicate 32 0)) 152)) (.cells (Sh.u8s (List.replicate 64 0)) 165)
  rwa [show (w.alloc (.cells (Sh.u8s (List.replicate 32 0)) 152)).heap.size = w.heap.size + 1 by show (w.heap.push _).size = _; simp] at this⟩
 have HB0 : Aside0 (Below w.heap.size w W0) := ⟨by rw [← HW0.out]; exact below_alloc (below_alloc (Below.refl _ _) _) _⟩
 obtain ⟨KB, HKBd⟩ : ∃ K, Aside0 (Sh.u8s (Sh.kblock key) = K) := ⟨_, ⟨rfl⟩⟩
 have HI64 : Aside0 ((Tryz.prog.info? 165).map (·.size) = some KB.size) := ⟨by rw [← HKBd.out]; exact Sh.info64 _ (Sh.kblock_length key)⟩
 obtain ⟨D1, HD1⟩ : ∃ D, Aside0 (Sh.u8s (Sh.dig (Sh.turn (Sh.kblock key) 54 ++ Sh.cat ps n)) = D) := ⟨_, ⟨rfl⟩⟩
 have HI1 : Aside0 ((Tryz.prog.info? 152).map (·.size) = some D1.size) := ⟨by rw [← HD1.out]; exact Sh.dig_info _⟩
 have HZ1 : Aside0 ((Sh.u8s (List.replicate 32 0)).size = D1.size) := ⟨by rw [← HD1.out]; exact Sh.dig_zeros _⟩
 have HE1 : Aside0 (D1.all (·.oneCell') = true) := ⟨by rw [← HD1.out]; exact Sh.dig_one _⟩
 go_enter Tryz.func104, Tryz.ntmps104
 by_cases h64 : 64 < N
 ·go_wp2_with fail
  change Calls _ _ _ ((w.alloc (.cells (Sh.u8s (List.replicate 32 0)) 152)).alloc (.cells (Sh.u8s (List.replicate 64 0)) 165)) _
  rw [HW0.out]
  refine (new_.calls W0).mono ?_
  rintro e w1 ⟨rfl, h1, hb1⟩
  obtain ⟨hb, HHB⟩ : ∃ b, Aside0 (W0.heap.size = b) := ⟨_, ⟨rfl⟩⟩
  have HNB : Aside0 (w.heap.size + 1 < hb) := ⟨by rw [← HHB.out]; exact (Array.getElem?_eq_some_iff.1 HK0.out).1⟩
  rw [HHB.out] at h1 ⊢
  have H1 := az h1
  have HB1 : Aside0 (Below w.heap.size w w1) := ⟨below_then HB0.out HB0.out.size hb1⟩
  have HK1 : Aside0 (w1.heap[w.heap.size + 1]? = some (.cells (Sh.u8s (List.replicate 64 0)) 165 (0, 0)) ∧ w1.heap[w.heap.size]? = some (.cells (Sh.u8s (List.replicate 32 0)) 152 (0, 0))) := ⟨(hb1.block _ (Array.getElem?_eq_some_iff.1 HK0.out).1).trans HK0.out, (hb1.block _ (Array.getElem?_eq_some_iff.1 HO0.out).1).trans HO0.out⟩
  clear h1 hb1 HHB HB0 HK0 HO0 HW0
  have HF : Aside0 (Calls Tryz.prog 117 #[.pointer (some ⟨hb, 0, none⟩), .slice A N c] w1 fun e w' => e = .returned (.tuple #[]) ∧ (∃ rest', Sh.Ha w' hb key rest') ∧ w1.grownBy w' (some hb)) := ⟨by
   have := write_.calls hb [] _ A c key w1 H1.out (by have := HNB.out; omega) (HK.out.below HB1.out) (Kd.C_below HRK.out HB1.out) (by rw [HN.out]; exact hcN) (fun hl a e => Sh.far_of_C HRK.out hl e (by have := HNB.out; omega)) HBY.out (by rw [HN.out]; simp; omega)
   rw [HN.out, List.nil_append] at this
   exact this⟩
  go_wp2_with fail
  refine HF.out.mono ?_
  rintro e w2 ⟨rfl, ⟨r2, h2⟩, g2⟩
  have H2 := az h2
  have HB2 : Aside0 (Below w.heap.size w w2) := ⟨Sh.below_of_gb HB1.out g2 (by have := HNB.out; omega)⟩
  have HK2 : Aside0 (w2.heap[w.heap.size + 1]? = some (.cells (Sh.u8s (List.replicate 64 0)) 165 (0, 0)) ∧ w2.heap[w.heap.size]? = some (.cells (Sh.u8s (List.replicate 32 0)) 152 (0, 0))) := ⟨(g2.block _ (Array.getElem?_eq_some_iff.1 HK1.out.1).1 (fun e => by have := Option.some.inj e; have := HNB.out; omega)).trans HK1.out.1, (g2.block _ (Array.getElem?_eq_some_iff.1 HK1.out.2).1 (fun e => by have := Option.some.inj e; have := HNB.out; omega)).trans HK1.out.2⟩
  clear h2 g2 HF HB1 HK1 H1
  obtain ⟨D0, HD0⟩ : ∃ D, Aside0 (Sh.u8s (Sh.dig key) = D) := ⟨_, ⟨rfl⟩⟩
  have HI0 : Aside0 ((Tryz.prog.info? 152).map (·.size) = some D0.size) := ⟨by rw [← HD0.out]; exact Sh.dig_info _⟩
  have HZ0 : Aside0 ((Sh.u8s (List.replicate 32 0)).size = D0.size) := ⟨by rw [← HD0.out]; exact Sh.dig_zeros _⟩
  have HE0 : Aside0 (D0.all (·.oneCell') = true) := ⟨by rw [← HD0.out]; exact Sh.dig_one _⟩
  have HF : Aside0 (Calls Tryz.prog 118 #[.pointer (some ⟨hb, 0, none⟩)] w2 fun e w' => e = .returned (.agg D0) ∧ Below w2.heap.size w2 w') := ⟨by
   have := sum_.calls hb key r2 w2 H2.out (HK.out.below HB2.out) HBY.out (by rw [HN.out]; omega)
   rw [HD0.out] at this
   exact this⟩
  go_wp2_with fail
  refine HF.out.mono ?_
  rintro e w3 ⟨rfl, hb3⟩
  have HB3 : Aside0 (Below w.heap.size w w3) := ⟨below_then HB2.out HB2.out.size hb3⟩
  have HK3 : Aside0 (w3.heap[w.heap.size + 1]? = some (.cells (Sh.u8s (List.replicate 64 0)) 165 (0, 0)) ∧ w3.heap[w.heap.size]? = some (.cells (Sh.u8s (List.replicate 32 0)) 152 (0, 0))) := ⟨(hb3.block _ (Array.getElem?_eq_some_iff.1 HK2.out.1).1).trans HK2.out.1, (hb3.block _ (Array.getElem?_eq_some_iff.1 HK2.out.2).1).trans HK2.out.2⟩
  have HX3 := az (Sh.store_new w3 D0)
  have HO4 : Aside0 ((w3.alloc (.cells (Sh.u8s (List.replicate 32 0)) 152)).heap[w3.heap.size]? = some (.cells (Sh.u8s (List.replicate 32 0)) 152 (0, 0))) := ⟨heap_alloc_new w3 _⟩
  clear hb3 HF HB2 HK2 H2
  go_wp2_with (refine wpList_store_row rfl 152 (.tmp 7) (.tmp 17) rfl w3.heap.size D0 rfl rfl 152 _ HO4.out HI0.out HZ0.out HE0.out ?_; generalize hWq : World.setRow _ w3.heap.size D0 = W4; have HX4 : Aside0 (W4.heap[w3.heap.size]? = some (.cells D0 152 (0, 0)) ∧ Below w3.heap.size w3 W4) := ⟨by rw [← hWq]; exact HX3.out⟩; clear hWq)
  obtain ⟨b7, HB7⟩ : ∃ b, Aside0 (w3.heap.size = b) := ⟨_, ⟨rfl⟩⟩
  have HC7 : Aside0 (Kd.C (Kd.int .u8) W4.drew (some ⟨b7, 0, none⟩) 32 (Sh.dig key)) := ⟨by
   have h7 : W4.drew.heap[b7]? = some (.cells D0 152 (0, 0)) := by rw [← HB7.out]; exact HX4.out.1
   have := Lit.reads_block h7 .u8 (Sh.dig key) (by rw [← HD0.out]; simp [Sh.u8s]) (by rw [Sh.dig_length]; decide)
   rwa [Sh.dig_length] at this⟩
  have HK4 : Aside0 (W4.drew.heap[w.heap.size + 1]? = some (.cells (Sh.u8s (List.replicate 64 0)) 165 (0, 0)) ∧ W4.drew.heap[w.heap.size]? = some (.cells (Sh.u8s (List.replicate 32 0)) 152 (0, 0))) := ⟨(HX4.out.2.block _ (Array.getElem?_eq_some_iff.1 HK3.out.1).1).trans HK3.out.1, (HX4.out.2.block _ (Array.getElem?_eq_some_iff.1 HK3.out.2).1).trans HK3.out.2⟩
  have HG4 : Aside0 (Below w.heap.size w W4.drew) := ⟨(below_then HB3.out HB3.out.size HX4.out.2).drew⟩
  rw [HB7.out]
  clear HX4 HX3 HO4 HK3 HB3 HB7 HD0 HI0 HZ0 HE0
  have hs1 := Sh.slice_all (w.heap.size + 1)
  have hs2 := Sh.slice_all32 b7
  go_wp2_with fail
  refine wp_region_noPanic ?_
  refine Rg.s1 3 (fun _ => True) [2] trivial #[false, false, false] (fun hHeld => ?_)
  refine Rg.p1 0 (.some 18) ?_
  refine Rg.p1 1 (.some 19) ?_
  refine Rg.l1 2 (.some 20) (fun K hK => ?_)
  refine Sh.step_copy64 rfl (.tmp 18) (.tmp 19) rfl (w.heap.size + 1) (some ⟨b7, 0, none⟩) 32 32 (Sh.dig key) rfl rfl HK4.out.1 HC7.out (Sh.dig_length key) (by decide) ?_
  intro W hkw hgw
  have HKW : Aside0 (W.heap[w.heap.size + 1]? = some (.cells KB 165 (0, 0))) := ⟨by rw [hkw, ← HKBd.out, Sh.kblock, if_pos (by rw [HN.out]; exact h64)]⟩
  have HOW : Aside0 (W.heap[w.heap.size]? = some (.cells (Sh.u8s (List.replicate 32 0)) 152 (0, 0))) := ⟨(hgw.block _ (Array.getElem?_eq_some_iff.1 HK4.out.2).1 (fun e => by have := Option.some.inj e; omega)).trans HK4.out.2⟩
  have HGW : Aside0 (Below w.heap.size w W) := ⟨Sh.below_of_gb HG4.out hgw (Nat.le_succ _)⟩
  clear hkw hgw
  refine hK.out _ _ ?_
  clear hK K
  refine Rg.n1 ?_
  refine Rg.d1 ?_
  clear hs1 hs2 HK4 HC7 HG4
  refine NoPanic.normal ?_
  go_wp2_with (refine wpList_load_row rfl 165 (.tmp 5) rfl (w.heap.size + 1) rfl 165 KB (0, 0) _ HKW.out Tryz.underlying165 rfl HI64.out ?_)
  have HF : Aside0 (Calls Tryz.prog 119 #[.agg KB, .int .u8 54, .slice B n cB] W fun e w' => e = .returned (.agg D1) ∧ Below W.heap.size W w') := ⟨by
   have := digest_.calls (Sh.kblock key) 54 B n cB ps As Cs W (HK.out.below HGW.out) (Sh.kblock_length key) (Sh.kblock_bytes key HBY.out) hn (HR.out.below HGW.out) HLN.out
   rw [HKBd.out, HD1.out] at this
   exact this⟩
  refine HF.out.mono ?_
  rintro e w5 ⟨rfl, hb5⟩
  have HB5 : Aside0 (Below w.heap.size w w5) := ⟨below_then HGW.out HGW.out.size hb5⟩
  have HK5 : Aside0 (w5.heap[w.heap.size + 1]? = some (.cells KB 165 (0, 0))) := ⟨(hb5.block _ (Array.getElem?_eq_some_iff.1 HKW.out).1).trans HKW.out⟩
  have HO5 : Aside0 (w5.heap[w.heap.size]? = some (.cells (Sh.u8s (List.replicate 32 0)) 152 (0, 0))) := ⟨(hb5.block _ (Array.getElem?_eq_some_iff.1 HOW.out).1).trans HOW.out⟩
  have HX5 := az (Sh.store_new w5 D1)
  have HO6 : Aside0 ((w5.alloc (.cells (Sh.u8s (List.replicate 32 0)) 152)).heap[w5.heap.size]? = some (.cells (Sh.u8s (List.replicate 32 0)) 152 (0, 0))) := ⟨heap_alloc_new w5 _⟩
  clear hb5 HF HKW HOW
  go_wp2_with (refine wpList_store_row rfl 152 (.tmp 8) (.tmp 26) rfl w5.heap.size D1 rfl rfl 152 _ HO6.out HI1.out HZ1.out HE1.out ?_; generalize hWq : World.setRow _ w5.heap.size D1 = W6; have HX6 : Aside0 (W6.heap[w5.heap.size]? = some (.cells D1 152 (0, 0)) ∧ Below w5.heap.size w5 W6) := ⟨by rw [← hWq]; exact HX5.out⟩; clear hWq)
  obtain ⟨b8, HB8⟩ : ∃ b, Aside0 (w5.heap.size = b) := ⟨_, ⟨rfl⟩⟩
  have HX8 : Aside0 (W6.heap[b8]? = some (.cells D1 152 (0, 0))) := ⟨by rw [← HB8.out]; exact HX6.out.1⟩
  have HK6 : Aside0 (W6.heap[w.heap.size + 1]? = some (.cells KB 165 (0, 0))) := ⟨(HX6.out.2.block _ (Array.getElem?_eq_some_iff.1 HK5.out).1).trans HK5.out⟩
  have HO7 : Aside0 (W6.heap[w.heap.size]? = some (.cells (Sh.u8s (List.replicate 32 0)) 152 (0, 0))) := ⟨(HX6.out.2.block _ (Array.getElem?_eq_some_iff.1 HO5.out).1).trans HO5.out⟩
  have HG6 : Aside0 (Below w.heap.size w W6) := ⟨below_then HB5.out HB5.out.size HX6.out.2⟩
  rw [HB8.out]
  clear HX6 HK5 HO5 HO6 HX5 HB5 HB8
  have hsl := Sh.slice_all32 b8
  obtain ⟨D2, HD2⟩ : ∃ D, Aside0 (Sh.u8s (Sh.hm key (Sh.cat ps n)) = D) := ⟨_, ⟨rfl⟩⟩
  have HI2 : Aside0 ((Tryz.prog.info? 152).map (·.size) = some D2.size) := ⟨by rw [← HD2.out]; exact Sh.dig_info _⟩
  have HZ2 : Aside0 ((Sh.u8s (List.replicate 32 0)).size = D2.size) := ⟨by rw [← HD2.out]; exact Sh.dig_zeros _⟩
  have HE2 : Aside0 (D2.all (·.oneCell') = true) := ⟨by rw [← HD2.out]; exact Sh.dig_one _⟩
  have HRUN : Aside0 (∀ W9 b9, Below W6.heap.size W6 W9 → W9.cell? ⟨b9, 0, none⟩ = some (.slice (some ⟨b8, 0, none⟩) 32 32) → Calls Tryz.prog 119 #[.agg KB, .int .u8 92, .slice (some ⟨b9, 0, none⟩) 1 1] W9 fun e w' => e = .returned (.agg D2) ∧ Below W9.heap.size W9 w') := ⟨fun W9 b9 hW hcell => by
   have hb := below_then HG6.out HG6.out.size hW
   have h8 : W9.heap[b8]? = some (.cells D1 152 (0, 0)) := (hW.block _ (Array.getElem?_eq_some_iff.1 HX8.out).1).trans HX8.out
   have hC : Kd.C (Kd.int .u8) W9 (some ⟨b8, 0, none⟩) 32 (Sh.dig (Sh.turn (Sh.kblock key) 54 ++ Sh.cat ps n)) := by
    have := Lit.reads_block h8 .u8 (Sh.dig (Sh.turn (Sh.kblock key) 54 ++ Sh.cat ps n)) (by rw [← HD1.out]; simp [Sh.u8s]) (by rw [Sh.dig_length]; decide)
    rwa [Sh.dig_length] at this
   have := digest_.calls (Sh.kblock key) 92 (some ⟨b9, 0, none⟩) 1 1 (fun _ => Sh.dig (Sh.turn (Sh.kblock key) 54 ++ Sh.cat ps n)) (fun _ => some ⟨b8, 0, none⟩) (fun _ => 32) W9 (HK.out.below hb) (Sh.kblock_length key) (Sh.kblock_bytes key HBY.out) (by decide)
    (Sh.one_row hcell (Sh.dig_length _) (Sh.dig_bytes _) hC) (fun i hi => by
     rcases (show i = 0 ∨ i = 1 by omega) with rfl | rfl
     ·simp [Sh.cat]
     ·simp [Sh.cat, Sh.dig_length])
   rw [HKBd.out] at this
   have e : Sh.u8s (Sh.dig (Sh.turn (Sh.kblock key) 92 ++ Sh.cat (fun _ => Sh.dig (Sh.turn (Sh.kblock key) 54 ++ Sh.cat ps n)) 1)) = D2 := by rw [← HD2.out]; rfl
   rw [e] at this
   exact this⟩
  have HKX : Aside0 (∀ W, Below W6.heap.size W6 W → W.heap[w.heap.size + 1]? = some (.cells KB 165 (0, 0)) ∧ W.heap[w.heap.size]? = some (.cells (Sh.u8s (List.replicate 32 0)) 152 (0, 0))) := ⟨fun W hW => ⟨(hW.block _ (Array.getElem?_eq_some_iff.1 HK6.out).1).trans HK6.out, (hW.block _ (Array.getElem?_eq_some_iff.1 HO7.out).1).trans HO7.out⟩⟩
  clear HK6 HO7 HX8 HD1
  go_wp2_with fail
  refine wp_region_noPanic ?_
  refine Rg.s1 5 (fun w' => Below W6.heap.size W6 w') [4] (Below.refl _ _).drew #[false, false, false, false, false] (fun hHeld => ?_)
  refine Rg.t1 0 (.some 27) hHeld ?_ (hy := by intro w' hS'; (refine (Sh.load64_exec (x := .tmp 5) rfl rfl (HKX.out _ hS').1 HI64.out).trans ?_); first | done | with_reducible rfl)
  refine Rg.p1 1 (.some 28) ?_
  refine Rg.o1 2 (.some 29) (fun K hK => ?_)
  refine value_ (w1 := W6.drew.alloc (.cells #[.slice (some ⟨b8, 0, none⟩) 32 32] 35)) (v := .slice (some ⟨W6.drew.heap.size, 0, none⟩) 1 1) (by rfl) rfl (by go_simp) ?_
  have HQ : Aside0 (Below W6.heap.size W6 (W6.drew.alloc (.cells #[.slice (some ⟨b8, 0, none⟩) 32 32] 35))) := ⟨((Below.refl _ W6).drew).alloc (Nat.le_refl _) _⟩
  refine hK.out _ _ HQ.out (fun hHeld => ?_)
  clear hK K
  refine Rg.n1 ?_
  refine Rg.o1 3 (.some 30) (fun K hK => ?_)
  refine call_ 119 #[.agg KB, .int .u8 92, .slice (some ⟨W6.drew.heap.size, 0, none⟩) 1 1] (by rfl) rfl (by go_simp) ?_
  refine (HRUN.out _ _ hHeld (Lit.cell_new W6.drew #[.slice (some ⟨b8, 0, none⟩) 32 32] 35 (0, 0) 0)).mono ?_
  rintro e w9 ⟨rfl, hb9⟩
  have HQ2 := az (Sh.below_step2 hHeld hb9)
  clear hb9
  refine ⟨_, rfl, ?_⟩
  refine hK.out _ _ HQ2.out (fun hHeld => ?_)
  clear hK K
  refine Rg.n1 ?_
  refine Rg.l1 4 none (fun K hK => ?_)
  refine skip_ (w1 := w9.setRow w.heap.size D2) (by rfl) rfl (Sh.store_exec (x := .tmp 4) (y := .tmp 30) rfl rfl rfl (HKX.out _ HQ2.out).2 HI2.out HZ2.out HE2.out) ?_
  refine hK.out _ _ ?_
  clear hK K
  refine Rg.d1 ?_
  have HBF : Aside0 (Below w.heap.size w (w9.setRow w.heap.size D2)) := ⟨below_setRow (below_then HG6.out HG6.out.size HQ2.out) (Nat.le_refl _) D2⟩
  have HOF : Aside0 ((w9.setRow w.heap.size D2).heap[w.heap.size]? = some (.cells D2 152 (0, 0))) := ⟨setRow_heap w9 w.heap.size _ D2 _ _ (HKX.out _ HQ2.out).2⟩
  generalize w9.setRow w.heap.size D2 = WF at *
  refine NoPanic.normal ?_
  go_wp2_with fail
  refine ⟨rfl, .agg D2, ?_, by rw [HD2.out], HBF.out⟩
  exact results_cell_row rfl _ _ w.heap.size 152 D2 (0, 0) _ rfl HOF.out Tryz.underlying152 rfl HI2.out
 ·have hs1 := Sh.slice_all (w.heap.size + 1)
  have HK0' : Aside0 (((w.alloc (.cells (Sh.u8s (List.replicate 32 0)) 152)).alloc (.cells (Sh.u8s (List.replicate 64 0)) 165)).heap[w.heap.size + 1]? = some (.cells (Sh.u8s (List.replicate 64 0)) 165 (0, 0))) := ⟨by rw [HW0.out]; exact HK0.out⟩
  have HC0' : Aside0 (Kd.C (Kd.int .u8) ((w.alloc (.cells (Sh.u8s (List.replicate 32 0)) 152)).alloc (.cells (Sh.u8s (List.replicate 64 0)) 165)) A N key) := ⟨by
   rw [HW0.out]
   have := Kd.C_below HRK.out HB0.out
   rwa [HN.out] at this⟩
  go_wp2_with (first | (refine Sh.wpList_copy64 rfl (.tmp 21) (.tmp 22) rfl (w.heap.size + 1) A N c key rfl rfl HK0'.out HC0'.out HN.out (by omega) ?_; intro W hkw hgw; have HKW : Aside0 (W.heap[w.heap.size + 1]? = some (.cells KB 165 (0, 0))) := ⟨by rw [hkw, ← HKBd.out, Sh.kblock, if_neg (by rw [HN.out]; exact h64), HN.out]⟩; have HGW0 : Aside0 (W0.grownBy W (some (w.heap.size + 1))) := ⟨HW0.out ▸ hgw⟩; clear hkw hgw) | (refine wpList_load_row rfl 165 (.tmp 5) rfl (w.heap.size + 1) rfl 165 KB (0, 0) _ HKW.out Tryz.underlying165 rfl HI64.out ?_))
  have HOW : Aside0 (W.heap[w.heap.size]? = some (.cells (Sh.u8s (List.replicate 32 0)) 152 (0, 0))) := ⟨(HGW0.out.block _ (Array.getElem?_eq_some_iff.1 HO0.out).1 (fun e => by have := Option.some.inj e; omega)).trans HO0.out⟩
  have HGW : Aside0 (Below w.heap.size w W) := ⟨Sh.below_of_gb HB0.out HGW0.out (Nat.le_succ _)⟩
  clear hs1 HK0' HC0' HGW0 HO0 HK0 HB0 HW0
  have HF : Aside0 (Calls Tryz.prog 119 #[.agg KB, .int .u8 54, .slice B n cB] W fun e w' => e = .returned (.agg D1) ∧ Below W.heap.size W w') := ⟨by
   have := digest_.calls (Sh.kblock key) 54 B n cB ps As Cs W (HK.out.below HGW.out) (Sh.kblock_length key) (Sh.kblock_bytes key HBY.out) hn (HR.out.below HGW.out) HLN.out
   rw [HKBd.out, HD1.out] at this
   exact this⟩
  refine HF.out.mono ?_
  rintro e w5 ⟨rfl, hb5⟩
  have HB5 : Aside0 (Below w.heap.size w w5) := ⟨below_then HGW.out HGW.out.size hb5⟩
  have HK5 : Aside0 (w5.heap[w.heap.size + 1]? = some (.cells KB 165 (0, 0))) := ⟨(hb5.block _ (Array.getElem?_eq_some_iff.1 HKW.out).1).trans HKW.out⟩
  have HO5 : Aside0 (w5.heap[w.heap.size]? = some (.cells (Sh.u8s (List.replicate 32 0)) 152 (0, 0))) := ⟨(hb5.block _ (Array.getElem?_eq_some_iff.1 HOW.out).1).trans HOW.out⟩
  have HX5 := az (Sh.store_new w5 D1)
  have HO6 : Aside0 ((w5.alloc (.cells (Sh.u8s (List.replicate 32 0)) 152)).heap[w5.heap.size]? = some (.cells (Sh.u8s (List.replicate 32 0)) 152 (0, 0))) := ⟨heap_alloc_new w5 _⟩
  clear hb5 HF HKW HOW
  go_wp2_with (refine wpList_store_row rfl 152 (.tmp 8) (.tmp 26) rfl w5.heap.size D1 rfl rfl 152 _ HO6.out HI1.out HZ1.out HE1.out ?_; generalize hWq : World.setRow _ w5.heap.size D1 = W6; have HX6 : Aside0 (W6.heap[w5.heap.size]? = some (.cells D1 152 (0, 0)) ∧ Below w5.heap.size w5 W6) := ⟨by rw [← hWq]; exact HX5.out⟩; clear hWq)
  obtain ⟨b8, HB8⟩ : ∃ b, Aside0 (w5.heap.size = b) := ⟨_, ⟨rfl⟩⟩
  have HX8 : Aside0 (W6.heap[b8]? = some (.cells D1 152 (0, 0))) := ⟨by rw [← HB8.out]; exact HX6.out.1⟩
  have HK6 : Aside0 (W6.heap[w.heap.size + 1]? = some (.cells KB 165 (0, 0))) := ⟨(HX6.out.2.block _ (Array.getElem?_eq_some_iff.1 HK5.out).1).trans HK5.out⟩
  have HO7 : Aside0 (W6.heap[w.heap.size]? = some (.cells (Sh.u8s (List.replicate 32 0)) 152 (0, 0))) := ⟨(HX6.out.2.block _ (Array.getElem?_eq_some_iff.1 HO5.out).1).trans HO5.out⟩
  have HG6 : Aside0 (Below w.heap.size w W6) := ⟨below_then HB5.out HB5.out.size HX6.out.2⟩
  rw [HB8.out]
  clear HX6 HK5 HO5 HO6 HX5 HB5 HB8
  have hsl := Sh.slice_all32 b8
  obtain ⟨D2, HD2⟩ : ∃ D, Aside0 (Sh.u8s (Sh.hm key (Sh.cat ps n)) = D) := ⟨_, ⟨rfl⟩⟩
  have HI2 : Aside0 ((Tryz.prog.info? 152).map (·.size) = some D2.size) := ⟨by rw [← HD2.out]; exact Sh.dig_info _⟩
  have HZ2 : Aside0 ((Sh.u8s (List.replicate 32 0)).size = D2.size) := ⟨by rw [← HD2.out]; exact Sh.dig_zeros _⟩
  have HE2 : Aside0 (D2.all (·.oneCell') = true) := ⟨by rw [← HD2.out]; exact Sh.dig_one _⟩
  have HRUN : Aside0 (∀ W9 b9, Below W6.heap.size W6 W9 → W9.cell? ⟨b9, 0, none⟩ = some (.slice (some ⟨b8, 0, none⟩) 32 32) → Calls Tryz.prog 119 #[.agg KB, .int .u8 92, .slice (some ⟨b9, 0, none⟩) 1 1] W9 fun e w' => e = .returned (.agg D2) ∧ Below W9.heap.size W9 w') := ⟨fun W9 b9 hW hcell => by
   have hb := below_then HG6.out HG6.out.size hW
   have h8 : W9.heap[b8]? = some (.cells D1 152 (0, 0)) := (hW.block _ (Array.getElem?_eq_some_iff.1 HX8.out).1).trans HX8.out
   have hC : Kd.C (Kd.int .u8) W9 (some ⟨b8, 0, none⟩) 32 (Sh.dig (Sh.turn (Sh.kblock key) 54 ++ Sh.cat ps n)) := by
    have := Lit.reads_block h8 .u8 (Sh.dig (Sh.turn (Sh.kblock key) 54 ++ Sh.cat ps n)) (by rw [← HD1.out]; simp [Sh.u8s]) (by rw [Sh.dig_length]; decide)
    rwa [Sh.dig_length] at this
   have := digest_.calls (Sh.kblock key) 92 (some ⟨b9, 0, none⟩) 1 1 (fun _ => Sh.dig (Sh.turn (Sh.kblock key) 54 ++ Sh.cat ps n)) (fun _ => some ⟨b8, 0, none⟩) (fun _ => 32) W9 (HK.out.below hb) (Sh.kblock_length key) (Sh.kblock_bytes key HBY.out) (by decide)
    (Sh.one_row hcell (Sh.dig_length _) (Sh.dig_bytes _) hC) (fun i hi => by
     rcases (show i = 0 ∨ i = 1 by omega) with rfl | rfl
     ·simp [Sh.cat]
     ·simp [Sh.cat, Sh.dig_length])
   rw [HKBd.out] at this
   have e : Sh.u8s (Sh.dig (Sh.turn (Sh.kblock key) 92 ++ Sh.cat (fun _ => Sh.dig (Sh.turn (Sh.kblock key) 54 ++ Sh.cat ps n)) 1)) = D2 := by rw [← HD2.out]; rfl
   rw [e] at this
   exact this⟩
  have HKX : Aside0 (∀ W, Below W6.heap.size W6 W → W.heap[w.heap.size + 1]? = some (.cells KB 165 (0, 0)) ∧ W.heap[w.heap.size]? = some (.cells (Sh.u8s (List.replicate 32 0)) 152 (0, 0))) := ⟨fun W hW => ⟨(hW.block _ (Array.getElem?_eq_some_iff.1 HK6.out).1).trans HK6.out, (hW.block _ (Array.getElem?_eq_some_iff.1 HO7.out).1).trans HO7.out⟩⟩
  clear HK6 HO7 HX8 HD1
  go_wp2_with fail
  refine wp_region_noPanic ?_
  refine Rg.s1 5 (fun w' => Below W6.heap.size W6 w') [4] (Below.refl _ _).drew #[false, false, false, false, false] (fun hHeld => ?_)
  refine Rg.t1 0 (.some 27) hHeld ?_ (hy := by intro w' hS'; (refine (Sh.load64_exec (x := .tmp 5) rfl rfl (HKX.out _ hS').1 HI64.out).trans ?_); first | done | with_reducible rfl)
  refine Rg.p1 1 (.some 28) ?_
  refine Rg.o1 2 (.some 29) (fun K hK => ?_)
  refine value_ (w1 := W6.drew.alloc (.cells #[.slice (some ⟨b8, 0, none⟩) 32 32] 35)) (v := .slice (some ⟨W6.drew.heap.size, 0, none⟩) 1 1) (by rfl) rfl (by go_simp) ?_
  have HQ : Aside0 (Below W6.heap.size W6 (W6.drew.alloc (.cells #[.slice (some ⟨b8, 0, none⟩) 32 32] 35))) := ⟨((Below.refl _ W6).drew).alloc (Nat.le_refl _) _⟩
  refine hK.out _ _ HQ.out (fun hHeld => ?_)
  clear hK K
  refine Rg.n1 ?_
  refine Rg.o1 3 (.some 30) (fun K hK => ?_)
  refine call_ 119 #[.agg KB, .int .u8 92, .slice (some ⟨W6.drew.heap.size, 0, none⟩) 1 1] (by rfl) rfl (by go_simp) ?_
  refine (HRUN.out _ _ hHeld (Lit.cell_new W6.drew #[.slice (some ⟨b8, 0, none⟩) 32 32] 35 (0, 0) 0)).mono ?_
  rintro e w9 ⟨rfl, hb9⟩
  have HQ2 := az (Sh.below_step2 hHeld hb9)
  clear hb9
  refine ⟨_, rfl, ?_⟩
  refine hK.out _ _ HQ2.out (fun hHeld => ?_)
  clear hK K
  refine Rg.n1 ?_
  refine Rg.l1 4 none (fun K hK => ?_)
  refine skip_ (w1 := w9.setRow w.heap.size D2) (by rfl) rfl (Sh.store_exec (x := .tmp 4) (y := .tmp 30) rfl rfl rfl (HKX.out _ HQ2.out).2 HI2.out HZ2.out HE2.out) ?_
  refine hK.out _ _ ?_
  clear hK K
  refine Rg.d1 ?_
  have HBF : Aside0 (Below w.heap.size w (w9.setRow w.heap.size D2)) := ⟨below_setRow (below_then HG6.out HG6.out.size HQ2.out) (Nat.le_refl _) D2⟩
  have HOF : Aside0 ((w9.setRow w.heap.size D2).heap[w.heap.size]? = some (.cells D2 152 (0, 0))) := ⟨setRow_heap w9 w.heap.size _ D2 _ _ (HKX.out _ HQ2.out).2⟩
  generalize w9.setRow w.heap.size D2 = WF at *
  refine NoPanic.normal ?_
  go_wp2_with fail
  refine ⟨rfl, .agg D2, ?_, by rw [HD2.out], HBF.out⟩
  exact results_cell_row rfl _ _ w.heap.size 152 D2 (0, 0) _ rfl HOF.out Tryz.underlying152 rfl HI2.out
namespace Sh
structure Two (w3 : World) (v7 v8 : Value) (a7 a8 : List Int) (wr : World) : Prop where
  r7 : Kd.R (Kd.int .u8) 5 wr w3.heap.size (fun k => some k ≠ v8.ownBlock) v7 a7
  r8 : Kd.R (Kd.int .u8) 5 wr w3.heap.size (fun k => some k ≠ v7.ownBlock) v8 a8
  g : Below w3.heap.size w3 wr
theorem own_lt {w : World} {e base : Nat} {ok : Nat → Prop} {v : Value} {xs : List Int} (h : Kd.R (Kd.int .u8) e w base ok v xs) (k : Nat) (hk : v.ownBlock = some k) : k < w.heap.size := ((Kd.R_bound h).1 k hk).2.2.1
theorem Two.fresh7 {w3 wr : World} {v7 v8 : Value} {a7 a8 : List Int} (h : Two w3 v7 v8 a7 a8 wr) (k : Nat) (hk : wr.heap.size ≤ k) : some k ≠ v8.ownBlock := fun e => by have := own_lt h.r8 k e.symm; omega
theorem Two.fresh8 {w3 wr : World} {v7 v8 : Value} {a7 a8 : List Int} (h : Two w3 v7 v8 a7 a8 wr) (k : Nat) (hk : wr.heap.size ≤ k) : some k ≠ v7.ownBlock := fun e => by have := own_lt h.r7 k e.symm; omega
theorem keep_other {w3 wr w4 : World} {v7 v7' v8 : Value} {a8 : List Int} (h : Kd.R (Kd.int .u8) 5 wr w3.heap.size (fun k => some k ≠ v7.ownBlock) v8 a8) (hg : wr.grownBy w4 v7.ownBlock) (hat : v7'.ownBlock = v7.ownBlock ∨ ∃ b, v7'.ownBlock = some b ∧ wr.heap.size ≤ b) : Kd.R (Kd.int .u8) 5 w4 w3.heap.size (fun k => some k ≠ v7'.ownBlock) v8 a8 := by
  refine Kd.R_mono (Kd.R_step (Kd.R_bound h) (fun k hk hlt => hg.block k hlt hk.1)) (fun k hk => ?_)
  rcases hat with e | ⟨b, e, hb⟩
  · rw [e]; exact hk.1
  · rw [e]
    intro e2
    have := Option.some.inj e2
    have := hk.2.2.1
    omega
theorem Two.first {w3 wr w4 : World} {v7 v8 v7' : Value} {a7 a8 a7' : List Int} (h : Two w3 v7 v8 a7 a8 wr) (hr : Kd.R (Kd.int .u8) 5 w4 w3.heap.size (fun k => some k ≠ v8.ownBlock) v7' a7') (hb : Below w3.heap.size w3 w4) (hg : wr.grownBy w4 v7.ownBlock) (hat : v7'.ownBlock = v7.ownBlock ∨ ∃ b, v7'.ownBlock = some b ∧ wr.heap.size ≤ b) : Two w3 v7' v8 a7' a8 w4 :=
  ⟨hr, keep_other h.r8 hg hat, hb⟩
theorem Two.second {w3 wr w4 : World} {v7 v8 v8' : Value} {a7 a8 a8' : List Int} (h : Two w3 v7 v8 a7 a8 wr) (hr : Kd.R (Kd.int .u8) 5 w4 w3.heap.size (fun k => some k ≠ v7.ownBlock) v8' a8') (hb : Below w3.heap.size w3 w4) (hg : wr.grownBy w4 v8.ownBlock) (hat : v8'.ownBlock = v8.ownBlock ∨ ∃ b, v8'.ownBlock = some b ∧ wr.heap.size ≤ b) : Two w3 v7 v8' a7 a8' w4 :=
  ⟨keep_other h.r7 hg hat, hr, hb⟩
theorem Two.below {w3 wr w4 : World} {v7 v8 : Value} {a7 a8 : List Int} (h : Two w3 v7 v8 a7 a8 wr) (hb : Below wr.heap.size wr w4) : Two w3 v7 v8 a7 a8 w4 :=
  ⟨Kd.R_step h.r7 (fun k _ hk => hb.block k hk), Kd.R_step h.r8 (fun k _ hk => hb.block k hk), below_then h.g h.g.size hb⟩
theorem C_len {w : World} {A : Option Addr} {l : List Int} {N : Nat} (hN : l.length = N) (h : Kd.C (Kd.int .u8) w A l.length l) : Kd.C (Kd.int .u8) w A N l := hN ▸ h
theorem kb_fill (key acc : List Int) (hacc : acc = if 64 < key.length then dig key else key) (z : Nat) (hz : acc.length + z = 64) : acc ++ List.replicate z 0 = kblock key := by
  subst hacc
  unfold kblock
  by_cases h : 64 < key.length
  · rw [if_pos h] at hz ⊢
    rw [if_pos h]
    rw [dig_length] at hz
    rw [show z = 32 by omega]
  · rw [if_neg h] at hz ⊢
    rw [if_neg h, show 64 - key.length = z by omega]
theorem turn_take (l : List Int) (t : Int) (i : Nat) (hi : i < l.length) : (turn l t).take (i + 1) = (turn l t).take i ++ [bits .xor .u8 (l.getD i 0) t] := by
  rw [List.take_add_one]
  congr 1
  simp [turn, List.getElem?_map, List.getElem?_eq_getElem hi, List.getD_eq_getElem?_getD]
end Sh
theorem refof_.calls (A : Option Addr) (c : Nat) (key : List Int) (Ab : Option Addr) (cb : Nat) (b : List Int) (w : World) (hrk : Kd.C (Kd.int .u8) w A key.length key) (hc : key.length ≤ c) (hby : Sh.Bytes key) (hlk : key.length ≤ 1099510000000)
    (hrb : Kd.C (Kd.int .u8) w Ab b.length b) (hcb : b.length ≤ cb) (hbb : Sh.Bytes b) (hlb : b.length ≤ 1099510000000) :
    Calls Tryz.prog 112 #[.slice A key.length c, .slice Ab b.length cb] w fun e w' => e = .returned (.agg (Sh.u8s (Sh.hm key b))) ∧ Below w.heap.size w w' := by
  have HRK := az hrk
  have HRB := az hrb
  have HBY := az hby
  have HBB := az hbb
  clear hrk hrb hby hbb
  obtain ⟨N, HN⟩ : ∃ N, Aside0 (key.length = N) := ⟨_, ⟨rfl⟩⟩
  obtain ⟨Nb, HNb⟩ : ∃ N, Aside0 (b.length = N) := ⟨_, ⟨rfl⟩⟩
  have hcN : N ≤ c := by rw [← HN.out]; exact hc
  have hlN : N ≤ 1099510000000 := by rw [← HN.out]; exact hlk
  have hlNb : Nb ≤ 1099510000000 := by rw [← HNb.out]; exact hlb
  rw [HN.out, HNb.out]
  have HO : Aside0 ((w.alloc (.cells (Sh.u8s (List.replicate 32 0)) 152)).heap[w.heap.size]? = some (.cells (Sh.u8s (List.replicate 32 0)) 152 (0, 0))) := ⟨heap_alloc_new _ _⟩
  have HB0 : Aside0 (Below w.heap.size w (w.alloc (.cells (Sh.u8s (List.replicate 32 0)) 152))) := ⟨below_alloc (Below.refl _ _) _⟩
  have HC0 : Aside0 (Kd.C (Kd.int .u8) (w.alloc (.cells (Sh.u8s (List.replicate 32 0)) 152)) A N key) := ⟨Sh.C_len HN.out (Kd.C_below HRK.out HB0.out)⟩
  have HS0 : Aside0 (w.heap.size < (w.alloc (.cells (Sh.u8s (List.replicate 32 0)) 152)).heap.size) := ⟨by show _ < (w.heap.push _).size; rw [Array.size_push]; omega⟩
  go_enter Tryz.func112, Tryz.ntmps112
  by_cases h64 : 64 < N
  · go_wp2_with fail
    obtain ⟨W0, HW0⟩ : ∃ W, Aside0 (w.alloc (.cells (Sh.u8s (List.replicate 32 0)) 152) = W) := ⟨_, ⟨rfl⟩⟩
    change Calls _ _ _ (w.alloc (.cells (Sh.u8s (List.replicate 32 0)) 152)) _
    rw [HW0.out] at HO HB0 HC0 HS0 ⊢
    obtain ⟨D0, HD0⟩ : ∃ D, Aside0 (Sh.u8s (Sh.dig key) = D) := ⟨_, ⟨rfl⟩⟩
    have HI0 : Aside0 ((Tryz.prog.info? 152).map (·.size) = some D0.size) := ⟨by rw [← HD0.out]; exact Sh.dig_info _⟩
    have HZ0 : Aside0 ((Sh.u8s (List.replicate 32 0)).size = D0.size) := ⟨by rw [← HD0.out]; exact Sh.dig_zeros _⟩
    have HE0 : Aside0 (D0.all (·.oneCell') = true) := ⟨by rw [← HD0.out]; exact Sh.dig_one _⟩
    have HF : Aside0 (Calls Tryz.prog 123 #[.slice A N c] W0 fun e w' => e = .returned (.agg D0) ∧ Below W0.heap.size W0 w') := ⟨by
      have := refsum_.calls A c key W0 (by rw [HN.out]; exact HC0.out) (by rw [HN.out]; exact hcN) HBY.out (by rw [HN.out]; omega)
      rw [HN.out, HD0.out] at this
      exact this⟩
    refine HF.out.mono ?_
    rintro e wa ⟨rfl, hba⟩
    have HBA : Aside0 (Below w.heap.size w wa) := ⟨below_then HB0.out HB0.out.size hba⟩
    have HOA : Aside0 (wa.heap[w.heap.size]? = some (.cells (Sh.u8s (List.replicate 32 0)) 152 (0, 0))) := ⟨(hba.block _ HS0.out).trans HO.out⟩
    have HXA := az (Sh.store_new wa D0)
    have HOB : Aside0 ((wa.alloc (.cells (Sh.u8s (List.replicate 32 0)) 152)).heap[wa.heap.size]? = some (.cells (Sh.u8s (List.replicate 32 0)) 152 (0, 0))) := ⟨heap_alloc_new wa _⟩
    obtain ⟨b6, HB6⟩ : ∃ b, Aside0 (wa.heap.size = b) := ⟨_, ⟨rfl⟩⟩
    have hsl6 := Sh.slice_all32 b6
    clear hba HF HW0 HO HB0 HC0 HS0
    go_wp2_with (first
      | (refine wpList_store_row rfl 152 (.tmp 6) (.tmp 15) rfl wa.heap.size D0 rfl rfl 152 _ HOB.out HI0.out HZ0.out HE0.out ?_; generalize hWq : World.setRow _ wa.heap.size D0 = Wb; have HXB : Aside0 (Wb.heap[wa.heap.size]? = some (.cells D0 152 (0, 0)) ∧ Below wa.heap.size wa Wb) := ⟨by rw [← hWq]; exact HXA.out⟩; clear hWq; rw [HB6.out]; have HCB : Aside0 (Kd.C (Kd.int .u8) Wb (some ⟨b6, 0, none⟩) 32 (Sh.dig key)) := ⟨Sh.C_len (Sh.dig_length _) (Lit.reads_block (HB6.out ▸ HXB.out.1) .u8 _ (by rw [← HD0.out]; simp [Sh.u8s]) (by rw [Sh.dig_length]; decide))⟩; have HGB : Aside0 (Below w.heap.size w Wb) := ⟨below_then HBA.out HBA.out.size HXB.out.2⟩; have HOBB : Aside0 (Wb.heap[w.heap.size]? = some (.cells (Sh.u8s (List.replicate 32 0)) 152 (0, 0))) := ⟨(HXB.out.2.block _ (Array.getElem?_eq_some_iff.1 HOA.out).1).trans HOA.out⟩; have HSB : Aside0 (w.heap.size < Wb.heap.size) := ⟨(Array.getElem?_eq_some_iff.1 HOBB.out).1⟩)
      | ((with_reducible refine gate_builtin (b := .append) (xs := #[.tmp 16, .tmp 17]) rfl ?_); at_builtin; refine Kd.R_append_rows (Kd.int .u8) (w0 := w) w.heap.size rfl (.tmp 16) (.tmp 17) 35 5 (.int .u8 0) 1 rfl Tryz.underlying35 Sh.info8 rfl (by decide) (by omega) (.slice none 0 0) ([] : List Int) (Sh.dig key) (some ⟨b6, 0, none⟩) 32 32 (fun k => w.heap.size < k) (fun _ => False) rfl rfl (Kd.R_nil _ _ _ _ _) HCB.out (fun _ _ h => h) (fun _ h => h.elim) (fun k hk => Nat.lt_of_lt_of_le HSB.out hk) HGB.out HGB.out.size (by simp) ?_; intro v1 w1 ho hb hg _; have H1 : Aside0 (Sh.Rm w v1 (Sh.dig key) w1) := ⟨⟨(hg.block _ HSB.out (by simp [Value.ownBlock])).trans HOBB.out, ho, hb⟩⟩; clear ho hb hg))
    obtain ⟨acc, HACCd⟩ : ∃ a, Aside0 (Sh.dig key = a) := ⟨_, ⟨rfl⟩⟩
    have HACC : Aside0 (acc = if 64 < key.length then Sh.dig key else key) := ⟨by rw [if_pos (by rw [HN.out]; exact h64), HACCd.out]⟩
    obtain ⟨NA, HNA⟩ : ∃ n, Aside0 (32 = n) := ⟨_, ⟨rfl⟩⟩
    have HAL : Aside0 (acc.length = NA) := ⟨by rw [← HACCd.out, Sh.dig_length, HNA.out]⟩
    have hNA : NA ≤ 64 := by rw [← HNA.out]; decide
    rw [HACCd.out] at H1
    clear HXA HOB hsl6 HBA HOA HCB HGB HOBB HSB HXB
    obtain ⟨A1, c1, hv1⟩ := Kd.R_slice H1.out.r
    rw [HAL.out] at hv1
    subst hv1
    have HQ0 : Aside0 (Sh.Rm w (.slice A1 NA c1) (acc ++ List.replicate 0 0) w1) := ⟨by simpa using H1.out⟩
    clear H1
    go_loopw [5] (fun v5 wr => ∃ (z : Nat) (A5 : Option Addr) (c5 M : Nat), v5 = .slice A5 M c5 ∧ M ≤ 64 ∧ Aside0 (M = NA + z) ∧ Aside0 (Sh.Rm w (.slice A5 M c5) (acc ++ List.replicate z 0) wr)) (fun v _ => match v with | .slice _ n _ => 64 - n | _ => 0)
    case atStart => exact ⟨0, A1, c1, NA, rfl, by omega, ⟨rfl⟩, HQ0⟩
    case round =>
      clear HQ0
      obtain ⟨z, A5, c5, M, rfl, hM, HMZ, HM⟩ := hrel
      have HML : Aside0 ((acc ++ List.replicate z 0).length = M) := ⟨by rw [List.length_append, List.length_replicate, HAL.out, HMZ.out]⟩
      by_cases hlt : M < 64
      · go_wp2_with ((with_reducible refine gate_builtin (b := .append) (xs := #[.tmp 25, .tmp 26]) rfl ?_); at_builtin; refine Kd.R_append (Kd.int .u8) (w0 := w) w.heap.size rfl (.tmp 25) (.tmp 26) 35 5 (.int .u8 0) 1 rfl Tryz.underlying35 Sh.info8 rfl (by decide) (by omega) (.slice A5 M c5) (acc ++ List.replicate z 0) 0 [.int .u8 0] (fun k => w.heap.size < k) (fun _ => False) rfl rfl rfl (fun _ h => h.elim) (fun k hk => Nat.lt_of_lt_of_le HM.out.lt hk) HM.out.r HM.out.g (Nat.le_of_lt HM.out.lt) (by rw [HML.out]; omega) ?_; intro v4 w4 ho hb hg _; have H4 : Aside0 (Sh.Rm w v4 (acc ++ List.replicate z 0 ++ [0]) w4) := ⟨HM.out.next ho hb hg⟩; clear ho hb hg)
        obtain ⟨A4, c4, hv4⟩ := Kd.R_slice H4.out.r
        have hl4 : (acc ++ List.replicate z 0 ++ [(0 : Int)]).length = M + 1 := by rw [List.length_append, HML.out]; rfl
        rw [hl4] at hv4
        subst hv4
        have H5 : Aside0 (Sh.Rm w (.slice A4 (M + 1) c4) (acc ++ List.replicate (z + 1) 0) w4) := ⟨by rw [List.replicate_succ', ← List.append_assoc]; exact H4.out⟩
        clear H4 HM hl4 HML
        refine ⟨⟨z + 1, A4, c4, M + 1, rfl, by omega, ⟨by rw [HMZ.out]; omega⟩, H5⟩, ?_⟩
        show 64 - (M + 1) < 64 - M
        omega
      · obtain rfl : M = 64 := by omega
        have HKB : Aside0 (acc ++ List.replicate z 0 = Sh.kblock key) := ⟨Sh.kb_fill key acc HACC.out z (by rw [HAL.out]; exact HMZ.out.symm)⟩
        obtain ⟨kb, HKBd⟩ : ∃ kb, Aside0 (Sh.kblock key = kb) := ⟨_, ⟨rfl⟩⟩
        have HKL : Aside0 (kb.length = 64) := ⟨by rw [← HKBd.out]; exact Sh.kblock_length key⟩
        rw [HKB.out, HKBd.out] at HM
        obtain ⟨w3, rfl⟩ : ∃ q : World, q = wr := ⟨_, rfl⟩
        obtain ⟨e5, hc5, hC5⟩ := Kd.R_reads' HM.out.r
        clear e5
        rw [HKL.out] at hC5
        have HC5 := az hC5
        have HT0 : Aside0 (Sh.Two w3 (.slice none 0 0) (.slice none 0 0) ((Sh.turn kb 54).take 0) ((Sh.turn kb 92).take 0) w3) := ⟨⟨Kd.R_nil _ _ _ _ _, Kd.R_nil _ _ _ _ _, Below.refl _ _⟩⟩
        clear hC5 HKB HML HMZ hlt hM
        go_wp2_with fail
        go_loopw [9, 7, 8] (fun v9 v7 v8 wr => ∃ (i : Nat) (A7 A8 : Option Addr) (c7 c8 : Nat), v9 = .int .i64 i ∧ i ≤ 64 ∧ v7 = .slice A7 i c7 ∧ v8 = .slice A8 i c8 ∧ Aside0 (Sh.Two w3 (.slice A7 i c7) (.slice A8 i c8) ((Sh.turn kb 54).take i) ((Sh.turn kb 92).take i) wr)) (fun v _ _ _ => 64 - (intOf v).toNat)
        case atStart => exact ⟨0, none, none, 0, 0, rfl, by omega, rfl, rfl, HT0⟩
        case round =>
          clear HT0
          obtain ⟨i, A7, A8, c7, c8, rfl, hi, rfl, rfl, HT⟩ := hrel
          by_cases hlt : i < 64
          · obtain ⟨ad, e, hcs⟩ := Kd.at_int HC5.out i (by omega) (by omega)
            subst e
            rw [Sh.rd_nat, Int.toNat_natCast] at hcs
            have hx : wr.cell? (ad.add i) = some (.int .u8 (kb.getD i 0)) := (HT.out.g.cell (World.block_lt_of_cell? w3 _ hcs)).trans hcs
            have HL7 : Aside0 (((Sh.turn kb 54).take i).length = i ∧ ((Sh.turn kb 92).take i).length = i) := ⟨by rw [List.length_take, List.length_take, Sh.turn_length, Sh.turn_length, HKL.out]; omega⟩
            have HTK : Aside0 ((Sh.turn kb 54).take (i + 1) = (Sh.turn kb 54).take i ++ [bits .xor .u8 (kb.getD i 0) 54] ∧ (Sh.turn kb 92).take (i + 1) = (Sh.turn kb 92).take i ++ [bits .xor .u8 (kb.getD i 0) 92]) := ⟨Sh.turn_take kb 54 i (by rw [HKL.out]; exact hlt), Sh.turn_take kb 92 i (by rw [HKL.out]; exact hlt)⟩
            have HCS := az hcs
            clear hcs
            generalize kb.getD i 0 = y at *
            go_wp2_with (first
              | ((with_reducible refine gate_builtin (b := .append) (xs := #[.tmp 32, .tmp 38]) rfl ?_); at_builtin; refine Kd.R_append (Kd.int .u8) (w0 := w3) w3.heap.size rfl (.tmp 32) (.tmp 38) 35 5 (.int .u8 0) 1 rfl Tryz.underlying35 Sh.info8 rfl (by decide) (by omega) (.slice A7 i c7) ((Sh.turn kb 54).take i) (bits .xor .u8 y 54) [.int .u8 (bits .xor .u8 y 54)] (fun k => some k ≠ (Value.slice A8 i c8).ownBlock) (fun _ => False) rfl rfl rfl (fun _ h => h.elim) (fun k hk => HT.out.fresh7 k hk) HT.out.r7 HT.out.g HT.out.g.size (by rw [HL7.out.1]; omega) ?_; intro v71 w41 ho hb hg hat; have HT1 : Aside0 (Sh.Two w3 v71 (.slice A8 i c8) ((Sh.turn kb 54).take i ++ [bits .xor .u8 y 54]) ((Sh.turn kb 92).take i) w41) := ⟨HT.out.first ho hb hg hat⟩; have hx1 : w41.cell? (ad.add i) = some (.int .u8 y) := ((HT1.out.g.cell (World.block_lt_of_cell? w3 _ HCS.out)).trans HCS.out); clear ho hb hg hat)
              | ((with_reducible refine gate_builtin (b := .append) (xs := #[.tmp 40, .tmp 46]) rfl ?_); at_builtin; refine Kd.R_append (Kd.int .u8) (w0 := w3) w3.heap.size rfl (.tmp 40) (.tmp 46) 35 5 (.int .u8 0) 1 rfl Tryz.underlying35 Sh.info8 rfl (by decide) (by omega) (.slice A8 i c8) ((Sh.turn kb 92).take i) (bits .xor .u8 y 92) [.int .u8 (bits .xor .u8 y 92)] (fun k => some k ≠ v71.ownBlock) (fun _ => False) rfl rfl rfl (fun _ h => h.elim) (fun k hk => HT1.out.fresh8 k hk) HT1.out.r8 HT1.out.g HT1.out.g.size (by rw [HL7.out.2]; omega) ?_; intro v81 w42 ho hb hg hat; have HT2 : Aside0 (Sh.Two w3 v71 v81 ((Sh.turn kb 54).take i ++ [bits .xor .u8 y 54]) ((Sh.turn kb 92).take i ++ [bits .xor .u8 y 92]) w42) := ⟨HT1.out.second ho hb hg hat⟩; clear ho hb hg hat))
            obtain ⟨A71, c71, hv7⟩ := Kd.R_slice HT2.out.r7
            obtain ⟨A81, c81, hv8⟩ := Kd.R_slice HT2.out.r8
            have hl7 : ((Sh.turn kb 54).take i ++ [bits .xor .u8 y 54]).length = i + 1 := by rw [List.length_append, HL7.out.1]; rfl
            have hl8 : ((Sh.turn kb 92).take i ++ [bits .xor .u8 y 92]).length = i + 1 := by rw [List.length_append, HL7.out.2]; rfl
            rw [hl7] at hv7
            rw [hl8] at hv8
            subst hv7
            subst hv8
            have HT3 : Aside0 (Sh.Two w3 (.slice A71 (i + 1) c71) (.slice A81 (i + 1) c81) ((Sh.turn kb 54).take (i + 1)) ((Sh.turn kb 92).take (i + 1)) w42) := ⟨by rw [HTK.out.1, HTK.out.2]; exact HT2.out⟩
            clear HT HT1 HT2 hl7 hl8 hx hx1 HTK HL7 HCS
            go_wp2_with fail
            exact ⟨⟨i + 1, A71, A81, c71, c81, by go_num, by omega, rfl, rfl, HT3⟩, by simp [intOf]; omega⟩
          · obtain rfl : i = 64 := by omega
            have HT3 : Aside0 (Sh.Two w3 (.slice A7 64 c7) (.slice A8 64 c8) (Sh.turn kb 54) (Sh.turn kb 92) wr) := ⟨by
              have := HT.out
              rwa [List.take_of_length_le (by rw [Sh.turn_length, HKL.out]; exact Nat.le_refl _), List.take_of_length_le (by rw [Sh.turn_length, HKL.out]; exact Nat.le_refl _)] at this⟩
            have HG3 : Aside0 (Below w.heap.size w w3) := ⟨HM.out.g⟩
            have HCb : Aside0 (Kd.C (Kd.int .u8) wr Ab Nb b) := ⟨Sh.C_len HNb.out (Kd.C_below HRB.out (below_then HM.out.g HM.out.g.size HT.out.g))⟩
            have HTL : Aside0 ((Sh.turn kb 54).length = 64 ∧ (Sh.turn kb 92).length = 64) := ⟨by rw [Sh.turn_length, Sh.turn_length, HKL.out]; exact ⟨rfl, rfl⟩⟩
            have HN0 : Aside0 (w3.heap[w.heap.size]? = some (.cells (Sh.u8s (List.replicate 32 0)) 152 (0, 0))) := ⟨HM.out.o⟩
            clear HT HM HC5 hlt hi
            go_wp2_with ((with_reducible refine gate_builtin (b := .append) (xs := #[.tmp 48, .tmp 49]) rfl ?_); at_builtin; refine Kd.R_append_rows (Kd.int .u8) (w0 := w3) w3.heap.size rfl (.tmp 48) (.tmp 49) 35 5 (.int .u8 0) 1 rfl Tryz.underlying35 Sh.info8 rfl (by decide) (by omega) (.slice A7 64 c7) (Sh.turn kb 54) b Ab Nb cb (fun k => some k ≠ (Value.slice A8 64 c8).ownBlock) (fun _ => False) rfl rfl HT3.out.r7 HCb.out (fun _ _ h => h) (fun _ h => h.elim) (fun k hk => HT3.out.fresh7 k hk) HT3.out.g HT3.out.g.size (by rw [HTL.out.1]; omega) ?_; intro v71 w41 ho hb hg hat; have HT4 : Aside0 (Sh.Two w3 v71 (.slice A8 64 c8) (Sh.turn kb 54 ++ b) (Sh.turn kb 92) w41) := ⟨HT3.out.first ho hb hg hat⟩; clear ho hb hg hat)
            obtain ⟨A71, c71, hv7⟩ := Kd.R_slice HT4.out.r7
            have HL7 : Aside0 ((Sh.turn kb 54 ++ b).length = 64 + Nb) := ⟨by rw [List.length_append, HTL.out.1, HNb.out]⟩
            rw [HL7.out] at hv7
            subst hv7
            obtain ⟨D1, HD1⟩ : ∃ D, Aside0 (Sh.u8s (Sh.dig (Sh.turn kb 54 ++ b)) = D) := ⟨_, ⟨rfl⟩⟩
            have HI1 : Aside0 ((Tryz.prog.info? 152).map (·.size) = some D1.size) := ⟨by rw [← HD1.out]; exact Sh.dig_info _⟩
            have HZ1 : Aside0 ((Sh.u8s (List.replicate 32 0)).size = D1.size) := ⟨by rw [← HD1.out]; exact Sh.dig_zeros _⟩
            have HE1 : Aside0 (D1.all (·.oneCell') = true) := ⟨by rw [← HD1.out]; exact Sh.dig_one _⟩
            have HF : Aside0 (Calls Tryz.prog 123 #[.slice A71 (64 + Nb) c71] w41 fun e w' => e = .returned (.agg D1) ∧ Below w41.heap.size w41 w') := ⟨by
              obtain ⟨e7, hc7, hC7⟩ := Kd.R_reads' HT4.out.r7
              have := refsum_.calls A71 c71 (Sh.turn kb 54 ++ b) w41 hC7 (by rw [HL7.out]; exact hc7) (Sh.app_bytes (Sh.turn_bytes _ _) HBB.out) (by rw [HL7.out]; omega)
              rw [HL7.out, HD1.out] at this
              exact this⟩
            refine HF.out.mono ?_
            rintro e w42 ⟨rfl, hb42⟩
            have HT5 := az (HT4.out.below hb42)
            have HX42 := az (Sh.store_new w42 D1)
            have HO42 : Aside0 ((w42.alloc (.cells (Sh.u8s (List.replicate 32 0)) 152)).heap[w42.heap.size]? = some (.cells (Sh.u8s (List.replicate 32 0)) 152 (0, 0))) := ⟨heap_alloc_new w42 _⟩
            obtain ⟨b10, HB10⟩ : ∃ b, Aside0 (w42.heap.size = b) := ⟨_, ⟨rfl⟩⟩
            have hsl := Sh.slice_all32 b10
            clear hb42 HF HT3 HT4 HCb
            go_wp2_with (first
              | (refine wpList_store_row rfl 152 (.tmp 10) (.tmp 52) rfl w42.heap.size D1 rfl rfl 152 _ HO42.out HI1.out HZ1.out HE1.out ?_; generalize hWq : World.setRow _ w42.heap.size D1 = W43; have HX43 : Aside0 (W43.heap[w42.heap.size]? = some (.cells D1 152 (0, 0)) ∧ Below w42.heap.size w42 W43) := ⟨by rw [← hWq]; exact HX42.out⟩; clear hWq; rw [HB10.out]; have HT6 : Aside0 (Sh.Two w3 (.slice A71 (64 + Nb) c71) (.slice A8 64 c8) (Sh.turn kb 54 ++ b) (Sh.turn kb 92) W43) := ⟨HT5.out.below HX43.out.2⟩; have HC10 : Aside0 (Kd.C (Kd.int .u8) W43 (some ⟨b10, 0, none⟩) 32 (Sh.dig (Sh.turn kb 54 ++ b))) := ⟨Sh.C_len (Sh.dig_length _) (Lit.reads_block (HB10.out ▸ HX43.out.1) .u8 _ (by rw [← HD1.out]; simp [Sh.u8s]) (by rw [Sh.dig_length]; decide))⟩)
              | ((with_reducible refine gate_builtin (b := .append) (xs := #[.tmp 53, .tmp 54]) rfl ?_); at_builtin; refine Kd.R_append_rows (Kd.int .u8) (w0 := w3) w3.heap.size rfl (.tmp 53) (.tmp 54) 35 5 (.int .u8 0) 1 rfl Tryz.underlying35 Sh.info8 rfl (by decide) (by omega) (.slice A8 64 c8) (Sh.turn kb 92) (Sh.dig (Sh.turn kb 54 ++ b)) (some ⟨b10, 0, none⟩) 32 32 (fun k => some k ≠ (Value.slice A71 (64 + Nb) c71).ownBlock) (fun _ => False) rfl rfl HT6.out.r8 HC10.out (fun _ _ h => h) (fun _ h => h.elim) (fun k hk => HT6.out.fresh8 k hk) HT6.out.g HT6.out.g.size (by rw [HTL.out.2]; omega) ?_; intro v81 w44 ho hb hg hat; have HT7 : Aside0 (Sh.Two w3 (.slice A71 (64 + Nb) c71) v81 (Sh.turn kb 54 ++ b) (Sh.turn kb 92 ++ Sh.dig (Sh.turn kb 54 ++ b)) w44) := ⟨HT6.out.second ho hb hg hat⟩; clear ho hb hg hat))
            obtain ⟨A81, c81, hv8⟩ := Kd.R_slice HT7.out.r8
            have HL8 : Aside0 ((Sh.turn kb 92 ++ Sh.dig (Sh.turn kb 54 ++ b)).length = 96) := ⟨by rw [List.length_append, HTL.out.2, Sh.dig_length]⟩
            rw [HL8.out] at hv8
            subst hv8
            obtain ⟨D2, HD2⟩ : ∃ D, Aside0 (Sh.u8s (Sh.hm key b) = D) := ⟨_, ⟨rfl⟩⟩
            have HI2 : Aside0 ((Tryz.prog.info? 152).map (·.size) = some D2.size) := ⟨by rw [← HD2.out]; exact Sh.dig_info _⟩
            have HZ2 : Aside0 ((Sh.u8s (List.replicate 32 0)).size = D2.size) := ⟨by rw [← HD2.out]; exact Sh.dig_zeros _⟩
            have HE2 : Aside0 (D2.all (·.oneCell') = true) := ⟨by rw [← HD2.out]; exact Sh.dig_one _⟩
            have HF : Aside0 (Calls Tryz.prog 123 #[.slice A81 96 c81] w44 fun e w' => e = .returned (.agg D2) ∧ Below w44.heap.size w44 w') := ⟨by
              obtain ⟨e8, hc8, hC8⟩ := Kd.R_reads' HT7.out.r8
              have := refsum_.calls A81 c81 (Sh.turn kb 92 ++ Sh.dig (Sh.turn kb 54 ++ b)) w44 hC8 (by rw [HL8.out]; exact hc8) (Sh.app_bytes (Sh.turn_bytes _ _) (Sh.dig_bytes _)) (by rw [HL8.out]; decide)
              rw [HL8.out, ← HKBd.out] at this
              rw [show Sh.u8s (Sh.dig (Sh.turn (Sh.kblock key) 92 ++ Sh.dig (Sh.turn (Sh.kblock key) 54 ++ b))) = D2 from HD2.out] at this
              exact this⟩
            refine HF.out.mono ?_
            rintro e w45 ⟨rfl, hb45⟩
            have HB45 : Aside0 (Below w3.heap.size w3 w45) := ⟨below_then HT7.out.g HT7.out.g.size hb45⟩
            have HO45 : Aside0 (w45.heap[w.heap.size]? = some (.cells (Sh.u8s (List.replicate 32 0)) 152 (0, 0))) := ⟨(HB45.out.block _ (Array.getElem?_eq_some_iff.1 HN0.out).1).trans HN0.out⟩
            have HBW : Aside0 (Below w.heap.size w w45) := ⟨below_then HG3.out HG3.out.size HB45.out⟩
            clear hb45 HF HT5 HT6 HT7 hsl
            go_wp2_with (refine wpList_store_row rfl 152 (.tmp 4) (.tmp 57) rfl w.heap.size D2 rfl rfl 152 _ HO45.out HI2.out HZ2.out HE2.out ?_)
            refine ⟨rfl, .agg D2, ?_, by rw [HD2.out], below_setRow HBW.out (Nat.le_refl _) D2⟩
            exact results_cell_row rfl _ _ w.heap.size 152 D2 (0, 0) _ rfl (setRow_heap w45 w.heap.size _ D2 _ _ HO45.out) Tryz.underlying152 rfl HI2.out
  · go_wp2_with ((with_reducible refine gate_builtin (b := .append) (xs := #[.tmp 19, .tmp 20]) rfl ?_); at_builtin; refine Kd.R_append_rows (Kd.int .u8) (w0 := w) w.heap.size rfl (.tmp 19) (.tmp 20) 35 5 (.int .u8 0) 1 rfl Tryz.underlying35 Sh.info8 rfl (by decide) (by omega) (.slice none 0 0) ([] : List Int) key A N c (fun k => w.heap.size < k) (fun _ => False) rfl rfl (Kd.R_nil _ _ _ _ _) HC0.out (fun _ _ h => h) (fun _ h => h.elim) (fun k hk => Nat.lt_of_lt_of_le HS0.out hk) HB0.out (Nat.le_of_lt HS0.out) (by simp only [List.length_nil]; omega) ?_; intro v1 w1 ho hb hg _; have H1 : Aside0 (Sh.Rm w v1 key w1) := ⟨⟨(hg.block _ HS0.out (by simp [Value.ownBlock])).trans HO.out, ho, hb⟩⟩; clear ho hb hg)
    obtain ⟨acc, HACCd⟩ : ∃ a, Aside0 (key = a) := ⟨_, ⟨rfl⟩⟩
    have HACC : Aside0 (acc = if 64 < key.length then Sh.dig key else key) := ⟨by rw [if_neg (by rw [HN.out]; exact h64), HACCd.out]⟩
    obtain ⟨NA, HNA⟩ : ∃ n, Aside0 (N = n) := ⟨_, ⟨rfl⟩⟩
    have HAL : Aside0 (acc.length = NA) := ⟨by rw [← HACCd.out, HN.out, HNA.out]⟩
    have hNA : NA ≤ 64 := by rw [← HNA.out]; omega
    have H1' : Aside0 (Sh.Rm w v1 acc w1) := ⟨by have := H1.out; rw [HACCd.out] at this; exact this⟩
    clear H1 HO HB0 HC0 HS0
    have H1 := H1'
    clear H1'
    obtain ⟨A1, c1, hv1⟩ := Kd.R_slice H1.out.r
    rw [HAL.out] at hv1
    subst hv1
    have HQ0 : Aside0 (Sh.Rm w (.slice A1 NA c1) (acc ++ List.replicate 0 0) w1) := ⟨by simpa using H1.out⟩
    clear H1
    go_loopw [5] (fun v5 wr => ∃ (z : Nat) (A5 : Option Addr) (c5 M : Nat), v5 = .slice A5 M c5 ∧ M ≤ 64 ∧ Aside0 (M = NA + z) ∧ Aside0 (Sh.Rm w (.slice A5 M c5) (acc ++ List.replicate z 0) wr)) (fun v _ => match v with | .slice _ n _ => 64 - n | _ => 0)
    case atStart => exact ⟨0, A1, c1, NA, rfl, by omega, ⟨rfl⟩, HQ0⟩
    case round =>
      clear HQ0
      obtain ⟨z, A5, c5, M, rfl, hM, HMZ, HM⟩ := hrel
      have HML : Aside0 ((acc ++ List.replicate z 0).length = M) := ⟨by rw [List.length_append, List.length_replicate, HAL.out, HMZ.out]⟩
      by_cases hlt : M < 64
      · go_wp2_with ((with_reducible refine gate_builtin (b := .append) (xs := #[.tmp 25, .tmp 26]) rfl ?_); at_builtin; refine Kd.R_append (Kd.int .u8) (w0 := w) w.heap.size rfl (.tmp 25) (.tmp 26) 35 5 (.int .u8 0) 1 rfl Tryz.underlying35 Sh.info8 rfl (by decide) (by omega) (.slice A5 M c5) (acc ++ List.replicate z 0) 0 [.int .u8 0] (fun k => w.heap.size < k) (fun _ => False) rfl rfl rfl (fun _ h => h.elim) (fun k hk => Nat.lt_of_lt_of_le HM.out.lt hk) HM.out.r HM.out.g (Nat.le_of_lt HM.out.lt) (by rw [HML.out]; omega) ?_; intro v4 w4 ho hb hg _; have H4 : Aside0 (Sh.Rm w v4 (acc ++ List.replicate z 0 ++ [0]) w4) := ⟨HM.out.next ho hb hg⟩; clear ho hb hg)
        obtain ⟨A4, c4, hv4⟩ := Kd.R_slice H4.out.r
        have hl4 : (acc ++ List.replicate z 0 ++ [(0 : Int)]).length = M + 1 := by rw [List.length_append, HML.out]; rfl
        rw [hl4] at hv4
        subst hv4
        have H5 : Aside0 (Sh.Rm w (.slice A4 (M + 1) c4) (acc ++ List.replicate (z + 1) 0) w4) := ⟨by rw [List.replicate_succ', ← List.append_assoc]; exact H4.out⟩
        clear H4 HM hl4 HML
        refine ⟨⟨z + 1, A4, c4, M + 1, rfl, by omega, ⟨by rw [HMZ.out]; omega⟩, H5⟩, ?_⟩
        show 64 - (M + 1) < 64 - M
        omega
      · obtain rfl : M = 64 := by omega
        have HKB : Aside0 (acc ++ List.replicate z 0 = Sh.kblock key) := ⟨Sh.kb_fill key acc HACC.out z (by rw [HAL.out]; exact HMZ.out.symm)⟩
        obtain ⟨kb, HKBd⟩ : ∃ kb, Aside0 (Sh.kblock key = kb) := ⟨_, ⟨rfl⟩⟩
        have HKL : Aside0 (kb.length = 64) := ⟨by rw [← HKBd.out]; exact Sh.kblock_length key⟩
        rw [HKB.out, HKBd.out] at HM
        obtain ⟨w3, rfl⟩ : ∃ q : World, q = wr := ⟨_, rfl⟩
        obtain ⟨e5, hc5, hC5⟩ := Kd.R_reads' HM.out.r
        clear e5
        rw [HKL.out] at hC5
        have HC5 := az hC5
        have HT0 : Aside0 (Sh.Two w3 (.slice none 0 0) (.slice none 0 0) ((Sh.turn kb 54).take 0) ((Sh.turn kb 92).take 0) w3) := ⟨⟨Kd.R_nil _ _ _ _ _, Kd.R_nil _ _ _ _ _, Below.refl _ _⟩⟩
        clear hC5 HKB HML HMZ hlt hM
        go_wp2_with fail
        go_loopw [9, 7, 8] (fun v9 v7 v8 wr => ∃ (i : Nat) (A7 A8 : Option Addr) (c7 c8 : Nat), v9 = .int .i64 i ∧ i ≤ 64 ∧ v7 = .slice A7 i c7 ∧ v8 = .slice A8 i c8 ∧ Aside0 (Sh.Two w3 (.slice A7 i c7) (.slice A8 i c8) ((Sh.turn kb 54).take i) ((Sh.turn kb 92).take i) wr)) (fun v _ _ _ => 64 - (intOf v).toNat)
        case atStart => exact ⟨0, none, none, 0, 0, rfl, by omega, rfl, rfl, HT0⟩
        case round =>
          clear HT0
          obtain ⟨i, A7, A8, c7, c8, rfl, hi, rfl, rfl, HT⟩ := hrel
          by_cases hlt : i < 64
          · obtain ⟨ad, e, hcs⟩ := Kd.at_int HC5.out i (by omega) (by omega)
            subst e
            rw [Sh.rd_nat, Int.toNat_natCast] at hcs
            have hx : wr.cell? (ad.add i) = some (.int .u8 (kb.getD i 0)) := (HT.out.g.cell (World.block_lt_of_cell? w3 _ hcs)).trans hcs
            have HL7 : Aside0 (((Sh.turn kb 54).take i).length = i ∧ ((Sh.turn kb 92).take i).length = i) := ⟨by rw [List.length_take, List.length_take, Sh.turn_length, Sh.turn_length, HKL.out]; omega⟩
            have HTK : Aside0 ((Sh.turn kb 54).take (i + 1) = (Sh.turn kb 54).take i ++ [bits .xor .u8 (kb.getD i 0) 54] ∧ (Sh.turn kb 92).take (i + 1) = (Sh.turn kb 92).take i ++ [bits .xor .u8 (kb.getD i 0) 92]) := ⟨Sh.turn_take kb 54 i (by rw [HKL.out]; exact hlt), Sh.turn_take kb 92 i (by rw [HKL.out]; exact hlt)⟩
            have HCS := az hcs
            clear hcs
            generalize kb.getD i 0 = y at *
            go_wp2_with (first
              | ((with_reducible refine gate_builtin (b := .append) (xs := #[.tmp 32, .tmp 38]) rfl ?_); at_builtin; refine Kd.R_append (Kd.int .u8) (w0 := w3) w3.heap.size rfl (.tmp 32) (.tmp 38) 35 5 (.int .u8 0) 1 rfl Tryz.underlying35 Sh.info8 rfl (by decide) (by omega) (.slice A7 i c7) ((Sh.turn kb 54).take i) (bits .xor .u8 y 54) [.int .u8 (bits .xor .u8 y 54)] (fun k => some k ≠ (Value.slice A8 i c8).ownBlock) (fun _ => False) rfl rfl rfl (fun _ h => h.elim) (fun k hk => HT.out.fresh7 k hk) HT.out.r7 HT.out.g HT.out.g.size (by rw [HL7.out.1]; omega) ?_; intro v71 w41 ho hb hg hat; have HT1 : Aside0 (Sh.Two w3 v71 (.slice A8 i c8) ((Sh.turn kb 54).take i ++ [bits .xor .u8 y 54]) ((Sh.turn kb 92).take i) w41) := ⟨HT.out.first ho hb hg hat⟩; have hx1 : w41.cell? (ad.add i) = some (.int .u8 y) := ((HT1.out.g.cell (World.block_lt_of_cell? w3 _ HCS.out)).trans HCS.out); clear ho hb hg hat)
              | ((with_reducible refine gate_builtin (b := .append) (xs := #[.tmp 40, .tmp 46]) rfl ?_); at_builtin; refine Kd.R_append (Kd.int .u8) (w0 := w3) w3.heap.size rfl (.tmp 40) (.tmp 46) 35 5 (.int .u8 0) 1 rfl Tryz.underlying35 Sh.info8 rfl (by decide) (by omega) (.slice A8 i c8) ((Sh.turn kb 92).take i) (bits .xor .u8 y 92) [.int .u8 (bits .xor .u8 y 92)] (fun k => some k ≠ v71.ownBlock) (fun _ => False) rfl rfl rfl (fun _ h => h.elim) (fun k hk => HT1.out.fresh8 k hk) HT1.out.r8 HT1.out.g HT1.out.g.size (by rw [HL7.out.2]; omega) ?_; intro v81 w42 ho hb hg hat; have HT2 : Aside0 (Sh.Two w3 v71 v81 ((Sh.turn kb 54).take i ++ [bits .xor .u8 y 54]) ((Sh.turn kb 92).take i ++ [bits .xor .u8 y 92]) w42) := ⟨HT1.out.second ho hb hg hat⟩; clear ho hb hg hat))
            obtain ⟨A71, c71, hv7⟩ := Kd.R_slice HT2.out.r7
            obtain ⟨A81, c81, hv8⟩ := Kd.R_slice HT2.out.r8
            have hl7 : ((Sh.turn kb 54).take i ++ [bits .xor .u8 y 54]).length = i + 1 := by rw [List.length_append, HL7.out.1]; rfl
            have hl8 : ((Sh.turn kb 92).take i ++ [bits .xor .u8 y 92]).length = i + 1 := by rw [List.length_append, HL7.out.2]; rfl
            rw [hl7] at hv7
            rw [hl8] at hv8
            subst hv7
            subst hv8
            have HT3 : Aside0 (Sh.Two w3 (.slice A71 (i + 1) c71) (.slice A81 (i + 1) c81) ((Sh.turn kb 54).take (i + 1)) ((Sh.turn kb 92).take (i + 1)) w42) := ⟨by rw [HTK.out.1, HTK.out.2]; exact HT2.out⟩
            clear HT HT1 HT2 hl7 hl8 hx hx1 HTK HL7 HCS
            go_wp2_with fail
            exact ⟨⟨i + 1, A71, A81, c71, c81, by go_num, by omega, rfl, rfl, HT3⟩, by simp [intOf]; omega⟩
          · obtain rfl : i = 64 := by omega
            have HT3 : Aside0 (Sh.Two w3 (.slice A7 64 c7) (.slice A8 64 c8) (Sh.turn kb 54) (Sh.turn kb 92) wr) := ⟨by
              have := HT.out
              rwa [List.take_of_length_le (by rw [Sh.turn_length, HKL.out]; exact Nat.le_refl _), List.take_of_length_le (by rw [Sh.turn_length, HKL.out]; exact Nat.le_refl _)] at this⟩
            have HG3 : Aside0 (Below w.heap.size w w3) := ⟨HM.out.g⟩
            have HCb : Aside0 (Kd.C (Kd.int .u8) wr Ab Nb b) := ⟨Sh.C_len HNb.out (Kd.C_below HRB.out (below_then HM.out.g HM.out.g.size HT.out.g))⟩
            have HTL : Aside0 ((Sh.turn kb 54).length = 64 ∧ (Sh.turn kb 92).length = 64) := ⟨by rw [Sh.turn_length, Sh.turn_length, HKL.out]; exact ⟨rfl, rfl⟩⟩
            have HN0 : Aside0 (w3.heap[w.heap.size]? = some (.cells (Sh.u8s (List.replicate 32 0)) 152 (0, 0))) := ⟨HM.out.o⟩
            clear HT HM HC5 hlt hi
            go_wp2_with ((with_reducible refine gate_builtin (b := .append) (xs := #[.tmp 48, .tmp 49]) rfl ?_); at_builtin; refine Kd.R_append_rows (Kd.int .u8) (w0 := w3) w3.heap.size rfl (.tmp 48) (.tmp 49) 35 5 (.int .u8 0) 1 rfl Tryz.underlying35 Sh.info8 rfl (by decide) (by omega) (.slice A7 64 c7) (Sh.turn kb 54) b Ab Nb cb (fun k => some k ≠ (Value.slice A8 64 c8).ownBlock) (fun _ => False) rfl rfl HT3.out.r7 HCb.out (fun _ _ h => h) (fun _ h => h.elim) (fun k hk => HT3.out.fresh7 k hk) HT3.out.g HT3.out.g.size (by rw [HTL.out.1]; omega) ?_; intro v71 w41 ho hb hg hat; have HT4 : Aside0 (Sh.Two w3 v71 (.slice A8 64 c8) (Sh.turn kb 54 ++ b) (Sh.turn kb 92) w41) := ⟨HT3.out.first ho hb hg hat⟩; clear ho hb hg hat)
            obtain ⟨A71, c71, hv7⟩ := Kd.R_slice HT4.out.r7
            have HL7 : Aside0 ((Sh.turn kb 54 ++ b).length = 64 + Nb) := ⟨by rw [List.length_append, HTL.out.1, HNb.out]⟩
            rw [HL7.out] at hv7
            subst hv7
            obtain ⟨D1, HD1⟩ : ∃ D, Aside0 (Sh.u8s (Sh.dig (Sh.turn kb 54 ++ b)) = D) := ⟨_, ⟨rfl⟩⟩
            have HI1 : Aside0 ((Tryz.prog.info? 152).map (·.size) = some D1.size) := ⟨by rw [← HD1.out]; exact Sh.dig_info _⟩
            have HZ1 : Aside0 ((Sh.u8s (List.replicate 32 0)).size = D1.size) := ⟨by rw [← HD1.out]; exact Sh.dig_zeros _⟩
            have HE1 : Aside0 (D1.all (·.oneCell') = true) := ⟨by rw [← HD1.out]; exact Sh.dig_one _⟩
            have HF : Aside0 (Calls Tryz.prog 123 #[.slice A71 (64 + Nb) c71] w41 fun e w' => e = .returned (.agg D1) ∧ Below w41.heap.size w41 w') := ⟨by
              obtain ⟨e7, hc7, hC7⟩ := Kd.R_reads' HT4.out.r7
              have := refsum_.calls A71 c71 (Sh.turn kb 54 ++ b) w41 hC7 (by rw [HL7.out]; exact hc7) (Sh.app_bytes (Sh.turn_bytes _ _) HBB.out) (by rw [HL7.out]; omega)
              rw [HL7.out, HD1.out] at this
              exact this⟩
            refine HF.out.mono ?_
            rintro e w42 ⟨rfl, hb42⟩
            have HT5 := az (HT4.out.below hb42)
            have HX42 := az (Sh.store_new w42 D1)
            have HO42 : Aside0 ((w42.alloc (.cells (Sh.u8s (List.replicate 32 0)) 152)).heap[w42.heap.size]? = some (.cells (Sh.u8s (List.replicate 32 0)) 152 (0, 0))) := ⟨heap_alloc_new w42 _⟩
            obtain ⟨b10, HB10⟩ : ∃ b, Aside0 (w42.heap.size = b) := ⟨_, ⟨rfl⟩⟩
            have hsl := Sh.slice_all32 b10
            clear hb42 HF HT3 HT4 HCb
            go_wp2_with (first
              | (refine wpList_store_row rfl 152 (.tmp 10) (.tmp 52) rfl w42.heap.size D1 rfl rfl 152 _ HO42.out HI1.out HZ1.out HE1.out ?_; generalize hWq : World.setRow _ w42.heap.size D1 = W43; have HX43 : Aside0 (W43.heap[w42.heap.size]? = some (.cells D1 152 (0, 0)) ∧ Below w42.heap.size w42 W43) := ⟨by rw [← hWq]; exact HX42.out⟩; clear hWq; rw [HB10.out]; have HT6 : Aside0 (Sh.Two w3 (.slice A71 (64 + Nb) c71) (.slice A8 64 c8) (Sh.turn kb 54 ++ b) (Sh.turn kb 92) W43) := ⟨HT5.out.below HX43.out.2⟩; have HC10 : Aside0 (Kd.C (Kd.int .u8) W43 (some ⟨b10, 0, none⟩) 32 (Sh.dig (Sh.turn kb 54 ++ b))) := ⟨Sh.C_len (Sh.dig_length _) (Lit.reads_block (HB10.out ▸ HX43.out.1) .u8 _ (by rw [← HD1.out]; simp [Sh.u8s]) (by rw [Sh.dig_length]; decide))⟩)
              | ((with_reducible refine gate_builtin (b := .append) (xs := #[.tmp 53, .tmp 54]) rfl ?_); at_builtin; refine Kd.R_append_rows (Kd.int .u8) (w0 := w3) w3.heap.size rfl (.tmp 53) (.tmp 54) 35 5 (.int .u8 0) 1 rfl Tryz.underlying35 Sh.info8 rfl (by decide) (by omega) (.slice A8 64 c8) (Sh.turn kb 92) (Sh.dig (Sh.turn kb 54 ++ b)) (some ⟨b10, 0, none⟩) 32 32 (fun k => some k ≠ (Value.slice A71 (64 + Nb) c71).ownBlock) (fun _ => False) rfl rfl HT6.out.r8 HC10.out (fun _ _ h => h) (fun _ h => h.elim) (fun k hk => HT6.out.fresh8 k hk) HT6.out.g HT6.out.g.size (by rw [HTL.out.2]; omega) ?_; intro v81 w44 ho hb hg hat; have HT7 : Aside0 (Sh.Two w3 (.slice A71 (64 + Nb) c71) v81 (Sh.turn kb 54 ++ b) (Sh.turn kb 92 ++ Sh.dig (Sh.turn kb 54 ++ b)) w44) := ⟨HT6.out.second ho hb hg hat⟩; clear ho hb hg hat))
            obtain ⟨A81, c81, hv8⟩ := Kd.R_slice HT7.out.r8
            have HL8 : Aside0 ((Sh.turn kb 92 ++ Sh.dig (Sh.turn kb 54 ++ b)).length = 96) := ⟨by rw [List.length_append, HTL.out.2, Sh.dig_length]⟩
            rw [HL8.out] at hv8
            subst hv8
            obtain ⟨D2, HD2⟩ : ∃ D, Aside0 (Sh.u8s (Sh.hm key b) = D) := ⟨_, ⟨rfl⟩⟩
            have HI2 : Aside0 ((Tryz.prog.info? 152).map (·.size) = some D2.size) := ⟨by rw [← HD2.out]; exact Sh.dig_info _⟩
            have HZ2 : Aside0 ((Sh.u8s (List.replicate 32 0)).size = D2.size) := ⟨by rw [← HD2.out]; exact Sh.dig_zeros _⟩
            have HE2 : Aside0 (D2.all (·.oneCell') = true) := ⟨by rw [← HD2.out]; exact Sh.dig_one _⟩
            have HF : Aside0 (Calls Tryz.prog 123 #[.slice A81 96 c81] w44 fun e w' => e = .returned (.agg D2) ∧ Below w44.heap.size w44 w') := ⟨by
              obtain ⟨e8, hc8, hC8⟩ := Kd.R_reads' HT7.out.r8
              have := refsum_.calls A81 c81 (Sh.turn kb 92 ++ Sh.dig (Sh.turn kb 54 ++ b)) w44 hC8 (by rw [HL8.out]; exact hc8) (Sh.app_bytes (Sh.turn_bytes _ _) (Sh.dig_bytes _)) (by rw [HL8.out]; decide)
              rw [HL8.out, ← HKBd.out] at this
              rw [show Sh.u8s (Sh.dig (Sh.turn (Sh.kblock key) 92 ++ Sh.dig (Sh.turn (Sh.kblock key) 54 ++ b))) = D2 from HD2.out] at this
              exact this⟩
            refine HF.out.mono ?_
            rintro e w45 ⟨rfl, hb45⟩
            have HB45 : Aside0 (Below w3.heap.size w3 w45) := ⟨below_then HT7.out.g HT7.out.g.size hb45⟩
            have HO45 : Aside0 (w45.heap[w.heap.size]? = some (.cells (Sh.u8s (List.replicate 32 0)) 152 (0, 0))) := ⟨(HB45.out.block _ (Array.getElem?_eq_some_iff.1 HN0.out).1).trans HN0.out⟩
            have HBW : Aside0 (Below w.heap.size w w45) := ⟨below_then HG3.out HG3.out.size HB45.out⟩
            clear hb45 HF HT5 HT6 HT7 hsl
            go_wp2_with (refine wpList_store_row rfl 152 (.tmp 4) (.tmp 57) rfl w.heap.size D2 rfl rfl 152 _ HO45.out HI2.out HZ2.out HE2.out ?_)
            refine ⟨rfl, .agg D2, ?_, by rw [HD2.out], below_setRow HBW.out (Nat.le_refl _) D2⟩
            exact results_cell_row rfl _ _ w.heap.size 152 D2 (0, 0) _ rfl (setRow_heap w45 w.heap.size _ D2 _ _ HO45.out) Tryz.underlying152 rfl HI2.out
end Go.Proofs.YtgljicdpcapgnaaGreatDoor
namespace Go.Proofs.YtgljicdpcapgnaaGreatDoor
open Go.RowKit Go.Proofs.YtgljicdpcapgnaaGreatDoor.PBase Go.Proofs.YtgljicdpcapgnaaGreatDoorW.PrintWords Go.Proofs.YtgljicdpcapgnaaGreatDoorW.PrintLast Go.Proofs.YtgljicdpcapgnaaGreatDoorW.PrintMore
namespace Sh
theorem one_rows {W : World} {b c : Nat} {A : Option Addr} {l : List Int} (hw : W.cell? ⟨b, 0, none⟩ = some (.slice A l.length c)) (hc : l.length ≤ c) (hb : Bytes l) (hC : Kd.C (Kd.int .u8) W A l.length l) : Rows W (some ⟨b, 0, none⟩) 1 (fun _ => l) (fun _ => A) (fun _ => c) := fun i hi => by
  obtain rfl : i = 0 := by omega
  refine ⟨_, rfl, ?_, hc, hb, hC⟩
  rw [Addr.add_zero']
  exact hw
theorem cat_one (l : List Int) (i : Nat) (hi : i ≤ 1) : (cat (fun _ => l) i).length ≤ l.length := by
  rcases (show i = 0 ∨ i = 1 by omega) with rfl | rfl
  · simp [cat]
  · simp [cat]
theorem of1_ {A0 A1 : Option Addr} {c0 c1 n0 n1 : Nat} {key b : List Int} {D : Array Value} {W : World} {bs : Nat} (hk : Ks W) (h0 : Kd.C (Kd.int .u8) W A0 key.length key) (hn0 : key.length = n0) (hc0 : n0 ≤ c0) (hy0 : Bytes key) (hl0 : n0 ≤ 1099510000000) (h1 : Kd.C (Kd.int .u8) W A1 b.length b) (hn1 : b.length = n1) (hc1 : n1 ≤ c1) (hy1 : Bytes b) (hl1 : n1 ≤ 1099510000000)
    (hcell : W.cell? ⟨bs, 0, none⟩ = some (.slice A1 n1 c1)) (hD : u8s (hm key b) = D) : Calls Tryz.prog 104 #[.slice A0 n0 c0, .slice (some ⟨bs, 0, none⟩) 1 1] W fun e w' => e = .returned (.agg D) ∧ Below W.heap.size W w' := by
  subst hn0; subst hn1; subst hD
  exact of_.calls A0 c0 key (some ⟨bs, 0, none⟩) 1 1 (fun _ => b) (fun _ => A1) (fun _ => c1) W hk h0 hc0 hy0 hl0 (by decide) (one_rows hcell hc1 hy1 h1) (fun i hi => Nat.le_trans (cat_one b i hi) hl1)
theorem refof1_ {A0 A1 : Option Addr} {c0 c1 n0 n1 : Nat} {key b : List Int} {D : Array Value} {W : World} (h0 : Kd.C (Kd.int .u8) W A0 key.length key) (hn0 : key.length = n0) (hc0 : n0 ≤ c0) (hy0 : Bytes key) (hl0 : n0 ≤ 1099510000000) (h1 : Kd.C (Kd.int .u8) W A1 b.length b) (hn1 : b.length = n1) (hc1 : n1 ≤ c1) (hy1 : Bytes b) (hl1 : n1 ≤ 1099510000000)
    (hD : u8s (hm key b) = D) : Calls Tryz.prog 112 #[.slice A0 n0 c0, .slice A1 n1 c1] W fun e w' => e = .returned (.agg D) ∧ Below W.heap.size W w' := by
  subst hn0; subst hn1; subst hD
  exact refof_.calls A0 c0 key A1 c1 b W h0 hc0 hy0 hl0 h1 hc1 hy1 hl1
theorem tag_reads {W : World} {b : Nat} {key bd : List Int} {D : Array Value} {t : TypeId} (hD : u8s (hm key bd) = D) (h : W.heap[b]? = some (.cells D t (0, 0))) : Kd.C (Kd.int .u8) W (some ⟨b, 0, none⟩) 32 (hm key bd) := by
  have := Lit.reads_block h .u8 (hm key bd) (by rw [← hD]; simp [u8s]) (by unfold hm; rw [dig_length]; decide)
  rwa [show (hm key bd).length = 32 from dig_length _] at this
theorem tag_info {key bd : List Int} {D : Array Value} (hD : u8s (hm key bd) = D) : (Tryz.prog.info? 152).map (·.size) = some D.size ∧ (u8s (List.replicate 32 0)).size = D.size ∧ D.all (·.oneCell') = true := by
  subst hD
  exact ⟨dig_info _, dig_zeros _, dig_one _⟩
end Sh
namespace Ps
theorem sizeTk : (Tryz.prog.info? 122).map (·.size) = some 4 := by kernel_rfl
abbrev tkc (t : Tk) : List Value := [.int .u32 t.1, .int .u32 t.2.1, .bool t.2.2.1, .int .u64 t.2.2.2]
theorem refwrite_ {A : Option Addr} {n c : Nat} {l : List Int} {W : World} (h : Kd.C (Kd.int .u8) W A l.length l) (hn : l.length = n) (hc : n ≤ c) (hm : n ≤ 1000000) (hb : Sh.Bytes l) :
    Calls Tryz.prog 113 #[.slice A n c] W fun e w' => e = .returned (.string (txt l)) ∧ Below W.heap.size W w' := by
  subst hn
  exact (coamingref04_Write.calls (56 * l.length + 1) A c l _ W h hc (Sp.refWrite_is l hm hb _ (Nat.lt_succ_self _))).mono (fun _ _ ⟨h1, h2⟩ => ⟨h1, by obtain ⟨m, hm⟩ := h2.out; rw [hm]; exact pw_below_drewN (Below.refl _ _) m⟩)
end Ps
theorem refissue_.calls (A0 : Option Addr) (n0 c0 : Nat) (key : List Int) (a b : Int) (ro : Bool) (d : Int) (w : World) (hr : Kd.C (Kd.int .u8) w A0 key.length key) (hn : key.length = n0) (hc : n0 ≤ c0) (hby : Sh.Bytes key) (hl : n0 ≤ 1099510000000) (hw : Ps.TkWf (a, b, ro, d)) :
  Calls Tryz.prog 100 #[.slice A0 n0 c0, .agg #[.int .u32 a, .int .u32 b, .bool ro, .int .u64 d]] w fun e w' => e = .returned (.string (Ps.iss key (a, b, ro, d))) ∧ Below w.heap.size w w' := by
 have HR := az hr
 have HBY := az hby
 have HN := az hn
 have HW := az hw
 clear hr hby hn hw
 go_enter Tryz.func100, Tryz.ntmps100
 obtain ⟨b0, HB0⟩ : ∃ b, Aside0 (w.heap.size = b) := ⟨_, ⟨rfl⟩⟩
 have hrun : (Instr.loadAt 122 (.pointer (some ⟨w.heap.size, 0, none⟩))).run Tryz.prog (w.alloc (.cells #[.int .u32 a, .int .u32 b, .bool ro, .int .u64 d] 122)) = .ok (.agg #[.int .u32 a, .int .u32 b, .bool ro, .int .u64 d]) (w.alloc (.cells #[.int .u32 a, .int .u32 b, .bool ro, .int .u64 d] 122)) := Wk.run_load_blk (P := Tryz.prog) 122 w.heap.size 0 (Ps.tkc (a, b, ro, d)) _ (Wk.Blk.new w 122 (Ps.tkc (a, b, ro, d))) rfl Tryz.underlying122 rfl Ps.sizeTk
 go_wp2_with (refine Wk.load rfl 122 (.tmp 3) rfl _ (.pointer (some ⟨w.heap.size, 0, none⟩)) rfl hrun ?_)
 generalize hWq : World.alloc w _ = W1
 have HB1 : Aside0 (Below w.heap.size w W1) := ⟨by rw [← hWq]; exact below_alloc (Below.refl _ _) _⟩
 clear hWq hrun
 refine (refbody_.calls a b ro d W1 HW.out).mono ?_
 rintro e w2 ⟨v2, rfl, hR2, hb2⟩
 obtain ⟨A2, c2, rfl⟩ := Kd.R_slice hR2
 obtain ⟨_, hc2, hC2⟩ : ∃ _ : True, (Ps.body (a, b, ro, d)).length ≤ c2 ∧ Kd.C (Kd.int .u8) w2 A2 (Ps.body (a, b, ro, d)).length (Ps.body (a, b, ro, d)) := by
  obtain ⟨A', c', he, h1, h2⟩ := Kd.R_reads hR2
  injection he with e1 e2 e3
  subst e1; subst e3
  exact ⟨trivial, h1, h2⟩
 obtain ⟨bd, HBD⟩ : ∃ l, Aside0 (Ps.body (a, b, ro, d) = l) := ⟨_, ⟨rfl⟩⟩
 obtain ⟨n2, HN2⟩ : ∃ n, Aside0 (bd.length = n) := ⟨_, ⟨rfl⟩⟩
 have HL2 : Aside0 (n2 = 18) := ⟨by rw [← HN2.out, ← HBD.out]; exact Ps.body_len _⟩
 have HBB : Aside0 (Sh.Bytes bd) := ⟨by rw [← HBD.out]; exact Ps.body_bytes _⟩
 rw [HBD.out, HN2.out] at hR2 hc2 ⊢
 rw [HBD.out] at hC2
 have HR2 := az (Kd.R_lower hR2 HB1.out.size)
 have HC2 := az hC2
 have HCL := az hc2
 have HB2 := az (below_then HB1.out HB1.out.size hb2)
 clear hR2 hC2 hb2 hc2 HB1
 go_wp2_with fail
 obtain ⟨D, HDD⟩ : ∃ D, Aside0 (Sh.u8s (Sh.hm key bd) = D) := ⟨_, ⟨rfl⟩⟩
 refine (Sh.refof1_ (Kd.C_below HR.out HB2.out) HN.out hc HBY.out hl HC2.out HN2.out HCL.out HBB.out (by rw [HL2.out]; decide) HDD.out).mono ?_
 rintro e w4 ⟨rfl, hb4⟩
 have HB4 := az (below_then HB2.out HB2.out.size hb4)
 have HR4 := az (Kd.R_below HR2.out hb4)
 have HIF := az (Sh.tag_info HDD.out)
 have HX4 := az (Sh.store_new w4 D)
 have HO4 : Aside0 ((w4.alloc (.cells (Sh.u8s (List.replicate 32 0)) 152)).heap[w4.heap.size]? = some (.cells (Sh.u8s (List.replicate 32 0)) 152 (0, 0))) := ⟨heap_alloc_new w4 _⟩
 clear hb4 HB2 HR2 HC2
 go_wp2_with (first
  | (refine wpList_store_row rfl 152 (.tmp 6) (.tmp 11) rfl w4.heap.size D rfl rfl 152 _ HO4.out HIF.out.1 HIF.out.2.1 HIF.out.2.2 ?_; generalize hWq : World.setRow _ w4.heap.size D = W5; have HX5 : Aside0 (W5.heap[w4.heap.size]? = some (.cells D 152 (0, 0)) ∧ Below w4.heap.size w4 W5) := ⟨by rw [← hWq]; exact HX4.out⟩; have HB5 := az (below_then HB4.out HB4.out.size HX5.out.2); have HR5 := az (Kd.R_below HR4.out HX5.out.2); have HC5 := az (Sh.tag_reads HDD.out HX5.out.1); have hs5 := Sh.slice_all32 w4.heap.size; clear hWq)
  | (at_builtin; refine Kd.R_append_rows (Kd.int .u8) (w0 := w) w.heap.size rfl (.tmp 12) (.tmp 13) 35 5 (.int .u8 0) 1 rfl Tryz.underlying35 Cl.infoByte rfl (by decide) (by omega) (.slice A2 n2 c2) bd (Sh.hm key bd) (some ⟨w4.heap.size, 0, none⟩) 32 32 (fun _ => True) (fun _ => False) rfl rfl HR5.out HC5.out (fun _ _ h => h) (fun _ h => h.elim) (fun _ _ => trivial) HB5.out HB5.out.size (by rw [HN2.out, HL2.out]; decide) ?_; intro v6 w6 ho hb hg _; have HR6 := az ho; have HB6 := az hb; clear ho hb hg))
 have hL6 : (bd ++ Sh.hm key bd).length = 50 := by rw [List.length_append, HN2.out, HL2.out, Ps.hm_len]
 obtain ⟨A6, c6, rfl, hc6, hC6⟩ : ∃ A c, v6 = .slice A 50 c ∧ 50 ≤ c ∧ Kd.C (Kd.int .u8) w6 A (bd ++ Sh.hm key bd).length (bd ++ Sh.hm key bd) := by
  obtain ⟨A', c', he, h1, h2⟩ := Kd.R_reads HR6.out
  exact ⟨A', c', by rw [he, hL6], by omega, h2⟩
 refine (Ps.refwrite_ hC6 hL6 hc6 (by decide) (Sh.app_bytes HBB.out (Ps.hm_bytes _ _))).mono ?_
 rintro e w7 ⟨rfl, hb7⟩
 have HB7 := az (below_then HB6.out HB6.out.size hb7)
 have HT : Aside0 (Ps.txt (bd ++ Sh.hm key bd) = Ps.iss key (a, b, ro, d)) := ⟨by unfold Ps.iss Ps.sealed; rw [HBD.out]⟩
 rw [HT.out]
 clear hb7 hC6 hL6
 go_wp2_with fail
 go_ret
 exact ⟨rfl, HB7.out⟩
end Go.Proofs.YtgljicdpcapgnaaGreatDoor
namespace Go.Proofs.YtgljicdpcapgnaaGreatDoor
open Go.RowKit Go.Proofs.YtgljicdpcapgnaaGreatDoorW.PrintWords Go.Proofs.YtgljicdpcapgnaaGreatDoorW.PrintLast
namespace Cl32
theorem infoByte : (Tryz.prog.info? 36).map (fun i => (i.zero, i.size, i.bytes)) = some (some (.int .u32 0), 1, 4) := by kernel_rfl
end Cl32
def clone32_.f (l : List Int) : Option (List Int) := if l.length < 1099511627776 then some l else none
theorem clone32_.calls (A0 : Option Addr) (c0 : Nat) (l0 : List Int) (r : List Int) (w : World) (hr0 : Kd.C (Kd.int .u32) w A0 l0.length l0) (hc0 : l0.length ≤ c0) (h : clone32_.f l0 = some r) :
  Calls Tryz.prog 55 #[.slice A0 l0.length c0] w fun e w' => ∃ v0_ : Value, e = .returned (v0_) ∧ Kd.R (Kd.int .u32) 36 w' w.heap.size (fun _ => True) v0_ r ∧ Below w.heap.size w w' := by
 have HL : Aside0 (l0.length < 1099511627776 ∧ l0 = r) := ⟨by
  unfold clone32_.f at h
  by_cases c : l0.length < 1099511627776
  ·rw [if_pos c] at h; exact ⟨c, Option.some.inj h⟩
  ·rw [if_neg c] at h; cases h⟩
 clear h
 have HR0 := az hr0
 have heq := fun (w : World) => Lib.run_eql_slice_nil (P := Tryz.prog) w 72 36 A0 l0.length c0 0 0 Tryz.underlying72
 cases A0 with
 | none =>
  have HE : Aside0 (l0 = []) := ⟨by
   rcases Nat.eq_zero_or_pos l0.length with h0 | h0
   ·exact List.eq_nil_of_length_eq_zero h0
   ·obtain ⟨ad, e, _⟩ := hr0.2.2 h0; cases e⟩
  clear hr0
  go_enter Tryz.func55, Tryz.ntmps55
  go_wp2_with fail
  go_ret
  refine ⟨_, rfl, ?_, Below.refl _ _⟩
  rw [← HL.out.2, HE.out]
  exact Kd.R_nil _ _ _ _ _
 | some ad =>
  clear hr0
  go_enter Tryz.func55, Tryz.ntmps55
  have HM := az (World.ownsRow_made (base := w.heap.size) (e := 36) (size := 1) w #[] 0 (Nat.le_refl _) (by unfold maxLen; omega) rfl)
  go_wp2_with (at_builtin; refine Kd.R_append_rows (Kd.int .u32) (w0 := w) w.heap.size rfl (.tmp 5) (.tmp 6) 72 36 (.int .u32 0) 4 rfl Tryz.underlying72 Cl32.infoByte rfl (by decide) (by omega) (.slice (some ⟨w.heap.size, 0, none⟩) 0 0) ([] : List Int) l0 _ _ _ (fun _ => True) (fun _ => False) rfl rfl ?aO ?aR (fun _ _ h => h) (fun _ h => h.elim) (fun _ _ => trivial) ?aB ?aS ?aL ?_)
  case aO => exact Kd.R_of_own HM.out (fun _ _ => trivial)
  case aR => exact Kd.C_below HR0.out (below_alloc (Below.refl _ _) _)
  case aB => exact below_alloc (Below.refl _ _) _
  case aS => simp
  case aL => have := HL.out.1; simp; omega
  intro v1 w1 ho hb _ _
  have HO := az ho
  have HB := az hb
  clear ho hb
  go_wp2_with fail
  go_ret
  refine ⟨_, rfl, ?_, HB.out⟩
  rw [← HL.out.2]
  exact HO.out
end Go.Proofs.YtgljicdpcapgnaaGreatDoor
namespace Go.Proofs.YtgljicdpcapgnaaGreatDoor
open Go.RowKit Go.Proofs.YtgljicdpcapgnaaGreatDoor.PBase Go.Proofs.YtgljicdpcapgnaaGreatDoorW.PrintWords Go.Proofs.YtgljicdpcapgnaaGreatDoorW.PrintLast Go.Proofs.YtgljicdpcapgnaaGreatDoorW.PrintMore
namespace Ps
theorem sizeSl : (Tryz.prog.info? 35).map (·.size) = some 1 := by kernel_rfl
theorem sizeSm : (Tryz.prog.info? 72).map (·.size) = some 1 := by kernel_rfl
abbrev tv (i q s : Int) (v0 v1 : Value) : List Value := [.int .u32 i, v0, .int .u64 q, .int .u64 s, v1]
end Ps
theorem lent_.calls (i q s : Int) (A0 : Option Addr) (n0 c0 : Nat) (l0 : List Int) (A1 : Option Addr) (n1 c1 : Nat) (l1 : List Int) (w : World) (h0 : Kd.C (Kd.int .u8) w A0 l0.length l0) (hn0 : l0.length = n0) (hc0 : n0 ≤ c0) (hm0 : n0 < 140737488355328) (h1 : Kd.C (Kd.int .u32) w A1 l1.length l1) (hn1 : l1.length = n1) (hc1 : n1 ≤ c1) (hm1 : n1 < 1099511627776) :
  Calls Tryz.prog 41 #[.agg #[.int .u32 i, .slice A0 n0 c0, .int .u64 q, .int .u64 s, .slice A1 n1 c1]] w fun e w' => ∃ A2 c2 A3 c3, e = .returned (.agg #[.int .u32 i, .slice A2 n0 c2, .int .u64 q, .int .u64 s, .slice A3 n1 c3]) ∧ n0 ≤ c2 ∧ n1 ≤ c3 ∧ Kd.R (Kd.int .u8) 5 w' w.heap.size (fun _ => True) (.slice A2 n0 c2) l0 ∧ Kd.R (Kd.int .u32) 36 w' w.heap.size (fun _ => True) (.slice A3 n1 c3) l1 ∧ Below w.heap.size w w' := by
 have H0 := az h0
 have H1 := az h1
 have HN0 := az hn0
 have HN1 := az hn1
 have HM0 := az hm0
 have HM1 := az hm1
 clear h0 h1 hn0 hn1 hm0 hm1
 go_enter Tryz.func41, Tryz.ntmps41
 go_wp2_with fail
 generalize hWq : World.alloc (World.alloc w _) _ = W0
 have HB0 : Aside0 (Below w.heap.size w W0) := ⟨by rw [← hWq]; exact below_alloc (below_alloc (Below.refl _ _) _) _⟩
 have HX0 : Aside0 (Wk.Blk W0 w.heap.size 74 (Ps.tv i q s (.slice A0 n0 c0) (.slice A1 n1 c1))) := ⟨by rw [← hWq]; exact (Wk.Blk.new w _ (Ps.tv i q s (.slice A0 n0 c0) (.slice A1 n1 c1))).alloc _⟩
 have HY0 : Aside0 (Wk.Blk W0 (w.heap.size + 1) 74 Ps.z5) := ⟨by rw [← hWq]; exact ⟨heap_alloc2_new w _ _⟩⟩
 have HSL := az Ps.sizeSl
 have HSM := az Ps.sizeSm
 have HSZ := az Ps.sizeTn
 clear hWq
 refine wp_region_noPanic ?_
 refine Rg.s1 10 (fun w' => Below W0.heap.size W0 w') [7, 9] (Below.refl _ _).drew #[false, false, false, false, false, false, false, false, false, false] (fun hHeld => ?_)
 refine Rg.p1 0 (.some 3) ?_
 refine Rg.t1 1 (.some 4) hHeld ?_ (hy := by intro w' hS'; (have c1 := (HX0.out.below_ hS').at_ 1 rfl; go_simp); first | done | with_reducible rfl)
 refine Rg.p1 3 (.some 6) ?_
 refine Rg.t1 4 (.some 7) hHeld ?_ (hy := by intro w' hS'; (have c1 := (HX0.out.below_ hS').at_ 4 rfl; go_simp); first | done | with_reducible rfl)
 refine Rg.o1 2 (.some 5) (fun K hK => ?_)
 refine call_ 53 #[.slice A0 n0 c0] (by rfl) rfl (by go_simp) ?_
 have HCC := clone_.calls A0 c0 l0 l0 W0.drew (Kd.C_below H0.out (below_drew HB0.out)) (by rw [HN0.out]; exact hc0) (by unfold clone_.f; rw [if_pos (by rw [HN0.out]; exact HM0.out)])
 rw [HN0.out] at HCC
 refine HCC.mono ?_
 rintro e w2 ⟨v2, rfl, rv, bv⟩
 obtain ⟨A2, c2, rfl⟩ := Kd.R_slice rv
 rw [HN0.out] at rv ⊢
 have HV2 := az rv
 have HB2 := az (below_then hHeld hHeld.size bv)
 clear rv bv HCC
 refine ⟨_, rfl, ?_⟩
 refine hK.out _ _ HB2.out (fun hHeld => ?_)
 clear hK K
 refine Rg.n1 ?_
 refine Rg.p1 6 (.some 9) ?_
 refine Rg.o1 5 (.some 8) (fun K hK => ?_)
 refine call_ 55 #[.slice A1 n1 c1] (by rfl) rfl (by go_simp) ?_
 have HCC := clone32_.calls A1 c1 l1 l1 w2 (Kd.C_below H1.out (below_then HB0.out HB0.out.size HB2.out)) (by rw [HN1.out]; exact hc1) (by unfold clone32_.f; rw [if_pos (by rw [HN1.out]; exact HM1.out)])
 rw [HN1.out] at HCC
 refine HCC.mono ?_
 rintro e w3 ⟨v3, rfl, rv, bv⟩
 obtain ⟨A3, c3, rfl⟩ := Kd.R_slice rv
 rw [HN1.out] at rv ⊢
 have HV3 := az rv
 have HU3 := az (Kd.R_below HV2.out bv)
 have HB3 := az (below_then hHeld hHeld.size bv)
 clear rv bv HCC
 refine ⟨_, rfl, ?_⟩
 refine hK.out _ _ HB3.out (fun hHeld => ?_)
 clear hK K
 refine Rg.n1 ?_
 refine Rg.l1 7 none (fun K hK => ?_)
 refine Wk.store_step (by rfl) rfl 35 (.tmp 9) (.tmp 5) rfl w.heap.size 1 (.slice A2 n0 c2) [.slice A2 n0 c2] rfl rfl rfl 74 _ (HX0.out.below_ hHeld) HSL.out (Nat.le_of_ble_eq_true rfl) rfl ?_
 intro w4 hX hO
 have HX4 := az (show Wk.Blk w4 w.heap.size 74 (Ps.tv i q s (.slice A2 n0 c2) (.slice A1 n1 c1)) from hX)
 have HO4 := az hO
 have HY4 := az ((HY0.out.below_ hHeld).only hO (Nat.ne_of_gt (Nat.lt_succ_self _)))
 clear hX hO
 refine hK.out _ _ ?_
 clear hK K
 refine Rg.p1 8 (.some 10) ?_
 refine Rg.l1 9 none (fun K hK => ?_)
 refine Wk.store_step (by rfl) rfl 72 (.tmp 10) (.tmp 8) rfl w.heap.size 4 (.slice A3 n1 c3) [.slice A3 n1 c3] rfl rfl rfl 74 _ HX4.out HSM.out (Nat.le_of_ble_eq_true rfl) rfl ?_
 intro w5 hX hO
 have HX5 := az (show Wk.Blk w5 w.heap.size 74 (Ps.tv i q s (.slice A2 n0 c2) (.slice A3 n1 c3)) from hX)
 have HO5 := az hO
 have HY5 := az (HY4.out.only hO (Nat.ne_of_gt (Nat.lt_succ_self _)))
 clear hX hO
 refine hK.out _ _ ?_
 clear hK K
 refine Rg.d1 ?_
 refine NoPanic.normal ?_
 go_wp2_with (first
  | refine Wk.load rfl 74 (.tmp 1) rfl (.agg (Ps.tv i q s (.slice A2 n0 c2) (.slice A3 n1 c3)).toArray) (.pointer (some ⟨w.heap.size, 0, none⟩)) rfl (Wk.run_load_blk 74 w.heap.size 0 _ _ HX5.out rfl Tryz.underlying74 rfl HSZ.out) ?_
  | (refine Wk.store_all rfl rfl 74 (.tmp 2) (.tmp 11) rfl (w.heap.size + 1) (Ps.tv i q s (.slice A2 n0 c2) (.slice A3 n1 c3)) rfl rfl 74 _ HY5.out HSZ.out rfl rfl ?_; intro w6 hX hO; have HX := az hX; have HO := az hO; clear hX hO))
 refine bodyPost_ret (Wk.res_c rfl _ (w.heap.size + 1) 74 _ _ rfl HX.out Tryz.underlying74 rfl HSZ.out) rfl ?_
 have hne : ∀ q, q ∈ 5 :: (Kd.int .u8).E → q ≠ 74 := by decide
 have hne' : ∀ q, q ∈ 36 :: (Kd.int .u32).E → q ≠ 74 := by decide
 have hXX := HX0.out.below_ HB3.out
 have hB3 := below_then HB0.out HB0.out.size HB3.out
 have hB4 := Wk.Only.below hB3 HO4.out (Nat.le_refl _)
 have hB5 := Wk.Only.below hB4 HO5.out (Nat.le_refl _)
 have hR := Wk.R_only (Wk.R_only (Wk.R_only HU3.out hXX hne HO4.out) HX4.out hne HO5.out) HY5.out hne HO.out
 have hR' := Wk.R_only (Wk.R_only (Wk.R_only HV3.out hXX hne' HO4.out) HX4.out hne' HO5.out) HY5.out hne' HO.out
 have c2' : n0 ≤ c2 := by
  obtain ⟨A', c', he, h1, _⟩ := Kd.R_reads hR
  injection he with e1 e2 e3
  omega
 have c3' : n1 ≤ c3 := by
  obtain ⟨A', c', he, h1, _⟩ := Kd.R_reads hR'
  injection he with e1 e2 e3
  omega
 exact ⟨A2, c2, A3, c3, rfl, c2', c3', Kd.R_lower hR HB0.out.size, Kd.R_lower hR' (Nat.le_trans HB0.out.size HB2.out.size), Wk.Only.below hB5 HO.out (Nat.le_succ _)⟩
namespace Ps
def NewPost (w : World) (n : Nat) (l : List Tn) (e : Ending) (w' : World) : Prop :=
  Below w.heap.size w w' ∧ ((64 < n ∧ e = .returned (.tuple #[.pointer none, .int .u16 3])) ∨ (n ≤ 64 ∧ good [] l = false ∧ e = .returned (.tuple #[.pointer none, .int .u16 1])) ∨ (n ≤ 64 ∧ good [] l = true ∧ ∃ p, e = .returned (.tuple #[.pointer (some ⟨p, 0, none⟩), .int .u16 0]) ∧ Tb w' w.heap.size p l))
theorem sizeTab : (Tryz.prog.info? 77).map (·.size) = some 1 := by kernel_rfl
theorem good_step (acc xs : List Tn) (x : Tn) (h : find acc x.f0 = none) (hk : 0 < x.f1.length) : good acc (x :: xs) = good (acc ++ [x]) xs := by
  rw [good, h]
  simp [hk]
theorem good_there (acc xs : List Tn) (x : Tn) {y : Tn} (h : find acc x.f0 = some y) : good acc (x :: xs) = false := by
  rw [good, h]
  simp
theorem good_bare (acc xs : List Tn) (x : Tn) (hk : x.f1.length = 0) : good acc (x :: xs) = false := by
  rw [good, hk]
  simp
end Ps
theorem new_pass.calls (A : Option Addr) (n c : Nat) (l : List Ps.Tn) (w : World) (hC : Ps.kTn.C w A l.length l) (hn : l.length = n) (hw : ∀ x ∈ l, Ps.TnWf x) :
  Calls Tryz.prog 24 #[.slice A n c] w (Ps.NewPost w n l) := by
 have HC := az hC
 have HN := az hn
 have HW := az hw
 clear hC hn hw
 go_enter Tryz.func24, Tryz.ntmps24
 have HSZ := az Ps.sizeTn
 have HST := az Ps.sizeTab
 by_cases h64 : 64 < n
 ·go_wp2_with fail
  go_ret2
  exact ⟨Below.refl _ _, .inl ⟨h64, rfl⟩⟩
 ·have hmm := @run_makeMap Tryz.prog
  go_wp2_with fail
  clear hmm
  obtain ⟨bm, HBM⟩ : ∃ b, Aside0 (w.heap.size = b) := ⟨_, ⟨rfl⟩⟩
  obtain ⟨pt, HPT⟩ : ∃ b, Aside0 (w.heap.size + 1 = b) := ⟨_, ⟨rfl⟩⟩
  generalize hWq : World.alloc (World.alloc w _) _ = W0
  have HT0 : Aside0 (Ps.Tm W0 bm []) := ⟨by rw [← hWq, ← HBM.out]; exact (Ps.Tm.made w).below (below_alloc (Below.refl _ _) _)⟩
  have HP0 : Aside0 (Wk.Blk W0 pt 77 [.map (some bm)]) := ⟨by rw [← hWq, ← HPT.out, ← HBM.out]; exact ⟨heap_alloc2_new w _ _⟩⟩
  have HB0 : Aside0 (Below w.heap.size w W0) := ⟨by rw [← hWq]; exact below_alloc (below_alloc (Below.refl _ _) _) _⟩
  clear hWq
  rw [HPT.out, HBM.out]
  have HBP : Aside0 (w.heap.size ≤ bm ∧ w.heap.size ≤ pt ∧ pt ≠ bm) := ⟨by rw [← HPT.out, ← HBM.out]; omega⟩
  go_loopw [17] (fun v wr => ∃ k : Nat, v = .int .i64 k ∧ k ≤ n ∧ Aside0 (Ps.Tm wr bm (l.take k)) ∧ Aside0 (Wk.Blk wr pt 77 [.map (some bm)]) ∧ Aside0 (Below w.heap.size w wr) ∧ Aside0 (Ps.good (l.take k) (l.drop k) = Ps.good [] l)) (fun v _ => n - (intOf v).toNat)
  case atStart => exact ⟨0, rfl, Nat.zero_le _, HT0, HP0, HB0, ⟨rfl⟩⟩
  case round =>
   clear HT0 HP0 HB0 HBM HPT
   obtain ⟨k, rfl, hk, HT, HP, HB, HG⟩ := hrel
   by_cases hlt : k < n
   ·have hki : k < l.length := by rw [HN.out]; exact hlt
    obtain ⟨ad, A0, c0, A1, c1, hA, hld, -, hl0, hl1, g0, g1⟩ := Ps.row_get HC.out k hki rfl
    subst hA
    have HTK := az (List.take_succ_eq_append_getElem hki)
    have HDK := az (List.drop_eq_getElem_cons hki)
    have hwf := HW.out _ (List.getElem_mem hki)
    obtain ⟨x, HX⟩ : ∃ x, Aside0 (l[k] = x) := ⟨_, ⟨rfl⟩⟩
    rw [HX.out] at hld hl0 hl1 g0 g1 HTK HDK hwf
    obtain ⟨i, l0, q, s, l1⟩ := x
    obtain ⟨⟨hi0, hi1⟩, hm0, hm1, hby⟩ := hwf
    change 0 ≤ i at hi0
    change i < 4294967296 at hi1
    change l0.length ≤ 1000 at hm0
    change l1.length ≤ 1000 at hm1
    obtain ⟨n0, HN0⟩ : ∃ n, Aside0 (l0.length = n) := ⟨_, ⟨rfl⟩⟩
    obtain ⟨n1, HN1⟩ : ∃ n, Aside0 (l1.length = n) := ⟨_, ⟨rfl⟩⟩
    simp only [Ps.tnc] at hld hl0 hl1 g0 g1
    rw [HN0.out] at hm0 hl0
    rw [HN1.out] at hm1 hl1
    have HLD : Aside0 (∀ w', Below w.heap.size w w' → (Instr.loadAt 74 (.pointer (some (ad.add (k * 5))))).run Tryz.prog w' = .ok (.agg (Ps.tv i q s (.slice A0 n0 c0) (.slice A1 n1 c1)).toArray) w') := ⟨fun w' hb => by have := hld w' hb; rw [HN0.out, HN1.out] at this; exact this⟩
    have HG0 := az g0
    have HG1 := az g1
    have HBY := az hby
    clear hld g0 g1 hby
    go_wp2_with (first
     | refine Wk.load rfl 74 (.tmp 19) rfl _ (.pointer (some (ad.add (k * 5)))) rfl (HLD.out wr HB.out) ?_
     | (refine Wk.store_all rfl rfl 74 (.tmp 6) (.tmp 20) rfl wr.heap.size (Ps.tv i q s (.slice A0 n0 c0) (.slice A1 n1 c1)) rfl rfl 74 Ps.z5 (Wk.Blk.new wr 74 Ps.z5) HSZ.out rfl rfl ?_; intro w1 hX hO; have HX1 := az hX; have HO1 := az hO; clear hX hO))
    have HF1 := az (Wk.Only.fresh HB.out HB.out.size HO1.out)
    have HT1 := az (HT.out.below HF1.out.2.2)
    have HP1 := az (HP.out.below_ HF1.out.2.2)
    have HLK : Aside0 ((l.take k).length = k) := ⟨by rw [List.length_take]; omega⟩
    clear HT HP HO1
    rcases HT1.out.look i hi0 hi1 with ⟨hf, hlo⟩ | ⟨y, B0, d0, B1, d1, hf, hlo, -⟩
    ·have HLO := az hlo
     have HFD := az hf
     clear hlo hf
     refine wp_region_noPanic ?_
     refine Rg.s1 13 (fun w' => Below w1.heap.size w1 w') [11] (Below.refl _ _).drew #[false, false, false, false, false, false, false, false, false, false, false, false, false] (fun hHeld => ?_)
     refine Rg.p1 0 (.some 22) ?_
     refine Rg.p1 1 (.some 23) ?_
     refine Rg.p1 2 (.some 24) ?_
     refine Rg.t1 3 (.some 25) hHeld ?_ (hy := by intro w' hS'; (have c1 := (HP1.out.below_ hS').at_ 0 rfl; go_simp); first | done | with_reducible rfl)
     refine Rg.p1 4 (.some 26) ?_
     refine Rg.t1 5 (.some 27) hHeld ?_ (hy := by intro w' hS'; (have c1 := (HX1.out.below_ hS').at_ 0 rfl; go_simp); first | done | with_reducible rfl)
     refine Rg.t1 6 (.some 28) hHeld ?_ (hy := by intro w' hS'; (have c1 := HLO.out w' hS'; go_simp); first | done | with_reducible rfl)
     refine Rg.p1 7 (.some 21) ?_
     refine Rg.p1 8 (.some 29) ?_
     refine Rg.p1 9 (.some 30) ?_
     refine Rg.o1 10 (.some 7) (fun K hK => ?_)
     refine value_ (w1 := w1.drew.alloc (.cells Ps.z5.toArray 74)) (v := .pointer (some ⟨w1.drew.heap.size, 0, none⟩)) (by rfl) rfl (by go_simp) ?_
     refine hK.out _ _ (hHeld.alloc hHeld.size _) (fun hHeld => ?_)
     clear hK K
     refine Rg.n1 ?_
     refine Rg.l1 11 none (fun K hK => ?_)
     refine Wk.store_all_step (by rfl) rfl 74 (.tmp 7) (.tmp 29) rfl w1.drew.heap.size Ps.z5 rfl rfl 74 Ps.z5 (Wk.Blk.new w1.drew 74 Ps.z5) HSZ.out rfl rfl ?_
     intro w2 hX hO
     have HX2 := az hX
     have HO2 := az hO
     clear hX hO
     refine hK.out _ _ ?_
     clear hK K
     refine Rg.p1 12 (.some 8) ?_
     refine Rg.d1 ?_
     refine NoPanic.normal ?_
     have HF2 := az (Wk.Only.fresh (w := w1.drew) HF1.out.2.1.drew (Nat.le_trans HF1.out.2.1.size (Nat.le_refl _)) HO2.out)
     have HX12 := az (HX1.out.below_ (Below.trans (Below.refl _ _).drew HF2.out.2.2))
     have HP12 := az (HP1.out.below_ (Below.trans (Below.refl _ _).drew HF2.out.2.2))
     have HT12 := az (HT1.out.below (Below.trans (Below.refl _ _).drew HF2.out.2.2))
     have c1 := HX12.out.at_ 1 rfl
     clear HX1 HP1 HT1 HO2 HX2 hHeld HLO
     by_cases hz : n0 = 0
     ·have hzI : (n0 : Int) = 0 := by omega
      go_wp2_with fail
      go_ret2
      refine ⟨HF2.out.2.1, .inr (.inl ⟨by omega, ?_, rfl⟩)⟩
      rw [← HG.out, HDK.out]
      exact Ps.good_bare _ _ _ (by show l0.length = 0; rw [HN0.out]; exact hz)
     ·have hzI : ¬ (n0 : Int) = 0 := by omega
      go_wp2_with fail
      clear c1
      refine wp_region_noPanic ?_
      refine Rg.s1 9 (fun w' => Below w2.heap.size w2 w') [8] (Below.refl _ _).drew #[false, false, false, false, false, false, false, false, false] (fun hHeld => ?_)
      refine Rg.p1 0 (.some 38) ?_
      refine Rg.p1 1 (.some 39) ?_
      refine Rg.p1 2 (.some 40) ?_
      refine Rg.t1 3 (.some 41) hHeld ?_ (hy := by intro w' hS'; (have c1 := (HP12.out.below_ hS').at_ 0 rfl; go_simp); first | done | with_reducible rfl)
      refine Rg.p1 4 (.some 42) ?_
      refine Rg.t1 5 (.some 43) hHeld ?_ (hy := by intro w' hS'; (have c1 := (HX12.out.below_ hS').at_ 0 rfl; go_simp); first | done | with_reducible rfl)
      refine Rg.t1 6 (.some 44) hHeld ?_ (hy := by intro w' hS'; (have hl := Wk.run_load_blk (P := Tryz.prog) 74 wr.heap.size 0 (Ps.tv i q s (.slice A0 n0 c0) (.slice A1 n1 c1)) _ (HX12.out.below_ hS') rfl Tryz.underlying74 rfl HSZ.out; refine (Wk.exec_load 74 (.tmp 6) rfl _ _ rfl hl).trans ?_); first | done | with_reducible rfl)
      refine Rg.o1 7 (.some 45) (fun K hK => ?_)
      refine call_ 41 #[.agg #[.int .u32 i, .slice A0 n0 c0, .int .u64 q, .int .u64 s, .slice A1 n1 c1]] (by rfl) rfl (by go_simp) ?_
      refine (lent_.calls i q s A0 n0 c0 l0 A1 n1 c1 l1 w2.drew (Kd.C_below HG0.out (below_drew HF2.out.2.1)) HN0.out hl0 (by omega) (Kd.C_below HG1.out (below_drew HF2.out.2.1)) HN1.out hl1 (by omega)).mono ?_
      rintro e w3 ⟨A2, c2, A3, c3, rfl, hc2, hc3, hR2, hR3, hb3⟩
      have HR2 := az hR2
      have HR3 := az hR3
      have HC2 := az hc2
      have HC3 := az hc3
      have HB3 := az (below_then hHeld hHeld.size hb3)
      clear hR2 hR3 hc2 hc3 hb3
      have HUP : Aside0 (∃ W', (Instr.mapUpdate 75 (.map (some bm)) (.int .u32 i) (.agg #[.int .u32 i, .slice A2 n0 c2, .int .u64 q, .int .u64 s, .slice A3 n1 c3])).run Tryz.prog w3 = .ok () W' ∧ Ps.Tm W' bm (l.take (k + 1)) ∧ w3.grownBy W' (some bm)) := ⟨by
       rw [HTK.out]
       have hbm : bm < w2.drew.heap.size := HT12.out.lt
       refine (HT12.out.below HB3.out).update ⟨i, l0, q, s, l1⟩ _ ⟨hi0, hi1⟩ (by rw [HLK.out]; unfold maxLen; omega) HFD.out ⟨A2, c2, A3, c3, ?_, ?_, ?_, ?_, ?_⟩
       ·simp only [Ps.tnc]
        rw [HN0.out, HN1.out]
       ·show l0.length ≤ c2
        rw [HN0.out]; exact HC2.out
       ·show l1.length ≤ c3
        rw [HN1.out]; exact HC3.out
       ·show Kd.F (Kd.int .u8) w3 (fun k => bm < k) A2 l0.length l0
        rw [HN0.out]
        exact Kd.F_mono (Kd.R_F (Kd.R_bound HR2.out)) (fun j hj => Nat.lt_of_lt_of_le hbm hj.2.1)
       ·show Kd.F (Kd.int .u32) w3 (fun k => bm < k) A3 l1.length l1
        rw [HN1.out]
        exact Kd.F_mono (Kd.R_F (Kd.R_bound HR3.out)) (fun j hj => Nat.lt_of_lt_of_le hbm hj.2.1)⟩
      obtain ⟨w4, hrun4, ht4, hg4⟩ := HUP.out
      have HRN := az hrun4
      have HT4 := az ht4
      have HG4 := az hg4
      clear hrun4 ht4 hg4 HUP
      refine ⟨_, rfl, ?_⟩
      refine hK.out _ _ HB3.out (fun hHeld => ?_)
      clear hK K
      refine Rg.n1 ?_
      refine Rg.l1 8 none (fun K hK => ?_)
      refine Ps.map_step (w' := w4) (by rfl) rfl 75 (.tmp 41) (.tmp 43) (.tmp 45) rfl (.map (some bm)) (.int .u32 i) (.agg #[.int .u32 i, .slice A2 n0 c2, .int .u64 q, .int .u64 s, .slice A3 n1 c3]) rfl rfl rfl HRN.out ?_
      refine hK.out _ _ ?_
      clear hK K
      refine Rg.d1 ?_
      refine NoPanic.normal ?_
      have hlI : (k : Int) < 64 := by omega
      go_wp2_with fail
      have hb3 := below_then HF2.out.2.1 HF2.out.2.1.size HB3.out
      refine ⟨⟨k + 1, ?_, by omega, HT4, ⟨(HP12.out.below_ HB3.out).grown HG4.out (fun he => HBP.out.2.2 (Option.some.inj he))⟩, ⟨hb3.grown HG4.out hb3.size (fun j hj => by cases hj; exact HBP.out.1)⟩, ⟨?_⟩⟩, ?_⟩
      ·simp
      ·rw [HTK.out, ← HG.out, HDK.out]
       exact (Ps.good_step _ _ _ HFD.out (by show 0 < l0.length; rw [HN0.out]; omega)).symm
      ·simp [intOf]; omega
    ·have HLO := az hlo
     have HFD := az hf
     clear hlo hf
     refine wp_region_noPanic ?_
     refine Rg.s1 13 (fun w' => Below w1.heap.size w1 w') [11] (Below.refl _ _).drew #[false, false, false, false, false, false, false, false, false, false, false, false, false] (fun hHeld => ?_)
     refine Rg.p1 0 (.some 22) ?_
     refine Rg.p1 1 (.some 23) ?_
     refine Rg.p1 2 (.some 24) ?_
     refine Rg.t1 3 (.some 25) hHeld ?_ (hy := by intro w' hS'; (have c1 := (HP1.out.below_ hS').at_ 0 rfl; go_simp); first | done | with_reducible rfl)
     refine Rg.p1 4 (.some 26) ?_
     refine Rg.t1 5 (.some 27) hHeld ?_ (hy := by intro w' hS'; (have c1 := (HX1.out.below_ hS').at_ 0 rfl; go_simp); first | done | with_reducible rfl)
     refine Rg.t1 6 (.some 28) hHeld ?_ (hy := by intro w' hS'; (have c1 := HLO.out w' hS'; go_simp); first | done | with_reducible rfl)
     refine Rg.p1 7 (.some 21) ?_
     refine Rg.p1 8 (.some 29) ?_
     refine Rg.p1 9 (.some 30) ?_
     refine Rg.o1 10 (.some 7) (fun K hK => ?_)
     refine value_ (w1 := w1.drew.alloc (.cells Ps.z5.toArray 74)) (v := .pointer (some ⟨w1.drew.heap.size, 0, none⟩)) (by rfl) rfl (by go_simp) ?_
     refine hK.out _ _ (hHeld.alloc hHeld.size _) (fun hHeld => ?_)
     clear hK K
     refine Rg.n1 ?_
     refine Rg.l1 11 none (fun K hK => ?_)
     refine Wk.store_all_step (by rfl) rfl 74 (.tmp 7) (.tmp 29) rfl w1.drew.heap.size (Ps.tnc y B0 d0 B1 d1) rfl rfl 74 Ps.z5 (Wk.Blk.new w1.drew 74 Ps.z5) HSZ.out rfl rfl ?_
     intro w2 hX hO
     have HX2 := az hX
     have HO2 := az hO
     clear hX hO
     refine hK.out _ _ ?_
     clear hK K
     refine Rg.p1 12 (.some 8) ?_
     refine Rg.d1 ?_
     refine NoPanic.normal ?_
     have HF2 := az (Wk.Only.fresh (w := w1.drew) HF1.out.2.1.drew (Nat.le_trans HF1.out.2.1.size (Nat.le_refl _)) HO2.out)
     go_wp2_with fail
     go_ret2
     refine ⟨HF2.out.2.1, .inr (.inl ⟨by omega, ?_, rfl⟩)⟩
     rw [← HG.out, HDK.out]
     exact Ps.good_there _ _ _ HFD.out
   ·obtain rfl : k = n := by omega
    go_wp2_with fail
    go_ret2
    refine ⟨HB.out, .inr (.inr ⟨by omega, ?_, pt, rfl, bm, HBP.out.2.1, HBP.out.1, HP.out, ?_⟩)⟩
    ·rw [← HG.out, List.drop_of_length_le (by rw [HN.out]; exact Nat.le_refl _)]
     rfl
    ·have := HT.out
     rwa [List.take_of_length_le (by rw [HN.out]; exact Nat.le_refl _)] at this
namespace Ps
theorem find_mem {l : List Tn} {id : Int} {x : Tn} (h : find l id = some x) : x ∈ l ∧ x.f0 = id := by
  unfold find at h
  exact ⟨List.mem_of_find?_eq_some h, by simpa using List.find?_some h⟩
theorem zn_wf : TnWf zn := ⟨⟨Int.le_refl _, by show (0 : Int) < 4294967296; decide⟩, by show 0 ≤ 1000; decide, by show 0 ≤ 1000; decide, fun x h => by cases h⟩
theorem got_wf {l : List Tn} (hW : ∀ x ∈ l, TnWf x) (id : Int) : TnWf ((find l id).getD zn) := by
  cases h : find l id with
  | none => exact zn_wf
  | some x => exact hW x (find_mem h).1
theorem Tm.looks {W : World} {b : Nat} {l : List Tn} (h : Tm W b l) (id : Int) (h0 : 0 ≤ id) (h1 : id < 4294967296) :
    ∃ A0 c0 A1 c1, (∀ W', Below W.heap.size W W' → (Instr.lookup 75 (.map (some b)) (.int .u32 id) true).run Tryz.prog W' = .ok (.tuple #[.agg (tnc ((find l id).getD zn) A0 c0 A1 c1).toArray, .bool (find l id).isSome]) W') ∧ ((find l id).getD zn).f1.length ≤ c0 ∧ ((find l id).getD zn).f4.length ≤ c1 ∧ Kd.C (Kd.int .u8) W A0 ((find l id).getD zn).f1.length ((find l id).getD zn).f1 ∧ Kd.C (Kd.int .u32) W A1 ((find l id).getD zn).f4.length ((find l id).getD zn).f4 := by
  rcases h.look id h0 h1 with ⟨hf, hr⟩ | ⟨x, A0, c0, A1, c1, hf, hr, l0, l1, g0, g1⟩
  · rw [hf]
    exact ⟨none, 0, none, 0, hr, Nat.le_refl _, Nat.le_refl _, Kd.C_nil _ _, Kd.C_nil _ _⟩
  · rw [hf]
    exact ⟨A0, c0, A1, c1, hr, l0, l1, g0, g1⟩
def TenPost (w : World) (l : List Tn) (id : Int) (e : Ending) (w' : World) : Prop :=
  Below w.heap.size w w' ∧ ∃ A0 c0 A1 c1, e = .returned (.tuple #[.agg (tnc ((find l id).getD zn) A0 c0 A1 c1).toArray, .bool (find l id).isSome]) ∧ ((find l id).getD zn).f1.length ≤ c0 ∧ ((find l id).getD zn).f4.length ≤ c1 ∧
    Kd.R (Kd.int .u8) 5 w' w.heap.size (fun _ => True) (.slice A0 ((find l id).getD zn).f1.length c0) ((find l id).getD zn).f1 ∧ Kd.R (Kd.int .u32) 36 w' w.heap.size (fun _ => True) (.slice A1 ((find l id).getD zn).f4.length c1) ((find l id).getD zn).f4
end Ps
end Go.Proofs.YtgljicdpcapgnaaGreatDoor
