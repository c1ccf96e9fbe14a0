/- The contract of the code that mixes a block in. -/
import Derived.Test.YthcilikinfhipaaDoorShaN
import Derived.Deep.RegionHeld3
import Derived.BigQuiet
set_option linter.unusedVariables false
set_option linter.unusedSimpArgs false
namespace Go.Proofs.YthcilikinfhipaaDoor
open Go.RowKit Go.Proofs.YthcilikinfhipaaDoorW.PrintWords Go.Proofs.YthcilikinfhipaaDoorW.PrintLast
namespace Sh
/-- what stands in memory while a block is mixed in -/
structure Mx (w : World) (hb : Nat) (C : Array Value) (p : List Int) (t : Nat) (B : Array Value) (ws : List Int) (wr : World) : Prop where
  h : wr.heap[hb]? = some (.cells C 47 (0, 0))
  bw : wr.heap[w.heap.size]? = some (.cells (u32s ws) 51 (0, 0))
  bv : wr.heap[w.heap.size + 1]? = some (.cells B 45 (0, 0))
  ks : ∀ i, i < 64 → wr.cell? ⟨0, i, none⟩ = some (.int .u32 (keys.getD i 0))
  g : Below w.heap.size w wr
  len : ws.length = 64
  wt : ws.take t = words p t
  lt : hb < w.heap.size
  hb0 : hb ≠ 0
theorem u32s_set (l : List Int) (i : Nat) (x : Int) : (u32s l).setIfInBounds i (.int .u32 x) = u32s (l.set i x) := by
  simp [u32s, List.map_set]
theorem quiet_then {P : Program} {f : FuncId} {args : Array Value} {W : World} {k a : Nat} {v : Value}
    (h : Calls P f args (W.drewN (k + a)) fun e w' => e = .returned v ∧ ∃ m, w' = (W.drewN (k + a)).drewN m) : Calls P f args (W.drewN (k + a)) fun e w'' => e = .returned v ∧ ∃ n, w'' = W.drewN (k + n) :=
  h.mono fun _ _ ⟨he, m, hm⟩ => ⟨he, a + m, by rw [hm, World.drewN_drewN, Nat.add_assoc]⟩
theorem getD_set_here (l : List Int) (i : Nat) (x : Int) (h : i < (l.set i x).length) : (l.set i x).getD i 0 = x := by
  rw [List.length_set] at h
  simp [List.getD_eq_getElem?_getD, List.getElem?_set, h]
theorem u32s_here (l : List Int) (i : Nat) (x : Int) (h : i < (l.set i x).length) : (u32s (l.set i x))[i]? = some (.int .u32 x) := by
  rw [u32s_at _ _ h]
  rw [List.length_set] at h
  simp [List.getD_eq_getElem?_getD, List.getElem?_set, h]
theorem Mx.drewN {w : World} {hb : Nat} {C : Array Value} {p : List Int} {t : Nat} {B : Array Value} {ws : List Int} {wr : World} (h : Mx w hb C p t B ws wr) (m : Nat) : Mx w hb C p t B ws (wr.drewN m) :=
  ⟨h.h, h.bw, h.bv, h.ks, ⟨h.g.os, h.g.tape, h.g.output, h.g.size, h.g.block⟩, h.len, h.wt, h.lt, h.hb0⟩
theorem Mx.drew {w : World} {hb : Nat} {C : Array Value} {p : List Int} {t : Nat} {B : Array Value} {ws : List Int} {wr : World} (h : Mx w hb C p t B ws wr) : Mx w hb C p t B ws wr.drew :=
  ⟨h.h, h.bw, h.bv, h.ks, ⟨h.g.os, h.g.tape, h.g.output, h.g.size, h.g.block⟩, h.len, h.wt, h.lt, h.hb0⟩
theorem Mx.far {w : World} {hb : Nat} {C : Array Value} {p : List Int} {t : Nat} {B : Array Value} {ws : List Int} {wr : World} (h : Mx w hb C p t B ws wr) (k i : Nat) (v : Value) (hk : w.heap.size ≤ k) : (wr.setCell ⟨k, i, none⟩ v).heap[hb]? = some (.cells C 47 (0, 0)) ∧ (∀ j, j < 64 → (wr.setCell ⟨k, i, none⟩ v).cell? ⟨0, j, none⟩ = some (.int .u32 (keys.getD j 0))) ∧ Below w.heap.size w (wr.setCell ⟨k, i, none⟩ v) := by
  refine ⟨row_far h.h k (by have := h.lt; omega) i v, fun j hj => ?_, h.g.setCell (p := ⟨k, i, none⟩) hk v⟩
  exact (World.cell?_of_block (Below.heap_setCell _ _ _ _ (by show 0 ≠ k; have := h.lt; omega))).trans (h.ks j hj)
theorem Mx.word {w : World} {hb : Nat} {C : Array Value} {p : List Int} {t : Nat} {B : Array Value} {ws : List Int} {wr : World} (h : Mx w hb C p t B ws wr) (ht : t < 64) (x : Int) (hx : x = if t < 16 then four p t else next (words p t) t) : Mx w hb C p (t + 1) B (ws.set t x) (wr.setCell ⟨w.heap.size, t, none⟩ (.int .u32 x)) := by
  obtain ⟨f1, f2, f3⟩ := h.far w.heap.size t (.int .u32 x) (Nat.le_refl _)
  refine ⟨f1, ?_, row_far h.bv _ (by omega) _ _, f2, f3, by rw [List.length_set]; exact h.len, ?_, h.lt, h.hb0⟩
  · rw [row_set h.bw, u32s_set]
  · rw [words, ← hx, ← h.wt, List.take_add_one, List.take_set_of_le (Nat.le_refl t)]
    simp [h.len, ht]
theorem set8 (a b c d e f g h x0 x1 x2 x3 x4 x5 x6 x7 : Int) : ((((((((u32s [a, b, c, d, e, f, g, h]).setIfInBounds 0 (.int .u32 x0)).setIfInBounds 1 (.int .u32 x1)).setIfInBounds 2 (.int .u32 x2)).setIfInBounds 3 (.int .u32 x3)).setIfInBounds 4 (.int .u32 x4)).setIfInBounds 5 (.int .u32 x5)).setIfInBounds 6 (.int .u32 x6)).setIfInBounds 7 (.int .u32 x7) = u32s [x0, x1, x2, x3, x4, x5, x6, x7] := by simp [u32s]
theorem Mx.vset {w : World} {hb : Nat} {C : Array Value} {p : List Int} {t : Nat} {B : Array Value} {ws : List Int} {wr : World} (h : Mx w hb C p t B ws wr) (i : Nat) (v : Value) : Mx w hb C p t (B.setIfInBounds i v) ws (wr.setCell ⟨w.heap.size + 1, i, none⟩ v) := by
  obtain ⟨f1, f2, f3⟩ := h.far (w.heap.size + 1) i v (Nat.le_succ _)
  exact ⟨f1, row_far h.bw _ (by omega) _ _, row_set h.bv i v, f2, f3, h.len, h.wt, h.lt, h.hb0⟩
theorem Mx.vec {w : World} {hb : Nat} {C : Array Value} {p : List Int} {s : V} {t : Nat} {v : V} {ws : List Int} {W : World} (h : Mx w hb C p (t + 1) (u32s v.list) ws W) (hv : rounds (words p 64) s t = v) (ht : t < 64) (kx x xa xe : Int) (hk : keys.getD t 0 = kx) (hx : ws.getD t 0 = x)
    (ha : xa = (v.rnd kx x).a) (he : xe = (v.rnd kx x).e) :
    Mx w hb C p (t + 1) (u32s (rounds (words p 64) s (t + 1)).list) ws ((((((((W.setCell ⟨w.heap.size + 1, 0, none⟩ (.int .u32 xa)).setCell ⟨w.heap.size + 1, 1, none⟩ (.int .u32 v.a)).setCell ⟨w.heap.size + 1, 2, none⟩ (.int .u32 v.b)).setCell ⟨w.heap.size + 1, 3, none⟩ (.int .u32 v.c)).setCell ⟨w.heap.size + 1, 4, none⟩ (.int .u32 xe)).setCell ⟨w.heap.size + 1, 5, none⟩ (.int .u32 v.e)).setCell ⟨w.heap.size + 1, 6, none⟩ (.int .u32 v.f)).setCell ⟨w.heap.size + 1, 7, none⟩ (.int .u32 v.g)) := by
  have hx2 : (words p 64).getD t 0 = x := by
    rw [words_at p (t + 1) 64 t (by omega) (by omega), ← h.wt, ← hx, List.getD_eq_getElem?_getD, List.getD_eq_getElem?_getD, List.getElem?_take, if_pos (by omega)]
  have e : rounds (words p 64) s (t + 1) = v.rnd kx x := by
    rw [rounds, hv, hk, hx2]
  have h8 := (((((((Mx.vset (B := u32s [v.a, v.b, v.c, v.d, v.e, v.f, v.g, v.h]) h 0 (.int .u32 xa)).vset 1 (.int .u32 v.a)).vset 2 (.int .u32 v.b)).vset 3 (.int .u32 v.c)).vset 4 (.int .u32 xe)).vset 5 (.int .u32 v.e)).vset 6 (.int .u32 v.f)).vset 7 (.int .u32 v.g)
  rw [set8] at h8
  have e2 : (v.rnd kx x).list = [xa, v.a, v.b, v.c, xe, v.e, v.f, v.g] := by unfold V.list; rw [ha, he]; rfl
  rw [e, e2]
  exact h8
/-- what stands in memory while the sums are added -/
structure M2 (w : World) (hb : Nat) (C B : Array Value) (wr : World) : Prop where
  h : wr.heap[hb]? = some (.cells C 47 (0, 0))
  bv : wr.heap[w.heap.size + 1]? = some (.cells B 45 (0, 0))
  g : w.grownBy wr (some hb)
  lt : hb < w.heap.size
theorem M2.set {w : World} {hb : Nat} {C B : Array Value} {wr : World} (h : M2 w hb C B wr) (i : Nat) (v : Value) : M2 w hb (C.setIfInBounds i v) B (wr.drew.setCell ⟨hb, i, none⟩ v) :=
  ⟨row_set (w := wr.drew) h.h i v, row_far (w := wr.drew) h.bv hb (by have := h.lt; omega) i v, gb_set (b := wr.drew) ⟨h.g.os, h.g.tape, h.g.output, h.g.size, h.g.block⟩ i v, h.lt⟩
/-- the first k sums are the new ones -/
def some8 (v s : V) (k : Nat) : List Int := (v.add s).list.take k ++ s.list.drop k
theorem some8_length (v s : V) (k : Nat) (hk : k ≤ 8) : (some8 v s k).length = 8 := by
  unfold some8; rw [List.length_append, List.length_take, List.length_drop, list_length, list_length]; omega
theorem some8_at (v s : V) (k : Nat) (hk : k < 8) : (some8 v s k).getD k 0 = s.list.getD k 0 ∧ (some8 v s k).set k (IntKind.u32.wrap (s.list.getD k 0 + v.list.getD k 0)) = some8 v s (k + 1) := by
  rw [IntKind.wrap_u32]
  match k, hk with
  | 0, _ => exact ⟨rfl, rfl⟩
  | 1, _ => exact ⟨rfl, rfl⟩
  | 2, _ => exact ⟨rfl, rfl⟩
  | 3, _ => exact ⟨rfl, rfl⟩
  | 4, _ => exact ⟨rfl, rfl⟩
  | 5, _ => exact ⟨rfl, rfl⟩
  | 6, _ => exact ⟨rfl, rfl⟩
  | 7, _ => exact ⟨rfl, rfl⟩
theorem hc_set (s p : List Int) (n : Int) (i : Nat) (x : Int) (h : i < s.length) : (hc s p n).setIfInBounds i (.int .u32 x) = hc (s.set i x) p n := by
  simp [hc, List.map_set, List.set_append, h]
end Sh
set_option maxHeartbeats 2000000 in
set_option maxRecDepth 100000 in
theorem mix_.calls (hb : Nat) (s : Sh.V) (p : List Int) (n : Int) (w : World) (hp : p.length = 64) (hby : Sh.Bytes p) (hh : w.heap[hb]? = some (.cells (Sh.hc s.list p n) 47 (0, 0))) (hb0 : hb ≠ 0)
    (hk : ∀ i, i < 64 → w.cell? ⟨0, i, none⟩ = some (.int .u32 (Sh.keys.getD i 0))) :
    Calls Tryd.prog 18 #[.pointer (some ⟨hb, 0, none⟩)] w fun e w' => e = .returned (.tuple #[]) ∧ w'.heap[hb]? = some (.cells (Sh.hc (Sh.comp s p).list p n) 47 (0, 0)) ∧ w.grownBy w' (some hb) := by
  have HH := Aside0.mk hh
  have HK := Aside0.mk hk
  have hlt : hb < w.heap.size := (Array.getElem?_eq_some_iff.1 hh).1
  clear hh hk
  have c0 : w.cell? ⟨hb, 0, none⟩ = some (.int .u32 s.a) := Sh.cellAt HH.out 0 _ (Sh.hc_sum s.list p n 0 (by rw [Sh.list_length]; decide))
  have c1 : w.cell? ⟨hb, 1, none⟩ = some (.int .u32 s.b) := Sh.cellAt HH.out 1 _ (Sh.hc_sum s.list p n 1 (by rw [Sh.list_length]; decide))
  have c2 : w.cell? ⟨hb, 2, none⟩ = some (.int .u32 s.c) := Sh.cellAt HH.out 2 _ (Sh.hc_sum s.list p n 2 (by rw [Sh.list_length]; decide))
  have c3 : w.cell? ⟨hb, 3, none⟩ = some (.int .u32 s.d) := Sh.cellAt HH.out 3 _ (Sh.hc_sum s.list p n 3 (by rw [Sh.list_length]; decide))
  have c4 : w.cell? ⟨hb, 4, none⟩ = some (.int .u32 s.e) := Sh.cellAt HH.out 4 _ (Sh.hc_sum s.list p n 4 (by rw [Sh.list_length]; decide))
  have c5 : w.cell? ⟨hb, 5, none⟩ = some (.int .u32 s.f) := Sh.cellAt HH.out 5 _ (Sh.hc_sum s.list p n 5 (by rw [Sh.list_length]; decide))
  have c6 : w.cell? ⟨hb, 6, none⟩ = some (.int .u32 s.g) := Sh.cellAt HH.out 6 _ (Sh.hc_sum s.list p n 6 (by rw [Sh.list_length]; decide))
  have c7 : w.cell? ⟨hb, 7, none⟩ = some (.int .u32 s.h) := Sh.cellAt HH.out 7 _ (Sh.hc_sum s.list p n 7 (by rw [Sh.list_length]; decide))
  go_enter Tryd.func18, Tryd.ntmps18
  go_wp2_with fail
  clear c0 c1 c2 c3 c4 c5 c6 c7
  go_loopw [16] (fun v16 wr => ∃ (t : Nat) (ws : List Int), v16 = .int .i64 t ∧ t ≤ 64 ∧ Aside0 (Sh.Mx w hb (Sh.hc s.list p n) p t (Sh.u32s (Sh.rounds (Sh.words p 64) s t).list) ws wr)) (fun i _ => 64 - (intOf i).toNat)
  case atStart =>
    refine ⟨0, List.replicate 64 0, rfl, by omega, ⟨?_⟩⟩
    refine ⟨?_, ?_, ?_, ?_, ?_, rfl, rfl, hlt, hb0⟩
    · exact (Below.heap_alloc _ _ _ (by show hb < (w.heap.push _).size; simp; omega)).trans ((Below.heap_alloc _ _ _ hlt).trans HH.out)
    · refine (Below.heap_alloc _ _ _ (by show w.heap.size < (w.heap.push _).size; simp)).trans ?_
      exact heap_alloc_new _ _
    · have := heap_alloc_new (w.alloc (.cells (Sh.u32s (List.replicate 64 0)) 51)) (.cells (Sh.u32s s.list) 45)
      have e : (w.alloc (.cells (Sh.u32s (List.replicate 64 0)) 51)).heap.size = w.heap.size + 1 := by show (w.heap.push _).size = _; simp
      rw [e] at this
      exact this
    · intro i hi
      exact (((below_alloc (below_alloc (Below.refl _ _) _) _).cell (World.block_lt_of_cell? w _ (HK.out i hi)))).trans (HK.out i hi)
    · exact below_alloc (below_alloc (Below.refl _ _) _) _
  case round =>
    obtain ⟨t, ws, rfl, ht, HM⟩ := hrel
    by_cases hlt : t < 64
    · by_cases h16 : t < 16
      · have hs := Sh.slice_rest hb 8 .i64 (4 * (t : Int)) (4 * t) (by omega) (by omega)
        have hlen : (p.drop (4 * t)).length = 64 - 4 * t := by rw [List.length_drop, hp]
        have HC := Aside0.mk (Sh.reads_at (o := 8 + 4 * t) HM.out.h .u8 (p.drop (4 * t)) (fun j hj => by rw [hlen] at hj; rw [Nat.add_assoc, Sh.hc_rest' _ _ _ _ rfl (by omega)]; simp [List.getD_eq_getElem?_getD]) (by omega))
        have HF := PBase.sha_four.calls (some ⟨hb, 8 + 4 * t, none⟩) (64 - 4 * t) (p.drop (4 * t)) (Sh.four p t) wr HC.out (by omega) (Sh.four_is p t hp h16 hby)
        rw [hlen] at HF
        have HF' := Aside0.mk HF
        clear HF HC
        have ct : wr.cell? ⟨w.heap.size, t, none⟩ = some (.int .u32 (ws.getD t 0)) := Sh.cellAt HM.out.bw _ _ (Sh.u32s_at _ _ (by rw [HM.out.len]; omega))
        have cf : wr.frozen? ⟨w.heap.size, t, none⟩ = false := Sh.frozenAt HM.out.bw t
        go_wp2_with fail
        refine HF'.out.mono ?_
        rintro e w1 ⟨rfl, hd⟩
        obtain ⟨m, rfl⟩ := hd.out
        clear hd HF'
        have HM2 := Aside0.mk (Sh.Mx.word (HM.out.drewN m) hlt (Sh.four p t) (by rw [if_pos h16]))
        go_wp2_with fail
        generalize Sh.four p t = x at *
        generalize (wr.drewN m).setCell ⟨w.heap.size, t, none⟩ (.int .u32 x) = W at *
        clear ct cf hs
        obtain ⟨v, HV⟩ : ∃ v, Aside0 (Sh.rounds (Sh.words p 64) s t = v) := ⟨_, ⟨rfl⟩⟩
        obtain ⟨kx, HKX⟩ : ∃ k, Aside0 (Sh.keys.getD t 0 = k) := ⟨_, ⟨rfl⟩⟩
        have b0 : W.cell? ⟨w.heap.size + 1, 0, none⟩ = some (.int .u32 v.a) := Sh.cellAt HM2.out.bv 0 _ (by rw [HV.out]; rfl)
        have b1 : W.cell? ⟨w.heap.size + 1, 1, none⟩ = some (.int .u32 v.b) := Sh.cellAt HM2.out.bv 1 _ (by rw [HV.out]; rfl)
        have b2 : W.cell? ⟨w.heap.size + 1, 2, none⟩ = some (.int .u32 v.c) := Sh.cellAt HM2.out.bv 2 _ (by rw [HV.out]; rfl)
        have b3 : W.cell? ⟨w.heap.size + 1, 3, none⟩ = some (.int .u32 v.d) := Sh.cellAt HM2.out.bv 3 _ (by rw [HV.out]; rfl)
        have b4 : W.cell? ⟨w.heap.size + 1, 4, none⟩ = some (.int .u32 v.e) := Sh.cellAt HM2.out.bv 4 _ (by rw [HV.out]; rfl)
        have b5 : W.cell? ⟨w.heap.size + 1, 5, none⟩ = some (.int .u32 v.f) := Sh.cellAt HM2.out.bv 5 _ (by rw [HV.out]; rfl)
        have b6 : W.cell? ⟨w.heap.size + 1, 6, none⟩ = some (.int .u32 v.g) := Sh.cellAt HM2.out.bv 6 _ (by rw [HV.out]; rfl)
        have b7 : W.cell? ⟨w.heap.size + 1, 7, none⟩ = some (.int .u32 v.h) := Sh.cellAt HM2.out.bv 7 _ (by rw [HV.out]; rfl)
        have f0 : W.frozen? ⟨w.heap.size + 1, 0, none⟩ = false := Sh.frozenAt HM2.out.bv 0
        have f1 : W.frozen? ⟨w.heap.size + 1, 1, none⟩ = false := Sh.frozenAt HM2.out.bv 1
        have f2 : W.frozen? ⟨w.heap.size + 1, 2, none⟩ = false := Sh.frozenAt HM2.out.bv 2
        have f3 : W.frozen? ⟨w.heap.size + 1, 3, none⟩ = false := Sh.frozenAt HM2.out.bv 3
        have f4 : W.frozen? ⟨w.heap.size + 1, 4, none⟩ = false := Sh.frozenAt HM2.out.bv 4
        have f5 : W.frozen? ⟨w.heap.size + 1, 5, none⟩ = false := Sh.frozenAt HM2.out.bv 5
        have f6 : W.frozen? ⟨w.heap.size + 1, 6, none⟩ = false := Sh.frozenAt HM2.out.bv 6
        have f7 : W.frozen? ⟨w.heap.size + 1, 7, none⟩ = false := Sh.frozenAt HM2.out.bv 7
        have bk : W.cell? ⟨0, t, none⟩ = some (.int .u32 kx) := by rw [← HKX.out]; exact HM2.out.ks t hlt
        have bx : W.cell? ⟨w.heap.size, t, none⟩ = some (.int .u32 x) := Sh.cellAt HM2.out.bw t _ (Sh.u32s_here ws t x (by rw [HM2.out.len]; exact hlt))
        go_wp2_with fail
        go_quiet (fail)
        go_wp2_with fail
        go_quiet (first | exact Sh.quiet_then (sha_ror.quiet _ _ _ _ (Sh.ror_6 _)) | exact Sh.quiet_then (sha_ror.quiet _ _ _ _ (Sh.ror_11 _)) | exact Sh.quiet_then (sha_ror.quiet _ _ _ _ (Sh.ror_25 _)))
        go_wp2_with fail
        go_quiet (first | exact Sh.quiet_then (sha_ror.quiet _ _ _ _ (Sh.ror_2 _)) | exact Sh.quiet_then (sha_ror.quiet _ _ _ _ (Sh.ror_13 _)) | exact Sh.quiet_then (sha_ror.quiet _ _ _ _ (Sh.ror_22 _)))
        go_wp2_with fail
        refine ⟨⟨t + 1, ws.set t x, rfl, by omega, ⟨?_⟩⟩, by simp [intOf]; omega⟩
        refine Sh.Mx.vec (s := s) (v := v) (HV.out ▸ HM2.out.drewN _) HV.out hlt kx x _ _ HKX.out ?_ ?_ ?_
        · exact Sh.getD_set_here ws t x (by rw [HM2.out.len]; exact hlt)
        · simp only [Sh.V.rnd, Sh.V.x, Sh.V.y, Sh.m32, Sh.big1, Sh.big0, Sh.ch, Sh.maj, Int.emod_add_emod, Int.add_emod_emod]
        · simp only [Sh.V.rnd, Sh.V.x, Sh.V.y, Sh.m32, Sh.big1, Sh.big0, Sh.ch, Sh.maj, Int.emod_add_emod, Int.add_emod_emod]
      · obtain ⟨a15, A15⟩ : ∃ a, Aside0 (a = t - 15) := ⟨_, ⟨rfl⟩⟩
        obtain ⟨a2, A2⟩ : ∃ a, Aside0 (a = t - 2) := ⟨_, ⟨rfl⟩⟩
        obtain ⟨a16, A16⟩ : ∃ a, Aside0 (a = t - 16) := ⟨_, ⟨rfl⟩⟩
        obtain ⟨a7, A7⟩ : ∃ a, Aside0 (a = t - 7) := ⟨_, ⟨rfl⟩⟩
        have k15 : (a15 : Int) < 64 := by have := A15.out; omega
        have k2 : (a2 : Int) < 64 := by have := A2.out; omega
        have k16 : (a16 : Int) < 64 := by have := A16.out; omega
        have k7 : (a7 : Int) < 64 := by have := A7.out; omega
        have i15 : wr.cell? ⟨w.heap.size, a15, none⟩ = some (.int .u32 (ws.getD a15 0)) := Sh.cellAt HM.out.bw _ _ (Sh.u32s_at _ _ (by rw [HM.out.len]; omega))
        have i2 : wr.cell? ⟨w.heap.size, a2, none⟩ = some (.int .u32 (ws.getD a2 0)) := Sh.cellAt HM.out.bw _ _ (Sh.u32s_at _ _ (by rw [HM.out.len]; omega))
        obtain ⟨x15, X15⟩ : ∃ x, Aside0 (ws.getD a15 0 = x) := ⟨_, ⟨rfl⟩⟩
        obtain ⟨x2, X2⟩ : ∃ x, Aside0 (ws.getD a2 0 = x) := ⟨_, ⟨rfl⟩⟩
        rw [X15.out] at i15
        rw [X2.out] at i2
        have w15 : IntKind.i64.wrap ((t : Int) - 15) = a15 := by have := A15.out; rw [IntKind.wrap_i64]; omega
        have w2 : IntKind.i64.wrap ((t : Int) - 2) = a2 := by have := A2.out; rw [IntKind.wrap_i64]; omega
        have w16 : IntKind.i64.wrap ((t : Int) - 16) = a16 := by have := A16.out; rw [IntKind.wrap_i64]; omega
        have w7 : IntKind.i64.wrap ((t : Int) - 7) = a7 := by have := A7.out; rw [IntKind.wrap_i64]; omega
        go_wp2_with fail
        go_quiet (fail)
        clear i15 i2 w15 w2 k15 k2
        have i16 : wr.cell? ⟨w.heap.size, a16, none⟩ = some (.int .u32 (ws.getD a16 0)) := Sh.cellAt HM.out.bw _ _ (Sh.u32s_at _ _ (by rw [HM.out.len]; omega))
        have i7 : wr.cell? ⟨w.heap.size, a7, none⟩ = some (.int .u32 (ws.getD a7 0)) := Sh.cellAt HM.out.bw _ _ (Sh.u32s_at _ _ (by rw [HM.out.len]; omega))
        obtain ⟨x16, X16⟩ : ∃ x, Aside0 (ws.getD a16 0 = x) := ⟨_, ⟨rfl⟩⟩
        obtain ⟨x7, X7⟩ : ∃ x, Aside0 (ws.getD a7 0 = x) := ⟨_, ⟨rfl⟩⟩
        rw [X16.out] at i16
        rw [X7.out] at i7
        have I16 := Aside0.mk (show (wr.drewN nq).drew.cell? ⟨w.heap.size, a16, none⟩ = some (.int .u32 x16) from i16)
        have I7 := Aside0.mk (show (wr.drewN nq).drew.cell? ⟨w.heap.size, a7, none⟩ = some (.int .u32 x7) from i7)
        clear i16 i7
        have ct : wr.cell? ⟨w.heap.size, t, none⟩ = some (.int .u32 (ws.getD t 0)) := Sh.cellAt HM.out.bw _ _ (Sh.u32s_at _ _ (by rw [HM.out.len]; omega))
        have cf : wr.frozen? ⟨w.heap.size, t, none⟩ = false := Sh.frozenAt HM.out.bw t
        have CT := Aside0.mk ct
        have CF := Aside0.mk cf
        clear ct cf
        go_wp2_with fail
        refine wp_region_noPanic ?_
        refine start_ (n := 30) (S := (fun w' => w'.cell? ⟨w.heap.size, a16, none⟩ = some (.int .u32 x16) ∧ w'.cell? ⟨w.heap.size, a7, none⟩ = some (.int .u32 x7))) (ds := [29]) #[false, false, false, false, false, false, false, false, false, false, false, false, false, false, false, false, false, false, false, false, false, false, false, false, false, false, false, false, false, false] (by kernel_rfl) rfl rfl ⟨I16.out, I7.out⟩ (fun hHeld => ?_)
        refine pure_ (i := 0) (N := (some 38)) (v := ?_) (a' := ?_) #[true, false, false, false, false, false, false, false, false, false, false, false, false, false, false, false, false, false, false, false, false, false, false, false, false, false, false, false, false, false] rfl rfl (by kernel_rfl) (fun _ _ _ h => h) (Or.inl ⟨by rfl, ?_⟩) ?_ ?_
        rotate_left
        · intro w'
          go_simp
          with_reducible rfl
        rotate_left
        · simp only [Act.put, List.setIfInBounds_toArray, List.set_cons_zero, List.set_cons_succ]
          rfl
        refine pure_ (i := 1) (N := (some 39)) (v := ?_) (a' := ?_) #[true, true, false, false, false, false, false, false, false, false, false, false, false, false, false, false, false, false, false, false, false, false, false, false, false, false, false, false, false, false] rfl rfl (by kernel_rfl) (fun _ _ _ h => h) (Or.inl ⟨by rfl, ?_⟩) ?_ ?_
        rotate_left
        · intro w'
          go_simp
          with_reducible rfl
        rotate_left
        · simp only [Act.put, List.setIfInBounds_toArray, List.set_cons_zero, List.set_cons_succ]
          rfl
        refine pure_ (i := 2) (N := (some 40)) (v := ?_) (a' := ?_) #[true, true, true, false, false, false, false, false, false, false, false, false, false, false, false, false, false, false, false, false, false, false, false, false, false, false, false, false, false, false] rfl rfl (by kernel_rfl) (fun _ _ _ h => h) (Or.inl ⟨by rfl, ?_⟩) ?_ ?_
        rotate_left
        · intro w'
          go_simp
          with_reducible rfl
        rotate_left
        · simp only [Act.put, List.setIfInBounds_toArray, List.set_cons_zero, List.set_cons_succ]
          rfl
        refine pure_ (i := 3) (N := (some 41)) (v := ?_) (a' := ?_) #[true, true, true, true, false, false, false, false, false, false, false, false, false, false, false, false, false, false, false, false, false, false, false, false, false, false, false, false, false, false] rfl rfl (by kernel_rfl) (fun _ _ _ h => h) (Or.inl ⟨by rfl, ?_⟩) ?_ ?_
        rotate_left
        · intro w'
          go_simp
          with_reducible rfl
        rotate_left
        · simp only [Act.put, List.setIfInBounds_toArray, List.set_cons_zero, List.set_cons_succ]
          rfl
        refine take_ (i := 4) (N := (some 42)) (v := ?_) (a' := ?_) #[true, true, true, true, true, false, false, false, false, false, false, false, false, false, false, false, false, false, false, false, false, false, false, false, false, false, false, false, false, false] rfl rfl (by kernel_rfl) (fun _ _ _ h => h) (Or.inl ⟨by rfl, ?_⟩) hHeld ?_ ?_
        rotate_left
        · intro w' hS'
          (obtain ⟨hS0, _⟩ := hS'; go_simp)
          with_reducible rfl
        rotate_left
        · simp only [Act.put, List.setIfInBounds_toArray, List.set_cons_zero, List.set_cons_succ]
          rfl
        refine pure_ (i := 5) (N := (some 43)) (v := ?_) (a' := ?_) #[true, true, true, true, true, true, false, false, false, false, false, false, false, false, false, false, false, false, false, false, false, false, false, false, false, false, false, false, false, false] rfl rfl (by kernel_rfl) (fun _ _ _ h => h) (Or.inl ⟨by rfl, ?_⟩) ?_ ?_
        rotate_left
        · intro w'
          go_simp
          with_reducible rfl
        rotate_left
        · simp only [Act.put, List.setIfInBounds_toArray, List.set_cons_zero, List.set_cons_succ]
          rfl
        refine pure_ (i := 7) (N := (some 45)) (v := ?_) (a' := ?_) #[true, true, true, true, true, true, false, true, false, false, false, false, false, false, false, false, false, false, false, false, false, false, false, false, false, false, false, false, false, false] rfl rfl (by kernel_rfl) (fun _ _ _ h => h) (Or.inl ⟨by rfl, ?_⟩) ?_ ?_
        rotate_left
        · intro w'
          go_simp
          with_reducible rfl
        rotate_left
        · simp only [Act.put, List.setIfInBounds_toArray, List.set_cons_zero, List.set_cons_succ]
          rfl
        refine pure_ (i := 10) (N := (some 48)) (v := ?_) (a' := ?_) #[true, true, true, true, true, true, false, true, false, false, true, false, false, false, false, false, false, false, false, false, false, false, false, false, false, false, false, false, false, false] rfl rfl (by kernel_rfl) (fun _ _ _ h => h) (Or.inl ⟨by rfl, ?_⟩) ?_ ?_
        rotate_left
        · intro w'
          go_simp
          with_reducible rfl
        rotate_left
        · simp only [Act.put, List.setIfInBounds_toArray, List.set_cons_zero, List.set_cons_succ]
          rfl
        refine pure_ (i := 11) (N := (some 49)) (v := ?_) (a' := ?_) #[true, true, true, true, true, true, false, true, false, false, true, true, false, false, false, false, false, false, false, false, false, false, false, false, false, false, false, false, false, false] rfl rfl (by kernel_rfl) (fun _ _ _ h => h) (Or.inl ⟨by rfl, ?_⟩) ?_ ?_
        rotate_left
        · intro w'
          go_simp
          with_reducible rfl
        rotate_left
        · simp only [Act.put, List.setIfInBounds_toArray, List.set_cons_zero, List.set_cons_succ]
          rfl
        refine pure_ (i := 14) (N := (some 52)) (v := ?_) (a' := ?_) #[true, true, true, true, true, true, false, true, false, false, true, true, false, false, true, false, false, false, false, false, false, false, false, false, false, false, false, false, false, false] rfl rfl (by kernel_rfl) (fun _ _ _ h => h) (Or.inl ⟨by rfl, ?_⟩) ?_ ?_
        rotate_left
        · intro w'
          go_simp
          with_reducible rfl
        rotate_left
        · simp only [Act.put, List.setIfInBounds_toArray, List.set_cons_zero, List.set_cons_succ]
          rfl
        refine pure_ (i := 15) (N := (some 53)) (v := ?_) (a' := ?_) #[true, true, true, true, true, true, false, true, false, false, true, true, false, false, true, true, false, false, false, false, false, false, false, false, false, false, false, false, false, false] rfl rfl (by kernel_rfl) (fun _ _ _ h => h) (Or.inl ⟨by rfl, ?_⟩) ?_ ?_
        rotate_left
        · intro w'
          go_simp
          with_reducible rfl
        rotate_left
        · simp only [Act.put, List.setIfInBounds_toArray, List.set_cons_zero, List.set_cons_succ]
          rfl
        refine pure_ (i := 16) (N := (some 54)) (v := ?_) (a' := ?_) #[true, true, true, true, true, true, false, true, false, false, true, true, false, false, true, true, true, false, false, false, false, false, false, false, false, false, false, false, false, false] rfl rfl (by kernel_rfl) (fun _ _ _ h => h) (Or.inl ⟨by rfl, ?_⟩) ?_ ?_
        rotate_left
        · intro w'
          go_simp
          with_reducible rfl
        rotate_left
        · simp only [Act.put, List.setIfInBounds_toArray, List.set_cons_zero, List.set_cons_succ]
          rfl
        refine take_ (i := 17) (N := (some 55)) (v := ?_) (a' := ?_) #[true, true, true, true, true, true, false, true, false, false, true, true, false, false, true, true, true, true, false, false, false, false, false, false, false, false, false, false, false, false] rfl rfl (by kernel_rfl) (fun _ _ _ h => h) (Or.inl ⟨by rfl, ?_⟩) hHeld ?_ ?_
        rotate_left
        · intro w' hS'
          (obtain ⟨_, hS1⟩ := hS'; go_simp)
          with_reducible rfl
        rotate_left
        · simp only [Act.put, List.setIfInBounds_toArray, List.set_cons_zero, List.set_cons_succ]
          rfl
        refine pure_ (i := 19) (N := (some 57)) (v := ?_) (a' := ?_) #[true, true, true, true, true, true, false, true, false, false, true, true, false, false, true, true, true, true, false, true, false, false, false, false, false, false, false, false, false, false] rfl rfl (by kernel_rfl) (fun _ _ _ h => h) (Or.inl ⟨by rfl, ?_⟩) ?_ ?_
        rotate_left
        · intro w'
          go_simp
          with_reducible rfl
        rotate_left
        · simp only [Act.put, List.setIfInBounds_toArray, List.set_cons_zero, List.set_cons_succ]
          rfl
        refine pure_ (i := 21) (N := (some 59)) (v := ?_) (a' := ?_) #[true, true, true, true, true, true, false, true, false, false, true, true, false, false, true, true, true, true, false, true, false, true, false, false, false, false, false, false, false, false] rfl rfl (by kernel_rfl) (fun _ _ _ h => h) (Or.inl ⟨by rfl, ?_⟩) ?_ ?_
        rotate_left
        · intro w'
          go_simp
          with_reducible rfl
        rotate_left
        · simp only [Act.put, List.setIfInBounds_toArray, List.set_cons_zero, List.set_cons_succ]
          rfl
        refine pure_ (i := 24) (N := (some 62)) (v := ?_) (a' := ?_) #[true, true, true, true, true, true, false, true, false, false, true, true, false, false, true, true, true, true, false, true, false, true, false, false, true, false, false, false, false, false] rfl rfl (by kernel_rfl) (fun _ _ _ h => h) (Or.inl ⟨by rfl, ?_⟩) ?_ ?_
        rotate_left
        · intro w'
          go_simp
          with_reducible rfl
        rotate_left
        · simp only [Act.put, List.setIfInBounds_toArray, List.set_cons_zero, List.set_cons_succ]
          rfl
        refine pure_ (i := 25) (N := (some 63)) (v := ?_) (a' := ?_) #[true, true, true, true, true, true, false, true, false, false, true, true, false, false, true, true, true, true, false, true, false, true, false, false, true, true, false, false, false, false] rfl rfl (by kernel_rfl) (fun _ _ _ h => h) (Or.inl ⟨by rfl, ?_⟩) ?_ ?_
        rotate_left
        · intro w'
          go_simp
          with_reducible rfl
        rotate_left
        · simp only [Act.put, List.setIfInBounds_toArray, List.set_cons_zero, List.set_cons_succ]
          rfl
        refine one_ (i := 6) (N := (some 44)) #[true, true, true, true, true, true, true, true, false, false, true, true, false, false, true, true, true, true, false, true, false, true, false, false, true, true, false, false, false, false] rfl rfl (by kernel_rfl) (by decide) (fun K hK => ?_)
        refine call_ 23 #[.int .u32 x15, .int .i64 7] (by rfl) rfl (by go_simp) ?_
        refine (sha_ror.quiet x15 7 _ _ (Sh.ror_7 _)).mono ?_
        rintro e w' ⟨rfl, m6, rfl⟩
        refine ⟨_, rfl, ?_⟩
        refine hK.out _ _ hHeld (fun hHeld => ?_)
        clear hK K
        refine norm_ (a' := ?_) ?_ ?_
        rotate_left
        · show Act.put _ (some 44) _ = _
          simp only [Act.put, List.setIfInBounds_toArray, List.set_cons_zero, List.set_cons_succ]
          rfl
        refine one_ (i := 8) (N := (some 46)) #[true, true, true, true, true, true, true, true, true, false, true, true, false, false, true, true, true, true, false, true, false, true, false, false, true, true, false, false, false, false] rfl rfl (by kernel_rfl) (by decide) (fun K hK => ?_)
        refine call_ 23 #[.int .u32 x15, .int .i64 18] (by rfl) rfl (by go_simp) ?_
        refine (sha_ror.quiet x15 18 _ _ (Sh.ror_18 _)).mono ?_
        rintro e w' ⟨rfl, m8, rfl⟩
        refine ⟨_, rfl, ?_⟩
        refine hK.out _ _ hHeld (fun hHeld => ?_)
        clear hK K
        refine norm_ (a' := ?_) ?_ ?_
        rotate_left
        · show Act.put _ (some 46) _ = _
          simp only [Act.put, List.setIfInBounds_toArray, List.set_cons_zero, List.set_cons_succ]
          rfl
        refine pure_ (i := 9) (N := (some 47)) (v := ?_) (a' := ?_) #[true, true, true, true, true, true, true, true, true, true, true, true, false, false, true, true, true, true, false, true, false, true, false, false, true, true, false, false, false, false] rfl rfl (by kernel_rfl) (fun _ _ _ h => h) (Or.inl ⟨by rfl, ?_⟩) ?_ ?_
        rotate_left
        · intro w'
          go_simp
          with_reducible rfl
        rotate_left
        · simp only [Act.put, List.setIfInBounds_toArray, List.set_cons_zero, List.set_cons_succ]
          rfl
        refine pure_ (i := 12) (N := (some 50)) (v := ?_) (a' := ?_) #[true, true, true, true, true, true, true, true, true, true, true, true, true, false, true, true, true, true, false, true, false, true, false, false, true, true, false, false, false, false] rfl rfl (by kernel_rfl) (fun _ _ _ h => h) (Or.inl ⟨by rfl, ?_⟩) ?_ ?_
        rotate_left
        · intro w'
          go_simp
          with_reducible rfl
        rotate_left
        · simp only [Act.put, List.setIfInBounds_toArray, List.set_cons_zero, List.set_cons_succ]
          rfl
        refine pure_ (i := 13) (N := (some 51)) (v := ?_) (a' := ?_) #[true, true, true, true, true, true, true, true, true, true, true, true, true, true, true, true, true, true, false, true, false, true, false, false, true, true, false, false, false, false] rfl rfl (by kernel_rfl) (fun _ _ _ h => h) (Or.inl ⟨by rfl, ?_⟩) ?_ ?_
        rotate_left
        · intro w'
          go_simp
          with_reducible rfl
        rotate_left
        · simp only [Act.put, List.setIfInBounds_toArray, List.set_cons_zero, List.set_cons_succ]
          rfl
        refine pure_ (i := 18) (N := (some 56)) (v := ?_) (a' := ?_) #[true, true, true, true, true, true, true, true, true, true, true, true, true, true, true, true, true, true, true, true, false, true, false, false, true, true, false, false, false, false] rfl rfl (by kernel_rfl) (fun _ _ _ h => h) (Or.inl ⟨by rfl, ?_⟩) ?_ ?_
        rotate_left
        · intro w'
          go_simp
          with_reducible rfl
        rotate_left
        · simp only [Act.put, List.setIfInBounds_toArray, List.set_cons_zero, List.set_cons_succ]
          rfl
        refine one_ (i := 20) (N := (some 58)) #[true, true, true, true, true, true, true, true, true, true, true, true, true, true, true, true, true, true, true, true, true, true, false, false, true, true, false, false, false, false] rfl rfl (by kernel_rfl) (by decide) (fun K hK => ?_)
        refine call_ 23 #[.int .u32 x2, .int .i64 17] (by rfl) rfl (by go_simp) ?_
        refine (sha_ror.quiet x2 17 _ _ (Sh.ror_17 _)).mono ?_
        rintro e w' ⟨rfl, m20, rfl⟩
        refine ⟨_, rfl, ?_⟩
        refine hK.out _ _ hHeld (fun hHeld => ?_)
        clear hK K
        refine norm_ (a' := ?_) ?_ ?_
        rotate_left
        · show Act.put _ (some 58) _ = _
          simp only [Act.put, List.setIfInBounds_toArray, List.set_cons_zero, List.set_cons_succ]
          rfl
        refine one_ (i := 22) (N := (some 60)) #[true, true, true, true, true, true, true, true, true, true, true, true, true, true, true, true, true, true, true, true, true, true, true, false, true, true, false, false, false, false] rfl rfl (by kernel_rfl) (by decide) (fun K hK => ?_)
        refine call_ 23 #[.int .u32 x2, .int .i64 19] (by rfl) rfl (by go_simp) ?_
        refine (sha_ror.quiet x2 19 _ _ (Sh.ror_19 _)).mono ?_
        rintro e w' ⟨rfl, m22, rfl⟩
        refine ⟨_, rfl, ?_⟩
        refine hK.out _ _ hHeld (fun hHeld => ?_)
        clear hK K
        refine norm_ (a' := ?_) ?_ ?_
        rotate_left
        · show Act.put _ (some 60) _ = _
          simp only [Act.put, List.setIfInBounds_toArray, List.set_cons_zero, List.set_cons_succ]
          rfl
        refine pure_ (i := 23) (N := (some 61)) (v := ?_) (a' := ?_) #[true, true, true, true, true, true, true, true, true, true, true, true, true, true, true, true, true, true, true, true, true, true, true, true, true, true, false, false, false, false] rfl rfl (by kernel_rfl) (fun _ _ _ h => h) (Or.inl ⟨by rfl, ?_⟩) ?_ ?_
        rotate_left
        · intro w'
          go_simp
          with_reducible rfl
        rotate_left
        · simp only [Act.put, List.setIfInBounds_toArray, List.set_cons_zero, List.set_cons_succ]
          rfl
        refine pure_ (i := 26) (N := (some 64)) (v := ?_) (a' := ?_) #[true, true, true, true, true, true, true, true, true, true, true, true, true, true, true, true, true, true, true, true, true, true, true, true, true, true, true, false, false, false] rfl rfl (by kernel_rfl) (fun _ _ _ h => h) (Or.inl ⟨by rfl, ?_⟩) ?_ ?_
        rotate_left
        · intro w'
          go_simp
          with_reducible rfl
        rotate_left
        · simp only [Act.put, List.setIfInBounds_toArray, List.set_cons_zero, List.set_cons_succ]
          rfl
        refine pure_ (i := 27) (N := (some 65)) (v := ?_) (a' := ?_) #[true, true, true, true, true, true, true, true, true, true, true, true, true, true, true, true, true, true, true, true, true, true, true, true, true, true, true, true, false, false] rfl rfl (by kernel_rfl) (fun _ _ _ h => h) (Or.inl ⟨by rfl, ?_⟩) ?_ ?_
        rotate_left
        · intro w'
          go_simp
          with_reducible rfl
        rotate_left
        · simp only [Act.put, List.setIfInBounds_toArray, List.set_cons_zero, List.set_cons_succ]
          rfl
        refine pure_ (i := 28) (N := (some 66)) (v := ?_) (a' := ?_) #[true, true, true, true, true, true, true, true, true, true, true, true, true, true, true, true, true, true, true, true, true, true, true, true, true, true, true, true, true, false] rfl rfl (by kernel_rfl) (fun _ _ _ h => h) (Or.inl ⟨by rfl, ?_⟩) ?_ ?_
        rotate_left
        · intro w'
          go_simp
          with_reducible rfl
        rotate_left
        · simp only [Act.put, List.setIfInBounds_toArray, List.set_cons_zero, List.set_cons_succ]
          rfl
        refine last_ (i := 29) (N := none) #[true, true, true, true, true, true, true, true, true, true, true, true, true, true, true, true, true, true, true, true, true, true, true, true, true, true, true, true, true, true] rfl rfl (by kernel_rfl) (by decide) (fun K hK => ?_)
        have ct := CT.out
        have cf := CF.out
        refine skip_ (w1 := (((((wr.drewN nq).drew.drewN m6).drewN m8).drewN m20).drewN m22).setCell ⟨w.heap.size, t, none⟩ (.int .u32 (IntKind.u32.wrap (IntKind.u32.wrap (IntKind.u32.wrap (x16 + bits .xor .u32 (bits .xor .u32 (Sh.rot x15 7) (Sh.rot x15 18)) (x15 / 8)) + x7) + bits .xor .u32 (bits .xor .u32 (Sh.rot x2 17) (Sh.rot x2 19)) (x2 / 1024))))) (by rfl) rfl (by go_simp) ?_
        clear ct cf
        refine hK.out _ _ ?_
        clear hK K
        refine done_ (by kernel_rfl) ?_
        have HM2 := Aside0.mk (Sh.Mx.word (((((HM.out.drewN nq).drew.drewN m6).drewN m8).drewN m20).drewN m22) hlt (IntKind.u32.wrap (IntKind.u32.wrap (IntKind.u32.wrap (x16 + bits .xor .u32 (bits .xor .u32 (Sh.rot x15 7) (Sh.rot x15 18)) (x15 / 8)) + x7) + bits .xor .u32 (bits .xor .u32 (Sh.rot x2 17) (Sh.rot x2 19)) (x2 / 1024))) (by
          rw [if_neg h16]
          have hw : ∀ a, a < t → (Sh.words p t).getD a 0 = ws.getD a 0 := by
            intro a ha
            rw [← HM.out.wt, List.getD_eq_getElem?_getD, List.getD_eq_getElem?_getD, List.getElem?_take, if_pos ha]
          have := A15.out
          have := A2.out
          have := A16.out
          have := A7.out
          unfold Sh.next
          rw [hw _ (by omega), hw _ (by omega), hw _ (by omega), hw _ (by omega), ← A15.out, ← A2.out, ← A16.out, ← A7.out, X15.out, X2.out, X16.out, X7.out]
          simp only [IntKind.wrap_u32, Sh.m32, Sh.s0, Sh.s1]))
        generalize IntKind.u32.wrap (IntKind.u32.wrap (IntKind.u32.wrap (x16 + bits .xor .u32 (bits .xor .u32 (Sh.rot x15 7) (Sh.rot x15 18)) (x15 / 8)) + x7) + bits .xor .u32 (bits .xor .u32 (Sh.rot x2 17) (Sh.rot x2 19)) (x2 / 1024)) = x at *
        generalize (((((wr.drewN nq).drew.drewN m6).drewN m8).drewN m20).drewN m22).setCell ⟨w.heap.size, t, none⟩ (.int .u32 x) = W at *
        clear CT CF I16 I7 A15 A2 A16 A7 X15 X2 X16 X7 w16 w7 k16 k7 hHeld
        refine NoPanic.normal ?_
        obtain ⟨v, HV⟩ : ∃ v, Aside0 (Sh.rounds (Sh.words p 64) s t = v) := ⟨_, ⟨rfl⟩⟩
        obtain ⟨kx, HKX⟩ : ∃ k, Aside0 (Sh.keys.getD t 0 = k) := ⟨_, ⟨rfl⟩⟩
        have b0 : W.cell? ⟨w.heap.size + 1, 0, none⟩ = some (.int .u32 v.a) := Sh.cellAt HM2.out.bv 0 _ (by rw [HV.out]; rfl)
        have b1 : W.cell? ⟨w.heap.size + 1, 1, none⟩ = some (.int .u32 v.b) := Sh.cellAt HM2.out.bv 1 _ (by rw [HV.out]; rfl)
        have b2 : W.cell? ⟨w.heap.size + 1, 2, none⟩ = some (.int .u32 v.c) := Sh.cellAt HM2.out.bv 2 _ (by rw [HV.out]; rfl)
        have b3 : W.cell? ⟨w.heap.size + 1, 3, none⟩ = some (.int .u32 v.d) := Sh.cellAt HM2.out.bv 3 _ (by rw [HV.out]; rfl)
        have b4 : W.cell? ⟨w.heap.size + 1, 4, none⟩ = some (.int .u32 v.e) := Sh.cellAt HM2.out.bv 4 _ (by rw [HV.out]; rfl)
        have b5 : W.cell? ⟨w.heap.size + 1, 5, none⟩ = some (.int .u32 v.f) := Sh.cellAt HM2.out.bv 5 _ (by rw [HV.out]; rfl)
        have b6 : W.cell? ⟨w.heap.size + 1, 6, none⟩ = some (.int .u32 v.g) := Sh.cellAt HM2.out.bv 6 _ (by rw [HV.out]; rfl)
        have b7 : W.cell? ⟨w.heap.size + 1, 7, none⟩ = some (.int .u32 v.h) := Sh.cellAt HM2.out.bv 7 _ (by rw [HV.out]; rfl)
        have f0 : W.frozen? ⟨w.heap.size + 1, 0, none⟩ = false := Sh.frozenAt HM2.out.bv 0
        have f1 : W.frozen? ⟨w.heap.size + 1, 1, none⟩ = false := Sh.frozenAt HM2.out.bv 1
        have f2 : W.frozen? ⟨w.heap.size + 1, 2, none⟩ = false := Sh.frozenAt HM2.out.bv 2
        have f3 : W.frozen? ⟨w.heap.size + 1, 3, none⟩ = false := Sh.frozenAt HM2.out.bv 3
        have f4 : W.frozen? ⟨w.heap.size + 1, 4, none⟩ = false := Sh.frozenAt HM2.out.bv 4
        have f5 : W.frozen? ⟨w.heap.size + 1, 5, none⟩ = false := Sh.frozenAt HM2.out.bv 5
        have f6 : W.frozen? ⟨w.heap.size + 1, 6, none⟩ = false := Sh.frozenAt HM2.out.bv 6
        have f7 : W.frozen? ⟨w.heap.size + 1, 7, none⟩ = false := Sh.frozenAt HM2.out.bv 7
        have bk : W.cell? ⟨0, t, none⟩ = some (.int .u32 kx) := by rw [← HKX.out]; exact HM2.out.ks t hlt
        have bx : W.cell? ⟨w.heap.size, t, none⟩ = some (.int .u32 x) := Sh.cellAt HM2.out.bw t _ (Sh.u32s_here ws t x (by rw [HM2.out.len]; exact hlt))
        go_wp2_with fail
        go_quiet (fail)
        go_wp2_with fail
        go_quiet (first | exact Sh.quiet_then (sha_ror.quiet _ _ _ _ (Sh.ror_6 _)) | exact Sh.quiet_then (sha_ror.quiet _ _ _ _ (Sh.ror_11 _)) | exact Sh.quiet_then (sha_ror.quiet _ _ _ _ (Sh.ror_25 _)))
        go_wp2_with fail
        go_quiet (first | exact Sh.quiet_then (sha_ror.quiet _ _ _ _ (Sh.ror_2 _)) | exact Sh.quiet_then (sha_ror.quiet _ _ _ _ (Sh.ror_13 _)) | exact Sh.quiet_then (sha_ror.quiet _ _ _ _ (Sh.ror_22 _)))
        go_wp2_with fail
        refine ⟨⟨t + 1, ws.set t x, rfl, by omega, ⟨?_⟩⟩, by simp [intOf]; omega⟩
        refine Sh.Mx.vec (s := s) (v := v) (HV.out ▸ HM2.out.drewN _) HV.out hlt kx x _ _ HKX.out ?_ ?_ ?_
        · exact Sh.getD_set_here ws t x (by rw [HM2.out.len]; exact hlt)
        · simp only [Sh.V.rnd, Sh.V.x, Sh.V.y, Sh.m32, Sh.big1, Sh.big0, Sh.ch, Sh.maj, Int.emod_add_emod, Int.add_emod_emod]
        · simp only [Sh.V.rnd, Sh.V.x, Sh.V.y, Sh.m32, Sh.big1, Sh.big0, Sh.ch, Sh.maj, Int.emod_add_emod, Int.add_emod_emod]
    · obtain rfl : t = 64 := by omega
      obtain ⟨v, HV⟩ : ∃ v, Aside0 (Sh.rounds (Sh.words p 64) s 64 = v) := ⟨_, ⟨rfl⟩⟩
      have HM1 : Aside0 (Sh.M2 w hb (Sh.hc (Sh.some8 v s 0) p n) (Sh.u32s v.list) wr) := ⟨⟨HM.out.h, by rw [← HV.out]; exact HM.out.bv, Sh.gb_of_below HM.out.g, HM.out.lt⟩⟩
      have HCO : Aside0 (Sh.comp s p = v.add s) := ⟨by rw [Sh.comp, HV.out]⟩
      clear HM HV ht hlt HH HK
      go_wp2_with fail
      go_loopw [143] (fun v143 wr => ∃ k : Nat, v143 = .int .i64 k ∧ k ≤ 8 ∧ Aside0 (Sh.M2 w hb (Sh.hc (Sh.some8 v s k) p n) (Sh.u32s v.list) wr)) (fun i _ => 8 - (intOf i).toNat)
      case atStart => exact ⟨0, rfl, by omega, HM1⟩
      case round =>
        clear HM1
        obtain ⟨k, rfl, hk, HM⟩ := hrel
        by_cases hlt : k < 8
        · have hl8 := Sh.some8_length v s k hk
          obtain ⟨e1, e2⟩ := Sh.some8_at v s k hlt
          have I1 : Aside0 (wr.drew.cell? ⟨hb, k, none⟩ = some (.int .u32 (s.list.getD k 0))) := ⟨by rw [← e1]; exact Sh.cellAt (w := wr.drew) HM.out.h k _ (Sh.hc_sum _ _ _ _ (by rw [hl8]; exact hlt))⟩
          have I2 : Aside0 (wr.drew.cell? ⟨w.heap.size + 1, k, none⟩ = some (.int .u32 (v.list.getD k 0))) := ⟨Sh.cellAt (w := wr.drew) HM.out.bv k _ (Sh.u32s_at _ _ (by rw [Sh.list_length]; exact hlt))⟩
          have CF : Aside0 (wr.drew.frozen? ⟨hb, k, none⟩ = false) := ⟨Sh.frozenAt (w := wr.drew) HM.out.h k⟩
          have E2 := Aside0.mk e2
          clear e1 e2 hl8
          generalize s.list.getD k 0 = y at *
          generalize v.list.getD k 0 = z at *
          go_wp2_with fail
          refine wp_region_noPanic ?_
          refine start_ (n := 14) (S := (fun w' => w'.cell? ⟨hb, k, none⟩ = some (.int .u32 y) ∧ w'.cell? ⟨w.heap.size + 1, k, none⟩ = some (.int .u32 z))) (ds := [13]) #[false, false, false, false, false, false, false, false, false, false, false, false, false, false] (by kernel_rfl) rfl rfl ⟨I1.out, I2.out⟩ (fun hHeld => ?_)
          refine pure_ (i := 0) (N := (some 146)) (v := ?_) (a' := ?_) #[true, false, false, false, false, false, false, false, false, false, false, false, false, false] rfl rfl (by kernel_rfl) (fun _ _ _ h => h) (Or.inl ⟨by rfl, ?_⟩) ?_ ?_
          rotate_left
          · intro w'
            go_simp
            with_reducible rfl
          rotate_left
          · simp only [Act.put, List.setIfInBounds_toArray, List.set_cons_zero, List.set_cons_succ]
            rfl
          refine pure_ (i := 1) (N := (some 147)) (v := ?_) (a' := ?_) #[true, true, false, false, false, false, false, false, false, false, false, false, false, false] rfl rfl (by kernel_rfl) (fun _ _ _ h => h) (Or.inl ⟨by rfl, ?_⟩) ?_ ?_
          rotate_left
          · intro w'
            go_simp
            with_reducible rfl
          rotate_left
          · simp only [Act.put, List.setIfInBounds_toArray, List.set_cons_zero, List.set_cons_succ]
            rfl
          refine pure_ (i := 2) (N := (some 148)) (v := ?_) (a' := ?_) #[true, true, true, false, false, false, false, false, false, false, false, false, false, false] rfl rfl (by kernel_rfl) (fun _ _ _ h => h) (Or.inl ⟨by rfl, ?_⟩) ?_ ?_
          rotate_left
          · intro w'
            go_simp
            with_reducible rfl
          rotate_left
          · simp only [Act.put, List.setIfInBounds_toArray, List.set_cons_zero, List.set_cons_succ]
            rfl
          refine pure_ (i := 3) (N := (some 149)) (v := ?_) (a' := ?_) #[true, true, true, true, false, false, false, false, false, false, false, false, false, false] rfl rfl (by kernel_rfl) (fun _ _ _ h => h) (Or.inl ⟨by rfl, ?_⟩) ?_ ?_
          rotate_left
          · intro w'
            go_simp
            with_reducible rfl
          rotate_left
          · simp only [Act.put, List.setIfInBounds_toArray, List.set_cons_zero, List.set_cons_succ]
            rfl
          refine pure_ (i := 4) (N := (some 150)) (v := ?_) (a' := ?_) #[true, true, true, true, true, false, false, false, false, false, false, false, false, false] rfl rfl (by kernel_rfl) (fun _ _ _ h => h) (Or.inl ⟨by rfl, ?_⟩) ?_ ?_
          rotate_left
          · intro w'
            go_simp
            with_reducible rfl
          rotate_left
          · simp only [Act.put, List.setIfInBounds_toArray, List.set_cons_zero, List.set_cons_succ]
            rfl
          refine take_ (i := 5) (N := (some 151)) (v := ?_) (a' := ?_) #[true, true, true, true, true, true, false, false, false, false, false, false, false, false] rfl rfl (by kernel_rfl) (fun _ _ _ h => h) (Or.inl ⟨by rfl, ?_⟩) hHeld ?_ ?_
          rotate_left
          · intro w' hS'
            (obtain ⟨hS0, _⟩ := hS'; go_simp)
            with_reducible rfl
          rotate_left
          · simp only [Act.put, List.setIfInBounds_toArray, List.set_cons_zero, List.set_cons_succ]
            rfl
          refine pure_ (i := 6) (N := (some 152)) (v := ?_) (a' := ?_) #[true, true, true, true, true, true, true, false, false, false, false, false, false, false] rfl rfl (by kernel_rfl) (fun _ _ _ h => h) (Or.inl ⟨by rfl, ?_⟩) ?_ ?_
          rotate_left
          · intro w'
            go_simp
            with_reducible rfl
          rotate_left
          · simp only [Act.put, List.setIfInBounds_toArray, List.set_cons_zero, List.set_cons_succ]
            rfl
          refine pure_ (i := 7) (N := (some 153)) (v := ?_) (a' := ?_) #[true, true, true, true, true, true, true, true, false, false, false, false, false, false] rfl rfl (by kernel_rfl) (fun _ _ _ h => h) (Or.inl ⟨by rfl, ?_⟩) ?_ ?_
          rotate_left
          · intro w'
            go_simp
            with_reducible rfl
          rotate_left
          · simp only [Act.put, List.setIfInBounds_toArray, List.set_cons_zero, List.set_cons_succ]
            rfl
          refine take_ (i := 8) (N := (some 154)) (v := ?_) (a' := ?_) #[true, true, true, true, true, true, true, true, true, false, false, false, false, false] rfl rfl (by kernel_rfl) (fun _ _ _ h => h) (Or.inl ⟨by rfl, ?_⟩) hHeld ?_ ?_
          rotate_left
          · intro w' hS'
            (obtain ⟨_, hS1⟩ := hS'; go_simp)
            with_reducible rfl
          rotate_left
          · simp only [Act.put, List.setIfInBounds_toArray, List.set_cons_zero, List.set_cons_succ]
            rfl
          refine pure_ (i := 9) (N := (some 155)) (v := ?_) (a' := ?_) #[true, true, true, true, true, true, true, true, true, true, false, false, false, false] rfl rfl (by kernel_rfl) (fun _ _ _ h => h) (Or.inl ⟨by rfl, ?_⟩) ?_ ?_
          rotate_left
          · intro w'
            go_simp
            with_reducible rfl
          rotate_left
          · simp only [Act.put, List.setIfInBounds_toArray, List.set_cons_zero, List.set_cons_succ]
            rfl
          refine pure_ (i := 10) (N := (some 156)) (v := ?_) (a' := ?_) #[true, true, true, true, true, true, true, true, true, true, true, false, false, false] rfl rfl (by kernel_rfl) (fun _ _ _ h => h) (Or.inl ⟨by rfl, ?_⟩) ?_ ?_
          rotate_left
          · intro w'
            go_simp
            with_reducible rfl
          rotate_left
          · simp only [Act.put, List.setIfInBounds_toArray, List.set_cons_zero, List.set_cons_succ]
            rfl
          refine pure_ (i := 11) (N := (some 157)) (v := ?_) (a' := ?_) #[true, true, true, true, true, true, true, true, true, true, true, true, false, false] rfl rfl (by kernel_rfl) (fun _ _ _ h => h) (Or.inl ⟨by rfl, ?_⟩) ?_ ?_
          rotate_left
          · intro w'
            go_simp
            with_reducible rfl
          rotate_left
          · simp only [Act.put, List.setIfInBounds_toArray, List.set_cons_zero, List.set_cons_succ]
            rfl
          refine pure_ (i := 12) (N := (some 158)) (v := ?_) (a' := ?_) #[true, true, true, true, true, true, true, true, true, true, true, true, true, false] rfl rfl (by kernel_rfl) (fun _ _ _ h => h) (Or.inl ⟨by rfl, ?_⟩) ?_ ?_
          rotate_left
          · intro w'
            go_simp
            with_reducible rfl
          rotate_left
          · simp only [Act.put, List.setIfInBounds_toArray, List.set_cons_zero, List.set_cons_succ]
            rfl
          refine last_ (i := 13) (N := none) #[true, true, true, true, true, true, true, true, true, true, true, true, true, true] rfl rfl (by kernel_rfl) (by decide) (fun K hK => ?_)
          have ct := I1.out
          have cf := CF.out
          refine skip_ (w1 := wr.drew.setCell ⟨hb, k, none⟩ (.int .u32 (IntKind.u32.wrap (y + z)))) (by rfl) rfl (by go_simp) ?_
          clear ct cf
          refine hK.out _ _ ?_
          clear hK K
          refine done_ (by kernel_rfl) ?_
          have HM2 : Aside0 (Sh.M2 w hb (Sh.hc (Sh.some8 v s (k + 1)) p n) (Sh.u32s v.list) (wr.drew.setCell ⟨hb, k, none⟩ (.int .u32 (IntKind.u32.wrap (y + z))))) := ⟨by
            have := HM.out.set k (.int .u32 (IntKind.u32.wrap (y + z)))
            rw [Sh.hc_set _ _ _ _ _ (by rw [Sh.some8_length v s k hk]; exact hlt), E2.out] at this
            exact this⟩
          clear HM I1 I2 CF E2 hHeld
          refine NoPanic.normal ?_
          go_wp2_with fail
          exact ⟨⟨k + 1, by go_num, by omega, HM2⟩, by simp [intOf]; omega⟩
        · obtain rfl : k = 8 := by omega
          go_wp2_with fail
          refine ⟨rfl, .tuple #[], by simp [results, Tryd.results18, go_sem], rfl, ?_, HM.out.g⟩
          rw [HCO.out]
          exact HM.out.h
#print axioms mix_.calls
end Go.Proofs.YthcilikinfhipaaDoor
