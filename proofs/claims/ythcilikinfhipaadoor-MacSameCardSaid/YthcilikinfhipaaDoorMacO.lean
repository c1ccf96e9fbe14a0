/- The contract of mac.Of. -/
import Derived.Test.YthcilikinfhipaaDoorMacD
set_option linter.unusedVariables false
set_option linter.unusedSimpArgs false
namespace Go.Proofs.YthcilikinfhipaaDoor
open Go.RowKit Go.Proofs.YthcilikinfhipaaDoorW.PrintWords Go.Proofs.YthcilikinfhipaaDoorW.PrintLast Go.Proofs.YthcilikinfhipaaDoorW.PrintMore
namespace Sh
theorem Rows.below {w W : World} {B : Option Addr} {n : Nat} {ps : Nat → List Int} {As : Nat → Option Addr} {Cs : Nat → Nat} (h : Rows w B n ps As Cs) (hb : Below w.heap.size w W) : Rows W B n ps As Cs := fun i hi => by
  obtain ⟨ad, h1, h2, h3, h4, h5⟩ := h i hi
  exact ⟨ad, h1, (hb.cell (World.block_lt_of_cell? w _ h2)).trans h2, h3, h4, Kd.C_below h5 hb⟩
theorem row_fill (l : List Int) (n m : Nat) (hm : l.length = m) : ((u8s (List.replicate n 0)).toList.take 0 ++ (l.map (Value.int .u8) ++ (u8s (List.replicate n 0)).toList.drop (0 + m))).toArray = u8s (l ++ List.replicate (n - m) 0) := by
  unfold u8s
  rw [List.take_zero, List.nil_append, Nat.zero_add, List.toList_toArray, List.map_append, ← List.map_drop, List.drop_replicate]
theorem copy64 {W : World} {g : Nat} (ty : TypeId) (A : Option Addr) (m c2 : Nat) (l : List Int) (hg : W.heap[g]? = some (.cells (u8s (List.replicate 64 0)) 34 (0, 0))) (hC : Kd.C (Kd.int .u8) W A m l) (hm : l.length = m) (h64 : m ≤ 64) :
    ∃ W', (Builtin.copy_ #[22, 22] ty #[.slice (some ⟨g, 0, none⟩) 64 64, .slice A m c2]).run Tryd.prog W = .ok (goInt m) W' ∧ W'.heap[g]? = some (.cells (u8s (l ++ List.replicate (64 - m) 0)) 34 (0, 0)) ∧ W.grownBy W' (some g) := by
  by_cases h0 : m = 0
  · subst h0
    obtain rfl := List.eq_nil_of_length_eq_zero hm
    exact ⟨W, run_copy_none (P := Tryd.prog) W 22 22 ty 5 _ _ 64 64 0 c2 (by kernel_rfl) (by kernel_rfl) (by simp), hg, gb_refl _ _⟩
  · obtain ⟨_, _, h3⟩ := Kd.reads_of_C (d := (0 : Int)) hC
    obtain ⟨ad, rfl, hcell⟩ := h3 (by omega)
    have hrun := run_copy_row (P := Tryd.prog) W 22 22 ty 5 g 0 64 64 ad m c2 (u8s (List.replicate 64 0)) 34 (l.map (Value.int .u8)) (by kernel_rfl) (by kernel_rfl) hg (by rw [List.length_map, hm]; exact (Nat.min_eq_left h64).symm)
      (fun j v hv => by
        rw [List.getElem?_map] at hv
        have hj : j < l.length := by
          rcases Nat.lt_or_ge j l.length with h | h
          · exact h
          · rw [List.getElem?_eq_none h] at hv; cases hv
        rw [hcell j (by omega)]
        rw [List.getElem?_eq_getElem hj] at hv
        rw [← hv, List.getD_eq_getElem?_getD, List.getElem?_eq_getElem hj]
        rfl)
      (by simp [u8s]; omega) (by intro v hv; simp only [List.mem_map] at hv; obtain ⟨x, _, rfl⟩ := hv; rfl)
    refine ⟨_, ?_, ?_, gb_row (gb_refl _ _) (u8s (l ++ List.replicate (64 - m) 0))⟩
    · rw [hrun, List.length_map, hm]
      congr 2
      rw [List.append_assoc]
      exact row_fill l 64 m hm
    · exact setRow_heap W g _ _ _ _ hg
theorem wpList_copy64 {ops : Array Oper} {rest : List Oper} {o : Oper} {a : Act} {W : World} {Q : Exit → Act → World → Prop} (hgd : o.guard = none) (d s : Operand)
    (ho : o.op = .call { callee := .builtin .copy, args := #[d, s], argTypes := #[22, 22] }) (g : Nat) (A : Option Addr) (m c2 : Nat) (l : List Int) (hd : a.eval d = .slice (some ⟨g, 0, none⟩) 64 64) (hs : a.eval s = .slice A m c2)
    (hg : W.heap[g]? = some (.cells (u8s (List.replicate 64 0)) 34 (0, 0))) (hC : Kd.C (Kd.int .u8) W A m l) (hm : l.length = m) (h64 : m ≤ 64)
    (h : ∀ W', W'.heap[g]? = some (.cells (u8s (l ++ List.replicate (64 - m) 0)) 34 (0, 0)) → W.grownBy W' (some g) → wpList Tryd.prog ops Q rest (a.put o.dst (goInt m)) W') : wpList Tryd.prog ops Q (o :: rest) a W := by
  refine wpList_plain hgd fun K hK => ?_
  obtain ⟨W', hrun, h1, h2⟩ := copy64 (g := g) o.type A m c2 l hg hC hm h64
  unfold Oper.wp
  simp [execOp, ho, resolve, invoke, builtin, hd, hs, hrun, Result.andThen]
  exact hK _ _ (h W' h1 h2)
theorem step_copy64 {ops : Array Oper} {o : Oper} {a : Act} {W : World} {K : Act → World → Prop} {Q : Exit → Act → World → Prop} {E : Prop} (hgd : o.guard = none) (d s : Operand)
    (ho : o.op = .call { callee := .builtin .copy, args := #[d, s], argTypes := #[22, 22] }) (g : Nat) (A : Option Addr) (m c2 : Nat) (l : List Int) (hd : a.eval d = .slice (some ⟨g, 0, none⟩) 64 64) (hs : a.eval s = .slice A m c2)
    (hg : W.heap[g]? = some (.cells (u8s (List.replicate 64 0)) 34 (0, 0))) (hC : Kd.C (Kd.int .u8) W A m l) (hm : l.length = m) (h64 : m ≤ 64)
    (h : ∀ W', W'.heap[g]? = some (.cells (u8s (l ++ List.replicate (64 - m) 0)) 34 (0, 0)) → W.grownBy W' (some g) → K (a.put o.dst (goInt m)) W') : if Region.wanted o (yielded ops a.tmps) = true then Oper.wp Tryd.prog o a W K Q else E := by
  have hw : Region.wanted o (yielded ops a.tmps) = true := by simp [Region.wanted, hgd]
  rw [if_pos hw]
  obtain ⟨W', hrun, h1, h2⟩ := copy64 (g := g) o.type A m c2 l hg hC hm h64
  unfold Oper.wp
  simp [execOp, ho, resolve, invoke, builtin, hd, hs, hrun, Result.andThen]
  exact h W' h1 h2
theorem slice_all32 (b : Nat) (W : World) :
    (Instr.sliceAt 25 (.pointer (some ⟨b, 0, none⟩)) none none none).run Tryd.prog W = .ok (.slice (some ⟨b, 0, none⟩) 32 32) W := by
  rw [run_sliceAt_array_all W 25 ⟨b, 0, none⟩ (by kernel_rfl)]
  rw [show Tryd.prog.arrayLen 25 = 32 by kernel_rfl, show Tryd.prog.elem 25 = 5 by kernel_rfl]
  rw [show (sizeOf 5).run Tryd.prog W = .ok 1 W by kernel_rfl]
  simp [Result.andThen, slicedAt, Addr.add]
theorem load64_exec {oi : Oper} {x : Operand} {a : Act} {w' : World} {b : Nat} {D : Array Value} (ho : oi.op = .load 34 x) (hx : a.eval x = .pointer (some ⟨b, 0, none⟩)) (hg : w'.heap[b]? = some (.cells D 34 (0, 0))) (hi : (Tryd.prog.info? 34).map (·.size) = some D.size) :
    (execOp a.eval oi).run Tryd.prog w' = .ok (.value (.agg D)) w' := by
  unfold execOp
  simp only [ho, hx, Instr.loadAt, Instr.sureAddr, Sem.run_bind, Sem.run_pure, Result.andThen_ok, run_loadVar_row w' b 34 34 D (0, 0) _ hg Tryd.underlying34 rfl hi]
theorem store_exec {oi : Oper} {x y : Operand} {a : Act} {w' : World} {b : Nat} {C D : Array Value} (ho : oi.op = .store 25 x y) (hx : a.eval x = .pointer (some ⟨b, 0, none⟩)) (hy : a.eval y = .agg D) (hg : w'.heap[b]? = some (.cells C 25 (0, 0))) (hi : (Tryd.prog.info? 25).map (·.size) = some D.size)
    (hold : C.size = D.size) (h1 : D.all (·.oneCell') = true) : (execOp a.eval oi).run Tryd.prog w' = .ok .skip (w'.setRow b D) := by
  unfold execOp
  simp only [ho, hx, hy, Instr.storeAt, Instr.sureAddr, Sem.run_bind, Sem.run_pure, Result.andThen_ok, run_storeVar_row w' b 25 25 C D hg hi hold h1]
theorem store_new (w5 : World) (D : Array Value) : ((w5.alloc (.cells (u8s (List.replicate 32 0)) 25)).setRow w5.heap.size D).heap[w5.heap.size]? = some (.cells D 25 (0, 0)) ∧ Below w5.heap.size w5 ((w5.alloc (.cells (u8s (List.replicate 32 0)) 25)).setRow w5.heap.size D) :=
  ⟨setRow_heap _ _ _ _ _ _ (heap_alloc_new w5 _), below_setRow (below_alloc (Below.refl _ _) _) (Nat.le_refl _) D⟩
theorem dig_info (l : List Int) : (Tryd.prog.info? 25).map (·.size) = some (u8s (dig l)).size := by
  rw [show (u8s (dig l)).size = 32 by simp [u8s, dig_length l]]
  kernel_rfl
theorem dig_zeros (l : List Int) : (u8s (List.replicate 32 0)).size = (u8s (dig l)).size := by
  rw [show (u8s (dig l)).size = 32 by simp [u8s, dig_length l]]
  rfl
theorem dig_one (l : List Int) : (u8s (dig l)).all (·.oneCell') = true := by simp [u8s, Value.oneCell']
theorem info64 (l : List Int) (h : l.length = 64) : (Tryd.prog.info? 34).map (·.size) = some (u8s l).size := by
  rw [show (u8s l).size = 64 by simp [u8s, h]]
  kernel_rfl
theorem below_step2 {w W W2 : World} (h : Below w.heap.size w W) (hb : Below W.heap.size W W2) : Below w.heap.size w W2 := below_then h h.size hb
/-- a row of one slice -/
theorem one_row {W : World} {b m : Nat} {l : List Int} (hw : W.cell? ⟨b, 0, none⟩ = some (.slice (some ⟨m, 0, none⟩) 32 32)) (hl : l.length = 32) (hb : Bytes l) (hC : Kd.C (Kd.int .u8) W (some ⟨m, 0, none⟩) 32 l) : Rows W (some ⟨b, 0, none⟩) 1 (fun _ => l) (fun _ => some ⟨m, 0, none⟩) (fun _ => 32) := fun i hi => by
  obtain rfl : i = 0 := by omega
  refine ⟨_, rfl, ?_, by rw [hl]; exact Nat.le_refl _, hb, by rw [hl]; exact hC⟩
  rw [hl, Addr.add_zero']
  exact hw
end Sh
set_option maxHeartbeats 1600000 in
set_option maxRecDepth 100000 in
theorem of_.calls (A : Option Addr) (c : Nat) (key : List Int) (B : Option Addr) (n cB : Nat) (ps : Nat → List Int) (As : Nat → Option Addr) (Cs : Nat → Nat) (w : World) (hk : Sh.Ks w) (hrk : Kd.C (Kd.int .u8) w A key.length key) (hc : key.length ≤ c) (hby : Sh.Bytes key) (hlk : key.length ≤ 1099510000000) (hn : n ≤ 9223372036854775807)
    (hr : Sh.Rows w B n ps As Cs) (hlen : ∀ i, i ≤ n → (Sh.cat ps i).length ≤ 1099510000000) :
    Calls Tryd.prog 9 #[.slice A key.length c, .slice B n cB] w fun e w' => e = .returned (.agg (Sh.u8s (Sh.hm key (Sh.cat ps n)))) ∧ Below w.heap.size w w' := by
  have HR := Aside0.mk hr
  have HK := Aside0.mk hk
  have HRK := Aside0.mk hrk
  have HBY := Aside0.mk hby
  have HLN := Aside0.mk hlen
  clear hr hk hrk hby hlen
  obtain ⟨N, HN⟩ : ∃ N, Aside0 (key.length = N) := ⟨_, ⟨rfl⟩⟩
  have hcN : N ≤ c := by rw [← HN.out]; exact hc
  have hlN : N ≤ 1099510000000 := by rw [← HN.out]; exact hlk
  rw [HN.out]
  obtain ⟨W0, HW0⟩ : ∃ W, Aside0 ((w.alloc (.cells (Sh.u8s (List.replicate 32 0)) 25)).alloc (.cells (Sh.u8s (List.replicate 64 0)) 34) = W) := ⟨_, ⟨rfl⟩⟩
  have HO0 : Aside0 (W0.heap[w.heap.size]? = some (.cells (Sh.u8s (List.replicate 32 0)) 25 (0, 0))) := ⟨by
    rw [← HW0.out]
    exact (Below.heap_alloc _ _ _ (by show w.heap.size < (w.heap.push _).size; simp)).trans (heap_alloc_new _ _)⟩
  have HK0 : Aside0 (W0.heap[w.heap.size + 1]? = some (.cells (Sh.u8s (List.replicate 64 0)) 34 (0, 0))) := ⟨by
    rw [← HW0.out]
    have := heap_alloc_new (w.alloc (.cells (Sh.u8s (List.replicate 32 0)) 25)) (.cells (Sh.u8s (List.replicate 64 0)) 34)
    rwa [show (w.alloc (.cells (Sh.u8s (List.replicate 32 0)) 25)).heap.size = w.heap.size + 1 by show (w.heap.push _).size = _; simp] at this⟩
  have HB0 : Aside0 (Below w.heap.size w W0) := ⟨by rw [← HW0.out]; exact below_alloc (below_alloc (Below.refl _ _) _) _⟩
  obtain ⟨KB, HKBd⟩ : ∃ K, Aside0 (Sh.u8s (Sh.kblock key) = K) := ⟨_, ⟨rfl⟩⟩
  have HI64 : Aside0 ((Tryd.prog.info? 34).map (·.size) = some KB.size) := ⟨by rw [← HKBd.out]; exact Sh.info64 _ (Sh.kblock_length key)⟩
  obtain ⟨D1, HD1⟩ : ∃ D, Aside0 (Sh.u8s (Sh.dig (Sh.turn (Sh.kblock key) 54 ++ Sh.cat ps n)) = D) := ⟨_, ⟨rfl⟩⟩
  have HI1 : Aside0 ((Tryd.prog.info? 25).map (·.size) = some D1.size) := ⟨by rw [← HD1.out]; exact Sh.dig_info _⟩
  have HZ1 : Aside0 ((Sh.u8s (List.replicate 32 0)).size = D1.size) := ⟨by rw [← HD1.out]; exact Sh.dig_zeros _⟩
  have HE1 : Aside0 (D1.all (·.oneCell') = true) := ⟨by rw [← HD1.out]; exact Sh.dig_one _⟩
  go_enter Tryd.func9, Tryd.ntmps9
  by_cases h64 : 64 < N
  · go_wp2_with fail
    change Calls _ _ _ ((w.alloc (.cells (Sh.u8s (List.replicate 32 0)) 25)).alloc (.cells (Sh.u8s (List.replicate 64 0)) 34)) _
    rw [HW0.out]
    refine (new_.calls W0).mono ?_
    rintro e w1 ⟨rfl, h1, hb1⟩
    obtain ⟨hb, HHB⟩ : ∃ b, Aside0 (W0.heap.size = b) := ⟨_, ⟨rfl⟩⟩
    have HNB : Aside0 (w.heap.size + 1 < hb) := ⟨by rw [← HHB.out]; exact (Array.getElem?_eq_some_iff.1 HK0.out).1⟩
    rw [HHB.out] at h1 ⊢
    have H1 := Aside0.mk h1
    have HB1 : Aside0 (Below w.heap.size w w1) := ⟨below_then HB0.out HB0.out.size hb1⟩
    have HK1 : Aside0 (w1.heap[w.heap.size + 1]? = some (.cells (Sh.u8s (List.replicate 64 0)) 34 (0, 0)) ∧ w1.heap[w.heap.size]? = some (.cells (Sh.u8s (List.replicate 32 0)) 25 (0, 0))) := ⟨(hb1.block _ (Array.getElem?_eq_some_iff.1 HK0.out).1).trans HK0.out, (hb1.block _ (Array.getElem?_eq_some_iff.1 HO0.out).1).trans HO0.out⟩
    clear h1 hb1 HHB HB0 HK0 HO0 HW0
    have HF : Aside0 (Calls Tryd.prog 14 #[.pointer (some ⟨hb, 0, none⟩), .slice A N c] w1 fun e w' => e = .returned (.tuple #[]) ∧ (∃ rest', Sh.Ha w' hb key rest') ∧ w1.grownBy w' (some hb)) := ⟨by
      have := write_.calls hb [] _ A c key w1 H1.out (by have := HNB.out; omega) (HK.out.below HB1.out) (Kd.C_below HRK.out HB1.out) (by rw [HN.out]; exact hcN) (fun hl a e => Sh.far_of_C HRK.out hl e (by have := HNB.out; omega)) HBY.out (by rw [HN.out]; simp; omega)
      rw [HN.out, List.nil_append] at this
      exact this⟩
    go_wp2_with fail
    refine HF.out.mono ?_
    rintro e w2 ⟨rfl, ⟨r2, h2⟩, g2⟩
    have H2 := Aside0.mk h2
    have HB2 : Aside0 (Below w.heap.size w w2) := ⟨Sh.below_of_gb HB1.out g2 (by have := HNB.out; omega)⟩
    have HK2 : Aside0 (w2.heap[w.heap.size + 1]? = some (.cells (Sh.u8s (List.replicate 64 0)) 34 (0, 0)) ∧ w2.heap[w.heap.size]? = some (.cells (Sh.u8s (List.replicate 32 0)) 25 (0, 0))) := ⟨(g2.block _ (Array.getElem?_eq_some_iff.1 HK1.out.1).1 (fun e => by have := Option.some.inj e; have := HNB.out; omega)).trans HK1.out.1, (g2.block _ (Array.getElem?_eq_some_iff.1 HK1.out.2).1 (fun e => by have := Option.some.inj e; have := HNB.out; omega)).trans HK1.out.2⟩
    clear h2 g2 HF HB1 HK1 H1
    obtain ⟨D0, HD0⟩ : ∃ D, Aside0 (Sh.u8s (Sh.dig key) = D) := ⟨_, ⟨rfl⟩⟩
    have HI0 : Aside0 ((Tryd.prog.info? 25).map (·.size) = some D0.size) := ⟨by rw [← HD0.out]; exact Sh.dig_info _⟩
    have HZ0 : Aside0 ((Sh.u8s (List.replicate 32 0)).size = D0.size) := ⟨by rw [← HD0.out]; exact Sh.dig_zeros _⟩
    have HE0 : Aside0 (D0.all (·.oneCell') = true) := ⟨by rw [← HD0.out]; exact Sh.dig_one _⟩
    have HF : Aside0 (Calls Tryd.prog 15 #[.pointer (some ⟨hb, 0, none⟩)] w2 fun e w' => e = .returned (.agg D0) ∧ Below w2.heap.size w2 w') := ⟨by
      have := sum_.calls hb key r2 w2 H2.out (HK.out.below HB2.out) HBY.out (by rw [HN.out]; omega)
      rw [HD0.out] at this
      exact this⟩
    go_wp2_with fail
    refine HF.out.mono ?_
    rintro e w3 ⟨rfl, hb3⟩
    have HB3 : Aside0 (Below w.heap.size w w3) := ⟨below_then HB2.out HB2.out.size hb3⟩
    have HK3 : Aside0 (w3.heap[w.heap.size + 1]? = some (.cells (Sh.u8s (List.replicate 64 0)) 34 (0, 0)) ∧ w3.heap[w.heap.size]? = some (.cells (Sh.u8s (List.replicate 32 0)) 25 (0, 0))) := ⟨(hb3.block _ (Array.getElem?_eq_some_iff.1 HK2.out.1).1).trans HK2.out.1, (hb3.block _ (Array.getElem?_eq_some_iff.1 HK2.out.2).1).trans HK2.out.2⟩
    have HX3 := Aside0.mk (Sh.store_new w3 D0)
    have HO4 : Aside0 ((w3.alloc (.cells (Sh.u8s (List.replicate 32 0)) 25)).heap[w3.heap.size]? = some (.cells (Sh.u8s (List.replicate 32 0)) 25 (0, 0))) := ⟨heap_alloc_new w3 _⟩
    clear hb3 HF HB2 HK2 H2
    go_wp2_with (refine wpList_store_row rfl 25 (.tmp 7) (.tmp 17) rfl w3.heap.size D0 rfl rfl 25 _ HO4.out HI0.out HZ0.out HE0.out ?_; generalize hWq : World.setRow _ w3.heap.size D0 = W4; have HX4 : Aside0 (W4.heap[w3.heap.size]? = some (.cells D0 25 (0, 0)) ∧ Below w3.heap.size w3 W4) := ⟨by rw [← hWq]; exact HX3.out⟩; clear hWq)
    obtain ⟨b7, HB7⟩ : ∃ b, Aside0 (w3.heap.size = b) := ⟨_, ⟨rfl⟩⟩
    have HC7 : Aside0 (Kd.C (Kd.int .u8) W4.drew (some ⟨b7, 0, none⟩) 32 (Sh.dig key)) := ⟨by
      have h7 : W4.drew.heap[b7]? = some (.cells D0 25 (0, 0)) := by rw [← HB7.out]; exact HX4.out.1
      have := Lit.reads_block h7 .u8 (Sh.dig key) (by rw [← HD0.out]; simp [Sh.u8s]) (by rw [Sh.dig_length]; decide)
      rwa [Sh.dig_length] at this⟩
    have HK4 : Aside0 (W4.drew.heap[w.heap.size + 1]? = some (.cells (Sh.u8s (List.replicate 64 0)) 34 (0, 0)) ∧ W4.drew.heap[w.heap.size]? = some (.cells (Sh.u8s (List.replicate 32 0)) 25 (0, 0))) := ⟨(HX4.out.2.block _ (Array.getElem?_eq_some_iff.1 HK3.out.1).1).trans HK3.out.1, (HX4.out.2.block _ (Array.getElem?_eq_some_iff.1 HK3.out.2).1).trans HK3.out.2⟩
    have HG4 : Aside0 (Below w.heap.size w W4.drew) := ⟨(below_then HB3.out HB3.out.size HX4.out.2).drew⟩
    rw [HB7.out]
    clear HX4 HX3 HO4 HK3 HB3 HB7 HD0 HI0 HZ0 HE0
    have hs1 := Sh.slice_all (w.heap.size + 1)
    have hs2 := Sh.slice_all32 b7
    go_wp2_with fail
    refine wp_region_noPanic ?_
    refine start_ (n := 3) (S := (fun _ => True)) (ds := [2]) #[false, false, false] (by kernel_rfl) rfl rfl trivial (fun hHeld => ?_)
    refine pure_ (i := 0) (N := (some 18)) (v := ?_) (a' := ?_) #[true, false, false] rfl rfl (by kernel_rfl) (fun _ _ _ h => h) (Or.inl ⟨by rfl, ?_⟩) ?_ ?_
    rotate_left
    · intro w'
      go_simp
      with_reducible rfl
    rotate_left
    · simp only [Act.put, List.setIfInBounds_toArray, List.set_cons_zero, List.set_cons_succ]
      rfl
    refine pure_ (i := 1) (N := (some 19)) (v := ?_) (a' := ?_) #[true, true, false] rfl rfl (by kernel_rfl) (fun _ _ _ h => h) (Or.inl ⟨by rfl, ?_⟩) ?_ ?_
    rotate_left
    · intro w'
      go_simp
      with_reducible rfl
    rotate_left
    · simp only [Act.put, List.setIfInBounds_toArray, List.set_cons_zero, List.set_cons_succ]
      rfl
    refine last_ (i := 2) (N := (some 20)) #[true, true, true] rfl rfl (by kernel_rfl) (by decide) (fun K hK => ?_)
    refine Sh.step_copy64 rfl (.tmp 18) (.tmp 19) rfl (w.heap.size + 1) (some ⟨b7, 0, none⟩) 32 32 (Sh.dig key) rfl rfl HK4.out.1 HC7.out (Sh.dig_length key) (by decide) ?_
    intro W hkw hgw
    have HKW : Aside0 (W.heap[w.heap.size + 1]? = some (.cells KB 34 (0, 0))) := ⟨by rw [hkw, ← HKBd.out, Sh.kblock, if_pos (by rw [HN.out]; exact h64)]⟩
    have HOW : Aside0 (W.heap[w.heap.size]? = some (.cells (Sh.u8s (List.replicate 32 0)) 25 (0, 0))) := ⟨(hgw.block _ (Array.getElem?_eq_some_iff.1 HK4.out.2).1 (fun e => by have := Option.some.inj e; omega)).trans HK4.out.2⟩
    have HGW : Aside0 (Below w.heap.size w W) := ⟨Sh.below_of_gb HG4.out hgw (Nat.le_succ _)⟩
    clear hkw hgw
    refine hK.out _ _ ?_
    clear hK K
    refine norm_ (a' := ?_) ?_ ?_
    rotate_left
    · show Act.put _ (some 20) _ = _
      simp only [Act.put, List.setIfInBounds_toArray, List.set_cons_zero, List.set_cons_succ]
      rfl
    refine done_ (by kernel_rfl) ?_
    clear hs1 hs2 HK4 HC7 HG4
    refine NoPanic.normal ?_
    go_wp2_with (refine wpList_load_row rfl 34 (.tmp 5) rfl (w.heap.size + 1) rfl 34 KB (0, 0) _ HKW.out Tryd.underlying34 rfl HI64.out ?_)
    have HF : Aside0 (Calls Tryd.prog 16 #[.agg KB, .int .u8 54, .slice B n cB] W fun e w' => e = .returned (.agg D1) ∧ Below W.heap.size W w') := ⟨by
      have := digest_.calls (Sh.kblock key) 54 B n cB ps As Cs W (HK.out.below HGW.out) (Sh.kblock_length key) (Sh.kblock_bytes key HBY.out) hn (HR.out.below HGW.out) HLN.out
      rw [HKBd.out, HD1.out] at this
      exact this⟩
    refine HF.out.mono ?_
    rintro e w5 ⟨rfl, hb5⟩
    have HB5 : Aside0 (Below w.heap.size w w5) := ⟨below_then HGW.out HGW.out.size hb5⟩
    have HK5 : Aside0 (w5.heap[w.heap.size + 1]? = some (.cells KB 34 (0, 0))) := ⟨(hb5.block _ (Array.getElem?_eq_some_iff.1 HKW.out).1).trans HKW.out⟩
    have HO5 : Aside0 (w5.heap[w.heap.size]? = some (.cells (Sh.u8s (List.replicate 32 0)) 25 (0, 0))) := ⟨(hb5.block _ (Array.getElem?_eq_some_iff.1 HOW.out).1).trans HOW.out⟩
    have HX5 := Aside0.mk (Sh.store_new w5 D1)
    have HO6 : Aside0 ((w5.alloc (.cells (Sh.u8s (List.replicate 32 0)) 25)).heap[w5.heap.size]? = some (.cells (Sh.u8s (List.replicate 32 0)) 25 (0, 0))) := ⟨heap_alloc_new w5 _⟩
    clear hb5 HF HKW HOW
    go_wp2_with (refine wpList_store_row rfl 25 (.tmp 8) (.tmp 26) rfl w5.heap.size D1 rfl rfl 25 _ HO6.out HI1.out HZ1.out HE1.out ?_; generalize hWq : World.setRow _ w5.heap.size D1 = W6; have HX6 : Aside0 (W6.heap[w5.heap.size]? = some (.cells D1 25 (0, 0)) ∧ Below w5.heap.size w5 W6) := ⟨by rw [← hWq]; exact HX5.out⟩; clear hWq)
    obtain ⟨b8, HB8⟩ : ∃ b, Aside0 (w5.heap.size = b) := ⟨_, ⟨rfl⟩⟩
    have HX8 : Aside0 (W6.heap[b8]? = some (.cells D1 25 (0, 0))) := ⟨by rw [← HB8.out]; exact HX6.out.1⟩
    have HK6 : Aside0 (W6.heap[w.heap.size + 1]? = some (.cells KB 34 (0, 0))) := ⟨(HX6.out.2.block _ (Array.getElem?_eq_some_iff.1 HK5.out).1).trans HK5.out⟩
    have HO7 : Aside0 (W6.heap[w.heap.size]? = some (.cells (Sh.u8s (List.replicate 32 0)) 25 (0, 0))) := ⟨(HX6.out.2.block _ (Array.getElem?_eq_some_iff.1 HO5.out).1).trans HO5.out⟩
    have HG6 : Aside0 (Below w.heap.size w W6) := ⟨below_then HB5.out HB5.out.size HX6.out.2⟩
    rw [HB8.out]
    clear HX6 HK5 HO5 HO6 HX5 HB5 HB8
    have hsl := Sh.slice_all32 b8
    obtain ⟨D2, HD2⟩ : ∃ D, Aside0 (Sh.u8s (Sh.hm key (Sh.cat ps n)) = D) := ⟨_, ⟨rfl⟩⟩
    have HI2 : Aside0 ((Tryd.prog.info? 25).map (·.size) = some D2.size) := ⟨by rw [← HD2.out]; exact Sh.dig_info _⟩
    have HZ2 : Aside0 ((Sh.u8s (List.replicate 32 0)).size = D2.size) := ⟨by rw [← HD2.out]; exact Sh.dig_zeros _⟩
    have HE2 : Aside0 (D2.all (·.oneCell') = true) := ⟨by rw [← HD2.out]; exact Sh.dig_one _⟩
    have HRUN : Aside0 (∀ W9 b9, Below W6.heap.size W6 W9 → W9.cell? ⟨b9, 0, none⟩ = some (.slice (some ⟨b8, 0, none⟩) 32 32) → Calls Tryd.prog 16 #[.agg KB, .int .u8 92, .slice (some ⟨b9, 0, none⟩) 1 1] W9 fun e w' => e = .returned (.agg D2) ∧ Below W9.heap.size W9 w') := ⟨fun W9 b9 hW hcell => by
      have hb := below_then HG6.out HG6.out.size hW
      have h8 : W9.heap[b8]? = some (.cells D1 25 (0, 0)) := (hW.block _ (Array.getElem?_eq_some_iff.1 HX8.out).1).trans HX8.out
      have hC : Kd.C (Kd.int .u8) W9 (some ⟨b8, 0, none⟩) 32 (Sh.dig (Sh.turn (Sh.kblock key) 54 ++ Sh.cat ps n)) := by
        have := Lit.reads_block h8 .u8 (Sh.dig (Sh.turn (Sh.kblock key) 54 ++ Sh.cat ps n)) (by rw [← HD1.out]; simp [Sh.u8s]) (by rw [Sh.dig_length]; decide)
        rwa [Sh.dig_length] at this
      have := digest_.calls (Sh.kblock key) 92 (some ⟨b9, 0, none⟩) 1 1 (fun _ => Sh.dig (Sh.turn (Sh.kblock key) 54 ++ Sh.cat ps n)) (fun _ => some ⟨b8, 0, none⟩) (fun _ => 32) W9 (HK.out.below hb) (Sh.kblock_length key) (Sh.kblock_bytes key HBY.out) (by decide)
        (Sh.one_row hcell (Sh.dig_length _) (Sh.dig_bytes _) hC) (fun i hi => by
          rcases (show i = 0 ∨ i = 1 by omega) with rfl | rfl
          · simp [Sh.cat]
          · simp [Sh.cat, Sh.dig_length])
      rw [HKBd.out] at this
      have e : Sh.u8s (Sh.dig (Sh.turn (Sh.kblock key) 92 ++ Sh.cat (fun _ => Sh.dig (Sh.turn (Sh.kblock key) 54 ++ Sh.cat ps n)) 1)) = D2 := by rw [← HD2.out]; rfl
      rw [e] at this
      exact this⟩
    have HKX : Aside0 (∀ W, Below W6.heap.size W6 W → W.heap[w.heap.size + 1]? = some (.cells KB 34 (0, 0)) ∧ W.heap[w.heap.size]? = some (.cells (Sh.u8s (List.replicate 32 0)) 25 (0, 0))) := ⟨fun W hW => ⟨(hW.block _ (Array.getElem?_eq_some_iff.1 HK6.out).1).trans HK6.out, (hW.block _ (Array.getElem?_eq_some_iff.1 HO7.out).1).trans HO7.out⟩⟩
    clear HK6 HO7 HX8 HD1
    go_wp2_with fail
    refine wp_region_noPanic ?_
    refine start_ (n := 5) (S := (fun w' => Below W6.heap.size W6 w')) (ds := [4]) #[false, false, false, false, false] (by kernel_rfl) rfl rfl (Below.refl _ _).drew (fun hHeld => ?_)
    refine take_ (i := 0) (N := (some 27)) (v := ?_) (a' := ?_) #[true, false, false, false, false] rfl rfl (by kernel_rfl) (fun _ _ _ h => h) (Or.inl ⟨by rfl, ?_⟩) hHeld ?_ ?_
    rotate_left
    · intro w' hS'
      (refine (Sh.load64_exec (x := .tmp 5) rfl rfl (HKX.out _ hS').1 HI64.out).trans ?_)
      with_reducible rfl
    rotate_left
    · simp only [Act.put, List.setIfInBounds_toArray, List.set_cons_zero, List.set_cons_succ]
      rfl
    refine pure_ (i := 1) (N := (some 28)) (v := ?_) (a' := ?_) #[true, true, false, false, false] rfl rfl (by kernel_rfl) (fun _ _ _ h => h) (Or.inl ⟨by rfl, ?_⟩) ?_ ?_
    rotate_left
    · intro w'
      go_simp
      with_reducible rfl
    rotate_left
    · simp only [Act.put, List.setIfInBounds_toArray, List.set_cons_zero, List.set_cons_succ]
      rfl
    refine one_ (i := 2) (N := (some 29)) #[true, true, true, false, false] rfl rfl (by kernel_rfl) (by decide) (fun K hK => ?_)
    refine value_ (w1 := W6.drew.alloc (.cells #[.slice (some ⟨b8, 0, none⟩) 32 32] 22)) (v := .slice (some ⟨W6.drew.heap.size, 0, none⟩) 1 1) (by rfl) rfl (by go_simp) ?_
    have HQ : Aside0 (Below W6.heap.size W6 (W6.drew.alloc (.cells #[.slice (some ⟨b8, 0, none⟩) 32 32] 22))) := ⟨((Below.refl _ W6).drew).alloc (Nat.le_refl _) _⟩
    refine hK.out _ _ HQ.out (fun hHeld => ?_)
    clear hK K
    refine norm_ (a' := ?_) ?_ ?_
    rotate_left
    · show Act.put _ (some 29) _ = _
      simp only [Act.put, List.setIfInBounds_toArray, List.set_cons_zero, List.set_cons_succ]
      rfl
    refine one_ (i := 3) (N := (some 30)) #[true, true, true, true, false] rfl rfl (by kernel_rfl) (by decide) (fun K hK => ?_)
    refine call_ 16 #[.agg KB, .int .u8 92, .slice (some ⟨W6.drew.heap.size, 0, none⟩) 1 1] (by rfl) rfl (by go_simp) ?_
    refine (HRUN.out _ _ hHeld (Lit.cell_new W6.drew #[.slice (some ⟨b8, 0, none⟩) 32 32] 22 (0, 0) 0)).mono ?_
    rintro e w9 ⟨rfl, hb9⟩
    have HQ2 := Aside0.mk (Sh.below_step2 hHeld hb9)
    clear hb9
    refine ⟨_, rfl, ?_⟩
    refine hK.out _ _ HQ2.out (fun hHeld => ?_)
    clear hK K
    refine norm_ (a' := ?_) ?_ ?_
    rotate_left
    · show Act.put _ (some 30) _ = _
      simp only [Act.put, List.setIfInBounds_toArray, List.set_cons_zero, List.set_cons_succ]
      rfl
    refine last_ (i := 4) (N := none) #[true, true, true, true, true] rfl rfl (by kernel_rfl) (by decide) (fun K hK => ?_)
    refine skip_ (w1 := w9.setRow w.heap.size D2) (by rfl) rfl (Sh.store_exec (x := .tmp 4) (y := .tmp 30) rfl rfl rfl (HKX.out _ HQ2.out).2 HI2.out HZ2.out HE2.out) ?_
    refine hK.out _ _ ?_
    clear hK K
    refine done_ (by kernel_rfl) ?_
    have HBF : Aside0 (Below w.heap.size w (w9.setRow w.heap.size D2)) := ⟨below_setRow (below_then HG6.out HG6.out.size HQ2.out) (Nat.le_refl _) D2⟩
    have HOF : Aside0 ((w9.setRow w.heap.size D2).heap[w.heap.size]? = some (.cells D2 25 (0, 0))) := ⟨setRow_heap w9 w.heap.size _ D2 _ _ (HKX.out _ HQ2.out).2⟩
    generalize w9.setRow w.heap.size D2 = WF at *
    refine NoPanic.normal ?_
    go_wp2_with fail
    refine ⟨rfl, .agg D2, ?_, by rw [HD2.out], HBF.out⟩
    exact results_cell_row rfl _ _ w.heap.size 25 D2 (0, 0) _ rfl HOF.out Tryd.underlying25 rfl HI2.out
  · have hs1 := Sh.slice_all (w.heap.size + 1)
    have HK0' : Aside0 (((w.alloc (.cells (Sh.u8s (List.replicate 32 0)) 25)).alloc (.cells (Sh.u8s (List.replicate 64 0)) 34)).heap[w.heap.size + 1]? = some (.cells (Sh.u8s (List.replicate 64 0)) 34 (0, 0))) := ⟨by rw [HW0.out]; exact HK0.out⟩
    have HC0' : Aside0 (Kd.C (Kd.int .u8) ((w.alloc (.cells (Sh.u8s (List.replicate 32 0)) 25)).alloc (.cells (Sh.u8s (List.replicate 64 0)) 34)) A N key) := ⟨by
      rw [HW0.out]
      have := Kd.C_below HRK.out HB0.out
      rwa [HN.out] at this⟩
    go_wp2_with (first | (refine Sh.wpList_copy64 rfl (.tmp 21) (.tmp 22) rfl (w.heap.size + 1) A N c key rfl rfl HK0'.out HC0'.out HN.out (by omega) ?_; intro W hkw hgw; have HKW : Aside0 (W.heap[w.heap.size + 1]? = some (.cells KB 34 (0, 0))) := ⟨by rw [hkw, ← HKBd.out, Sh.kblock, if_neg (by rw [HN.out]; exact h64), HN.out]⟩; have HGW0 : Aside0 (W0.grownBy W (some (w.heap.size + 1))) := ⟨HW0.out ▸ hgw⟩; clear hkw hgw) | (refine wpList_load_row rfl 34 (.tmp 5) rfl (w.heap.size + 1) rfl 34 KB (0, 0) _ HKW.out Tryd.underlying34 rfl HI64.out ?_))
    have HOW : Aside0 (W.heap[w.heap.size]? = some (.cells (Sh.u8s (List.replicate 32 0)) 25 (0, 0))) := ⟨(HGW0.out.block _ (Array.getElem?_eq_some_iff.1 HO0.out).1 (fun e => by have := Option.some.inj e; omega)).trans HO0.out⟩
    have HGW : Aside0 (Below w.heap.size w W) := ⟨Sh.below_of_gb HB0.out HGW0.out (Nat.le_succ _)⟩
    clear hs1 HK0' HC0' HGW0 HO0 HK0 HB0 HW0
    have HF : Aside0 (Calls Tryd.prog 16 #[.agg KB, .int .u8 54, .slice B n cB] W fun e w' => e = .returned (.agg D1) ∧ Below W.heap.size W w') := ⟨by
      have := digest_.calls (Sh.kblock key) 54 B n cB ps As Cs W (HK.out.below HGW.out) (Sh.kblock_length key) (Sh.kblock_bytes key HBY.out) hn (HR.out.below HGW.out) HLN.out
      rw [HKBd.out, HD1.out] at this
      exact this⟩
    refine HF.out.mono ?_
    rintro e w5 ⟨rfl, hb5⟩
    have HB5 : Aside0 (Below w.heap.size w w5) := ⟨below_then HGW.out HGW.out.size hb5⟩
    have HK5 : Aside0 (w5.heap[w.heap.size + 1]? = some (.cells KB 34 (0, 0))) := ⟨(hb5.block _ (Array.getElem?_eq_some_iff.1 HKW.out).1).trans HKW.out⟩
    have HO5 : Aside0 (w5.heap[w.heap.size]? = some (.cells (Sh.u8s (List.replicate 32 0)) 25 (0, 0))) := ⟨(hb5.block _ (Array.getElem?_eq_some_iff.1 HOW.out).1).trans HOW.out⟩
    have HX5 := Aside0.mk (Sh.store_new w5 D1)
    have HO6 : Aside0 ((w5.alloc (.cells (Sh.u8s (List.replicate 32 0)) 25)).heap[w5.heap.size]? = some (.cells (Sh.u8s (List.replicate 32 0)) 25 (0, 0))) := ⟨heap_alloc_new w5 _⟩
    clear hb5 HF HKW HOW
    go_wp2_with (refine wpList_store_row rfl 25 (.tmp 8) (.tmp 26) rfl w5.heap.size D1 rfl rfl 25 _ HO6.out HI1.out HZ1.out HE1.out ?_; generalize hWq : World.setRow _ w5.heap.size D1 = W6; have HX6 : Aside0 (W6.heap[w5.heap.size]? = some (.cells D1 25 (0, 0)) ∧ Below w5.heap.size w5 W6) := ⟨by rw [← hWq]; exact HX5.out⟩; clear hWq)
    obtain ⟨b8, HB8⟩ : ∃ b, Aside0 (w5.heap.size = b) := ⟨_, ⟨rfl⟩⟩
    have HX8 : Aside0 (W6.heap[b8]? = some (.cells D1 25 (0, 0))) := ⟨by rw [← HB8.out]; exact HX6.out.1⟩
    have HK6 : Aside0 (W6.heap[w.heap.size + 1]? = some (.cells KB 34 (0, 0))) := ⟨(HX6.out.2.block _ (Array.getElem?_eq_some_iff.1 HK5.out).1).trans HK5.out⟩
    have HO7 : Aside0 (W6.heap[w.heap.size]? = some (.cells (Sh.u8s (List.replicate 32 0)) 25 (0, 0))) := ⟨(HX6.out.2.block _ (Array.getElem?_eq_some_iff.1 HO5.out).1).trans HO5.out⟩
    have HG6 : Aside0 (Below w.heap.size w W6) := ⟨below_then HB5.out HB5.out.size HX6.out.2⟩
    rw [HB8.out]
    clear HX6 HK5 HO5 HO6 HX5 HB5 HB8
    have hsl := Sh.slice_all32 b8
    obtain ⟨D2, HD2⟩ : ∃ D, Aside0 (Sh.u8s (Sh.hm key (Sh.cat ps n)) = D) := ⟨_, ⟨rfl⟩⟩
    have HI2 : Aside0 ((Tryd.prog.info? 25).map (·.size) = some D2.size) := ⟨by rw [← HD2.out]; exact Sh.dig_info _⟩
    have HZ2 : Aside0 ((Sh.u8s (List.replicate 32 0)).size = D2.size) := ⟨by rw [← HD2.out]; exact Sh.dig_zeros _⟩
    have HE2 : Aside0 (D2.all (·.oneCell') = true) := ⟨by rw [← HD2.out]; exact Sh.dig_one _⟩
    have HRUN : Aside0 (∀ W9 b9, Below W6.heap.size W6 W9 → W9.cell? ⟨b9, 0, none⟩ = some (.slice (some ⟨b8, 0, none⟩) 32 32) → Calls Tryd.prog 16 #[.agg KB, .int .u8 92, .slice (some ⟨b9, 0, none⟩) 1 1] W9 fun e w' => e = .returned (.agg D2) ∧ Below W9.heap.size W9 w') := ⟨fun W9 b9 hW hcell => by
      have hb := below_then HG6.out HG6.out.size hW
      have h8 : W9.heap[b8]? = some (.cells D1 25 (0, 0)) := (hW.block _ (Array.getElem?_eq_some_iff.1 HX8.out).1).trans HX8.out
      have hC : Kd.C (Kd.int .u8) W9 (some ⟨b8, 0, none⟩) 32 (Sh.dig (Sh.turn (Sh.kblock key) 54 ++ Sh.cat ps n)) := by
        have := Lit.reads_block h8 .u8 (Sh.dig (Sh.turn (Sh.kblock key) 54 ++ Sh.cat ps n)) (by rw [← HD1.out]; simp [Sh.u8s]) (by rw [Sh.dig_length]; decide)
        rwa [Sh.dig_length] at this
      have := digest_.calls (Sh.kblock key) 92 (some ⟨b9, 0, none⟩) 1 1 (fun _ => Sh.dig (Sh.turn (Sh.kblock key) 54 ++ Sh.cat ps n)) (fun _ => some ⟨b8, 0, none⟩) (fun _ => 32) W9 (HK.out.below hb) (Sh.kblock_length key) (Sh.kblock_bytes key HBY.out) (by decide)
        (Sh.one_row hcell (Sh.dig_length _) (Sh.dig_bytes _) hC) (fun i hi => by
          rcases (show i = 0 ∨ i = 1 by omega) with rfl | rfl
          · simp [Sh.cat]
          · simp [Sh.cat, Sh.dig_length])
      rw [HKBd.out] at this
      have e : Sh.u8s (Sh.dig (Sh.turn (Sh.kblock key) 92 ++ Sh.cat (fun _ => Sh.dig (Sh.turn (Sh.kblock key) 54 ++ Sh.cat ps n)) 1)) = D2 := by rw [← HD2.out]; rfl
      rw [e] at this
      exact this⟩
    have HKX : Aside0 (∀ W, Below W6.heap.size W6 W → W.heap[w.heap.size + 1]? = some (.cells KB 34 (0, 0)) ∧ W.heap[w.heap.size]? = some (.cells (Sh.u8s (List.replicate 32 0)) 25 (0, 0))) := ⟨fun W hW => ⟨(hW.block _ (Array.getElem?_eq_some_iff.1 HK6.out).1).trans HK6.out, (hW.block _ (Array.getElem?_eq_some_iff.1 HO7.out).1).trans HO7.out⟩⟩
    clear HK6 HO7 HX8 HD1
    go_wp2_with fail
    refine wp_region_noPanic ?_
    refine start_ (n := 5) (S := (fun w' => Below W6.heap.size W6 w')) (ds := [4]) #[false, false, false, false, false] (by kernel_rfl) rfl rfl (Below.refl _ _).drew (fun hHeld => ?_)
    refine take_ (i := 0) (N := (some 27)) (v := ?_) (a' := ?_) #[true, false, false, false, false] rfl rfl (by kernel_rfl) (fun _ _ _ h => h) (Or.inl ⟨by rfl, ?_⟩) hHeld ?_ ?_
    rotate_left
    · intro w' hS'
      (refine (Sh.load64_exec (x := .tmp 5) rfl rfl (HKX.out _ hS').1 HI64.out).trans ?_)
      with_reducible rfl
    rotate_left
    · simp only [Act.put, List.setIfInBounds_toArray, List.set_cons_zero, List.set_cons_succ]
      rfl
    refine pure_ (i := 1) (N := (some 28)) (v := ?_) (a' := ?_) #[true, true, false, false, false] rfl rfl (by kernel_rfl) (fun _ _ _ h => h) (Or.inl ⟨by rfl, ?_⟩) ?_ ?_
    rotate_left
    · intro w'
      go_simp
      with_reducible rfl
    rotate_left
    · simp only [Act.put, List.setIfInBounds_toArray, List.set_cons_zero, List.set_cons_succ]
      rfl
    refine one_ (i := 2) (N := (some 29)) #[true, true, true, false, false] rfl rfl (by kernel_rfl) (by decide) (fun K hK => ?_)
    refine value_ (w1 := W6.drew.alloc (.cells #[.slice (some ⟨b8, 0, none⟩) 32 32] 22)) (v := .slice (some ⟨W6.drew.heap.size, 0, none⟩) 1 1) (by rfl) rfl (by go_simp) ?_
    have HQ : Aside0 (Below W6.heap.size W6 (W6.drew.alloc (.cells #[.slice (some ⟨b8, 0, none⟩) 32 32] 22))) := ⟨((Below.refl _ W6).drew).alloc (Nat.le_refl _) _⟩
    refine hK.out _ _ HQ.out (fun hHeld => ?_)
    clear hK K
    refine norm_ (a' := ?_) ?_ ?_
    rotate_left
    · show Act.put _ (some 29) _ = _
      simp only [Act.put, List.setIfInBounds_toArray, List.set_cons_zero, List.set_cons_succ]
      rfl
    refine one_ (i := 3) (N := (some 30)) #[true, true, true, true, false] rfl rfl (by kernel_rfl) (by decide) (fun K hK => ?_)
    refine call_ 16 #[.agg KB, .int .u8 92, .slice (some ⟨W6.drew.heap.size, 0, none⟩) 1 1] (by rfl) rfl (by go_simp) ?_
    refine (HRUN.out _ _ hHeld (Lit.cell_new W6.drew #[.slice (some ⟨b8, 0, none⟩) 32 32] 22 (0, 0) 0)).mono ?_
    rintro e w9 ⟨rfl, hb9⟩
    have HQ2 := Aside0.mk (Sh.below_step2 hHeld hb9)
    clear hb9
    refine ⟨_, rfl, ?_⟩
    refine hK.out _ _ HQ2.out (fun hHeld => ?_)
    clear hK K
    refine norm_ (a' := ?_) ?_ ?_
    rotate_left
    · show Act.put _ (some 30) _ = _
      simp only [Act.put, List.setIfInBounds_toArray, List.set_cons_zero, List.set_cons_succ]
      rfl
    refine last_ (i := 4) (N := none) #[true, true, true, true, true] rfl rfl (by kernel_rfl) (by decide) (fun K hK => ?_)
    refine skip_ (w1 := w9.setRow w.heap.size D2) (by rfl) rfl (Sh.store_exec (x := .tmp 4) (y := .tmp 30) rfl rfl rfl (HKX.out _ HQ2.out).2 HI2.out HZ2.out HE2.out) ?_
    refine hK.out _ _ ?_
    clear hK K
    refine done_ (by kernel_rfl) ?_
    have HBF : Aside0 (Below w.heap.size w (w9.setRow w.heap.size D2)) := ⟨below_setRow (below_then HG6.out HG6.out.size HQ2.out) (Nat.le_refl _) D2⟩
    have HOF : Aside0 ((w9.setRow w.heap.size D2).heap[w.heap.size]? = some (.cells D2 25 (0, 0))) := ⟨setRow_heap w9 w.heap.size _ D2 _ _ (HKX.out _ HQ2.out).2⟩
    generalize w9.setRow w.heap.size D2 = WF at *
    refine NoPanic.normal ?_
    go_wp2_with fail
    refine ⟨rfl, .agg D2, ?_, by rw [HD2.out], HBF.out⟩
    exact results_cell_row rfl _ _ w.heap.size 25 D2 (0, 0) _ rfl HOF.out Tryd.underlying25 rfl HI2.out
#print axioms of_.calls
end Go.Proofs.YthcilikinfhipaaDoor
