/- The reference's pipe: New, Full, Len, Clear, lent. -/
import Derived.Test.YtikogcdakdndnaaPipeT
set_option linter.unusedVariables false
set_option linter.unusedSimpArgs false
namespace Go.Proofs.Ytikogcdakdndnaa
open Go.RowKit Go.Proofs.YtikogcdakdndnaaW.PrintWords Go.Proofs.YtikogcdakdndnaaW.PrintLast Go.Proofs.YtikogcdakdndnaaW.PrintMore
namespace Pi
theorem size51 : (Try.prog.info? 51).map (·.size) = some 1 := by kernel_rfl
/-- block g is a reference's pipe with these requests -/
structure Rf (W : World) (base : Nat) (ok : Nat → Prop) (g : Nat) (rs : List Rq) : Prop where mk_ ::
  out : ∃ v : Value, Wk.Blk W g 51 [v] ∧ base ≤ g ∧ rs.length ≤ 16 ∧ kRq.R 33 W base ok v rs
theorem kRq_ne : ∀ q, q ∈ 33 :: kRq.E → q ≠ 51 := by decide
theorem kRq_ne' : ∀ q, q ∈ 33 :: kRq.E → q ≠ 49 := by decide
section
variable {W W' : World} {base : Nat} {ok ok' : Nat → Prop} {g : Nat} {rs : List Rq}
theorem Rf.below (h : Rf W base ok g rs) (hb : Below W.heap.size W W') : Rf W' base ok g rs := by
  obtain ⟨v, h1, h2, h3, h4⟩ := h.out
  exact ⟨v, h1.below_ hb, h2, h3, Kd.R_below h4 hb⟩
theorem Rf.mono (h : Rf W base ok g rs) (ho : ∀ k, ok k → ok' k) : Rf W base ok' g rs := by
  obtain ⟨v, h1, h2, h3, h4⟩ := h.out
  exact ⟨v, h1, h2, h3, Kd.R_mono h4 ho⟩
theorem Rf.bound (h : Rf W base ok g rs) : Rf W base (fun k => ok k ∧ base ≤ k ∧ k < W.heap.size) g rs := by
  obtain ⟨v, h1, h2, h3, h4⟩ := h.out
  exact ⟨v, h1, h2, h3, Kd.R_mono (Kd.R_bound h4) (fun k hk => ⟨hk.1, hk.2.1, hk.2.2.1⟩)⟩
theorem Rf.grown (h : Rf W base ok g rs) {row : Option Nat} (hg : W.grownBy W' row) (hne : some g ≠ row) (ho : ∀ k, ok k → some k ≠ row) : Rf W' base ok g rs := by
  obtain ⟨v, h1, h2, h3, h4⟩ := h.out
  exact ⟨v, h1.grown hg hne, h2, h3, Kd.R_grown h4 hg ho⟩
theorem Rf.lower {base' : Nat} (h : Rf W base ok g rs) (hb : base' ≤ base) : Rf W base' ok g rs := by
  obtain ⟨v, h1, h2, h3, h4⟩ := h.out
  exact ⟨v, h1, by omega, h3, Kd.R_lower h4 hb⟩
theorem Rf.lt (h : Rf W base ok g rs) : g < W.heap.size := by
  obtain ⟨v, h1, _⟩ := h.out
  exact h1.lt
theorem Rf.le (h : Rf W base ok g rs) : rs.length ≤ 16 := by
  obtain ⟨v, h1, h2, h3, h4⟩ := h.out
  exact h3
theorem Rf.base_ (h : Rf W base ok g rs) : base ≤ g := by
  obtain ⟨v, h1, h2, h3, h4⟩ := h.out
  exact h2
theorem Rf.cell (h : Rf W base ok g rs) : ∃ A c, W.cell? ⟨g, 0, none⟩ = some (.slice A rs.length c) ∧ rs.length ≤ c ∧ kRq.C W A rs.length rs ∧ Wk.Blk W g 51 [.slice A rs.length c] ∧ kRq.R 33 W base ok (.slice A rs.length c) rs := by
  obtain ⟨v, h1, h2, h3, h4⟩ := h.out
  obtain ⟨A, c, rfl, hl, hC⟩ := Kd.R_reads h4
  exact ⟨A, c, h1.at_ 0 rfl, hl, hC, h1, h4⟩
end
/-- blocks of other types than these have not turned -/
structure Ty (W W' : World) (base : Nat) (ts : List TypeId) : Prop where
  bel : Below base W W'
  keep : ∀ (k : Nat) (cs : Array Value) (t : TypeId), W.heap[k]? = some (.cells cs t (0, 0)) → t ∉ ts → W'.heap[k]? = W.heap[k]?
theorem Pp.ty {W W' : World} {base b : Nat} {ok : Nat → Prop} {g : Nat} {rs : List Rq} {ts : List TypeId} (h : Pp W base ok g rs) (hT : Ty W W' b ts) (h49 : 49 ∉ ts) (h5 : 5 ∉ ts) : Pp W' base ok g rs := by
  obtain ⟨cs, h1, h2, h3, h4, h5', h6⟩ := h.out
  refine ⟨cs, ⟨(hT.keep _ _ _ h1.out h49).trans h1.out⟩, h2, h3, h4, h5', h6.imp_ (fun p c hp => ?_)⟩
  refine kRq.M_mono (fun _ hk => hk.1) (kRq.M_move (fun k hk => ?_) (kRq.M_bound hp))
  obtain ⟨_, _, _, q, hq, cells, hc⟩ := hk
  refine hT.keep _ _ _ hc ?_
  have : q = 5 := by
    have hE : kRq.E = [5] := by decide
    rw [hE] at hq
    exact List.mem_singleton.1 hq
  rw [this]
  exact h5
theorem R_ty {W W' : World} {base b : Nat} {ok : Nat → Prop} {v : Value} {xs : List Int} {ts : List TypeId} (h : Kd.R (Kd.int .u8) 5 W base ok v xs) (hT : Ty W W' b ts) (h5 : 5 ∉ ts) : Kd.R (Kd.int .u8) 5 W' base ok v xs := by
  refine Kd.R_mono (Kd.R_move (Kd.R_bound h) (fun k hk => ?_)) (fun _ hk => hk.1)
  obtain ⟨_, _, _, q, hq, cells, hc⟩ := hk
  refine hT.keep _ _ _ hc ?_
  have hE : 5 :: (Kd.int .u8).E = [5] := by decide
  rw [hE] at hq
  rw [List.mem_singleton.1 hq]
  exact h5
end Pi
theorem rnew_.calls (ok : Nat → Prop) (w : World) : Calls Try.prog 9 #[] w fun e w' => e = .returned (.pointer (some ⟨w.heap.size, 0, none⟩)) ∧ Pi.Rf w' w.heap.size ok w.heap.size [] ∧ Below w.heap.size w w' := by
  go_enter Try.func9, Try.ntmps9
  go_wp2_with fail
  go_ret
  exact ⟨rfl, ⟨.slice none 0 0, ⟨heap_alloc_new w _⟩, Nat.le_refl _, by simp, Kd.R_nil _ _ _ _ _⟩, (Below.refl _ _).alloc (Nat.le_refl _) _⟩
theorem rlen_.calls {W : World} {base : Nat} {ok : Nat → Prop} {g : Nat} {rs : List Rq} (h : Pi.Rf W base ok g rs) : Calls Try.prog 23 #[.pointer (some ⟨g, 0, none⟩)] W fun e w' => e = .returned (.int .i64 rs.length) ∧ W = w' := by
  obtain ⟨A, c, hc, _⟩ := h.cell
  obtain ⟨n, HN⟩ : ∃ n, Aside0 (rs.length = n) := ⟨_, ⟨rfl⟩⟩
  rw [HN.out] at hc ⊢
  clear h
  go_enter Try.func23, Try.ntmps23
  go_wp2_with fail
  go_ret
  exact ⟨rfl, rfl⟩
theorem rfull_.calls {W : World} {base : Nat} {ok : Nat → Prop} {g : Nat} {rs : List Rq} (h : Pi.Rf W base ok g rs) : Calls Try.prog 24 #[.pointer (some ⟨g, 0, none⟩)] W fun e w' => e = .returned (.bool (decide (rs.length = 16))) ∧ W = w' := by
  obtain ⟨A, c, hc, _⟩ := h.cell
  have hle := h.le
  obtain ⟨n, HN⟩ : ∃ n, Aside0 (rs.length = n) := ⟨_, ⟨rfl⟩⟩
  rw [HN.out] at hc hle ⊢
  clear h
  by_cases hn : n = 16
  · subst hn
    go_enter Try.func24, Try.ntmps24
    go_wp2_with fail
    go_ret
    exact ⟨rfl, rfl⟩
  · have hb : ¬ (16 : Int) ≤ n := by omega
    have HD : Aside0 (decide (n = 16) = false) := ⟨decide_eq_false hn⟩
    clear hn hle
    go_enter Try.func24, Try.ntmps24
    go_wp2_with fail
    go_ret
    exact ⟨by rw [HD.out]; simp, rfl⟩
theorem rclear_.calls {W : World} {base : Nat} {ok : Nat → Prop} {g : Nat} {rs : List Rq} (h : Pi.Rf W base ok g rs) (ok' : Nat → Prop) : Calls Try.prog 21 #[.pointer (some ⟨g, 0, none⟩)] W fun e w' => e = .returned (.tuple #[]) ∧ Pi.Rf w' base ok' g [] ∧ Wk.Only W w' g := by
  obtain ⟨v, h1, h2, h3, h4⟩ := h.out
  have HB := Aside0.mk h1
  have H2 := Aside0.mk h2
  have HSZ := Aside0.mk Pi.size22
  clear h1 h h2
  go_enter Try.func21, Try.ntmps21
  go_wp2_with (refine Wk.store rfl rfl 22 (.tmp 4) (.const (.slice none 0 0)) rfl g 0 (.slice none 0 0) [.slice none 0 0] rfl rfl rfl 51 _ HB.out HSZ.out (Nat.le_refl 1) rfl ?_; intro w3 hX hO; have HX := Aside0.mk (show Wk.Blk w3 g 51 [.slice none 0 0] from hX); have HO := Aside0.mk hO; clear hX hO)
  go_end0
  exact ⟨rfl, ⟨.slice none 0 0, HX.out, H2.out, by simp, Kd.R_nil _ _ _ _ _⟩, HO.out⟩
set_option maxHeartbeats 1000000 in
set_option maxRecDepth 100000 in
theorem rlent_.calls {W : World} {r : Rq} {cs : List Value} (h : kRq.K W r cs) (hl : r.2.2.2.2.2.length < 140737488355328) : Calls Try.prog 26 #[.agg cs.toArray] W fun e w' => ∃ cs', e = .returned (.agg cs'.toArray) ∧ kRq.M w' W.heap.size (fun _ => True) r cs' ∧ Below W.heap.size W w' := by
  obtain ⟨A, c, rfl, hlc, hC⟩ := rq_cells h
  obtain ⟨fl, kd, ck, off, len, data⟩ := r
  change data.length ≤ c at hlc
  change data.length < _ at hl
  have HC := Aside0.mk (show Kd.C (Kd.int .u8) W A data.length data from hC)
  clear h hC
  obtain ⟨n, HN⟩ : ∃ n, Aside0 (data.length = n) := ⟨_, ⟨rfl⟩⟩
  rw [HN.out] at hlc hl HC
  show Calls _ _ #[.agg #[.int .u16 fl, .int .u16 kd, .int .u64 ck, .int .u64 off, .int .u32 len, .slice A data.length c]] _ _
  rw [HN.out]
  have HL : Aside0 ((([] : List Int).length + n) * 1 ≤ 140737488355328) := ⟨by simp; omega⟩
  clear hl
  go_enter Try.func26, Try.ntmps26
  generalize hWq : World.alloc W (.cells #[.int .u16 fl, .int .u16 kd, .int .u64 ck, .int .u64 off, .int .u32 len, .slice A n c] 33) = W1
  obtain ⟨W0, hW0⟩ : ∃ W0, W0 = W1.alloc (.cells #[.int .u16 0, .int .u16 0, .int .u64 0, .int .u64 0, .int .u32 0, .slice none 0 0] 33) := ⟨_, rfl⟩
  subst hWq
  have HB0 : Aside0 (Below W.heap.size W W0) := ⟨by rw [hW0]; exact below_alloc (below_alloc (Below.refl _ _) _) _⟩
  have HX0 : Aside0 (Wk.Blk W0 W.heap.size 33 (Pi.rqc fl kd ck off len (.slice A n c))) := ⟨by rw [hW0]; exact (Wk.Blk.new W _ (Pi.rqc fl kd ck off len (.slice A n c))).alloc _⟩
  have HY0 : Aside0 (Wk.Blk W0 (W.heap.size + 1) 33 Pi.zrq) := ⟨by rw [hW0]; exact ⟨heap_alloc2_new W _ _⟩⟩
  have HSL := Aside0.mk Pi.size31
  have HSZ := Aside0.mk Pi.size33
  have HA0 : Aside0 (Kd.R (Kd.int .u8) 5 W0 W.heap.size (fun _ => True) (.slice none 0 0) ([] : List Int)) := ⟨Kd.R_nil _ _ _ _ _⟩
  have HCU := Aside0.mk (Kd.C_below HC.out HB0.out)
  have HW0 := Aside0.mk hW0
  clear hW0 HC
  go_wp2_with (first
    | (at_builtin; refine Wk.cast_ HW0.out.symm ?_; refine Kd.R_append_rows (Kd.int .u8) (w0 := W) W.heap.size rfl (.tmp 4) (.tmp 6) 31 5 (.int .u8 0) 1 rfl Try.underlying31 Cl.infoByte rfl (by decide) (by omega) (.slice none 0 0) ([] : List Int) data A n c (fun _ => True) (fun _ => False) rfl rfl HA0.out HCU.out (fun _ _ h => h) (fun _ h => h.elim) (fun _ _ => trivial) HB0.out HB0.out.size HL.out ?_; intro v5 w5 ho hb hg _; rw [List.nil_append] at ho; obtain ⟨A5, c5, rfl⟩ := Kd.R_slice ho; rw [HN.out] at *; have HV5 := Aside0.mk ho; have HB5 := Aside0.mk hb; have HX5 := Aside0.mk (HX0.out.grown hg (by simp [Value.ownBlock])); have HY5 := Aside0.mk (HY0.out.grown hg (by simp [Value.ownBlock])); clear ho hb hg)
    | (refine Wk.store rfl rfl 31 (.tmp 9) (.tmp 8) rfl W.heap.size 5 (.slice A5 n c5) [.slice A5 n c5] rfl rfl rfl 33 _ HX5.out HSL.out (Nat.le_of_ble_eq_true rfl) rfl ?_; intro w6 hX hO; have HX6 := Aside0.mk (show Wk.Blk w6 W.heap.size 33 (Pi.rqc fl kd ck off len (.slice A5 n c5)) from hX); have HO6 := Aside0.mk hO; have HY6 := Aside0.mk (HY5.out.only hO (Nat.ne_of_gt (Nat.lt_succ_self _))); clear hX hO)
    | refine Wk.load rfl 33 (.tmp 1) rfl (.agg (Pi.rqc fl kd ck off len (.slice A5 n c5)).toArray) (.pointer (some ⟨W.heap.size, 0, none⟩)) rfl (Wk.run_load_blk 33 W.heap.size 0 _ _ HX6.out rfl Try.underlying33 rfl HSZ.out) ?_
    | (refine Wk.store_all rfl rfl 33 (.tmp 2) (.tmp 10) rfl (W.heap.size + 1) (Pi.rqc fl kd ck off len (.slice A5 n c5)) rfl rfl 33 _ HY6.out HSZ.out rfl rfl ?_; intro w7 hX hO; have HX := Aside0.mk hX; have HO := Aside0.mk hO; clear hX hO))
  refine bodyPost_ret (Wk.res_c rfl _ (W.heap.size + 1) 33 _ _ rfl HX.out Try.underlying33 rfl HSZ.out) rfl ?_
  have hne : ∀ q, q ∈ 5 :: (Kd.int .u8).E → q ≠ 33 := by decide
  have hB6 := Wk.Only.below HB5.out HO6.out (Nat.le_refl _)
  have hR := Wk.R_only (Wk.R_only HV5.out HX5.out hne HO6.out) HY6.out hne HO.out
  exact ⟨_, rfl, Pi.rq_M hR, Wk.Only.below hB6 HO.out (Nat.le_succ _)⟩
#print axioms rlent_.calls
end Go.Proofs.Ytikogcdakdndnaa
