/- The walk of pipe.Take. -/
import Derived.Test.YtikogcdakdndnaaPipeL
set_option linter.unusedVariables false
set_option linter.unusedSimpArgs false
namespace Go.Proofs.Ytikogcdakdndnaa
open Go.RowKit Go.Proofs.YtikogcdakdndnaaW.PrintWords Go.Proofs.YtikogcdakdndnaaW.PrintLast Go.Proofs.YtikogcdakdndnaaW.PrintMore
namespace Pi
theorem reps_all {α : Type} {R : α → List Value → Prop} {size : Nat} {ps : List α} {cs : List Value} (h : Reps R size ps cs) (hs0 : 0 < size) (hR : ∀ p c, R p c → ∀ u ∈ c, u.oneCell' = true) : ∀ u ∈ cs, u.oneCell' = true := by
  intro u hu
  obtain ⟨q, hq, rfl⟩ := List.mem_iff_getElem.1 hu
  have hql : q / size < ps.length := by
    rw [Nat.div_lt_iff_lt_mul hs0, ← h.1]
    exact hq
  refine hR _ _ (h.2 (q / size) _ (List.getElem?_eq_getElem hql)) _ ?_
  rw [List.mem_iff_getElem?]
  refine ⟨q % size, ?_⟩
  rw [List.getElem?_take, if_pos (Nat.mod_lt _ hs0), List.getElem?_drop, Nat.mul_comm, Nat.div_add_mod, List.getElem?_eq_getElem hq]
/-- a cut of the pipe's array -/
theorem slice_run (g lo hi : Nat) (lo' hi' : Int) (e1 : lo' = lo) (e2 : hi' = hi) (h1 : lo ≤ hi) (h2 : hi ≤ 16) :
    ∃ d : Addr, (∀ W : World, (Instr.sliceAt 47 (.pointer (some ⟨g, 0, none⟩)) (some (.int .i64 lo')) (some (.int .i64 hi')) none).run Try.prog W = .ok (.slice (some d) (hi - lo) (16 - lo)) W) ∧ (lo < 16 → d = ⟨g, lo * 6, none⟩) := by
  subst e1; subst e2
  obtain ⟨i, hi1, hsz⟩ := Option.map_eq_some_iff.1 size33
  refine ⟨if 16 = lo then ⟨g, 0, none⟩ else (⟨g, 0, none⟩ : Addr).add (lo * 6), fun W => ?_, fun h => ?_⟩
  · have b1 : (0 : Int) ≤ hi ∧ (hi : Int) ≤ ((16 : Nat) : Int) := by omega
    have b2 : (0 : Int) ≤ lo ∧ (lo : Int) ≤ (hi : Int) := by omega
    have c1 := h1
    have c2 := h2
    simp [Instr.sliceAt, run_underlying Try.underlying47, Instr.sureAddr, Instr.sliceBounds, Instr.sliceBound, asIntOf, asInt, b1, b2, sizeOf, typeInfo, hi1, hsz, Result.andThen, c1, c2]
  · rw [if_neg (by omega), add_plain]
/-- cells copied within a block: what stands o2 on is laid o on -/
theorem copy_run {W : World} {g : Nat} {zs : List Value} (hb : Wk.Blk W g 49 zs) (ty : TypeId) (d s : Addr) (n o o2 dl dc sl sc : Nat) (seg : List Value) (hn : Nat.min sl dl = n) (hd : d = ⟨g, o, none⟩) (hs : 0 < n → s = ⟨g, o2, none⟩) (hseg : (zs.drop o2).take (n * 6) = seg) (hl : seg.length = n * 6) (hfit : o + n * 6 ≤ zs.length) (h1 : ∀ u ∈ seg, u.oneCell' = true) :
    (Builtin.copy_ #[22, 22] ty #[.slice (some d) dl dc, .slice (some s) sl sc]).run Try.prog W = .ok (.int .i64 n) (W.setCells g o seg) := by
  obtain ⟨i, hi, hsz⟩ := Option.map_eq_some_iff.1 size33
  subst hd
  have hld : (loadCells s (n * 6)).run Try.prog W = .ok seg.toArray W := by
    rcases Nat.eq_zero_or_pos n with h0 | h0
    · subst h0
      have : seg = [] := List.eq_nil_of_length_eq_zero (by omega)
      subst this
      rfl
    · rw [hs h0, ← hl]
      refine run_loadCells_list (P := Try.prog) W ⟨g, o2, none⟩ seg (fun j v hv => ?_)
      have hadd : (⟨g, o2, none⟩ : Addr).add j = ⟨g, o2 + j, none⟩ := by unfold Addr.add; split <;> simp_all
      rw [hadd, hb.cell]
      rw [← hseg] at hv
      have hj : j < n * 6 := by
        rcases Nat.lt_or_ge j (n * 6) with h | h
        · exact h
        · rw [List.getElem?_take, if_neg (by omega)] at hv; cases hv
      rw [List.getElem?_take, if_pos hj, List.getElem?_drop] at hv
      exact hv
  have hst := run_storeCells_cells (P := Try.prog) g o seg 0 W (fun j hj => by rw [Nat.add_zero, hb.cell, List.getElem?_eq_getElem (by omega)]; rfl) (fun j _ => by rw [Nat.add_zero]; exact hb.frozen _) h1
  rw [Nat.add_zero] at hst
  simp [Builtin.copy_, run_underlying Try.underlying22, Builtin.lenOf, Builtin.firstCells, sizeOf, typeInfo, hi, hsz, hn, hld, hst, goInt]
end Pi
set_option maxHeartbeats 1000000 in
set_option maxRecDepth 100000 in
theorem take_no {W : World} {base : Nat} {ok : Nat → Prop} {g : Nat} {rs : List Rq} (h : Pi.Pp W base ok g rs) (k : Int) (hk : k < 0 ∨ (rs.length : Int) ≤ k) :
    Calls Try.prog 16 #[.pointer (some ⟨g, 0, none⟩), .int .i64 k] W fun e w' => e = .returned (.tuple #[.agg Pi.zrq.toArray, .bool false]) ∧ Below W.heap.size W w' := by
  have HP := Aside0.mk h
  have hc := h.cell
  obtain ⟨m, HM⟩ : ∃ n, Aside0 (rs.length = n) := ⟨_, ⟨rfl⟩⟩
  rw [HM.out] at hc hk
  have HSZ := Aside0.mk Pi.size33
  clear h
  rcases hk with hk | hk
  · skip
    go_enter Try.func16, Try.ntmps16
    have hc1 : (W.alloc (.cells #[.int .u16 0, .int .u16 0, .int .u64 0, .int .u64 0, .int .u32 0, .slice none 0 0] 33)).cell? ⟨g, 96, none⟩ = some (.int .i64 m) := by rw [World.cell?_alloc_lt _ _ _ HP.out.lt]; exact hc
    have HX := Aside0.mk (Wk.Blk.new W 33 Pi.zrq)
    go_wp2_with (refine Wk.store_all rfl rfl 33 (.tmp 4) (.tmp 17) rfl W.heap.size Pi.zrq rfl rfl 33 _ HX.out HSZ.out rfl rfl ?_; intro w3 hX hO; have HX3 := Aside0.mk hX; have HO3 := Aside0.mk hO; clear hX hO)
    refine bodyPost_ret (Wk.res_ct rfl _ W.heap.size 33 _ _ rfl HX3.out Try.underlying33 rfl HSZ.out) rfl ?_
    exact ⟨rfl, Wk.Only.below ((Below.refl _ _).alloc (Nat.le_refl _) _) HO3.out (Nat.le_refl _)⟩
  · have hk0 : 0 ≤ k := by omega
    go_enter Try.func16, Try.ntmps16
    have hc1 : (W.alloc (.cells #[.int .u16 0, .int .u16 0, .int .u64 0, .int .u64 0, .int .u32 0, .slice none 0 0] 33)).cell? ⟨g, 96, none⟩ = some (.int .i64 m) := by rw [World.cell?_alloc_lt _ _ _ HP.out.lt]; exact hc
    have HX := Aside0.mk (Wk.Blk.new W 33 Pi.zrq)
    go_wp2_with (refine Wk.store_all rfl rfl 33 (.tmp 4) (.tmp 17) rfl W.heap.size Pi.zrq rfl rfl 33 _ HX.out HSZ.out rfl rfl ?_; intro w3 hX hO; have HX3 := Aside0.mk hX; have HO3 := Aside0.mk hO; clear hX hO)
    refine bodyPost_ret (Wk.res_ct rfl _ W.heap.size 33 _ _ rfl HX3.out Try.underlying33 rfl HSZ.out) rfl ?_
    exact ⟨rfl, Wk.Only.below ((Below.refl _ _).alloc (Nat.le_refl _) _) HO3.out (Nat.le_refl _)⟩
#print axioms take_no
set_option maxHeartbeats 2000000 in
set_option maxRecDepth 100000 in
theorem take_yes {W : World} {base : Nat} {ok : Nat → Prop} {g : Nat} {rs : List Rq} (h : Pi.Pp W base ok g rs) (i : Nat) (hi : i < rs.length) :
    Calls Try.prog 16 #[.pointer (some ⟨g, 0, none⟩), .int .i64 i] W fun e w' => ∃ cs, e = .returned (.tuple #[.agg cs.toArray, .bool true]) ∧ kRq.M w' base ok rs[i] cs ∧ Pi.Pp w' base ok g (rs.eraseIdx i) ∧ W.grownBy w' (some g) := by
  have HP := Aside0.mk h
  have hc := h.cell
  obtain ⟨zs, h1, h2, h3, h4, h5, h6⟩ := h.out
  obtain ⟨r, HRI⟩ : ∃ r, Aside0 (rs[i] = r) := ⟨_, ⟨rfl⟩⟩
  obtain ⟨fl, kd, ck, off, len, data⟩ := r
  obtain ⟨v, hv, hR⟩ : ∃ v, (zs.drop (i * 6)).take 6 = Pi.rqc fl kd ck off len v ∧ Kd.R (Kd.int .u8) 5 W base ok v data := by
    have hM := h6.2 i rs[i] (List.getElem?_eq_getElem hi)
    rw [List.drop_take, List.take_take, Nat.min_eq_left (by omega), HRI.out] at hM
    exact Pi.rq_Mc hM
  obtain ⟨A, c, rfl⟩ := Kd.R_slice hR
  obtain ⟨n, HN⟩ : ∃ n, Aside0 (data.length = n) := ⟨_, ⟨rfl⟩⟩
  obtain ⟨m, HM⟩ : ∃ n, Aside0 (rs.length = n) := ⟨_, ⟨rfl⟩⟩
  rw [HRI.out]
  rw [HN.out] at hv hR
  rw [HM.out] at hc h4 h5 h6 hi
  have HZ := Aside0.mk h1
  have HZB := Aside0.mk (show base ≤ g ∧ zs.length = 97 from ⟨h2, h3⟩)
  have HZR := Aside0.mk h6
  have HV := Aside0.mk hv
  have HRR := Aside0.mk hR
  have HSZ := Aside0.mk Pi.size33
  have hiI : (i : Int) < m := by omega
  have hi16 : (i : Int) < 16 := by omega
  have hm16 : (m : Int) ≤ 16 := by omega
  have hcz : zs[96]? = some (.int .i64 m) := h5
  have HC := Aside0.mk hcz
  clear h h1 h2 h3 h5 h6 hv hR hcz
  go_enter Try.func16, Try.ntmps16
  have hc1 : (W.alloc (.cells #[.int .u16 0, .int .u16 0, .int .u64 0, .int .u64 0, .int .u32 0, .slice none 0 0] 33)).cell? ⟨g, 96, none⟩ = some (.int .i64 m) := by rw [World.cell?_alloc_lt _ _ _ HP.out.lt]; exact hc
  have HX := Aside0.mk (Wk.Blk.new W 33 Pi.zrq)
  have HZ1 := Aside0.mk (HZ.out.alloc (.cells #[.int .u16 0, .int .u16 0, .int .u64 0, .int .u64 0, .int .u32 0, .slice none 0 0] 33))
  clear hc
  go_wp2_with (first
    | refine Wk.load rfl 33 (.tmp 22) rfl (.agg (Pi.rqc fl kd ck off len (.slice A n c)).toArray) (.pointer (some ⟨g, i * 6, none⟩)) rfl (Wk.run_load_blk 33 g (i * 6) _ _ HZ1.out HV.out Try.underlying33 rfl HSZ.out) ?_
    | (refine Wk.store_all rfl rfl 33 (.tmp 6) (.tmp 23) rfl (W.heap.size + 1) (Pi.rqc fl kd ck off len (.slice A n c)) rfl rfl 33 Pi.zrq ⟨heap_alloc2_new W _ _⟩ HSZ.out rfl rfl ?_; intro w3 hX hO; have HY3 := Aside0.mk hX; have HO3 := Aside0.mk hO; clear hX hO))
  have HB3 : Aside0 (Below W.heap.size W w3) := ⟨Wk.Only.below (((Below.refl _ _).alloc (Nat.le_refl _) _).alloc (by simp) _) HO3.out (Nat.le_succ _)⟩
  have HX3 : Aside0 (Wk.Blk w3 W.heap.size 33 Pi.zrq) := ⟨(HX.out.alloc _).only HO3.out (Nat.ne_of_lt (Nat.lt_succ_self _))⟩
  have HZ3 := Aside0.mk (HZ.out.below_ HB3.out)
  have HC3 := Aside0.mk (HZ3.out.at_ 96 HC.out)
  have HGL := Aside0.mk HZ3.out.lt
  clear hc1 HX HZ1 HO3
  obtain ⟨d1, hs1, hd1⟩ := Pi.slice_run g i m (i : Int) (m : Int) rfl rfl (by omega) h4
  obtain ⟨d2, hs2, hd2⟩ := Pi.slice_run g (i + 1) m ((i : Int) + 1) (m : Int) (by simp) rfl (by omega) h4
  obtain ⟨k1, hk1⟩ : ∃ k, 16 - i = k := ⟨_, rfl⟩
  obtain ⟨k2, hk2⟩ : ∃ k, 16 - (i + 1) = k := ⟨_, rfl⟩
  obtain ⟨q1, hq1⟩ : ∃ k, m - i = k := ⟨_, rfl⟩
  obtain ⟨q2, hq2⟩ : ∃ k, m - (i + 1) = k := ⟨_, rfl⟩
  rw [hk1, hq1] at hs1
  rw [hk2, hq2] at hs2
  have HQ : Aside0 (m - (i + 1) = q2 ∧ Nat.min q2 q1 = q2) := ⟨hq2, Nat.min_eq_left (by omega)⟩
  clear hk1 hk2 hq1 hq2
  have HD1 := Aside0.mk (hd1 (by omega))
  have HD2 := Aside0.mk hd2
  obtain ⟨seg, HSG⟩ : ∃ seg, Aside0 ((zs.drop ((i + 1) * 6)).take ((m - (i + 1)) * 6) = seg) := ⟨_, ⟨rfl⟩⟩
  have HSL : Aside0 (seg.length = (m - (i + 1)) * 6 ∧ i * 6 + seg.length ≤ zs.length ∧ (∀ u ∈ seg, u.oneCell' = true) ∧ i * 6 + seg.length = (m - 1) * 6) := ⟨by
    have hz := HZB.out.2
    have hl : seg.length = (m - (i + 1)) * 6 := by rw [← HSG.out, List.length_take, List.length_drop, hz]; omega
    have hone := Pi.reps_all HZR.out (by decide) (fun p c hp => kRq.K_one (kRq.K_of_M hp))
    refine ⟨hl, by omega, fun u hu => hone u ?_, by omega⟩
    rw [← HSG.out] at hu
    have e : (zs.drop ((i + 1) * 6)).take ((m - (i + 1)) * 6) = (zs.take (6 * m)).drop ((i + 1) * 6) := by
      rw [List.drop_take]; congr 1; omega
    rw [e] at hu
    exact List.mem_of_mem_drop hu⟩
  clear hd1 hd2
  have u1 := IntWalk.i64_in ((i : Int) + 1) (by omega)
  refine wp_region_noPanic ?_
  refine start_ (n := 20) (S := (fun w' => Below w3.heap.size w3 w')) (ds := [19]) #[false, false, false, false, false, false, false, false, false, false, false, false, false, false, false, false, false, false, false, false] (by kernel_rfl) rfl rfl (Below.refl _ _).drew (fun hHeld => ?_)
  refine pure_ (i := 0) (N := (some 24)) (v := ?_) (a' := ?_) #[true, false, false, false, false, false, false, false, false, false, false, false, false, false, false, false, false, false, false, false] rfl rfl (by kernel_rfl) (fun _ _ _ h => h) (Or.inl ⟨by rfl, ?_⟩) ?_ ?_
  rotate_left
  · intro w'
    go_simp
    with_reducible rfl
  rotate_left
  · simp only [Act.put, List.setIfInBounds_toArray, List.set_cons_zero, List.set_cons_succ]
    rfl
  refine pure_ (i := 1) (N := (some 25)) (v := ?_) (a' := ?_) #[true, true, false, false, false, false, false, false, false, false, false, false, false, false, false, false, false, false, false, false] rfl rfl (by kernel_rfl) (fun _ _ _ h => h) (Or.inl ⟨by rfl, ?_⟩) ?_ ?_
  rotate_left
  · intro w'
    go_simp
    with_reducible rfl
  rotate_left
  · simp only [Act.put, List.setIfInBounds_toArray, List.set_cons_zero, List.set_cons_succ]
    rfl
  refine pure_ (i := 2) (N := (some 26)) (v := ?_) (a' := ?_) #[true, true, true, false, false, false, false, false, false, false, false, false, false, false, false, false, false, false, false, false] rfl rfl (by kernel_rfl) (fun _ _ _ h => h) (Or.inl ⟨by rfl, ?_⟩) ?_ ?_
  rotate_left
  · intro w'
    go_simp
    with_reducible rfl
  rotate_left
  · simp only [Act.put, List.setIfInBounds_toArray, List.set_cons_zero, List.set_cons_succ]
    rfl
  refine pure_ (i := 3) (N := (some 27)) (v := ?_) (a' := ?_) #[true, true, true, true, false, false, false, false, false, false, false, false, false, false, false, false, false, false, false, false] rfl rfl (by kernel_rfl) (fun _ _ _ h => h) (Or.inl ⟨by rfl, ?_⟩) ?_ ?_
  rotate_left
  · intro w'
    go_simp
    with_reducible rfl
  rotate_left
  · simp only [Act.put, List.setIfInBounds_toArray, List.set_cons_zero, List.set_cons_succ]
    rfl
  refine pure_ (i := 4) (N := (some 28)) (v := ?_) (a' := ?_) #[true, true, true, true, true, false, false, false, false, false, false, false, false, false, false, false, false, false, false, false] rfl rfl (by kernel_rfl) (fun _ _ _ h => h) (Or.inl ⟨by rfl, ?_⟩) ?_ ?_
  rotate_left
  · intro w'
    go_simp
    with_reducible rfl
  rotate_left
  · simp only [Act.put, List.setIfInBounds_toArray, List.set_cons_zero, List.set_cons_succ]
    rfl
  refine pure_ (i := 5) (N := (some 29)) (v := ?_) (a' := ?_) #[true, true, true, true, true, true, false, false, false, false, false, false, false, false, false, false, false, false, false, false] rfl rfl (by kernel_rfl) (fun _ _ _ h => h) (Or.inl ⟨by rfl, ?_⟩) ?_ ?_
  rotate_left
  · intro w'
    go_simp
    with_reducible rfl
  rotate_left
  · simp only [Act.put, List.setIfInBounds_toArray, List.set_cons_zero, List.set_cons_succ]
    rfl
  refine pure_ (i := 6) (N := (some 30)) (v := ?_) (a' := ?_) #[true, true, true, true, true, true, true, false, false, false, false, false, false, false, false, false, false, false, false, false] rfl rfl (by kernel_rfl) (fun _ _ _ h => h) (Or.inl ⟨by rfl, ?_⟩) ?_ ?_
  rotate_left
  · intro w'
    go_simp
    with_reducible rfl
  rotate_left
  · simp only [Act.put, List.setIfInBounds_toArray, List.set_cons_zero, List.set_cons_succ]
    rfl
  refine take_ (i := 7) (N := (some 31)) (v := ?_) (a' := ?_) #[true, true, true, true, true, true, true, true, false, false, false, false, false, false, false, false, false, false, false, false] rfl rfl (by kernel_rfl) (fun _ _ _ h => h) (Or.inl ⟨by rfl, ?_⟩) hHeld ?_ ?_
  rotate_left
  · intro w' hS'
    (have c1 := (hS'.cell (p := ⟨g, 96, none⟩) HGL.out).trans HC3.out; go_simp)
    with_reducible rfl
  rotate_left
  · simp only [Act.put, List.setIfInBounds_toArray, List.set_cons_zero, List.set_cons_succ]
    rfl
  refine pure_ (i := 8) (N := (some 32)) (v := ?_) (a' := ?_) #[true, true, true, true, true, true, true, true, true, false, false, false, false, false, false, false, false, false, false, false] rfl rfl (by kernel_rfl) (fun _ _ _ h => h) (Or.inl ⟨by rfl, ?_⟩) ?_ ?_
  rotate_left
  · intro w'
    go_simp
    with_reducible rfl
  rotate_left
  · simp only [Act.put, List.setIfInBounds_toArray, List.set_cons_zero, List.set_cons_succ]
    rfl
  refine pure_ (i := 9) (N := (some 33)) (v := ?_) (a' := ?_) #[true, true, true, true, true, true, true, true, true, true, false, false, false, false, false, false, false, false, false, false] rfl rfl (by kernel_rfl) (fun _ _ _ h => h) (Or.inl ⟨by rfl, ?_⟩) ?_ ?_
  rotate_left
  · intro w'
    go_simp
    with_reducible rfl
  rotate_left
  · simp only [Act.put, List.setIfInBounds_toArray, List.set_cons_zero, List.set_cons_succ]
    rfl
  refine pure_ (i := 10) (N := (some 34)) (v := ?_) (a' := ?_) #[true, true, true, true, true, true, true, true, true, true, true, false, false, false, false, false, false, false, false, false] rfl rfl (by kernel_rfl) (fun _ _ _ h => h) (Or.inl ⟨by rfl, ?_⟩) ?_ ?_
  rotate_left
  · intro w'
    go_simp
    with_reducible rfl
  rotate_left
  · simp only [Act.put, List.setIfInBounds_toArray, List.set_cons_zero, List.set_cons_succ]
    rfl
  refine pure_ (i := 11) (N := (some 35)) (v := ?_) (a' := ?_) #[true, true, true, true, true, true, true, true, true, true, true, true, false, false, false, false, false, false, false, false] rfl rfl (by kernel_rfl) (fun _ _ _ h => h) (Or.inl ⟨by rfl, ?_⟩) ?_ ?_
  rotate_left
  · intro w'
    go_simp
    with_reducible rfl
  rotate_left
  · simp only [Act.put, List.setIfInBounds_toArray, List.set_cons_zero, List.set_cons_succ]
    rfl
  refine pure_ (i := 12) (N := (some 36)) (v := ?_) (a' := ?_) #[true, true, true, true, true, true, true, true, true, true, true, true, true, false, false, false, false, false, false, false] rfl rfl (by kernel_rfl) (fun _ _ _ h => h) (Or.inl ⟨by rfl, ?_⟩) ?_ ?_
  rotate_left
  · intro w'
    go_simp
    with_reducible rfl
  rotate_left
  · simp only [Act.put, List.setIfInBounds_toArray, List.set_cons_zero, List.set_cons_succ]
    rfl
  refine pure_ (i := 13) (N := (some 37)) (v := ?_) (a' := ?_) #[true, true, true, true, true, true, true, true, true, true, true, true, true, true, false, false, false, false, false, false] rfl rfl (by kernel_rfl) (fun _ _ _ h => h) (Or.inl ⟨by rfl, ?_⟩) ?_ ?_
  rotate_left
  · intro w'
    go_simp
    with_reducible rfl
  rotate_left
  · simp only [Act.put, List.setIfInBounds_toArray, List.set_cons_zero, List.set_cons_succ]
    rfl
  refine pure_ (i := 14) (N := (some 38)) (v := ?_) (a' := ?_) #[true, true, true, true, true, true, true, true, true, true, true, true, true, true, true, false, false, false, false, false] rfl rfl (by kernel_rfl) (fun _ _ _ h => h) (Or.inl ⟨by rfl, ?_⟩) ?_ ?_
  rotate_left
  · intro w'
    go_simp
    with_reducible rfl
  rotate_left
  · simp only [Act.put, List.setIfInBounds_toArray, List.set_cons_zero, List.set_cons_succ]
    rfl
  refine pure_ (i := 15) (N := (some 39)) (v := ?_) (a' := ?_) #[true, true, true, true, true, true, true, true, true, true, true, true, true, true, true, true, false, false, false, false] rfl rfl (by kernel_rfl) (fun _ _ _ h => h) (Or.inl ⟨by rfl, ?_⟩) ?_ ?_
  rotate_left
  · intro w'
    go_simp
    with_reducible rfl
  rotate_left
  · simp only [Act.put, List.setIfInBounds_toArray, List.set_cons_zero, List.set_cons_succ]
    rfl
  refine pure_ (i := 16) (N := (some 40)) (v := ?_) (a' := ?_) #[true, true, true, true, true, true, true, true, true, true, true, true, true, true, true, true, true, false, false, false] rfl rfl (by kernel_rfl) (fun _ _ _ h => h) (Or.inl ⟨by rfl, ?_⟩) ?_ ?_
  rotate_left
  · intro w'
    go_simp
    with_reducible rfl
  rotate_left
  · simp only [Act.put, List.setIfInBounds_toArray, List.set_cons_zero, List.set_cons_succ]
    rfl
  refine take_ (i := 17) (N := (some 41)) (v := ?_) (a' := ?_) #[true, true, true, true, true, true, true, true, true, true, true, true, true, true, true, true, true, true, false, false] rfl rfl (by kernel_rfl) (fun _ _ _ h => h) (Or.inl ⟨by rfl, ?_⟩) hHeld ?_ ?_
  rotate_left
  · intro w' hS'
    (have c1 := (hS'.cell (p := ⟨g, 96, none⟩) HGL.out).trans HC3.out; go_simp)
    with_reducible rfl
  rotate_left
  · simp only [Act.put, List.setIfInBounds_toArray, List.set_cons_zero, List.set_cons_succ]
    rfl
  refine pure_ (i := 18) (N := (some 42)) (v := ?_) (a' := ?_) #[true, true, true, true, true, true, true, true, true, true, true, true, true, true, true, true, true, true, true, false] rfl rfl (by kernel_rfl) (fun _ _ _ h => h) (Or.inl ⟨by rfl, ?_⟩) ?_ ?_
  rotate_left
  · intro w'
    go_simp
    with_reducible rfl
  rotate_left
  · simp only [Act.put, List.setIfInBounds_toArray, List.set_cons_zero, List.set_cons_succ]
    rfl
  refine last_ (i := 19) (N := (some 43)) #[true, true, true, true, true, true, true, true, true, true, true, true, true, true, true, true, true, true, true, true] rfl rfl (by kernel_rfl) (by decide) (fun K hK => ?_)
  have hcr := Pi.copy_run (W := w3.drew) HZ3.out.drew 3 d1 d2 q2 (i * 6) ((i + 1) * 6) q1 k1 q2 k2 seg HQ.out.2 HD1.out (fun h => HD2.out (by have := HQ.out.1; omega)) (by rw [← HQ.out.1]; exact HSG.out) (by rw [← HQ.out.1]; exact HSL.out.1) (by rw [← HQ.out.1, ← HSL.out.1]; exact HSL.out.2.1) HSL.out.2.2.1
  refine value_ (w1 := w3.drew.setCells g (i * 6) seg) (v := .int .i64 (q2 : Int)) (by rfl) rfl (by simp [execOp, resolve, invoke, builtin, Act.eval, hcr, Result.andThen]) ?_
  clear hcr
  refine hK.out _ _ ?_
  clear hK K
  refine norm_ (a' := ?_) ?_ ?_
  rotate_left
  · show Act.put _ (some 43) _ = _
    simp only [Act.put, List.setIfInBounds_toArray, List.set_cons_zero, List.set_cons_succ]
    rfl
  refine done_ (by kernel_rfl) ?_
  clear u1 hs1 hs2
  have HO4 : Aside0 (Wk.Only w3 (w3.drew.setCells g (i * 6) seg) g) := ⟨by
    have := Wk.only_setCells w3.drew g (i * 6) seg
    exact ⟨this.os, this.tape, this.output, this.size, this.block⟩⟩
  have HZ4 : Aside0 (Wk.Blk (w3.drew.setCells g (i * 6) seg) g 49 (Wk.over zs (i * 6) seg)) := ⟨Wk.blk_setCells HZ3.out.drew (i * 6) seg HSL.out.2.1⟩
  generalize World.setCells w3.drew _ _ _ = w4 at *
  obtain ⟨z4, HZE4⟩ : ∃ z, Aside0 (Wk.over zs (i * 6) seg = z) := ⟨_, ⟨rfl⟩⟩
  rw [HZE4.out] at HZ4
  have HL4 : Aside0 (z4.length = 97 ∧ z4[96]? = some (.int .i64 m) ∧ 96 + 1 ≤ z4.length) := ⟨by
    have h1 : z4.length = 97 := by rw [← HZE4.out, Pi.over_len _ _ _ HSL.out.2.1]; exact HZB.out.2
    exact ⟨h1, by rw [← HZE4.out, Pi.over_hi _ _ _ HSL.out.2.1 96 (by have := HSL.out.2.2.2; omega)]; exact HC.out, by omega⟩⟩
  have hc4 : w4.cell? ⟨g, 96, none⟩ = some (.int .i64 m) := HZ4.out.at_ 96 HL4.out.2.1
  have HS3 := Aside0.mk Pi.size3
  have hm0 : (0 : Int) ≤ (m : Int) - 1 := by omega
  have HNE : Aside0 (W.heap.size ≠ g ∧ W.heap.size + 1 ≠ g) := ⟨by have := HP.out.lt; omega⟩
  have HX4 := Aside0.mk (HX3.out.only HO4.out HNE.out.1)
  have HY4 := Aside0.mk (HY3.out.only HO4.out HNE.out.2)
  refine NoPanic.normal ?_
  go_wp2_with (refine Wk.store rfl rfl 3 (.tmp 50) (.tmp 48) rfl g 96 (.int .i64 ((m : Int) - 1)) [.int .i64 ((m : Int) - 1)] rfl rfl rfl 49 _ HZ4.out HS3.out HL4.out.2.2 rfl ?_; intro w5 hX hO; have HZ5 := Aside0.mk hX; have HO5 := Aside0.mk hO; clear hX hO)
  obtain ⟨z5, HZE5⟩ : ∃ z, Aside0 (Wk.over z4 96 [.int .i64 ((m : Int) - 1)] = z) := ⟨_, ⟨rfl⟩⟩
  rw [HZE5.out] at HZ5
  have HL5 : Aside0 (z5.length = 97 ∧ z5[96]? = some (.int .i64 ((m : Int) - 1)) ∧ (m - 1) * 6 + 6 ≤ z5.length) := ⟨by
    have h1 : z5.length = 97 := by rw [← HZE5.out, Pi.over_len _ _ _ HL4.out.2.2]; exact HL4.out.1
    exact ⟨h1, by rw [← HZE5.out]; exact Pi.over_at _ _ _ (by have := HL4.out.1; omega), by omega⟩⟩
  have HC5 := Aside0.mk (HZ5.out.at_ 96 HL5.out.2.1)
  have HX5 := Aside0.mk (HX4.out.only HO5.out HNE.out.1)
  have HY5 := Aside0.mk (HY4.out.only HO5.out HNE.out.2)
  have HG5 := Aside0.mk HZ5.out.lt
  clear hc4
  obtain ⟨m1, HM1⟩ : ∃ m1 : Nat, Aside0 ((m : Int) - 1 = m1 ∧ m1 + 1 = m ∧ m1 < 16) := ⟨m - 1, ⟨by omega, by omega, by omega⟩⟩
  rw [HM1.out.1] at HC5 ⊢
  have hm1 : (m1 : Int) < 16 := by have := HM1.out.2.2; omega
  refine wp_region_noPanic ?_
  refine start_ (n := 10) (S := (fun w' => Below w5.heap.size w5 w')) (ds := [9]) #[false, false, false, false, false, false, false, false, false, false] (by kernel_rfl) rfl rfl (Below.refl _ _).drew (fun hHeld => ?_)
  refine pure_ (i := 0) (N := (some 51)) (v := ?_) (a' := ?_) #[true, false, false, false, false, false, false, false, false, false] rfl rfl (by kernel_rfl) (fun _ _ _ h => h) (Or.inl ⟨by rfl, ?_⟩) ?_ ?_
  rotate_left
  · intro w'
    go_simp
    with_reducible rfl
  rotate_left
  · simp only [Act.put, List.setIfInBounds_toArray, List.set_cons_zero, List.set_cons_succ]
    rfl
  refine pure_ (i := 1) (N := (some 52)) (v := ?_) (a' := ?_) #[true, true, false, false, false, false, false, false, false, false] rfl rfl (by kernel_rfl) (fun _ _ _ h => h) (Or.inl ⟨by rfl, ?_⟩) ?_ ?_
  rotate_left
  · intro w'
    go_simp
    with_reducible rfl
  rotate_left
  · simp only [Act.put, List.setIfInBounds_toArray, List.set_cons_zero, List.set_cons_succ]
    rfl
  refine pure_ (i := 2) (N := (some 53)) (v := ?_) (a' := ?_) #[true, true, true, false, false, false, false, false, false, false] rfl rfl (by kernel_rfl) (fun _ _ _ h => h) (Or.inl ⟨by rfl, ?_⟩) ?_ ?_
  rotate_left
  · intro w'
    go_simp
    with_reducible rfl
  rotate_left
  · simp only [Act.put, List.setIfInBounds_toArray, List.set_cons_zero, List.set_cons_succ]
    rfl
  refine pure_ (i := 3) (N := (some 54)) (v := ?_) (a' := ?_) #[true, true, true, true, false, false, false, false, false, false] rfl rfl (by kernel_rfl) (fun _ _ _ h => h) (Or.inl ⟨by rfl, ?_⟩) ?_ ?_
  rotate_left
  · intro w'
    go_simp
    with_reducible rfl
  rotate_left
  · simp only [Act.put, List.setIfInBounds_toArray, List.set_cons_zero, List.set_cons_succ]
    rfl
  refine take_ (i := 4) (N := (some 55)) (v := ?_) (a' := ?_) #[true, true, true, true, true, false, false, false, false, false] rfl rfl (by kernel_rfl) (fun _ _ _ h => h) (Or.inl ⟨by rfl, ?_⟩) hHeld ?_ ?_
  rotate_left
  · intro w' hS'
    (have c1 := (hS'.cell (p := ⟨g, 96, none⟩) HG5.out).trans HC5.out; go_simp)
    with_reducible rfl
  rotate_left
  · simp only [Act.put, List.setIfInBounds_toArray, List.set_cons_zero, List.set_cons_succ]
    rfl
  refine pure_ (i := 5) (N := (some 56)) (v := ?_) (a' := ?_) #[true, true, true, true, true, true, false, false, false, false] rfl rfl (by kernel_rfl) (fun _ _ _ h => h) (Or.inl ⟨by rfl, ?_⟩) ?_ ?_
  rotate_left
  · intro w'
    go_simp
    with_reducible rfl
  rotate_left
  · simp only [Act.put, List.setIfInBounds_toArray, List.set_cons_zero, List.set_cons_succ]
    rfl
  refine pure_ (i := 6) (N := (some 57)) (v := ?_) (a' := ?_) #[true, true, true, true, true, true, true, false, false, false] rfl rfl (by kernel_rfl) (fun _ _ _ h => h) (Or.inl ⟨by rfl, ?_⟩) ?_ ?_
  rotate_left
  · intro w'
    go_simp
    with_reducible rfl
  rotate_left
  · simp only [Act.put, List.setIfInBounds_toArray, List.set_cons_zero, List.set_cons_succ]
    rfl
  refine pure_ (i := 7) (N := (some 58)) (v := ?_) (a' := ?_) #[true, true, true, true, true, true, true, true, false, false] rfl rfl (by kernel_rfl) (fun _ _ _ h => h) (Or.inl ⟨by rfl, ?_⟩) ?_ ?_
  rotate_left
  · intro w'
    go_simp
    with_reducible rfl
  rotate_left
  · simp only [Act.put, List.setIfInBounds_toArray, List.set_cons_zero, List.set_cons_succ]
    rfl
  refine pure_ (i := 8) (N := (some 59)) (v := ?_) (a' := ?_) #[true, true, true, true, true, true, true, true, true, false] rfl rfl (by kernel_rfl) (fun _ _ _ h => h) (Or.inl ⟨by rfl, ?_⟩) ?_ ?_
  rotate_left
  · intro w'
    go_simp
    with_reducible rfl
  rotate_left
  · simp only [Act.put, List.setIfInBounds_toArray, List.set_cons_zero, List.set_cons_succ]
    rfl
  refine last_ (i := 9) (N := none) #[true, true, true, true, true, true, true, true, true, true] rfl rfl (by kernel_rfl) (by decide) (fun K hK => ?_)
  refine Wk.store_step (by rfl) rfl 33 (.tmp 59) (.tmp 56) rfl g (m1 * 6) (.agg Pi.zrq.toArray) Pi.zrq rfl rfl rfl 49 z5 HZ5.out.drew HSZ.out (by have := HM1.out; have := HL5.out.1; rw [show Pi.zrq.length = 6 from rfl]; omega) rfl ?_
  intro w6 hX6 hO6
  have HZ6 := Aside0.mk hX6
  have HO6 : Aside0 (Wk.Only w5 w6 g) := ⟨⟨hO6.os, hO6.tape, hO6.output, hO6.size, hO6.block⟩⟩
  clear hX6 hO6
  refine hK.out _ _ ?_
  clear hK K
  refine done_ (by kernel_rfl) ?_
  have HX6 := Aside0.mk (HX5.out.only HO6.out HNE.out.1)
  have HY6 := Aside0.mk (HY5.out.only HO6.out HNE.out.2)
  refine NoPanic.normal ?_
  go_wp2_with (first
    | refine Wk.load rfl 33 (.tmp 6) rfl (.agg (Pi.rqc fl kd ck off len (.slice A n c)).toArray) (.pointer (some ⟨W.heap.size + 1, 0, none⟩)) rfl (Wk.run_load_blk 33 (W.heap.size + 1) 0 _ _ HY6.out rfl Try.underlying33 rfl HSZ.out) ?_
    | (refine Wk.store_all rfl rfl 33 (.tmp 4) (.tmp 60) rfl W.heap.size (Pi.rqc fl kd ck off len (.slice A n c)) rfl rfl 33 Pi.zrq HX6.out HSZ.out rfl rfl ?_; intro w7 hX hO; have HX7 := Aside0.mk hX; have HO7 := Aside0.mk hO; clear hX hO))
  refine bodyPost_ret (Wk.res_ct rfl _ W.heap.size 33 _ _ rfl HX7.out Try.underlying33 rfl HSZ.out) rfl ?_
  have hne : ∀ q, q ∈ 5 :: (Kd.int .u8).E → q ≠ 49 := by decide
  have hne2 : ∀ q, q ∈ 5 :: (Kd.int .u8).E → q ≠ 33 := by decide
  have hne3 : ∀ q, q ∈ kRq.E → q ≠ 33 := by decide
  have hR := Wk.R_only (Wk.R_only (Wk.R_only (Wk.R_only (Kd.R_below HRR.out HB3.out) HZ3.out hne HO4.out) HZ4.out hne HO5.out) HZ5.out hne HO6.out) HX6.out hne2 HO7.out
  have hstep : ∀ x c, kRq.M W base ok x c → kRq.M w7 base ok x c := fun x c hM =>
    kRq.M_mono (fun _ hk => hk.1) (Kd.M_grown (Kd.M_types (Pi.M_only (Pi.M_only (Pi.M_only (Kd.M_below hM HB3.out) HZ3.out HO4.out) HZ4.out HO5.out) HZ5.out HO6.out) HX6.out.out hne3) HO7.out.grown (fun k hk he => hk.2 (by injection he)))
  have hm := HM1.out
  have h5 := HL5.out
  have h4' := HL4.out
  have hsl := HSL.out
  have hzl := HZB.out.2
  have hg6 : W.grownBy w6 (some g) := World.grownBy.trans (grown_of_below HB3.out _) (World.grownBy.trans HO4.out.grown (World.grownBy.trans HO5.out.grown HO6.out.grown))
  have hel : (rs.eraseIdx i).length = m1 := by rw [List.length_eraseIdx_of_lt (by rw [HM.out]; exact hi), HM.out]; omega
  refine ⟨_, rfl, Pi.rq_M hR, ⟨_, HZ6.out.only HO7.out (Ne.symm HNE.out.1), HZB.out.1, ?_, by omega, ?_, ?_⟩, ⟨HO7.out.os.trans hg6.os, HO7.out.tape.trans hg6.tape, HO7.out.output.trans hg6.output, by rw [HO7.out.size]; exact hg6.size, fun k hk hkn => (HO7.out.block k (by omega)).trans (hg6.block k hk hkn)⟩⟩
  · rw [Pi.over_len _ _ _ (by rw [show Pi.zrq.length = 6 from rfl]; omega)]; exact h5.1
  · rw [Pi.over_hi _ _ _ (by rw [show Pi.zrq.length = 6 from rfl]; omega) 96 (by rw [show Pi.zrq.length = 6 from rfl]; omega), h5.2.1, hel, hm.1]
  · have e : (Wk.over z5 (m1 * 6) Pi.zrq).take (6 * (rs.eraseIdx i).length) = zs.take (i * 6) ++ seg := by
      rw [hel, Pi.over_take _ _ _ _ (by omega) (by omega), ← HZE5.out, Pi.over_take _ _ _ _ (by omega) (by omega), ← HZE4.out]
      have := Pi.over_upto zs (i * 6) seg (by omega)
      rw [hsl.2.2.2] at this
      rw [show 6 * m1 = (m - 1) * 6 by omega, this]
    rw [e, List.eraseIdx_eq_take_drop_succ]
    have hr := HZR.out
    have r1 := Kd.reps_take (m := i) hr (by rw [HM.out]; omega)
    have r2 := Kd.reps_drop (m := i + 1) hr
    rw [List.take_take, Nat.min_eq_left (by omega)] at r1
    have e2 : (zs.take (6 * m)).drop ((i + 1) * 6) = seg := by
      rw [List.drop_take, ← HSG.out]
      congr 1
      omega
    rw [e2] at r2
    exact (Kd.reps_append r1 r2).imp_ hstep
#print axioms take_yes
end Go.Proofs.Ytikogcdakdndnaa
