/- The reference's Add, its blocks told by ok. -/
import Derived.Test.YtikogcdakdndnaaPipeV
import Derived.Test.YtikogcdakdndnaaPipeO
set_option linter.unusedVariables false
set_option linter.unusedSimpArgs false
namespace Go.Proofs.Ytikogcdakdndnaa
open Go.RowKit Go.Proofs.YtikogcdakdndnaaW.PrintWords Go.Proofs.YtikogcdakdndnaaW.PrintLast Go.Proofs.YtikogcdakdndnaaW.PrintMore
set_option maxHeartbeats 1000000 in
set_option maxRecDepth 100000 in
theorem radd2_.calls {W : World} {base : Nat} {ok : Nat → Prop} {g : Nat} {rs : List Rq} {r : Rq} {cs : List Value} (h : Pi.Rf W base ok g rs) (hr : kRq.K W r cs) (hl : r.2.2.2.2.2.length < 140737488355328) (hb : base ≤ W.heap.size) (hok : ∀ k, W.heap.size ≤ k → ok k) :
    Calls Try.prog 11 #[.pointer (some ⟨g, 0, none⟩), .agg cs.toArray] W fun e w' => e = .returned (.bool (decide (rs.length < 16))) ∧ Pi.Rf w' base ok g (if rs.length < 16 then rs ++ [r] else rs) ∧ Pi.Ty W w' base [33, 51] := by
  obtain ⟨A, c, rfl, hlc, hC⟩ := rq_cells hr
  obtain ⟨fl, kd, ck, off, len, data⟩ := r
  have HP := Aside0.mk h
  have HR := Aside0.mk hr
  have HL := Aside0.mk hl
  have HBS := Aside0.mk hb
  have HOK := Aside0.mk hok
  show Calls _ _ #[.pointer (some ⟨g, 0, none⟩), .agg #[.int .u16 fl, .int .u16 kd, .int .u64 ck, .int .u64 off, .int .u32 len, .slice A data.length c]] _ _
  obtain ⟨n, HN⟩ : ∃ n, Aside0 (data.length = n) := ⟨_, ⟨rfl⟩⟩
  obtain ⟨m, HM⟩ : ∃ n, Aside0 (rs.length = n) := ⟨_, ⟨rfl⟩⟩
  have hm16 : m ≤ 16 := by rw [← HM.out]; exact h.le
  rw [HN.out, HM.out]
  clear h hr hl hb hC hlc hok
  go_enter Try.func11, Try.ntmps11
  go_wp2_with fail
  generalize hWq : World.alloc W _ = W1
  have HB1 : Aside0 (Below W.heap.size W W1) := ⟨by rw [← hWq]; exact below_alloc (Below.refl _ _) _⟩
  have HX1 : Aside0 (Wk.Blk W1 W.heap.size 33 (Pi.rqc fl kd ck off len (.slice A n c))) := ⟨by rw [← hWq]; exact Wk.Blk.new W _ (Pi.rqc fl kd ck off len (.slice A n c))⟩
  clear hWq
  have HP1 := Aside0.mk (HP.out.below HB1.out)
  refine (rfull_.calls HP1.out).mono ?_
  rintro e w' ⟨rfl, rfl⟩
  rw [HM.out]
  by_cases h16 : m = 16
  · subst h16
    rw [decide_eq_true (rfl : 16 = 16)]
    go_wp2_with fail
    go_ret
    exact ⟨by simp, by simpa using HP1.out, ⟨HB1.out.mono HBS.out, fun k cs t hk _ => HB1.out.block k (Array.getElem?_eq_some_iff.1 hk).1⟩⟩
  · have hlt : m < 16 := by omega
    rw [decide_eq_false h16]
    have HSZ := Aside0.mk Pi.size33
    obtain ⟨A1, c1, z1, z2, z3, z4, z5⟩ := HP1.out.cell
    rw [HM.out] at z1 z2 z4 z5
    have HZ1 := Aside0.mk z1
    have HZ4 := Aside0.mk z4
    have HZ5 := Aside0.mk z5
    have HGL := Aside0.mk z4.lt
    have HS22 := Aside0.mk Pi.size22
    have HLM : Aside0 ((rs.length + 1) * 56 ≤ 140737488355328) := ⟨by rw [HM.out]; omega⟩
    clear z1 z2 z3 z4 z5
    go_wp2_with fail
    refine wp_region_noPanic ?_
    refine start_ (n := 12) (S := (fun w' => Below W1.heap.size W1 w')) (ds := [8, 11]) #[false, false, false, false, false, false, false, false, false, false, false, false] (by kernel_rfl) rfl rfl (Below.refl _ _).drew (fun hHeld => ?_)
    refine pure_ (i := 0) (N := (some 9)) (v := ?_) (a' := ?_) #[true, false, false, false, false, false, false, false, false, false, false, false] rfl rfl (by kernel_rfl) (fun _ _ _ h => h) (Or.inl ⟨by rfl, ?_⟩) ?_ ?_
    rotate_left
    · intro w'
      go_simp
      with_reducible rfl
    rotate_left
    · simp only [Act.put, List.setIfInBounds_toArray, List.set_cons_zero, List.set_cons_succ]
      rfl
    refine pure_ (i := 1) (N := (some 10)) (v := ?_) (a' := ?_) #[true, true, false, false, false, false, false, false, false, false, false, false] rfl rfl (by kernel_rfl) (fun _ _ _ h => h) (Or.inl ⟨by rfl, ?_⟩) ?_ ?_
    rotate_left
    · intro w'
      go_simp
      with_reducible rfl
    rotate_left
    · simp only [Act.put, List.setIfInBounds_toArray, List.set_cons_zero, List.set_cons_succ]
      rfl
    refine pure_ (i := 2) (N := (some 11)) (v := ?_) (a' := ?_) #[true, true, true, false, false, false, false, false, false, false, false, false] rfl rfl (by kernel_rfl) (fun _ _ _ h => h) (Or.inl ⟨by rfl, ?_⟩) ?_ ?_
    rotate_left
    · intro w'
      go_simp
      with_reducible rfl
    rotate_left
    · simp only [Act.put, List.setIfInBounds_toArray, List.set_cons_zero, List.set_cons_succ]
      rfl
    refine pure_ (i := 3) (N := (some 12)) (v := ?_) (a' := ?_) #[true, true, true, true, false, false, false, false, false, false, false, false] rfl rfl (by kernel_rfl) (fun _ _ _ h => h) (Or.inl ⟨by rfl, ?_⟩) ?_ ?_
    rotate_left
    · intro w'
      go_simp
      with_reducible rfl
    rotate_left
    · simp only [Act.put, List.setIfInBounds_toArray, List.set_cons_zero, List.set_cons_succ]
      rfl
    refine take_ (i := 4) (N := (some 13)) (v := ?_) (a' := ?_) #[true, true, true, true, true, false, false, false, false, false, false, false] rfl rfl (by kernel_rfl) (fun _ _ _ h => h) (Or.inl ⟨by rfl, ?_⟩) hHeld ?_ ?_
    rotate_left
    · intro w' hS'
      (have c1 := (hS'.cell (p := ⟨g, 0, none⟩) HGL.out).trans HZ1.out; go_simp)
      with_reducible rfl
    rotate_left
    · simp only [Act.put, List.setIfInBounds_toArray, List.set_cons_zero, List.set_cons_succ]
      rfl
    refine take_ (i := 5) (N := (some 14)) (v := ?_) (a' := ?_) #[true, true, true, true, true, true, false, false, false, false, false, false] rfl rfl (by kernel_rfl) (fun _ _ _ h => h) (Or.inl ⟨by rfl, ?_⟩) hHeld ?_ ?_
    rotate_left
    · intro w' hS'
      (have hl := Wk.run_load_blk (P := Try.prog) 33 W.heap.size 0 (Pi.rqc fl kd ck off len (.slice A n c)) _ (HX1.out.below_ hS') rfl Try.underlying33 rfl HSZ.out; refine (Wk.exec_load 33 (.tmp 3) rfl _ _ rfl hl).trans ?_)
      with_reducible rfl
    rotate_left
    · simp only [Act.put, List.setIfInBounds_toArray, List.set_cons_zero, List.set_cons_succ]
      rfl
    refine one_ (i := 6) (N := (some 15)) #[true, true, true, true, true, true, true, false, false, false, false, false] rfl rfl (by kernel_rfl) (by decide) (fun K hK => ?_)
    refine call_ 26 #[.agg (Pi.rqc fl kd ck off len (.slice A n c)).toArray] (by rfl) rfl (by go_simp) ?_
    have hK : kRq.K W1.drew (fl, kd, ck, off, len, data) (Pi.rqc fl kd ck off len (.slice A n c)) := by
      have := kRq.K_below (w1 := W1.drew) (below_drew HB1.out) HR.out
      rw [← HN.out]
      exact this
    refine (rlent_.calls hK HL.out).mono ?_
    rintro e w2 ⟨cs2, rfl, hM, hb2⟩
    obtain ⟨v2, rfl, hR2⟩ := Pi.rq_Mc hM
    obtain ⟨A2, c2, rfl⟩ := Kd.R_slice hR2
    rw [show ((fl, kd, ck, off, len, data) : Rq).2.2.2.2.2 = data from rfl, HN.out] at hM ⊢
    have HM2 := Aside0.mk hM
    have HBD := Aside0.mk hb2
    have HB2 := Aside0.mk (below_then hHeld hHeld.size hb2)
    clear hM hb2 hK hR2
    unfold Pi.rqc
    refine ⟨_, rfl, ?_⟩
    refine hK.out _ _ HB2.out (fun hHeld => ?_)
    clear hK K
    refine norm_ (a' := ?_) ?_ ?_
    rotate_left
    · show Act.put _ (some 15) _ = _
      simp only [Act.put, List.setIfInBounds_toArray, List.set_cons_zero, List.set_cons_succ]
      rfl
    refine one_ (i := 7) (N := (some 16)) #[true, true, true, true, true, true, true, true, false, false, false, false] rfl rfl (by kernel_rfl) (by decide) (fun K hK => ?_)
    refine value_ (w1 := w2.alloc (.cells (Pi.rqc fl kd ck off len (.slice A2 n c2)).toArray 33)) (v := .slice (some ⟨w2.heap.size, 0, none⟩) 1 1) (by rfl) rfl (by go_simp; rfl) ?_
    refine hK.out _ _ (hHeld.alloc hHeld.size _) (fun hHeld => ?_)
    clear hK K
    refine norm_ (a' := ?_) ?_ ?_
    rotate_left
    · show Act.put _ (some 16) _ = _
      simp only [Act.put, List.setIfInBounds_toArray, List.set_cons_zero, List.set_cons_succ]
      rfl
    have HRO : Aside0 (kRq.R 33 w2 base ok (.slice A1 m c1) rs) := ⟨Kd.R_below HZ5.out HB2.out⟩
    have HBB : Aside0 (Below base W w2 ∧ base ≤ w2.heap.size) := ⟨(below_then HB1.out HB1.out.size HB2.out).mono HBS.out, Nat.le_trans HBS.out (Nat.le_trans HB1.out.size HB2.out.size)⟩
    have HMM : Aside0 (kRq.M w2 base (fun k => ok k ∧ some k ≠ (Value.slice A1 m c1).ownBlock) (fl, kd, ck, off, len, data) (Pi.rqc fl kd ck off len (.slice A2 n c2))) := ⟨by
    refine Pi.M_fresh HM2.out (Nat.le_trans HBS.out HB1.out.size) (fun k hk => ⟨HOK.out k (Nat.le_trans HB1.out.size hk), fun he => ?_⟩)
    have := Kd.R_lt HZ5.out k he.symm
    exact absurd (Nat.lt_of_lt_of_le this hk) (Nat.lt_irrefl _)⟩
    have HFRE : Aside0 (∀ k, w2.heap.size ≤ k → ok k) := ⟨fun k hk => HOK.out k (Nat.le_trans HB1.out.size (Nat.le_trans HB2.out.size hk))⟩
    refine last_ (i := 8) (N := (some 17)) #[true, true, true, true, true, true, true, true, true, false, false, false] rfl rfl (by kernel_rfl) (by decide) (fun K hK => ?_)
    refine Kd.R_append_step kRq (w0 := W) (W := w2) base (by rfl) (.tmp 13) (.tmp 16) 22 33 (.agg Pi.zrq.toArray) 56 rfl Try.underlying22 Pi.info33 rfl (by decide) (by omega) (.slice A1 m c1) rs (fl, kd, ck, off, len, data) (Pi.rqc fl kd ck off len (.slice A2 n c2)) ok (fun k => ok k ∧ some k ≠ (Value.slice A1 m c1).ownBlock) rfl rfl HMM.out (fun _ h => h) HFRE.out HRO.out HBB.out.1 HBB.out.2 HLM.out ?_
    intro v3 w3 hr3 hb3 hg3 _
    obtain ⟨A3, c3, rfl⟩ := Kd.R_slice hr3
    have HR3 := Aside0.mk hr3
    have HB3 := Aside0.mk hb3
    have HGW := Aside0.mk hg3
    have HG3 := Aside0.mk ((HZ4.out.below_ HB2.out).grown hg3 (Kd.R_ne HRO.out (HZ4.out.below_ HB2.out).out (by decide)))
    clear hr3 hb3 hg3
    refine hK.out _ _ ?_
    clear hK K
    refine norm_ (a' := ?_) ?_ ?_
    rotate_left
    · show Act.put _ (some 17) _ = _
      simp only [Act.put, List.setIfInBounds_toArray, List.set_cons_zero, List.set_cons_succ]
      rfl
    refine pure_ (i := 9) (N := (some 18)) (v := ?_) (a' := ?_) #[true, true, true, true, true, true, true, true, true, true, false, false] rfl rfl (by kernel_rfl) (fun _ _ _ h => h) (Or.inl ⟨by rfl, ?_⟩) ?_ ?_
    rotate_left
    · intro w'
      go_simp
      with_reducible rfl
    rotate_left
    · simp only [Act.put, List.setIfInBounds_toArray, List.set_cons_zero, List.set_cons_succ]
      rfl
    refine pure_ (i := 10) (N := (some 19)) (v := ?_) (a' := ?_) #[true, true, true, true, true, true, true, true, true, true, true, false] rfl rfl (by kernel_rfl) (fun _ _ _ h => h) (Or.inl ⟨by rfl, ?_⟩) ?_ ?_
    rotate_left
    · intro w'
      go_simp
      with_reducible rfl
    rotate_left
    · simp only [Act.put, List.setIfInBounds_toArray, List.set_cons_zero, List.set_cons_succ]
      rfl
    refine last_ (i := 11) (N := none) #[true, true, true, true, true, true, true, true, true, true, true, true] rfl rfl (by kernel_rfl) (by decide) (fun K hK => ?_)
    refine Wk.store_step (by rfl) rfl 22 (.tmp 19) (.tmp 17) rfl g 0 (.slice A3 (rs ++ [((fl, kd, ck, off, len, data) : Rq)]).length c3) [.slice A3 (rs ++ [((fl, kd, ck, off, len, data) : Rq)]).length c3] rfl rfl rfl 51 _ HG3.out HS22.out (Nat.le_refl 1) rfl ?_
    intro w4 hX4 hO4
    have HX4 := Aside0.mk (show Wk.Blk w4 g 51 [.slice A3 (rs ++ [((fl, kd, ck, off, len, data) : Rq)]).length c3] from hX4)
    have HO4 := Aside0.mk hO4
    clear hX4 hO4
    refine hK.out _ _ ?_
    clear hK K
    refine done_ (by kernel_rfl) ?_
    refine NoPanic.normal ?_
    go_wp2_with fail
    go_ret
    refine ⟨rfl, ⟨_, HX4.out, HP.out.base_, by rw [List.length_append, HM.out]; simp; omega, Wk.R_only HR3.out HG3.out Pi.kRq_ne HO4.out⟩, ⟨Wk.Only.below HB3.out HO4.out HP.out.base_, fun k cs t hk ht => ?_⟩⟩
    have hkl : k < W.heap.size := (Array.getElem?_eq_some_iff.1 hk).1
    have hW2 : w2.heap[k]? = W.heap[k]? := (below_then HB1.out HB1.out.size HB2.out).block k hkl
    have hk2 : k < w2.heap.size := Nat.lt_of_lt_of_le hkl (Nat.le_trans HB1.out.size HB2.out.size)
    have hne1 : some k ≠ (Value.slice A1 m c1).ownBlock := fun he => by
      obtain ⟨cells, hc⟩ := Kd.R_typed HRO.out k he.symm
      rw [hW2, hk] at hc
      injection hc with hc
      injection hc with _ hc
      exact ht (by rw [hc]; simp)
    have hne2 : k ≠ g := fun he => by
      have hg1 := HP.out.cell
      obtain ⟨_, _, _, _, _, hb, _⟩ := hg1
      subst he
      have := hb.out
      rw [hk] at this
      injection this with this
      injection this with _ this
      exact ht (by rw [this]; simp)
    exact (HO4.out.block k hne2).trans ((HGW.out.block k hk2 hne1).trans hW2)
#print axioms radd2_.calls
end Go.Proofs.Ytikogcdakdndnaa
