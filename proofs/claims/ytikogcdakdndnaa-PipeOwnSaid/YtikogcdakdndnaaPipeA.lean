/- The walk of pipe.Add. -/
import Derived.Test.YtikogcdakdndnaaPipeW
set_option linter.unusedVariables false
set_option linter.unusedSimpArgs false
namespace Go.Proofs.Ytikogcdakdndnaa
open Go.RowKit Go.Proofs.YtikogcdakdndnaaW.PrintWords Go.Proofs.YtikogcdakdndnaaW.PrintLast Go.Proofs.YtikogcdakdndnaaW.PrintMore
set_option maxHeartbeats 1000000 in
set_option maxRecDepth 100000 in
theorem add_.calls {W : World} {base : Nat} {ok : Nat → Prop} {g : Nat} {rs : List Rq} {r : Rq} {cs : List Value} (h : Pi.Pp W base ok g rs) (hr : kRq.K W r cs) (hl : r.2.2.2.2.2.length < 140737488355328) (hb : base ≤ W.heap.size) (hok : ∀ k, W.heap.size ≤ k → ok k) :
    Calls Try.prog 10 #[.pointer (some ⟨g, 0, none⟩), .agg cs.toArray] W fun e w' => e = .returned (.bool (decide (rs.length < 16))) ∧ Pi.Pp w' base ok g (if rs.length < 16 then rs ++ [r] else rs) ∧ W.grownBy w' (some g) := by
  obtain ⟨A, c, rfl, hlc, hC⟩ := rq_cells hr
  obtain ⟨fl, kd, ck, off, len, data⟩ := r
  have HP := Aside0.mk h
  have HR := Aside0.mk hr
  have HL := Aside0.mk hl
  have HBS := Aside0.mk hb
  have HOK := Aside0.mk hok
  show Calls _ _ #[.pointer (some ⟨g, 0, none⟩), .agg #[.int .u16 fl, .int .u16 kd, .int .u64 ck, .int .u64 off, .int .u32 len, .slice A data.length c]] _ _
  obtain ⟨n, HN⟩ : ∃ n, Aside0 (data.length = n) := ⟨_, ⟨rfl⟩⟩
  obtain ⟨m, HM⟩ : ∃ n, Aside0 (rs.length = n) := ⟨_, ⟨rfl⟩⟩
  have hm16 : m ≤ 16 := by rw [← HM.out]; exact h.le
  rw [HN.out, HM.out]
  clear h hr hl hb hok hC hlc
  go_enter Try.func10, Try.ntmps10
  go_wp2_with fail
  generalize hWq : World.alloc W _ = W1
  have HB1 : Aside0 (Below W.heap.size W W1) := ⟨by rw [← hWq]; exact below_alloc (Below.refl _ _) _⟩
  have HX1 : Aside0 (Wk.Blk W1 W.heap.size 33 (Pi.rqc fl kd ck off len (.slice A n c))) := ⟨by rw [← hWq]; exact Wk.Blk.new W _ (Pi.rqc fl kd ck off len (.slice A n c))⟩
  clear hWq
  have HP1 := Aside0.mk (HP.out.below HB1.out)
  refine (full_.calls HP1.out).mono ?_
  rintro e w' ⟨rfl, rfl⟩
  rw [HM.out]
  by_cases h16 : m = 16
  · subst h16
    rw [decide_eq_true (rfl : 16 = 16)]
    go_wp2_with fail
    go_ret
    exact ⟨by simp, by simpa using HP1.out, grown_of_below HB1.out _⟩
  · have hlt : m < 16 := by omega
    have hltI : (m : Int) < 16 := by omega
    rw [decide_eq_false h16]
    have HSZ := Aside0.mk Pi.size33
    have hgl := HP1.out.lt
    have HGL := Aside0.mk hgl
    have hxl := HX1.out.lt
    have HXL := Aside0.mk hxl
    obtain ⟨zs, z1, z2, z3, z4, z5, z6⟩ := HP1.out.out
    rw [HM.out] at z5 z6
    have HZ1 := Aside0.mk z1
    have HZ5 := Aside0.mk (z1.at_ 96 z5)
    have HZ6 := Aside0.mk z6
    have HZR := Aside0.mk (show base ≤ g ∧ zs.length = 97 from ⟨z2, z3⟩)
    clear z1 z2 z3 z4 z5 z6 hgl hxl
    go_wp2_with fail
    refine wp_region_noPanic ?_
    refine start_ (n := 11) (S := (fun w' => Below W1.heap.size W1 w')) (ds := [10]) #[false, false, false, false, false, false, false, false, false, false, false] (by kernel_rfl) rfl rfl (Below.refl _ _).drew (fun hHeld => ?_)
    refine pure_ (i := 0) (N := (some 7)) (v := ?_) (a' := ?_) #[true, false, false, false, false, false, false, false, false, false, false] rfl rfl (by kernel_rfl) (fun _ _ _ h => h) (Or.inl ⟨by rfl, ?_⟩) ?_ ?_
    rotate_left
    · intro w'
      go_simp
      with_reducible rfl
    rotate_left
    · simp only [Act.put, List.setIfInBounds_toArray, List.set_cons_zero, List.set_cons_succ]
      rfl
    refine pure_ (i := 1) (N := (some 8)) (v := ?_) (a' := ?_) #[true, true, false, false, false, false, false, false, false, false, false] rfl rfl (by kernel_rfl) (fun _ _ _ h => h) (Or.inl ⟨by rfl, ?_⟩) ?_ ?_
    rotate_left
    · intro w'
      go_simp
      with_reducible rfl
    rotate_left
    · simp only [Act.put, List.setIfInBounds_toArray, List.set_cons_zero, List.set_cons_succ]
      rfl
    refine pure_ (i := 2) (N := (some 9)) (v := ?_) (a' := ?_) #[true, true, true, false, false, false, false, false, false, false, false] rfl rfl (by kernel_rfl) (fun _ _ _ h => h) (Or.inl ⟨by rfl, ?_⟩) ?_ ?_
    rotate_left
    · intro w'
      go_simp
      with_reducible rfl
    rotate_left
    · simp only [Act.put, List.setIfInBounds_toArray, List.set_cons_zero, List.set_cons_succ]
      rfl
    refine pure_ (i := 3) (N := (some 10)) (v := ?_) (a' := ?_) #[true, true, true, true, false, false, false, false, false, false, false] rfl rfl (by kernel_rfl) (fun _ _ _ h => h) (Or.inl ⟨by rfl, ?_⟩) ?_ ?_
    rotate_left
    · intro w'
      go_simp
      with_reducible rfl
    rotate_left
    · simp only [Act.put, List.setIfInBounds_toArray, List.set_cons_zero, List.set_cons_succ]
      rfl
    refine take_ (i := 4) (N := (some 11)) (v := ?_) (a' := ?_) #[true, true, true, true, true, false, false, false, false, false, false] rfl rfl (by kernel_rfl) (fun _ _ _ h => h) (Or.inl ⟨by rfl, ?_⟩) hHeld ?_ ?_
    rotate_left
    · intro w' hS'
      (have c1 := (hS'.cell (p := ⟨g, 96, none⟩) HGL.out).trans HZ5.out; go_simp)
      with_reducible rfl
    rotate_left
    · simp only [Act.put, List.setIfInBounds_toArray, List.set_cons_zero, List.set_cons_succ]
      rfl
    refine take_ (i := 5) (N := (some 12)) (v := ?_) (a' := ?_) #[true, true, true, true, true, true, false, false, false, false, false] rfl rfl (by kernel_rfl) (fun _ _ _ h => h) (Or.inl ⟨by rfl, ?_⟩) hHeld ?_ ?_
    rotate_left
    · intro w' hS'
      (have hl := Wk.run_load_blk (P := Try.prog) 33 W.heap.size 0 (Pi.rqc fl kd ck off len (.slice A n c)) _ (HX1.out.below_ hS') rfl Try.underlying33 rfl HSZ.out; refine (Wk.exec_load 33 (.tmp 3) rfl _ _ rfl hl).trans ?_)
      with_reducible rfl
    rotate_left
    · simp only [Act.put, List.setIfInBounds_toArray, List.set_cons_zero, List.set_cons_succ]
      rfl
    refine pure_ (i := 7) (N := (some 14)) (v := ?_) (a' := ?_) #[true, true, true, true, true, true, false, true, false, false, false] rfl rfl (by kernel_rfl) (fun _ _ _ h => h) (Or.inl ⟨by rfl, ?_⟩) ?_ ?_
    rotate_left
    · intro w'
      go_simp
      with_reducible rfl
    rotate_left
    · simp only [Act.put, List.setIfInBounds_toArray, List.set_cons_zero, List.set_cons_succ]
      rfl
    refine pure_ (i := 8) (N := (some 15)) (v := ?_) (a' := ?_) #[true, true, true, true, true, true, false, true, true, false, false] rfl rfl (by kernel_rfl) (fun _ _ _ h => h) (Or.inl ⟨by rfl, ?_⟩) ?_ ?_
    rotate_left
    · intro w'
      go_simp
      with_reducible rfl
    rotate_left
    · simp only [Act.put, List.setIfInBounds_toArray, List.set_cons_zero, List.set_cons_succ]
      rfl
    refine one_ (i := 6) (N := (some 13)) #[true, true, true, true, true, true, true, true, true, false, false] rfl rfl (by kernel_rfl) (by decide) (fun K hK => ?_)
    refine call_ 25 #[.agg (Pi.rqc fl kd ck off len (.slice A n c)).toArray] (by rfl) rfl (by go_simp) ?_
    have hK : kRq.K W1.drew (fl, kd, ck, off, len, data) (Pi.rqc fl kd ck off len (.slice A n c)) := by
      have := kRq.K_below (w1 := W1.drew) (below_drew HB1.out) HR.out
      rw [← HN.out]
      exact this
    refine (lent_.calls hK HL.out).mono ?_
    rintro e w2 ⟨cs', rfl, hM, hb2⟩
    have HM2 := Aside0.mk hM
    have HB2 := Aside0.mk (below_then hHeld hHeld.size hb2)
    clear hM hb2 hK
    refine ⟨_, rfl, ?_⟩
    refine hK.out _ _ HB2.out (fun hHeld => ?_)
    clear hK K
    refine norm_ (a' := ?_) ?_ ?_
    rotate_left
    · show Act.put _ (some 13) _ = _
      simp only [Act.put, List.setIfInBounds_toArray, List.set_cons_zero, List.set_cons_succ]
      rfl
    refine pure_ (i := 9) (N := (some 16)) (v := ?_) (a' := ?_) #[true, true, true, true, true, true, true, true, true, true, false] rfl rfl (by kernel_rfl) (fun _ _ _ h => h) (Or.inl ⟨by rfl, ?_⟩) ?_ ?_
    rotate_left
    · intro w'
      go_simp
      with_reducible rfl
    rotate_left
    · simp only [Act.put, List.setIfInBounds_toArray, List.set_cons_zero, List.set_cons_succ]
      rfl
    have HCL : Aside0 (cs'.length = 6 ∧ cs'.all (·.oneCell') = true ∧ (Try.prog.info? 33).map (·.size) = some cs'.length ∧ m * 6 + cs'.length ≤ zs.length) := ⟨by
    have h6 : cs'.length = 6 := kRq.K_len (kRq.K_of_M HM2.out)
    exact ⟨h6, List.all_eq_true.2 (kRq.K_one (kRq.K_of_M HM2.out)), by rw [h6]; exact HSZ.out, by rw [h6, HZR.out.2]; omega⟩⟩
    refine last_ (i := 10) (N := none) #[true, true, true, true, true, true, true, true, true, true, true] rfl rfl (by kernel_rfl) (by decide) (fun K hK => ?_)
    refine Wk.store_step (by rfl) rfl 33 (.tmp 16) (.tmp 13) rfl g (m * 6) (.agg cs'.toArray) cs' rfl rfl (by simp [Value.cells]) 49 zs (HZ1.out.below_ hHeld) HCL.out.2.2.1 HCL.out.2.2.2 HCL.out.2.1 ?_
    intro w3 hX3 hO3
    have HX3 := Aside0.mk hX3
    have HO3 := Aside0.mk hO3
    clear hX3 hO3
    refine hK.out _ _ ?_
    clear hK K
    refine done_ (by kernel_rfl) ?_
    have hc3 : w3.cell? ⟨g, 96, none⟩ = some (.int .i64 m) := by
      rw [HX3.out.cell, Pi.over_hi zs (m * 6) cs' HCL.out.2.2.2 96 (by rw [HCL.out.1]; omega), ← HZ1.out.cell]
      exact HZ5.out
    have HS3 := Aside0.mk Pi.size3
    have HF3 : Aside0 (96 + 1 ≤ (Wk.over zs (m * 6) cs').length) := ⟨by rw [Pi.over_len _ _ _ HCL.out.2.2.2, HZR.out.2]; omega⟩
    refine NoPanic.normal ?_
    go_wp2_with (refine Wk.store rfl rfl 3 (.tmp 23) (.tmp 21) rfl g 96 (.int .i64 ((m : Int) + 1)) [.int .i64 ((m : Int) + 1)] rfl rfl rfl 49 _ HX3.out HS3.out HF3.out rfl ?_; intro w4 hX hO; have HX4 := Aside0.mk hX; have HO4 := Aside0.mk hO; clear hX hO)
    go_ret
    have h6 := HCL.out.1
    have hzl := HZR.out.2
    have hle := HCL.out.2.2.2
    have hB2 := Aside0.mk (HZ1.out.below_ hHeld)
    refine ⟨rfl, ⟨_, HX4.out, HZR.out.1, by rw [Pi.over_len _ _ _ HF3.out, Pi.over_len _ _ _ hle]; exact hzl, by have := HM.out; simp; omega, ?_, ?_⟩, ?_⟩
    · rw [Pi.over_at _ _ _ (by have := HF3.out; omega)]
      simp [HM.out]
    · have e : (Wk.over (Wk.over zs (m * 6) cs') 96 [Value.int .i64 ((m : Int) + 1)]).take (6 * (rs ++ [(fl, kd, ck, off, len, data)]).length) = zs.take (6 * m) ++ cs' := by
        rw [List.length_append, HM.out, Pi.over_take _ _ _ _ (by rw [Pi.over_len _ _ _ hle]; omega) (by simp; omega)]
        have := Pi.over_upto zs (m * 6) cs' (by omega)
        rw [h6] at this
        rw [show 6 * (m + [(fl, kd, ck, off, len, data)].length) = m * 6 + 6 by simp; omega, this, Nat.mul_comm]
      rw [e]
      have hstep : ∀ x c, kRq.M w2 base ok x c → kRq.M w4 base ok x c := fun x c hM => Pi.M_only (Pi.M_only hM hB2.out HO3.out) HX3.out HO4.out
      refine Reps.snoc (HZ6.out.imp_ (fun p c hp => hstep p c (Kd.M_below hp HB2.out))) (hstep _ _ (Pi.M_fresh HM2.out (Nat.le_trans HBS.out HB1.out.size) (fun k hk => HOK.out k (Nat.le_trans HB1.out.size hk)))) h6
    · exact World.grownBy.trans (grown_of_below (below_then HB1.out HB1.out.size HB2.out) _) (World.grownBy.trans HO3.out.grown HO4.out.grown)
#print axioms add_.calls
end Go.Proofs.Ytikogcdakdndnaa
