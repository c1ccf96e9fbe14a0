/- The walk of the law MacSame. -/
import Derived.Test.YthcilikinfhipaaDoorMacL1
set_option linter.unusedVariables false
set_option linter.unusedSimpArgs false
namespace Go.Proofs.YthcilikinfhipaaDoor
open Go.RowKit Go.Proofs.YthcilikinfhipaaDoorW.PrintWords Go.Proofs.YthcilikinfhipaaDoorW.PrintLast Go.Proofs.YthcilikinfhipaaDoorW.PrintMore
namespace Sh
theorem str_inj : ∀ (a b : List Int), Bytes a → Bytes b → (a.map fun n => UInt8.ofNat n.toNat) = (b.map fun n => UInt8.ofNat n.toNat) → a = b
  | [], [], _, _, _ => rfl
  | [], _ :: _, _, _, h => by simp at h
  | _ :: _, [], _, _, h => by simp at h
  | x :: a, y :: b, ha, hb, h => by
    simp only [List.map_cons, List.cons.injEq] at h
    have hx := ha x (List.mem_cons_self ..)
    have hy := hb y (List.mem_cons_self ..)
    have e1 : x = y := by
      have := congrArg UInt8.toNat h.1
      rw [UInt8.toNat_ofNat', UInt8.toNat_ofNat', Nat.mod_eq_of_lt (by omega), Nat.mod_eq_of_lt (by omega)] at this
      omega
    rw [e1, str_inj a b (fun z hz => ha z (List.mem_cons_of_mem _ hz)) (fun z hz => hb z (List.mem_cons_of_mem _ hz)) h.2]
theorem conv_exec {oi : Oper} {x : Operand} {a : Act} {w' : World} {v u : Value} {s d : TypeId} (ho : oi.op = .convert s d x) (hx : a.eval x = v) (h : (convert s d v).run Tryd.prog w' = .ok u w') : (execOp a.eval oi).run Tryd.prog w' = .ok (.value u) w' := by
  unfold execOp
  simp only [ho, hx, Sem.run_bind, Sem.run_pure, Result.andThen_ok, h]
end Sh
set_option maxHeartbeats 1000000 in
set_option maxRecDepth 100000 in
theorem macSame_.calls (A0 : Option Addr) (c0 : Nat) (a : List Int) (A1 : Option Addr) (c1 : Nat) (b : List Int) (w : World) (hk : Sh.Ks w)
    (hr0 : Kd.C (Kd.int .u8) w A0 a.length a) (hc0 : a.length ≤ c0) (hby0 : Sh.Bytes a) (hm0 : a.length ≤ 9223372036854775807)
    (hr1 : Kd.C (Kd.int .u8) w A1 b.length b) (hc1 : b.length ≤ c1) (hby1 : Sh.Bytes b) (hm1 : b.length ≤ 9223372036854775807) :
    Calls Tryd.prog 6 #[.slice A0 a.length c0, .slice A1 b.length c1] w fun e w' => e = .returned (.bool true) ∧ Below w.heap.size w w' := by
  have HR0 := Aside0.mk hr0
  have HR1 := Aside0.mk hr1
  have HY0 := Aside0.mk hby0
  have HY1 := Aside0.mk hby1
  have HK := Aside0.mk hk
  clear hr0 hr1 hby0 hby1 hk
  obtain ⟨N0, HN0⟩ : ∃ N, Aside0 (a.length = N) := ⟨_, ⟨rfl⟩⟩
  obtain ⟨N1, HN1⟩ : ∃ N, Aside0 (b.length = N) := ⟨_, ⟨rfl⟩⟩
  rw [HN0.out] at hc0 hm0 ⊢
  rw [HN1.out] at hc1 hm1 ⊢
  have HRF : Aside0 (Below w.heap.size w w) := ⟨Below.refl _ _⟩
  go_enter Tryd.func6, Tryd.ntmps6
  by_cases g0 : 800 < N0
  · go_wp2_with fail
    go_ret
    exact ⟨rfl, HRF.out⟩
  · by_cases g1 : 800 < N1
    · go_wp2_with fail
      go_ret
      exact ⟨rfl, HRF.out⟩
    · obtain ⟨d, HD⟩ : ∃ d : Bool, Aside0 (decide (a = b) = d) := ⟨_, ⟨rfl⟩⟩
      obtain ⟨S0, HS0⟩ : ∃ s, Aside0 (strOfNums a = s) := ⟨_, ⟨rfl⟩⟩
      obtain ⟨S1, HS1⟩ : ∃ s, Aside0 (strOfNums b = s) := ⟨_, ⟨rfl⟩⟩
      have HC : Aside0 (∀ W, Below w.heap.size w W → (convert 22 9 (.slice A0 N0 c0)).run Tryd.prog W = .ok (.string S0) W ∧ (convert 22 9 (.slice A1 N1 c1)).run Tryd.prog W = .ok (.string S1) W) := ⟨fun W hW => by
        have h1 := Kd.C_string (dst := 9) (c := c0) Tryd.underlying22 Tryd.underlying5 Tryd.underlying9 (Kd.C_below HR0.out hW)
        have h2 := Kd.C_string (dst := 9) (c := c1) Tryd.underlying22 Tryd.underlying5 Tryd.underlying9 (Kd.C_below HR1.out hW)
        rw [HN0.out, HS0.out] at h1
        rw [HN1.out, HS1.out] at h2
        exact ⟨h1, h2⟩⟩
      have HSM : Aside0 (∀ W, Below w.heap.size w W → Calls Tryd.prog 12 #[.slice A0 N0 c0, .slice A1 N1 c1] W fun e w' => e = .returned (.bool d) ∧ ∃ m, w' = W.drewN m) := ⟨fun W hW => by
        have := same_.calls A0 c0 a A1 c1 b W (Kd.C_below HR0.out hW) (by rw [HN0.out]; exact hc0) (Kd.C_below HR1.out hW) (by rw [HN1.out]; exact hc1) (by rw [HN0.out]; omega) HY0.out HY1.out
        rw [HN0.out, HN1.out, HD.out] at this
        exact this⟩
      have HSS : Aside0 (∀ W, Below w.heap.size w W → Calls Tryd.prog 12 #[.slice A0 N0 c0, .slice A0 N0 c0] W fun e w' => e = .returned (.bool true) ∧ ∃ m, w' = W.drewN m) := ⟨fun W hW => by
        have := same_.calls A0 c0 a A0 c0 a W (Kd.C_below HR0.out hW) (by rw [HN0.out]; exact hc0) (Kd.C_below HR0.out hW) (by rw [HN0.out]; exact hc0) (by rw [HN0.out]; omega) HY0.out HY0.out
        rw [HN0.out, show decide (a = a) = true by simp] at this
        exact this⟩
      have HEQ : Aside0 ((d == (S0.toList == S1.toList)) = true) := ⟨by
        rw [← HD.out, ← HS0.out, ← HS1.out, Go.ByteArray.toList_eq, Go.ByteArray.toList_eq, strOfNums_data, strOfNums_data]
        by_cases e : a = b
        · subst e; simp
        · have : (a.map fun n => UInt8.ofNat n.toNat) ≠ (b.map fun n => UInt8.ofNat n.toNat) := fun h => e (Sh.str_inj a b HY0.out HY1.out h)
          rw [decide_eq_false e, beq_eq_false_iff_ne.2 this]
          rfl⟩
      clear HR0 HR1 HD HS0 HS1 HY0 HY1
      go_wp2_with fail
      refine wp_region_noPanic ?_
      refine start_ (n := 18) (S := (fun w' => Below w.heap.size w w')) (ds := [17]) #[false, false, false, false, false, false, false, false, false, false, false, false, false, false, false, false, false, false] (by kernel_rfl) rfl rfl (Below.refl _ _).drew (fun hHeld => ?_)
      refine one_ (i := 0) (N := (some 13)) #[true, false, false, false, false, false, false, false, false, false, false, false, false, false, false, false, false, false] rfl rfl (by kernel_rfl) (by decide) (fun K hK => ?_)
      refine call_ 8 #[] (by rfl) rfl (by go_simp) ?_
      refine (known_.calls _ (HK.out.below hHeld)).mono ?_
      rintro e w' ⟨rfl, hbw⟩
      have HQ := Aside0.mk (Sh.below_step2 hHeld hbw)
      clear hbw
      refine ⟨_, rfl, ?_⟩
      refine hK.out _ _ HQ.out (fun hHeld => ?_)
      clear hK K
      refine norm_ (a' := ?_) ?_ ?_
      rotate_left
      · show Act.put _ (some 13) _ = _
        simp only [Act.put, List.setIfInBounds_toArray, List.set_cons_zero, List.set_cons_succ]
        rfl
      refine pure_ (i := 1) (N := (some 14)) (v := ?_) (a' := ?_) #[true, true, false, false, false, false, false, false, false, false, false, false, false, false, false, false, false, false] rfl rfl (by kernel_rfl) (fun _ _ _ h => h) (Or.inl ⟨by rfl, ?_⟩) ?_ ?_
      rotate_left
      · intro w'
        go_simp
        with_reducible rfl
      rotate_left
      · simp only [Act.put, List.setIfInBounds_toArray, List.set_cons_zero, List.set_cons_succ]
        rfl
      refine pure_ (i := 2) (N := (some 15)) (v := ?_) (a' := ?_) #[true, true, true, false, false, false, false, false, false, false, false, false, false, false, false, false, false, false] rfl rfl (by kernel_rfl) (fun _ _ _ h => h) (Or.inl ⟨by rfl, ?_⟩) ?_ ?_
      rotate_left
      · intro w'
        go_simp
        with_reducible rfl
      rotate_left
      · simp only [Act.put, List.setIfInBounds_toArray, List.set_cons_zero, List.set_cons_succ]
        rfl
      refine pure_ (i := 3) (N := (some 16)) (v := ?_) (a' := ?_) #[true, true, true, true, false, false, false, false, false, false, false, false, false, false, false, false, false, false] rfl rfl (by kernel_rfl) (fun _ _ _ h => h) (Or.inl ⟨by rfl, ?_⟩) ?_ ?_
      rotate_left
      · intro w'
        go_simp
        with_reducible rfl
      rotate_left
      · simp only [Act.put, List.setIfInBounds_toArray, List.set_cons_zero, List.set_cons_succ]
        rfl
      refine pure_ (i := 5) (N := (some 18)) (v := ?_) (a' := ?_) #[true, true, true, true, false, true, false, false, false, false, false, false, false, false, false, false, false, false] rfl rfl (by kernel_rfl) (fun _ _ _ h => h) (Or.inl ⟨by rfl, ?_⟩) ?_ ?_
      rotate_left
      · intro w'
        go_simp
        with_reducible rfl
      rotate_left
      · simp only [Act.put, List.setIfInBounds_toArray, List.set_cons_zero, List.set_cons_succ]
        rfl
      refine take_ (i := 6) (N := (some 19)) (v := ?_) (a' := ?_) #[true, true, true, true, false, true, true, false, false, false, false, false, false, false, false, false, false, false] rfl rfl (by kernel_rfl) (fun _ _ _ h => h) (Or.inl ⟨by rfl, ?_⟩) hHeld ?_ ?_
      rotate_left
      · intro w' hS'
        (refine (Sh.conv_exec (x := .tmp 18) rfl rfl (HC.out w' hS').1).trans ?_)
        with_reducible rfl
      rotate_left
      · simp only [Act.put, List.setIfInBounds_toArray, List.set_cons_zero, List.set_cons_succ]
        rfl
      refine pure_ (i := 7) (N := (some 20)) (v := ?_) (a' := ?_) #[true, true, true, true, false, true, true, true, false, false, false, false, false, false, false, false, false, false] rfl rfl (by kernel_rfl) (fun _ _ _ h => h) (Or.inl ⟨by rfl, ?_⟩) ?_ ?_
      rotate_left
      · intro w'
        go_simp
        with_reducible rfl
      rotate_left
      · simp only [Act.put, List.setIfInBounds_toArray, List.set_cons_zero, List.set_cons_succ]
        rfl
      refine take_ (i := 8) (N := (some 21)) (v := ?_) (a' := ?_) #[true, true, true, true, false, true, true, true, true, false, false, false, false, false, false, false, false, false] rfl rfl (by kernel_rfl) (fun _ _ _ h => h) (Or.inl ⟨by rfl, ?_⟩) hHeld ?_ ?_
      rotate_left
      · intro w' hS'
        (refine (Sh.conv_exec (x := .tmp 20) rfl rfl (HC.out w' hS').2).trans ?_)
        with_reducible rfl
      rotate_left
      · simp only [Act.put, List.setIfInBounds_toArray, List.set_cons_zero, List.set_cons_succ]
        rfl
      refine pure_ (i := 9) (N := (some 22)) (v := ?_) (a' := ?_) #[true, true, true, true, false, true, true, true, true, true, false, false, false, false, false, false, false, false] rfl rfl (by kernel_rfl) (fun _ _ _ h => h) (Or.inl ⟨by rfl, ?_⟩) ?_ ?_
      rotate_left
      · intro w'
        go_simp
        with_reducible rfl
      rotate_left
      · simp only [Act.put, List.setIfInBounds_toArray, List.set_cons_zero, List.set_cons_succ]
        rfl
      refine one_ (i := 4) (N := (some 17)) #[true, true, true, true, true, true, true, true, true, true, false, false, false, false, false, false, false, false] rfl rfl (by kernel_rfl) (by decide) (fun K hK => ?_)
      refine call_ 12 #[.slice A0 N0 c0, .slice A1 N1 c1] (by rfl) rfl (by go_simp) ?_
      refine (HSM.out _ hHeld).mono ?_
      rintro e w' ⟨rfl, m, rfl⟩
      have HQ := Aside0.mk (pw_below_drewN hHeld m)
      refine ⟨_, rfl, ?_⟩
      refine hK.out _ _ HQ.out (fun hHeld => ?_)
      clear hK K
      refine norm_ (a' := ?_) ?_ ?_
      rotate_left
      · show Act.put _ (some 17) _ = _
        simp only [Act.put, List.setIfInBounds_toArray, List.set_cons_zero, List.set_cons_succ]
        rfl
      refine pure_ (i := 10) (N := (some 23)) (v := ?_) (a' := ?_) #[true, true, true, true, true, true, true, true, true, true, true, false, false, false, false, false, false, false] rfl rfl (by kernel_rfl) (fun _ _ _ h => h) (Or.inl ⟨by rfl, ?_⟩) ?_ ?_
      rotate_left
      · intro w'
        go_simp
        with_reducible rfl
      rotate_left
      · simp only [Act.put, List.setIfInBounds_toArray, List.set_cons_zero, List.set_cons_succ]
        rfl
      rw [HEQ.out]
      refine pure_ (i := 11) (N := (some 24)) (v := ?_) (a' := ?_) #[true, true, true, true, true, true, true, true, true, true, true, true, false, false, false, false, false, false] rfl rfl (by kernel_rfl) (fun _ _ _ h => h) (Or.inl ⟨by rfl, ?_⟩) ?_ ?_
      rotate_left
      · intro w'
        go_simp
        with_reducible rfl
      rotate_left
      · simp only [Act.put, List.setIfInBounds_toArray, List.set_cons_zero, List.set_cons_succ]
        rfl
      refine pure_ (i := 12) (N := (some 25)) (v := ?_) (a' := ?_) #[true, true, true, true, true, true, true, true, true, true, true, true, true, false, false, false, false, false] rfl rfl (by kernel_rfl) (fun _ _ _ h => h) (Or.inl ⟨by rfl, ?_⟩) ?_ ?_
      rotate_left
      · intro w'
        go_simp
        with_reducible rfl
      rotate_left
      · simp only [Act.put, List.setIfInBounds_toArray, List.set_cons_zero, List.set_cons_succ]
        rfl
      refine pure_ (i := 13) (N := (some 26)) (v := ?_) (a' := ?_) #[true, true, true, true, true, true, true, true, true, true, true, true, true, true, false, false, false, false] rfl rfl (by kernel_rfl) (fun _ _ _ h => h) (Or.inl ⟨by rfl, ?_⟩) ?_ ?_
      rotate_left
      · intro w'
        go_simp
        with_reducible rfl
      rotate_left
      · simp only [Act.put, List.setIfInBounds_toArray, List.set_cons_zero, List.set_cons_succ]
        rfl
      refine pure_ (i := 14) (N := (some 27)) (v := ?_) (a' := ?_) #[true, true, true, true, true, true, true, true, true, true, true, true, true, true, true, false, false, false] rfl rfl (by kernel_rfl) (fun _ _ _ h => h) (Or.inl ⟨by rfl, ?_⟩) ?_ ?_
      rotate_left
      · intro w'
        go_simp
        with_reducible rfl
      rotate_left
      · simp only [Act.put, List.setIfInBounds_toArray, List.set_cons_zero, List.set_cons_succ]
        rfl
      refine one_ (i := 15) (N := (some 28)) #[true, true, true, true, true, true, true, true, true, true, true, true, true, true, true, true, false, false] rfl rfl (by kernel_rfl) (by decide) (fun K hK => ?_)
      refine call_ 12 #[.slice A0 N0 c0, .slice A0 N0 c0] (by rfl) rfl (by go_simp) ?_
      refine (HSS.out _ hHeld).mono ?_
      rintro e w' ⟨rfl, m, rfl⟩
      have HQ := Aside0.mk (pw_below_drewN hHeld m)
      refine ⟨_, rfl, ?_⟩
      refine hK.out _ _ HQ.out (fun hHeld => ?_)
      clear hK K
      refine norm_ (a' := ?_) ?_ ?_
      rotate_left
      · show Act.put _ (some 28) _ = _
        simp only [Act.put, List.setIfInBounds_toArray, List.set_cons_zero, List.set_cons_succ]
        rfl
      refine pure_ (i := 16) (N := (some 29)) (v := ?_) (a' := ?_) #[true, true, true, true, true, true, true, true, true, true, true, true, true, true, true, true, true, false] rfl rfl (by kernel_rfl) (fun _ _ _ h => h) (Or.inl ⟨by rfl, ?_⟩) ?_ ?_
      rotate_left
      · intro w'
        go_simp
        with_reducible rfl
      rotate_left
      · simp only [Act.put, List.setIfInBounds_toArray, List.set_cons_zero, List.set_cons_succ]
        rfl
      refine pure_ (i := 17) (N := (some 4)) (v := ?_) (a' := ?_) #[true, true, true, true, true, true, true, true, true, true, true, true, true, true, true, true, true, true] rfl rfl (by kernel_rfl) (fun _ _ _ h => h) (Or.inl ⟨by rfl, ?_⟩) ?_ ?_
      rotate_left
      · intro w'
        go_simp
        with_reducible rfl
      rotate_left
      · simp only [Act.put, List.setIfInBounds_toArray, List.set_cons_zero, List.set_cons_succ]
        rfl
      refine done_ (by kernel_rfl) ?_
      have HBF : Aside0 (Below w.heap.size w _) := ⟨hHeld⟩
      refine NoPanic.normal ?_
      go_wp2_with fail
      go_ret
      exact ⟨by simp, HBF.out⟩
#print axioms macSame_.calls
end Go.Proofs.YthcilikinfhipaaDoor
