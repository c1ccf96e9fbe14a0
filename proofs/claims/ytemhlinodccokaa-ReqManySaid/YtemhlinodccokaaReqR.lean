/- The walk of coamingref08.Next. -/
import Derived.Test.YtemhlinodccokaaReqN
import Derived.Test.YtemhlinodccokaaWireM2
set_option linter.unusedVariables false
set_option linter.unusedSimpArgs false
namespace Go.Proofs.Ytemhlinodccokaa
open Go.RowKit Go.Proofs.YtemhlinodccokaaW.PrintWords Go.Proofs.YtemhlinodccokaaW.PrintLast Go.Proofs.YtemhlinodccokaaW.PrintMore
def coamingref08_Next.f (l0 : List Int) : Option (Int × Int × Int × Int × Int × List Int × Int × Int) := if l0.length ≤ 1000000 ∧ ∀ x ∈ l0, 0 ≤ x ∧ x ≤ 255 then some (Wi.nextOf l0) else none
set_option maxHeartbeats 1000000 in
set_option maxRecDepth 100000 in
theorem coamingref08_Next.calls (A0 : Option Addr) (c0 : Nat) (l0 : List Int) (r1 : Int) (r2 : Int) (r3 : Int) (r4 : Int) (r5 : Int) (r6 : List Int) (r7 : Int) (r8 : Int) (w : World) (hr0 : Kd.C (Kd.int .u8) w A0 l0.length l0) (hc0 : l0.length ≤ c0) (h : coamingref08_Next.f l0 = some (r1, r2, r3, r4, r5, r6, r7, r8)) :
    Calls Try.prog 12 #[.slice A0 l0.length c0] w fun e w' => ∃ v5_ : Value, e = .returned (.tuple #[.agg #[.int .u16 r1, .int .u16 r2, .int .u64 r3, .int .u64 r4, .int .u32 r5, v5_], .int .i64 r7, .int .i64 r8]) ∧ Kd.R (Kd.int .u8) 5 w' w.heap.size (fun _ => True) v5_ r6 ∧ Below w.heap.size w w' := by
  unfold coamingref08_Next.f at h
  obtain ⟨hlen, hby⟩ : l0.length ≤ 1000000 ∧ Wi.Bytes l0 := by
    by_cases hc : l0.length ≤ 1000000 ∧ ∀ x ∈ l0, 0 ≤ x ∧ x ≤ 255
    · exact hc
    · rw [if_neg hc] at h; cases h
  rw [if_pos ⟨hlen, hby⟩] at h
  have HRES := Aside0.mk (Option.some.inj h)
  have HR0 := Aside0.mk hr0
  have HBY := Aside0.mk hby
  have HTF := Aside0.mk (Wi.rtake_is l0 [4, 2, 2, 8, 8, 4] hby hlen (by decide) 100 (by decide))
  clear h hr0 hby
  obtain ⟨N, HN⟩ : ∃ N, Aside0 (l0.length = N) := ⟨_, ⟨rfl⟩⟩
  rw [HN.out] at hlen hc0 ⊢
  go_enter Try.func12, Try.ntmps12
  go_wp2_with fail
  generalize hWq : World.alloc (World.alloc w _) _ = W0
  have HB0 : Aside0 (Below w.heap.size w W0) := ⟨by rw [← hWq]; exact below_alloc (below_alloc (Below.refl _ _) _) _⟩
  have HZ0 : Aside0 (Wk.Blk W0 w.heap.size 28 (Wi.rqc 0 0 0 0 0 (.slice none 0 0))) := ⟨by rw [← hWq]; exact (Wk.Blk.new w _ (Wi.rqc 0 0 0 0 0 (.slice none 0 0))).alloc _⟩
  have HCW : Aside0 (Kd.C (Kd.int .i64) W0 (some ⟨w.heap.size + 1, 0, none⟩) 6 [4, 2, 2, 8, 8, 4]) := ⟨by rw [← hWq]; exact Lit.two_reads w _ _ .i64 [4, 2, 2, 8, 8, 4] rfl (by decide)⟩
  clear hWq
  have HSZ := Aside0.mk Wi.info28
  obtain ⟨ns, rs, ok, HTK⟩ : ∃ (ns rs : List Int) (ok : Bool), Aside0 (Wi.takes l0 [4, 2, 2, 8, 8, 4] [] = (ns, rs, ok) ∧ (ok = decide (28 ≤ N)) ∧ (28 ≤ N → rs = l0.drop 28 ∧ ns = [Wi.rq0 l0, Wi.rq1 l0, Wi.rq2 l0, Wi.rq3 l0, Wi.rq4 l0, Wi.rq5 l0])) := by
    have hN := HN.out
    by_cases h : N < 28
    · exact ⟨[], [], false, ⟨by rw [Wi.takes6, if_pos (by omega)], by simp; omega, fun h2 => absurd h2 (by omega)⟩⟩
    · exact ⟨_, _, true, ⟨by rw [Wi.takes6, if_neg (by omega)], by simp; omega, fun _ => ⟨rfl, rfl⟩⟩⟩
  have HF : Aside0 (Calls Try.prog 27 #[.slice A0 N c0, .slice (some ⟨w.heap.size + 1, 0, none⟩) 6 6] W0 fun e w' => ∃ v0_ v1_ : Value, e = .returned (.tuple #[v0_, v1_, .bool ok]) ∧ Kd.R (Kd.int .u64) 25 w' W0.heap.size (fun _ => True) v0_ ns ∧ Kd.R (Kd.int .u8) 5 w' W0.heap.size (fun _ => True) v1_ rs ∧ Below W0.heap.size W0 w') := ⟨by
    have := PBase.coamingref06_Take.calls 100 A0 c0 l0 (some ⟨w.heap.size + 1, 0, none⟩) 6 [4, 2, 2, 8, 8, 4] ns rs ok W0 (Kd.C_below HR0.out HB0.out) (by rw [HN.out]; exact hc0) HCW.out (by decide) (by rw [HTF.out, HTK.out.1])
    rw [HN.out] at this
    exact this⟩
  refine HF.out.mono ?_
  rintro e w2 ⟨v0, v1, rfl, rv0, rv1, bf⟩
  have HV := Aside0.mk rv0
  have HV1 := Aside0.mk rv1
  have HB2 : Aside0 (Below w.heap.size w w2) := ⟨below_then HB0.out HB0.out.size bf⟩
  have HZ2 := Aside0.mk (HZ0.out.below_ bf)
  clear rv0 rv1 bf HF HCW HTF
  cases ok
  · have HRR : Aside0 (Wi.nextOf l0 = (0, 0, 0, 0, 0, [], 0, 80)) := ⟨by
      have h1 : ¬ 28 ≤ N := of_decide_eq_false HTK.out.2.1.symm
      unfold Wi.nextOf
      rw [if_pos (by rw [HN.out]; omega)]⟩
    rw [HRES.out] at HRR
    obtain ⟨rfl, rfl, rfl, rfl, rfl, rfl, rfl, rfl⟩ : r1 = 0 ∧ r2 = 0 ∧ r3 = 0 ∧ r4 = 0 ∧ r5 = 0 ∧ r6 = [] ∧ r7 = 0 ∧ r8 = 80 := by simpa using HRR.out
    clear HTK HRES HRR HV HV1
    go_wp2_with (refine Wk.store_all rfl rfl 28 (.tmp 2) (.tmp 19) rfl w.heap.size (Wi.rqc 0 0 0 0 0 (.slice none 0 0)) rfl rfl 28 _ HZ2.out HSZ.out rfl rfl ?_; intro w3 hX hO; have HX := Aside0.mk hX; have HO := Aside0.mk hO; clear hX hO)
    refine bodyPost_ret (Wk.res_ctt rfl _ w.heap.size 28 _ _ rfl HX.out Try.underlying28 rfl HSZ.out) rfl ?_
    exact ⟨_, rfl, Kd.R_nil _ _ _ _ _, Wk.Only.below HB2.out HO.out (Nat.le_refl _)⟩
  · obtain ⟨x0, x1, x2, x3, x4, x5, hns, HX⟩ : ∃ x0 x1 x2 x3 x4 x5, ns = [x0, x1, x2, x3, x4, x5] ∧ Aside0 (Wi.rq0 l0 = x0 ∧ Wi.rq1 l0 = x1 ∧ Wi.rq2 l0 = x2 ∧ Wi.rq3 l0 = x3 ∧ Wi.rq4 l0 = x4 ∧ Wi.rq5 l0 = x5) := ⟨_, _, _, _, _, _, (HTK.out.2.2 (of_decide_eq_true HTK.out.2.1.symm)).2, ⟨rfl, rfl, rfl, rfl, rfl, rfl⟩⟩
    have h28 : 28 ≤ N := of_decide_eq_true HTK.out.2.1.symm
    have HRS := Aside0.mk (HTK.out.2.2 h28).1
    subst hns
    obtain ⟨g, cg, rfl, hgb, hgl, hgc, c0', c1', c2', c3', c4', c5'⟩ := Wi.six_cells HV.out
    obtain ⟨A1, cA1, rfl, hcA, hCA⟩ := Kd.R_reads HV1.out
    obtain ⟨M, HM⟩ : ∃ M, Aside0 (rs.length = M) := ⟨_, ⟨rfl⟩⟩
    have hMN : M + 28 = N := by rw [← HM.out, HRS.out, List.length_drop, HN.out]; omega
    have HMN := Aside0.mk hMN
    rw [HM.out] at hcA ⊢
    have HCA := Aside0.mk hCA
    have C1 := Aside0.mk c1'
    have C2 := Aside0.mk c2'
    have C3 := Aside0.mk c3'
    have C4 := Aside0.mk c4'
    have C5 := Aside0.mk c5'
    clear c1' c2' c3' c4' c5' HV HTK HV1 hCA hMN
    have hbn := Wi.rq_bnd l0 HBY.out
    obtain ⟨e0, e1, e2, e3, e4, e5⟩ := HX.out
    rw [e0, e1, e2, e3, e4, e5] at hbn
    have HXE : Aside0 (Wi.nextOf l0 = if x0 ≠ 627086611 then (0, 0, 0, 0, 0, [], 0, 81)
      else if x2 = 1 then if x5 > 65536 then (0, 0, 0, 0, 0, [], 0, 82) else if 28 + x5 > N then (0, 0, 0, 0, 0, [], 0, 80) else (x1, x2, x3, x4, x5, (l0.drop 28).take x5.toNat, 28 + x5, 0)
      else (x1, x2, x3, x4, x5, [], 28, 0)) := ⟨by unfold Wi.nextOf; rw [if_neg (by rw [HN.out]; omega), e0, e1, e2, e3, e4, e5, HN.out]⟩
    clear e0 e1 e2 e3 e4 e5 HX
    obtain ⟨⟨b00, b01⟩, ⟨b10, b11⟩, ⟨b20, b21⟩, ⟨b30, b31⟩, ⟨b40, b41⟩, ⟨b50, b51⟩⟩ := hbn
    by_cases hx0 : x0 = 627086611
    · subst hx0
      go_wp2_with fail
      have u1 := IntWalk.u16_in x1 (by omega)
      have u2 := IntWalk.u16_in x2 (by omega)
      have u5 := IntWalk.u32_in x5 (by omega)
      refine wp_region_noPanic ?_
      refine start_ (n := 21) (S := (fun w' => Below w2.heap.size w2 w')) (ds := [20]) #[false, false, false, false, false, false, false, false, false, false, false, false, false, false, false, false, false, false, false, false, false] (by kernel_rfl) rfl rfl (Below.refl _ _).drew (fun hHeld => ?_)
      refine pure_ (i := 0) (N := (some 25)) (v := ?_) (a' := ?_) #[true, false, false, false, false, false, false, false, false, false, false, false, false, false, false, false, false, false, false, false, false] rfl rfl (by kernel_rfl) (fun _ _ _ h => h) (Or.inl ⟨by rfl, ?_⟩) ?_ ?_
      rotate_left
      · intro w'
        go_simp
        with_reducible rfl
      rotate_left
      · simp only [Act.put, List.setIfInBounds_toArray, List.set_cons_zero, List.set_cons_succ]
        rfl
      refine pure_ (i := 1) (N := (some 26)) (v := ?_) (a' := ?_) #[true, true, false, false, false, false, false, false, false, false, false, false, false, false, false, false, false, false, false, false, false] rfl rfl (by kernel_rfl) (fun _ _ _ h => h) (Or.inl ⟨by rfl, ?_⟩) ?_ ?_
      rotate_left
      · intro w'
        go_simp
        with_reducible rfl
      rotate_left
      · simp only [Act.put, List.setIfInBounds_toArray, List.set_cons_zero, List.set_cons_succ]
        rfl
      refine take_ (i := 2) (N := (some 27)) (v := ?_) (a' := ?_) #[true, true, true, false, false, false, false, false, false, false, false, false, false, false, false, false, false, false, false, false, false] rfl rfl (by kernel_rfl) (fun _ _ _ h => h) (Or.inl ⟨by rfl, ?_⟩) hHeld ?_ ?_
      rotate_left
      · intro w' hS'
        (have c1 := (hS'.cell (p := ⟨g, 1, none⟩) hgl).trans C1.out; go_simp)
        with_reducible rfl
      rotate_left
      · simp only [Act.put, List.setIfInBounds_toArray, List.set_cons_zero, List.set_cons_succ]
        rfl
      refine pure_ (i := 3) (N := (some 28)) (v := ?_) (a' := ?_) #[true, true, true, true, false, false, false, false, false, false, false, false, false, false, false, false, false, false, false, false, false] rfl rfl (by kernel_rfl) (fun _ _ _ h => h) (Or.inl ⟨by rfl, ?_⟩) ?_ ?_
      rotate_left
      · intro w'
        go_simp
        with_reducible rfl
      rotate_left
      · simp only [Act.put, List.setIfInBounds_toArray, List.set_cons_zero, List.set_cons_succ]
        rfl
      refine pure_ (i := 4) (N := (some 29)) (v := ?_) (a' := ?_) #[true, true, true, true, true, false, false, false, false, false, false, false, false, false, false, false, false, false, false, false, false] rfl rfl (by kernel_rfl) (fun _ _ _ h => h) (Or.inl ⟨by rfl, ?_⟩) ?_ ?_
      rotate_left
      · intro w'
        go_simp
        with_reducible rfl
      rotate_left
      · simp only [Act.put, List.setIfInBounds_toArray, List.set_cons_zero, List.set_cons_succ]
        rfl
      refine pure_ (i := 5) (N := (some 30)) (v := ?_) (a' := ?_) #[true, true, true, true, true, true, false, false, false, false, false, false, false, false, false, false, false, false, false, false, false] rfl rfl (by kernel_rfl) (fun _ _ _ h => h) (Or.inl ⟨by rfl, ?_⟩) ?_ ?_
      rotate_left
      · intro w'
        go_simp
        with_reducible rfl
      rotate_left
      · simp only [Act.put, List.setIfInBounds_toArray, List.set_cons_zero, List.set_cons_succ]
        rfl
      refine take_ (i := 6) (N := (some 31)) (v := ?_) (a' := ?_) #[true, true, true, true, true, true, true, false, false, false, false, false, false, false, false, false, false, false, false, false, false] rfl rfl (by kernel_rfl) (fun _ _ _ h => h) (Or.inl ⟨by rfl, ?_⟩) hHeld ?_ ?_
      rotate_left
      · intro w' hS'
        (have c1 := (hS'.cell (p := ⟨g, 2, none⟩) hgl).trans C2.out; go_simp)
        with_reducible rfl
      rotate_left
      · simp only [Act.put, List.setIfInBounds_toArray, List.set_cons_zero, List.set_cons_succ]
        rfl
      refine pure_ (i := 7) (N := (some 32)) (v := ?_) (a' := ?_) #[true, true, true, true, true, true, true, true, false, false, false, false, false, false, false, false, false, false, false, false, false] rfl rfl (by kernel_rfl) (fun _ _ _ h => h) (Or.inl ⟨by rfl, ?_⟩) ?_ ?_
      rotate_left
      · intro w'
        go_simp
        with_reducible rfl
      rotate_left
      · simp only [Act.put, List.setIfInBounds_toArray, List.set_cons_zero, List.set_cons_succ]
        rfl
      refine pure_ (i := 8) (N := (some 33)) (v := ?_) (a' := ?_) #[true, true, true, true, true, true, true, true, true, false, false, false, false, false, false, false, false, false, false, false, false] rfl rfl (by kernel_rfl) (fun _ _ _ h => h) (Or.inl ⟨by rfl, ?_⟩) ?_ ?_
      rotate_left
      · intro w'
        go_simp
        with_reducible rfl
      rotate_left
      · simp only [Act.put, List.setIfInBounds_toArray, List.set_cons_zero, List.set_cons_succ]
        rfl
      refine pure_ (i := 9) (N := (some 34)) (v := ?_) (a' := ?_) #[true, true, true, true, true, true, true, true, true, true, false, false, false, false, false, false, false, false, false, false, false] rfl rfl (by kernel_rfl) (fun _ _ _ h => h) (Or.inl ⟨by rfl, ?_⟩) ?_ ?_
      rotate_left
      · intro w'
        go_simp
        with_reducible rfl
      rotate_left
      · simp only [Act.put, List.setIfInBounds_toArray, List.set_cons_zero, List.set_cons_succ]
        rfl
      refine take_ (i := 10) (N := (some 35)) (v := ?_) (a' := ?_) #[true, true, true, true, true, true, true, true, true, true, true, false, false, false, false, false, false, false, false, false, false] rfl rfl (by kernel_rfl) (fun _ _ _ h => h) (Or.inl ⟨by rfl, ?_⟩) hHeld ?_ ?_
      rotate_left
      · intro w' hS'
        (have c1 := (hS'.cell (p := ⟨g, 3, none⟩) hgl).trans C3.out; go_simp)
        with_reducible rfl
      rotate_left
      · simp only [Act.put, List.setIfInBounds_toArray, List.set_cons_zero, List.set_cons_succ]
        rfl
      refine pure_ (i := 11) (N := (some 36)) (v := ?_) (a' := ?_) #[true, true, true, true, true, true, true, true, true, true, true, true, false, false, false, false, false, false, false, false, false] rfl rfl (by kernel_rfl) (fun _ _ _ h => h) (Or.inl ⟨by rfl, ?_⟩) ?_ ?_
      rotate_left
      · intro w'
        go_simp
        with_reducible rfl
      rotate_left
      · simp only [Act.put, List.setIfInBounds_toArray, List.set_cons_zero, List.set_cons_succ]
        rfl
      refine pure_ (i := 12) (N := (some 37)) (v := ?_) (a' := ?_) #[true, true, true, true, true, true, true, true, true, true, true, true, true, false, false, false, false, false, false, false, false] rfl rfl (by kernel_rfl) (fun _ _ _ h => h) (Or.inl ⟨by rfl, ?_⟩) ?_ ?_
      rotate_left
      · intro w'
        go_simp
        with_reducible rfl
      rotate_left
      · simp only [Act.put, List.setIfInBounds_toArray, List.set_cons_zero, List.set_cons_succ]
        rfl
      refine take_ (i := 13) (N := (some 38)) (v := ?_) (a' := ?_) #[true, true, true, true, true, true, true, true, true, true, true, true, true, true, false, false, false, false, false, false, false] rfl rfl (by kernel_rfl) (fun _ _ _ h => h) (Or.inl ⟨by rfl, ?_⟩) hHeld ?_ ?_
      rotate_left
      · intro w' hS'
        (have c1 := (hS'.cell (p := ⟨g, 4, none⟩) hgl).trans C4.out; go_simp)
        with_reducible rfl
      rotate_left
      · simp only [Act.put, List.setIfInBounds_toArray, List.set_cons_zero, List.set_cons_succ]
        rfl
      refine pure_ (i := 14) (N := (some 39)) (v := ?_) (a' := ?_) #[true, true, true, true, true, true, true, true, true, true, true, true, true, true, true, false, false, false, false, false, false] rfl rfl (by kernel_rfl) (fun _ _ _ h => h) (Or.inl ⟨by rfl, ?_⟩) ?_ ?_
      rotate_left
      · intro w'
        go_simp
        with_reducible rfl
      rotate_left
      · simp only [Act.put, List.setIfInBounds_toArray, List.set_cons_zero, List.set_cons_succ]
        rfl
      refine pure_ (i := 15) (N := (some 40)) (v := ?_) (a' := ?_) #[true, true, true, true, true, true, true, true, true, true, true, true, true, true, true, true, false, false, false, false, false] rfl rfl (by kernel_rfl) (fun _ _ _ h => h) (Or.inl ⟨by rfl, ?_⟩) ?_ ?_
      rotate_left
      · intro w'
        go_simp
        with_reducible rfl
      rotate_left
      · simp only [Act.put, List.setIfInBounds_toArray, List.set_cons_zero, List.set_cons_succ]
        rfl
      refine take_ (i := 16) (N := (some 41)) (v := ?_) (a' := ?_) #[true, true, true, true, true, true, true, true, true, true, true, true, true, true, true, true, true, false, false, false, false] rfl rfl (by kernel_rfl) (fun _ _ _ h => h) (Or.inl ⟨by rfl, ?_⟩) hHeld ?_ ?_
      rotate_left
      · intro w' hS'
        (have c1 := (hS'.cell (p := ⟨g, 5, none⟩) hgl).trans C5.out; go_simp)
        with_reducible rfl
      rotate_left
      · simp only [Act.put, List.setIfInBounds_toArray, List.set_cons_zero, List.set_cons_succ]
        rfl
      refine pure_ (i := 17) (N := (some 42)) (v := ?_) (a' := ?_) #[true, true, true, true, true, true, true, true, true, true, true, true, true, true, true, true, true, true, false, false, false] rfl rfl (by kernel_rfl) (fun _ _ _ h => h) (Or.inl ⟨by rfl, ?_⟩) ?_ ?_
      rotate_left
      · intro w'
        go_simp
        with_reducible rfl
      rotate_left
      · simp only [Act.put, List.setIfInBounds_toArray, List.set_cons_zero, List.set_cons_succ]
        rfl
      refine pure_ (i := 18) (N := (some 43)) (v := ?_) (a' := ?_) #[true, true, true, true, true, true, true, true, true, true, true, true, true, true, true, true, true, true, true, false, false] rfl rfl (by kernel_rfl) (fun _ _ _ h => h) (Or.inl ⟨by rfl, ?_⟩) ?_ ?_
      rotate_left
      · intro w'
        go_simp
        with_reducible rfl
      rotate_left
      · simp only [Act.put, List.setIfInBounds_toArray, List.set_cons_zero, List.set_cons_succ]
        rfl
      refine one_ (i := 19) (N := (some 8)) #[true, true, true, true, true, true, true, true, true, true, true, true, true, true, true, true, true, true, true, true, false] rfl rfl (by kernel_rfl) (by decide) (fun K hK => ?_)
      refine value_ (w1 := w2.drew.alloc (.cells (Wi.rqc 0 0 0 0 0 (.slice none 0 0)).toArray 28)) (v := .pointer (some ⟨w2.heap.size, 0, none⟩)) (by rfl) rfl (by go_simp; rfl) ?_
      refine hK.out _ _ (hHeld.alloc hHeld.size _) (fun hHeld => ?_)
      clear hK K
      refine norm_ (a' := ?_) ?_ ?_
      rotate_left
      · show Act.put _ (some 8) _ = _
        simp only [Act.put, List.setIfInBounds_toArray, List.set_cons_zero, List.set_cons_succ]
        rfl
      refine last_ (i := 20) (N := none) #[true, true, true, true, true, true, true, true, true, true, true, true, true, true, true, true, true, true, true, true, true] rfl rfl (by kernel_rfl) (by decide) (fun K hK => ?_)
      refine Wk.store_all_step (by rfl) rfl 28 (.tmp 8) (.tmp 43) rfl w2.heap.size (Wi.rqc x1 x2 x3 x4 x5 (.slice none 0 0)) rfl rfl 28 _ (Wk.Blk.new w2.drew _ _) HSZ.out rfl rfl ?_
      intro w4 hX4 hO4
      have HX4 := Aside0.mk hX4
      have HO4 := Aside0.mk hO4
      clear hX4 hO4
      refine hK.out _ _ ?_
      clear hK K
      refine done_ (by kernel_rfl) ?_
      clear u1 u2 u5 hHeld
      have HBN := Aside0.mk (Wk.Only.fresh (w := w2.drew) (below_drew HB2.out) HB2.out.size HO4.out)
      have HZ4 : Aside0 (Wk.Blk w4 w.heap.size 28 (Wi.rqc 0 0 0 0 0 (.slice none 0 0))) := ⟨HZ2.out.drew.below_ HBN.out.2.2⟩
      have HB4 := Aside0.mk HBN.out.2.1
      have HG2 := Aside0.mk (show w.heap.size < w2.heap.size from HZ2.out.lt)
      have HCA4 := Aside0.mk (Kd.C_below (w := w2.drew) HCA.out HBN.out.2.2)
      have cK : w4.cell? ⟨w2.heap.size, 1, none⟩ = some (.int .u16 x2) := HX4.out.at_ 1 rfl
      have cL : w4.cell? ⟨w2.heap.size, 4, none⟩ = some (.int .u32 x5) := HX4.out.at_ 4 rfl
      obtain ⟨G, hGd⟩ : ∃ G, w2.heap.size = G := ⟨_, rfl⟩
      rw [hGd] at cK cL HX4 HG2 ⊢
      clear hGd HBN HO4 c0' HB2 HZ2 C1 C2 C3 C4 C5 HCA
      refine NoPanic.normal ?_
      by_cases hk : x2 = 1
      · subst hk
        have HRR : Aside0 (_ = _) := ⟨HXE.out⟩
        rw [if_neg (by simp), if_pos rfl, HRES.out] at HRR
        clear HXE HRES
        by_cases hL : 65536 < x5
        · rw [if_pos hL] at HRR
          obtain ⟨rfl, rfl, rfl, rfl, rfl, rfl, rfl, rfl⟩ : r1 = 0 ∧ r2 = 0 ∧ r3 = 0 ∧ r4 = 0 ∧ r5 = 0 ∧ r6 = [] ∧ r7 = 0 ∧ r8 = 82 := by simpa using HRR.out
          clear HRR
          go_wp2_with (refine Wk.store_all rfl rfl 28 (.tmp 2) (.tmp 51) rfl w.heap.size (Wi.rqc 0 0 0 0 0 (.slice none 0 0)) rfl rfl 28 _ HZ4.out HSZ.out rfl rfl ?_; intro w5 hX hO; have HX := Aside0.mk hX; have HO := Aside0.mk hO; clear hX hO)
          refine bodyPost_ret (Wk.res_ctt rfl _ w.heap.size 28 _ _ rfl HX.out Try.underlying28 rfl HSZ.out) rfl ?_
          exact ⟨_, rfl, Kd.R_nil _ _ _ _ _, Wk.Only.below HB4.out HO.out (Nat.le_refl _)⟩
        · rw [if_neg hL] at HRR
          have hL' : x5 ≤ 65536 := by omega
          by_cases hM : (M : Int) < x5
          · rw [if_pos (by have := HMN.out; omega)] at HRR
            obtain ⟨rfl, rfl, rfl, rfl, rfl, rfl, rfl, rfl⟩ : r1 = 0 ∧ r2 = 0 ∧ r3 = 0 ∧ r4 = 0 ∧ r5 = 0 ∧ r6 = [] ∧ r7 = 0 ∧ r8 = 80 := by simpa using HRR.out
            clear HRR
            go_wp2_with (refine Wk.store_all rfl rfl 28 (.tmp 2) (.tmp 58) rfl w.heap.size (Wi.rqc 0 0 0 0 0 (.slice none 0 0)) rfl rfl 28 _ HZ4.out HSZ.out rfl rfl ?_; intro w5 hX hO; have HX := Aside0.mk hX; have HO := Aside0.mk hO; clear hX hO)
            refine bodyPost_ret (Wk.res_ctt rfl _ w.heap.size 28 _ _ rfl HX.out Try.underlying28 rfl HSZ.out) rfl ?_
            exact ⟨_, rfl, Kd.R_nil _ _ _ _ _, Wk.Only.below HB4.out HO.out (Nat.le_refl _)⟩
          · rw [if_neg (by have := HMN.out; omega)] at HRR
            obtain ⟨n5, hn5⟩ := Int.eq_ofNat_of_zero_le b50
            have hM' : x5 ≤ M := by omega
            obtain ⟨rfl, rfl, rfl, rfl, rfl, hr6, rfl, rfl⟩ : r1 = x1 ∧ r2 = 1 ∧ r3 = x3 ∧ r4 = x4 ∧ r5 = x5 ∧ r6 = (l0.drop 28).take n5 ∧ r7 = 28 + x5 ∧ r8 = 0 := by rw [hn5] at HRR ⊢; simpa using HRR.out
            have hnM : n5 ≤ M := by omega
            have HR6 : Aside0 (r6 = rs.take n5) := ⟨by rw [hr6, HRS.out]⟩
            clear HRR hr6 hL hM
            have hs1 := Wk.cut_to_ (P := Try.prog) 22 5 .i64 Try.underlying22 Wi.infoByte1 A1 cA1 rs r5 n5 hn5 (by rw [HM.out]; exact hnM) (by rw [HM.out]; exact hcA)
            rw [HM.out] at hs1
            have HN6 : Aside0 (r6.length = n5) := ⟨by rw [HR6.out, List.length_take, HM.out]; omega⟩
            have HCU : Aside0 (Kd.C (Kd.int .u8) w4 A1 n5 r6) := ⟨by
              have := Kd.C_take (m := n5) (k := Kd.int .u8) (xs := rs) (w := w4) (A := A1) HCA4.out (by rw [HM.out]; exact hnM)
              rw [← HR6.out, HN6.out] at this
              exact this⟩
            have HN5 := Aside0.mk hn5
            have HNM := Aside0.mk hnM
            have HSL := Aside0.mk Wi.infoSl
            have HA0 : Aside0 (Kd.R (Kd.int .u8) 5 w4 w.heap.size (fun _ => True) (.slice none 0 0) ([] : List Int)) := ⟨Kd.R_nil _ _ _ _ _⟩
            have HLL : Aside0 (([] : List Int).length + n5 ≤ 140737488355328) := ⟨by have := HNM.out; simp; omega⟩
            have HLB : Aside0 ((([] : List Int).length + n5) * 1 ≤ 140737488355328) := ⟨by have := HLL.out; omega⟩
            clear hnM hn5
            go_wp2_with (first
              | (at_builtin; refine Kd.R_append_rows (Kd.int .u8) (w0 := w) w.heap.size rfl (.tmp 59) (.tmp 64) 22 5 (.int .u8 0) 1 rfl Try.underlying22 Cl.infoByte rfl (by decide) (by omega) (.slice none 0 0) ([] : List Int) r6 A1 n5 cA1 (fun _ => True) (fun _ => False) rfl rfl HA0.out HCU.out (fun _ _ h => h) (fun _ h => h.elim) (fun _ _ => trivial) HB4.out HB4.out.size HLB.out ?_; intro v5 w5 ho hb hg _; obtain ⟨A5, c5', rfl⟩ := Kd.R_slice ho; rw [List.nil_append, HN6.out] at *; have HO5 := Aside0.mk ho; have HB5 := Aside0.mk hb; have HX5 := Aside0.mk (HX4.out.grown hg (by simp [Value.ownBlock])); have HZ5 := Aside0.mk (HZ4.out.grown hg (by simp [Value.ownBlock])); clear ho hb hg)
              | (refine Wk.store rfl rfl 22 (.tmp 67) (.tmp 66) rfl G 5 (.slice A5 n5 c5') [.slice A5 n5 c5'] rfl rfl rfl 28 _ HX5.out HSL.out (Nat.le_of_ble_eq_true rfl) rfl ?_; intro w6 hX hO; have HX6 := Aside0.mk (show Wk.Blk w6 G 28 (Wi.rqc r1 1 r3 r4 r5 (.slice A5 n5 c5')) from hX); have HO6 := Aside0.mk hO; have HZ6 := Aside0.mk (HZ5.out.only hO (Nat.ne_of_lt HG2.out)); clear hX hO))
            have u5 := IntWalk.i64_in r5 (by omega)
            have u6 := IntWalk.i64_in (28 + r5) (by clear u5; omega)
            refine wp_region_noPanic ?_
            refine start_ (n := 8) (S := (fun w' => Wk.Blk w' G 28 (Wi.rqc r1 1 r3 r4 r5 (.slice A5 n5 c5')))) (ds := []) #[false, false, false, false, false, false, false, false] (by kernel_rfl) rfl rfl HX6.out.drew (fun hHeld => ?_)
            refine take_ (i := 0) (N := (some 68)) (v := ?_) (a' := ?_) #[true, false, false, false, false, false, false, false] rfl rfl (by kernel_rfl) (fun _ _ _ h => h) (Or.inl ⟨by rfl, ?_⟩) hHeld ?_ ?_
            rotate_left
            · intro w' hS'
              (have hl := Wk.run_load_blk (P := Try.prog) 28 G 0 (Wi.rqc r1 1 r3 r4 r5 (.slice A5 n5 c5')) _ hS' rfl Try.underlying28 rfl HSZ.out; refine (Wk.exec_load 28 (.tmp 8) rfl _ _ rfl hl).trans ?_)
              with_reducible rfl
            rotate_left
            · simp only [Act.put, List.setIfInBounds_toArray, List.set_cons_zero, List.set_cons_succ]
              rfl
            refine pure_ (i := 1) (N := (some 69)) (v := ?_) (a' := ?_) #[true, true, false, false, false, false, false, false] rfl rfl (by kernel_rfl) (fun _ _ _ h => h) (Or.inl ⟨by rfl, ?_⟩) ?_ ?_
            rotate_left
            · intro w'
              go_simp
              with_reducible rfl
            rotate_left
            · simp only [Act.put, List.setIfInBounds_toArray, List.set_cons_zero, List.set_cons_succ]
              rfl
            refine take_ (i := 2) (N := (some 70)) (v := ?_) (a' := ?_) #[true, true, true, false, false, false, false, false] rfl rfl (by kernel_rfl) (fun _ _ _ h => h) (Or.inl ⟨by rfl, ?_⟩) hHeld ?_ ?_
            rotate_left
            · intro w' hS'
              (have c1 := hS'.at_ 4 rfl; go_simp)
              with_reducible rfl
            rotate_left
            · simp only [Act.put, List.setIfInBounds_toArray, List.set_cons_zero, List.set_cons_succ]
              rfl
            refine pure_ (i := 3) (N := (some 71)) (v := ?_) (a' := ?_) #[true, true, true, true, false, false, false, false] rfl rfl (by kernel_rfl) (fun _ _ _ h => h) (Or.inl ⟨by rfl, ?_⟩) ?_ ?_
            rotate_left
            · intro w'
              go_simp
              with_reducible rfl
            rotate_left
            · simp only [Act.put, List.setIfInBounds_toArray, List.set_cons_zero, List.set_cons_succ]
              rfl
            refine pure_ (i := 4) (N := (some 72)) (v := ?_) (a' := ?_) #[true, true, true, true, true, false, false, false] rfl rfl (by kernel_rfl) (fun _ _ _ h => h) (Or.inl ⟨by rfl, ?_⟩) ?_ ?_
            rotate_left
            · intro w'
              go_simp
              with_reducible rfl
            rotate_left
            · simp only [Act.put, List.setIfInBounds_toArray, List.set_cons_zero, List.set_cons_succ]
              rfl
            refine one_ (i := 5) (N := none) #[true, true, true, true, true, true, false, false] rfl rfl (by kernel_rfl) (by decide) (fun K hK => ?_)
            refine Wk.store_all_step (by rfl) rfl 28 (.tmp 2) (.tmp 68) rfl w.heap.size (Wi.rqc r1 1 r3 r4 r5 (.slice A5 n5 c5')) rfl rfl 28 _ HZ6.out.drew HSZ.out rfl rfl ?_
            intro w7 hX7 hO7
            have HX7 := Aside0.mk hX7
            have HO7 := Aside0.mk hO7
            clear hX7 hO7
            refine hK.out _ _ (hHeld.only HO7.out (Nat.ne_of_gt HG2.out)) (fun hHeld => ?_)
            clear hK K
            refine pure_ (i := 6) (N := (some 3)) (v := ?_) (a' := ?_) #[true, true, true, true, true, true, true, false] rfl rfl (by kernel_rfl) (fun _ _ _ h => h) (Or.inl ⟨by rfl, ?_⟩) ?_ ?_
            rotate_left
            · intro w'
              go_simp
              with_reducible rfl
            rotate_left
            · simp only [Act.put, List.setIfInBounds_toArray, List.set_cons_zero, List.set_cons_succ]
              rfl
            refine pure_ (i := 7) (N := (some 4)) (v := ?_) (a' := ?_) #[true, true, true, true, true, true, true, true] rfl rfl (by kernel_rfl) (fun _ _ _ h => h) (Or.inl ⟨by rfl, ?_⟩) ?_ ?_
            rotate_left
            · intro w'
              go_simp
              with_reducible rfl
            rotate_left
            · simp only [Act.put, List.setIfInBounds_toArray, List.set_cons_zero, List.set_cons_succ]
              rfl
            refine done_ (by kernel_rfl) ?_
            clear u5 u6
            refine NoPanic.normal ?_
            go_wp2_with fail
            refine bodyPost_ret (Wk.res_ctt rfl _ w.heap.size 28 _ _ rfl HX7.out Try.underlying28 rfl HSZ.out) rfl ?_
            have hne : ∀ q, q ∈ 5 :: (Kd.int .u8).E → q ≠ 28 := by decide
            have hB6 := Wk.Only.below HB5.out HO6.out (Nat.le_of_lt HG2.out)
            have hO7 : Wk.Only w6 w7 w.heap.size := ⟨HO7.out.os, HO7.out.tape, HO7.out.output, HO7.out.size, HO7.out.block⟩
            exact ⟨_, rfl, Wk.R_only (Wk.R_only HO5.out HX5.out hne HO6.out) HZ6.out hne hO7, Wk.Only.below hB6 hO7 (Nat.le_refl _)⟩
      · have tk : (x2 != 1) = true := by simpa using hk
        have HRR := HXE.out
        rw [if_neg (by simp), if_neg hk, HRES.out] at HRR
        obtain ⟨rfl, rfl, rfl, rfl, rfl, rfl, rfl, rfl⟩ : r1 = x1 ∧ r2 = x2 ∧ r3 = x3 ∧ r4 = x4 ∧ r5 = x5 ∧ r6 = [] ∧ r7 = 28 ∧ r8 = 0 := by simpa using HRR
        clear HRR HXE HRES hk
        go_wp2_with (first
          | refine Wk.load rfl 28 (.tmp 8) rfl (.agg (Wi.rqc r1 r2 r3 r4 r5 (.slice none 0 0)).toArray) (.pointer (some ⟨G, 0, none⟩)) rfl (Wk.run_load_blk 28 G 0 _ _ HX4.out rfl Try.underlying28 rfl HSZ.out) ?_
          | (refine Wk.store_all rfl rfl 28 (.tmp 2) (.tmp 47) rfl w.heap.size (Wi.rqc r1 r2 r3 r4 r5 (.slice none 0 0)) rfl rfl 28 _ HZ4.out HSZ.out rfl rfl ?_; intro w5 hX hO; have HX := Aside0.mk hX; have HO := Aside0.mk hO; clear hX hO))
        refine bodyPost_ret (Wk.res_ctt rfl _ w.heap.size 28 _ _ rfl HX.out Try.underlying28 rfl HSZ.out) rfl ?_
        exact ⟨_, rfl, Kd.R_nil _ _ _ _ _, Wk.Only.below HB4.out HO.out (Nat.le_refl _)⟩
    · have hb0 : (x0 != 627086611) = true := by simpa using hx0
      have HRR : Aside0 (_ = _) := ⟨HXE.out⟩
      rw [if_pos hx0, HRES.out] at HRR
      obtain ⟨rfl, rfl, rfl, rfl, rfl, rfl, rfl, rfl⟩ : r1 = 0 ∧ r2 = 0 ∧ r3 = 0 ∧ r4 = 0 ∧ r5 = 0 ∧ r6 = [] ∧ r7 = 0 ∧ r8 = 81 := by simpa using HRR.out
      clear HRES HRR HXE hx0
      go_wp2_with (refine Wk.store_all rfl rfl 28 (.tmp 2) (.tmp 24) rfl w.heap.size (Wi.rqc 0 0 0 0 0 (.slice none 0 0)) rfl rfl 28 _ HZ2.out HSZ.out rfl rfl ?_; intro w3 hX hO; have HX := Aside0.mk hX; have HO := Aside0.mk hO; clear hX hO)
      refine bodyPost_ret (Wk.res_ctt rfl _ w.heap.size 28 _ _ rfl HX.out Try.underlying28 rfl HSZ.out) rfl ?_
      exact ⟨_, rfl, Kd.R_nil _ _ _ _ _, Wk.Only.below HB2.out HO.out (Nat.le_refl _)⟩
#print axioms coamingref08_Next.calls
end Go.Proofs.Ytemhlinodccokaa
