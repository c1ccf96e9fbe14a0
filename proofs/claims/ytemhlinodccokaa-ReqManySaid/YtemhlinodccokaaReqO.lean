/- The walk of req.reader.one. -/
import Derived.Test.YtemhlinodccokaaReqP
import Derived.Test.YtemhlinodccokaaReqN
set_option linter.unusedVariables false
set_option linter.unusedSimpArgs false
namespace Go.Proofs.Ytemhlinodccokaa
open Go.RowKit Go.Proofs.YtemhlinodccokaaW.PrintWords Go.Proofs.YtemhlinodccokaaW.PrintLast Go.Proofs.YtemhlinodccokaaW.PrintMore
theorem Wi.three_cells {w : World} {base : Nat} {v : Value} {x0 x1 x2 : Int} (h : Kd.R (Kd.int .u64) 25 w base (fun _ => True) v [x0, x1, x2]) : ∃ g c, v = .slice (some ⟨g, 0, none⟩) 3 c ∧ base ≤ g ∧ g < w.heap.size ∧ 3 ≤ c ∧
    w.cell? ⟨g, 0, none⟩ = some (.int .u64 x0) ∧ w.cell? ⟨g, 1, none⟩ = some (.int .u64 x1) ∧ w.cell? ⟨g, 2, none⟩ = some (.int .u64 x2) := by
  have ho := Kd.own_of_R h
  obtain ⟨g, c, rfl, hb, hl⟩ := ho.form (by simp)
  have hc : ∀ j u, ([.int .u64 x0, .int .u64 x1, .int .u64 x2] : List Value)[j]? = some u → w.cell? ⟨g, j, none⟩ = some u := fun j u hu => by
    have := ho.cells (g := g) rfl j u hu
    rwa [add_plain] at this
  exact ⟨g, c, rfl, hb, hl, own_le ho, hc 0 _ rfl, hc 1 _ rfl, hc 2 _ rfl⟩
/-- what one leaves -/
def Wi.OneGood (m : Int → Int) (b : List Int) (V : Value) (g : Nat) (w : World) (e : Ending) (w' : World) : Prop :=
  ∃ v A' c', e = .returned (.tuple #[.int .u32 (Wi.rp1 b), .int .u64 (Wi.rp2 b), v]) ∧ Kd.R (Kd.int .u8) 5 w' w.heap.size (fun _ => True) v (Wi.rpData m b) ∧ Kd.Q (Kd.int .u8) 5 w' w.heap.size (fun _ => True) (.slice A' (Wi.rpRest m b).length c') (Wi.rpRest m b) ∧
    Wk.Blk w' g 65 [.slice A' (Wi.rpRest m b).length c', V] ∧ w.grownBy w' (some g)
def Wi.OnePost (m : Int → Int) (b : List Int) (V : Value) (g : Nat) (w : World) (e : Ending) (w' : World) : Prop :=
  (¬ Wi.rpOk m b ∧ (∃ u pv, e = .panicked [{ v := .iface u pv, recovered := false }]) ∧ Below w.heap.size w w') ∨ (Wi.rpOk m b ∧ Wi.OneGood m b V g w e w')
set_option maxHeartbeats 2000000 in
set_option maxRecDepth 100000 in
theorem Wi.one_any (m : Int → Int) (g : Nat) (A : Option Addr) (c : Nat) (b : List Int) (V : Value) (w : World) (hg : Wk.Blk w g 65 [.slice A b.length c, V]) (hm : Wi.Map w V m) (hC : Kd.C (Kd.int .u8) w A b.length b) (hc : b.length ≤ c) (hl : b.length ≤ 1099511627776) (hb : Wi.Bytes b) :
    Calls Try.prog 31 #[.pointer (some ⟨g, 0, none⟩)] w (Wi.OnePost m b V g w) := by
  have HG := Aside0.mk hg
  have HM := Aside0.mk hm
  have HC := Aside0.mk hC
  have HY := Aside0.mk hb
  have cb : w.cell? ⟨g, 0, none⟩ = some (.slice A b.length c) := hg.at_ 0 rfl
  obtain ⟨N, HN⟩ : ∃ N, Aside0 (b.length = N) := ⟨_, ⟨rfl⟩⟩
  rw [HN.out] at cb hc hl
  clear hg hm hC hb
  go_enter Try.func31, Try.ntmps31
  go_wp2_with fail
  generalize hWq : World.alloc w _ = W0
  have HB0 : Aside0 (Below w.heap.size w W0) := ⟨by rw [← hWq]; exact below_alloc (Below.refl _ _) _⟩
  have HCW : Aside0 (Kd.C (Kd.int .i64) W0 (some ⟨w.heap.size, 0, none⟩) 3 [4, 4, 8]) := ⟨by rw [← hWq]; exact Lit.reads_new w _ _ _ .i64 [4, 4, 8] rfl (by decide)⟩
  clear hWq
  obtain ⟨ns, rs, ok, HTK⟩ : ∃ (ns rs : List Int) (ok : Bool), Aside0 (wire_Take.f b [4, 4, 8] = some (ns, rs, ok) ∧ (ok = decide (16 ≤ N)) ∧ (16 ≤ N → rs = b.drop 16 ∧ ns = [Wi.rp0 b, Wi.rp1 b, Wi.rp2 b])) := by
    have hN := HN.out
    have e : wire_Take.f b [4, 4, 8] = some (Wi.takes b [4, 4, 8] []) := by unfold wire_Take.f; rw [if_pos ⟨by omega, by simp, HY.out⟩]
    by_cases h : N < 16
    · exact ⟨[], [], false, ⟨by rw [e, Wi.takes448, if_pos (by omega)], by simp; omega, fun h2 => absurd h2 (by omega)⟩⟩
    · exact ⟨_, _, true, ⟨by rw [e, Wi.takes448, if_neg (by omega)], by simp; omega, fun _ => ⟨rfl, rfl⟩⟩⟩
  have HF : Aside0 (Calls Try.prog 24 #[.slice A N c, .slice (some ⟨w.heap.size, 0, none⟩) 3 3] W0 fun e w' => ∃ v0_ v1_ : Value, e = .returned (.tuple #[v0_, v1_, .bool ok]) ∧ Kd.R (Kd.int .u64) 25 w' W0.heap.size (fun _ => True) v0_ ns ∧ Kd.R (Kd.int .u8) 5 w' W0.heap.size (fun _ => True) v1_ rs ∧ Below W0.heap.size W0 w') := ⟨by
    have := wire_Take.calls A c b (some ⟨w.heap.size, 0, none⟩) 3 [4, 4, 8] ns rs ok W0 (Kd.C_below HC.out HB0.out) (by rw [HN.out]; exact hc) HCW.out (by decide) HTK.out.1
    rw [HN.out] at this
    exact this⟩
  refine HF.out.mono ?_
  rintro e w2 ⟨v0, v1, rfl, rv0, rv1, bf⟩
  have HV := Aside0.mk rv0
  have HV1 := Aside0.mk (Kd.R_lower rv1 HB0.out.size)
  have HB2 : Aside0 (Below w.heap.size w w2) := ⟨below_then HB0.out HB0.out.size bf⟩
  have HG2 := Aside0.mk (HG.out.below_ HB2.out)
  have HM2 := Aside0.mk (HM.out.below HB2.out)
  clear rv0 rv1 bf HF HCW cb
  cases ok
  · have HBAD : Aside0 (¬ Wi.rpOk m b) := ⟨fun h => by
      have h1 : ¬ 16 ≤ N := of_decide_eq_false HTK.out.2.1.symm
      have := h.1
      rw [HN.out] at this
      omega⟩
    clear HTK HV HV1
    go_wp2_with fail
    exact ⟨rfl, .inl ⟨HBAD.out, ⟨_, _, rfl⟩, HB2.out⟩⟩
  · obtain ⟨x0, x1, x2, hns, HX⟩ : ∃ x0 x1 x2, ns = [x0, x1, x2] ∧ Aside0 (Wi.rp0 b = x0 ∧ Wi.rp1 b = x1 ∧ Wi.rp2 b = x2) := ⟨_, _, _, (HTK.out.2.2 (of_decide_eq_true HTK.out.2.1.symm)).2, ⟨rfl, rfl, rfl⟩⟩
    have h16 : 16 ≤ N := of_decide_eq_true HTK.out.2.1.symm
    have HRS := Aside0.mk (HTK.out.2.2 h16).1
    subst hns
    obtain ⟨gl, cl, rfl, hgb, hgl, hgc, c0', c1', c2'⟩ := Wi.three_cells HV.out
    obtain ⟨A1, cA1, rfl, hcA, hCA⟩ := Kd.R_reads HV1.out
    obtain ⟨M, HMM⟩ : ∃ M, Aside0 (rs.length = M) := ⟨_, ⟨rfl⟩⟩
    have HMN : Aside0 (M + 16 = N) := ⟨by rw [← HMM.out, HRS.out, List.length_drop, HN.out]; omega⟩
    rw [HMM.out] at hcA HV1 ⊢
    have hbn := Wi.rp_bnd b HY.out
    obtain ⟨e0, e1, e2⟩ := HX.out
    rw [e0, e1, e2] at hbn
    have hmb : 0 ≤ m x2 ∧ m x2 ≤ 4294967295 := HM.out.1 x2
    obtain ⟨y, HYY⟩ : ∃ y, Aside0 (m x2 = y) := ⟨_, ⟨rfl⟩⟩
    rw [HYY.out] at hmb
    have HRN : Aside0 (Wi.rpn m b = if x1 = 0 then y else 0) := ⟨by unfold Wi.rpn; rw [e1, e2, HYY.out]⟩
    have HOK : Aside0 (Wi.rpOk m b ↔ x0 = 1732535960 ∧ Wi.rpn m b ≤ M) := ⟨by
      have := HMN.out
      unfold Wi.rpOk
      rw [e0, HN.out]
      constructor
      · rintro ⟨_, h1, h2⟩; exact ⟨h1, by omega⟩
      · rintro ⟨h1, h2⟩; exact ⟨h16, h1, by omega⟩⟩
    clear e0 e1 e2 HTK HV hCA
    obtain ⟨⟨b00, b01⟩, ⟨b10, b11⟩, ⟨b20, b21⟩⟩ := hbn
    obtain ⟨bm0, bm1⟩ := hmb
    by_cases hx0 : x0 = 1732535960
    · subst hx0
      by_cases hx1 : x1 = 0
      · subst hx1
        have C2 := Aside0.mk c2'
        have HRY : Aside0 (Wi.rpn m b = y) := ⟨by rw [HRN.out, if_pos rfl]⟩
        clear c2' HRN
        go_wp2_with fail
        have u5 := IntWalk.i64_in y (by omega)
        refine wp_region_noPanic ?_
        refine start_ (n := 10) (S := (fun w' => Below w2.heap.size w2 w')) (ds := []) #[false, false, false, false, false, false, false, false, false, false] (by kernel_rfl) rfl rfl (Below.refl _ _).drew (fun hHeld => ?_)
        refine pure_ (i := 0) (N := (some 32)) (v := ?_) (a' := ?_) #[true, false, false, false, false, false, false, false, false, false] rfl rfl (by kernel_rfl) (fun _ _ _ h => h) (Or.inl ⟨by rfl, ?_⟩) ?_ ?_
        rotate_left
        · intro w'
          go_simp
          with_reducible rfl
        rotate_left
        · simp only [Act.put, List.setIfInBounds_toArray, List.set_cons_zero, List.set_cons_succ]
          rfl
        refine pure_ (i := 1) (N := (some 33)) (v := ?_) (a' := ?_) #[true, true, false, false, false, false, false, false, false, false] rfl rfl (by kernel_rfl) (fun _ _ _ h => h) (Or.inl ⟨by rfl, ?_⟩) ?_ ?_
        rotate_left
        · intro w'
          go_simp
          with_reducible rfl
        rotate_left
        · simp only [Act.put, List.setIfInBounds_toArray, List.set_cons_zero, List.set_cons_succ]
          rfl
        refine pure_ (i := 2) (N := (some 34)) (v := ?_) (a' := ?_) #[true, true, true, false, false, false, false, false, false, false] rfl rfl (by kernel_rfl) (fun _ _ _ h => h) (Or.inl ⟨by rfl, ?_⟩) ?_ ?_
        rotate_left
        · intro w'
          go_simp
          with_reducible rfl
        rotate_left
        · simp only [Act.put, List.setIfInBounds_toArray, List.set_cons_zero, List.set_cons_succ]
          rfl
        refine take_ (i := 3) (N := (some 35)) (v := ?_) (a' := ?_) #[true, true, true, true, false, false, false, false, false, false] rfl rfl (by kernel_rfl) (fun _ _ _ h => h) (Or.inl ⟨by rfl, ?_⟩) hHeld ?_ ?_
        rotate_left
        · intro w' hS'
          (have c1 := (HG2.out.below_ hS').at_ 1 rfl; go_simp)
          with_reducible rfl
        rotate_left
        · simp only [Act.put, List.setIfInBounds_toArray, List.set_cons_zero, List.set_cons_succ]
          rfl
        refine pure_ (i := 4) (N := (some 36)) (v := ?_) (a' := ?_) #[true, true, true, true, true, false, false, false, false, false] rfl rfl (by kernel_rfl) (fun _ _ _ h => h) (Or.inl ⟨by rfl, ?_⟩) ?_ ?_
        rotate_left
        · intro w'
          go_simp
          with_reducible rfl
        rotate_left
        · simp only [Act.put, List.setIfInBounds_toArray, List.set_cons_zero, List.set_cons_succ]
          rfl
        refine pure_ (i := 5) (N := (some 37)) (v := ?_) (a' := ?_) #[true, true, true, true, true, true, false, false, false, false] rfl rfl (by kernel_rfl) (fun _ _ _ h => h) (Or.inl ⟨by rfl, ?_⟩) ?_ ?_
        rotate_left
        · intro w'
          go_simp
          with_reducible rfl
        rotate_left
        · simp only [Act.put, List.setIfInBounds_toArray, List.set_cons_zero, List.set_cons_succ]
          rfl
        refine take_ (i := 6) (N := (some 38)) (v := ?_) (a' := ?_) #[true, true, true, true, true, true, true, false, false, false] rfl rfl (by kernel_rfl) (fun _ _ _ h => h) (Or.inl ⟨by rfl, ?_⟩) hHeld ?_ ?_
        rotate_left
        · intro w' hS'
          (have c1 := (hS'.cell (p := ⟨gl, 2, none⟩) hgl).trans C2.out; go_simp)
          with_reducible rfl
        rotate_left
        · simp only [Act.put, List.setIfInBounds_toArray, List.set_cons_zero, List.set_cons_succ]
          rfl
        refine take_ (i := 7) (N := (some 39)) (v := ?_) (a' := ?_) #[true, true, true, true, true, true, true, true, false, false] rfl rfl (by kernel_rfl) (fun _ _ _ h => h) (Or.inl ⟨by rfl, ?_⟩) hHeld ?_ ?_
        rotate_left
        · intro w' hS'
          (have c1 := (HM2.out.below hS').run x2 b20 (by omega); rw [HYY.out] at c1; go_simp)
          with_reducible rfl
        rotate_left
        · simp only [Act.put, List.setIfInBounds_toArray, List.set_cons_zero, List.set_cons_succ]
          rfl
        refine pure_ (i := 8) (N := (some 40)) (v := ?_) (a' := ?_) #[true, true, true, true, true, true, true, true, true, false] rfl rfl (by kernel_rfl) (fun _ _ _ h => h) (Or.inl ⟨by rfl, ?_⟩) ?_ ?_
        rotate_left
        · intro w'
          go_simp
          with_reducible rfl
        rotate_left
        · simp only [Act.put, List.setIfInBounds_toArray, List.set_cons_zero, List.set_cons_succ]
          rfl
        refine pure_ (i := 9) (N := (some 8)) (v := ?_) (a' := ?_) #[true, true, true, true, true, true, true, true, true, true] rfl rfl (by kernel_rfl) (fun _ _ _ h => h) (Or.inl ⟨by rfl, ?_⟩) ?_ ?_
        rotate_left
        · intro w'
          go_simp
          with_reducible rfl
        rotate_left
        · simp only [Act.put, List.setIfInBounds_toArray, List.set_cons_zero, List.set_cons_succ]
          rfl
        refine done_ (by kernel_rfl) ?_
        clear u5
        refine NoPanic.normal ?_
        have HB3 : Aside0 (Below w.heap.size w w2.drew) := ⟨below_drew HB2.out⟩
        have HG3 := Aside0.mk HG2.out.drew
        have HV3 := Aside0.mk (Kd.R_below HV1.out (Below.refl _ _).drew)
        have C31 : Aside0 (w2.drew.cell? ⟨gl, 1, none⟩ = some (.int .u64 0)) := ⟨c1'⟩
        have C32 : Aside0 (w2.drew.cell? ⟨gl, 2, none⟩ = some (.int .u64 x2)) := ⟨C2.out⟩
        have HGL3 : Aside0 (gl < w2.drew.heap.size) := ⟨hgl⟩
        have HGN : Aside0 (gl ≠ g) := ⟨fun he => by have := HB0.out.size; have := HG.out.lt; omega⟩
        clear HM2 HV1 HG2 c0' c1' C2 hHeld
        generalize w2.drew = w3 at *
        by_cases hM : (M : Int) < y
        · have HBAD : Aside0 (¬ Wi.rpOk m b) := ⟨fun h => by have := (HOK.out.1 h).2; rw [HRY.out] at this; omega⟩
          clear HV3
          go_wp2_with fail
          exact ⟨rfl, .inl ⟨HBAD.out, ⟨_, _, rfl⟩, HB3.out⟩⟩
        · obtain ⟨n5, hn5⟩ := Int.eq_ofNat_of_zero_le bm0
          have hM' : y ≤ M := by omega
          have HNE := Aside0.mk hn5
          have HNM : Aside0 (n5 ≤ M) := ⟨by omega⟩
          have HNN : Aside0 (Wi.rpn m b ≤ M ∧ Wi.rpn m b = (n5 : Int)) := ⟨by rw [HRY.out]; exact ⟨hM', hn5⟩⟩
          clear hn5 hM
          have HOKK : Aside0 (Wi.rpOk m b) := ⟨HOK.out.2 ⟨by simp, HNN.out.1⟩⟩
          have HDD : Aside0 ((rs.take n5).length = n5 ∧ rs.take n5 = Wi.rpData m b ∧ rs.drop n5 = Wi.rpRest m b ∧ M - n5 = (Wi.rpRest m b).length) := ⟨by
            have h1 := HNN.out.2
            have h3 := HNM.out
            have h2 := HMM.out
            have e1 : rs.take n5 = Wi.rpData m b := by unfold Wi.rpData; rw [HRS.out, h1, Int.toNat_natCast]
            have e2 : rs.drop n5 = Wi.rpRest m b := by unfold Wi.rpRest; rw [HRS.out, h1, Int.toNat_natCast]
            exact ⟨by rw [List.length_take]; omega, e1, e2, by rw [← e2, List.length_drop, h2]⟩⟩
          obtain ⟨A2, hs1, hq1⟩ := Wk.cut_from_Q (P := Try.prog) 22 5 .i64 Try.underlying22 Wi.infoByte1 .u8 A1 cA1 rs y n5 HNE.out (by rw [HMM.out]; exact HNM.out)
          have hs2 := Wk.cut_to_ (P := Try.prog) 22 5 .i64 Try.underlying22 Wi.infoByte1 A1 cA1 rs y n5 HNE.out (by rw [HMM.out]; exact HNM.out) (by rw [HMM.out]; exact hcA)
          rw [HMM.out] at hs1 hs2
          have HQ3 := Aside0.mk (hq1 w3 w.heap.size (fun _ => True) (by rw [HMM.out]; exact Kd.Q_of_R HV3.out))
          rw [HMM.out] at HQ3
          have HSL := Aside0.mk Wi.infoSl
          clear hq1
          go_wp2_with (refine Wk.store rfl rfl 22 (.tmp 51) (.tmp 49) rfl g 0 (.slice A2 (M - n5) (cA1 - n5)) [.slice A2 (M - n5) (cA1 - n5)] rfl rfl rfl 65 _ HG3.out HSL.out (Nat.le_of_ble_eq_true rfl) rfl ?_; intro w4 hX hO; have HG4 := Aside0.mk (show Wk.Blk w4 g 65 [.slice A2 (M - n5) (cA1 - n5), V] from hX); have HO4 := Aside0.mk hO; clear hX hO)
          have hne4 : ∀ q, q ∈ 5 :: (Kd.int .u8).E → q ≠ 65 := by decide
          have HV4 := Aside0.mk (Wk.R_only HV3.out HG3.out hne4 HO4.out)
          have HQ4 : Aside0 (Kd.Q (Kd.int .u8) 5 w4 w.heap.size (fun _ => True) (.slice A2 (M - n5) (cA1 - n5)) (rs.drop n5)) := ⟨Kd.Q_mono (Kd.Q_grown (Kd.Q_types HQ3.out HG3.out.out hne4) HO4.out.grown (fun k hk he => hk.2 (by injection he))) (fun _ h => h.1)⟩
          have HGL4 : Aside0 (gl ≠ g) := ⟨HGN.out⟩
          have D1 : Aside0 (w4.cell? ⟨gl, 1, none⟩ = some (.int .u64 0)) := ⟨by rw [World.cell?_of_block (HO4.out.block gl HGN.out)]; exact C31.out⟩
          have D2 : Aside0 (w4.cell? ⟨gl, 2, none⟩ = some (.int .u64 x2)) := ⟨by rw [World.cell?_of_block (HO4.out.block gl HGN.out)]; exact C32.out⟩
          have HGL5 : Aside0 (gl < w4.heap.size) := ⟨by rw [HO4.out.size]; exact HGL3.out⟩
          have HCU : Aside0 (Kd.C (Kd.int .u8) w4 A1 n5 (rs.take n5)) := ⟨by
            obtain ⟨Ax, cx, he, _, hC⟩ := Kd.R_reads HV4.out
            injection he with h1 h2 h3
            subst h1
            have := Kd.C_take (m := n5) hC (by rw [HMM.out]; exact HNM.out)
            rwa [HDD.out.1] at this⟩
          have u1 := IntWalk.u32_in 0 (by omega)
          refine wp_region_noPanic ?_
          refine start_ (n := 14) (S := (fun w' => Below w4.heap.size w4 w')) (ds := []) #[false, false, false, false, false, false, false, false, false, false, false, false, false, false] (by kernel_rfl) rfl rfl (Below.refl _ _).drew (fun hHeld => ?_)
          refine pure_ (i := 0) (N := (some 52)) (v := ?_) (a' := ?_) #[true, false, false, false, false, false, false, false, false, false, false, false, false, false] rfl rfl (by kernel_rfl) (fun _ _ _ h => h) (Or.inl ⟨by rfl, ?_⟩) ?_ ?_
          rotate_left
          · intro w'
            go_simp
            with_reducible rfl
          rotate_left
          · simp only [Act.put, List.setIfInBounds_toArray, List.set_cons_zero, List.set_cons_succ]
            rfl
          refine pure_ (i := 1) (N := (some 53)) (v := ?_) (a' := ?_) #[true, true, false, false, false, false, false, false, false, false, false, false, false, false] rfl rfl (by kernel_rfl) (fun _ _ _ h => h) (Or.inl ⟨by rfl, ?_⟩) ?_ ?_
          rotate_left
          · intro w'
            go_simp
            with_reducible rfl
          rotate_left
          · simp only [Act.put, List.setIfInBounds_toArray, List.set_cons_zero, List.set_cons_succ]
            rfl
          refine take_ (i := 2) (N := (some 54)) (v := ?_) (a' := ?_) #[true, true, true, false, false, false, false, false, false, false, false, false, false, false] rfl rfl (by kernel_rfl) (fun _ _ _ h => h) (Or.inl ⟨by rfl, ?_⟩) hHeld ?_ ?_
          rotate_left
          · intro w' hS'
            (have c1 := (hS'.cell (p := ⟨gl, 1, none⟩) HGL5.out).trans D1.out; go_simp)
            with_reducible rfl
          rotate_left
          · simp only [Act.put, List.setIfInBounds_toArray, List.set_cons_zero, List.set_cons_succ]
            rfl
          refine pure_ (i := 3) (N := (some 55)) (v := ?_) (a' := ?_) #[true, true, true, true, false, false, false, false, false, false, false, false, false, false] rfl rfl (by kernel_rfl) (fun _ _ _ h => h) (Or.inl ⟨by rfl, ?_⟩) ?_ ?_
          rotate_left
          · intro w'
            go_simp
            with_reducible rfl
          rotate_left
          · simp only [Act.put, List.setIfInBounds_toArray, List.set_cons_zero, List.set_cons_succ]
            rfl
          refine pure_ (i := 4) (N := (some 56)) (v := ?_) (a' := ?_) #[true, true, true, true, true, false, false, false, false, false, false, false, false, false] rfl rfl (by kernel_rfl) (fun _ _ _ h => h) (Or.inl ⟨by rfl, ?_⟩) ?_ ?_
          rotate_left
          · intro w'
            go_simp
            with_reducible rfl
          rotate_left
          · simp only [Act.put, List.setIfInBounds_toArray, List.set_cons_zero, List.set_cons_succ]
            rfl
          refine pure_ (i := 5) (N := (some 57)) (v := ?_) (a' := ?_) #[true, true, true, true, true, true, false, false, false, false, false, false, false, false] rfl rfl (by kernel_rfl) (fun _ _ _ h => h) (Or.inl ⟨by rfl, ?_⟩) ?_ ?_
          rotate_left
          · intro w'
            go_simp
            with_reducible rfl
          rotate_left
          · simp only [Act.put, List.setIfInBounds_toArray, List.set_cons_zero, List.set_cons_succ]
            rfl
          refine take_ (i := 6) (N := (some 58)) (v := ?_) (a' := ?_) #[true, true, true, true, true, true, true, false, false, false, false, false, false, false] rfl rfl (by kernel_rfl) (fun _ _ _ h => h) (Or.inl ⟨by rfl, ?_⟩) hHeld ?_ ?_
          rotate_left
          · intro w' hS'
            (have c1 := (hS'.cell (p := ⟨gl, 2, none⟩) HGL5.out).trans D2.out; go_simp)
            with_reducible rfl
          rotate_left
          · simp only [Act.put, List.setIfInBounds_toArray, List.set_cons_zero, List.set_cons_succ]
            rfl
          refine pure_ (i := 7) (N := (some 59)) (v := ?_) (a' := ?_) #[true, true, true, true, true, true, true, true, false, false, false, false, false, false] rfl rfl (by kernel_rfl) (fun _ _ _ h => h) (Or.inl ⟨by rfl, ?_⟩) ?_ ?_
          rotate_left
          · intro w'
            go_simp
            with_reducible rfl
          rotate_left
          · simp only [Act.put, List.setIfInBounds_toArray, List.set_cons_zero, List.set_cons_succ]
            rfl
          refine pure_ (i := 8) (N := (some 60)) (v := ?_) (a' := ?_) #[true, true, true, true, true, true, true, true, true, false, false, false, false, false] rfl rfl (by kernel_rfl) (fun _ _ _ h => h) (Or.inl ⟨by rfl, ?_⟩) ?_ ?_
          rotate_left
          · intro w'
            go_simp
            with_reducible rfl
          rotate_left
          · simp only [Act.put, List.setIfInBounds_toArray, List.set_cons_zero, List.set_cons_succ]
            rfl
          refine pure_ (i := 9) (N := (some 61)) (v := ?_) (a' := ?_) #[true, true, true, true, true, true, true, true, true, true, false, false, false, false] rfl rfl (by kernel_rfl) (fun _ _ _ h => h) (Or.inl ⟨by rfl, ?_⟩) ?_ ?_
          rotate_left
          · intro w'
            go_simp
            with_reducible rfl
          rotate_left
          · simp only [Act.put, List.setIfInBounds_toArray, List.set_cons_zero, List.set_cons_succ]
            rfl
          refine one_ (i := 10) (N := (some 62)) #[true, true, true, true, true, true, true, true, true, true, true, false, false, false] rfl rfl (by kernel_rfl) (by decide) (fun K hK => ?_)
          refine call_ 26 #[.slice A1 n5 cA1] (by rfl) rfl (by go_simp) ?_
          have HCC := clone_.calls A1 cA1 (rs.take n5) (rs.take n5) w4.drew (by rw [HDD.out.1]; exact Kd.C_below HCU.out hHeld) (by rw [HDD.out.1]; have := HNM.out; omega) (by unfold clone_.f; rw [if_pos (by rw [HDD.out.1]; have := HNM.out; have := HMN.out; omega)])
          rw [HDD.out.1] at HCC
          refine HCC.mono ?_
          rintro e w5 ⟨v5, rfl, rv, bv⟩
          have HV5 := Aside0.mk rv
          have HB5 := Aside0.mk (below_then hHeld hHeld.size bv)
          clear rv bv HCC
          refine ⟨_, rfl, ?_⟩
          refine hK.out _ _ HB5.out (fun hHeld => ?_)
          clear hK K
          refine norm_ (a' := ?_) ?_ ?_
          rotate_left
          · show Act.put _ (some 62) _ = _
            simp only [Act.put, List.setIfInBounds_toArray, List.set_cons_zero, List.set_cons_succ]
            rfl
          refine pure_ (i := 11) (N := (some 2)) (v := ?_) (a' := ?_) #[true, true, true, true, true, true, true, true, true, true, true, true, false, false] rfl rfl (by kernel_rfl) (fun _ _ _ h => h) (Or.inl ⟨by rfl, ?_⟩) ?_ ?_
          rotate_left
          · intro w'
            go_simp
            with_reducible rfl
          rotate_left
          · simp only [Act.put, List.setIfInBounds_toArray, List.set_cons_zero, List.set_cons_succ]
            rfl
          refine pure_ (i := 12) (N := (some 3)) (v := ?_) (a' := ?_) #[true, true, true, true, true, true, true, true, true, true, true, true, true, false] rfl rfl (by kernel_rfl) (fun _ _ _ h => h) (Or.inl ⟨by rfl, ?_⟩) ?_ ?_
          rotate_left
          · intro w'
            go_simp
            with_reducible rfl
          rotate_left
          · simp only [Act.put, List.setIfInBounds_toArray, List.set_cons_zero, List.set_cons_succ]
            rfl
          refine pure_ (i := 13) (N := (some 4)) (v := ?_) (a' := ?_) #[true, true, true, true, true, true, true, true, true, true, true, true, true, true] rfl rfl (by kernel_rfl) (fun _ _ _ h => h) (Or.inl ⟨by rfl, ?_⟩) ?_ ?_
          rotate_left
          · intro w'
            go_simp
            with_reducible rfl
          rotate_left
          · simp only [Act.put, List.setIfInBounds_toArray, List.set_cons_zero, List.set_cons_succ]
            rfl
          refine done_ (by kernel_rfl) ?_
          clear u1
          refine NoPanic.normal ?_
          go_wp2_with fail
          go_ret3
          have hgb : w.grownBy w5 (some g) := World.grownBy.trans (grown_of_below HB3.out (some g)) (World.grownBy.trans HO4.out.grown (grown_of_below HB5.out (some g)))
          refine .inr ⟨HOKK.out, v5, A2, cA1 - n5, ?_, ?_, ?_, ?_, hgb⟩
          · obtain ⟨e0, e1, e2⟩ := HX.out
            rw [e1, e2]
            rfl
          · rw [← HDD.out.2.1]; exact Kd.R_lower HV5.out (by have := HB3.out.size; have := HO4.out.size; simp; omega)
          · rw [← HDD.out.2.2.2, ← HDD.out.2.2.1]; exact Kd.Q_below HQ4.out HB5.out
          · rw [← HDD.out.2.2.2]; exact HG4.out.below_ HB5.out
      · have tk : (x1 == 0) = false := by simpa using hx1
        have HB3 := HB2
        have HG3 := HG2
        have HV3 := HV1
        have C31 := Aside0.mk c1'
        have C32 := Aside0.mk c2'
        have HGL3 := Aside0.mk hgl
        have HGN : Aside0 (gl ≠ g) := ⟨fun he => by have := HB0.out.size; have := HG.out.lt; omega⟩
        obtain ⟨w3, hw3⟩ : ∃ w3, w3 = w2 := ⟨_, rfl⟩
        subst hw3
        obtain ⟨n5, hn5⟩ : ∃ n5 : Nat, n5 = 0 := ⟨_, rfl⟩
        have HNE : Aside0 ((0 : Int) = n5) := ⟨by rw [hn5]; rfl⟩
        have HNM : Aside0 (n5 ≤ M) := ⟨by omega⟩
        have HNN : Aside0 (Wi.rpn m b ≤ M ∧ Wi.rpn m b = (n5 : Int)) := ⟨by rw [HRN.out, if_neg hx1, hn5]; simp⟩
        have hM' : (0 : Int) ≤ M := by omega
        clear HM2 HV1 HG2 c2' hn5 hx1
        have HOKK : Aside0 (Wi.rpOk m b) := ⟨HOK.out.2 ⟨by simp, HNN.out.1⟩⟩
        have HDD : Aside0 ((rs.take n5).length = n5 ∧ rs.take n5 = Wi.rpData m b ∧ rs.drop n5 = Wi.rpRest m b ∧ M - n5 = (Wi.rpRest m b).length) := ⟨by
          have h1 := HNN.out.2
          have h3 := HNM.out
          have h2 := HMM.out
          have e1 : rs.take n5 = Wi.rpData m b := by unfold Wi.rpData; rw [HRS.out, h1, Int.toNat_natCast]
          have e2 : rs.drop n5 = Wi.rpRest m b := by unfold Wi.rpRest; rw [HRS.out, h1, Int.toNat_natCast]
          exact ⟨by rw [List.length_take]; omega, e1, e2, by rw [← e2, List.length_drop, h2]⟩⟩
        obtain ⟨A2, hs1, hq1⟩ := Wk.cut_from_Q (P := Try.prog) 22 5 .i64 Try.underlying22 Wi.infoByte1 .u8 A1 cA1 rs 0 n5 HNE.out (by rw [HMM.out]; exact HNM.out)
        have hs2 := Wk.cut_to_ (P := Try.prog) 22 5 .i64 Try.underlying22 Wi.infoByte1 A1 cA1 rs 0 n5 HNE.out (by rw [HMM.out]; exact HNM.out) (by rw [HMM.out]; exact hcA)
        rw [HMM.out] at hs1 hs2
        have HQ3 := Aside0.mk (hq1 w3 w.heap.size (fun _ => True) (by rw [HMM.out]; exact Kd.Q_of_R HV3.out))
        rw [HMM.out] at HQ3
        have HSL := Aside0.mk Wi.infoSl
        clear hq1
        go_wp2_with (refine Wk.store rfl rfl 22 (.tmp 51) (.tmp 49) rfl g 0 (.slice A2 (M - n5) (cA1 - n5)) [.slice A2 (M - n5) (cA1 - n5)] rfl rfl rfl 65 _ HG3.out HSL.out (Nat.le_of_ble_eq_true rfl) rfl ?_; intro w4 hX hO; have HG4 := Aside0.mk (show Wk.Blk w4 g 65 [.slice A2 (M - n5) (cA1 - n5), V] from hX); have HO4 := Aside0.mk hO; clear hX hO)
        have hne4 : ∀ q, q ∈ 5 :: (Kd.int .u8).E → q ≠ 65 := by decide
        have HV4 := Aside0.mk (Wk.R_only HV3.out HG3.out hne4 HO4.out)
        have HQ4 : Aside0 (Kd.Q (Kd.int .u8) 5 w4 w.heap.size (fun _ => True) (.slice A2 (M - n5) (cA1 - n5)) (rs.drop n5)) := ⟨Kd.Q_mono (Kd.Q_grown (Kd.Q_types HQ3.out HG3.out.out hne4) HO4.out.grown (fun k hk he => hk.2 (by injection he))) (fun _ h => h.1)⟩
        have HGL4 : Aside0 (gl ≠ g) := ⟨HGN.out⟩
        have D1 : Aside0 (w4.cell? ⟨gl, 1, none⟩ = some (.int .u64 x1)) := ⟨by rw [World.cell?_of_block (HO4.out.block gl HGN.out)]; exact C31.out⟩
        have D2 : Aside0 (w4.cell? ⟨gl, 2, none⟩ = some (.int .u64 x2)) := ⟨by rw [World.cell?_of_block (HO4.out.block gl HGN.out)]; exact C32.out⟩
        have HGL5 : Aside0 (gl < w4.heap.size) := ⟨by rw [HO4.out.size]; exact HGL3.out⟩
        have HCU : Aside0 (Kd.C (Kd.int .u8) w4 A1 n5 (rs.take n5)) := ⟨by
          obtain ⟨Ax, cx, he, _, hC⟩ := Kd.R_reads HV4.out
          injection he with h1 h2 h3
          subst h1
          have := Kd.C_take (m := n5) hC (by rw [HMM.out]; exact HNM.out)
          rwa [HDD.out.1] at this⟩
        have u1 := IntWalk.u32_in x1 (by omega)
        refine wp_region_noPanic ?_
        refine start_ (n := 14) (S := (fun w' => Below w4.heap.size w4 w')) (ds := []) #[false, false, false, false, false, false, false, false, false, false, false, false, false, false] (by kernel_rfl) rfl rfl (Below.refl _ _).drew (fun hHeld => ?_)
        refine pure_ (i := 0) (N := (some 52)) (v := ?_) (a' := ?_) #[true, false, false, false, false, false, false, false, false, false, false, false, false, false] rfl rfl (by kernel_rfl) (fun _ _ _ h => h) (Or.inl ⟨by rfl, ?_⟩) ?_ ?_
        rotate_left
        · intro w'
          go_simp
          with_reducible rfl
        rotate_left
        · simp only [Act.put, List.setIfInBounds_toArray, List.set_cons_zero, List.set_cons_succ]
          rfl
        refine pure_ (i := 1) (N := (some 53)) (v := ?_) (a' := ?_) #[true, true, false, false, false, false, false, false, false, false, false, false, false, false] rfl rfl (by kernel_rfl) (fun _ _ _ h => h) (Or.inl ⟨by rfl, ?_⟩) ?_ ?_
        rotate_left
        · intro w'
          go_simp
          with_reducible rfl
        rotate_left
        · simp only [Act.put, List.setIfInBounds_toArray, List.set_cons_zero, List.set_cons_succ]
          rfl
        refine take_ (i := 2) (N := (some 54)) (v := ?_) (a' := ?_) #[true, true, true, false, false, false, false, false, false, false, false, false, false, false] rfl rfl (by kernel_rfl) (fun _ _ _ h => h) (Or.inl ⟨by rfl, ?_⟩) hHeld ?_ ?_
        rotate_left
        · intro w' hS'
          (have c1 := (hS'.cell (p := ⟨gl, 1, none⟩) HGL5.out).trans D1.out; go_simp)
          with_reducible rfl
        rotate_left
        · simp only [Act.put, List.setIfInBounds_toArray, List.set_cons_zero, List.set_cons_succ]
          rfl
        refine pure_ (i := 3) (N := (some 55)) (v := ?_) (a' := ?_) #[true, true, true, true, false, false, false, false, false, false, false, false, false, false] rfl rfl (by kernel_rfl) (fun _ _ _ h => h) (Or.inl ⟨by rfl, ?_⟩) ?_ ?_
        rotate_left
        · intro w'
          go_simp
          with_reducible rfl
        rotate_left
        · simp only [Act.put, List.setIfInBounds_toArray, List.set_cons_zero, List.set_cons_succ]
          rfl
        refine pure_ (i := 4) (N := (some 56)) (v := ?_) (a' := ?_) #[true, true, true, true, true, false, false, false, false, false, false, false, false, false] rfl rfl (by kernel_rfl) (fun _ _ _ h => h) (Or.inl ⟨by rfl, ?_⟩) ?_ ?_
        rotate_left
        · intro w'
          go_simp
          with_reducible rfl
        rotate_left
        · simp only [Act.put, List.setIfInBounds_toArray, List.set_cons_zero, List.set_cons_succ]
          rfl
        refine pure_ (i := 5) (N := (some 57)) (v := ?_) (a' := ?_) #[true, true, true, true, true, true, false, false, false, false, false, false, false, false] rfl rfl (by kernel_rfl) (fun _ _ _ h => h) (Or.inl ⟨by rfl, ?_⟩) ?_ ?_
        rotate_left
        · intro w'
          go_simp
          with_reducible rfl
        rotate_left
        · simp only [Act.put, List.setIfInBounds_toArray, List.set_cons_zero, List.set_cons_succ]
          rfl
        refine take_ (i := 6) (N := (some 58)) (v := ?_) (a' := ?_) #[true, true, true, true, true, true, true, false, false, false, false, false, false, false] rfl rfl (by kernel_rfl) (fun _ _ _ h => h) (Or.inl ⟨by rfl, ?_⟩) hHeld ?_ ?_
        rotate_left
        · intro w' hS'
          (have c1 := (hS'.cell (p := ⟨gl, 2, none⟩) HGL5.out).trans D2.out; go_simp)
          with_reducible rfl
        rotate_left
        · simp only [Act.put, List.setIfInBounds_toArray, List.set_cons_zero, List.set_cons_succ]
          rfl
        refine pure_ (i := 7) (N := (some 59)) (v := ?_) (a' := ?_) #[true, true, true, true, true, true, true, true, false, false, false, false, false, false] rfl rfl (by kernel_rfl) (fun _ _ _ h => h) (Or.inl ⟨by rfl, ?_⟩) ?_ ?_
        rotate_left
        · intro w'
          go_simp
          with_reducible rfl
        rotate_left
        · simp only [Act.put, List.setIfInBounds_toArray, List.set_cons_zero, List.set_cons_succ]
          rfl
        refine pure_ (i := 8) (N := (some 60)) (v := ?_) (a' := ?_) #[true, true, true, true, true, true, true, true, true, false, false, false, false, false] rfl rfl (by kernel_rfl) (fun _ _ _ h => h) (Or.inl ⟨by rfl, ?_⟩) ?_ ?_
        rotate_left
        · intro w'
          go_simp
          with_reducible rfl
        rotate_left
        · simp only [Act.put, List.setIfInBounds_toArray, List.set_cons_zero, List.set_cons_succ]
          rfl
        refine pure_ (i := 9) (N := (some 61)) (v := ?_) (a' := ?_) #[true, true, true, true, true, true, true, true, true, true, false, false, false, false] rfl rfl (by kernel_rfl) (fun _ _ _ h => h) (Or.inl ⟨by rfl, ?_⟩) ?_ ?_
        rotate_left
        · intro w'
          go_simp
          with_reducible rfl
        rotate_left
        · simp only [Act.put, List.setIfInBounds_toArray, List.set_cons_zero, List.set_cons_succ]
          rfl
        refine one_ (i := 10) (N := (some 62)) #[true, true, true, true, true, true, true, true, true, true, true, false, false, false] rfl rfl (by kernel_rfl) (by decide) (fun K hK => ?_)
        refine call_ 26 #[.slice A1 n5 cA1] (by rfl) rfl (by go_simp) ?_
        have HCC := clone_.calls A1 cA1 (rs.take n5) (rs.take n5) w4.drew (by rw [HDD.out.1]; exact Kd.C_below HCU.out hHeld) (by rw [HDD.out.1]; have := HNM.out; omega) (by unfold clone_.f; rw [if_pos (by rw [HDD.out.1]; have := HNM.out; have := HMN.out; omega)])
        rw [HDD.out.1] at HCC
        refine HCC.mono ?_
        rintro e w5 ⟨v5, rfl, rv, bv⟩
        have HV5 := Aside0.mk rv
        have HB5 := Aside0.mk (below_then hHeld hHeld.size bv)
        clear rv bv HCC
        refine ⟨_, rfl, ?_⟩
        refine hK.out _ _ HB5.out (fun hHeld => ?_)
        clear hK K
        refine norm_ (a' := ?_) ?_ ?_
        rotate_left
        · show Act.put _ (some 62) _ = _
          simp only [Act.put, List.setIfInBounds_toArray, List.set_cons_zero, List.set_cons_succ]
          rfl
        refine pure_ (i := 11) (N := (some 2)) (v := ?_) (a' := ?_) #[true, true, true, true, true, true, true, true, true, true, true, true, false, false] rfl rfl (by kernel_rfl) (fun _ _ _ h => h) (Or.inl ⟨by rfl, ?_⟩) ?_ ?_
        rotate_left
        · intro w'
          go_simp
          with_reducible rfl
        rotate_left
        · simp only [Act.put, List.setIfInBounds_toArray, List.set_cons_zero, List.set_cons_succ]
          rfl
        refine pure_ (i := 12) (N := (some 3)) (v := ?_) (a' := ?_) #[true, true, true, true, true, true, true, true, true, true, true, true, true, false] rfl rfl (by kernel_rfl) (fun _ _ _ h => h) (Or.inl ⟨by rfl, ?_⟩) ?_ ?_
        rotate_left
        · intro w'
          go_simp
          with_reducible rfl
        rotate_left
        · simp only [Act.put, List.setIfInBounds_toArray, List.set_cons_zero, List.set_cons_succ]
          rfl
        refine pure_ (i := 13) (N := (some 4)) (v := ?_) (a' := ?_) #[true, true, true, true, true, true, true, true, true, true, true, true, true, true] rfl rfl (by kernel_rfl) (fun _ _ _ h => h) (Or.inl ⟨by rfl, ?_⟩) ?_ ?_
        rotate_left
        · intro w'
          go_simp
          with_reducible rfl
        rotate_left
        · simp only [Act.put, List.setIfInBounds_toArray, List.set_cons_zero, List.set_cons_succ]
          rfl
        refine done_ (by kernel_rfl) ?_
        clear u1
        refine NoPanic.normal ?_
        go_wp2_with fail
        go_ret3
        have hgb : w.grownBy w5 (some g) := World.grownBy.trans (grown_of_below HB3.out (some g)) (World.grownBy.trans HO4.out.grown (grown_of_below HB5.out (some g)))
        refine .inr ⟨HOKK.out, v5, A2, cA1 - n5, ?_, ?_, ?_, ?_, hgb⟩
        · obtain ⟨e0, e1, e2⟩ := HX.out
          rw [e1, e2]
          rfl
        · rw [← HDD.out.2.1]; exact Kd.R_lower HV5.out (by have := HB3.out.size; have := HO4.out.size; simp; omega)
        · rw [← HDD.out.2.2.2, ← HDD.out.2.2.1]; exact Kd.Q_below HQ4.out HB5.out
        · rw [← HDD.out.2.2.2]; exact HG4.out.below_ HB5.out
    · have HBAD : Aside0 (¬ Wi.rpOk m b) := ⟨fun h => hx0 (HOK.out.1 h).1⟩
      have hb0 : (x0 != 1732535960) = true := by simpa using hx0
      clear HV1
      go_wp2_with fail
      exact ⟨rfl, .inl ⟨HBAD.out, ⟨_, _, rfl⟩, HB2.out⟩⟩
#print axioms Wi.one_any
end Go.Proofs.Ytemhlinodccokaa
