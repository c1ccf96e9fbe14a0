/- The walk of req.Next. -/
import Derived.Test.YtemhlinodccokaaReqM
import Derived.Test.YtemhlinodccokaaWireM1
import Derived.Test.YtemhlinodccokaaWk
import Derived.Test.YtemhlinodccokaaPBasex
import Derived.Laws.ResultCell
import Derived.Laws.Rows
set_option linter.unusedVariables false
set_option linter.unusedSimpArgs false
namespace Go.Proofs.Ytemhlinodccokaa
open Go.RowKit Go.Proofs.YtemhlinodccokaaW.PrintWords Go.Proofs.YtemhlinodccokaaW.PrintLast Go.Proofs.YtemhlinodccokaaW.PrintMore
/-- a request's cells -/
def Wi.rqc (x1 x2 x3 x4 x5 : Int) (v : Value) : List Value := [.int .u16 x1, .int .u16 x2, .int .u64 x3, .int .u64 x4, .int .u32 x5, v]
/-- the six numbers that Take has read, as cells -/
theorem Wi.six_cells {w : World} {base : Nat} {v : Value} {x0 x1 x2 x3 x4 x5 : Int} (h : Kd.R (Kd.int .u64) 25 w base (fun _ => True) v [x0, x1, x2, x3, x4, x5]) : ∃ g c, v = .slice (some ⟨g, 0, none⟩) 6 c ∧ base ≤ g ∧ g < w.heap.size ∧ 6 ≤ c ∧
    w.cell? ⟨g, 0, none⟩ = some (.int .u64 x0) ∧ w.cell? ⟨g, 1, none⟩ = some (.int .u64 x1) ∧ w.cell? ⟨g, 2, none⟩ = some (.int .u64 x2) ∧ w.cell? ⟨g, 3, none⟩ = some (.int .u64 x3) ∧ w.cell? ⟨g, 4, none⟩ = some (.int .u64 x4) ∧ w.cell? ⟨g, 5, none⟩ = some (.int .u64 x5) := by
  have ho := Kd.own_of_R h
  obtain ⟨g, c, rfl, hb, hl⟩ := ho.form (by simp)
  have hc : ∀ j u, ([.int .u64 x0, .int .u64 x1, .int .u64 x2, .int .u64 x3, .int .u64 x4, .int .u64 x5] : List Value)[j]? = some u → w.cell? ⟨g, j, none⟩ = some u := fun j u hu => by
    have := ho.cells (g := g) rfl j u hu
    rwa [add_plain] at this
  exact ⟨g, c, rfl, hb, hl, own_le ho, hc 0 _ rfl, hc 1 _ rfl, hc 2 _ rfl, hc 3 _ rfl, hc 4 _ rfl, hc 5 _ rfl⟩
theorem Wi.infoByte1 : (Try.prog.info? 5).map (·.size) = some 1 := by kernel_rfl
theorem Wi.infoSl : (Try.prog.info? 22).map (·.size) = some 1 := by kernel_rfl
theorem Wi.info28 : (Try.prog.info? 28).map (·.size) = some 6 := by kernel_rfl
set_option maxHeartbeats 1000000 in
set_option maxRecDepth 100000 in
theorem req_Next.calls (A0 : Option Addr) (c0 : Nat) (l0 : List Int) (r1 : Int) (r2 : Int) (r3 : Int) (r4 : Int) (r5 : Int) (r6 : List Int) (r7 : Int) (r8 : Int) (w : World) (hr0 : Kd.C (Kd.int .u8) w A0 l0.length l0) (hc0 : l0.length ≤ c0) (h : req_Next.f l0 = some (r1, r2, r3, r4, r5, r6, r7, r8)) :
    Calls Try.prog 11 #[.slice A0 l0.length c0] w fun e w' => ∃ v5_ : Value, e = .returned (.tuple #[.agg #[.int .u16 r1, .int .u16 r2, .int .u64 r3, .int .u64 r4, .int .u32 r5, v5_], .int .i64 r7, .int .u16 r8]) ∧ Kd.R (Kd.int .u8) 5 w' w.heap.size (fun _ => True) v5_ r6 ∧ Below w.heap.size w w' := by
  unfold req_Next.f at h
  obtain ⟨hlen, hby⟩ : l0.length ≤ 1099511627776 ∧ Wi.Bytes l0 := by
    by_cases hc : l0.length ≤ 1099511627776 ∧ ∀ x ∈ l0, 0 ≤ x ∧ x ≤ 255
    · exact hc
    · rw [if_neg hc] at h; cases h
  rw [if_pos ⟨hlen, hby⟩] at h
  have HRES := Aside0.mk (Option.some.inj h)
  have HR0 := Aside0.mk hr0
  have HBY := Aside0.mk hby
  clear h hr0 hby
  obtain ⟨N, HN⟩ : ∃ N, Aside0 (l0.length = N) := ⟨_, ⟨rfl⟩⟩
  rw [HN.out] at hlen hc0 ⊢
  go_enter Try.func11, Try.ntmps11
  go_wp2_with fail
  generalize hWq : World.alloc w _ = W0
  have HB0 : Aside0 (Below w.heap.size w W0) := ⟨by rw [← hWq]; exact below_alloc (Below.refl _ _) _⟩
  have HZ0 : Aside0 (W0.heap[w.heap.size]? = some (.cells #[.int .u16 0, .int .u16 0, .int .u64 0, .int .u64 0, .int .u32 0, .slice none 0 0] 28 (0, 0))) := ⟨by rw [← hWq]; exact heap_alloc_new w _⟩
  clear hWq
  obtain ⟨m, hmin, hm28, HMN⟩ : ∃ m : Nat, (if 28 < (N : Int) then 28 else (N : Int)) = (m : Int) ∧ m ≤ 28 ∧ Aside0 (m ≤ N ∧ (N < 28 ∨ m = 28)) := by
    by_cases h : 28 < (N : Int)
    · exact ⟨28, by rw [if_pos h]; rfl, by omega, ⟨by omega⟩⟩
    · exact ⟨N, by rw [if_neg h], by omega, ⟨by omega⟩⟩
  have hmc : m ≤ c0 := by have := HMN.out; omega
  obtain ⟨ns, ok, HTK⟩ : ∃ (ns : List Int) (ok : Bool), Aside0 (wire_Take.f (l0.take m) [4, 2, 2, 8, 8, 4] = some (ns, [], ok) ∧ (ok = decide (28 ≤ N)) ∧ (28 ≤ N → ns = [Wi.rq0 l0, Wi.rq1 l0, Wi.rq2 l0, Wi.rq3 l0, Wi.rq4 l0, Wi.rq5 l0])) := by
    have hm := HMN.out
    have hN := HN.out
    by_cases h : N < 28
    · refine ⟨[], false, ⟨?_, by simp; omega, fun h2 => absurd h2 (by omega)⟩⟩
      unfold wire_Take.f
      rw [if_pos ⟨by rw [List.length_take]; omega, by simp, Wi.Bytes.take HBY.out m⟩, Wi.takes6, if_pos (by rw [List.length_take]; omega)]
    · obtain rfl : m = 28 := by omega
      obtain ⟨e0, e1, e2, e3, e4, e5⟩ := Wi.rq_take l0
      refine ⟨_, true, ⟨?_, by simp; omega, fun _ => rfl⟩⟩
      unfold wire_Take.f
      rw [if_pos ⟨by rw [List.length_take]; omega, by simp, Wi.Bytes.take HBY.out 28⟩, Wi.takes6, if_neg (by rw [List.length_take]; omega), e0, e1, e2, e3, e4, e5, List.drop_of_length_le (by rw [List.length_take]; omega)]
  have HCT : Aside0 (Kd.C (Kd.int .u8) w A0 m (l0.take m) ∧ (l0.take m).length = m) := ⟨by
    have hl : (l0.take m).length = m := by rw [List.length_take, HN.out]; have := HMN.out; omega
    refine ⟨?_, hl⟩
    have := Kd.C_take (m := m) HR0.out (by rw [HN.out]; exact HMN.out.1)
    rwa [hl] at this⟩
  refine wp_region_noPanic ?_
  refine start_ (n := 14) (S := (fun w' => Below W0.heap.size W0 w')) (ds := [13]) #[false, false, false, false, false, false, false, false, false, false, false, false, false, false] (by kernel_rfl) rfl rfl (Below.refl _ _).drew (fun hHeld => ?_)
  refine pure_ (i := 0) (N := (some 11)) (v := ?_) (a' := ?_) #[true, false, false, false, false, false, false, false, false, false, false, false, false, false] rfl rfl (by kernel_rfl) (fun _ _ _ h => h) (Or.inl ⟨by rfl, ?_⟩) ?_ ?_
  rotate_left
  · intro w'
    go_simp
    with_reducible rfl
  rotate_left
  · simp only [Act.put, List.setIfInBounds_toArray, List.set_cons_zero, List.set_cons_succ]
    rfl
  refine pure_ (i := 1) (N := (some 12)) (v := ?_) (a' := ?_) #[true, true, false, false, false, false, false, false, false, false, false, false, false, false] rfl rfl (by kernel_rfl) (fun _ _ _ h => h) (Or.inl ⟨by rfl, ?_⟩) ?_ ?_
  rotate_left
  · intro w'
    go_simp
    with_reducible rfl
  rotate_left
  · simp only [Act.put, List.setIfInBounds_toArray, List.set_cons_zero, List.set_cons_succ]
    rfl
  refine pure_ (i := 2) (N := (some 13)) (v := ?_) (a' := ?_) #[true, true, true, false, false, false, false, false, false, false, false, false, false, false] rfl rfl (by kernel_rfl) (fun _ _ _ h => h) (Or.inl ⟨by rfl, ?_⟩) ?_ ?_
  rotate_left
  · intro w'
    go_simp
    with_reducible rfl
  rotate_left
  · simp only [Act.put, List.setIfInBounds_toArray, List.set_cons_zero, List.set_cons_succ]
    rfl
  refine pure_ (i := 3) (N := (some 14)) (v := ?_) (a' := ?_) #[true, true, true, true, false, false, false, false, false, false, false, false, false, false] rfl rfl (by kernel_rfl) (fun _ _ _ h => h) (Or.inl ⟨by rfl, ?_⟩) ?_ ?_
  rotate_left
  · intro w'
    go_simp
    with_reducible rfl
  rotate_left
  · simp only [Act.put, List.setIfInBounds_toArray, List.set_cons_zero, List.set_cons_succ]
    rfl
  refine pure_ (i := 4) (N := (some 15)) (v := ?_) (a' := ?_) #[true, true, true, true, true, false, false, false, false, false, false, false, false, false] rfl rfl (by kernel_rfl) (fun _ _ _ h => h) (Or.inl ⟨by rfl, ?_⟩) ?_ ?_
  rotate_left
  · intro w'
    go_simp
    with_reducible rfl
  rotate_left
  · simp only [Act.put, List.setIfInBounds_toArray, List.set_cons_zero, List.set_cons_succ]
    rfl
  refine one_ (i := 5) (N := (some 16)) #[true, true, true, true, true, true, false, false, false, false, false, false, false, false] rfl rfl (by kernel_rfl) (by decide) (fun K hK => ?_)
  refine call_ 25 #[] (by rfl) rfl (by go_simp) ?_
  refine (PBase.req_form.calls [4, 2, 2, 8, 8, 4] _ rfl).mono ?_
  rintro e w1 ⟨vf, rfl, rf, bf⟩
  obtain ⟨Af, cf, rfl⟩ := Kd.R_slice rf
  have HF := Aside0.mk rf
  have HQ := Aside0.mk (below_then hHeld hHeld.size bf)
  clear rf bf
  refine ⟨_, rfl, ?_⟩
  refine hK.out _ _ HQ.out (fun hHeld => ?_)
  clear hK K
  refine norm_ (a' := ?_) ?_ ?_
  rotate_left
  · show Act.put _ (some 16) _ = _
    simp only [Act.put, List.setIfInBounds_toArray, List.set_cons_zero, List.set_cons_succ]
    rfl
  refine one_ (i := 6) (N := (some 17)) #[true, true, true, true, true, true, true, false, false, false, false, false, false, false] rfl rfl (by kernel_rfl) (by decide) (fun K hK => ?_)
  refine call_ 24 #[.slice A0 m c0, .slice Af 6 cf] (by rfl) rfl (by go_simp) ?_
  have HTC := wire_Take.calls A0 c0 (l0.take m) Af cf [4, 2, 2, 8, 8, 4] ns [] ok w1 (by rw [HCT.out.2]; exact Kd.C_below HCT.out.1 (below_then HB0.out HB0.out.size hHeld)) (by rw [HCT.out.2]; exact hmc) (Kd.R_reads' HF.out).2.2 (Kd.R_reads' HF.out).2.1 HTK.out.1
  rw [HCT.out.2] at HTC
  refine HTC.mono ?_
  rintro e w2 ⟨v0, v1, rfl, rv0, rv1, bf⟩
  have HV := Aside0.mk rv0
  have HQ2 := Aside0.mk (below_then hHeld hHeld.size bf)
  clear rv0 rv1 bf HTC
  refine ⟨_, rfl, ?_⟩
  refine hK.out _ _ HQ2.out (fun hHeld => ?_)
  clear hK K
  refine norm_ (a' := ?_) ?_ ?_
  rotate_left
  · show Act.put _ (some 17) _ = _
    simp only [Act.put, List.setIfInBounds_toArray, List.set_cons_zero, List.set_cons_succ]
    rfl
  refine pure_ (i := 7) (N := (some 10)) (v := ?_) (a' := ?_) #[true, true, true, true, true, true, true, true, false, false, false, false, false, false] rfl rfl (by kernel_rfl) (fun _ _ _ h => h) (Or.inl ⟨by rfl, ?_⟩) ?_ ?_
  rotate_left
  · intro w'
    go_simp
    with_reducible rfl
  rotate_left
  · simp only [Act.put, List.setIfInBounds_toArray, List.set_cons_zero, List.set_cons_succ]
    rfl
  refine pure_ (i := 8) (N := (some 18)) (v := ?_) (a' := ?_) #[true, true, true, true, true, true, true, true, true, false, false, false, false, false] rfl rfl (by kernel_rfl) (fun _ _ _ h => h) (Or.inl ⟨by rfl, ?_⟩) ?_ ?_
  rotate_left
  · intro w'
    go_simp
    with_reducible rfl
  rotate_left
  · simp only [Act.put, List.setIfInBounds_toArray, List.set_cons_zero, List.set_cons_succ]
    rfl
  refine pure_ (i := 9) (N := (some 19)) (v := ?_) (a' := ?_) #[true, true, true, true, true, true, true, true, true, true, false, false, false, false] rfl rfl (by kernel_rfl) (fun _ _ _ h => h) (Or.inl ⟨by rfl, ?_⟩) ?_ ?_
  rotate_left
  · intro w'
    go_simp
    with_reducible rfl
  rotate_left
  · simp only [Act.put, List.setIfInBounds_toArray, List.set_cons_zero, List.set_cons_succ]
    rfl
  refine pure_ (i := 10) (N := (some 20)) (v := ?_) (a' := ?_) #[true, true, true, true, true, true, true, true, true, true, true, false, false, false] rfl rfl (by kernel_rfl) (fun _ _ _ h => h) (Or.inl ⟨by rfl, ?_⟩) ?_ ?_
  rotate_left
  · intro w'
    go_simp
    with_reducible rfl
  rotate_left
  · simp only [Act.put, List.setIfInBounds_toArray, List.set_cons_zero, List.set_cons_succ]
    rfl
  refine pure_ (i := 11) (N := (some 5)) (v := ?_) (a' := ?_) #[true, true, true, true, true, true, true, true, true, true, true, true, false, false] rfl rfl (by kernel_rfl) (fun _ _ _ h => h) (Or.inl ⟨by rfl, ?_⟩) ?_ ?_
  rotate_left
  · intro w'
    go_simp
    with_reducible rfl
  rotate_left
  · simp only [Act.put, List.setIfInBounds_toArray, List.set_cons_zero, List.set_cons_succ]
    rfl
  refine pure_ (i := 12) (N := (some 6)) (v := ?_) (a' := ?_) #[true, true, true, true, true, true, true, true, true, true, true, true, true, false] rfl rfl (by kernel_rfl) (fun _ _ _ h => h) (Or.inl ⟨by rfl, ?_⟩) ?_ ?_
  rotate_left
  · intro w'
    go_simp
    with_reducible rfl
  rotate_left
  · simp only [Act.put, List.setIfInBounds_toArray, List.set_cons_zero, List.set_cons_succ]
    rfl
  refine pure_ (i := 13) (N := (some 7)) (v := ?_) (a' := ?_) #[true, true, true, true, true, true, true, true, true, true, true, true, true, true] rfl rfl (by kernel_rfl) (fun _ _ _ h => h) (Or.inl ⟨by rfl, ?_⟩) ?_ ?_
  rotate_left
  · intro w'
    go_simp
    with_reducible rfl
  rotate_left
  · simp only [Act.put, List.setIfInBounds_toArray, List.set_cons_zero, List.set_cons_succ]
    rfl
  refine done_ (by kernel_rfl) ?_
  have HB2 : Aside0 (Below w.heap.size w w2) := ⟨below_then HB0.out HB0.out.size hHeld⟩
  have HZ2 : Aside0 (Wk.Blk w2 w.heap.size 28 (Wi.rqc 0 0 0 0 0 (.slice none 0 0))) := ⟨⟨(hHeld.block _ (Array.getElem?_eq_some_iff.1 HZ0.out).1).trans HZ0.out⟩⟩
  have HSZ := Aside0.mk Wi.info28
  clear hHeld
  refine NoPanic.normal ?_
  cases ok
  · have HR80 : Aside0 (Wi.nextOf l0 = (0, 0, 0, 0, 0, [], 0, 80)) := ⟨by
      have h1 : ¬ 28 ≤ N := of_decide_eq_false HTK.out.2.1.symm
      unfold Wi.nextOf
      rw [if_pos (by rw [HN.out]; omega)]⟩
    rw [HRES.out] at HR80
    obtain ⟨rfl, rfl, rfl, rfl, rfl, rfl, rfl, rfl⟩ : r1 = 0 ∧ r2 = 0 ∧ r3 = 0 ∧ r4 = 0 ∧ r5 = 0 ∧ r6 = [] ∧ r7 = 0 ∧ r8 = 80 := by simpa using HR80.out
    clear HTK HRES HR80 HV
    go_wp2_with (refine Wk.store_all rfl rfl 28 (.tmp 2) (.tmp 24) rfl w.heap.size (Wi.rqc 0 0 0 0 0 (.slice none 0 0)) rfl rfl 28 _ HZ2.out HSZ.out rfl rfl ?_; intro w3 hX hO; have HX := Aside0.mk hX; have HO := Aside0.mk hO; clear hX hO)
    refine bodyPost_ret (Wk.res_ctt rfl _ w.heap.size 28 _ _ rfl HX.out Try.underlying28 rfl HSZ.out) rfl ?_
    exact ⟨_, rfl, Kd.R_nil _ _ _ _ _, Wk.Only.below HB2.out HO.out (Nat.le_refl _)⟩
  · obtain ⟨x0, x1, x2, x3, x4, x5, hns, HX⟩ : ∃ x0 x1 x2 x3 x4 x5, ns = [x0, x1, x2, x3, x4, x5] ∧ Aside0 (Wi.rq0 l0 = x0 ∧ Wi.rq1 l0 = x1 ∧ Wi.rq2 l0 = x2 ∧ Wi.rq3 l0 = x3 ∧ Wi.rq4 l0 = x4 ∧ Wi.rq5 l0 = x5) := ⟨_, _, _, _, _, _, HTK.out.2.2 (of_decide_eq_true HTK.out.2.1.symm), ⟨rfl, rfl, rfl, rfl, rfl, rfl⟩⟩
    have h28 : 28 ≤ N := of_decide_eq_true HTK.out.2.1.symm
    subst hns
    obtain ⟨g, cg, rfl, hgb, hgl, hgc, c0', c1', c2', c3', c4', c5'⟩ := Wi.six_cells HV.out
    have C1 := Aside0.mk c1'
    have C2 := Aside0.mk c2'
    have C3 := Aside0.mk c3'
    have C4 := Aside0.mk c4'
    have C5 := Aside0.mk c5'
    clear c1' c2' c3' c4' c5' HV HTK
    have hbn := Wi.rq_bnd l0 HBY.out
    obtain ⟨e0, e1, e2, e3, e4, e5⟩ := HX.out
    rw [e0, e1, e2, e3, e4, e5] at hbn
    have HXE : Aside0 (Wi.nextOf l0 = if x0 ≠ 627086611 then (0, 0, 0, 0, 0, [], 0, 81)
      else if x2 = 1 then if x5 > 65536 then (0, 0, 0, 0, 0, [], 0, 82) else if 28 + x5 > N then (0, 0, 0, 0, 0, [], 0, 80) else (x1, x2, x3, x4, x5, (l0.drop 28).take x5.toNat, 28 + x5, 0)
      else (x1, x2, x3, x4, x5, [], 28, 0)) := ⟨by unfold Wi.nextOf; rw [if_neg (by rw [HN.out]; omega), e0, e1, e2, e3, e4, e5, HN.out]⟩
    clear e0 e1 e2 e3 e4 e5 HX
    obtain ⟨⟨b00, b01⟩, ⟨b10, b11⟩, ⟨b20, b21⟩, ⟨b30, b31⟩, ⟨b40, b41⟩, ⟨b50, b51⟩⟩ := hbn
    by_cases hx0 : x0 = 627086611
    · subst hx0
      go_wp2_with fail
      have u1 := IntWalk.u16_in x1 (by omega)
      have u2 := IntWalk.u16_in x2 (by omega)
      have u5 := IntWalk.u32_in x5 (by omega)
      refine wp_region_noPanic ?_
      refine start_ (n := 21) (S := (fun w' => Below w2.heap.size w2 w')) (ds := [20]) #[false, false, false, false, false, false, false, false, false, false, false, false, false, false, false, false, false, false, false, false, false] (by kernel_rfl) rfl rfl (Below.refl _ _).drew (fun hHeld => ?_)
      refine pure_ (i := 0) (N := (some 31)) (v := ?_) (a' := ?_) #[true, false, false, false, false, false, false, false, false, false, false, false, false, false, false, false, false, false, false, false, false] rfl rfl (by kernel_rfl) (fun _ _ _ h => h) (Or.inl ⟨by rfl, ?_⟩) ?_ ?_
      rotate_left
      · intro w'
        go_simp
        with_reducible rfl
      rotate_left
      · simp only [Act.put, List.setIfInBounds_toArray, List.set_cons_zero, List.set_cons_succ]
        rfl
      refine pure_ (i := 1) (N := (some 32)) (v := ?_) (a' := ?_) #[true, true, false, false, false, false, false, false, false, false, false, false, false, false, false, false, false, false, false, false, false] rfl rfl (by kernel_rfl) (fun _ _ _ h => h) (Or.inl ⟨by rfl, ?_⟩) ?_ ?_
      rotate_left
      · intro w'
        go_simp
        with_reducible rfl
      rotate_left
      · simp only [Act.put, List.setIfInBounds_toArray, List.set_cons_zero, List.set_cons_succ]
        rfl
      refine take_ (i := 2) (N := (some 33)) (v := ?_) (a' := ?_) #[true, true, true, false, false, false, false, false, false, false, false, false, false, false, false, false, false, false, false, false, false] rfl rfl (by kernel_rfl) (fun _ _ _ h => h) (Or.inl ⟨by rfl, ?_⟩) hHeld ?_ ?_
      rotate_left
      · intro w' hS'
        (have c1 := (hS'.cell (p := ⟨g, 1, none⟩) hgl).trans C1.out; go_simp)
        with_reducible rfl
      rotate_left
      · simp only [Act.put, List.setIfInBounds_toArray, List.set_cons_zero, List.set_cons_succ]
        rfl
      refine pure_ (i := 3) (N := (some 34)) (v := ?_) (a' := ?_) #[true, true, true, true, false, false, false, false, false, false, false, false, false, false, false, false, false, false, false, false, false] rfl rfl (by kernel_rfl) (fun _ _ _ h => h) (Or.inl ⟨by rfl, ?_⟩) ?_ ?_
      rotate_left
      · intro w'
        go_simp
        with_reducible rfl
      rotate_left
      · simp only [Act.put, List.setIfInBounds_toArray, List.set_cons_zero, List.set_cons_succ]
        rfl
      refine pure_ (i := 4) (N := (some 35)) (v := ?_) (a' := ?_) #[true, true, true, true, true, false, false, false, false, false, false, false, false, false, false, false, false, false, false, false, false] rfl rfl (by kernel_rfl) (fun _ _ _ h => h) (Or.inl ⟨by rfl, ?_⟩) ?_ ?_
      rotate_left
      · intro w'
        go_simp
        with_reducible rfl
      rotate_left
      · simp only [Act.put, List.setIfInBounds_toArray, List.set_cons_zero, List.set_cons_succ]
        rfl
      refine pure_ (i := 5) (N := (some 36)) (v := ?_) (a' := ?_) #[true, true, true, true, true, true, false, false, false, false, false, false, false, false, false, false, false, false, false, false, false] rfl rfl (by kernel_rfl) (fun _ _ _ h => h) (Or.inl ⟨by rfl, ?_⟩) ?_ ?_
      rotate_left
      · intro w'
        go_simp
        with_reducible rfl
      rotate_left
      · simp only [Act.put, List.setIfInBounds_toArray, List.set_cons_zero, List.set_cons_succ]
        rfl
      refine take_ (i := 6) (N := (some 37)) (v := ?_) (a' := ?_) #[true, true, true, true, true, true, true, false, false, false, false, false, false, false, false, false, false, false, false, false, false] rfl rfl (by kernel_rfl) (fun _ _ _ h => h) (Or.inl ⟨by rfl, ?_⟩) hHeld ?_ ?_
      rotate_left
      · intro w' hS'
        (have c1 := (hS'.cell (p := ⟨g, 2, none⟩) hgl).trans C2.out; go_simp)
        with_reducible rfl
      rotate_left
      · simp only [Act.put, List.setIfInBounds_toArray, List.set_cons_zero, List.set_cons_succ]
        rfl
      refine pure_ (i := 7) (N := (some 38)) (v := ?_) (a' := ?_) #[true, true, true, true, true, true, true, true, false, false, false, false, false, false, false, false, false, false, false, false, false] rfl rfl (by kernel_rfl) (fun _ _ _ h => h) (Or.inl ⟨by rfl, ?_⟩) ?_ ?_
      rotate_left
      · intro w'
        go_simp
        with_reducible rfl
      rotate_left
      · simp only [Act.put, List.setIfInBounds_toArray, List.set_cons_zero, List.set_cons_succ]
        rfl
      refine pure_ (i := 8) (N := (some 39)) (v := ?_) (a' := ?_) #[true, true, true, true, true, true, true, true, true, false, false, false, false, false, false, false, false, false, false, false, false] rfl rfl (by kernel_rfl) (fun _ _ _ h => h) (Or.inl ⟨by rfl, ?_⟩) ?_ ?_
      rotate_left
      · intro w'
        go_simp
        with_reducible rfl
      rotate_left
      · simp only [Act.put, List.setIfInBounds_toArray, List.set_cons_zero, List.set_cons_succ]
        rfl
      refine pure_ (i := 9) (N := (some 40)) (v := ?_) (a' := ?_) #[true, true, true, true, true, true, true, true, true, true, false, false, false, false, false, false, false, false, false, false, false] rfl rfl (by kernel_rfl) (fun _ _ _ h => h) (Or.inl ⟨by rfl, ?_⟩) ?_ ?_
      rotate_left
      · intro w'
        go_simp
        with_reducible rfl
      rotate_left
      · simp only [Act.put, List.setIfInBounds_toArray, List.set_cons_zero, List.set_cons_succ]
        rfl
      refine take_ (i := 10) (N := (some 41)) (v := ?_) (a' := ?_) #[true, true, true, true, true, true, true, true, true, true, true, false, false, false, false, false, false, false, false, false, false] rfl rfl (by kernel_rfl) (fun _ _ _ h => h) (Or.inl ⟨by rfl, ?_⟩) hHeld ?_ ?_
      rotate_left
      · intro w' hS'
        (have c1 := (hS'.cell (p := ⟨g, 3, none⟩) hgl).trans C3.out; go_simp)
        with_reducible rfl
      rotate_left
      · simp only [Act.put, List.setIfInBounds_toArray, List.set_cons_zero, List.set_cons_succ]
        rfl
      refine pure_ (i := 11) (N := (some 42)) (v := ?_) (a' := ?_) #[true, true, true, true, true, true, true, true, true, true, true, true, false, false, false, false, false, false, false, false, false] rfl rfl (by kernel_rfl) (fun _ _ _ h => h) (Or.inl ⟨by rfl, ?_⟩) ?_ ?_
      rotate_left
      · intro w'
        go_simp
        with_reducible rfl
      rotate_left
      · simp only [Act.put, List.setIfInBounds_toArray, List.set_cons_zero, List.set_cons_succ]
        rfl
      refine pure_ (i := 12) (N := (some 43)) (v := ?_) (a' := ?_) #[true, true, true, true, true, true, true, true, true, true, true, true, true, false, false, false, false, false, false, false, false] rfl rfl (by kernel_rfl) (fun _ _ _ h => h) (Or.inl ⟨by rfl, ?_⟩) ?_ ?_
      rotate_left
      · intro w'
        go_simp
        with_reducible rfl
      rotate_left
      · simp only [Act.put, List.setIfInBounds_toArray, List.set_cons_zero, List.set_cons_succ]
        rfl
      refine take_ (i := 13) (N := (some 44)) (v := ?_) (a' := ?_) #[true, true, true, true, true, true, true, true, true, true, true, true, true, true, false, false, false, false, false, false, false] rfl rfl (by kernel_rfl) (fun _ _ _ h => h) (Or.inl ⟨by rfl, ?_⟩) hHeld ?_ ?_
      rotate_left
      · intro w' hS'
        (have c1 := (hS'.cell (p := ⟨g, 4, none⟩) hgl).trans C4.out; go_simp)
        with_reducible rfl
      rotate_left
      · simp only [Act.put, List.setIfInBounds_toArray, List.set_cons_zero, List.set_cons_succ]
        rfl
      refine pure_ (i := 14) (N := (some 45)) (v := ?_) (a' := ?_) #[true, true, true, true, true, true, true, true, true, true, true, true, true, true, true, false, false, false, false, false, false] rfl rfl (by kernel_rfl) (fun _ _ _ h => h) (Or.inl ⟨by rfl, ?_⟩) ?_ ?_
      rotate_left
      · intro w'
        go_simp
        with_reducible rfl
      rotate_left
      · simp only [Act.put, List.setIfInBounds_toArray, List.set_cons_zero, List.set_cons_succ]
        rfl
      refine pure_ (i := 15) (N := (some 46)) (v := ?_) (a' := ?_) #[true, true, true, true, true, true, true, true, true, true, true, true, true, true, true, true, false, false, false, false, false] rfl rfl (by kernel_rfl) (fun _ _ _ h => h) (Or.inl ⟨by rfl, ?_⟩) ?_ ?_
      rotate_left
      · intro w'
        go_simp
        with_reducible rfl
      rotate_left
      · simp only [Act.put, List.setIfInBounds_toArray, List.set_cons_zero, List.set_cons_succ]
        rfl
      refine take_ (i := 16) (N := (some 47)) (v := ?_) (a' := ?_) #[true, true, true, true, true, true, true, true, true, true, true, true, true, true, true, true, true, false, false, false, false] rfl rfl (by kernel_rfl) (fun _ _ _ h => h) (Or.inl ⟨by rfl, ?_⟩) hHeld ?_ ?_
      rotate_left
      · intro w' hS'
        (have c1 := (hS'.cell (p := ⟨g, 5, none⟩) hgl).trans C5.out; go_simp)
        with_reducible rfl
      rotate_left
      · simp only [Act.put, List.setIfInBounds_toArray, List.set_cons_zero, List.set_cons_succ]
        rfl
      refine pure_ (i := 17) (N := (some 48)) (v := ?_) (a' := ?_) #[true, true, true, true, true, true, true, true, true, true, true, true, true, true, true, true, true, true, false, false, false] rfl rfl (by kernel_rfl) (fun _ _ _ h => h) (Or.inl ⟨by rfl, ?_⟩) ?_ ?_
      rotate_left
      · intro w'
        go_simp
        with_reducible rfl
      rotate_left
      · simp only [Act.put, List.setIfInBounds_toArray, List.set_cons_zero, List.set_cons_succ]
        rfl
      refine pure_ (i := 18) (N := (some 49)) (v := ?_) (a' := ?_) #[true, true, true, true, true, true, true, true, true, true, true, true, true, true, true, true, true, true, true, false, false] rfl rfl (by kernel_rfl) (fun _ _ _ h => h) (Or.inl ⟨by rfl, ?_⟩) ?_ ?_
      rotate_left
      · intro w'
        go_simp
        with_reducible rfl
      rotate_left
      · simp only [Act.put, List.setIfInBounds_toArray, List.set_cons_zero, List.set_cons_succ]
        rfl
      refine one_ (i := 19) (N := (some 8)) #[true, true, true, true, true, true, true, true, true, true, true, true, true, true, true, true, true, true, true, true, false] rfl rfl (by kernel_rfl) (by decide) (fun K hK => ?_)
      refine value_ (w1 := w2.drew.alloc (.cells (Wi.rqc 0 0 0 0 0 (.slice none 0 0)).toArray 28)) (v := .pointer (some ⟨w2.heap.size, 0, none⟩)) (by rfl) rfl (by go_simp; rfl) ?_
      refine hK.out _ _ (hHeld.alloc hHeld.size _) (fun hHeld => ?_)
      clear hK K
      refine norm_ (a' := ?_) ?_ ?_
      rotate_left
      · show Act.put _ (some 8) _ = _
        simp only [Act.put, List.setIfInBounds_toArray, List.set_cons_zero, List.set_cons_succ]
        rfl
      refine last_ (i := 20) (N := none) #[true, true, true, true, true, true, true, true, true, true, true, true, true, true, true, true, true, true, true, true, true] rfl rfl (by kernel_rfl) (by decide) (fun K hK => ?_)
      refine Wk.store_all_step (by rfl) rfl 28 (.tmp 8) (.tmp 49) rfl w2.heap.size (Wi.rqc x1 x2 x3 x4 x5 (.slice none 0 0)) rfl rfl 28 _ (Wk.Blk.new w2.drew _ _) HSZ.out rfl rfl ?_
      intro w4 hX4 hO4
      have HX4 := Aside0.mk hX4
      have HO4 := Aside0.mk hO4
      clear hX4 hO4
      refine hK.out _ _ ?_
      clear hK K
      refine done_ (by kernel_rfl) ?_
      clear u1 u2 u5 hHeld
      have HBN := Aside0.mk (Wk.Only.fresh (w := w2.drew) (below_drew HB2.out) HB2.out.size HO4.out)
      have HC5 : Aside0 (w4.cell? ⟨g, 5, none⟩ = some (.int .u64 x5)) := ⟨(HBN.out.2.2.cell (p := ⟨g, 5, none⟩) hgl).trans C5.out⟩
      have HZ4 : Aside0 (Wk.Blk w4 w.heap.size 28 (Wi.rqc 0 0 0 0 0 (.slice none 0 0))) := ⟨HZ2.out.drew.below_ HBN.out.2.2⟩
      have HB4 := Aside0.mk HBN.out.2.1
      have HG2 := Aside0.mk (show w.heap.size < w2.heap.size from HZ2.out.lt)
      have cK : w4.cell? ⟨w2.heap.size, 1, none⟩ = some (.int .u16 x2) := HX4.out.at_ 1 rfl
      obtain ⟨G, hGd⟩ : ∃ G, w2.heap.size = G := ⟨_, rfl⟩
      rw [hGd] at cK HX4 HG2 ⊢
      have HGD := Aside0.mk hGd
      clear hGd HBN HO4 c0' HB2 HZ2 C1 C2 C3 C4 C5
      refine NoPanic.normal ?_
      by_cases hk : x2 = 1
      · subst hk
        have c5 := HC5.out
        have HRR : Aside0 (_ = _) := ⟨HXE.out⟩
        rw [if_neg (by simp), if_pos rfl, HRES.out] at HRR
        clear HXE HRES
        by_cases hL : 65536 < x5
        · rw [if_pos hL] at HRR
          obtain ⟨rfl, rfl, rfl, rfl, rfl, rfl, rfl, rfl⟩ : r1 = 0 ∧ r2 = 0 ∧ r3 = 0 ∧ r4 = 0 ∧ r5 = 0 ∧ r6 = [] ∧ r7 = 0 ∧ r8 = 82 := by simpa using HRR.out
          clear HRR
          go_wp2_with (refine Wk.store_all rfl rfl 28 (.tmp 2) (.tmp 57) rfl w.heap.size (Wi.rqc 0 0 0 0 0 (.slice none 0 0)) rfl rfl 28 _ HZ4.out HSZ.out rfl rfl ?_; intro w5 hX hO; have HX := Aside0.mk hX; have HO := Aside0.mk hO; clear hX hO)
          refine bodyPost_ret (Wk.res_ctt rfl _ w.heap.size 28 _ _ rfl HX.out Try.underlying28 rfl HSZ.out) rfl ?_
          exact ⟨_, rfl, Kd.R_nil _ _ _ _ _, Wk.Only.below HB4.out HO.out (Nat.le_refl _)⟩
        · rw [if_neg hL] at HRR
          have hL' : x5 ≤ 65536 := by omega
          by_cases hM : (N : Int) < 28 + x5
          · rw [if_pos hM] at HRR
            obtain ⟨rfl, rfl, rfl, rfl, rfl, rfl, rfl, rfl⟩ : r1 = 0 ∧ r2 = 0 ∧ r3 = 0 ∧ r4 = 0 ∧ r5 = 0 ∧ r6 = [] ∧ r7 = 0 ∧ r8 = 80 := by simpa using HRR.out
            clear HRR
            go_wp2_with (refine Wk.store_all rfl rfl 28 (.tmp 2) (.tmp 68) rfl w.heap.size (Wi.rqc 0 0 0 0 0 (.slice none 0 0)) rfl rfl 28 _ HZ4.out HSZ.out rfl rfl ?_; intro w5 hX hO; have HX := Aside0.mk hX; have HO := Aside0.mk hO; clear hX hO)
            refine bodyPost_ret (Wk.res_ctt rfl _ w.heap.size 28 _ _ rfl HX.out Try.underlying28 rfl HSZ.out) rfl ?_
            exact ⟨_, rfl, Kd.R_nil _ _ _ _ _, Wk.Only.below HB4.out HO.out (Nat.le_refl _)⟩
          · rw [if_neg hM] at HRR
            obtain ⟨n5, hn5⟩ := Int.eq_ofNat_of_zero_le b50
            have hM' : 28 + x5 ≤ N := by omega
            obtain ⟨rfl, rfl, rfl, rfl, rfl, hr6, rfl, rfl⟩ : r1 = x1 ∧ r2 = 1 ∧ r3 = x3 ∧ r4 = x4 ∧ r5 = x5 ∧ r6 = (l0.drop 28).take n5 ∧ r7 = 28 + x5 ∧ r8 = 0 := by rw [hn5] at HRR ⊢; simpa using HRR.out
            have h28n : 28 + n5 ≤ N := by omega
            have HR6 := Aside0.mk hr6
            clear HRR hr6 hL hM
            obtain ⟨A1, hs1, hln, hC1⟩ := Wk.cut_mid_ (P := Try.prog) 22 5 .i64 .i64 Try.underlying22 Wi.infoByte1 .u8 A0 c0 l0 28 (28 + r5) 28 (28 + n5) rfl (by rw [hn5]; rfl) (by omega) (by rw [HN.out]; omega) (by rw [HN.out]; exact hc0)
            rw [HN.out] at hs1
            rw [show 28 + n5 - 28 = n5 by omega] at hs1 hln hC1
            have HLN := Aside0.mk hln
            have HCU := Aside0.mk (hC1 w4 (Kd.C_below HR0.out HB4.out))
            have HN5 := Aside0.mk hn5
            have H28 := Aside0.mk h28n
            clear hln hC1 hn5 h28n
            go_wp2_with fail
            have HF : Aside0 (Calls Try.prog 26 #[.slice A1 n5 (c0 - 28)] w4 fun e w' => ∃ v, e = .returned v ∧ Kd.R (Kd.int .u8) 5 w' w4.heap.size (fun _ => True) v r6 ∧ Below w4.heap.size w4 w') := ⟨by
              have h28 := H28.out
              have := clone_.calls A1 (c0 - 28) ((l0.drop 28).take n5) r6 w4 (by rw [HLN.out]; exact HCU.out) (by rw [HLN.out]; omega) (by unfold clone_.f; rw [if_pos (by rw [HLN.out]; omega), HR6.out])
              rw [HLN.out] at this
              exact this⟩
            refine HF.out.mono ?_
            rintro e w5 ⟨v5, rfl, rv, bv⟩
            obtain ⟨A5, c5', rfl⟩ := Kd.R_slice rv
            obtain ⟨n6, HN6⟩ : ∃ n, Aside0 (r6.length = n) := ⟨_, ⟨rfl⟩⟩
            rw [HN6.out] at rv ⊢
            have HV5 := Aside0.mk rv
            have HX5 := Aside0.mk (HX4.out.below_ bv)
            have HZ5 := Aside0.mk (HZ4.out.below_ bv)
            have HB5 := Aside0.mk (below_then HB4.out HB4.out.size bv)
            have HSL := Aside0.mk Wi.infoSl
            clear rv bv HF HX4 HZ4 cK c5 hs1
            go_wp2_with (first
              | (refine Wk.store rfl rfl 22 (.tmp 73) (.tmp 72) rfl G 5 (.slice A5 n6 c5') [.slice A5 n6 c5'] rfl rfl rfl 28 _ HX5.out HSL.out (Nat.le_of_ble_eq_true rfl) rfl ?_; intro w6 hX hO; have HX6 := Aside0.mk (show Wk.Blk w6 G 28 (Wi.rqc r1 1 r3 r4 r5 (.slice A5 n6 c5')) from hX); have HO6 := Aside0.mk hO; have HZ6 := Aside0.mk (HZ5.out.only hO (Nat.ne_of_lt HG2.out)); clear hX hO)
              | refine Wk.load rfl 28 (.tmp 8) rfl (.agg (Wi.rqc r1 1 r3 r4 r5 (.slice A5 n6 c5')).toArray) (.pointer (some ⟨G, 0, none⟩)) rfl (Wk.run_load_blk 28 G 0 _ _ HX6.out rfl Try.underlying28 rfl HSZ.out) ?_
              | (refine Wk.store_all rfl rfl 28 (.tmp 2) (.tmp 74) rfl w.heap.size (Wi.rqc r1 1 r3 r4 r5 (.slice A5 n6 c5')) rfl rfl 28 _ HZ6.out HSZ.out rfl rfl ?_; intro w7 hX hO; have HX := Aside0.mk hX; have HO := Aside0.mk hO; clear hX hO))
            refine bodyPost_ret (Wk.res_ctt rfl _ w.heap.size 28 _ _ rfl HX.out Try.underlying28 rfl HSZ.out) rfl ?_
            have hne : ∀ q, q ∈ 5 :: (Kd.int .u8).E → q ≠ 28 := by decide
            have hB6 := Wk.Only.below HB5.out HO6.out (Nat.le_of_lt HG2.out)
            exact ⟨_, rfl, Kd.R_lower (Wk.R_only (Wk.R_only HV5.out HX5.out hne HO6.out) HZ6.out hne HO.out) HB4.out.size, Wk.Only.below hB6 HO.out (Nat.le_refl _)⟩
      · have tk : (x2 == 1) = false := by simpa using hk
        have HRR := HXE.out
        rw [if_neg (by simp), if_neg hk, HRES.out] at HRR
        obtain ⟨rfl, rfl, rfl, rfl, rfl, rfl, rfl, rfl⟩ : r1 = x1 ∧ r2 = x2 ∧ r3 = x3 ∧ r4 = x4 ∧ r5 = x5 ∧ r6 = [] ∧ r7 = 28 ∧ r8 = 0 := by simpa using HRR
        clear HRR HXE HRES hk
        go_wp2_with (first
          | refine Wk.load rfl 28 (.tmp 8) rfl (.agg (Wi.rqc r1 r2 r3 r4 r5 (.slice none 0 0)).toArray) (.pointer (some ⟨G, 0, none⟩)) rfl (Wk.run_load_blk 28 G 0 _ _ HX4.out rfl Try.underlying28 rfl HSZ.out) ?_
          | (refine Wk.store_all rfl rfl 28 (.tmp 2) (.tmp 74) rfl w.heap.size (Wi.rqc r1 r2 r3 r4 r5 (.slice none 0 0)) rfl rfl 28 _ HZ4.out HSZ.out rfl rfl ?_; intro w5 hX hO; have HX := Aside0.mk hX; have HO := Aside0.mk hO; clear hX hO))
        refine bodyPost_ret (Wk.res_ctt rfl _ w.heap.size 28 _ _ rfl HX.out Try.underlying28 rfl HSZ.out) rfl ?_
        exact ⟨_, rfl, Kd.R_nil _ _ _ _ _, Wk.Only.below HB4.out HO.out (Nat.le_refl _)⟩
    · have hb0 : (x0 != 627086611) = true := by simpa using hx0
      have HR81 := HXE.out
      rw [if_pos hx0, HRES.out] at HR81
      obtain ⟨rfl, rfl, rfl, rfl, rfl, rfl, rfl, rfl⟩ : r1 = 0 ∧ r2 = 0 ∧ r3 = 0 ∧ r4 = 0 ∧ r5 = 0 ∧ r6 = [] ∧ r7 = 0 ∧ r8 = 81 := by simpa using HR81
      clear HRES HR81 HXE hx0
      go_wp2_with (refine Wk.store_all rfl rfl 28 (.tmp 2) (.tmp 30) rfl w.heap.size (Wi.rqc 0 0 0 0 0 (.slice none 0 0)) rfl rfl 28 _ HZ2.out HSZ.out rfl rfl ?_; intro w3 hX hO; have HX := Aside0.mk hX; have HO := Aside0.mk hO; clear hX hO)
      refine bodyPost_ret (Wk.res_ctt rfl _ w.heap.size 28 _ _ rfl HX.out Try.underlying28 rfl HSZ.out) rfl ?_
      exact ⟨_, rfl, Kd.R_nil _ _ _ _ _, Wk.Only.below HB2.out HO.out (Nat.le_refl _)⟩
#print axioms req_Next.calls
end Go.Proofs.Ytemhlinodccokaa
