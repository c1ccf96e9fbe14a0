/- The walk of coamingref08.Replies. -/
import Derived.Test.YtemhlinodccokaaReqS1
import Derived.Test.YtemhlinodccokaaWireM2
set_option linter.unusedVariables false
set_option linter.unusedSimpArgs false
namespace Go.Proofs.Ytemhlinodccokaa
open Go.RowKit Go.Proofs.YtemhlinodccokaaW.PrintWords Go.Proofs.YtemhlinodccokaaW.PrintLast Go.Proofs.YtemhlinodccokaaW.PrintMore
theorem Wi.three_cells_ {w : World} {base g c : Nat} {ok : Nat → Prop} {x0 x1 x2 : Int} (h : Kd.R (Kd.int .u64) 25 w base ok (.slice (some ⟨g, 0, none⟩) 3 c) [x0, x1, x2]) : w.cell? ⟨g, 2, none⟩ = some (.int .u64 x2) := by
  have ho := Kd.own_of_R h
  have := ho.cells (g := g) rfl 2 (.int .u64 x2) rfl
  rwa [add_plain] at this
namespace Rp
/-- the rows -/
structure Rv (w W : World) (va vc vd : Value) (an cs : List Int) (ds : List (List Int)) : Prop where
  ra : Kd.R (Kd.int .u32) 26 W w.heap.size (fun _ => True) va an
  rc : Kd.R (Kd.int .u64) 25 W w.heap.size (fun _ => True) vc cs
  rd : Kd.R (Kd.slice 5 (Kd.int .u8)) 22 W w.heap.size (fun _ => True) vd ds
  bel : Below w.heap.size w W
/-- the bytes that are left -/
def Rl (w W : World) (A : Option Addr) (c : Nat) (b : List Int) : Prop := Kd.C (Kd.int .u8) w A b.length b ∨ Kd.Q (Kd.int .u8) 5 W w.heap.size (fun _ => True) (.slice A b.length c) b
section
variable {w W W' : World} {va vc vd v1 : Value} {an cs : List Int} {ds : List (List Int)} {A : Option Addr} {c : Nat} {b : List Int}
theorem Rv.below_ (h : Rv w W va vc vd an cs ds) (hb : Below W.heap.size W W') : Rv w W' va vc vd an cs ds := ⟨Kd.R_below h.ra hb, Kd.R_below h.rc hb, Kd.R_below h.rd hb, below_then h.bel h.bel.size hb⟩
theorem Rl.reads (h : Rl w W A c b) (hb : Below w.heap.size w W) : Kd.C (Kd.int .u8) W A b.length b := by
  rcases h with h | h
  · exact Kd.C_below h hb
  · exact (Kd.Q_reads' h).2.2
theorem Rv.grown_ (h : Rv w W va vc vd an cs ds) (hg : W.grownBy W' (Value.slice none 0 0).ownBlock) (hb : Below w.heap.size w W') : Rv w W' va vc vd an cs ds := ⟨Kd.R_grown h.ra hg (fun _ _ h => by cases h), Kd.R_grown h.rc hg (fun _ _ h => by cases h), Kd.R_grown h.rd hg (fun _ _ h => by cases h), hb⟩
theorem take_C {rs : List Int} {M2 n5 cA1 : Nat} {A1 : Option Addr} {B : Nat} {ok : Nat → Prop} (h : Kd.R (Kd.int .u8) 5 W B ok (.slice A1 M2 cA1) rs) (hM : rs.length = M2) (hn : n5 ≤ M2) (hl : (rs.take n5).length = n5) : Kd.C (Kd.int .u8) W A1 n5 (rs.take n5) := by
  obtain ⟨Ax, cx, he, _, hC⟩ := Kd.R_reads h
  injection he with h1 h2 h3
  subst h1
  have := Kd.C_take (m := n5) hC (by rw [hM]; exact hn)
  rwa [hl] at this
theorem Rv.app_a {x : Int} (h : Rv w W va vc vd an cs ds) (hr : Kd.R (Kd.int .u32) 26 W' w.heap.size (fun _ => True) v1 (an ++ [x])) (hb : Below w.heap.size w W') (hg : W.grownBy W' va.ownBlock) : Rv w W' v1 vc vd (an ++ [x]) cs ds :=
  ⟨hr, Kd.R_over' h.rc (Kd.R_typed h.ra) (by decide) hg, Kd.R_over' h.rd (Kd.R_typed h.ra) (by decide) hg, hb⟩
theorem Rv.app_c {x : Int} (h : Rv w W va vc vd an cs ds) (hr : Kd.R (Kd.int .u64) 25 W' w.heap.size (fun _ => True) v1 (cs ++ [x])) (hb : Below w.heap.size w W') (hg : W.grownBy W' vc.ownBlock) : Rv w W' va v1 vd an (cs ++ [x]) ds :=
  ⟨Kd.R_over' h.ra (Kd.R_typed h.rc) (by decide) hg, hr, Kd.R_over' h.rd (Kd.R_typed h.rc) (by decide) hg, hb⟩
theorem Rv.app_d {x : List Int} (h : Rv w W va vc vd an cs ds) (hr : Kd.R (Kd.slice 5 (Kd.int .u8)) 22 W' w.heap.size (fun _ => True) v1 (ds ++ [x])) (hb : Below w.heap.size w W') (hg : W.grownBy W' vd.ownBlock) : Rv w W' va vc v1 an cs (ds ++ [x]) :=
  ⟨Kd.R_over' h.ra (Kd.R_typed h.rd) (by decide) hg, Kd.R_over' h.rc (Kd.R_typed h.rd) (by decide) hg, hr, hb⟩
end
end Rp
set_option maxHeartbeats 4000000 in
set_option maxRecDepth 100000 in
theorem refreplies_.calls (m : Int → Int) (A0 : Option Addr) (c0 : Nat) (l0 : List Int) (V : Value) (w : World) (hr0 : Kd.C (Kd.int .u8) w A0 l0.length l0) (hc0 : l0.length ≤ c0) (hl0 : l0.length ≤ 1000000) (hb0 : Wi.Bytes l0) (hm : Wi.Map w V m) :
    Calls Try.prog 21 #[.slice A0 l0.length c0, V] w fun e w' => ∃ v0 v1 v2 : Value, e = .returned (.tuple #[v0, v1, v2, .bool (Wi.repls m l0 [] [] []).2.2.2]) ∧ Kd.R (Kd.int .u32) 26 w' w.heap.size (fun _ => True) v0 (Wi.repls m l0 [] [] []).1 ∧
      Kd.R (Kd.int .u64) 25 w' w.heap.size (fun _ => True) v1 (Wi.repls m l0 [] [] []).2.1 ∧ Kd.R (Kd.slice 5 (Kd.int .u8)) 22 w' w.heap.size (fun _ => True) v2 (Wi.repls m l0 [] [] []).2.2.1 ∧ Below w.heap.size w w' := by
  have HR0 := Aside0.mk hr0
  have HB0 := Aside0.mk hb0
  have HM := Aside0.mk hm
  clear hr0 hb0 hm
  obtain ⟨N, HN⟩ : ∃ N, Aside0 (l0.length = N) := ⟨_, ⟨rfl⟩⟩
  rw [HN.out] at hc0 hl0 ⊢
  go_enter Try.func21, Try.ntmps21
  go_wp2_with fail
  go_loopg [0, 8, 9, 10] N (fun kq t0 t8 t9 t10 wr => ∃ (an cs : List Int) (ds : List (List Int)) (A : Option Addr) (c : Nat) (b : List Int), t0 = .slice A b.length c ∧ Aside0 (Rp.Rv w wr t8 t9 t10 an cs ds) ∧ Aside0 (Rp.Rl w wr A c b) ∧ Aside0 (b.length ≤ c ∧ Wi.Bytes b ∧ b.length ≤ kq ∧ kq ≤ N ∧ an.length + b.length ≤ N ∧ cs.length = an.length ∧ ds.length = an.length) ∧ Aside0 (Wi.repls m b an cs ds = Wi.repls m l0 [] [] []))
  case atStart => exact ⟨[], [], [], A0, c0, l0, by rw [HN.out], ⟨⟨Kd.R_nil _ _ _ _ _, Kd.R_nil _ _ _ _ _, Kd.R_nil _ _ _ _ _, Below.refl _ _⟩⟩, ⟨.inl HR0.out⟩, ⟨by rw [HN.out]; exact hc0, HB0.out, by rw [HN.out]; exact Nat.le_refl _, Nat.le_refl _, by rw [HN.out]; simp, rfl, rfl⟩, ⟨rfl⟩⟩
  case round =>
    obtain ⟨an, cs, ds, A, c, b, rfl, HV, HL, HBD, HRE⟩ := hrel
    obtain ⟨M, HMM⟩ : ∃ M, Aside0 (b.length = M) := ⟨_, ⟨rfl⟩⟩
    have hMb : M ≤ c ∧ M ≤ 1000000 := by have := HBD.out; have := HMM.out; omega
    rw [HMM.out]
    by_cases hz : M = 0
    · subst hz
      go_wp2_with fail
      refine bodyPost_ret (v := .tuple #[u8, u9, u10, .bool true]) (by simp [results, Try.results21, go_sem]) rfl ?_
      have HRR : Wi.repls m l0 [] [] [] = (an, cs, ds, true) := by rw [← HRE.out]; exact Wi.repls_nil m an cs ds b HMM.out
      rw [HRR]
      exact ⟨_, _, _, rfl, HV.out.ra, HV.out.rc, HV.out.rd, HV.out.bel⟩
    · have hz' : 0 < M := by omega
      go_wp2_with fail
      generalize hWq : World.alloc wr _ = W0
      have HA0 : Aside0 (Below wr.heap.size wr W0) := ⟨by rw [← hWq]; exact below_alloc (Below.refl _ _) _⟩
      have HCW : Aside0 (Kd.C (Kd.int .i64) W0 (some ⟨wr.heap.size, 0, none⟩) 3 [4, 4, 8]) := ⟨by rw [← hWq]; exact Lit.reads_new wr _ _ _ .i64 [4, 4, 8] rfl (by decide)⟩
      clear hWq
      obtain ⟨ns, rs, ok, HTK⟩ : ∃ (ns rs : List Int) (ok : Bool), Aside0 (PBase.coamingref06_Take.f 100 b [4, 4, 8] = some (ns, rs, ok) ∧ (ok = decide (16 ≤ M)) ∧ (16 ≤ M → rs = b.drop 16 ∧ ns = [Wi.rp0 b, Wi.rp1 b, Wi.rp2 b])) := by
        have hN := HMM.out
        have e := Wi.rtake_is b [4, 4, 8] HBD.out.2.1 (by omega) (by decide) 100 (by decide)
        by_cases h : M < 16
        · exact ⟨[], [], false, ⟨by rw [e, Wi.takes448, if_pos (by omega)], by simp; omega, fun h2 => absurd h2 (by omega)⟩⟩
        · exact ⟨_, _, true, ⟨by rw [e, Wi.takes448, if_neg (by omega)], by simp; omega, fun _ => ⟨rfl, rfl⟩⟩⟩
      have HF : Aside0 (Calls Try.prog 27 #[.slice A M c, .slice (some ⟨wr.heap.size, 0, none⟩) 3 3] W0 fun e w' => ∃ v0_ v1_ : Value, e = .returned (.tuple #[v0_, v1_, .bool ok]) ∧ Kd.R (Kd.int .u64) 25 w' W0.heap.size (fun _ => True) v0_ ns ∧ Kd.R (Kd.int .u8) 5 w' W0.heap.size (fun _ => True) v1_ rs ∧ Below W0.heap.size W0 w') := ⟨by
        have := PBase.coamingref06_Take.calls 100 A c b (some ⟨wr.heap.size, 0, none⟩) 3 [4, 4, 8] ns rs ok W0 (Kd.C_below (HL.out.reads HV.out.bel) HA0.out) HBD.out.1 HCW.out (by decide) HTK.out.1
        rw [HMM.out] at this
        exact this⟩
      refine HF.out.mono ?_
      rintro e w2 ⟨v0, v1, rfl, rv0, rv1, bf⟩
      have HW2 := Aside0.mk (below_then HA0.out HA0.out.size bf)
      have HV2 := Aside0.mk (HV.out.below_ HW2.out)
      have HX0 := Aside0.mk rv0
      have HX1 := Aside0.mk (Kd.R_lower rv1 (Nat.le_trans HV.out.bel.size HA0.out.size))
      clear rv0 rv1 bf HF HCW HV HL
      cases ok
      · clear HX0 HX1
        have HBAD : Aside0 (Wi.repls m l0 [] [] [] = ([], [], [], false)) := ⟨by rw [← HRE.out]; exact Wi.repls_bad m b an cs ds (by rw [HMM.out]; omega) (fun h => (by have := h.1; rw [HMM.out] at this; have h1 : ¬ 16 ≤ M := of_decide_eq_false HTK.out.2.1.symm; exact h1 this))⟩
        clear HRE HBD
        go_wp2_with fail
        refine bodyPost_ret (v := .tuple #[.slice none 0 0, .slice none 0 0, .slice none 0 0, .bool false]) (by simp [results, Try.results21, go_sem]) rfl ?_
        rw [HBAD.out]
        exact ⟨_, _, _, rfl, Kd.R_nil _ _ _ _ _, Kd.R_nil _ _ _ _ _, Kd.R_nil _ _ _ _ _, HV2.out.bel⟩
      · obtain ⟨x0, x1, x2, hns, HX⟩ : ∃ x0 x1 x2, ns = [x0, x1, x2] ∧ Aside0 (Wi.rp0 b = x0 ∧ Wi.rp1 b = x1 ∧ Wi.rp2 b = x2) := ⟨_, _, _, (HTK.out.2.2 (of_decide_eq_true HTK.out.2.1.symm)).2, ⟨rfl, rfl, rfl⟩⟩
        have h16 : 16 ≤ M := of_decide_eq_true HTK.out.2.1.symm
        have HRS := Aside0.mk (HTK.out.2.2 h16).1
        subst hns
        obtain ⟨gl, cl, rfl, hgb, hgl, hgc, c0', c1', c2'⟩ := Wi.three_cells HX0.out
        obtain ⟨A1, cA1, rfl, hcA, hCA⟩ := Kd.R_reads HX1.out
        obtain ⟨M2, HM2⟩ : ∃ M, Aside0 (rs.length = M) := ⟨_, ⟨rfl⟩⟩
        have HMN : Aside0 (M2 + 16 = M) := ⟨by rw [← HM2.out, HRS.out, List.length_drop, HMM.out]; omega⟩
        have hM2 : M2 ≤ 1000000 := by have := HMN.out; omega
        rw [HM2.out] at hcA HX1 ⊢
        have hbn := Wi.rp_bnd b HBD.out.2.1
        obtain ⟨e0, e1, e2⟩ := HX.out
        rw [e0, e1, e2] at hbn
        have hmb : 0 ≤ m x2 ∧ m x2 ≤ 4294967295 := HM.out.1 x2
        obtain ⟨y, HYY⟩ : ∃ y, Aside0 (m x2 = y) := ⟨_, ⟨rfl⟩⟩
        rw [HYY.out] at hmb
        have HRN : Aside0 (Wi.rpn m b = if x1 = 0 then y else 0) := ⟨by unfold Wi.rpn; rw [e1, e2, HYY.out]⟩
        have HOK : Aside0 (Wi.rpOk m b ↔ x0 = 1732535960 ∧ Wi.rpn m b ≤ M2) := ⟨by
          have := HMN.out
          unfold Wi.rpOk
          rw [e0, HMM.out]
          constructor
          · rintro ⟨_, h1, h2⟩; exact ⟨h1, by omega⟩
          · rintro ⟨h1, h2⟩; exact ⟨h16, h1, by omega⟩⟩
        clear e0 e1 e2 HTK hCA
        obtain ⟨⟨b00, b01⟩, ⟨b10, b11⟩, ⟨b20, b21⟩⟩ := hbn
        obtain ⟨bm0, bm1⟩ := hmb
        by_cases hx0 : x0 = 1732535960
        · subst hx0
          by_cases hx1 : x1 = 0
          · subst hx1
            have HRY : Aside0 (Wi.rpn m b = y) := ⟨by rw [HRN.out, if_pos rfl]⟩
            have hlk := (HM.out.below HV2.out.bel).run x2 b20 (by omega)
            rw [HYY.out] at hlk
            clear HRN
            by_cases hM : (M2 : Int) < y
            · have hM3 := hM
              have HBAD : Aside0 (Wi.repls m l0 [] [] [] = ([], [], [], false)) := ⟨by rw [← HRE.out]; exact Wi.repls_bad m b an cs ds (by rw [HMM.out]; omega) (fun h => (by have := (HOK.out.1 h).2; rw [HRY.out] at this; omega))⟩
              clear HRE HBD
              go_wp2_with fail
              refine bodyPost_ret (v := .tuple #[.slice none 0 0, .slice none 0 0, .slice none 0 0, .bool false]) (by simp [results, Try.results21, go_sem]) rfl ?_
              rw [HBAD.out]
              exact ⟨_, _, _, rfl, Kd.R_nil _ _ _ _ _, Kd.R_nil _ _ _ _ _, Kd.R_nil _ _ _ _ _, HV2.out.bel⟩
            · obtain ⟨n5, hn5⟩ := Int.eq_ofNat_of_zero_le bm0
              have hM' : y ≤ M2 := by omega
              have HNE := Aside0.mk hn5
              have HNM : Aside0 (n5 ≤ M2) := ⟨by omega⟩
              have HNN : Aside0 (Wi.rpn m b ≤ M2 ∧ Wi.rpn m b = (n5 : Int)) := ⟨by rw [HRY.out]; exact ⟨hM', hn5⟩⟩
              clear hn5 hM
              have HOKK : Aside0 (Wi.rpOk m b) := ⟨HOK.out.2 ⟨by simp, HNN.out.1⟩⟩
              have HDD : Aside0 ((rs.take n5).length = n5 ∧ rs.take n5 = Wi.rpData m b ∧ rs.drop n5 = Wi.rpRest m b ∧ M2 - n5 = (Wi.rpRest m b).length) := ⟨by
                have h1 := HNN.out.2
                have h3 := HNM.out
                have h2 := HM2.out
                have e1 : rs.take n5 = Wi.rpData m b := by unfold Wi.rpData; rw [HRS.out, h1, Int.toNat_natCast]
                have e2 : rs.drop n5 = Wi.rpRest m b := by unfold Wi.rpRest; rw [HRS.out, h1, Int.toNat_natCast]
                exact ⟨by rw [List.length_take]; omega, e1, e2, by rw [← e2, List.length_drop, h2]⟩⟩
              obtain ⟨A2, hs1, hq1⟩ := Wk.cut_from_Q (P := Try.prog) 22 5 .i64 Try.underlying22 Wi.infoByte1 .u8 A1 cA1 rs y n5 HNE.out (by rw [HM2.out]; exact HNM.out)
              have hs2 := Wk.cut_to_ (P := Try.prog) 22 5 .i64 Try.underlying22 Wi.infoByte1 A1 cA1 rs y n5 HNE.out (by rw [HM2.out]; exact HNM.out) (by rw [HM2.out]; exact hcA)
              rw [HM2.out] at hs1 hs2
              have HQX := Aside0.mk hq1
              clear hq1
              have HBL : Aside0 (an.length ≤ 1000000 ∧ cs.length ≤ 1000000 ∧ ds.length ≤ 1000000 ∧ n5 ≤ 1000000 ∧ HBD.out.1 = HBD.out.1) := ⟨by have := HBD.out; have := HNM.out; have := HMN.out; have := HMM.out; exact ⟨by omega, by omega, by omega, by omega, rfl⟩⟩
              have HL1 : Aside0 ((an.length + 1) * 4 ≤ 140737488355328 ∧ (cs.length + 1) * 8 ≤ 140737488355328 ∧ (([] : List Int).length + n5) * 1 ≤ 140737488355328 ∧ (ds.length + 1) * 24 ≤ 140737488355328) := ⟨by have := HBL.out; simp only [List.length_nil]; omega⟩
              have u1 := IntWalk.u32_in (0 : Int) (by omega)
              go_wp2_with (first
                | (at_builtin; refine Kd.R_append (Kd.int .u32) (w0 := w) (W := w2) w.heap.size rfl (.tmp 49) (.tmp 54) 42 26 (.int .u32 0) 4 rfl Try.underlying42 Rp.info32 rfl (by decide) (by omega) u8 an 0 [.int .u32 0] (fun _ => True) (fun _ => False) rfl rfl rfl (fun _ h => h.elim) (fun _ _ => trivial) HV2.out.ra HV2.out.bel HV2.out.bel.size HL1.out.1 ?_; intro v8 w3 hr hb hg _; have ty := Kd.R_typed HV2.out.ra; have HV3 := Aside0.mk (HV2.out.app_a hr hb hg); have HX3 := Aside0.mk (Kd.R_over' HX1.out ty (by decide) hg); have HC3 := Aside0.mk (Wi.three_cells_ (Kd.R_over' HX0.out ty (by decide) hg)); clear hr hb hg ty; have c3' := HC3.out)
                | (at_builtin; refine Kd.R_append (Kd.int .u64) (w0 := w) (W := w3) w.heap.size rfl (.tmp 56) (.tmp 60) 43 25 (.int .u64 0) 8 rfl Try.underlying43 Wi.info64 rfl (by decide) (by omega) u9 cs x2 [.int .u64 x2] (fun _ => True) (fun _ => False) rfl rfl rfl (fun _ h => h.elim) (fun _ _ => trivial) HV3.out.rc HV3.out.bel HV3.out.bel.size HL1.out.2.1 ?_; intro v9 w4 hr hb hg _; have ty := Kd.R_typed HV3.out.rc; have HV4 := Aside0.mk (HV3.out.app_c hr hb hg); have HX4 := Aside0.mk (Kd.R_over' HX3.out ty (by decide) hg); clear hr hb hg ty c3')
                | (at_builtin; refine Kd.R_append_rows (Kd.int .u8) (w0 := w) (W := w4) w.heap.size rfl (.tmp 62) (.tmp 66) 22 5 (.int .u8 0) 1 rfl Try.underlying22 Cl.infoByte rfl (by decide) (by omega) (.slice none 0 0) ([] : List Int) (rs.take n5) A1 n5 cA1 (fun _ => True) (fun _ => False) rfl rfl (Kd.R_nil _ _ _ _ _) (Rp.take_C HX4.out HM2.out HNM.out HDD.out.1) (fun _ _ h => h) (fun _ h => h.elim) (fun _ _ => trivial) HV4.out.bel HV4.out.bel.size HL1.out.2.2.1 ?_; intro v15 w5 ho hb hg _; rw [List.nil_append] at ho; obtain ⟨A5, c5, rfl⟩ := Kd.R_slice ho; rw [HDD.out.1] at *; have HO5 := Aside0.mk ho; have HV5 := Aside0.mk (HV4.out.grown_ hg hb); have HX5 := Aside0.mk (Kd.R_grown HX4.out hg (fun _ _ h => by cases h)); clear ho hb hg)
                | (at_builtin; refine Kd.R_append (Kd.slice 5 (Kd.int .u8)) (w0 := w) (W := w5) w.heap.size rfl (.tmp 68) (.tmp 70) 44 22 (.slice none 0 0) 24 rfl Try.underlying44 Rp.infoRow rfl (by decide) (by omega) u10 ds (rs.take n5) [.slice A5 n5 c5] (fun _ => True) (fun k => True ∧ some k ≠ u10.ownBlock) rfl rfl ⟨_, rfl, Kd.R_apart' HO5.out (Kd.R_typed HV5.out.rd) (by decide)⟩ (fun _ h => h) (fun _ _ => trivial) HV5.out.rd HV5.out.bel HV5.out.bel.size HL1.out.2.2.2 ?_; intro v10 w6 hr hb hg _; have HV6 := Aside0.mk (HV5.out.app_d hr hb hg); have HX6 := Aside0.mk (Kd.R_over' HX5.out (Kd.R_typed HV5.out.rd) (by decide) hg); clear hr hb hg))
              cases gk with
              | zero => exact absurd HBD.out.2.2.1 (by rw [HMM.out]; omega)
              | succ k1 =>
                go_roundg k1
                case measure => have := HBD.out; omega
                case rel =>
                  have hrl := Wi.rpRest_lt m b HOKK.out
                  have hbd := HBD.out
                  have hmm := HMM.out
                  obtain ⟨e0, e1, e2⟩ := HX.out
                  have hQ := HQX.out w6 w.heap.size (fun _ => True) (by rw [HM2.out]; exact Kd.Q_of_R HX6.out)
                  rw [HM2.out, HDD.out.2.2.2, HDD.out.2.2.1] at hQ
                  rw [HDD.out.2.1] at HV6
                  exact ⟨an ++ [0], cs ++ [x2], ds ++ [Wi.rpData m b], A2, cA1 - n5, Wi.rpRest m b, by rw [HDD.out.2.2.2], HV6, ⟨.inr hQ⟩, ⟨(Kd.Q_reads' hQ).2.1, Wi.Bytes.drop (Wi.Bytes.drop hbd.2.1 16) _, by omega, by omega, by simp; omega, by simp; omega, by simp; omega⟩, ⟨by rw [← HRE.out, Wi.repls_good m b an cs ds HOKK.out, e1, e2]⟩⟩
          · have tk : (x1 == 0) = false := by simpa using hx1
            obtain ⟨n5, hn5⟩ : ∃ n5 : Nat, n5 = 0 := ⟨_, rfl⟩
            have HNE : Aside0 ((0 : Int) = n5) := ⟨by rw [hn5]; rfl⟩
            have HNM : Aside0 (n5 ≤ M2) := ⟨by omega⟩
            have HNN : Aside0 (Wi.rpn m b ≤ M2 ∧ Wi.rpn m b = (n5 : Int)) := ⟨by rw [HRN.out, if_neg hx1, hn5]; simp⟩
            have hM' : (0 : Int) ≤ M2 := by omega
            clear hn5 hx1
            have HOKK : Aside0 (Wi.rpOk m b) := ⟨HOK.out.2 ⟨by simp, HNN.out.1⟩⟩
            have HDD : Aside0 ((rs.take n5).length = n5 ∧ rs.take n5 = Wi.rpData m b ∧ rs.drop n5 = Wi.rpRest m b ∧ M2 - n5 = (Wi.rpRest m b).length) := ⟨by
              have h1 := HNN.out.2
              have h3 := HNM.out
              have h2 := HM2.out
              have e1 : rs.take n5 = Wi.rpData m b := by unfold Wi.rpData; rw [HRS.out, h1, Int.toNat_natCast]
              have e2 : rs.drop n5 = Wi.rpRest m b := by unfold Wi.rpRest; rw [HRS.out, h1, Int.toNat_natCast]
              exact ⟨by rw [List.length_take]; omega, e1, e2, by rw [← e2, List.length_drop, h2]⟩⟩
            obtain ⟨A2, hs1, hq1⟩ := Wk.cut_from_Q (P := Try.prog) 22 5 .i64 Try.underlying22 Wi.infoByte1 .u8 A1 cA1 rs 0 n5 HNE.out (by rw [HM2.out]; exact HNM.out)
            have hs2 := Wk.cut_to_ (P := Try.prog) 22 5 .i64 Try.underlying22 Wi.infoByte1 A1 cA1 rs 0 n5 HNE.out (by rw [HM2.out]; exact HNM.out) (by rw [HM2.out]; exact hcA)
            rw [HM2.out] at hs1 hs2
            have HQX := Aside0.mk hq1
            clear hq1
            have HBL : Aside0 (an.length ≤ 1000000 ∧ cs.length ≤ 1000000 ∧ ds.length ≤ 1000000 ∧ n5 ≤ 1000000 ∧ HBD.out.1 = HBD.out.1) := ⟨by have := HBD.out; have := HNM.out; have := HMN.out; have := HMM.out; exact ⟨by omega, by omega, by omega, by omega, rfl⟩⟩
            have HL1 : Aside0 ((an.length + 1) * 4 ≤ 140737488355328 ∧ (cs.length + 1) * 8 ≤ 140737488355328 ∧ (([] : List Int).length + n5) * 1 ≤ 140737488355328 ∧ (ds.length + 1) * 24 ≤ 140737488355328) := ⟨by have := HBL.out; simp only [List.length_nil]; omega⟩
            have u1 := IntWalk.u32_in (x1 : Int) (by omega)
            go_wp2_with (first
              | (at_builtin; refine Kd.R_append (Kd.int .u32) (w0 := w) (W := w2) w.heap.size rfl (.tmp 49) (.tmp 54) 42 26 (.int .u32 0) 4 rfl Try.underlying42 Rp.info32 rfl (by decide) (by omega) u8 an x1 [.int .u32 x1] (fun _ => True) (fun _ => False) rfl rfl rfl (fun _ h => h.elim) (fun _ _ => trivial) HV2.out.ra HV2.out.bel HV2.out.bel.size HL1.out.1 ?_; intro v8 w3 hr hb hg _; have ty := Kd.R_typed HV2.out.ra; have HV3 := Aside0.mk (HV2.out.app_a hr hb hg); have HX3 := Aside0.mk (Kd.R_over' HX1.out ty (by decide) hg); have HC3 := Aside0.mk (Wi.three_cells_ (Kd.R_over' HX0.out ty (by decide) hg)); clear hr hb hg ty; have c3' := HC3.out)
              | (at_builtin; refine Kd.R_append (Kd.int .u64) (w0 := w) (W := w3) w.heap.size rfl (.tmp 56) (.tmp 60) 43 25 (.int .u64 0) 8 rfl Try.underlying43 Wi.info64 rfl (by decide) (by omega) u9 cs x2 [.int .u64 x2] (fun _ => True) (fun _ => False) rfl rfl rfl (fun _ h => h.elim) (fun _ _ => trivial) HV3.out.rc HV3.out.bel HV3.out.bel.size HL1.out.2.1 ?_; intro v9 w4 hr hb hg _; have ty := Kd.R_typed HV3.out.rc; have HV4 := Aside0.mk (HV3.out.app_c hr hb hg); have HX4 := Aside0.mk (Kd.R_over' HX3.out ty (by decide) hg); clear hr hb hg ty c3')
              | (at_builtin; refine Kd.R_append_rows (Kd.int .u8) (w0 := w) (W := w4) w.heap.size rfl (.tmp 62) (.tmp 66) 22 5 (.int .u8 0) 1 rfl Try.underlying22 Cl.infoByte rfl (by decide) (by omega) (.slice none 0 0) ([] : List Int) (rs.take n5) A1 n5 cA1 (fun _ => True) (fun _ => False) rfl rfl (Kd.R_nil _ _ _ _ _) (Rp.take_C HX4.out HM2.out HNM.out HDD.out.1) (fun _ _ h => h) (fun _ h => h.elim) (fun _ _ => trivial) HV4.out.bel HV4.out.bel.size HL1.out.2.2.1 ?_; intro v15 w5 ho hb hg _; rw [List.nil_append] at ho; obtain ⟨A5, c5, rfl⟩ := Kd.R_slice ho; rw [HDD.out.1] at *; have HO5 := Aside0.mk ho; have HV5 := Aside0.mk (HV4.out.grown_ hg hb); have HX5 := Aside0.mk (Kd.R_grown HX4.out hg (fun _ _ h => by cases h)); clear ho hb hg)
              | (at_builtin; refine Kd.R_append (Kd.slice 5 (Kd.int .u8)) (w0 := w) (W := w5) w.heap.size rfl (.tmp 68) (.tmp 70) 44 22 (.slice none 0 0) 24 rfl Try.underlying44 Rp.infoRow rfl (by decide) (by omega) u10 ds (rs.take n5) [.slice A5 n5 c5] (fun _ => True) (fun k => True ∧ some k ≠ u10.ownBlock) rfl rfl ⟨_, rfl, Kd.R_apart' HO5.out (Kd.R_typed HV5.out.rd) (by decide)⟩ (fun _ h => h) (fun _ _ => trivial) HV5.out.rd HV5.out.bel HV5.out.bel.size HL1.out.2.2.2 ?_; intro v10 w6 hr hb hg _; have HV6 := Aside0.mk (HV5.out.app_d hr hb hg); have HX6 := Aside0.mk (Kd.R_over' HX5.out (Kd.R_typed HV5.out.rd) (by decide) hg); clear hr hb hg))
            cases gk with
            | zero => exact absurd HBD.out.2.2.1 (by rw [HMM.out]; omega)
            | succ k1 =>
              go_roundg k1
              case measure => have := HBD.out; omega
              case rel =>
                have hrl := Wi.rpRest_lt m b HOKK.out
                have hbd := HBD.out
                have hmm := HMM.out
                obtain ⟨e0, e1, e2⟩ := HX.out
                have hQ := HQX.out w6 w.heap.size (fun _ => True) (by rw [HM2.out]; exact Kd.Q_of_R HX6.out)
                rw [HM2.out, HDD.out.2.2.2, HDD.out.2.2.1] at hQ
                rw [HDD.out.2.1] at HV6
                exact ⟨an ++ [x1], cs ++ [x2], ds ++ [Wi.rpData m b], A2, cA1 - n5, Wi.rpRest m b, by rw [HDD.out.2.2.2], HV6, ⟨.inr hQ⟩, ⟨(Kd.Q_reads' hQ).2.1, Wi.Bytes.drop (Wi.Bytes.drop hbd.2.1 16) _, by omega, by omega, by simp; omega, by simp; omega, by simp; omega⟩, ⟨by rw [← HRE.out, Wi.repls_good m b an cs ds HOKK.out, e1, e2]⟩⟩
        · have hb0 : (x0 != 1732535960) = true := by simpa using hx0
          have HBAD : Aside0 (Wi.repls m l0 [] [] [] = ([], [], [], false)) := ⟨by rw [← HRE.out]; exact Wi.repls_bad m b an cs ds (by rw [HMM.out]; omega) (fun h => (hx0 (HOK.out.1 h).1))⟩
          clear HRE HBD
          go_wp2_with fail
          refine bodyPost_ret (v := .tuple #[.slice none 0 0, .slice none 0 0, .slice none 0 0, .bool false]) (by simp [results, Try.results21, go_sem]) rfl ?_
          rw [HBAD.out]
          exact ⟨_, _, _, rfl, Kd.R_nil _ _ _ _ _, Kd.R_nil _ _ _ _ _, Kd.R_nil _ _ _ _ _, HV2.out.bel⟩
#print axioms refreplies_.calls
end Go.Proofs.Ytemhlinodccokaa
