/- The reference's pipe: All, Take. -/
import Derived.Test.YtikogcdakdndnaaPipeF
set_option linter.unusedVariables false
set_option linter.unusedSimpArgs false
namespace Go.Proofs.Ytikogcdakdndnaa
open Go.RowKit Go.Proofs.YtikogcdakdndnaaW.PrintWords Go.Proofs.YtikogcdakdndnaaW.PrintLast Go.Proofs.YtikogcdakdndnaaW.PrintMore
namespace Pi
/-- a request of a row of its own: its load, its cells -/
theorem row_getM {w : World} {base : Nat} {ok : Nat → Prop} {v : Value} {rs : List Rq} (h : kRq.R 33 w base ok v rs) (i : Nat) (hi : i < rs.length) : ∃ ad c A1 c1, v = .slice (some ad) rs.length c ∧ (∀ w', Below w.heap.size w w' → (Instr.loadAt 33 (.pointer (some (ad.add (i * 6))))).run Try.prog w' = .ok (.agg (rqc rs[i].1 rs[i].2.1 rs[i].2.2.1 rs[i].2.2.2.1 rs[i].2.2.2.2.1 (.slice A1 rs[i].2.2.2.2.2.length c1)).toArray) w') ∧ kRq.M w base (fun k => ok k ∧ some k ≠ v.ownBlock) rs[i] (rqc rs[i].1 rs[i].2.1 rs[i].2.2.1 rs[i].2.2.2.1 rs[i].2.2.2.2.1 (.slice A1 rs[i].2.2.2.2.2.length c1)) := by
  obtain ⟨A, cc, rfl, _, hrd⟩ := OwnRow.reads h.2
  obtain ⟨ad, c, e, _, hM, hc0⟩ := ReadsRow.get_ hrd ((0, 0, 0, 0, 0, []) : Rq) (i : Int) (by omega) (by omega)
  rw [List.getD_eq_getElem?_getD, Int.toNat_natCast, List.getElem?_eq_getElem hi] at hM
  change kRq.M w base _ rs[i] c at hM
  have hc : ∀ j u, c[j]? = some u → w.cell? (ad.add (i * 6 + j)) = some u := fun j u hu => by
    have := hc0 j u hu
    rwa [Int.toNat_natCast] at this
  obtain ⟨v5, rfl, hR5⟩ := rq_Mc hM
  obtain ⟨A5, c5, rfl⟩ := Kd.R_slice hR5
  subst e
  refine ⟨ad, cc, A5, c5, rfl, ?_, hM⟩
  intro w' hb
  have hu := Try.underlying33
  obtain ⟨q, hi, hsz⟩ := Option.map_eq_some_iff.1 size33
  have hl : (loadCells (ad.add (i * 6)) 6).run Try.prog w' = .ok (rqc rs[i].1 rs[i].2.1 rs[i].2.2.1 rs[i].2.2.2.1 rs[i].2.2.2.2.1 (.slice A5 rs[i].2.2.2.2.2.length c5)).toArray w' :=
    run_loadCells_list (P := Try.prog) w' (ad.add (i * 6)) (rqc rs[i].1 rs[i].2.1 rs[i].2.2.1 rs[i].2.2.2.1 rs[i].2.2.2.2.1 (.slice A5 rs[i].2.2.2.2.2.length c5)) (fun j v hv => by rw [add_add]; have := hc j v hv; exact (hb.cell (World.block_lt_of_cell? w _ this)).trans this)
  have hagg : (isAgg 33).run Try.prog w' = .ok true w' := by
    unfold isAgg
    rw [Sem.run_bind, run_underlying hu w']
    rfl
  simp [Instr.loadAt, Instr.sureAddr, loadVar, Sem.run_bind, hagg, sizeOf, typeInfo, hi, hsz, hl]
end Pi
set_option maxHeartbeats 1000000 in
set_option maxRecDepth 100000 in
theorem rall_.calls {W : World} {base : Nat} {ok : Nat → Prop} {g : Nat} {rs : List Rq} (h : Pi.Rf W base ok g rs) (hd : ∀ r ∈ rs, r.2.2.2.2.2.length < 140737488355328) :
    Calls Try.prog 14 #[.pointer (some ⟨g, 0, none⟩)] W fun e w' => ∃ v, e = .returned v ∧ kRq.R 33 w' W.heap.size (fun _ => True) v rs ∧ Below W.heap.size W w' := by
  have HP := Aside0.mk h
  have HD := Aside0.mk hd
  obtain ⟨AL, cL, hcL, hlL, hCL, hBL, hRL⟩ := h.cell
  have HRL := Aside0.mk hRL
  have HCL := Aside0.mk hCL
  obtain ⟨m, HM⟩ : ∃ n, Aside0 (rs.length = n) := ⟨_, ⟨rfl⟩⟩
  have hm16 : m ≤ 16 := by rw [← HM.out]; exact h.le
  have hm16I : (m : Int) ≤ 16 := by omega
  rw [HM.out] at hcL
  have HCELL := Aside0.mk hcL
  have HGL := Aside0.mk h.lt
  clear h hd hcL hlL hCL hBL hRL
  go_enter Try.func14, Try.ntmps14
  go_wp2_with fail
  go_loopw [3, 4] (fun v i wr => ∃ k : Nat, i = .int .i64 k ∧ k ≤ m ∧ Aside0 (kRq.R 33 wr W.heap.size (fun _ => True) v (rs.take k)) ∧ Aside0 (Below W.heap.size W wr)) (fun _ i _ => m - (intOf i).toNat)
  case atStart => exact ⟨0, rfl, Nat.zero_le _, ⟨Kd.R_nil _ _ _ _ _⟩, ⟨Below.refl _ _⟩⟩
  case round =>
    obtain ⟨k, rfl, hk, HR, HB⟩ := hrel
    have hcell := (HB.out.cell (p := ⟨g, 0, none⟩) HGL.out).trans HCELL.out
    by_cases hlt : k < m
    · have hltI : (k : Int) < m := by omega
      have hki : k < rs.length := by rw [HM.out]; exact hlt
      obtain ⟨ad, c0, A, c, hv, hrun, hMr⟩ := Pi.row_getM HRL.out k hki
      obtain rfl : AL = some ad := by injection hv
      obtain ⟨r, hr⟩ : ∃ r, rs[k] = r := ⟨_, rfl⟩
      rw [hr] at hrun hMr
      have HTK : Aside0 (rs.take (k + 1) = rs.take k ++ [r]) := ⟨by rw [List.take_succ_eq_append_getElem hki, hr]⟩
      have HDR : Aside0 (r.2.2.2.2.2.length < 140737488355328) := ⟨HD.out r (by rw [← hr]; exact List.getElem_mem _)⟩
      obtain ⟨fl, kd, ck, off, len, data⟩ := r
      obtain ⟨n, HN⟩ : ∃ n, Aside0 (data.length = n) := ⟨_, ⟨rfl⟩⟩
      have HRUN : Aside0 ((Instr.loadAt 33 (.pointer (some (ad.add (k * 6))))).run Try.prog wr = .ok (.agg (Pi.rqc fl kd ck off len (.slice A n c)).toArray) wr) := ⟨by rw [← HN.out]; exact hrun _ HB.out⟩
      have HKR : Aside0 (kRq.K wr (fl, kd, ck, off, len, data) (Pi.rqc fl kd ck off len (.slice A n c))) := ⟨by rw [← HN.out]; exact kRq.K_below HB.out (kRq.K_of_M hMr)⟩
      clear hv hrun hMr hr hki
      go_wp2_with (refine Wk.load rfl 33 (.tmp 20) rfl (.agg (Pi.rqc fl kd ck off len (.slice A n c)).toArray) (.pointer (some (ad.add (k * 6)))) rfl HRUN.out ?_)
      refine (rlent_.calls HKR.out HDR.out).mono ?_
      rintro e w2 ⟨cs2, rfl, hM, hb2⟩
      obtain ⟨v2, rfl, hR2⟩ := Pi.rq_Mc hM
      obtain ⟨A2, c2, rfl⟩ := Kd.R_slice hR2
      change Kd.R _ _ _ _ _ (.slice A2 data.length c2) data at hR2
      change kRq.M _ _ _ _ (Pi.rqc fl kd ck off len (.slice A2 data.length c2)) at hM
      rw [show ((fl, kd, ck, off, len, data) : Rq).2.2.2.2.2 = data from rfl, HN.out]
      unfold Pi.rqc
      obtain ⟨inner, hown⟩ := Kd.R_own HR.out
      have HM2 := Aside0.mk (kRq.M_lower HB.out.size (Kd.M_new hM hown))
      have HR2 := Aside0.mk (Kd.R_below HR.out hb2)
      have HB2 := Aside0.mk (below_then HB.out HB.out.size hb2)
      have HL2 : Aside0 (((rs.take k).length + 1) * 56 ≤ 140737488355328) := ⟨by rw [List.length_take]; omega⟩
      rw [HN.out] at HM2
      clear hM hb2 hR2 hown HRUN HKR hcell
      go_wp2_with (at_builtin; refine Kd.R_append kRq (w0 := W) (W := w2) W.heap.size rfl (.tmp 14) (.tmp 23) 22 33 (.agg Pi.zrq.toArray) 56 rfl Try.underlying22 Pi.info33 rfl (by decide) (by omega) u3 (rs.take k) (fl, kd, ck, off, len, data) (Pi.rqc fl kd ck off len (.slice A2 n c2)) (fun _ => True) (fun k => True ∧ some k ≠ u3.ownBlock) rfl rfl HM2.out (fun _ h => h) (fun _ _ => trivial) HR2.out HB2.out HB2.out.size HL2.out ?_; intro v3 w3 hr3 hb3 _ _; have HR3 := Aside0.mk hr3; have HB3 := Aside0.mk hb3; clear hr3 hb3)
      go_roundw
      case rel => exact ⟨k + 1, by go_num, by omega, ⟨by rw [HTK.out]; exact HR3.out⟩, HB3⟩
      case measure => simp [intOf]; omega
    · obtain rfl : m = k := by omega
      go_wp2_with fail
      go_ret
      refine ⟨_, rfl, ?_, HB.out⟩
      have := HR.out
      rwa [← HM.out, List.take_length] at this
#print axioms rall_.calls
namespace Pi
theorem M_away {w : World} {base b : Nat} {ok : Nat → Prop} {r : Rq} {cs zs : List Value} (h : kRq.M w base ok r cs) (hb : Wk.Blk w b 33 zs) : kRq.M w base (fun j => j ≠ b ∧ j < w.heap.size) r cs :=
  kRq.M_mono (fun j hj => ⟨hj.1.2, hj.2.2.1⟩) (kRq.M_bound (Kd.M_types h hb.out (by decide)))
theorem M_onlyT {w w' : World} {base : Nat} {ok : Nat → Prop} {x : Rq} {cs zs : List Value} {g : Nat} {t : TypeId} (h : kRq.M w base ok x cs) (hb : Wk.Blk w g t zs) (ht : ∀ q, q ∈ kRq.E → q ≠ t) (hO : Wk.Only w w' g) : kRq.M w' base ok x cs :=
  kRq.M_mono (fun _ hk => hk.1) (Kd.M_grown (Kd.M_types h hb.out ht) hO.grown (fun k hk he => hk.2 (by injection he)))
/-- a list of which k have been looked at, the one at i left out -/
def outl (rs : List Rq) (i k : Nat) : List Rq := (rs.take k).eraseIdx i
theorem outl_ne (rs : List Rq) (i k : Nat) (hk : k < rs.length) (hne : k ≠ i) : outl rs i (k + 1) = outl rs i k ++ [rs[k]] := by
  unfold outl
  rcases Nat.lt_or_ge i k with h | h
  · rw [List.take_succ_eq_append_getElem hk, List.eraseIdx_append_of_lt_length (by rw [List.length_take]; omega)]
  · rw [List.eraseIdx_of_length_le (by rw [List.length_take]; omega), List.eraseIdx_of_length_le (by rw [List.length_take]; omega), List.take_succ_eq_append_getElem hk]
theorem outl_eq (rs : List Rq) (i : Nat) : outl rs i (i + 1) = outl rs i i := by
  unfold outl
  rw [List.eraseIdx_eq_take_drop_succ, List.take_take, Nat.min_eq_left (Nat.le_succ _), List.drop_of_length_le (by rw [List.length_take]; omega), List.append_nil, List.eraseIdx_of_length_le (by rw [List.length_take]; omega)]
theorem outl_all (rs : List Rq) (i : Nat) : outl rs i rs.length = rs.eraseIdx i := by unfold outl; rw [List.take_length]
theorem outl_len (rs : List Rq) (i k : Nat) : (outl rs i k).length ≤ k := by
  unfold outl
  have := List.length_eraseIdx_le (rs.take k) i
  rw [List.length_take] at this
  omega
end Pi
set_option maxHeartbeats 1000000 in
set_option maxRecDepth 100000 in
theorem rtake_no {W : World} {base : Nat} {ok : Nat → Prop} {g : Nat} {rs : List Rq} (h : Pi.Rf W base ok g rs) (k : Int) (hk : k < 0 ∨ (rs.length : Int) ≤ k) :
    Calls Try.prog 22 #[.pointer (some ⟨g, 0, none⟩), .int .i64 k] W fun e w' => e = .returned (.tuple #[.agg Pi.zrq.toArray, .bool false]) ∧ Below W.heap.size W w' := by
  obtain ⟨AL, cL, hcL, _⟩ := h.cell
  have HGL := Aside0.mk h.lt
  obtain ⟨m, HM⟩ : ∃ n, Aside0 (rs.length = n) := ⟨_, ⟨rfl⟩⟩
  rw [HM.out] at hcL hk
  have HSZ := Aside0.mk Pi.size33
  clear h
  rcases hk with hk | hk
  · skip
    go_enter Try.func22, Try.ntmps22
    have hc1 : (W.alloc (.cells #[.int .u16 0, .int .u16 0, .int .u64 0, .int .u64 0, .int .u32 0, .slice none 0 0] 33)).cell? ⟨g, 0, none⟩ = some (.slice AL m cL) := by rw [World.cell?_alloc_lt _ _ _ HGL.out]; exact hcL
    have HX := Aside0.mk (Wk.Blk.new W 33 Pi.zrq)
    go_wp2_with (refine Wk.store_all rfl rfl 33 (.tmp 4) (.tmp 20) rfl W.heap.size Pi.zrq rfl rfl 33 _ HX.out HSZ.out rfl rfl ?_; intro w3 hX hO; have HX3 := Aside0.mk hX; have HO3 := Aside0.mk hO; clear hX hO)
    refine bodyPost_ret (Wk.res_ct rfl _ W.heap.size 33 _ _ rfl HX3.out Try.underlying33 rfl HSZ.out) rfl ?_
    exact ⟨rfl, Wk.Only.below ((Below.refl _ _).alloc (Nat.le_refl _) _) HO3.out (Nat.le_refl _)⟩
  · have hk0 : 0 ≤ k := by omega
    go_enter Try.func22, Try.ntmps22
    have hc1 : (W.alloc (.cells #[.int .u16 0, .int .u16 0, .int .u64 0, .int .u64 0, .int .u32 0, .slice none 0 0] 33)).cell? ⟨g, 0, none⟩ = some (.slice AL m cL) := by rw [World.cell?_alloc_lt _ _ _ HGL.out]; exact hcL
    have HX := Aside0.mk (Wk.Blk.new W 33 Pi.zrq)
    go_wp2_with (refine Wk.store_all rfl rfl 33 (.tmp 4) (.tmp 20) rfl W.heap.size Pi.zrq rfl rfl 33 _ HX.out HSZ.out rfl rfl ?_; intro w3 hX hO; have HX3 := Aside0.mk hX; have HO3 := Aside0.mk hO; clear hX hO)
    refine bodyPost_ret (Wk.res_ct rfl _ W.heap.size 33 _ _ rfl HX3.out Try.underlying33 rfl HSZ.out) rfl ?_
    exact ⟨rfl, Wk.Only.below ((Below.refl _ _).alloc (Nat.le_refl _) _) HO3.out (Nat.le_refl _)⟩
#print axioms rtake_no
set_option maxHeartbeats 2000000 in
set_option maxRecDepth 100000 in
theorem rtake_yes {W : World} {base : Nat} {g : Nat} {rs : List Rq} (h : Pi.Rf W base (fun _ => True) g rs) (i : Nat) (hi : i < rs.length) (hb : base ≤ W.heap.size) :
    Calls Try.prog 22 #[.pointer (some ⟨g, 0, none⟩), .int .i64 i] W fun e w' => ∃ cs, e = .returned (.tuple #[.agg cs.toArray, .bool true]) ∧ kRq.K w' rs[i] cs ∧ Pi.Rf w' base (fun _ => True) g (rs.eraseIdx i) ∧ W.grownBy w' (some g) := by
  have HP := Aside0.mk h
  have HBS := Aside0.mk hb
  obtain ⟨AL, cL, hcL, hlL, hCL, hBL, hRL⟩ := h.cell
  obtain ⟨ad, c0, A1, c1, hv, hrun, hMr⟩ := Pi.row_getM hRL i hi
  obtain rfl : AL = some ad := by injection hv
  have HRL := Aside0.mk hRL
  obtain ⟨m, HM⟩ : ∃ n, Aside0 (rs.length = n) := ⟨_, ⟨rfl⟩⟩
  obtain ⟨r, HR⟩ : ∃ r, Aside0 (rs[i] = r) := ⟨_, ⟨rfl⟩⟩
  rw [HR.out] at hrun hMr ⊢
  obtain ⟨md, HMD⟩ : ∃ m, Aside0 (r.2.2.2.2.2.length = m) := ⟨_, ⟨rfl⟩⟩
  rw [HMD.out] at hrun hMr
  have hm16 : m ≤ 16 := by rw [← HM.out]; exact h.le
  have hiI : (i : Int) < m := by have := HM.out; omega
  have hm16I : (m : Int) ≤ 16 := by omega
  rw [HM.out] at hcL hBL
  have HBL := Aside0.mk hBL
  have HRUN := Aside0.mk hrun
  have HMR := Aside0.mk hMr
  have HGL := Aside0.mk h.lt
  have HSZ := Aside0.mk Pi.size33
  have HCELL := Aside0.mk hcL
  clear h hb hlL hCL hBL hRL hv hrun hMr
  go_enter Try.func22, Try.ntmps22
  have hc1 : (W.alloc (.cells #[.int .u16 0, .int .u16 0, .int .u64 0, .int .u64 0, .int .u32 0, .slice none 0 0] 33)).cell? ⟨g, 0, none⟩ = some (.slice (some ad) m cL) := by rw [World.cell?_alloc_lt _ _ _ HGL.out]; exact hcL
  have HX := Aside0.mk (Wk.Blk.new W 33 Pi.zrq)
  have HRUN1 := Aside0.mk (HRUN.out (W.alloc (.cells #[.int .u16 0, .int .u16 0, .int .u64 0, .int .u64 0, .int .u32 0, .slice none 0 0] 33)) (below_alloc (Below.refl _ _) _))
  clear hcL
  go_wp2_with (first
    | refine Wk.load rfl 33 (.tmp 26) rfl _ (.pointer (some (ad.add (i * 6)))) rfl HRUN1.out ?_
    | (refine Wk.store_all rfl rfl 33 (.tmp 6) (.tmp 27) rfl (W.heap.size + 1) (Pi.rqc r.1 r.2.1 r.2.2.1 r.2.2.2.1 r.2.2.2.2.1 (.slice A1 md c1)) rfl rfl 33 Pi.zrq ⟨heap_alloc2_new W _ _⟩ HSZ.out rfl rfl ?_; intro w3 hX hO; have HY3 := Aside0.mk hX; have HO3 := Aside0.mk hO; clear hX hO))
  have HB3 : Aside0 (Below W.heap.size W w3) := ⟨Wk.Only.below (((Below.refl _ _).alloc (Nat.le_refl _) _).alloc (by simp) _) HO3.out (Nat.le_succ _)⟩
  have HX3 : Aside0 (Wk.Blk w3 W.heap.size 33 Pi.zrq) := ⟨(HX.out.alloc _).only HO3.out (Nat.ne_of_lt (Nat.lt_succ_self _))⟩
  have HBL3 := Aside0.mk (HBL.out.below_ HB3.out)
  have HRL3 := Aside0.mk (Kd.R_below HRL.out HB3.out)
  have HCELL3 := Aside0.mk ((HB3.out.cell (p := ⟨g, 0, none⟩) HGL.out).trans HCELL.out)
  have HMR3 := Aside0.mk (Kd.M_below HMR.out HB3.out)
  have HW3 : Aside0 (W.heap.size < w3.heap.size) := ⟨HX3.out.lt⟩
  have HG3 := Aside0.mk HBL3.out.lt
  have HS22 := Aside0.mk Pi.size22
  have HNE : Aside0 (W.heap.size ≠ g ∧ W.heap.size + 1 ≠ g) := ⟨by have := HGL.out; omega⟩
  clear hc1 HX HO3 HRUN HRUN1 HRL HCELL HMR HBL
  go_wp2_with fail
  go_loopw [7, 8] (fun v ix wr => ∃ k : Nat, ix = .int .i64 k ∧ k ≤ m ∧ Aside0 (kRq.R 33 wr base (fun j => j ≠ W.heap.size) v (Pi.outl rs i k)) ∧ Aside0 (Below w3.heap.size w3 wr) ∧ Aside0 (∀ j, v.ownBlock = some j → w3.heap.size ≤ j)) (fun _ ix _ => m - (intOf ix).toNat)
  case atStart => exact ⟨0, rfl, Nat.zero_le _, ⟨Kd.R_nil _ _ _ _ _⟩, ⟨Below.refl _ _⟩, ⟨fun j h => by simp [Value.ownBlock] at h⟩⟩
  case round =>
    obtain ⟨k, rfl, hk, HO, HB, HV⟩ := hrel
    have hcell := (HB.out.cell (p := ⟨g, 0, none⟩) HG3.out).trans HCELL3.out
    by_cases hlt : k < m
    · have hltI : (k : Int) < m := by omega
      by_cases hki : k = i
      · subst hki
        go_wp2_with fail
        go_roundw
        case rel => exact ⟨k + 1, by go_num, by omega, ⟨by rw [Pi.outl_eq]; exact HO.out⟩, HB, HV⟩
        case measure => simp [intOf]; omega
      · have hneI : ((k : Int) == (i : Int)) = false := by simp; omega
        have hneJ : ((k : Int) != (i : Int)) = true := by simp; omega
        have hkl : k < rs.length := by rw [HM.out]; exact hlt
        obtain ⟨ad', c0', A2, c2, hv, hrun, hM2⟩ := Pi.row_getM HRL3.out k hkl
        obtain rfl : ad = ad' := by injection hv with h; injection h
        have HTK := Aside0.mk (Pi.outl_ne rs i k hkl hki)
        obtain ⟨r2, HR2⟩ : ∃ r2, Aside0 (rs[k] = r2) := ⟨_, ⟨rfl⟩⟩
        rw [HR2.out] at hrun hM2 HTK
        obtain ⟨n2, HN2⟩ : ∃ m, Aside0 (r2.2.2.2.2.2.length = m) := ⟨_, ⟨rfl⟩⟩
        rw [HN2.out] at hrun hM2
        have HRUN := Aside0.mk (hrun wr HB.out)
        have HM2 : Aside0 (kRq.M wr base (fun j => j ≠ W.heap.size ∧ some j ≠ u7.ownBlock) r2 (Pi.rqc r2.1 r2.2.1 r2.2.2.1 r2.2.2.2.1 r2.2.2.2.2.1 (.slice A2 n2 c2))) := ⟨kRq.M_mono (fun j hj => ⟨hj.1, fun he => by have := HV.out j he.symm; omega⟩) (Kd.M_below (Pi.M_away hM2 HX3.out) HB.out)⟩
        have HL2 : Aside0 (((Pi.outl rs i k).length + 1) * 56 ≤ 140737488355328) := ⟨by have := Pi.outl_len rs i k; omega⟩
        have HBW : Aside0 (Below base W wr ∧ base ≤ wr.heap.size) := ⟨(below_then HB3.out HB3.out.size HB.out).mono HBS.out, Nat.le_trans HBS.out (Nat.le_trans HB3.out.size HB.out.size)⟩
        have HFR : Aside0 (∀ j, wr.heap.size ≤ j → j ≠ W.heap.size) := ⟨fun j hj he => by have := HW3.out; have := HB.out.size; omega⟩
        clear hv hrun hM2
        unfold Pi.rqc at HRUN HM2
        go_wp2_with (first
          | refine Wk.load rfl 33 (.tmp 46) rfl _ (.pointer (some (ad.add (k * 6)))) rfl HRUN.out ?_
          | (at_builtin; refine Kd.R_append kRq (w0 := W) (W := wr) base rfl (.tmp 40) (.tmp 48) 22 33 (.agg Pi.zrq.toArray) 56 rfl Try.underlying22 Pi.info33 rfl (by decide) (by omega) u7 (Pi.outl rs i k) r2 [.int .u16 r2.1, .int .u16 r2.2.1, .int .u64 r2.2.2.1, .int .u64 r2.2.2.2.1, .int .u32 r2.2.2.2.2.1, .slice A2 n2 c2] (fun j => j ≠ W.heap.size) (fun j => j ≠ W.heap.size ∧ some j ≠ u7.ownBlock) rfl rfl HM2.out (fun _ h => h) HFR.out HO.out HBW.out.1 HBW.out.2 HL2.out ?_; intro v9 w9 hr9 hb9 hg9 ha9; have HO9 := Aside0.mk hr9; have HG9 := Aside0.mk hg9; have HA9 := Aside0.mk ha9; clear hr9 hb9 hg9 ha9))
        go_roundw
        case rel => exact ⟨k + 1, by go_num, by omega, ⟨by rw [HTK.out]; exact HO9.out⟩, ⟨HB.out.grown HG9.out HB.out.size HV.out⟩, ⟨fun j hj => by
          rcases HA9.out with h | ⟨b, h, hb⟩
          · exact HV.out j (h ▸ hj)
          · rw [h] at hj
            injection hj with hj
            have := HB.out.size
            omega⟩⟩
        case measure => simp [intOf]; omega
    · obtain rfl : m = k := by omega
      have HOE : Aside0 (Pi.outl rs i m = rs.eraseIdx i) := ⟨by rw [← HM.out]; exact Pi.outl_all rs i⟩
      rw [HOE.out] at HO
      obtain ⟨A9, c9, rfl⟩ := Kd.R_slice HO.out
      obtain ⟨m9, HM9⟩ : ∃ m9, Aside0 ((rs.eraseIdx i).length = m9) := ⟨_, ⟨rfl⟩⟩
      rw [HM9.out] at HO HV ⊢
      have HBr := Aside0.mk (HBL3.out.below_ HB.out)
      have HXr := Aside0.mk (HX3.out.below_ HB.out)
      have HYr := Aside0.mk (HY3.out.below_ HB.out)
      go_wp2_with (first
        | (refine Wk.store rfl rfl 22 (.tmp 53) (.tmp 51) rfl g 0 (.slice A9 m9 c9) [.slice A9 m9 c9] rfl rfl rfl 51 _ HBr.out HS22.out (Nat.le_refl 1) rfl ?_; intro w5 hX hO; have HX5 := Aside0.mk (show Wk.Blk w5 g 51 [.slice A9 m9 c9] from hX); have HO5 := Aside0.mk hO; have HY5 := Aside0.mk (HYr.out.only hO HNE.out.2); have HZ5 := Aside0.mk (HXr.out.only hO HNE.out.1); clear hX hO)
        | refine Wk.load rfl 33 (.tmp 6) rfl _ (.pointer (some ⟨W.heap.size + 1, 0, none⟩)) rfl (Wk.run_load_blk 33 (W.heap.size + 1) 0 (Pi.rqc r.1 r.2.1 r.2.2.1 r.2.2.2.1 r.2.2.2.2.1 (.slice A1 md c1)) _ HY5.out rfl Try.underlying33 rfl HSZ.out) ?_
        | (refine Wk.store_all rfl rfl 33 (.tmp 4) (.tmp 54) rfl W.heap.size (Pi.rqc r.1 r.2.1 r.2.2.1 r.2.2.2.1 r.2.2.2.2.1 (.slice A1 md c1)) rfl rfl 33 _ HZ5.out HSZ.out rfl rfl ?_; intro w7 hX hO; have HX7 := Aside0.mk hX; have HO7 := Aside0.mk hO; clear hX hO))
      refine bodyPost_ret (Wk.res_ct rfl _ W.heap.size 33 _ _ rfl HX7.out Try.underlying33 rfl HSZ.out) rfl ?_
      have hE : ∀ q, q ∈ kRq.E → q ≠ 51 := by decide
      have hE2 : ∀ q, q ∈ kRq.E → q ≠ 33 := by decide
      have hM := Pi.M_onlyT (Pi.M_onlyT (Kd.M_below HMR3.out HB.out) HBr.out hE HO5.out) HZ5.out hE2 HO7.out
      have hg6 : W.grownBy w5 (some g) := World.grownBy.trans (grown_of_below HB3.out _) (World.grownBy.trans (grown_of_below HB.out _) HO5.out.grown)
      have hle : m9 ≤ 16 := by have h1 := HM9.out; have h2 := HM.out; have h3 := List.length_eraseIdx_le rs i; omega
      refine ⟨_, rfl, kRq.K_of_M hM, ⟨.slice A9 m9 c9, HX5.out.only HO7.out (Ne.symm HNE.out.1), HP.out.base_, by rw [HM9.out]; exact hle, ?_⟩, ⟨HO7.out.os.trans hg6.os, HO7.out.tape.trans hg6.tape, HO7.out.output.trans hg6.output, by rw [HO7.out.size]; exact hg6.size, fun k hk hkn => (HO7.out.block k (by omega)).trans (hg6.block k hk hkn)⟩⟩
      have hR5 := Wk.R_only HO.out HBr.out Pi.kRq_ne HO5.out
      exact Kd.R_mono (Kd.R_grown hR5 HO7.out.grown (fun j hj he => hj (by injection he))) (fun _ _ => trivial)
#print axioms rtake_yes
end Go.Proofs.Ytikogcdakdndnaa
