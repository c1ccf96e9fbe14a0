/- The walk of the law PipeDoes. -/
import Derived.Test.YtikogcdakdndnaaPipeO
import Derived.Test.YtikogcdakdndnaaPipeV
set_option linter.unusedVariables false
set_option linter.unusedSimpArgs false
namespace Go.Proofs.Ytikogcdakdndnaa
open Go.RowKit Go.Proofs.YtikogcdakdndnaaW.PrintWords Go.Proofs.YtikogcdakdndnaaW.PrintLast Go.Proofs.YtikogcdakdndnaaW.PrintMore
namespace Pi
theorem Pp.blk {W : World} {base : Nat} {ok : Nat → Prop} {g : Nat} {rs : List Rq} (h : Pp W base ok g rs) : ∃ cs, Wk.Blk W g 49 cs := by
  obtain ⟨cs, h1, _⟩ := h.out
  exact ⟨cs, h1⟩
theorem Rf.blk {W : World} {base : Nat} {ok : Nat → Prop} {g : Nat} {rs : List Rq} (h : Rf W base ok g rs) : ∃ cs, Wk.Blk W g 51 cs := by
  obtain ⟨v, h1, _⟩ := h.out
  exact ⟨_, h1⟩
theorem ne_PR {W : World} {base base' : Nat} {ok ok' : Nat → Prop} {g q : Nat} {rs rs' : List Rq} (h : Pp W base ok g rs) (hr : Rf W base' ok' q rs') : q ≠ g := by
  obtain ⟨cs, h1⟩ := h.blk
  obtain ⟨zs, h2⟩ := hr.blk
  rintro rfl
  have := h1.out
  rw [h2.out] at this
  injection this with this
  injection this with _ this
  exact absurd this (by decide)
/-- the reference stays where the pipe has been written -/
theorem Rf.grown_pipe {W W' : World} {base base' : Nat} {ok ok' : Nat → Prop} {g q : Nat} {rs rs' : List Rq} (h : Rf W base ok q rs) (hp : Pp W base' ok' g rs') (hg : W.grownBy W' (some g)) : Rf W' base ok q rs := by
  have hne := ne_PR hp h
  obtain ⟨v, h1, h2, h3, h4⟩ := h.out
  obtain ⟨cs, hb⟩ := hp.blk
  exact ⟨v, h1.grown hg (fun he => hne (by injection he)), h2, h3, Kd.R_mono (Kd.R_grown (Kd.R_types h4 hb.out kRq_ne') hg (fun k hk he => hk.2 (by injection he))) (fun _ hk => hk.1)⟩
/-- the pipe stays where the reference's own block has been written -/
theorem Pp.only_ref {W W' : World} {base base' : Nat} {ok ok' : Nat → Prop} {g q : Nat} {rs rs' : List Rq} (h : Pp W base ok g rs) (hr : Rf W base' ok' q rs') (hO : Wk.Only W W' q) : Pp W' base ok g rs := by
  have hne := ne_PR h hr
  obtain ⟨cs, h1, h2, h3, h4, h5, h6⟩ := h.out
  obtain ⟨zs, hb⟩ := hr.blk
  exact ⟨cs, h1.only hO (Ne.symm hne), h2, h3, h4, h5, h6.imp_ (fun _ _ hp => M_onlyT hp hb (by decide) hO)⟩
theorem Pp.grown_ref {W W' : World} {base base' : Nat} {ok ok' : Nat → Prop} {g q : Nat} {rs rs' : List Rq} (h : Pp W base ok g rs) (hr : Rf W base' ok' q rs') (hg : W.grownBy W' (some q)) : Pp W' base ok g rs := by
  have hne := ne_PR h hr
  obtain ⟨cs, h1, h2, h3, h4, h5, h6⟩ := h.out
  obtain ⟨zs, hb⟩ := hr.blk
  exact ⟨cs, h1.grown hg (fun he => hne (by injection he with he; exact he.symm)), h2, h3, h4, h5, h6.imp_ (fun _ _ hp => kRq.M_mono (fun _ hk => hk.1) (Kd.M_grown (Kd.M_types hp hb.out (by decide)) hg (fun k hk he => hk.2 (by injection he))))⟩
theorem zrq_K (W : World) : kRq.K W ((0, 0, 0, 0, 0, []) : Rq) zrq := ck_K W 0
/-- a call of Take: what both answer -/
theorem take_both {base g q : Nat} (rs : List Rq) (t : Int) : ∃ (x : Rq) (isb : Bool) (rs' : List Rq), (∀ r ∈ rs', r ∈ rs) ∧
    (∀ w, Pp w base (fun _ => True) g rs → Calls Try.prog 16 #[.pointer (some ⟨g, 0, none⟩), .int .i64 t] w fun e w' => ∃ A c, e = .returned (.tuple #[.agg (rqc x.1 x.2.1 x.2.2.1 x.2.2.2.1 x.2.2.2.2.1 (.slice A x.2.2.2.2.2.length c)).toArray, .bool isb]) ∧ kRq.M w' base (fun _ => True) x (rqc x.1 x.2.1 x.2.2.1 x.2.2.2.1 x.2.2.2.2.1 (.slice A x.2.2.2.2.2.length c)) ∧ Pp w' base (fun _ => True) g rs' ∧ w.grownBy w' (some g)) ∧
    (∀ w, Rf w base (fun _ => True) q rs → base ≤ w.heap.size → Calls Try.prog 22 #[.pointer (some ⟨q, 0, none⟩), .int .i64 t] w fun e w' => ∃ A c, e = .returned (.tuple #[.agg (rqc x.1 x.2.1 x.2.2.1 x.2.2.2.1 x.2.2.2.2.1 (.slice A x.2.2.2.2.2.length c)).toArray, .bool isb]) ∧ kRq.K w' x (rqc x.1 x.2.1 x.2.2.1 x.2.2.2.1 x.2.2.2.2.1 (.slice A x.2.2.2.2.2.length c)) ∧ Rf w' base (fun _ => True) q rs' ∧ w.grownBy w' (some q)) := by
  by_cases h : 0 ≤ t ∧ t < rs.length
  · obtain ⟨i, rfl⟩ := Int.eq_ofNat_of_zero_le h.1
    have hi : i < rs.length := by omega
    refine ⟨rs[i], true, rs.eraseIdx i, fun r hr => List.mem_of_mem_eraseIdx hr, fun w hp => ?_, fun w hr hb => ?_⟩
    · refine (take_yes hp i hi).mono ?_
      rintro e w' ⟨cs, rfl, hM, hp', hg⟩
      obtain ⟨v, rfl, hR⟩ := rq_Mc hM
      obtain ⟨A, c, rfl⟩ := Kd.R_slice hR
      exact ⟨A, c, rfl, hM, hp', hg⟩
    · refine (rtake_yes hr i hi hb).mono ?_
      rintro e w' ⟨cs, rfl, hK, hr', hg⟩
      obtain ⟨A, c, rfl, _, _⟩ := rq_cells hK
      exact ⟨A, c, rfl, hK, hr', hg⟩
  · have h' : t < 0 ∨ (rs.length : Int) ≤ t := by omega
    refine ⟨(0, 0, 0, 0, 0, []), false, rs, fun r hr => hr, fun w hp => ?_, fun w hr hb => ?_⟩
    · refine (take_no hp t h').mono ?_
      rintro e w' ⟨rfl, hb⟩
      exact ⟨none, 0, rfl, rq_M (Kd.R_nil _ _ _ _ _), hp.below hb, grown_of_below hb _⟩
    · refine (rtake_no hr t h').mono ?_
      rintro e w' ⟨rfl, hb'⟩
      exact ⟨none, 0, rfl, zrq_K w', hr.below hb', grown_of_below hb' _⟩
end Pi
set_option maxHeartbeats 4000000 in
set_option maxRecDepth 100000 in
theorem pipeDoes_.calls (x0 : List Pi.Oq) (v0 : Value) (W : World) (hK0 : (Kd.slice 41 Pi.kOp).K W x0 [v0]) (hw0 : x0.length ≤ maxLen ∧ ∀ x ∈ x0, Pi.OpWf x) :
    Calls Try.prog 6 #[v0] W fun e w' => e = .returned (.bool true) ∧ Below W.heap.size W w' := by
  obtain ⟨A, c, he0, hlc, hC⟩ := hK0
  obtain rfl : v0 = .slice A x0.length c := by simpa using he0
  have HC := Aside0.mk hC
  have HV := heavy_.calls hC hlc
  obtain ⟨n, HN⟩ : ∃ n, Aside0 (x0.length = n) := ⟨_, ⟨rfl⟩⟩
  rw [HN.out] at HV ⊢
  have HHV := Aside0.mk HV
  clear hw0 hC hlc he0 HV
  go_enter Try.func6, Try.ntmps6
  go_wp2_with fail
  refine HHV.out.mono ?_
  rintro e w0 ⟨b, rfl, hf, hb0⟩
  have HB0 := Aside0.mk hb0
  clear hb0 HHV
  cases b
  · obtain ⟨h150, h100⟩ := hf rfl
    have H100 := Aside0.mk h100
    have h150i : (n : Int) ≤ 150 := by omega
    clear hf h100 h150
    go_wp2_with fail
    refine (known_.calls w0).mono ?_
    rintro e w1 ⟨rfl, hb⟩
    have HB1 := Aside0.mk (below_then HB0.out HB0.out.size hb)
    clear hb HB0
    go_wp2_with fail
    refine (new_.calls (fun _ => True) w1).mono ?_
    rintro e w2 ⟨rfl, hp, hb⟩
    obtain ⟨g, HG⟩ : ∃ g, Aside0 (w1.heap.size = g) := ⟨_, ⟨rfl⟩⟩
    have HB2 : Aside0 (Below W.heap.size W w2) := ⟨below_then HB1.out HB1.out.size hb⟩
    have hpl := hp.lower HB1.out.size
    rw [HG.out] at hpl ⊢
    have HP2 := Aside0.mk hpl
    clear hb hp hpl HB1 HG
    go_wp2_with fail
    refine (rnew_.calls (fun _ => True) w2).mono ?_
    rintro e w3 ⟨rfl, hr, hb⟩
    obtain ⟨q, HQ⟩ : ∃ q, Aside0 (w2.heap.size = q) := ⟨_, ⟨rfl⟩⟩
    have HB3 : Aside0 (Below W.heap.size W w3) := ⟨below_then HB2.out HB2.out.size hb⟩
    have HP3 := Aside0.mk (HP2.out.below hb)
    have hrl := hr.lower HB2.out.size
    rw [HQ.out] at hrl ⊢
    have HR3 := Aside0.mk hrl
    clear hb hr hrl HB2 HP2 HQ
    go_wp2_with fail
    go_loopw [5] (fun i wr => ∃ (k : Nat) (rs : List Rq), i = .int .i64 k ∧ k ≤ n ∧ Aside0 (Pi.Pp wr W.heap.size (fun _ => True) g rs) ∧ Aside0 (Pi.Rf wr W.heap.size (fun _ => True) q rs) ∧ Aside0 (Below W.heap.size W wr) ∧ Aside0 (∀ r ∈ rs, r.2.2.2.2.2.length ≤ 100)) (fun i _ => n - (intOf i).toNat)
    case atStart => exact ⟨0, [], rfl, Nat.zero_le _, HP3, HR3, HB3, ⟨by simp⟩⟩
    case round =>
      obtain ⟨k, rs, rfl, hk, HP, HR, HB, HD⟩ := hrel
      clear HP3 HR3 HB3
      by_cases hlt : k < n
      · have hltI : (k : Int) < n := by omega
        have hki : k < x0.length := by rw [HN.out]; exact hlt
        obtain ⟨ad, A1, c1, hA, hc0, hc1, hc2, hrun, hKr⟩ := Pi.op_get HC.out k hki rfl
        subst hA
        have HDK := Aside0.mk (H100.out _ (List.getElem_mem hki))
        obtain ⟨add, clr, t, r, HRK⟩ : ∃ add clr t r, Aside0 (x0[k] = (add, clr, t, r)) := ⟨_, _, _, _, ⟨rfl⟩⟩
        rw [HRK.out] at hc0 hc1 hc2 hrun hKr HDK
        replace hc0 : wr.cell? (ad.add (k * 9)) = some (.bool add) := (HB.out.cell (World.block_lt_of_cell? W _ hc0)).trans hc0
        replace hc1 : wr.cell? ⟨(ad.add (k * 9)).block, (ad.add (k * 9)).off + 1, none⟩ = some (.bool clr) := (HB.out.cell (World.block_lt_of_cell? W _ hc1)).trans hc1
        have HC2 : Aside0 (∀ w', Below W.heap.size W w' → w'.cell? ⟨(ad.add (k * 9)).block, (ad.add (k * 9)).off + 2, none⟩ = some (.int .i64 t)) := ⟨fun w' hb => (hb.cell (World.block_lt_of_cell? W _ hc2)).trans hc2⟩
        change kRq.K W r (Pi.rqc r.1 r.2.1 r.2.2.1 r.2.2.2.1 r.2.2.2.2.1 (.slice A1 r.2.2.2.2.2.length c1)) at hKr
        obtain ⟨md, HMD⟩ : ∃ m, Aside0 (r.2.2.2.2.2.length = m) := ⟨_, ⟨rfl⟩⟩
        have HRUN : Aside0 (∀ w', Below W.heap.size W w' → (Instr.loadAt 33 (.pointer (some ⟨(ad.add (k * 9)).block, (ad.add (k * 9)).off + 3, none⟩))).run Try.prog w' = .ok (.agg (Pi.rqc r.1 r.2.1 r.2.2.1 r.2.2.2.1 r.2.2.2.2.1 (.slice A1 md c1)).toArray) w') := ⟨by rw [← HMD.out]; exact hrun⟩
        rw [HMD.out] at hKr
        have HKW := Aside0.mk hKr
        obtain ⟨m, HM⟩ : ∃ m, Aside0 (rs.length = m) := ⟨_, ⟨rfl⟩⟩
        have hm16 : m ≤ 16 := by rw [← HM.out]; exact HP.out.le
        have HSZ := Aside0.mk Pi.size33
        clear hc2 hrun hKr
        cases clr
        · cases add
          · have hc2 := HC2.out wr HB.out
            obtain ⟨x, isb, rs', hin, hT1, hT2⟩ := Pi.take_both (base := W.heap.size) (g := g) (q := q) rs t
            have HT1 := Aside0.mk (hT1 wr HP.out)
            have HT2 := Aside0.mk hT2
            have HIN := Aside0.mk hin
            have HQL := Aside0.mk HR.out.lt
            obtain ⟨mx, HMX⟩ : ∃ m, Aside0 (x.2.2.2.2.2.length = m) := ⟨_, ⟨rfl⟩⟩
            rw [HMX.out] at HT1 HT2
            clear hT1 hT2 hin
            go_wp2_with fail
            refine HT1.out.mono ?_
            rintro e w4 ⟨A4, c4, rfl, hM4, hp4, hg4⟩
            have HM4 := Aside0.mk hM4
            have HP4 := Aside0.mk hp4
            have HR4 := Aside0.mk (HR.out.grown_pipe HP.out hg4)
            have HB4 := Aside0.mk (HB.out.grown hg4 HB.out.size (fun k hk => by cases hk; exact HP.out.base_))
            have HQ4 : Aside0 (q < w4.heap.size) := ⟨Nat.lt_of_lt_of_le HQL.out hg4.size⟩
            have HX4 := Aside0.mk (Wk.Blk.new w4 33 Pi.zrq)
            clear hM4 hp4 hg4 HP HR HB hc0 hc1 hc2
            unfold Pi.rqc
            go_wp2_with (refine Wk.store_all rfl rfl 33 (.tmp 7) (.tmp 34) rfl w4.heap.size (Pi.rqc x.1 x.2.1 x.2.2.1 x.2.2.2.1 x.2.2.2.2.1 (.slice A4 mx c4)) rfl rfl 33 Pi.zrq HX4.out HSZ.out rfl rfl ?_; intro w5 hX hO; have HX5 := Aside0.mk hX; have HB45 := Aside0.mk (Wk.Only.below ((Below.refl _ _).alloc (Nat.le_refl _) _) hO (Nat.le_refl _)); have HB5 := Aside0.mk (below_then HB4.out HB4.out.size HB45.out); have hc5 := HC2.out w5 HB5.out; clear hX hO)
            have HP5 := Aside0.mk (HP4.out.below HB45.out)
            have HR5 := Aside0.mk (HR4.out.below HB45.out)
            have HM5 := Aside0.mk (Kd.M_below HM4.out HB45.out)
            clear HP4 HR4 HX4 HM4 HB45 hc5
            refine (HT2.out w5 HR5.out HB5.out.size).mono ?_
            rintro e w6 ⟨A6, c6, rfl, hK6, hr6, hg6⟩
            obtain ⟨zs, hbq⟩ := HR5.out.blk
            have HM6 : Aside0 (kRq.M w6 W.heap.size (fun _ => True) x (Pi.rqc x.1 x.2.1 x.2.2.1 x.2.2.2.1 x.2.2.2.2.1 (.slice A4 mx c4))) := ⟨kRq.M_mono (fun _ hk => hk.1) (Kd.M_grown (Kd.M_types HM5.out hbq.out (by decide)) hg6 (fun k hk he => hk.2 (by injection he)))⟩
            have HX6 := Aside0.mk (HX5.out.grown hg6 (fun he => by injection he with he; have := HQ4.out; omega))
            have HP6 := Aside0.mk (HP5.out.grown_ref HR5.out hg6)
            have HR6 := Aside0.mk hr6
            have HK6 := Aside0.mk hK6
            have HB6 := Aside0.mk (HB5.out.grown hg6 HB5.out.size (fun k hk => by cases hk; exact HR5.out.base_))
            have HY6 := Aside0.mk (Wk.Blk.new w6 33 Pi.zrq)
            clear hK6 hr6 hg6 hbq HP5 HR5 HM5 HX5 HB5 HB4
            unfold Pi.rqc
            go_wp2_with (refine Wk.store_all rfl rfl 33 (.tmp 9) (.tmp 44) rfl w6.heap.size (Pi.rqc x.1 x.2.1 x.2.2.1 x.2.2.2.1 x.2.2.2.2.1 (.slice A6 mx c6)) rfl rfl 33 Pi.zrq HY6.out HSZ.out rfl rfl ?_; intro w7 hX hO; have HY7 := Aside0.mk hX; have HB67 := Aside0.mk (Wk.Only.below ((Below.refl _ _).alloc (Nat.le_refl _) _) hO (Nat.le_refl _)); have HX7 := Aside0.mk (HX6.out.below_ HB67.out); have d0 := HX7.out.at_ 0 (v := .int .u16 x.1) rfl; have d1 := HX7.out.at_ 1 (v := .int .u16 x.2.1) rfl; have d2 := HX7.out.at_ 2 (v := .int .u64 x.2.2.1) rfl; have d3 := HX7.out.at_ 3 (v := .int .u64 x.2.2.2.1) rfl; have d4 := HX7.out.at_ 4 (v := .int .u32 x.2.2.2.2.1) rfl; have d5 := HX7.out.at_ 5 (v := .slice A4 mx c4) rfl; have e0 := HY7.out.at_ 0 (v := .int .u16 x.1) rfl; have e1 := HY7.out.at_ 1 (v := .int .u16 x.2.1) rfl; have e2 := HY7.out.at_ 2 (v := .int .u64 x.2.2.1) rfl; have e3 := HY7.out.at_ 3 (v := .int .u64 x.2.2.2.1) rfl; have e4 := HY7.out.at_ 4 (v := .int .u32 x.2.2.2.2.1) rfl; have e5 := HY7.out.at_ 5 (v := .slice A6 mx c6) rfl; clear hX hO)
            have HMK := Aside0.mk (kRq.K_below HB67.out (kRq.K_of_M HM6.out))
            have HKK := Aside0.mk (kRq.K_below HB67.out HK6.out)
            clear d0 d1 d2 d3 d4 d5 e0 e1 e2 e3 e4 e5
            refine (same_.calls HMK.out HKK.out).mono ?_
            rintro e w8 ⟨rfl, hb8⟩
            have HB68 := Aside0.mk (below_then HB67.out HB67.out.size hb8)
            have HPE := Aside0.mk (HP6.out.below HB68.out)
            have HRE := Aside0.mk (HR6.out.below HB68.out)
            have HBE := Aside0.mk (below_then HB6.out HB6.out.size HB68.out)
            have HDE : Aside0 (∀ r ∈ rs', r.2.2.2.2.2.length ≤ 100) := ⟨fun r hr => HD.out r (HIN.out r hr)⟩
            clear hb8 HP6 HR6 HB6 HMK HKK HB67 HB68 HM6 HK6 HX6 HX7 HY7 HY6
            go_wp2_with fail
            have HDE2 : Aside0 (∀ r ∈ (rs' : List Rq), r.2.2.2.2.2.length < 140737488355328) := ⟨fun r hr => Nat.lt_of_le_of_lt (HDE.out r hr) (Nat.le_of_ble_eq_true rfl)⟩
            refine (len_.calls HPE.out).mono ?_
            rintro e wE ⟨rfl, hwe⟩
            subst hwe
            go_wp2_with fail
            refine (rlen_.calls HRE.out).mono ?_
            rintro e wE ⟨rfl, hwe⟩
            subst hwe
            go_wp2_with fail
            refine (full_.calls HPE.out).mono ?_
            rintro e wE ⟨rfl, hwe⟩
            subst hwe
            go_wp2_with fail
            refine (rfull_.calls HRE.out).mono ?_
            rintro e wE ⟨rfl, hwe⟩
            subst hwe
            go_wp2_with fail
            refine (all_.calls HPE.out HDE2.out).mono ?_
            rintro e wF ⟨vF, rfl, hRF, hbF⟩
            have HRF := Aside0.mk hRF
            have HBF := Aside0.mk hbF
            clear hRF hbF
            go_wp2_with fail
            refine (rall_.calls (HRE.out.below HBF.out) HDE2.out).mono ?_
            rintro e wG ⟨vG, rfl, hRG, hbG⟩
            obtain ⟨AF, cF, rfl, hlF, hCF⟩ := Kd.R_reads (Kd.R_below HRF.out hbG)
            obtain ⟨AG, cG, rfl, hlG, hCG⟩ := Kd.R_reads hRG
            have HS := Aside0.mk (sameall_.calls (w := wG) (rs := rs') (by have := HPE.out.le; omega) hCF hlF hCG hlG)
            have HBG := Aside0.mk (below_then HBF.out HBF.out.size hbG)
            clear hRG hbG hlF hCF hlG hCG HRF HBF
            go_wp2_with fail
            refine HS.out.mono ?_
            rintro e wH ⟨rfl, hbH⟩
            have HBH := Aside0.mk (below_then HBG.out HBG.out.size hbH)
            clear hbH HS HBG
            go_wp2_with fail
            go_roundw
            case rel => exact ⟨k + 1, rs', by go_num, by omega, ⟨HPE.out.below HBH.out⟩, ⟨HRE.out.below HBH.out⟩, ⟨below_then HBE.out HBE.out.size HBH.out⟩, HDE⟩
            case measure => simp [intOf]; omega
          · go_wp2_with fail
            have HKd := Aside0.mk (kRq.K_below (below_drew HB.out) HKW.out)
            have HPd := Aside0.mk (HP.out.below ((Below.refl _ _).drew))
            have HRd := Aside0.mk (HR.out.below ((Below.refl _ _).drew))
            have HBd := Aside0.mk (below_drew HB.out)
            have HDL : Aside0 (r.2.2.2.2.2.length < 140737488355328) := ⟨Nat.lt_of_le_of_lt HDK.out (Nat.le_of_ble_eq_true rfl)⟩
            clear HP HR hc0 hc1
            refine wp_region_noPanic ?_
            refine start_ (n := 16) (S := (fun w' => Below W.heap.size W w')) (ds := [13]) #[false, false, false, false, false, false, false, false, false, false, false, false, false, false, false, false] (by kernel_rfl) rfl rfl (below_drew HB.out) (fun hHeld => ?_)
            refine pure_ (i := 0) (N := (some 70)) (v := ?_) (a' := ?_) #[true, false, false, false, false, false, false, false, false, false, false, false, false, false, false, false] rfl rfl (by kernel_rfl) (fun _ _ _ h => h) (Or.inl ⟨by rfl, ?_⟩) ?_ ?_
            rotate_left
            · intro w'
              go_simp
              with_reducible rfl
            rotate_left
            · simp only [Act.put, List.setIfInBounds_toArray, List.set_cons_zero, List.set_cons_succ]
              rfl
            refine pure_ (i := 1) (N := (some 71)) (v := ?_) (a' := ?_) #[true, true, false, false, false, false, false, false, false, false, false, false, false, false, false, false] rfl rfl (by kernel_rfl) (fun _ _ _ h => h) (Or.inl ⟨by rfl, ?_⟩) ?_ ?_
            rotate_left
            · intro w'
              go_simp
              with_reducible rfl
            rotate_left
            · simp only [Act.put, List.setIfInBounds_toArray, List.set_cons_zero, List.set_cons_succ]
              rfl
            refine pure_ (i := 2) (N := (some 72)) (v := ?_) (a' := ?_) #[true, true, true, false, false, false, false, false, false, false, false, false, false, false, false, false] rfl rfl (by kernel_rfl) (fun _ _ _ h => h) (Or.inl ⟨by rfl, ?_⟩) ?_ ?_
            rotate_left
            · intro w'
              go_simp
              with_reducible rfl
            rotate_left
            · simp only [Act.put, List.setIfInBounds_toArray, List.set_cons_zero, List.set_cons_succ]
              rfl
            refine pure_ (i := 3) (N := (some 73)) (v := ?_) (a' := ?_) #[true, true, true, true, false, false, false, false, false, false, false, false, false, false, false, false] rfl rfl (by kernel_rfl) (fun _ _ _ h => h) (Or.inl ⟨by rfl, ?_⟩) ?_ ?_
            rotate_left
            · intro w'
              go_simp
              with_reducible rfl
            rotate_left
            · simp only [Act.put, List.setIfInBounds_toArray, List.set_cons_zero, List.set_cons_succ]
              rfl
            refine pure_ (i := 4) (N := (some 74)) (v := ?_) (a' := ?_) #[true, true, true, true, true, false, false, false, false, false, false, false, false, false, false, false] rfl rfl (by kernel_rfl) (fun _ _ _ h => h) (Or.inl ⟨by rfl, ?_⟩) ?_ ?_
            rotate_left
            · intro w'
              go_simp
              with_reducible rfl
            rotate_left
            · simp only [Act.put, List.setIfInBounds_toArray, List.set_cons_zero, List.set_cons_succ]
              rfl
            refine take_ (i := 5) (N := (some 75)) (v := ?_) (a' := ?_) #[true, true, true, true, true, true, false, false, false, false, false, false, false, false, false, false] rfl rfl (by kernel_rfl) (fun _ _ _ h => h) (Or.inl ⟨by rfl, ?_⟩) hHeld ?_ ?_
            rotate_left
            · intro w' hS'
              (refine (Wk.exec_load 33 (.tmp 74) rfl _ _ rfl (HRUN.out w' hS')).trans ?_)
              with_reducible rfl
            rotate_left
            · simp only [Act.put, List.setIfInBounds_toArray, List.set_cons_zero, List.set_cons_succ]
              rfl
            refine pure_ (i := 7) (N := (some 77)) (v := ?_) (a' := ?_) #[true, true, true, true, true, true, false, true, false, false, false, false, false, false, false, false] rfl rfl (by kernel_rfl) (fun _ _ _ h => h) (Or.inl ⟨by rfl, ?_⟩) ?_ ?_
            rotate_left
            · intro w'
              go_simp
              with_reducible rfl
            rotate_left
            · simp only [Act.put, List.setIfInBounds_toArray, List.set_cons_zero, List.set_cons_succ]
              rfl
            refine pure_ (i := 8) (N := (some 78)) (v := ?_) (a' := ?_) #[true, true, true, true, true, true, false, true, true, false, false, false, false, false, false, false] rfl rfl (by kernel_rfl) (fun _ _ _ h => h) (Or.inl ⟨by rfl, ?_⟩) ?_ ?_
            rotate_left
            · intro w'
              go_simp
              with_reducible rfl
            rotate_left
            · simp only [Act.put, List.setIfInBounds_toArray, List.set_cons_zero, List.set_cons_succ]
              rfl
            refine pure_ (i := 9) (N := (some 79)) (v := ?_) (a' := ?_) #[true, true, true, true, true, true, false, true, true, true, false, false, false, false, false, false] rfl rfl (by kernel_rfl) (fun _ _ _ h => h) (Or.inl ⟨by rfl, ?_⟩) ?_ ?_
            rotate_left
            · intro w'
              go_simp
              with_reducible rfl
            rotate_left
            · simp only [Act.put, List.setIfInBounds_toArray, List.set_cons_zero, List.set_cons_succ]
              rfl
            refine pure_ (i := 10) (N := (some 80)) (v := ?_) (a' := ?_) #[true, true, true, true, true, true, false, true, true, true, true, false, false, false, false, false] rfl rfl (by kernel_rfl) (fun _ _ _ h => h) (Or.inl ⟨by rfl, ?_⟩) ?_ ?_
            rotate_left
            · intro w'
              go_simp
              with_reducible rfl
            rotate_left
            · simp only [Act.put, List.setIfInBounds_toArray, List.set_cons_zero, List.set_cons_succ]
              rfl
            refine pure_ (i := 11) (N := (some 81)) (v := ?_) (a' := ?_) #[true, true, true, true, true, true, false, true, true, true, true, true, false, false, false, false] rfl rfl (by kernel_rfl) (fun _ _ _ h => h) (Or.inl ⟨by rfl, ?_⟩) ?_ ?_
            rotate_left
            · intro w'
              go_simp
              with_reducible rfl
            rotate_left
            · simp only [Act.put, List.setIfInBounds_toArray, List.set_cons_zero, List.set_cons_succ]
              rfl
            refine take_ (i := 12) (N := (some 82)) (v := ?_) (a' := ?_) #[true, true, true, true, true, true, false, true, true, true, true, true, true, false, false, false] rfl rfl (by kernel_rfl) (fun _ _ _ h => h) (Or.inl ⟨by rfl, ?_⟩) hHeld ?_ ?_
            rotate_left
            · intro w' hS'
              (refine (Wk.exec_load 33 (.tmp 81) rfl _ _ rfl (HRUN.out w' hS')).trans ?_)
              with_reducible rfl
            rotate_left
            · simp only [Act.put, List.setIfInBounds_toArray, List.set_cons_zero, List.set_cons_succ]
              rfl
            refine one_ (i := 6) (N := (some 76)) #[true, true, true, true, true, true, true, true, true, true, true, true, true, false, false, false] rfl rfl (by kernel_rfl) (by decide) (fun K hK => ?_)
            refine call_ 10 #[.pointer (some ⟨g, 0, none⟩), .agg (Pi.rqc r.1 r.2.1 r.2.2.1 r.2.2.2.1 r.2.2.2.2.1 (.slice A1 md c1)).toArray] (by rfl) rfl (by go_simp) ?_
            refine (add_.calls HPd.out HKd.out HDL.out HBd.out.size (fun _ _ => trivial)).mono ?_
            rintro e w4 ⟨rfl, hp4, hg4⟩
            have HP4 := Aside0.mk hp4
            have HR4 := Aside0.mk (HRd.out.grown_pipe HPd.out hg4)
            have HB4 := Aside0.mk (HBd.out.grown hg4 HBd.out.size (fun k hk => by cases hk; exact HPd.out.base_))
            clear hp4 hg4
            refine ⟨_, rfl, ?_⟩
            refine hK.out _ _ HB4.out (fun hHeld => ?_)
            clear hK K
            refine norm_ (a' := ?_) ?_ ?_
            rotate_left
            · show Act.put _ (some 76) _ = _
              simp only [Act.put, List.setIfInBounds_toArray, List.set_cons_zero, List.set_cons_succ]
              rfl
            refine last_ (i := 13) (N := (some 83)) #[true, true, true, true, true, true, true, true, true, true, true, true, true, true, false, false] rfl rfl (by kernel_rfl) (by decide) (fun K hK => ?_)
            refine call_ 11 #[.pointer (some ⟨q, 0, none⟩), .agg (Pi.rqc r.1 r.2.1 r.2.2.1 r.2.2.2.1 r.2.2.2.2.1 (.slice A1 md c1)).toArray] (by rfl) rfl (by go_simp) ?_
            refine (radd_.calls HR4.out (kRq.K_below HB4.out HKW.out) HDL.out HB4.out.size).mono ?_
            rintro e w5 ⟨rfl, hr5, hT5⟩
            have HRE := Aside0.mk hr5
            have HPE := Aside0.mk (HP4.out.ty hT5 (by decide) (by decide))
            have HBE := Aside0.mk (HB4.out.trans hT5.bel)
            clear hr5 hT5
            refine ⟨_, rfl, ?_⟩
            refine hK.out _ _ ?_
            clear hK K
            refine norm_ (a' := ?_) ?_ ?_
            rotate_left
            · show Act.put _ (some 83) _ = _
              simp only [Act.put, List.setIfInBounds_toArray, List.set_cons_zero, List.set_cons_succ]
              rfl
            refine pure_ (i := 14) (N := (some 84)) (v := ?_) (a' := ?_) #[true, true, true, true, true, true, true, true, true, true, true, true, true, true, true, false] rfl rfl (by kernel_rfl) (fun _ _ _ h => h) (Or.inl ⟨by rfl, ?_⟩) ?_ ?_
            rotate_left
            · intro w'
              go_simp
              with_reducible rfl
            rotate_left
            · simp only [Act.put, List.setIfInBounds_toArray, List.set_cons_zero, List.set_cons_succ]
              rfl
            refine pure_ (i := 15) (N := (some 6)) (v := ?_) (a' := ?_) #[true, true, true, true, true, true, true, true, true, true, true, true, true, true, true, true] rfl rfl (by kernel_rfl) (fun _ _ _ h => h) (Or.inl ⟨by rfl, ?_⟩) ?_ ?_
            rotate_left
            · intro w'
              go_simp
              with_reducible rfl
            rotate_left
            · simp only [Act.put, List.setIfInBounds_toArray, List.set_cons_zero, List.set_cons_succ]
              rfl
            refine done_ (by kernel_rfl) ?_
            have HDE : Aside0 (∀ r' ∈ (if rs.length < 16 then rs ++ [r] else rs), r'.2.2.2.2.2.length ≤ 100) := ⟨fun r' hr => by
              split at hr
              · rcases List.mem_append.1 hr with h | h
                · exact HD.out r' h
                · rw [List.mem_singleton.1 h]; exact HDK.out
              · exact HD.out r' hr⟩
            obtain ⟨rs', HRS⟩ : ∃ rs', Aside0 ((if rs.length < 16 then rs ++ [r] else rs) = rs') := ⟨_, ⟨rfl⟩⟩
            rw [HRS.out] at HRE HPE HDE
            clear HKd HPd HRd HBd HP4 HR4 HB4 HB
            refine NoPanic.normal ?_
            go_wp2_with fail
            have HDE2 : Aside0 (∀ r ∈ (rs' : List Rq), r.2.2.2.2.2.length < 140737488355328) := ⟨fun r hr => Nat.lt_of_le_of_lt (HDE.out r hr) (Nat.le_of_ble_eq_true rfl)⟩
            refine (len_.calls HPE.out).mono ?_
            rintro e wE ⟨rfl, hwe⟩
            subst hwe
            go_wp2_with fail
            refine (rlen_.calls HRE.out).mono ?_
            rintro e wE ⟨rfl, hwe⟩
            subst hwe
            go_wp2_with fail
            refine (full_.calls HPE.out).mono ?_
            rintro e wE ⟨rfl, hwe⟩
            subst hwe
            go_wp2_with fail
            refine (rfull_.calls HRE.out).mono ?_
            rintro e wE ⟨rfl, hwe⟩
            subst hwe
            go_wp2_with fail
            refine (all_.calls HPE.out HDE2.out).mono ?_
            rintro e wF ⟨vF, rfl, hRF, hbF⟩
            have HRF := Aside0.mk hRF
            have HBF := Aside0.mk hbF
            clear hRF hbF
            go_wp2_with fail
            refine (rall_.calls (HRE.out.below HBF.out) HDE2.out).mono ?_
            rintro e wG ⟨vG, rfl, hRG, hbG⟩
            obtain ⟨AF, cF, rfl, hlF, hCF⟩ := Kd.R_reads (Kd.R_below HRF.out hbG)
            obtain ⟨AG, cG, rfl, hlG, hCG⟩ := Kd.R_reads hRG
            have HS := Aside0.mk (sameall_.calls (w := wG) (rs := rs') (by have := HPE.out.le; omega) hCF hlF hCG hlG)
            have HBG := Aside0.mk (below_then HBF.out HBF.out.size hbG)
            clear hRG hbG hlF hCF hlG hCG HRF HBF
            go_wp2_with fail
            refine HS.out.mono ?_
            rintro e wH ⟨rfl, hbH⟩
            have HBH := Aside0.mk (below_then HBG.out HBG.out.size hbH)
            clear hbH HS HBG
            go_wp2_with fail
            go_roundw
            case rel => exact ⟨k + 1, rs', by go_num, by omega, ⟨HPE.out.below HBH.out⟩, ⟨HRE.out.below HBH.out⟩, ⟨below_then HBE.out HBE.out.size HBH.out⟩, HDE⟩
            case measure => simp [intOf]; omega
        · go_wp2_with fail
          refine (clear_.calls HP.out (fun _ => True)).mono ?_
          rintro e w4 ⟨rfl, hp4, hO4⟩
          have HP4 := Aside0.mk hp4
          have HR4 := Aside0.mk (HR.out.grown_pipe HP.out hO4.grown)
          have HB4 := Aside0.mk (Wk.Only.below HB.out hO4 HP.out.base_)
          clear hp4 hO4 HP HR HB hc0 hc1
          go_wp2_with fail
          refine (rclear_.calls HR4.out (fun _ => True)).mono ?_
          rintro e w5 ⟨rfl, hr5, hO5⟩
          have HRE := Aside0.mk hr5
          have HPE := Aside0.mk (HP4.out.only_ref HR4.out hO5)
          have HBE := Aside0.mk (Wk.Only.below HB4.out hO5 HR4.out.base_)
          have HDE : Aside0 (∀ r ∈ ([] : List Rq), r.2.2.2.2.2.length ≤ 100) := ⟨by simp⟩
          clear hr5 hO5 HP4 HR4 HB4
          go_wp2_with fail
          have HDE2 : Aside0 (∀ r ∈ ([] : List Rq), r.2.2.2.2.2.length < 140737488355328) := ⟨fun r hr => Nat.lt_of_le_of_lt (HDE.out r hr) (Nat.le_of_ble_eq_true rfl)⟩
          refine (len_.calls HPE.out).mono ?_
          rintro e wE ⟨rfl, hwe⟩
          subst hwe
          go_wp2_with fail
          refine (rlen_.calls HRE.out).mono ?_
          rintro e wE ⟨rfl, hwe⟩
          subst hwe
          go_wp2_with fail
          refine (full_.calls HPE.out).mono ?_
          rintro e wE ⟨rfl, hwe⟩
          subst hwe
          go_wp2_with fail
          refine (rfull_.calls HRE.out).mono ?_
          rintro e wE ⟨rfl, hwe⟩
          subst hwe
          go_wp2_with fail
          refine (all_.calls HPE.out HDE2.out).mono ?_
          rintro e wF ⟨vF, rfl, hRF, hbF⟩
          have HRF := Aside0.mk hRF
          have HBF := Aside0.mk hbF
          clear hRF hbF
          go_wp2_with fail
          refine (rall_.calls (HRE.out.below HBF.out) HDE2.out).mono ?_
          rintro e wG ⟨vG, rfl, hRG, hbG⟩
          obtain ⟨AF, cF, rfl, hlF, hCF⟩ := Kd.R_reads (Kd.R_below HRF.out hbG)
          obtain ⟨AG, cG, rfl, hlG, hCG⟩ := Kd.R_reads hRG
          have HS := Aside0.mk (sameall_.calls (w := wG) (rs := []) (by have := HPE.out.le; omega) hCF hlF hCG hlG)
          have HBG := Aside0.mk (below_then HBF.out HBF.out.size hbG)
          clear hRG hbG hlF hCF hlG hCG HRF HBF
          go_wp2_with fail
          refine HS.out.mono ?_
          rintro e wH ⟨rfl, hbH⟩
          have HBH := Aside0.mk (below_then HBG.out HBG.out.size hbH)
          clear hbH HS HBG
          go_wp2_with fail
          go_roundw
          case rel => exact ⟨k + 1, [], by go_num, by omega, ⟨HPE.out.below HBH.out⟩, ⟨HRE.out.below HBH.out⟩, ⟨below_then HBE.out HBE.out.size HBH.out⟩, HDE⟩
          case measure => simp [intOf]; omega
      · obtain rfl : n = k := by omega
        go_wp2_with fail
        go_ret
        exact ⟨rfl, HB.out⟩
  · clear hf
    go_wp2_with fail
    refine (known_.calls w0).mono ?_
    rintro e w1 ⟨rfl, hb⟩
    go_wp2_with fail
    go_ret
    exact ⟨rfl, below_then HB0.out HB0.out.size hb⟩
#print axioms pipeDoes_.calls
end Go.Proofs.Ytikogcdakdndnaa
