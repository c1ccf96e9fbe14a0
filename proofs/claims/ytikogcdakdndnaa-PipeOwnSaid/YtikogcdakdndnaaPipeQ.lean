/- The walk of the law PipeOwn. -/
import Derived.Test.YtikogcdakdndnaaPipeH
set_option linter.unusedVariables false
set_option linter.unusedSimpArgs false
namespace Go.Proofs.Ytikogcdakdndnaa
open Go.RowKit Go.Proofs.YtikogcdakdndnaaW.PrintWords Go.Proofs.YtikogcdakdndnaaW.PrintLast Go.Proofs.YtikogcdakdndnaaW.PrintMore
set_option maxHeartbeats 2000000 in
set_option maxRecDepth 100000 in
theorem pipeOwn_.calls (x0 : List Rq) (v0 : Value) (W : World) (hK0 : (Kd.slice 33 kRq).K W x0 [v0]) (hw0 : x0.length ≤ maxLen ∧ ∀ x ∈ x0, RqWf x) :
    Calls Try.prog 3 #[v0] W fun e w' => e = .returned (.bool true) ∧ Below W.heap.size W w' := by
  obtain ⟨A, c, he0, hlc, hC⟩ := hK0
  obtain rfl : v0 = .slice A x0.length c := by simpa using he0
  have HC := Aside0.mk hC
  obtain ⟨n, HN⟩ : ∃ n, Aside0 (x0.length = n) := ⟨_, ⟨rfl⟩⟩
  rw [HN.out]
  clear hw0 hC hlc he0
  by_cases h30 : n ≤ 30
  · have h30i : (n : Int) ≤ 30 := by omega
    go_enter Try.func3, Try.ntmps3
    go_wp2_with fail
    refine (known_.calls W).mono ?_
    rintro e w1 ⟨rfl, hb⟩
    have HB1 := Aside0.mk hb
    clear hb
    go_wp2_with fail
    refine (new_.calls (fun _ => True) w1).mono ?_
    rintro e w2 ⟨rfl, hp, hb⟩
    obtain ⟨g, HG⟩ : ∃ g, Aside0 (w1.heap.size = g) := ⟨_, ⟨rfl⟩⟩
    have HB2 : Aside0 (Below W.heap.size W w2) := ⟨below_then HB1.out HB1.out.size hb⟩
    have hpl := hp.lower HB1.out.size
    rw [HG.out] at hpl ⊢
    have HP2 := Aside0.mk hpl
    clear hb hp hpl HB1 HG
    go_wp2_with fail
    refine (rnew_.calls (fun _ => True) w2).mono ?_
    rintro e w3 ⟨rfl, hr, hb⟩
    obtain ⟨q, HQ⟩ : ∃ q, Aside0 (w2.heap.size = q) := ⟨_, ⟨rfl⟩⟩
    have HB3 : Aside0 (Below W.heap.size W w3) := ⟨below_then HB2.out HB2.out.size hb⟩
    have HP3 := Aside0.mk (HP2.out.below hb)
    have hrl := hr.lower HB2.out.size
    rw [HQ.out] at hrl ⊢
    have HR3 := Aside0.mk hrl
    clear hb hr hrl HB2 HP2 HQ
    go_wp2_with fail
    go_loopw [5] (fun i wr => ∃ (k : Nat) (rs : List Rq), i = .int .i64 k ∧ k ≤ n ∧ Aside0 (Pi.Pp wr W.heap.size (fun _ => True) g rs) ∧ Aside0 (Pi.Rf wr W.heap.size (fun _ => True) q rs) ∧ Aside0 (Below W.heap.size W wr) ∧ Aside0 (∀ r ∈ rs, r.2.2.2.2.2.length ≤ 100)) (fun i _ => n - (intOf i).toNat)
    case atStart => exact ⟨0, [], rfl, Nat.zero_le _, HP3, HR3, HB3, ⟨by simp⟩⟩
    case round =>
      obtain ⟨k, rs, rfl, hk, HP, HR, HB, HD⟩ := hrel
      clear HP3 HR3 HB3
      by_cases hlt : k < n
      · have hltI : (k : Int) < n := by omega
        have hki : k < x0.length := by rw [HN.out]; exact hlt
        obtain ⟨ad, A1, c1, hA, hrun, hKr, hcell⟩ := Pi.row_get HC.out k hki rfl
        subst hA
        obtain ⟨r, HRK⟩ : ∃ r, Aside0 (x0[k] = r) := ⟨_, ⟨rfl⟩⟩
        rw [HRK.out] at hrun hKr hcell
        obtain ⟨md, HMD⟩ : ∃ m, Aside0 (r.2.2.2.2.2.length = m) := ⟨_, ⟨rfl⟩⟩
        rw [HMD.out] at hrun hKr hcell
        have HRUN := Aside0.mk hrun
        have HKW := Aside0.mk hKr
        replace hcell : wr.cell? ⟨(ad.add (k * 6)).block, (ad.add (k * 6)).off + 5, none⟩ = some (.slice A1 md c1) := (HB.out.cell (World.block_lt_of_cell? W _ hcell)).trans hcell
        clear hrun hKr
        by_cases h100 : (md : Int) > 100
        · go_wp2_with fail
          go_ret
          exact ⟨rfl, HB.out⟩
        · have hmd : md ≤ 100 := by omega
          obtain ⟨data, HDT⟩ : ∃ d, Aside0 (r.2.2.2.2.2 = d) := ⟨_, ⟨rfl⟩⟩
          have HCD : Aside0 (Kd.C (Kd.int .u8) wr A1 md data) := ⟨by
            obtain ⟨A', c', he, _, hC'⟩ := rq_cells (kRq.K_below HB.out HKW.out)
            simp only [Pi.rqc, List.cons.injEq, Value.slice.injEq, and_true, true_and] at he
            rw [HMD.out, ← he.1, HDT.out] at hC'
            exact hC'⟩
          have HLD : Aside0 (data.length = md) := ⟨by rw [← HDT.out]; exact HMD.out⟩
          have HAL : Aside0 ((([] : List Int).length + md) * 1 ≤ 140737488355328) := ⟨by simp; omega⟩
          have HSZ := Aside0.mk Pi.size33
          have HS31 := Aside0.mk Pi.size31
          have HDL : Aside0 (r.2.2.2.2.2.length < 140737488355328) := ⟨by rw [HMD.out]; omega⟩
          go_wp2_with (first
            | (at_builtin; refine Kd.R_append_rows (Kd.int .u8) (w0 := wr) wr.heap.size rfl (.tmp 35) (.tmp 40) 31 5 (.int .u8 0) 1 rfl Try.underlying31 Cl.infoByte rfl (by decide) (by omega) (.slice none 0 0) ([] : List Int) data A1 md c1 (fun _ => True) (fun _ => False) rfl rfl (Kd.R_nil _ _ _ _ _) HCD.out (fun _ _ h => h) (fun _ h => h.elim) (fun _ _ => trivial) (Below.refl _ _) (Nat.le_refl _) HAL.out ?_; intro v4 w4 ho hb hg _; rw [List.nil_append] at ho; obtain ⟨A4, c4, rfl⟩ := Kd.R_slice ho; rw [HLD.out] at ho ⊢; have HV4 := Aside0.mk ho; have HB4 := Aside0.mk hb; have HRUN4 := Aside0.mk (HRUN.out (w4.alloc (.cells #[.int .u16 0, .int .u16 0, .int .u64 0, .int .u64 0, .int .u32 0, .slice none 0 0] 33)) (below_alloc (below_then HB.out HB.out.size hb) _)); have HRUN4' := Aside0.mk (HRUN.out w4 (below_then HB.out HB.out.size hb)); have HX4 := Aside0.mk (Wk.Blk.new w4 33 Pi.zrq); clear ho hb hg)
            | refine Wk.load rfl 33 (.tmp 44) rfl _ (.pointer (some (ad.add (k * 6)))) rfl HRUN4'.out ?_
            | refine Wk.load rfl 33 (.tmp 44) rfl _ (.pointer (some (ad.add (k * 6)))) rfl HRUN4.out ?_
            | (refine Wk.store_all rfl rfl 33 (.tmp 7) (.tmp 45) rfl w4.heap.size (Pi.rqc r.1 r.2.1 r.2.2.1 r.2.2.2.1 r.2.2.2.2.1 (.slice A1 md c1)) rfl rfl 33 Pi.zrq HX4.out HSZ.out rfl rfl ?_; intro w5 hX hO; have HX5 := Aside0.mk hX; have HB45 := Aside0.mk (Wk.Only.below ((Below.refl _ _).alloc (Nat.le_refl _) _) hO (Nat.le_refl _)); clear hX hO)
            | (refine Wk.store rfl rfl 31 (.tmp 47) (.tmp 46) rfl w4.heap.size 5 (.slice A4 md c4) [.slice A4 md c4] rfl rfl rfl 33 _ HX5.out HS31.out (Nat.le_of_ble_eq_true rfl) rfl ?_; intro w6 hX hO; have HX6 := Aside0.mk (show Wk.Blk w6 w4.heap.size 33 (Pi.rqc r.1 r.2.1 r.2.2.1 r.2.2.2.1 r.2.2.2.2.1 (.slice A4 md c4)) from hX); have HO6 := Aside0.mk hO; clear hX hO)
            | refine Wk.load rfl 33 (.tmp 7) rfl _ (.pointer (some ⟨w4.heap.size, 0, none⟩)) rfl (Wk.run_load_blk 33 w4.heap.size 0 (Pi.rqc r.1 r.2.1 r.2.2.1 r.2.2.2.1 r.2.2.2.2.1 (.slice A4 md c4)) _ HX6.out rfl Try.underlying33 rfl HSZ.out) ?_)
          have HB46 : Aside0 (Below wr.heap.size wr w6) := ⟨Wk.Only.below (below_then HB4.out HB4.out.size HB45.out) HO6.out HB4.out.size⟩
          have HB6 : Aside0 (Below W.heap.size W w6) := ⟨below_then HB.out HB.out.size HB46.out⟩
          have hne5 : ∀ q, q ∈ 5 :: (Kd.int .u8).E → q ≠ 33 := by decide
          have HV6 : Aside0 (Kd.R (Kd.int .u8) 5 w6 wr.heap.size (fun _ => True) (.slice A4 md c4) data) := ⟨Wk.R_only (Kd.R_below HV4.out HB45.out) HX5.out hne5 HO6.out⟩
          have HK6 : Aside0 (kRq.K w6 r (Pi.rqc r.1 r.2.1 r.2.2.1 r.2.2.2.1 r.2.2.2.2.1 (.slice A4 md c4))) := ⟨by
            have h : Kd.R (Kd.int .u8) 5 w6 wr.heap.size (fun _ => True) (.slice A4 md c4) r.2.2.2.2.2 := by rw [HDT.out]; exact HV6.out
            exact Pi.K_of_R h⟩
          have HOB : Aside0 (∀ j, (Value.slice A4 md c4).ownBlock = some j → wr.heap.size ≤ j ∧ j < w6.heap.size) := ⟨fun j hj => ⟨Kd.R_base HV6.out j hj, Kd.R_lt HV6.out j hj⟩⟩
          have HN6 : Aside0 (Pi.Num w6 wr.heap.size A4 md) := ⟨by
            have := HV6.out
            rw [← HLD.out] at this ⊢
            exact Pi.num_of_R this⟩
          have HP6 : Aside0 (Pi.Pp w6 W.heap.size (fun j => some j ≠ (Value.slice A4 md c4).ownBlock) g rs) := ⟨(HP.out.bound.mono (fun j hj he => by have := (HOB.out j he.symm).1; have := hj.2.2; omega)).below HB46.out⟩
          have HR6 : Aside0 (Pi.Rf w6 W.heap.size (fun j => some j ≠ (Value.slice A4 md c4).ownBlock) q rs) := ⟨(HR.out.bound.mono (fun j hj he => by have := (HOB.out j he.symm).1; have := hj.2.2; omega)).below HB46.out⟩
          have HGQ : Aside0 (g < wr.heap.size ∧ q < wr.heap.size) := ⟨HP.out.lt, HR.out.lt⟩
          clear hne5 HV4 HB4 HRUN4 HRUN4' HX4 HX5 HX6 HB45 HO6 HV6 HCD HAL hcell HP HR
          refine (add_.calls HP6.out HK6.out HDL.out HB6.out.size (fun j hj he => by have := (HOB.out j he.symm).2; omega)).mono ?_
          rintro e w7 ⟨rfl, hp7, hg7⟩
          have HP7 := Aside0.mk hp7
          have HR7 := Aside0.mk (HR6.out.grown_pipe HP6.out hg7)
          obtain ⟨csg, hbg⟩ := HP6.out.blk
          have HN7 := Aside0.mk (HN6.out.typed hbg (by decide) hg7)
          have HB7 := Aside0.mk (HB6.out.grown hg7 HB6.out.size (fun k hk => by cases hk; exact HP6.out.base_))
          have HS7 := Aside0.mk hg7.size
          clear hp7 hg7 hbg HP6 HR6 HN6 HB6 HK6
          go_wp2_with (refine Wk.load rfl 33 (.tmp 54) rfl _ (.pointer (some (ad.add (k * 6)))) rfl (HRUN.out w7 HB7.out) ?_)
          refine (radd2_.calls HR7.out (kRq.K_below HB7.out HKW.out) HDL.out HB7.out.size (fun j hj he => by have := (HOB.out j he.symm).2; have := HS7.out; omega)).mono ?_
          rintro e w8 ⟨rfl, hr8, hT8⟩
          obtain ⟨rs', HRS⟩ : ∃ rs', Aside0 ((if rs.length < 16 then rs ++ [r] else rs) = rs') := ⟨_, ⟨rfl⟩⟩
          have hD8 : ∀ r' ∈ (if rs.length < 16 then rs ++ [r] else rs), r'.2.2.2.2.2.length ≤ 100 := fun r' hr => by
            split at hr
            · rcases List.mem_append.1 hr with h | h
              · exact HD.out r' h
              · rw [List.mem_singleton.1 h, HMD.out]; exact hmd
            · exact HD.out r' hr
          have hp8 := HP7.out.ty hT8 (by decide) (by decide)
          rw [HRS.out] at hr8 hp8 hD8
          have HR8 := Aside0.mk hr8
          have HP8 := Aside0.mk hp8
          have HD8 := Aside0.mk hD8
          have HN8 := Aside0.mk (HN7.out.ty hT8 (by decide))
          have HB8 := Aside0.mk (HB7.out.trans hT8.bel)
          clear hr8 hp8 hD8 hT8 HP7 HR7 HN7 HB7 HD
          go_wp2_with fail
          have HS5 : Aside0 ((Try.prog.info? 5).map (·.size) = some 1) := ⟨by kernel_rfl⟩
          go_loopw [8] (fun i wq => ∃ j : Nat, i = .int .i64 j ∧ j ≤ md ∧ Aside0 (Pi.Num wq wr.heap.size A4 md) ∧ Aside0 (w8.grownBy wq (Value.slice A4 md c4).ownBlock)) (fun i _ => md - (intOf i).toNat)
          case atStart => exact ⟨0, rfl, Nat.zero_le _, HN8, ⟨World.grownBy.refl _ _⟩⟩
          case round =>
            obtain ⟨j, rfl, hj, HNq, HGq⟩ := hrel
            by_cases hlj : j < md
            · have hljI : (j : Int) < md := by omega
              obtain ⟨b, cs, hA, hlo, hblk, hlen, hcont⟩ := HNq.out (by omega)
              subst hA
              obtain ⟨y, hy⟩ := hcont j hlj
              have hc := hblk.at_ j hy
              have HBK := Aside0.mk hblk
              have HLC : Aside0 (j + 1 ≤ cs.length) := ⟨by omega⟩
              clear hblk hcont hy hlo hlen
              go_wp2_with (refine Wk.store rfl rfl 5 (.tmp 70) (.tmp 69) rfl b j _ [_] rfl rfl rfl 5 cs HBK.out HS5.out HLC.out rfl ?_; intro w9 hX hO; have HX9 := Aside0.mk hX; have HO9 := Aside0.mk hO; clear hX hO hc)
              go_roundw
              case rel => exact ⟨j + 1, by go_num, by omega, ⟨HNq.out.put HBK.out HLC.out HX9.out HO9.out⟩, ⟨World.grownBy.trans HGq.out (by simpa [Value.ownBlock] using HO9.out.grown)⟩⟩
              case measure => simp [intOf]; omega
            · obtain rfl : md = j := by omega
              go_wp2_with fail
              have HPq := Aside0.mk ((HP8.out.grown HGq.out (fun he => by have := (HOB.out g he.symm).1; have := HGQ.out.1; omega) (fun j hj => hj)).mono (ok' := fun _ => True) (fun _ _ => trivial))
              have HRq := Aside0.mk ((HR8.out.grown HGq.out (fun he => by have := (HOB.out q he.symm).1; have := HGQ.out.2; omega) (fun j hj => hj)).mono (ok' := fun _ => True) (fun _ _ => trivial))
              have HBq := Aside0.mk (HB8.out.grown HGq.out HB8.out.size (fun j hj => Nat.le_trans HB.out.size (HOB.out j hj).1))
              exact ⟨⟨k + 1, rs', by go_num, by omega, HPq, HRq, HBq, HD8⟩, by simp [intOf]; omega⟩
      · obtain rfl : n = k := by omega
        obtain ⟨wA, hwA⟩ : ∃ w : World, w = wr := ⟨_, rfl⟩
        subst hwA
        have HD2 : Aside0 (∀ r ∈ rs, r.2.2.2.2.2.length < 140737488355328) := ⟨fun r hr => Nat.lt_of_le_of_lt (HD.out r hr) (Nat.le_of_ble_eq_true rfl)⟩
        have HSZ := Aside0.mk Pi.size33
        have HS5 : Aside0 ((Try.prog.info? 5).map (·.size) = some 1) := ⟨by kernel_rfl⟩
        go_wp2_with fail
        refine (all_.calls HP.out HD2.out).mono ?_
        rintro e w10 ⟨v10, rfl, hR10, hb10⟩
        obtain ⟨A5, c5, rfl⟩ := Kd.R_slice hR10
        have HB10 := Aside0.mk hb10
        have HRW : Aside0 (0 < rs.length → ∃ ab cells, A5 = some ⟨ab, 0, none⟩ ∧ wA.heap.size ≤ ab ∧ Pi.Rws w10 wA.heap.size ab rs.length cells) := ⟨fun hp => Pi.rws_of_R hR10 hp⟩
        obtain ⟨m, HM⟩ : ∃ m, Aside0 (rs.length = m) := ⟨_, ⟨rfl⟩⟩
        rw [HM.out] at HRW ⊢
        have hm16 : m ≤ 16 := by rw [← HM.out]; exact HP.out.le
        clear hR10 hb10
        go_wp2_with fail
        go_loopw [10] (fun ix wq => ∃ i : Nat, ix = .int .i64 i ∧ i ≤ m ∧ Aside0 (0 < m → ∃ ab cells, A5 = some ⟨ab, 0, none⟩ ∧ wA.heap.size ≤ ab ∧ Pi.Rws wq wA.heap.size ab m cells) ∧ Aside0 (Below wA.heap.size wA wq)) (fun ix _ => m - (intOf ix).toNat)
        case atStart => exact ⟨0, rfl, Nat.zero_le _, HRW, HB10⟩
        case round =>
          obtain ⟨i, rfl, hi, HRq, HBq⟩ := hrel
          clear HRW HB10
          by_cases hli : i < m
          · have hliI : (i : Int) < m := by omega
            obtain ⟨ab, cells, hA, hlo, hRw⟩ := HRq.out (by omega)
            subst hA
            obtain ⟨x1, x2, x3, x4, x5, Ai, ni, ci, hce, hni, hNum⟩ := hRw.2.2 i hli
            have HCE := Aside0.mk hce
            have HRw := Aside0.mk hRw
            have HNu := Aside0.mk hNum
            have HLO := Aside0.mk hlo
            clear HRq hce hRw hNum hlo
            go_wp2_with fail
            go_loopw [11] (fun ix wp => ∃ j : Nat, ix = .int .i64 j ∧ j ≤ ni ∧ Aside0 (Pi.Rws wp wA.heap.size ab m cells) ∧ Aside0 (Pi.Num wp wA.heap.size Ai ni) ∧ Aside0 (Below wA.heap.size wA wp)) (fun ix _ => ni - (intOf ix).toNat)
            case atStart => exact ⟨0, rfl, Nat.zero_le _, HRw, HNu, HBq⟩
            case round =>
              clear HRw HNu HBq
              obtain ⟨j, rfl, hj, HRp, HNp, HBp⟩ := hrel
              have hcell := HRp.out.cell HCE.out
              by_cases hlj : j < ni
              · have hljI : (j : Int) < ni := by omega
                obtain ⟨b, cs, hA, hlo, hblk, hlen, _⟩ := HNp.out (by omega)
                subst hA
                have HBK := Aside0.mk hblk
                have HLC : Aside0 (j + 1 ≤ cs.length ∧ wA.heap.size ≤ b) := ⟨by omega, hlo⟩
                clear hblk hlo hlen
                go_wp2_with (refine Wk.store rfl rfl 5 (.tmp 95) (.const (.int .u8 119)) rfl b j (.int .u8 119) [.int .u8 119] rfl rfl rfl 5 cs HBK.out HS5.out HLC.out.1 rfl ?_; intro w9 hX hO; have HX9 := Aside0.mk hX; have HO9 := Aside0.mk hO; clear hX hO hcell)
                go_roundw
                case rel => exact ⟨j + 1, by go_num, by omega, ⟨HRp.out.put HBK.out HLC.out.1 HX9.out HO9.out⟩, ⟨HNp.out.put HBK.out HLC.out.1 HX9.out HO9.out⟩, ⟨Wk.Only.below HBp.out HO9.out HLC.out.2⟩⟩
                case measure => simp [intOf]; omega
              · obtain rfl : ni = j := by omega
                have HLE : Aside0 (i * 6 + Pi.zrq.length ≤ cells.length) := ⟨by have := HRp.out.2.1; rw [show Pi.zrq.length = 6 from rfl]; omega⟩
                have HBK := Aside0.mk HRp.out.1
                go_wp2_with (refine Wk.store rfl rfl 33 (.tmp 99) (.tmp 98) rfl ab (i * 6) (.agg Pi.zrq.toArray) Pi.zrq rfl rfl rfl 33 cells HBK.out HSZ.out HLE.out rfl ?_; intro w9 hX hO; have HX9 := Aside0.mk hX; have HO9 := Aside0.mk hO; clear hX hO hcell)
                have HRn : Aside0 (0 < m → ∃ ab' cells', some (⟨ab, 0, none⟩ : Addr) = some ⟨ab', 0, none⟩ ∧ wA.heap.size ≤ ab' ∧ Pi.Rws w9 wA.heap.size ab' m cells') := ⟨fun _ => ⟨ab, _, rfl, HLO.out, HRp.out.wipe hli HX9.out HO9.out⟩⟩
                have HBn := Aside0.mk (Wk.Only.below HBp.out HO9.out HLO.out)
                exact ⟨⟨i + 1, by go_num, by omega, HRn, HBn⟩, by simp [intOf]; omega⟩
          · obtain rfl : m = i := by omega
            go_wp2_with fail
            have HPq := Aside0.mk (HP.out.below HBq.out)
            have HRf := Aside0.mk (HR.out.below HBq.out)
            refine (all_.calls HPq.out HD2.out).mono ?_
            rintro e wF ⟨vF, rfl, hRF, hbF⟩
            have HRF := Aside0.mk hRF
            have HBF := Aside0.mk hbF
            clear hRF hbF
            go_wp2_with fail
            refine (rall_.calls (HRf.out.below HBF.out) HD2.out).mono ?_
            rintro e wG ⟨vG, rfl, hRG, hbG⟩
            obtain ⟨AF, cF, rfl, hlF, hCF⟩ := Kd.R_reads (Kd.R_below HRF.out hbG)
            obtain ⟨AG, cG, rfl, hlG, hCG⟩ := Kd.R_reads hRG
            have HS := Aside0.mk (sameall_.calls (w := wG) (rs := rs) (by have := HM.out; omega) hCF hlF hCG hlG)
            have HBG := Aside0.mk (below_then HBF.out HBF.out.size hbG)
            clear hRG hbG hlF hCF hlG hCG HRF HBF
            go_wp2_with fail
            refine HS.out.mono ?_
            rintro e wH ⟨rfl, hbH⟩
            have HBH := Aside0.mk (below_then HBG.out HBG.out.size hbH)
            clear hbH HS HBG
            go_wp2_with fail
            go_ret
            exact ⟨rfl, below_then HB.out HB.out.size (below_then HBq.out HBq.out.size HBH.out)⟩
  · have h30i : ¬ (n : Int) ≤ 30 := by omega
    go_enter Try.func3, Try.ntmps3
    go_wp2_with fail
    refine (known_.calls W).mono ?_
    rintro e w1 ⟨rfl, hb⟩
    go_wp2_with fail
    go_ret
    exact ⟨rfl, hb⟩
#print axioms pipeOwn_.calls
end Go.Proofs.Ytikogcdakdndnaa
