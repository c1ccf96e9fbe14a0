/- The walk of the law ReqFronts. -/
import Derived.Test.YtemhlinodccokaaReqW
set_option linter.unusedVariables false
set_option linter.unusedSimpArgs false
namespace Go.Proofs.Ytemhlinodccokaa
open Go.RowKit Go.Proofs.Ytemhlinodccokaa Go.Proofs.Ytemhlinodccokaa.PBase Go.Proofs.YtemhlinodccokaaW.PrintWords Go.Proofs.YtemhlinodccokaaW.PrintLast Go.Proofs.YtemhlinodccokaaW.PrintMore Go.Proofs.Ytemhlinodccokaa.Wi
namespace Rw
/-- a request of a row: its load, its cells -/
theorem row_get {w : World} {A : Option Addr} {n : Nat} {rs : List Rq} (h : kRq.C w A n rs) (i : Nat) (hi : i < rs.length) (hn : rs.length = n) : ∃ ad A1 c1, A = some ad ∧ (∀ w', Below w.heap.size w w' → (Instr.loadAt 28 (.pointer (some (ad.add (i * 6))))).run Try.prog w' = .ok (.agg (rqc rs[i].1 rs[i].2.1 rs[i].2.2.1 rs[i].2.2.2.1 rs[i].2.2.2.2.1 (.slice A1 rs[i].2.2.2.2.2.length c1)).toArray) w') ∧ kRq.K w rs[i] (rqc rs[i].1 rs[i].2.1 rs[i].2.2.1 rs[i].2.2.2.1 rs[i].2.2.2.2.1 (.slice A1 rs[i].2.2.2.2.2.length c1)) ∧ w.cell? ⟨(ad.add (i * 6)).block, (ad.add (i * 6)).off + 1, none⟩ = some (.int .u16 rs[i].2.1) ∧ w.cell? ⟨(ad.add (i * 6)).block, (ad.add (i * 6)).off + 2, none⟩ = some (.int .u64 rs[i].2.2.1) ∧ w.cell? ⟨(ad.add (i * 6)).block, (ad.add (i * 6)).off + 5, none⟩ = some (.slice A1 rs[i].2.2.2.2.2.length c1) := by
  obtain ⟨ad, c, e, _, hK, hc0⟩ := Kd.C_get h ((0, 0, 0, 0, 0, []) : Rq) (i : Int) (by omega) (by omega)
  rw [List.getD_eq_getElem?_getD, Int.toNat_natCast, List.getElem?_eq_getElem hi] at hK
  change kRq.K w rs[i] c at hK
  have hc : ∀ j u, c[j]? = some u → w.cell? (ad.add (i * 6 + j)) = some u := fun j u hu => by
    have := hc0 j u hu
    rwa [Int.toNat_natCast] at this
  obtain ⟨A5, c5, rfl, l5, g5⟩ := rq_cells hK
  refine ⟨ad, A5, c5, e, ?_, hK, by rw [← add_field _ _ 1 (by omega)]; exact hc 1 _ rfl, by rw [← add_field _ _ 2 (by omega)]; exact hc 2 _ rfl, by rw [← add_field _ _ 5 (by omega)]; exact hc 5 _ rfl⟩
  intro w' hb
  have hu := Try.underlying28
  obtain ⟨q, hi, hsz⟩ := Option.map_eq_some_iff.1 size28
  have hl : (loadCells (ad.add (i * 6)) 6).run Try.prog w' = .ok (rqc rs[i].1 rs[i].2.1 rs[i].2.2.1 rs[i].2.2.2.1 rs[i].2.2.2.2.1 (.slice A5 rs[i].2.2.2.2.2.length c5)).toArray w' :=
    run_loadCells_list (P := Try.prog) w' (ad.add (i * 6)) (rqc rs[i].1 rs[i].2.1 rs[i].2.2.1 rs[i].2.2.2.1 rs[i].2.2.2.2.1 (.slice A5 rs[i].2.2.2.2.2.length c5)) (fun j v hv => by rw [add_add]; have := hc j v hv; exact (hb.cell (World.block_lt_of_cell? w _ this)).trans this)
  have hagg : (isAgg 28).run Try.prog w' = .ok true w' := by
    unfold isAgg
    rw [Sem.run_bind, run_underlying hu w']
    rfl
  simp [Instr.loadAt, Instr.sureAddr, loadVar, Sem.run_bind, hagg, sizeOf, typeInfo, hi, hsz, hl]
def cat (rs : List Rq) : List Int := (rs.map bs).flatten
theorem cat_snoc (rs : List Rq) (r : Rq) : cat (rs ++ [r]) = cat rs ++ bs r := by simp [cat]
theorem cat_cons (rs : List Rq) (r : Rq) : cat (r :: rs) = bs r ++ cat rs := by simp [cat]
theorem cat_len : ∀ rs : List Rq, (∀ r ∈ rs, r.2.2.2.2.2.length ≤ 100) → (cat rs).length ≤ 128 * rs.length
  | [], _ => by simp [cat]
  | r :: rs, h => by
    have h1 := cat_len rs (fun q hq => h q (List.mem_cons_of_mem _ hq))
    have h2 := h r List.mem_cons_self
    have h3 := bs_len r
    rw [cat_cons, List.length_append, List.length_cons]
    split at h3 <;> omega
theorem cat_bytes : ∀ rs : List Rq, (∀ r ∈ rs, RqWf r) → Bytes (cat rs)
  | [], _ => fun x hx => by simp [cat] at hx
  | r :: rs, h => by
    rw [cat_cons]
    exact bytes_app (bs_bytes (h r List.mem_cons_self)) (cat_bytes rs (fun q hq => h q (List.mem_cons_of_mem _ hq)))
end Rw
set_option maxHeartbeats 2000000 in
set_option maxRecDepth 100000 in
theorem reqFronts_.calls (x0 : List Rq) (v0 : Value) (W : World) (hK0 : (Kd.slice 28 kRq).K W x0 [v0]) (hw0 : x0.length ≤ maxLen ∧ ∀ x ∈ x0, RqWf x) :
    Calls Try.prog 8 #[v0] W fun e w' => e = .returned (.bool true) ∧ Below W.heap.size W w' := by
  obtain ⟨A, c, he0, hlc, hC⟩ := hK0
  obtain rfl : v0 = .slice A x0.length c := by simpa using he0
  have HC := Aside0.mk hC
  have HWF := Aside0.mk hw0.2
  obtain ⟨n, HN⟩ : ∃ n, Aside0 (x0.length = n) := ⟨_, ⟨rfl⟩⟩
  rw [HN.out]
  clear hw0 hC hlc he0
  have HSZ := Aside0.mk Rw.size28
  by_cases h20 : n ≤ 20
  · have h20i : (n : Int) ≤ 20 := by omega
    go_enter Try.func8, Try.ntmps8
    go_wp2_with fail
    refine (kn_.calls W).mono ?_
    rintro e w1 ⟨rfl, hb⟩
    have HB1 := Aside0.mk hb
    clear hb
    go_wp2_with fail
    go_loopw [3, 4] (fun v i wr => ∃ k : Nat, i = .int .i64 k ∧ k ≤ n ∧ Aside0 (Kd.R (Kd.int .u8) 5 wr W.heap.size (fun _ => True) v (Rw.cat (x0.take k))) ∧ Aside0 (Below W.heap.size W wr) ∧ Aside0 (∀ r ∈ x0.take k, r.2.2.2.2.2.length ≤ 100)) (fun _ i _ => n - (intOf i).toNat)
    case atStart => exact ⟨0, rfl, Nat.zero_le _, ⟨Kd.R_nil _ _ _ _ _⟩, HB1, ⟨by simp⟩⟩
    case round =>
      obtain ⟨k, rfl, hk, HR, HB, HD⟩ := hrel
      clear HB1
      by_cases hlt : k < n
      · have hltI : (k : Int) < n := by omega
        have hki : k < x0.length := by rw [HN.out]; exact hlt
        obtain ⟨ad, A1, c1, hA, hrun, hKr, _, _, hcell⟩ := Rw.row_get HC.out k hki rfl
        subst hA
        have HTK := Aside0.mk (List.take_succ_eq_append_getElem hki)
        have hwk := HWF.out _ (List.getElem_mem hki)
        obtain ⟨r, HRK⟩ : ∃ r, Aside0 (x0[k] = r) := ⟨_, ⟨rfl⟩⟩
        rw [HRK.out] at hrun hKr hcell HTK hwk
        obtain ⟨md, HMD⟩ : ∃ m, Aside0 (r.2.2.2.2.2.length = m) := ⟨_, ⟨rfl⟩⟩
        rw [HMD.out] at hrun hKr hcell
        have HRUN := Aside0.mk (hrun wr HB.out)
        have HKR := Aside0.mk (kRq.K_below HB.out hKr)
        have HWK := Aside0.mk hwk
        replace hcell : wr.cell? ⟨(ad.add (k * 6)).block, (ad.add (k * 6)).off + 5, none⟩ = some (.slice A1 md c1) := (HB.out.cell (World.block_lt_of_cell? W _ hcell)).trans hcell
        clear hrun hKr hwk
        by_cases h100 : (md : Int) > 100
        · go_wp2_with fail
          go_ret
          exact ⟨rfl, HB.out⟩
        · have hmd : md ≤ 100 := by omega
          go_wp2_with (refine Wk.load rfl 28 (.tmp 36) rfl _ (.pointer (some (ad.add (k * 6)))) rfl HRUN.out ?_)
          refine (wr_.calls HKR.out HWK.out (by rw [HMD.out]; omega)).mono ?_
          rintro e w2 ⟨A2, c2, rfl, hR2, hb2⟩
          obtain ⟨nb, HNB⟩ : ∃ n, Aside0 ((Rw.bs r).length = n) := ⟨_, ⟨rfl⟩⟩
          obtain ⟨-, hl2, hC2⟩ := Kd.R_reads' hR2
          rw [HNB.out] at hC2 ⊢
          have HC2 := Aside0.mk hC2
          have HR2 := Aside0.mk (Kd.R_below HR.out hb2)
          have HB2 := Aside0.mk (below_then HB.out HB.out.size hb2)
          have HAL : Aside0 (((Rw.cat (x0.take k)).length + nb) * 1 ≤ 140737488355328) := ⟨by
            have h1 := Rw.cat_len _ HD.out
            have h2 := Rw.bs_len r
            rw [List.length_take] at h1
            rw [HNB.out, HMD.out] at h2
            split at h2 <;> omega⟩
          have HD2 : Aside0 (∀ r ∈ x0.take (k + 1), r.2.2.2.2.2.length ≤ 100) := ⟨fun q hq => by
            rw [HTK.out] at hq
            rcases List.mem_append.1 hq with h | h
            · exact HD.out q h
            · rw [List.mem_singleton.1 h, HMD.out]; exact hmd⟩
          clear hR2 hb2 hl2 hC2 HR HB HD hcell HRUN HKR
          go_wp2_with (at_builtin; refine Kd.R_append_rows (Kd.int .u8) (w0 := W) W.heap.size rfl (.tmp 33) (.tmp 38) 22 5 (.int .u8 0) 1 rfl Try.underlying22 Rw.infoByte rfl (by decide) (by omega) u3 (Rw.cat (x0.take k)) (Rw.bs r) A2 nb c2 (fun _ => True) (fun _ => False) rfl rfl HR2.out HC2.out (fun _ _ h => h) (fun _ h => h.elim) (fun _ _ => trivial) HB2.out HB2.out.size HAL.out ?_; intro v4 w4 ho hb _ _; have HR4 := Aside0.mk ho; have HB4 := Aside0.mk hb; clear ho hb)
          go_roundw
          case rel => exact ⟨k + 1, by go_num, by omega, ⟨by rw [HTK.out, Rw.cat_snoc]; exact HR4.out⟩, HB4, HD2⟩
          case measure => simp [intOf]; omega
      · obtain rfl : n = k := by omega
        have HTA : Aside0 (x0.take n = x0) := ⟨by rw [← HN.out]; exact List.take_length⟩
        rw [HTA.out] at HR HD
        go_wp2_with fail
        go_loopw [3, 5] (fun v i wq => ∃ (j m : Nat) (A' : Option Addr) (c' : Nat), i = .int .i64 j ∧ v = .slice A' m c' ∧ j ≤ n ∧ Aside0 ((Rw.cat (x0.drop j)).length = m ∧ m ≤ c' ∧ m ≤ 2560) ∧ Aside0 (Kd.C (Kd.int .u8) wq A' m (Rw.cat (x0.drop j))) ∧ Aside0 (Below W.heap.size W wq)) (fun _ i _ => n - (intOf i).toNat)
        case atStart =>
          obtain ⟨A', c', rfl, hl, hC⟩ := Kd.R_reads HR.out
          have hlen := Rw.cat_len _ HD.out
          exact ⟨0, (Rw.cat x0).length, A', c', rfl, rfl, Nat.zero_le _, ⟨rfl, hl, by have := HN.out; omega⟩, ⟨hC⟩, HB⟩
        case round =>
          clear HR HB
          obtain ⟨j, m, A', c', rfl, rfl, hj, HM, HCB, HB⟩ := hrel
          by_cases hlj : j < n
          · have hljI : (j : Int) < n := by omega
            have hji : j < x0.length := by rw [HN.out]; exact hlj
            obtain ⟨ad, A1, c1, hA, -, -, hk1, hk2, -⟩ := Rw.row_get HC.out j hji rfl
            subst hA
            have hdr : x0.drop j = x0[j] :: x0.drop (j + 1) := List.drop_eq_getElem_cons hji
            have hwk := HWF.out _ (List.getElem_mem hji)
            have hdk := HD.out _ (List.getElem_mem hji)
            have hby := Rw.cat_bytes _ (fun r (hr : r ∈ x0.drop (j + 1)) => HWF.out r (List.mem_of_mem_drop hr))
            obtain ⟨r, HRK⟩ : ∃ r, Aside0 (x0[j] = r) := ⟨_, ⟨rfl⟩⟩
            rw [HRK.out] at hk1 hk2 hdr hwk hdk
            rw [hdr, Rw.cat_cons] at HCB HM
            obtain ⟨R, HRR⟩ : ∃ R, Aside0 (Rw.cat (x0.drop (j + 1)) = R) := ⟨_, ⟨rfl⟩⟩
            rw [HRR.out] at HM HCB hby
            have HKC : Aside0 (∀ w', Below W.heap.size W w' → w'.cell? ⟨(ad.add (j * 6)).block, (ad.add (j * 6)).off + 1, none⟩ = some (.int .u16 r.2.1) ∧ w'.cell? ⟨(ad.add (j * 6)).block, (ad.add (j * 6)).off + 2, none⟩ = some (.int .u64 r.2.2.1)) := ⟨fun w' hb => ⟨(hb.cell (World.block_lt_of_cell? W _ hk1)).trans hk1, (hb.cell (World.block_lt_of_cell? W _ hk2)).trans hk2⟩⟩
            have HWK := Aside0.mk hwk
            have HDK : Aside0 (r.2.2.2.2.2.length ≤ 65536) := ⟨by omega⟩
            have HBY := Aside0.mk (bytes_app (Rw.bs_bytes hwk) hby)
            obtain ⟨nb, HNB⟩ : ∃ n, Aside0 ((Rw.bs r).length = n) := ⟨_, ⟨rfl⟩⟩
            obtain ⟨mw, HMW⟩ : ∃ n, Aside0 ((Rw.wd r).length = n) := ⟨_, ⟨rfl⟩⟩
            have hnbm : 28 ≤ nb ∧ nb ≤ m := by
              have h1 := Rw.bs_len r
              have h2 := HM.out.1
              rw [List.length_append] at h2
              rw [HNB.out] at h1 h2
              split at h1 <;> omega
            have HNM := Aside0.mk hnbm
            clear hk1 hk2 hdr hwk hdk hby hnbm
            have hnext : Calls Try.prog 11 #[.slice A' m c'] wr fun e w' => ∃ A c, e = .returned (.tuple #[.agg (Rw.rqc r.1 r.2.1 r.2.2.1 r.2.2.2.1 (Rw.wl r) (.slice A mw c)).toArray, .int .i64 nb, .int .u16 0]) ∧ Kd.R (Kd.int .u8) 5 w' wr.heap.size (fun _ => True) (.slice A mw c) (Rw.wd r) ∧ Below wr.heap.size wr w' := by
              have := next_.calls (w := wr) (A := A') (c := c') (l := Rw.bs r ++ R) (by rw [HM.out.1]; exact HCB.out) (by rw [HM.out.1]; exact HM.out.2.1) (by rw [HM.out.1]; have := HM.out.2.2; omega) HBY.out (Rw.next_whole r HWK.out HDK.out R)
              rw [HM.out.1, HNB.out, HMW.out] at this
              exact this
            go_wp2_with fail
            refine hnext.mono ?_
            clear hnext
            rintro e w5 ⟨A5, c5, rfl, hR5, hb5⟩
            obtain ⟨-, hl5, hC5⟩ := Kd.R_reads' hR5
            have HC5 := Aside0.mk hC5
            have HL5 := Aside0.mk hl5
            have HB5 := Aside0.mk (below_then HB.out HB.out.size hb5)
            have HCB5 := Aside0.mk (Kd.C_below HCB.out hb5)
            have HN5 := Aside0.mk (Wk.Blk.new w5 28 Rw.zrq)
            clear hR5 hb5 hl5 hC5 HCB HB
            unfold Rw.rqc
            go_wp2_with (refine Wk.store_all rfl rfl 28 (.tmp 6) (.tmp 49) rfl w5.heap.size (Rw.rqc r.1 r.2.1 r.2.2.1 r.2.2.2.1 (Rw.wl r) (.slice A5 mw c5)) rfl rfl 28 Rw.zrq HN5.out HSZ.out rfl rfl ?_; intro w6 hX hO; have HX6 := Aside0.mk hX; have HB56 := Aside0.mk (Wk.Only.below ((Below.refl _ _).alloc (Nat.le_refl _) _) hO (Nat.le_refl _)); clear hX hO)
            have HB6 := Aside0.mk (below_then HB5.out HB5.out.size HB56.out)
            refine wp_region_noPanic ?_
            refine start_ (n := 32) (S := (fun w' => Below w6.heap.size w6 w')) (ds := []) #[false, false, false, false, false, false, false, false, false, false, false, false, false, false, false, false, false, false, false, false, false, false, false, false, false, false, false, false, false, false, false, false] (by kernel_rfl) rfl rfl (Below.refl _ _).drew (fun hHeld => ?_)
            refine pure_ (i := 0) (N := (some 52)) (v := ?_) (a' := ?_) #[true, false, false, false, false, false, false, false, false, false, false, false, false, false, false, false, false, false, false, false, false, false, false, false, false, false, false, false, false, false, false, false] rfl rfl (by kernel_rfl) (fun _ _ _ h => h) (Or.inl ⟨by rfl, ?_⟩) ?_ ?_
            rotate_left
            · intro w'
              go_simp
              with_reducible rfl
            rotate_left
            · simp only [Act.put, List.setIfInBounds_toArray, List.set_cons_zero, List.set_cons_succ]
              rfl
            refine pure_ (i := 1) (N := (some 53)) (v := ?_) (a' := ?_) #[true, true, false, false, false, false, false, false, false, false, false, false, false, false, false, false, false, false, false, false, false, false, false, false, false, false, false, false, false, false, false, false] rfl rfl (by kernel_rfl) (fun _ _ _ h => h) (Or.inl ⟨by rfl, ?_⟩) ?_ ?_
            rotate_left
            · intro w'
              go_simp
              with_reducible rfl
            rotate_left
            · simp only [Act.put, List.setIfInBounds_toArray, List.set_cons_zero, List.set_cons_succ]
              rfl
            refine pure_ (i := 2) (N := (some 54)) (v := ?_) (a' := ?_) #[true, true, true, false, false, false, false, false, false, false, false, false, false, false, false, false, false, false, false, false, false, false, false, false, false, false, false, false, false, false, false, false] rfl rfl (by kernel_rfl) (fun _ _ _ h => h) (Or.inl ⟨by rfl, ?_⟩) ?_ ?_
            rotate_left
            · intro w'
              go_simp
              with_reducible rfl
            rotate_left
            · simp only [Act.put, List.setIfInBounds_toArray, List.set_cons_zero, List.set_cons_succ]
              rfl
            refine pure_ (i := 3) (N := (some 55)) (v := ?_) (a' := ?_) #[true, true, true, true, false, false, false, false, false, false, false, false, false, false, false, false, false, false, false, false, false, false, false, false, false, false, false, false, false, false, false, false] rfl rfl (by kernel_rfl) (fun _ _ _ h => h) (Or.inl ⟨by rfl, ?_⟩) ?_ ?_
            rotate_left
            · intro w'
              go_simp
              with_reducible rfl
            rotate_left
            · simp only [Act.put, List.setIfInBounds_toArray, List.set_cons_zero, List.set_cons_succ]
              rfl
            refine take_ (i := 4) (N := (some 56)) (v := ?_) (a' := ?_) #[true, true, true, true, true, false, false, false, false, false, false, false, false, false, false, false, false, false, false, false, false, false, false, false, false, false, false, false, false, false, false, false] rfl rfl (by kernel_rfl) (fun _ _ _ h => h) (Or.inl ⟨by rfl, ?_⟩) hHeld ?_ ?_
            rotate_left
            · intro w' hS'
              (have q1 := (HX6.out.below_ hS').at_ 2 (v := .int .u64 r.2.2.1) rfl; go_simp)
              with_reducible rfl
            rotate_left
            · simp only [Act.put, List.setIfInBounds_toArray, List.set_cons_zero, List.set_cons_succ]
              rfl
            refine pure_ (i := 5) (N := (some 57)) (v := ?_) (a' := ?_) #[true, true, true, true, true, true, false, false, false, false, false, false, false, false, false, false, false, false, false, false, false, false, false, false, false, false, false, false, false, false, false, false] rfl rfl (by kernel_rfl) (fun _ _ _ h => h) (Or.inl ⟨by rfl, ?_⟩) ?_ ?_
            rotate_left
            · intro w'
              go_simp
              with_reducible rfl
            rotate_left
            · simp only [Act.put, List.setIfInBounds_toArray, List.set_cons_zero, List.set_cons_succ]
              rfl
            refine pure_ (i := 6) (N := (some 58)) (v := ?_) (a' := ?_) #[true, true, true, true, true, true, true, false, false, false, false, false, false, false, false, false, false, false, false, false, false, false, false, false, false, false, false, false, false, false, false, false] rfl rfl (by kernel_rfl) (fun _ _ _ h => h) (Or.inl ⟨by rfl, ?_⟩) ?_ ?_
            rotate_left
            · intro w'
              go_simp
              with_reducible rfl
            rotate_left
            · simp only [Act.put, List.setIfInBounds_toArray, List.set_cons_zero, List.set_cons_succ]
              rfl
            refine pure_ (i := 7) (N := (some 59)) (v := ?_) (a' := ?_) #[true, true, true, true, true, true, true, true, false, false, false, false, false, false, false, false, false, false, false, false, false, false, false, false, false, false, false, false, false, false, false, false] rfl rfl (by kernel_rfl) (fun _ _ _ h => h) (Or.inl ⟨by rfl, ?_⟩) ?_ ?_
            rotate_left
            · intro w'
              go_simp
              with_reducible rfl
            rotate_left
            · simp only [Act.put, List.setIfInBounds_toArray, List.set_cons_zero, List.set_cons_succ]
              rfl
            refine pure_ (i := 8) (N := (some 60)) (v := ?_) (a' := ?_) #[true, true, true, true, true, true, true, true, true, false, false, false, false, false, false, false, false, false, false, false, false, false, false, false, false, false, false, false, false, false, false, false] rfl rfl (by kernel_rfl) (fun _ _ _ h => h) (Or.inl ⟨by rfl, ?_⟩) ?_ ?_
            rotate_left
            · intro w'
              go_simp
              with_reducible rfl
            rotate_left
            · simp only [Act.put, List.setIfInBounds_toArray, List.set_cons_zero, List.set_cons_succ]
              rfl
            refine take_ (i := 9) (N := (some 61)) (v := ?_) (a' := ?_) #[true, true, true, true, true, true, true, true, true, true, false, false, false, false, false, false, false, false, false, false, false, false, false, false, false, false, false, false, false, false, false, false] rfl rfl (by kernel_rfl) (fun _ _ _ h => h) (Or.inl ⟨by rfl, ?_⟩) hHeld ?_ ?_
            rotate_left
            · intro w' hS'
              (have q1 := (HKC.out w' (below_then HB6.out HB6.out.size hS')).2; go_simp)
              with_reducible rfl
            rotate_left
            · simp only [Act.put, List.setIfInBounds_toArray, List.set_cons_zero, List.set_cons_succ]
              rfl
            refine pure_ (i := 10) (N := (some 62)) (v := ?_) (a' := ?_) #[true, true, true, true, true, true, true, true, true, true, true, false, false, false, false, false, false, false, false, false, false, false, false, false, false, false, false, false, false, false, false, false] rfl rfl (by kernel_rfl) (fun _ _ _ h => h) (Or.inl ⟨by rfl, ?_⟩) ?_ ?_
            rotate_left
            · intro w'
              go_simp
              with_reducible rfl
            rotate_left
            · simp only [Act.put, List.setIfInBounds_toArray, List.set_cons_zero, List.set_cons_succ]
              rfl
            refine pure_ (i := 11) (N := (some 63)) (v := ?_) (a' := ?_) #[true, true, true, true, true, true, true, true, true, true, true, true, false, false, false, false, false, false, false, false, false, false, false, false, false, false, false, false, false, false, false, false] rfl rfl (by kernel_rfl) (fun _ _ _ h => h) (Or.inl ⟨by rfl, ?_⟩) ?_ ?_
            rotate_left
            · intro w'
              go_simp
              with_reducible rfl
            rotate_left
            · simp only [Act.put, List.setIfInBounds_toArray, List.set_cons_zero, List.set_cons_succ]
              rfl
            refine pure_ (i := 12) (N := (some 64)) (v := ?_) (a' := ?_) #[true, true, true, true, true, true, true, true, true, true, true, true, true, false, false, false, false, false, false, false, false, false, false, false, false, false, false, false, false, false, false, false] rfl rfl (by kernel_rfl) (fun _ _ _ h => h) (Or.inl ⟨by rfl, ?_⟩) ?_ ?_
            rotate_left
            · intro w'
              go_simp
              with_reducible rfl
            rotate_left
            · simp only [Act.put, List.setIfInBounds_toArray, List.set_cons_zero, List.set_cons_succ]
              rfl
            refine pure_ (i := 13) (N := (some 65)) (v := ?_) (a' := ?_) #[true, true, true, true, true, true, true, true, true, true, true, true, true, true, false, false, false, false, false, false, false, false, false, false, false, false, false, false, false, false, false, false] rfl rfl (by kernel_rfl) (fun _ _ _ h => h) (Or.inl ⟨by rfl, ?_⟩) ?_ ?_
            rotate_left
            · intro w'
              go_simp
              with_reducible rfl
            rotate_left
            · simp only [Act.put, List.setIfInBounds_toArray, List.set_cons_zero, List.set_cons_succ]
              rfl
            refine take_ (i := 14) (N := (some 66)) (v := ?_) (a' := ?_) #[true, true, true, true, true, true, true, true, true, true, true, true, true, true, true, false, false, false, false, false, false, false, false, false, false, false, false, false, false, false, false, false] rfl rfl (by kernel_rfl) (fun _ _ _ h => h) (Or.inl ⟨by rfl, ?_⟩) hHeld ?_ ?_
            rotate_left
            · intro w' hS'
              (have q1 := (HX6.out.below_ hS').at_ 1 (v := .int .u16 r.2.1) rfl; go_simp)
              with_reducible rfl
            rotate_left
            · simp only [Act.put, List.setIfInBounds_toArray, List.set_cons_zero, List.set_cons_succ]
              rfl
            refine pure_ (i := 15) (N := (some 67)) (v := ?_) (a' := ?_) #[true, true, true, true, true, true, true, true, true, true, true, true, true, true, true, true, false, false, false, false, false, false, false, false, false, false, false, false, false, false, false, false] rfl rfl (by kernel_rfl) (fun _ _ _ h => h) (Or.inl ⟨by rfl, ?_⟩) ?_ ?_
            rotate_left
            · intro w'
              go_simp
              with_reducible rfl
            rotate_left
            · simp only [Act.put, List.setIfInBounds_toArray, List.set_cons_zero, List.set_cons_succ]
              rfl
            refine pure_ (i := 16) (N := (some 68)) (v := ?_) (a' := ?_) #[true, true, true, true, true, true, true, true, true, true, true, true, true, true, true, true, true, false, false, false, false, false, false, false, false, false, false, false, false, false, false, false] rfl rfl (by kernel_rfl) (fun _ _ _ h => h) (Or.inl ⟨by rfl, ?_⟩) ?_ ?_
            rotate_left
            · intro w'
              go_simp
              with_reducible rfl
            rotate_left
            · simp only [Act.put, List.setIfInBounds_toArray, List.set_cons_zero, List.set_cons_succ]
              rfl
            refine pure_ (i := 17) (N := (some 69)) (v := ?_) (a' := ?_) #[true, true, true, true, true, true, true, true, true, true, true, true, true, true, true, true, true, true, false, false, false, false, false, false, false, false, false, false, false, false, false, false] rfl rfl (by kernel_rfl) (fun _ _ _ h => h) (Or.inl ⟨by rfl, ?_⟩) ?_ ?_
            rotate_left
            · intro w'
              go_simp
              with_reducible rfl
            rotate_left
            · simp only [Act.put, List.setIfInBounds_toArray, List.set_cons_zero, List.set_cons_succ]
              rfl
            refine pure_ (i := 18) (N := (some 70)) (v := ?_) (a' := ?_) #[true, true, true, true, true, true, true, true, true, true, true, true, true, true, true, true, true, true, true, false, false, false, false, false, false, false, false, false, false, false, false, false] rfl rfl (by kernel_rfl) (fun _ _ _ h => h) (Or.inl ⟨by rfl, ?_⟩) ?_ ?_
            rotate_left
            · intro w'
              go_simp
              with_reducible rfl
            rotate_left
            · simp only [Act.put, List.setIfInBounds_toArray, List.set_cons_zero, List.set_cons_succ]
              rfl
            refine take_ (i := 19) (N := (some 71)) (v := ?_) (a' := ?_) #[true, true, true, true, true, true, true, true, true, true, true, true, true, true, true, true, true, true, true, true, false, false, false, false, false, false, false, false, false, false, false, false] rfl rfl (by kernel_rfl) (fun _ _ _ h => h) (Or.inl ⟨by rfl, ?_⟩) hHeld ?_ ?_
            rotate_left
            · intro w' hS'
              (have q1 := (HKC.out w' (below_then HB6.out HB6.out.size hS')).1; go_simp)
              with_reducible rfl
            rotate_left
            · simp only [Act.put, List.setIfInBounds_toArray, List.set_cons_zero, List.set_cons_succ]
              rfl
            refine pure_ (i := 20) (N := (some 72)) (v := ?_) (a' := ?_) #[true, true, true, true, true, true, true, true, true, true, true, true, true, true, true, true, true, true, true, true, true, false, false, false, false, false, false, false, false, false, false, false] rfl rfl (by kernel_rfl) (fun _ _ _ h => h) (Or.inl ⟨by rfl, ?_⟩) ?_ ?_
            rotate_left
            · intro w'
              go_simp
              with_reducible rfl
            rotate_left
            · simp only [Act.put, List.setIfInBounds_toArray, List.set_cons_zero, List.set_cons_succ]
              rfl
            refine pure_ (i := 21) (N := (some 73)) (v := ?_) (a' := ?_) #[true, true, true, true, true, true, true, true, true, true, true, true, true, true, true, true, true, true, true, true, true, true, false, false, false, false, false, false, false, false, false, false] rfl rfl (by kernel_rfl) (fun _ _ _ h => h) (Or.inl ⟨by rfl, ?_⟩) ?_ ?_
            rotate_left
            · intro w'
              go_simp
              with_reducible rfl
            rotate_left
            · simp only [Act.put, List.setIfInBounds_toArray, List.set_cons_zero, List.set_cons_succ]
              rfl
            refine pure_ (i := 22) (N := (some 74)) (v := ?_) (a' := ?_) #[true, true, true, true, true, true, true, true, true, true, true, true, true, true, true, true, true, true, true, true, true, true, true, false, false, false, false, false, false, false, false, false] rfl rfl (by kernel_rfl) (fun _ _ _ h => h) (Or.inl ⟨by rfl, ?_⟩) ?_ ?_
            rotate_left
            · intro w'
              go_simp
              with_reducible rfl
            rotate_left
            · simp only [Act.put, List.setIfInBounds_toArray, List.set_cons_zero, List.set_cons_succ]
              rfl
            refine pure_ (i := 23) (N := (some 75)) (v := ?_) (a' := ?_) #[true, true, true, true, true, true, true, true, true, true, true, true, true, true, true, true, true, true, true, true, true, true, true, true, false, false, false, false, false, false, false, false] rfl rfl (by kernel_rfl) (fun _ _ _ h => h) (Or.inl ⟨by rfl, ?_⟩) ?_ ?_
            rotate_left
            · intro w'
              go_simp
              with_reducible rfl
            rotate_left
            · simp only [Act.put, List.setIfInBounds_toArray, List.set_cons_zero, List.set_cons_succ]
              rfl
            refine pure_ (i := 24) (N := (some 76)) (v := ?_) (a' := ?_) #[true, true, true, true, true, true, true, true, true, true, true, true, true, true, true, true, true, true, true, true, true, true, true, true, true, false, false, false, false, false, false, false] rfl rfl (by kernel_rfl) (fun _ _ _ h => h) (Or.inl ⟨by rfl, ?_⟩) ?_ ?_
            rotate_left
            · intro w'
              go_simp
              with_reducible rfl
            rotate_left
            · simp only [Act.put, List.setIfInBounds_toArray, List.set_cons_zero, List.set_cons_succ]
              rfl
            refine pure_ (i := 25) (N := (some 77)) (v := ?_) (a' := ?_) #[true, true, true, true, true, true, true, true, true, true, true, true, true, true, true, true, true, true, true, true, true, true, true, true, true, true, false, false, false, false, false, false] rfl rfl (by kernel_rfl) (fun _ _ _ h => h) (Or.inl ⟨by rfl, ?_⟩) ?_ ?_
            rotate_left
            · intro w'
              go_simp
              with_reducible rfl
            rotate_left
            · simp only [Act.put, List.setIfInBounds_toArray, List.set_cons_zero, List.set_cons_succ]
              rfl
            refine pure_ (i := 26) (N := (some 78)) (v := ?_) (a' := ?_) #[true, true, true, true, true, true, true, true, true, true, true, true, true, true, true, true, true, true, true, true, true, true, true, true, true, true, true, false, false, false, false, false] rfl rfl (by kernel_rfl) (fun _ _ _ h => h) (Or.inl ⟨by rfl, ?_⟩) ?_ ?_
            rotate_left
            · intro w'
              (have hnm := HNM.out; refine Eq.trans (b := .ok (Next.value (.bool false)) w') (by first | (go_simp; done) | (go_simp; omega) | (go_simp; simp; omega)) ?_)
              with_reducible rfl
            rotate_left
            · simp only [Act.put, List.setIfInBounds_toArray, List.set_cons_zero, List.set_cons_succ]
              rfl
            refine pure_ (i := 27) (N := (some 79)) (v := ?_) (a' := ?_) #[true, true, true, true, true, true, true, true, true, true, true, true, true, true, true, true, true, true, true, true, true, true, true, true, true, true, true, true, false, false, false, false] rfl rfl (by kernel_rfl) (fun _ _ _ h => h) (Or.inl ⟨by rfl, ?_⟩) ?_ ?_
            rotate_left
            · intro w'
              go_simp
              with_reducible rfl
            rotate_left
            · simp only [Act.put, List.setIfInBounds_toArray, List.set_cons_zero, List.set_cons_succ]
              rfl
            refine pure_ (i := 28) (N := (some 80)) (v := ?_) (a' := ?_) #[true, true, true, true, true, true, true, true, true, true, true, true, true, true, true, true, true, true, true, true, true, true, true, true, true, true, true, true, true, false, false, false] rfl rfl (by kernel_rfl) (fun _ _ _ h => h) (Or.inl ⟨by rfl, ?_⟩) ?_ ?_
            rotate_left
            · intro w'
              go_simp
              with_reducible rfl
            rotate_left
            · simp only [Act.put, List.setIfInBounds_toArray, List.set_cons_zero, List.set_cons_succ]
              rfl
            refine pure_ (i := 29) (N := (some 81)) (v := ?_) (a' := ?_) #[true, true, true, true, true, true, true, true, true, true, true, true, true, true, true, true, true, true, true, true, true, true, true, true, true, true, true, true, true, true, false, false] rfl rfl (by kernel_rfl) (fun _ _ _ h => h) (Or.inl ⟨by rfl, ?_⟩) ?_ ?_
            rotate_left
            · intro w'
              go_simp
              with_reducible rfl
            rotate_left
            · simp only [Act.put, List.setIfInBounds_toArray, List.set_cons_zero, List.set_cons_succ]
              rfl
            refine pure_ (i := 30) (N := (some 82)) (v := ?_) (a' := ?_) #[true, true, true, true, true, true, true, true, true, true, true, true, true, true, true, true, true, true, true, true, true, true, true, true, true, true, true, true, true, true, true, false] rfl rfl (by kernel_rfl) (fun _ _ _ h => h) (Or.inl ⟨by rfl, ?_⟩) ?_ ?_
            rotate_left
            · intro w'
              (have hnm := HNM.out; refine Eq.trans (b := .ok (Next.value (.bool false)) w') (by first | (go_simp; done) | (go_simp; omega) | (go_simp; simp; omega)) ?_)
              with_reducible rfl
            rotate_left
            · simp only [Act.put, List.setIfInBounds_toArray, List.set_cons_zero, List.set_cons_succ]
              rfl
            refine pure_ (i := 31) (N := (some 83)) (v := ?_) (a' := ?_) #[true, true, true, true, true, true, true, true, true, true, true, true, true, true, true, true, true, true, true, true, true, true, true, true, true, true, true, true, true, true, true, true] rfl rfl (by kernel_rfl) (fun _ _ _ h => h) (Or.inl ⟨by rfl, ?_⟩) ?_ ?_
            rotate_left
            · intro w'
              go_simp
              with_reducible rfl
            rotate_left
            · simp only [Act.put, List.setIfInBounds_toArray, List.set_cons_zero, List.set_cons_succ]
              rfl
            refine done_ (by kernel_rfl) ?_
            refine NoPanic.normal ?_
            have hdr6 : Below w6.heap.size w6 w6.drew := (Below.refl _ _).drew
            generalize World.drew w6 = w6d at *
            have HX6d := Aside0.mk (HX6.out.below_ hdr6)
            have HC6 := Aside0.mk (Kd.C_below (Kd.C_below HC5.out HB56.out) hdr6)
            have HCB6 := Aside0.mk (Kd.C_below (Kd.C_below HCB5.out HB56.out) hdr6)
            have HB6d := Aside0.mk (below_then HB6.out HB6.out.size hdr6)
            clear HX6 HB6 HB56 hdr6
            have hs1 : ∀ W : World, (Instr.slice 22 (.slice A' m c') none (some (.int .i64 (nb : Int))) none).run Try.prog W = .ok (.slice A' nb c') W := by
              have := Wk.cut_to_ (P := Try.prog) 22 5 .i64 Try.underlying22 Rw.infoByte1 A' c' (Rw.bs r ++ R) (nb : Int) nb rfl (by rw [HM.out.1]; exact HNM.out.2) (by rw [HM.out.1]; exact HM.out.2.1)
              rwa [HM.out.1] at this
            have hnbm : (nb : Int) ≤ m := by have := HNM.out; omega
            have hnbc : (nb : Int) ≤ c' := by have := HNM.out; have := HM.out; omega
            have hlent : Calls Try.prog 10 #[.slice A' nb c'] w6d fun e w' => ∃ A c, e = .returned (.slice A nb c) ∧ Kd.R (Kd.int .u8) 5 w' w6d.heap.size (fun _ => True) (.slice A nb c) (Rw.bs r) ∧ Below w6d.heap.size w6d w' := by
              have hC : Kd.C (Kd.int .u8) w6d A' ((Rw.bs r ++ R).take nb).length ((Rw.bs r ++ R).take nb) := Kd.C_take (by rw [HM.out.1]; exact HCB6.out) (by rw [HM.out.1]; exact HNM.out.2)
              rw [show (Rw.bs r ++ R).take nb = Rw.bs r from by rw [← HNB.out]; exact List.take_left] at hC
              have := lent_.calls (w := w6d) (A := A') (c := c') (l := Rw.bs r) hC (by rw [HNB.out]; have := HNM.out; have := HM.out; omega) (by rw [HNB.out]; have := HNM.out; have := HM.out; omega)
              rw [HNB.out] at this
              exact this
            clear HCB5 HC5 HB5
            go_wp2_with fail
            refine hlent.mono ?_
            clear hlent hs1
            rintro e w7 ⟨A7, c7, rfl, hR7, hb7⟩
            obtain ⟨-, hl7, hC7⟩ := Kd.R_reads' hR7
            have hnext : Calls Try.prog 11 #[.slice A7 nb c7] w7 fun e w' => ∃ A c, e = .returned (.tuple #[.agg (Rw.rqc r.1 r.2.1 r.2.2.1 r.2.2.2.1 (Rw.wl r) (.slice A mw c)).toArray, .int .i64 nb, .int .u16 0]) ∧ Kd.R (Kd.int .u8) 5 w' w7.heap.size (fun _ => True) (.slice A mw c) (Rw.wd r) ∧ Below w7.heap.size w7 w' := by
              have hn := Rw.next_whole r HWK.out HDK.out []
              rw [List.append_nil] at hn
              have := next_.calls (w := w7) (A := A7) (c := c7) (l := Rw.bs r) hC7 (by rw [HNB.out]; exact hl7) (by rw [HNB.out]; have := HNM.out; have := HM.out; omega) (Rw.bs_bytes HWK.out) hn
              rw [HNB.out, HMW.out] at this
              exact this
            have HB67 := Aside0.mk hb7
            clear hR7 hb7 hl7 hC7
            go_wp2_with fail
            refine hnext.mono ?_
            clear hnext
            rintro e w8 ⟨A8, c8, rfl, hR8, hb8⟩
            obtain ⟨-, hl8, hC8⟩ := Kd.R_reads' hR8
            have HC8 := Aside0.mk hC8
            have HL8 := Aside0.mk hl8
            have HB68 := Aside0.mk (below_then HB67.out HB67.out.size hb8)
            have HX8 := Aside0.mk (HX6d.out.below_ HB68.out)
            have HN8 := Aside0.mk (Wk.Blk.new w8 28 Rw.zrq)
            clear hR8 hb8 hl8 hC8 HB67
            unfold Rw.rqc
            go_wp2_with (refine Wk.store_all rfl rfl 28 (.tmp 9) (.tmp 90) rfl w8.heap.size (Rw.rqc r.1 r.2.1 r.2.2.1 r.2.2.2.1 (Rw.wl r) (.slice A8 mw c8)) rfl rfl 28 Rw.zrq HN8.out HSZ.out rfl rfl ?_; intro w9 hX hO; have HY9 := Aside0.mk hX; have HB89 := Aside0.mk (Wk.Only.below ((Below.refl _ _).alloc (Nat.le_refl _) _) hO (Nat.le_refl _)); have HX9 := Aside0.mk (HX8.out.below_ HB89.out); have d3 := HX9.out.at_ 3 (v := .int .u64 r.2.2.2.1) rfl; have d5 := HX9.out.at_ 5 (v := .slice A5 mw c5) rfl; have e3 := HY9.out.at_ 3 (v := .int .u64 r.2.2.2.1) rfl; have e5 := HY9.out.at_ 5 (v := .slice A8 mw c8) rfl; clear hX hO)
            have HB69 := Aside0.mk (below_then HB68.out HB68.out.size HB89.out)
            have hsame : Calls Try.prog 15 #[.slice A8 mw c8, .slice A5 mw c5] w9 fun e w' => e = .returned (.bool true) ∧ Below w9.heap.size w9 w' := by
              have h1 : Kd.C (Kd.int .u8) w9 A8 (Rw.wd r).length (Rw.wd r) := Kd.C_below HC8.out HB89.out
              have h2 : Kd.C (Kd.int .u8) w9 A5 (Rw.wd r).length (Rw.wd r) := Kd.C_below HC6.out HB69.out
              have := samebs_.calls (w := w9) (l := Rw.wd r) (c := c8) (c' := c5) h1 (by rw [HMW.out]; exact HL8.out) h2 (by rw [HMW.out]; exact HL5.out)
              rw [HMW.out] at this
              exact this
            clear d3 d5 e3 e5
            refine hsame.mono ?_
            clear hsame
            rintro e w10 ⟨rfl, hb10⟩
            have HB610 := Aside0.mk (below_then HB69.out HB69.out.size hb10)
            clear hb10
            obtain ⟨A2, hs2, hC2⟩ := Wk.cut_from_ (P := Try.prog) 22 5 .i64 Try.underlying22 Rw.infoByte1 .u8 A' c' (Rw.bs r ++ R) (nb : Int) nb rfl (by rw [HM.out.1]; exact HNM.out.2) (by rw [HM.out.1]; exact HM.out.2.1)
            rw [HM.out.1] at hs2
            have hC10 := hC2 w10 (by rw [HM.out.1]; exact Kd.C_below HCB6.out HB610.out)
            rw [show (Rw.bs r ++ R).drop nb = R from by rw [← HNB.out]; exact List.drop_left] at hC10
            have HRL : Aside0 (R.length = m - nb) := ⟨by have h1 := HM.out.1; rw [List.length_append, HNB.out] at h1; omega⟩
            rw [HRL.out] at hC10
            have HC10 := Aside0.mk hC10
            have HM2 : Aside0 (R.length = m - nb ∧ m - nb ≤ c' - nb ∧ m - nb ≤ 2560) := ⟨HRL.out, by have := HM.out; omega, by have := HM.out; omega⟩
            clear hC2 hC10
            obtain ⟨m2, hm2⟩ : ∃ k, m - nb = k := ⟨_, rfl⟩
            obtain ⟨c2, hc2⟩ : ∃ k, c' - nb = k := ⟨_, rfl⟩
            rw [hm2, hc2] at hs2 HM2
            rw [hm2] at HC10
            clear hm2 hc2
            go_wp2_with fail
            go_roundw
            case rel => exact ⟨j + 1, m2, A2, c2, by go_num, rfl, by omega, ⟨by rw [HRR.out]; exact HM2.out⟩, ⟨by rw [HRR.out]; exact HC10.out⟩, ⟨below_then HB6d.out HB6d.out.size HB610.out⟩⟩
            case measure => simp [intOf]; omega
          · obtain rfl : n = j := by omega
            have HM0 : Aside0 (m = 0) := ⟨by
              have := HM.out.1
              rw [List.drop_of_length_le (by rw [HN.out]; exact Nat.le_refl _)] at this
              simpa [Rw.cat] using this.symm⟩
            obtain rfl := HM0.out
            go_wp2_with fail
            go_ret
            exact ⟨rfl, HB.out⟩
  · have h20i : ¬ (n : Int) ≤ 20 := by omega
    go_enter Try.func8, Try.ntmps8
    go_wp2_with fail
    refine (kn_.calls W).mono ?_
    rintro e w1 ⟨rfl, hb⟩
    go_wp2_with fail
    go_ret
    exact ⟨rfl, hb⟩
#print axioms reqFronts_.calls
end Go.Proofs.Ytemhlinodccokaa
