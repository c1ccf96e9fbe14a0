/- The walk of the law PipeFills. -/
import Derived.Test.YtikogcdakdndnaaPipeK
set_option linter.unusedVariables false
set_option linter.unusedSimpArgs false
namespace Go.Proofs.Ytikogcdakdndnaa
open Go.RowKit Go.Proofs.YtikogcdakdndnaaW.PrintWords Go.Proofs.YtikogcdakdndnaaW.PrintLast Go.Proofs.YtikogcdakdndnaaW.PrintMore
namespace Pi
/-- a request of a row: its load, its cells -/
theorem row_get {w : World} {A : Option Addr} {n : Nat} {rs : List Rq} (h : kRq.C w A n rs) (i : Nat) (hi : i < rs.length) (hn : rs.length = n) : ∃ ad A1 c1, A = some ad ∧ (∀ w', Below w.heap.size w w' → (Instr.loadAt 33 (.pointer (some (ad.add (i * 6))))).run Try.prog w' = .ok (.agg (rqc rs[i].1 rs[i].2.1 rs[i].2.2.1 rs[i].2.2.2.1 rs[i].2.2.2.2.1 (.slice A1 rs[i].2.2.2.2.2.length c1)).toArray) w') ∧ kRq.K w rs[i] (rqc rs[i].1 rs[i].2.1 rs[i].2.2.1 rs[i].2.2.2.1 rs[i].2.2.2.2.1 (.slice A1 rs[i].2.2.2.2.2.length c1)) ∧ w.cell? ⟨(ad.add (i * 6)).block, (ad.add (i * 6)).off + 5, none⟩ = some (.slice A1 rs[i].2.2.2.2.2.length c1) := by
  obtain ⟨ad, c, e, _, hK, hc0⟩ := Kd.C_get h ((0, 0, 0, 0, 0, []) : Rq) (i : Int) (by omega) (by omega)
  rw [List.getD_eq_getElem?_getD, Int.toNat_natCast, List.getElem?_eq_getElem hi] at hK
  change kRq.K w rs[i] c at hK
  have hc : ∀ j u, c[j]? = some u → w.cell? (ad.add (i * 6 + j)) = some u := fun j u hu => by
    have := hc0 j u hu
    rwa [Int.toNat_natCast] at this
  obtain ⟨A5, c5, rfl, l5, g5⟩ := rq_cells hK
  refine ⟨ad, A5, c5, e, ?_, hK, ?_⟩
  · intro w' hb
    have hu := Try.underlying33
    obtain ⟨q, hi, hsz⟩ := Option.map_eq_some_iff.1 size33
    have hl : (loadCells (ad.add (i * 6)) 6).run Try.prog w' = .ok (rqc rs[i].1 rs[i].2.1 rs[i].2.2.1 rs[i].2.2.2.1 rs[i].2.2.2.2.1 (.slice A5 rs[i].2.2.2.2.2.length c5)).toArray w' :=
      run_loadCells_list (P := Try.prog) w' (ad.add (i * 6)) (rqc rs[i].1 rs[i].2.1 rs[i].2.2.1 rs[i].2.2.2.1 rs[i].2.2.2.2.1 (.slice A5 rs[i].2.2.2.2.2.length c5)) (fun j v hv => by rw [add_add]; have := hc j v hv; exact (hb.cell (World.block_lt_of_cell? w _ this)).trans this)
    have hagg : (isAgg 33).run Try.prog w' = .ok true w' := by
      unfold isAgg
      rw [Sem.run_bind, run_underlying hu w']
      rfl
    simp [Instr.loadAt, Instr.sureAddr, loadVar, Sem.run_bind, hagg, sizeOf, typeInfo, hi, hsz, hl]
  · have := hc 5 _ rfl
    rw [add_field _ _ 5 (by omega)] at this
    exact this
/-- what waits behind j that were taken, from the back or from the front -/
def rem (b : Bool) (xs : List Rq) (j : Nat) : List Rq := if b then xs.take (xs.length - j) else xs.drop j
theorem rem_zero (b : Bool) (xs : List Rq) : rem b xs 0 = xs := by cases b <;> simp [rem]
theorem rem_len (b : Bool) (xs : List Rq) (j : Nat) : (rem b xs j).length = xs.length - j := by cases b <;> simp [rem]
def plc (b : Bool) (n j : Nat) : Nat := if b then n - 1 - j else 0
def wnt (b : Bool) (n j : Nat) : Nat := if b then n - 1 - j else j
theorem rem_at (b : Bool) (xs : List Rq) (j : Nat) (h : j < xs.length) : ∃ (h1 : plc b xs.length j < (rem b xs j).length) (h2 : wnt b xs.length j < xs.length), (rem b xs j)[plc b xs.length j] = xs[wnt b xs.length j] ∧ (rem b xs j).eraseIdx (plc b xs.length j) = rem b xs (j + 1) := by
  refine ⟨by rw [rem_len]; cases b <;> simp [plc] <;> omega, by cases b <;> simp [wnt] <;> omega, ?_, ?_⟩
  · cases b <;> simp [rem, plc, wnt]
  · cases b
    · simp [rem, plc]
    · simp only [rem, plc, if_true]
      rw [List.eraseIdx_eq_take_drop_succ, List.take_take, List.drop_of_length_le (by rw [List.length_take]; omega), List.append_nil]
      congr 1
      omega
end Pi
set_option maxHeartbeats 4000000 in
set_option maxRecDepth 100000 in
theorem pipeFills_.calls (x0 : List Rq) (v0 : Value) (x1 : Bool) (v1 : Value) (W : World) (hK0 : (Kd.slice 33 kRq).K W x0 [v0]) (hw0 : x0.length ≤ maxLen ∧ ∀ x ∈ x0, RqWf x) (hK1 : Kd.bool.K W x1 [v1]) (hw1 : True) :
    Calls Try.prog 5 #[v0, v1] W fun e w' => e = .returned (.bool true) ∧ Below W.heap.size W w' := by
  obtain ⟨A, c, he0, hlc, hC⟩ := hK0
  obtain rfl : v0 = .slice A x0.length c := by simpa using he0
  obtain rfl : v1 = .bool x1 := by cases hK1; rfl
  have HC := Aside0.mk hC
  obtain ⟨n, HN⟩ : ∃ n, Aside0 (x0.length = n) := ⟨_, ⟨rfl⟩⟩
  rw [HN.out]
  clear hw0 hw1 hK1 hC hlc he0
  by_cases h40 : n ≤ 40
  · have h40i : (n : Int) ≤ 40 := by omega
    go_enter Try.func5, Try.ntmps5
    go_wp2_with fail
    refine (known_.calls W).mono ?_
    rintro e w1 ⟨rfl, hb⟩
    have HB1 := Aside0.mk hb
    clear hb
    go_wp2_with fail
    refine (new_.calls (fun _ => True) w1).mono ?_
    rintro e w2 ⟨rfl, hp, hb⟩
    obtain ⟨g, HG⟩ : ∃ g, Aside0 (w1.heap.size = g) := ⟨_, ⟨rfl⟩⟩
    have HGW : Aside0 (W.heap.size ≤ g) := ⟨by rw [← HG.out]; exact HB1.out.size⟩
    have HB2 := Aside0.mk (below_then HB1.out HB1.out.size hb)
    have HG2 : Aside0 (g ≤ w2.heap.size) := ⟨by rw [← HG.out]; exact hb.size⟩
    rw [HG.out] at hp ⊢
    have HP2 := Aside0.mk hp
    clear hb hp HB1 HG
    go_wp2_with fail
    go_loopw [6] (fun i wr => ∃ k : Nat, i = .int .i64 k ∧ k ≤ n ∧ Aside0 (Pi.Pp wr g (fun _ => True) g (x0.take (min k 16))) ∧ Aside0 (Below W.heap.size W wr ∧ g ≤ wr.heap.size)) (fun i _ => n - (intOf i).toNat)
    case atStart => exact ⟨0, rfl, Nat.zero_le _, ⟨by simpa using HP2.out⟩, ⟨HB2.out, HG2.out⟩⟩
    case round =>
      obtain ⟨k, rfl, hk, HP, HB⟩ := hrel
      clear HP2 HB2 HG2
      by_cases hlt : k < n
      · have hltI : (k : Int) < n := by omega
        have hki : k < x0.length := by rw [HN.out]; exact hlt
        obtain ⟨ad, A1, c1, hA, hrun, hKr, hcell⟩ := Pi.row_get (Kd.C_below HC.out HB.out.1) k hki rfl
        subst hA
        obtain ⟨r, HR⟩ : ∃ r, Aside0 (x0[k] = r) := ⟨_, ⟨rfl⟩⟩
        rw [HR.out] at hrun hKr hcell
        have HRUN := Aside0.mk (hrun _ (Below.refl _ _))
        have HKR := Aside0.mk hKr
        obtain ⟨m, HM⟩ : ∃ m, Aside0 (r.2.2.2.2.2.length = m) := ⟨_, ⟨rfl⟩⟩
        rw [HM.out] at hcell HRUN HKR
        clear hrun hKr
        by_cases h100 : (m : Int) > 100
        · go_wp2_with fail
          go_ret
          exact ⟨rfl, HB.out.1⟩
        · have HADD : Aside0 ((x0.take (min k 16)).length = min k 16) := ⟨by rw [List.length_take, HN.out]; omega⟩
          have HT : Aside0 (Calls Try.prog 10 #[.pointer (some ⟨g, 0, none⟩), .agg (Pi.rqc r.1 r.2.1 r.2.2.1 r.2.2.2.1 r.2.2.2.2.1 (.slice A1 m c1)).toArray] wr fun e w' => e = .returned (.bool (decide (k < 16))) ∧ Aside0 (Pi.Pp w' g (fun _ => True) g (x0.take (min (k + 1) 16))) ∧ Aside0 (Below W.heap.size W w' ∧ g ≤ w'.heap.size)) := ⟨by
            refine (add_.calls HP.out HKR.out (by rw [HM.out]; omega) HB.out.2 (fun _ _ => trivial)).mono ?_
            rintro e w' ⟨rfl, hp, hg⟩
            rw [HADD.out] at hp ⊢
            refine ⟨by congr 2; simp; omega, ⟨?_⟩, ⟨HB.out.1.grown hg HB.out.1.size (fun k hk => by cases hk; exact HGW.out), Nat.le_trans HB.out.2 hg.size⟩⟩
            by_cases h16 : k < 16
            · rw [if_pos (by omega), Nat.min_eq_left (by omega), ← HR.out] at hp
              rw [Nat.min_eq_left (by omega), List.take_succ_eq_append_getElem (by rw [HN.out]; exact hlt)]
              exact hp
            · rw [if_neg (by omega), Nat.min_eq_right (by omega)] at hp
              rw [Nat.min_eq_right (by omega)]
              exact hp⟩
          have HE : Aside0 (decide ((k : Int) < 16) = decide (k < 16)) := ⟨by simp; omega⟩
          clear HADD HKR HM HR
          unfold Pi.rqc at HRUN HT
          go_wp2_with (refine Wk.load rfl 33 (.tmp 40) rfl _ (.pointer (some (ad.add (k * 6)))) rfl HRUN.out ?_)
          refine HT.out.mono ?_
          rintro e w3 ⟨rfl, HP3, HB3⟩
          have HS : Aside0 True := ⟨trivial⟩
          by_cases h16 : k < 16
          · have h16i : (k : Int) < 16 := by omega
            rw [decide_eq_true h16]
            go_wp2_with fail
            go_roundw
            case rel => exact ⟨k + 1, by go_num, by omega, HP3, HB3⟩
            case measure => simp [intOf]; omega
          · have h16i : ¬ (k : Int) < 16 := by omega
            rw [decide_eq_false h16]
            go_wp2_with fail
            go_roundw
            case rel => exact ⟨k + 1, by go_num, by omega, HP3, HB3⟩
            case measure => simp [intOf]; omega
      · obtain rfl : k = n := by omega
        go_wp2_with fail
        · have hk16 : 16 ≤ k := by omega
          rw [Nat.min_eq_right hk16] at HP
          have HQ : Aside0 ((x0.take 16).length = 16 ∧ 16 ≤ x0.length) := ⟨by rw [List.length_take, HN.out]; omega, by rw [HN.out]; omega⟩
          go_loopw [8] (fun i wr => ∃ j : Nat, i = .int .i64 j ∧ j ≤ 16 ∧ Aside0 (Pi.Pp wr g (fun _ => True) g (Pi.rem x1 (x0.take 16) j)) ∧ Aside0 (Below W.heap.size W wr ∧ g ≤ wr.heap.size)) (fun i _ => 16 - (intOf i).toNat)
          case atStart => exact ⟨0, rfl, Nat.zero_le _, ⟨by rw [Pi.rem_zero]; exact HP.out⟩, HB⟩
          case round =>
            clear HP HB
            obtain ⟨j, rfl, hj, HP, HB⟩ := hrel
            by_cases hlt2 : j < 16
            · have hlt2i : (j : Int) < (16 : Int) := by omega
              obtain ⟨hp1, hp2, hpa, hpe⟩ := Pi.rem_at x1 (x0.take 16) j (by rw [HQ.out.1]; exact hlt2)
              obtain ⟨r, HR⟩ : ∃ r, Aside0 ((x0.take 16)[Pi.wnt x1 (x0.take 16).length j] = r) := ⟨_, ⟨rfl⟩⟩
              have HT0 := take_yes HP.out _ hp1
              rw [hpa, HR.out, hpe] at HT0
              have HT1 := Aside0.mk HT0
              have hlen := Pi.rem_len x1 (x0.take 16) j
              have hru : x0[Pi.wnt x1 (x0.take 16).length j]? = some r := by
                rw [← HR.out, List.getElem_take, List.getElem?_eq_getElem]
              rw [HQ.out.1] at hru hlen
              have HRU := Aside0.mk hru
              clear HT0 hpa hpe hp1 hp2 hru HR
              cases x1
              · have hT := HT1.out
                rw [HQ.out.1, show Pi.plc false 16 j = 0 from rfl] at hT
                rw [show Pi.wnt false 16 j = j from rfl] at HRU
                clear HT1 hlen
                go_wp2_with fail
                refine hT.mono ?_
                rintro e w4 ⟨cs4, rfl, hM, hp4, hg4⟩
                obtain ⟨v4, rfl, hR4⟩ := Pi.rq_Mc hM
                obtain ⟨A4, c4, rfl⟩ := Kd.R_slice hR4
                have hK4 := kRq.K_of_M hM
                have HBX4 : Aside0 (Below W.heap.size W w4 ∧ g ≤ w4.heap.size) := ⟨HB.out.1.grown hg4 HB.out.1.size (fun k hk => by cases hk; exact HGW.out), Nat.le_trans HB.out.2 hg4.size⟩
                have HP4 := Aside0.mk hp4
                obtain ⟨m4, HM4⟩ : ∃ m, Aside0 (r.2.2.2.2.2.length = m) := ⟨_, ⟨rfl⟩⟩
                rw [HM4.out] at hK4 ⊢
                have HK4 := Aside0.mk hK4
                have HSZ := Aside0.mk Pi.size33
                have HX4 := Aside0.mk (Wk.Blk.new w4 33 Pi.zrq)
                clear hM hR4 hK4 hp4 hg4 HP HB hT
                unfold Pi.rqc
                go_wp2_with (refine Wk.store_all rfl rfl 33 (.tmp 11) (.tmp 67) rfl w4.heap.size (Pi.rqc r.1 r.2.1 r.2.2.1 r.2.2.2.1 r.2.2.2.2.1 (.slice A4 m4 c4)) rfl rfl 33 Pi.zrq HX4.out HSZ.out rfl rfl ?_; intro w5 hX hO; have HX5 := Aside0.mk hX; have HO5 := Aside0.mk hO; clear hX hO)
                have HB45 := Aside0.mk (Wk.Only.below ((Below.refl _ _).alloc (Nat.le_refl _) _) HO5.out (Nat.le_refl _))
                have HB5 : Aside0 (Below W.heap.size W w5 ∧ g ≤ w5.heap.size) := ⟨below_then HBX4.out.1 HBX4.out.1.size HB45.out, Nat.le_trans HBX4.out.2 HB45.out.size⟩
                have HP5 := Aside0.mk (HP4.out.below HB45.out)
                have HK5 := Aside0.mk (kRq.K_below HB45.out HK4.out)
                clear HP4 HX4 HO5 HK4 HBX4 HB45
                obtain ⟨huw, hru⟩ := List.getElem?_eq_some_iff.1 HRU.out
                obtain ⟨ad, A1, c1, hA, hrun, hKr, hcell⟩ := Pi.row_get (Kd.C_below HC.out HB5.out.1) j huw rfl
                subst hA
                rw [hru, HM4.out] at hrun hKr
                have HRUN := Aside0.mk hrun
                have HKR := Aside0.mk hKr
                have hul : (j : Int) < k := by have := HN.out; omega
                clear hru hrun hKr hcell huw
                refine wp_region_noPanic ?_
                refine start_ (n := 11) (S := (fun w' => Below w5.heap.size w5 w')) (ds := [8]) #[false, false, false, false, false, false, false, false, false, false, false] (by kernel_rfl) rfl rfl (Below.refl _ _).drew (fun hHeld => ?_)
                refine pure_ (i := 0) (N := (some 69)) (v := ?_) (a' := ?_) #[true, false, false, false, false, false, false, false, false, false, false] rfl rfl (by kernel_rfl) (fun _ _ _ h => h) (Or.inl ⟨by rfl, ?_⟩) ?_ ?_
                rotate_left
                · intro w'
                  go_simp
                  with_reducible rfl
                rotate_left
                · simp only [Act.put, List.setIfInBounds_toArray, List.set_cons_zero, List.set_cons_succ]
                  rfl
                refine pure_ (i := 1) (N := (some 70)) (v := ?_) (a' := ?_) #[true, true, false, false, false, false, false, false, false, false, false] rfl rfl (by kernel_rfl) (fun _ _ _ h => h) (Or.inl ⟨by rfl, ?_⟩) ?_ ?_
                rotate_left
                · intro w'
                  go_simp
                  with_reducible rfl
                rotate_left
                · simp only [Act.put, List.setIfInBounds_toArray, List.set_cons_zero, List.set_cons_succ]
                  rfl
                refine pure_ (i := 2) (N := (some 71)) (v := ?_) (a' := ?_) #[true, true, true, false, false, false, false, false, false, false, false] rfl rfl (by kernel_rfl) (fun _ _ _ h => h) (Or.inl ⟨by rfl, ?_⟩) ?_ ?_
                rotate_left
                · intro w'
                  go_simp
                  with_reducible rfl
                rotate_left
                · simp only [Act.put, List.setIfInBounds_toArray, List.set_cons_zero, List.set_cons_succ]
                  rfl
                refine take_ (i := 3) (N := (some 72)) (v := ?_) (a' := ?_) #[true, true, true, true, false, false, false, false, false, false, false] rfl rfl (by kernel_rfl) (fun _ _ _ h => h) (Or.inl ⟨by rfl, ?_⟩) hHeld ?_ ?_
                rotate_left
                · intro w' hS'
                  (have hl := Wk.run_load_blk (P := Try.prog) 33 w4.heap.size 0 (Pi.rqc r.1 r.2.1 r.2.2.1 r.2.2.2.1 r.2.2.2.2.1 (.slice A4 m4 c4)) _ (HX5.out.below_ hS') rfl Try.underlying33 rfl HSZ.out; refine (Wk.exec_load 33 (.tmp 11) rfl _ _ rfl hl).trans ?_)
                  with_reducible rfl
                rotate_left
                · simp only [Act.put, List.setIfInBounds_toArray, List.set_cons_zero, List.set_cons_succ]
                  rfl
                refine pure_ (i := 4) (N := (some 73)) (v := ?_) (a' := ?_) #[true, true, true, true, true, false, false, false, false, false, false] rfl rfl (by kernel_rfl) (fun _ _ _ h => h) (Or.inl ⟨by rfl, ?_⟩) ?_ ?_
                rotate_left
                · intro w'
                  go_simp
                  with_reducible rfl
                rotate_left
                · simp only [Act.put, List.setIfInBounds_toArray, List.set_cons_zero, List.set_cons_succ]
                  rfl
                refine pure_ (i := 5) (N := (some 74)) (v := ?_) (a' := ?_) #[true, true, true, true, true, true, false, false, false, false, false] rfl rfl (by kernel_rfl) (fun _ _ _ h => h) (Or.inl ⟨by rfl, ?_⟩) ?_ ?_
                rotate_left
                · intro w'
                  go_simp
                  with_reducible rfl
                rotate_left
                · simp only [Act.put, List.setIfInBounds_toArray, List.set_cons_zero, List.set_cons_succ]
                  rfl
                refine pure_ (i := 6) (N := (some 75)) (v := ?_) (a' := ?_) #[true, true, true, true, true, true, true, false, false, false, false] rfl rfl (by kernel_rfl) (fun _ _ _ h => h) (Or.inl ⟨by rfl, ?_⟩) ?_ ?_
                rotate_left
                · intro w'
                  go_simp
                  with_reducible rfl
                rotate_left
                · simp only [Act.put, List.setIfInBounds_toArray, List.set_cons_zero, List.set_cons_succ]
                  rfl
                refine take_ (i := 7) (N := (some 76)) (v := ?_) (a' := ?_) #[true, true, true, true, true, true, true, true, false, false, false] rfl rfl (by kernel_rfl) (fun _ _ _ h => h) (Or.inl ⟨by rfl, ?_⟩) hHeld ?_ ?_
                rotate_left
                · intro w' hS'
                  (refine (Wk.exec_load 33 (.tmp 75) rfl _ _ rfl (HRUN.out w' hS')).trans ?_)
                  with_reducible rfl
                rotate_left
                · simp only [Act.put, List.setIfInBounds_toArray, List.set_cons_zero, List.set_cons_succ]
                  rfl
                refine last_ (i := 8) (N := (some 77)) #[true, true, true, true, true, true, true, true, true, false, false] rfl rfl (by kernel_rfl) (by decide) (fun K hK => ?_)
                refine call_ 17 #[.agg (Pi.rqc r.1 r.2.1 r.2.2.1 r.2.2.2.1 r.2.2.2.2.1 (.slice A4 m4 c4)).toArray, .agg (Pi.rqc r.1 r.2.1 r.2.2.1 r.2.2.2.1 r.2.2.2.2.1 (.slice A1 m4 c1)).toArray] (by rfl) rfl (by go_simp) ?_
                have hd : Below w5.heap.size w5 w5.drew := (Below.refl _ _).drew
                refine (same_.calls (kRq.K_below hd HK5.out) (kRq.K_below hd HKR.out)).mono ?_
                rintro e w6 ⟨rfl, hb6⟩
                have HB6 := Aside0.mk (below_then hd hd.size hb6)
                refine ⟨_, rfl, ?_⟩
                refine hK.out _ _ ?_
                clear hK K
                refine norm_ (a' := ?_) ?_ ?_
                rotate_left
                · show Act.put _ (some 77) _ = _
                  simp only [Act.put, List.setIfInBounds_toArray, List.set_cons_zero, List.set_cons_succ]
                  rfl
                refine pure_ (i := 9) (N := (some 78)) (v := ?_) (a' := ?_) #[true, true, true, true, true, true, true, true, true, true, false] rfl rfl (by kernel_rfl) (fun _ _ _ h => h) (Or.inl ⟨by rfl, ?_⟩) ?_ ?_
                rotate_left
                · intro w'
                  go_simp
                  with_reducible rfl
                rotate_left
                · simp only [Act.put, List.setIfInBounds_toArray, List.set_cons_zero, List.set_cons_succ]
                  rfl
                refine pure_ (i := 10) (N := (some 79)) (v := ?_) (a' := ?_) #[true, true, true, true, true, true, true, true, true, true, true] rfl rfl (by kernel_rfl) (fun _ _ _ h => h) (Or.inl ⟨by rfl, ?_⟩) ?_ ?_
                rotate_left
                · intro w'
                  go_simp
                  with_reducible rfl
                rotate_left
                · simp only [Act.put, List.setIfInBounds_toArray, List.set_cons_zero, List.set_cons_succ]
                  rfl
                refine done_ (by kernel_rfl) ?_
                refine NoPanic.normal ?_
                go_wp2_with fail
                go_roundw
                case rel => exact ⟨j + 1, by go_num, by omega, ⟨HP5.out.below HB6.out⟩, ⟨below_then HB5.out.1 HB5.out.1.size HB6.out, Nat.le_trans HB5.out.2 HB6.out.size⟩⟩
                case measure => simp [intOf]; omega
              · obtain ⟨p, hp⟩ : ∃ p, 16 - 1 - j = p := ⟨_, rfl⟩
                have hT := HT1.out
                rw [HQ.out.1, show Pi.plc true 16 j = p from hp] at hT
                rw [show Pi.wnt true 16 j = p from hp] at HRU
                have HL := len_.calls HP.out
                rw [hlen, show 16 - j = p + 1 by omega] at HL
                clear HT1 hlen
                go_wp2_with fail
                refine HL.mono ?_
                rintro e w3 ⟨rfl, rfl⟩
                go_wp2_with fail
                first | rw [show (15 : Int) - (j : Int) = (p : Int) from by omega] | rw [show (k : Int) - 1 - (j : Int) = (p : Int) from by omega]
                refine hT.mono ?_
                rintro e w4 ⟨cs4, rfl, hM, hp4, hg4⟩
                obtain ⟨v4, rfl, hR4⟩ := Pi.rq_Mc hM
                obtain ⟨A4, c4, rfl⟩ := Kd.R_slice hR4
                have hK4 := kRq.K_of_M hM
                have HBX4 : Aside0 (Below W.heap.size W w4 ∧ g ≤ w4.heap.size) := ⟨HB.out.1.grown hg4 HB.out.1.size (fun k hk => by cases hk; exact HGW.out), Nat.le_trans HB.out.2 hg4.size⟩
                have HP4 := Aside0.mk hp4
                obtain ⟨m4, HM4⟩ : ∃ m, Aside0 (r.2.2.2.2.2.length = m) := ⟨_, ⟨rfl⟩⟩
                rw [HM4.out] at hK4 ⊢
                have HK4 := Aside0.mk hK4
                have HSZ := Aside0.mk Pi.size33
                have HX4 := Aside0.mk (Wk.Blk.new w4 33 Pi.zrq)
                clear hM hR4 hK4 hp4 hg4 HP HB hT
                unfold Pi.rqc
                go_wp2_with (refine Wk.store_all rfl rfl 33 (.tmp 11) (.tmp 67) rfl w4.heap.size (Pi.rqc r.1 r.2.1 r.2.2.1 r.2.2.2.1 r.2.2.2.2.1 (.slice A4 m4 c4)) rfl rfl 33 Pi.zrq HX4.out HSZ.out rfl rfl ?_; intro w5 hX hO; have HX5 := Aside0.mk hX; have HO5 := Aside0.mk hO; clear hX hO)
                have HB45 := Aside0.mk (Wk.Only.below ((Below.refl _ _).alloc (Nat.le_refl _) _) HO5.out (Nat.le_refl _))
                have HB5 : Aside0 (Below W.heap.size W w5 ∧ g ≤ w5.heap.size) := ⟨below_then HBX4.out.1 HBX4.out.1.size HB45.out, Nat.le_trans HBX4.out.2 HB45.out.size⟩
                have HP5 := Aside0.mk (HP4.out.below HB45.out)
                have HK5 := Aside0.mk (kRq.K_below HB45.out HK4.out)
                clear HP4 HX4 HO5 HK4 HBX4 HB45
                obtain ⟨huw, hru⟩ := List.getElem?_eq_some_iff.1 HRU.out
                obtain ⟨ad, A1, c1, hA, hrun, hKr, hcell⟩ := Pi.row_get (Kd.C_below HC.out HB5.out.1) p huw rfl
                subst hA
                rw [hru, HM4.out] at hrun hKr
                have HRUN := Aside0.mk hrun
                have HKR := Aside0.mk hKr
                have hul : (p : Int) < k := by have := HN.out; omega
                clear hru hrun hKr hcell huw
                refine wp_region_noPanic ?_
                refine start_ (n := 11) (S := (fun w' => Below w5.heap.size w5 w')) (ds := [8]) #[false, false, false, false, false, false, false, false, false, false, false] (by kernel_rfl) rfl rfl (Below.refl _ _).drew (fun hHeld => ?_)
                refine pure_ (i := 0) (N := (some 69)) (v := ?_) (a' := ?_) #[true, false, false, false, false, false, false, false, false, false, false] rfl rfl (by kernel_rfl) (fun _ _ _ h => h) (Or.inl ⟨by rfl, ?_⟩) ?_ ?_
                rotate_left
                · intro w'
                  go_simp
                  with_reducible rfl
                rotate_left
                · simp only [Act.put, List.setIfInBounds_toArray, List.set_cons_zero, List.set_cons_succ]
                  rfl
                refine pure_ (i := 1) (N := (some 70)) (v := ?_) (a' := ?_) #[true, true, false, false, false, false, false, false, false, false, false] rfl rfl (by kernel_rfl) (fun _ _ _ h => h) (Or.inl ⟨by rfl, ?_⟩) ?_ ?_
                rotate_left
                · intro w'
                  go_simp
                  with_reducible rfl
                rotate_left
                · simp only [Act.put, List.setIfInBounds_toArray, List.set_cons_zero, List.set_cons_succ]
                  rfl
                refine pure_ (i := 2) (N := (some 71)) (v := ?_) (a' := ?_) #[true, true, true, false, false, false, false, false, false, false, false] rfl rfl (by kernel_rfl) (fun _ _ _ h => h) (Or.inl ⟨by rfl, ?_⟩) ?_ ?_
                rotate_left
                · intro w'
                  go_simp
                  with_reducible rfl
                rotate_left
                · simp only [Act.put, List.setIfInBounds_toArray, List.set_cons_zero, List.set_cons_succ]
                  rfl
                refine take_ (i := 3) (N := (some 72)) (v := ?_) (a' := ?_) #[true, true, true, true, false, false, false, false, false, false, false] rfl rfl (by kernel_rfl) (fun _ _ _ h => h) (Or.inl ⟨by rfl, ?_⟩) hHeld ?_ ?_
                rotate_left
                · intro w' hS'
                  (have hl := Wk.run_load_blk (P := Try.prog) 33 w4.heap.size 0 (Pi.rqc r.1 r.2.1 r.2.2.1 r.2.2.2.1 r.2.2.2.2.1 (.slice A4 m4 c4)) _ (HX5.out.below_ hS') rfl Try.underlying33 rfl HSZ.out; refine (Wk.exec_load 33 (.tmp 11) rfl _ _ rfl hl).trans ?_)
                  with_reducible rfl
                rotate_left
                · simp only [Act.put, List.setIfInBounds_toArray, List.set_cons_zero, List.set_cons_succ]
                  rfl
                refine pure_ (i := 4) (N := (some 73)) (v := ?_) (a' := ?_) #[true, true, true, true, true, false, false, false, false, false, false] rfl rfl (by kernel_rfl) (fun _ _ _ h => h) (Or.inl ⟨by rfl, ?_⟩) ?_ ?_
                rotate_left
                · intro w'
                  go_simp
                  with_reducible rfl
                rotate_left
                · simp only [Act.put, List.setIfInBounds_toArray, List.set_cons_zero, List.set_cons_succ]
                  rfl
                refine pure_ (i := 5) (N := (some 74)) (v := ?_) (a' := ?_) #[true, true, true, true, true, true, false, false, false, false, false] rfl rfl (by kernel_rfl) (fun _ _ _ h => h) (Or.inl ⟨by rfl, ?_⟩) ?_ ?_
                rotate_left
                · intro w'
                  go_simp
                  with_reducible rfl
                rotate_left
                · simp only [Act.put, List.setIfInBounds_toArray, List.set_cons_zero, List.set_cons_succ]
                  rfl
                refine pure_ (i := 6) (N := (some 75)) (v := ?_) (a' := ?_) #[true, true, true, true, true, true, true, false, false, false, false] rfl rfl (by kernel_rfl) (fun _ _ _ h => h) (Or.inl ⟨by rfl, ?_⟩) ?_ ?_
                rotate_left
                · intro w'
                  go_simp
                  with_reducible rfl
                rotate_left
                · simp only [Act.put, List.setIfInBounds_toArray, List.set_cons_zero, List.set_cons_succ]
                  rfl
                refine take_ (i := 7) (N := (some 76)) (v := ?_) (a' := ?_) #[true, true, true, true, true, true, true, true, false, false, false] rfl rfl (by kernel_rfl) (fun _ _ _ h => h) (Or.inl ⟨by rfl, ?_⟩) hHeld ?_ ?_
                rotate_left
                · intro w' hS'
                  (refine (Wk.exec_load 33 (.tmp 75) rfl _ _ rfl (HRUN.out w' hS')).trans ?_)
                  with_reducible rfl
                rotate_left
                · simp only [Act.put, List.setIfInBounds_toArray, List.set_cons_zero, List.set_cons_succ]
                  rfl
                refine last_ (i := 8) (N := (some 77)) #[true, true, true, true, true, true, true, true, true, false, false] rfl rfl (by kernel_rfl) (by decide) (fun K hK => ?_)
                refine call_ 17 #[.agg (Pi.rqc r.1 r.2.1 r.2.2.1 r.2.2.2.1 r.2.2.2.2.1 (.slice A4 m4 c4)).toArray, .agg (Pi.rqc r.1 r.2.1 r.2.2.1 r.2.2.2.1 r.2.2.2.2.1 (.slice A1 m4 c1)).toArray] (by rfl) rfl (by go_simp) ?_
                have hd : Below w5.heap.size w5 w5.drew := (Below.refl _ _).drew
                refine (same_.calls (kRq.K_below hd HK5.out) (kRq.K_below hd HKR.out)).mono ?_
                rintro e w6 ⟨rfl, hb6⟩
                have HB6 := Aside0.mk (below_then hd hd.size hb6)
                refine ⟨_, rfl, ?_⟩
                refine hK.out _ _ ?_
                clear hK K
                refine norm_ (a' := ?_) ?_ ?_
                rotate_left
                · show Act.put _ (some 77) _ = _
                  simp only [Act.put, List.setIfInBounds_toArray, List.set_cons_zero, List.set_cons_succ]
                  rfl
                refine pure_ (i := 9) (N := (some 78)) (v := ?_) (a' := ?_) #[true, true, true, true, true, true, true, true, true, true, false] rfl rfl (by kernel_rfl) (fun _ _ _ h => h) (Or.inl ⟨by rfl, ?_⟩) ?_ ?_
                rotate_left
                · intro w'
                  go_simp
                  with_reducible rfl
                rotate_left
                · simp only [Act.put, List.setIfInBounds_toArray, List.set_cons_zero, List.set_cons_succ]
                  rfl
                refine pure_ (i := 10) (N := (some 79)) (v := ?_) (a' := ?_) #[true, true, true, true, true, true, true, true, true, true, true] rfl rfl (by kernel_rfl) (fun _ _ _ h => h) (Or.inl ⟨by rfl, ?_⟩) ?_ ?_
                rotate_left
                · intro w'
                  go_simp
                  with_reducible rfl
                rotate_left
                · simp only [Act.put, List.setIfInBounds_toArray, List.set_cons_zero, List.set_cons_succ]
                  rfl
                refine done_ (by kernel_rfl) ?_
                refine NoPanic.normal ?_
                go_wp2_with fail
                go_roundw
                case rel => exact ⟨j + 1, by go_num, by omega, ⟨HP5.out.below HB6.out⟩, ⟨below_then HB5.out.1 HB5.out.1.size HB6.out, Nat.le_trans HB5.out.2 HB6.out.size⟩⟩
                case measure => simp [intOf]; omega
            · obtain rfl : 16 = j := by omega
              have hnil : Pi.rem x1 (x0.take 16) 16 = [] := List.eq_nil_of_length_eq_zero (by have := Pi.rem_len x1 (x0.take 16) 16; rw [HQ.out.1] at this; omega)
              rw [hnil] at HP
              clear hnil
              go_wp2_with fail
              refine (take_no HP.out 0 (.inr (by simp))).mono ?_
              rintro e w4 ⟨rfl, hb4⟩
              have HB4 := Aside0.mk (below_then HB.out.1 HB.out.1.size hb4)
              have HP4 := Aside0.mk (HP.out.below hb4)
              have HX4 := Aside0.mk (Wk.Blk.new w4 33 Pi.zrq)
              have HSZ := Aside0.mk Pi.size33
              clear hb4 HP HB
              unfold Pi.zrq Pi.rqc
              go_wp2_with (refine Wk.store_all rfl rfl 33 (.tmp 13) (.tmp 83) rfl w4.heap.size Pi.zrq rfl rfl 33 Pi.zrq HX4.out HSZ.out rfl rfl ?_; intro w5 hX hO; have HO5 := Aside0.mk hO; clear hX hO)
              have HB45 := Aside0.mk (Wk.Only.below ((Below.refl _ _).alloc (Nat.le_refl _) _) HO5.out (Nat.le_refl _))
              have HP5 := Aside0.mk (HP4.out.below HB45.out)
              have HB5 := Aside0.mk (below_then HB4.out HB4.out.size HB45.out)
              clear HO5 HX4 HP4 HB4 HB45
              refine (len_.calls HP5.out).mono ?_
              rintro e w6 ⟨rfl, rfl⟩
              go_wp2_with fail
              refine (full_.calls HP5.out).mono ?_
              rintro e w6 ⟨rfl, rfl⟩
              go_wp2_with fail
              go_ret
              exact ⟨rfl, HB5.out⟩
        · have hk16 : k ≤ 16 := by omega
          rw [Nat.min_eq_left hk16] at HP
          have HQ : Aside0 ((x0.take k).length = k ∧ k ≤ x0.length) := ⟨by rw [List.length_take, HN.out]; omega, by rw [HN.out]; omega⟩
          go_loopw [8] (fun i wr => ∃ j : Nat, i = .int .i64 j ∧ j ≤ k ∧ Aside0 (Pi.Pp wr g (fun _ => True) g (Pi.rem x1 (x0.take k) j)) ∧ Aside0 (Below W.heap.size W wr ∧ g ≤ wr.heap.size)) (fun i _ => k - (intOf i).toNat)
          case atStart => exact ⟨0, rfl, Nat.zero_le _, ⟨by rw [Pi.rem_zero]; exact HP.out⟩, HB⟩
          case round =>
            clear HP HB
            obtain ⟨j, rfl, hj, HP, HB⟩ := hrel
            by_cases hlt2 : j < k
            · have hlt2i : (j : Int) < (k : Int) := by omega
              obtain ⟨hp1, hp2, hpa, hpe⟩ := Pi.rem_at x1 (x0.take k) j (by rw [HQ.out.1]; exact hlt2)
              obtain ⟨r, HR⟩ : ∃ r, Aside0 ((x0.take k)[Pi.wnt x1 (x0.take k).length j] = r) := ⟨_, ⟨rfl⟩⟩
              have HT0 := take_yes HP.out _ hp1
              rw [hpa, HR.out, hpe] at HT0
              have HT1 := Aside0.mk HT0
              have hlen := Pi.rem_len x1 (x0.take k) j
              have hru : x0[Pi.wnt x1 (x0.take k).length j]? = some r := by
                rw [← HR.out, List.getElem_take, List.getElem?_eq_getElem]
              rw [HQ.out.1] at hru hlen
              have HRU := Aside0.mk hru
              clear HT0 hpa hpe hp1 hp2 hru HR
              cases x1
              · have hT := HT1.out
                rw [HQ.out.1, show Pi.plc false k j = 0 from rfl] at hT
                rw [show Pi.wnt false k j = j from rfl] at HRU
                clear HT1 hlen
                go_wp2_with fail
                refine hT.mono ?_
                rintro e w4 ⟨cs4, rfl, hM, hp4, hg4⟩
                obtain ⟨v4, rfl, hR4⟩ := Pi.rq_Mc hM
                obtain ⟨A4, c4, rfl⟩ := Kd.R_slice hR4
                have hK4 := kRq.K_of_M hM
                have HBX4 : Aside0 (Below W.heap.size W w4 ∧ g ≤ w4.heap.size) := ⟨HB.out.1.grown hg4 HB.out.1.size (fun k hk => by cases hk; exact HGW.out), Nat.le_trans HB.out.2 hg4.size⟩
                have HP4 := Aside0.mk hp4
                obtain ⟨m4, HM4⟩ : ∃ m, Aside0 (r.2.2.2.2.2.length = m) := ⟨_, ⟨rfl⟩⟩
                rw [HM4.out] at hK4 ⊢
                have HK4 := Aside0.mk hK4
                have HSZ := Aside0.mk Pi.size33
                have HX4 := Aside0.mk (Wk.Blk.new w4 33 Pi.zrq)
                clear hM hR4 hK4 hp4 hg4 HP HB hT
                unfold Pi.rqc
                go_wp2_with (refine Wk.store_all rfl rfl 33 (.tmp 11) (.tmp 67) rfl w4.heap.size (Pi.rqc r.1 r.2.1 r.2.2.1 r.2.2.2.1 r.2.2.2.2.1 (.slice A4 m4 c4)) rfl rfl 33 Pi.zrq HX4.out HSZ.out rfl rfl ?_; intro w5 hX hO; have HX5 := Aside0.mk hX; have HO5 := Aside0.mk hO; clear hX hO)
                have HB45 := Aside0.mk (Wk.Only.below ((Below.refl _ _).alloc (Nat.le_refl _) _) HO5.out (Nat.le_refl _))
                have HB5 : Aside0 (Below W.heap.size W w5 ∧ g ≤ w5.heap.size) := ⟨below_then HBX4.out.1 HBX4.out.1.size HB45.out, Nat.le_trans HBX4.out.2 HB45.out.size⟩
                have HP5 := Aside0.mk (HP4.out.below HB45.out)
                have HK5 := Aside0.mk (kRq.K_below HB45.out HK4.out)
                clear HP4 HX4 HO5 HK4 HBX4 HB45
                obtain ⟨huw, hru⟩ := List.getElem?_eq_some_iff.1 HRU.out
                obtain ⟨ad, A1, c1, hA, hrun, hKr, hcell⟩ := Pi.row_get (Kd.C_below HC.out HB5.out.1) j huw rfl
                subst hA
                rw [hru, HM4.out] at hrun hKr
                have HRUN := Aside0.mk hrun
                have HKR := Aside0.mk hKr
                have hul : (j : Int) < k := by have := HN.out; omega
                clear hru hrun hKr hcell huw
                refine wp_region_noPanic ?_
                refine start_ (n := 11) (S := (fun w' => Below w5.heap.size w5 w')) (ds := [8]) #[false, false, false, false, false, false, false, false, false, false, false] (by kernel_rfl) rfl rfl (Below.refl _ _).drew (fun hHeld => ?_)
                refine pure_ (i := 0) (N := (some 69)) (v := ?_) (a' := ?_) #[true, false, false, false, false, false, false, false, false, false, false] rfl rfl (by kernel_rfl) (fun _ _ _ h => h) (Or.inl ⟨by rfl, ?_⟩) ?_ ?_
                rotate_left
                · intro w'
                  go_simp
                  with_reducible rfl
                rotate_left
                · simp only [Act.put, List.setIfInBounds_toArray, List.set_cons_zero, List.set_cons_succ]
                  rfl
                refine pure_ (i := 1) (N := (some 70)) (v := ?_) (a' := ?_) #[true, true, false, false, false, false, false, false, false, false, false] rfl rfl (by kernel_rfl) (fun _ _ _ h => h) (Or.inl ⟨by rfl, ?_⟩) ?_ ?_
                rotate_left
                · intro w'
                  go_simp
                  with_reducible rfl
                rotate_left
                · simp only [Act.put, List.setIfInBounds_toArray, List.set_cons_zero, List.set_cons_succ]
                  rfl
                refine pure_ (i := 2) (N := (some 71)) (v := ?_) (a' := ?_) #[true, true, true, false, false, false, false, false, false, false, false] rfl rfl (by kernel_rfl) (fun _ _ _ h => h) (Or.inl ⟨by rfl, ?_⟩) ?_ ?_
                rotate_left
                · intro w'
                  go_simp
                  with_reducible rfl
                rotate_left
                · simp only [Act.put, List.setIfInBounds_toArray, List.set_cons_zero, List.set_cons_succ]
                  rfl
                refine take_ (i := 3) (N := (some 72)) (v := ?_) (a' := ?_) #[true, true, true, true, false, false, false, false, false, false, false] rfl rfl (by kernel_rfl) (fun _ _ _ h => h) (Or.inl ⟨by rfl, ?_⟩) hHeld ?_ ?_
                rotate_left
                · intro w' hS'
                  (have hl := Wk.run_load_blk (P := Try.prog) 33 w4.heap.size 0 (Pi.rqc r.1 r.2.1 r.2.2.1 r.2.2.2.1 r.2.2.2.2.1 (.slice A4 m4 c4)) _ (HX5.out.below_ hS') rfl Try.underlying33 rfl HSZ.out; refine (Wk.exec_load 33 (.tmp 11) rfl _ _ rfl hl).trans ?_)
                  with_reducible rfl
                rotate_left
                · simp only [Act.put, List.setIfInBounds_toArray, List.set_cons_zero, List.set_cons_succ]
                  rfl
                refine pure_ (i := 4) (N := (some 73)) (v := ?_) (a' := ?_) #[true, true, true, true, true, false, false, false, false, false, false] rfl rfl (by kernel_rfl) (fun _ _ _ h => h) (Or.inl ⟨by rfl, ?_⟩) ?_ ?_
                rotate_left
                · intro w'
                  go_simp
                  with_reducible rfl
                rotate_left
                · simp only [Act.put, List.setIfInBounds_toArray, List.set_cons_zero, List.set_cons_succ]
                  rfl
                refine pure_ (i := 5) (N := (some 74)) (v := ?_) (a' := ?_) #[true, true, true, true, true, true, false, false, false, false, false] rfl rfl (by kernel_rfl) (fun _ _ _ h => h) (Or.inl ⟨by rfl, ?_⟩) ?_ ?_
                rotate_left
                · intro w'
                  go_simp
                  with_reducible rfl
                rotate_left
                · simp only [Act.put, List.setIfInBounds_toArray, List.set_cons_zero, List.set_cons_succ]
                  rfl
                refine pure_ (i := 6) (N := (some 75)) (v := ?_) (a' := ?_) #[true, true, true, true, true, true, true, false, false, false, false] rfl rfl (by kernel_rfl) (fun _ _ _ h => h) (Or.inl ⟨by rfl, ?_⟩) ?_ ?_
                rotate_left
                · intro w'
                  go_simp
                  with_reducible rfl
                rotate_left
                · simp only [Act.put, List.setIfInBounds_toArray, List.set_cons_zero, List.set_cons_succ]
                  rfl
                refine take_ (i := 7) (N := (some 76)) (v := ?_) (a' := ?_) #[true, true, true, true, true, true, true, true, false, false, false] rfl rfl (by kernel_rfl) (fun _ _ _ h => h) (Or.inl ⟨by rfl, ?_⟩) hHeld ?_ ?_
                rotate_left
                · intro w' hS'
                  (refine (Wk.exec_load 33 (.tmp 75) rfl _ _ rfl (HRUN.out w' hS')).trans ?_)
                  with_reducible rfl
                rotate_left
                · simp only [Act.put, List.setIfInBounds_toArray, List.set_cons_zero, List.set_cons_succ]
                  rfl
                refine last_ (i := 8) (N := (some 77)) #[true, true, true, true, true, true, true, true, true, false, false] rfl rfl (by kernel_rfl) (by decide) (fun K hK => ?_)
                refine call_ 17 #[.agg (Pi.rqc r.1 r.2.1 r.2.2.1 r.2.2.2.1 r.2.2.2.2.1 (.slice A4 m4 c4)).toArray, .agg (Pi.rqc r.1 r.2.1 r.2.2.1 r.2.2.2.1 r.2.2.2.2.1 (.slice A1 m4 c1)).toArray] (by rfl) rfl (by go_simp) ?_
                have hd : Below w5.heap.size w5 w5.drew := (Below.refl _ _).drew
                refine (same_.calls (kRq.K_below hd HK5.out) (kRq.K_below hd HKR.out)).mono ?_
                rintro e w6 ⟨rfl, hb6⟩
                have HB6 := Aside0.mk (below_then hd hd.size hb6)
                refine ⟨_, rfl, ?_⟩
                refine hK.out _ _ ?_
                clear hK K
                refine norm_ (a' := ?_) ?_ ?_
                rotate_left
                · show Act.put _ (some 77) _ = _
                  simp only [Act.put, List.setIfInBounds_toArray, List.set_cons_zero, List.set_cons_succ]
                  rfl
                refine pure_ (i := 9) (N := (some 78)) (v := ?_) (a' := ?_) #[true, true, true, true, true, true, true, true, true, true, false] rfl rfl (by kernel_rfl) (fun _ _ _ h => h) (Or.inl ⟨by rfl, ?_⟩) ?_ ?_
                rotate_left
                · intro w'
                  go_simp
                  with_reducible rfl
                rotate_left
                · simp only [Act.put, List.setIfInBounds_toArray, List.set_cons_zero, List.set_cons_succ]
                  rfl
                refine pure_ (i := 10) (N := (some 79)) (v := ?_) (a' := ?_) #[true, true, true, true, true, true, true, true, true, true, true] rfl rfl (by kernel_rfl) (fun _ _ _ h => h) (Or.inl ⟨by rfl, ?_⟩) ?_ ?_
                rotate_left
                · intro w'
                  go_simp
                  with_reducible rfl
                rotate_left
                · simp only [Act.put, List.setIfInBounds_toArray, List.set_cons_zero, List.set_cons_succ]
                  rfl
                refine done_ (by kernel_rfl) ?_
                refine NoPanic.normal ?_
                go_wp2_with fail
                go_roundw
                case rel => exact ⟨j + 1, by go_num, by omega, ⟨HP5.out.below HB6.out⟩, ⟨below_then HB5.out.1 HB5.out.1.size HB6.out, Nat.le_trans HB5.out.2 HB6.out.size⟩⟩
                case measure => simp [intOf]; omega
              · obtain ⟨p, hp⟩ : ∃ p, k - 1 - j = p := ⟨_, rfl⟩
                have hT := HT1.out
                rw [HQ.out.1, show Pi.plc true k j = p from hp] at hT
                rw [show Pi.wnt true k j = p from hp] at HRU
                have HL := len_.calls HP.out
                rw [hlen, show k - j = p + 1 by omega] at HL
                clear HT1 hlen
                go_wp2_with fail
                refine HL.mono ?_
                rintro e w3 ⟨rfl, rfl⟩
                go_wp2_with fail
                first | rw [show (15 : Int) - (j : Int) = (p : Int) from by omega] | rw [show (k : Int) - 1 - (j : Int) = (p : Int) from by omega]
                refine hT.mono ?_
                rintro e w4 ⟨cs4, rfl, hM, hp4, hg4⟩
                obtain ⟨v4, rfl, hR4⟩ := Pi.rq_Mc hM
                obtain ⟨A4, c4, rfl⟩ := Kd.R_slice hR4
                have hK4 := kRq.K_of_M hM
                have HBX4 : Aside0 (Below W.heap.size W w4 ∧ g ≤ w4.heap.size) := ⟨HB.out.1.grown hg4 HB.out.1.size (fun k hk => by cases hk; exact HGW.out), Nat.le_trans HB.out.2 hg4.size⟩
                have HP4 := Aside0.mk hp4
                obtain ⟨m4, HM4⟩ : ∃ m, Aside0 (r.2.2.2.2.2.length = m) := ⟨_, ⟨rfl⟩⟩
                rw [HM4.out] at hK4 ⊢
                have HK4 := Aside0.mk hK4
                have HSZ := Aside0.mk Pi.size33
                have HX4 := Aside0.mk (Wk.Blk.new w4 33 Pi.zrq)
                clear hM hR4 hK4 hp4 hg4 HP HB hT
                unfold Pi.rqc
                go_wp2_with (refine Wk.store_all rfl rfl 33 (.tmp 11) (.tmp 67) rfl w4.heap.size (Pi.rqc r.1 r.2.1 r.2.2.1 r.2.2.2.1 r.2.2.2.2.1 (.slice A4 m4 c4)) rfl rfl 33 Pi.zrq HX4.out HSZ.out rfl rfl ?_; intro w5 hX hO; have HX5 := Aside0.mk hX; have HO5 := Aside0.mk hO; clear hX hO)
                have HB45 := Aside0.mk (Wk.Only.below ((Below.refl _ _).alloc (Nat.le_refl _) _) HO5.out (Nat.le_refl _))
                have HB5 : Aside0 (Below W.heap.size W w5 ∧ g ≤ w5.heap.size) := ⟨below_then HBX4.out.1 HBX4.out.1.size HB45.out, Nat.le_trans HBX4.out.2 HB45.out.size⟩
                have HP5 := Aside0.mk (HP4.out.below HB45.out)
                have HK5 := Aside0.mk (kRq.K_below HB45.out HK4.out)
                clear HP4 HX4 HO5 HK4 HBX4 HB45
                obtain ⟨huw, hru⟩ := List.getElem?_eq_some_iff.1 HRU.out
                obtain ⟨ad, A1, c1, hA, hrun, hKr, hcell⟩ := Pi.row_get (Kd.C_below HC.out HB5.out.1) p huw rfl
                subst hA
                rw [hru, HM4.out] at hrun hKr
                have HRUN := Aside0.mk hrun
                have HKR := Aside0.mk hKr
                have hul : (p : Int) < k := by have := HN.out; omega
                clear hru hrun hKr hcell huw
                refine wp_region_noPanic ?_
                refine start_ (n := 11) (S := (fun w' => Below w5.heap.size w5 w')) (ds := [8]) #[false, false, false, false, false, false, false, false, false, false, false] (by kernel_rfl) rfl rfl (Below.refl _ _).drew (fun hHeld => ?_)
                refine pure_ (i := 0) (N := (some 69)) (v := ?_) (a' := ?_) #[true, false, false, false, false, false, false, false, false, false, false] rfl rfl (by kernel_rfl) (fun _ _ _ h => h) (Or.inl ⟨by rfl, ?_⟩) ?_ ?_
                rotate_left
                · intro w'
                  go_simp
                  with_reducible rfl
                rotate_left
                · simp only [Act.put, List.setIfInBounds_toArray, List.set_cons_zero, List.set_cons_succ]
                  rfl
                refine pure_ (i := 1) (N := (some 70)) (v := ?_) (a' := ?_) #[true, true, false, false, false, false, false, false, false, false, false] rfl rfl (by kernel_rfl) (fun _ _ _ h => h) (Or.inl ⟨by rfl, ?_⟩) ?_ ?_
                rotate_left
                · intro w'
                  go_simp
                  with_reducible rfl
                rotate_left
                · simp only [Act.put, List.setIfInBounds_toArray, List.set_cons_zero, List.set_cons_succ]
                  rfl
                refine pure_ (i := 2) (N := (some 71)) (v := ?_) (a' := ?_) #[true, true, true, false, false, false, false, false, false, false, false] rfl rfl (by kernel_rfl) (fun _ _ _ h => h) (Or.inl ⟨by rfl, ?_⟩) ?_ ?_
                rotate_left
                · intro w'
                  go_simp
                  with_reducible rfl
                rotate_left
                · simp only [Act.put, List.setIfInBounds_toArray, List.set_cons_zero, List.set_cons_succ]
                  rfl
                refine take_ (i := 3) (N := (some 72)) (v := ?_) (a' := ?_) #[true, true, true, true, false, false, false, false, false, false, false] rfl rfl (by kernel_rfl) (fun _ _ _ h => h) (Or.inl ⟨by rfl, ?_⟩) hHeld ?_ ?_
                rotate_left
                · intro w' hS'
                  (have hl := Wk.run_load_blk (P := Try.prog) 33 w4.heap.size 0 (Pi.rqc r.1 r.2.1 r.2.2.1 r.2.2.2.1 r.2.2.2.2.1 (.slice A4 m4 c4)) _ (HX5.out.below_ hS') rfl Try.underlying33 rfl HSZ.out; refine (Wk.exec_load 33 (.tmp 11) rfl _ _ rfl hl).trans ?_)
                  with_reducible rfl
                rotate_left
                · simp only [Act.put, List.setIfInBounds_toArray, List.set_cons_zero, List.set_cons_succ]
                  rfl
                refine pure_ (i := 4) (N := (some 73)) (v := ?_) (a' := ?_) #[true, true, true, true, true, false, false, false, false, false, false] rfl rfl (by kernel_rfl) (fun _ _ _ h => h) (Or.inl ⟨by rfl, ?_⟩) ?_ ?_
                rotate_left
                · intro w'
                  go_simp
                  with_reducible rfl
                rotate_left
                · simp only [Act.put, List.setIfInBounds_toArray, List.set_cons_zero, List.set_cons_succ]
                  rfl
                refine pure_ (i := 5) (N := (some 74)) (v := ?_) (a' := ?_) #[true, true, true, true, true, true, false, false, false, false, false] rfl rfl (by kernel_rfl) (fun _ _ _ h => h) (Or.inl ⟨by rfl, ?_⟩) ?_ ?_
                rotate_left
                · intro w'
                  go_simp
                  with_reducible rfl
                rotate_left
                · simp only [Act.put, List.setIfInBounds_toArray, List.set_cons_zero, List.set_cons_succ]
                  rfl
                refine pure_ (i := 6) (N := (some 75)) (v := ?_) (a' := ?_) #[true, true, true, true, true, true, true, false, false, false, false] rfl rfl (by kernel_rfl) (fun _ _ _ h => h) (Or.inl ⟨by rfl, ?_⟩) ?_ ?_
                rotate_left
                · intro w'
                  go_simp
                  with_reducible rfl
                rotate_left
                · simp only [Act.put, List.setIfInBounds_toArray, List.set_cons_zero, List.set_cons_succ]
                  rfl
                refine take_ (i := 7) (N := (some 76)) (v := ?_) (a' := ?_) #[true, true, true, true, true, true, true, true, false, false, false] rfl rfl (by kernel_rfl) (fun _ _ _ h => h) (Or.inl ⟨by rfl, ?_⟩) hHeld ?_ ?_
                rotate_left
                · intro w' hS'
                  (refine (Wk.exec_load 33 (.tmp 75) rfl _ _ rfl (HRUN.out w' hS')).trans ?_)
                  with_reducible rfl
                rotate_left
                · simp only [Act.put, List.setIfInBounds_toArray, List.set_cons_zero, List.set_cons_succ]
                  rfl
                refine last_ (i := 8) (N := (some 77)) #[true, true, true, true, true, true, true, true, true, false, false] rfl rfl (by kernel_rfl) (by decide) (fun K hK => ?_)
                refine call_ 17 #[.agg (Pi.rqc r.1 r.2.1 r.2.2.1 r.2.2.2.1 r.2.2.2.2.1 (.slice A4 m4 c4)).toArray, .agg (Pi.rqc r.1 r.2.1 r.2.2.1 r.2.2.2.1 r.2.2.2.2.1 (.slice A1 m4 c1)).toArray] (by rfl) rfl (by go_simp) ?_
                have hd : Below w5.heap.size w5 w5.drew := (Below.refl _ _).drew
                refine (same_.calls (kRq.K_below hd HK5.out) (kRq.K_below hd HKR.out)).mono ?_
                rintro e w6 ⟨rfl, hb6⟩
                have HB6 := Aside0.mk (below_then hd hd.size hb6)
                refine ⟨_, rfl, ?_⟩
                refine hK.out _ _ ?_
                clear hK K
                refine norm_ (a' := ?_) ?_ ?_
                rotate_left
                · show Act.put _ (some 77) _ = _
                  simp only [Act.put, List.setIfInBounds_toArray, List.set_cons_zero, List.set_cons_succ]
                  rfl
                refine pure_ (i := 9) (N := (some 78)) (v := ?_) (a' := ?_) #[true, true, true, true, true, true, true, true, true, true, false] rfl rfl (by kernel_rfl) (fun _ _ _ h => h) (Or.inl ⟨by rfl, ?_⟩) ?_ ?_
                rotate_left
                · intro w'
                  go_simp
                  with_reducible rfl
                rotate_left
                · simp only [Act.put, List.setIfInBounds_toArray, List.set_cons_zero, List.set_cons_succ]
                  rfl
                refine pure_ (i := 10) (N := (some 79)) (v := ?_) (a' := ?_) #[true, true, true, true, true, true, true, true, true, true, true] rfl rfl (by kernel_rfl) (fun _ _ _ h => h) (Or.inl ⟨by rfl, ?_⟩) ?_ ?_
                rotate_left
                · intro w'
                  go_simp
                  with_reducible rfl
                rotate_left
                · simp only [Act.put, List.setIfInBounds_toArray, List.set_cons_zero, List.set_cons_succ]
                  rfl
                refine done_ (by kernel_rfl) ?_
                refine NoPanic.normal ?_
                go_wp2_with fail
                go_roundw
                case rel => exact ⟨j + 1, by go_num, by omega, ⟨HP5.out.below HB6.out⟩, ⟨below_then HB5.out.1 HB5.out.1.size HB6.out, Nat.le_trans HB5.out.2 HB6.out.size⟩⟩
                case measure => simp [intOf]; omega
            · obtain rfl : k = j := by omega
              have hnil : Pi.rem x1 (x0.take k) k = [] := List.eq_nil_of_length_eq_zero (by have := Pi.rem_len x1 (x0.take k) k; rw [HQ.out.1] at this; omega)
              rw [hnil] at HP
              clear hnil
              go_wp2_with fail
              refine (take_no HP.out 0 (.inr (by simp))).mono ?_
              rintro e w4 ⟨rfl, hb4⟩
              have HB4 := Aside0.mk (below_then HB.out.1 HB.out.1.size hb4)
              have HP4 := Aside0.mk (HP.out.below hb4)
              have HX4 := Aside0.mk (Wk.Blk.new w4 33 Pi.zrq)
              have HSZ := Aside0.mk Pi.size33
              clear hb4 HP HB
              unfold Pi.zrq Pi.rqc
              go_wp2_with (refine Wk.store_all rfl rfl 33 (.tmp 13) (.tmp 83) rfl w4.heap.size Pi.zrq rfl rfl 33 Pi.zrq HX4.out HSZ.out rfl rfl ?_; intro w5 hX hO; have HO5 := Aside0.mk hO; clear hX hO)
              have HB45 := Aside0.mk (Wk.Only.below ((Below.refl _ _).alloc (Nat.le_refl _) _) HO5.out (Nat.le_refl _))
              have HP5 := Aside0.mk (HP4.out.below HB45.out)
              have HB5 := Aside0.mk (below_then HB4.out HB4.out.size HB45.out)
              clear HO5 HX4 HP4 HB4 HB45
              refine (len_.calls HP5.out).mono ?_
              rintro e w6 ⟨rfl, rfl⟩
              go_wp2_with fail
              refine (full_.calls HP5.out).mono ?_
              rintro e w6 ⟨rfl, rfl⟩
              go_wp2_with fail
              go_ret
              exact ⟨rfl, HB5.out⟩
  · have h40i : ¬ (n : Int) ≤ 40 := by omega
    go_enter Try.func5, Try.ntmps5
    go_wp2_with fail
    refine (known_.calls W).mono ?_
    rintro e w1 ⟨rfl, hb⟩
    go_wp2_with fail
    go_ret
    exact ⟨rfl, hb⟩
#print axioms pipeFills_.calls
end Go.Proofs.Ytikogcdakdndnaa
