/- The walk of the law PipeOnce. -/
import Derived.Test.YtikogcdakdndnaaPipeF
import Derived.Test.YtikogcdakdndnaaWNEv
import Derived.Test.YtikogcdakdndnaaWFoot
set_option linter.unusedVariables false
set_option linter.unusedSimpArgs false
namespace Go.Proofs.Ytikogcdakdndnaa
open Go.RowKit Go.Proofs.YtikogcdakdndnaaW.PrintWords Go.Proofs.YtikogcdakdndnaaW.PrintLast Go.Proofs.YtikogcdakdndnaaW.PrintMore
namespace Pi
theorem heap_rq : Kd.Heap kRq := Kd.heap_pair (Kd.heap_int _) (Kd.heap_pair (Kd.heap_int _) (Kd.heap_pair (Kd.heap_int _) (Kd.heap_pair (Kd.heap_int _) (Kd.heap_pair (Kd.heap_int _) (Kd.heap_slice _ (Kd.heap_int _))))))
theorem FK_came {w : World} {r : Rq} {cs : List Value} (h : kRq.K w r cs) : Kd.FK kRq w (fun k => k < w.heap.size) r cs := fun W' hW => heap_rq.K (fun k hlt => hW k hlt hlt) h
/-- a call of a row: its load, its cells -/
theorem op_get {w : World} {A : Option Addr} {n : Nat} {xs : List Oq} (h : kOp.C w A n xs) (i : Nat) (hi : i < xs.length) (hn : xs.length = n) : ∃ ad A1 c1, A = some ad ∧ w.cell? (ad.add (i * 9)) = some (.bool xs[i].1) ∧ w.cell? ⟨(ad.add (i * 9)).block, (ad.add (i * 9)).off + 1, none⟩ = some (.bool xs[i].2.1) ∧ w.cell? ⟨(ad.add (i * 9)).block, (ad.add (i * 9)).off + 2, none⟩ = some (.int .i64 xs[i].2.2.1) ∧ (∀ w', Below w.heap.size w w' → (Instr.loadAt 33 (.pointer (some ⟨(ad.add (i * 9)).block, (ad.add (i * 9)).off + 3, none⟩))).run Try.prog w' = .ok (.agg (rqc xs[i].2.2.2.1 xs[i].2.2.2.2.1 xs[i].2.2.2.2.2.1 xs[i].2.2.2.2.2.2.1 xs[i].2.2.2.2.2.2.2.1 (.slice A1 xs[i].2.2.2.2.2.2.2.2.length c1)).toArray) w') ∧ kRq.K w xs[i].2.2.2 (rqc xs[i].2.2.2.1 xs[i].2.2.2.2.1 xs[i].2.2.2.2.2.1 xs[i].2.2.2.2.2.2.1 xs[i].2.2.2.2.2.2.2.1 (.slice A1 xs[i].2.2.2.2.2.2.2.2.length c1)) := by
  obtain ⟨ad, c, e, _, hK, hc0⟩ := Kd.C_get h ((false, false, 0, 0, 0, 0, 0, 0, []) : Oq) (i : Int) (by omega) (by omega)
  rw [List.getD_eq_getElem?_getD, Int.toNat_natCast, List.getElem?_eq_getElem hi] at hK
  change kOp.K w xs[i] c at hK
  have hc : ∀ j u, c[j]? = some u → w.cell? (ad.add (i * 9 + j)) = some u := fun j u hu => by
    have := hc0 j u hu
    rwa [Int.toNat_natCast] at this
  obtain ⟨zs, rfl, hK2⟩ := op_cells hK
  have hK3 := hK2
  obtain ⟨A5, c5, rfl, l5, g5⟩ := rq_cells hK2
  refine ⟨ad, A5, c5, e, hc 0 _ rfl, by rw [← add_field _ _ 1 (by omega)]; exact hc 1 _ rfl, by rw [← add_field _ _ 2 (by omega)]; exact hc 2 _ rfl, ?_, hK3⟩
  intro w' hb
  refine Wk.run_load (P := Try.prog) 33 (ad.add (i * 9)).block ((ad.add (i * 9)).off + 3) (rqc xs[i].2.2.2.1 xs[i].2.2.2.2.1 xs[i].2.2.2.2.2.1 xs[i].2.2.2.2.2.2.1 xs[i].2.2.2.2.2.2.2.1 (.slice A5 xs[i].2.2.2.2.2.2.2.2.length c5)) _ (fun j v hv => ?_) Try.underlying33 rfl size33
  have h1 := hc (3 + j) v (by rw [Nat.add_comm]; exact hv)
  rw [add_field _ _ (3 + j) (by omega)] at h1
  have h2 := (hb.cell (World.block_lt_of_cell? w _ h1)).trans h1
  rwa [← Nat.add_assoc] at h2
theorem F_after_nil {W W1 : World} {ok : Nat → Prop} {A : Option Addr} {n : Nat} {xs : List Rq} (h : Kd.F kRq W ok A n xs) (hg : W.grownBy W1 (Value.slice none 0 0).ownBlock) : Kd.F kRq W1 ok A n xs := Kd.F_grown h hg (fun k _ he => by simp [Value.ownBlock] at he)
theorem okp_one {g sz : Nat} : ∀ k, (k ≠ g ∧ k < sz) → k ≠ g ∧ some k ≠ (Value.slice none 0 0).ownBlock := fun k hk => ⟨hk.1, by simp [Value.ownBlock]⟩
theorem okp_two {g sz : Nat} {v : Value} (ha : v.ownBlock = (Value.slice none 0 0).ownBlock ∨ ∃ b, v.ownBlock = some b ∧ sz ≤ b) : ∀ k, (k ≠ g ∧ k < sz) → k ≠ g ∧ some k ≠ v.ownBlock := fun k hk => ⟨hk.1, fun he => by
  rcases ha with h | ⟨b, h, hb⟩
  · rw [h] at he
    simp [Value.ownBlock] at he
  · rw [h] at he
    injection he with he
    have := hk.2
    omega⟩
theorem grown_two {w6 w7 w9 : World} {v : Value} (h7 : w6.grownBy w7 (Value.slice none 0 0).ownBlock) (h9 : w7.grownBy w9 v.ownBlock) (ha : v.ownBlock = (Value.slice none 0 0).ownBlock ∨ ∃ b, v.ownBlock = some b ∧ w6.heap.size ≤ b) : w6.grownBy w9 none :=
  ⟨h9.os.trans h7.os, h9.tape.trans h7.tape, h9.output.trans h7.output, Nat.le_trans h7.size h9.size, fun k hk _ => (h9.block k (Nat.lt_of_lt_of_le hk h7.size) (fun he => by
    rcases ha with h | ⟨b, h, hb⟩
    · rw [h] at he
      simp [Value.ownBlock] at he
    · rw [h] at he
      injection he with he
      omega)).trans (h7.block k hk (by simp [Value.ownBlock]))⟩
theorem fresh_ne {g sz : Nat} (h : g < sz) : ∀ k, sz ≤ k → k ≠ g := fun k hk he => by omega
/-- a pipe stays where a row of requests has grown -/
theorem Pp.grown_row {W W' : World} {base : Nat} {ok : Nat → Prop} {g : Nat} {rs : List Rq} {v : Value} (h : Pp W base ok g rs) (hg : W.grownBy W' v.ownBlock) (hv : ∀ k, v.ownBlock = some k → ∃ cells, W.heap[k]? = some (.cells cells 33 (0, 0))) : Pp W' base ok g rs := by
  obtain ⟨cs, h1, h2, h3, h4, h5', h6⟩ := h.out
  have hne : some g ≠ v.ownBlock := fun he => by
    obtain ⟨cells, hc⟩ := hv g he.symm
    rw [h1.out] at hc
    injection hc with hc
    injection hc with _ hc
    exact absurd hc (by decide)
  refine ⟨cs, h1.grown hg hne, h2, h3, h4, h5', h6.imp_ (fun p c hp => ?_)⟩
  refine kRq.M_mono (fun _ hk => hk.1) (kRq.M_move (fun k hk => ?_) (kRq.M_bound hp))
  obtain ⟨_, _, hlt, q, hq, cells, hc⟩ := hk
  refine hg.block k hlt (fun he => ?_)
  obtain ⟨cells', hc'⟩ := hv k he.symm
  rw [hc] at hc'
  injection hc' with hc'
  injection hc' with _ hc'
  have hE : kRq.E = [5] := by decide
  rw [hE, hc'] at hq
  exact absurd hq (by decide)
theorem slice_to (A : Option Addr) (n c : Nat) (hi' : Int) (h : Nat) (e : hi' = h) (h1 : h ≤ n) (hc : n ≤ c) (W : World) : (Instr.slice 22 (.slice A n c) none (some (.int .i64 hi')) none).run Try.prog W = .ok (.slice A h c) W := by
  subst e
  obtain ⟨i, hi1, hsz⟩ := Option.map_eq_some_iff.1 size33
  have := cut_to (P := Try.prog) 22 33 .i64 Try.underlying22 hi1 A n c (h : Int) (by omega) (by omega) hc W
  simpa using this
theorem slice_from (A : Option Addr) (n c : Nat) (xs : List Rq) (hn : xs.length = n) (lo' : Int) (h : Nat) (e : lo' = h) (h1 : h ≤ n) (hc : n ≤ c) : ∃ (A' : Option Addr) (n' c' : Nat), (∀ W : World, (Instr.slice 22 (.slice A n c) (some (.int .i64 lo')) none none).run Try.prog W = .ok (.slice A' n' c') W) ∧ n' ≤ n ∧ ∀ (W : World) (ok : Nat → Prop), Kd.F kRq W ok A n xs → Kd.F kRq W ok A' n' (xs.drop h) := by
  subst e
  obtain ⟨i, hi1, hsz⟩ := Option.map_eq_some_iff.1 size33
  refine ⟨if c = h then A else A.map (·.add (h * 6)), n - h, c - h, fun W => ?_, Nat.sub_le _ _, fun W ok hF => ?_⟩
  · have := cut_from (P := Try.prog) 22 33 .i64 Try.underlying22 hi1 6 hsz A n c (h : Int) (by omega) (by omega) W
    simpa using this
  · have := Kd.F_cut (m := h) (c := c) (by rw [hn]; exact hF) (by rw [hn]; exact h1) (by rw [hn]; exact hc)
    rw [List.length_drop, hn] at this
    exact this
end Pi
set_option maxHeartbeats 4000000 in
set_option maxRecDepth 100000 in
theorem pipeOnce_.calls (x0 : List Pi.Oq) (v0 : Value) (W : World) (hK0 : (Kd.slice 41 Pi.kOp).K W x0 [v0]) (hw0 : x0.length ≤ maxLen ∧ ∀ x ∈ x0, Pi.OpWf x) :
    Calls Try.prog 4 #[v0] W fun e w' => e = .returned (.bool true) ∧ Below W.heap.size W w' := by
  obtain ⟨A, c, he0, hlc, hC⟩ := hK0
  obtain rfl : v0 = .slice A x0.length c := by simpa using he0
  have HC := Aside0.mk hC
  have HW := Aside0.mk hw0.2
  have HV := heavy_.calls hC hlc
  obtain ⟨n, HN⟩ : ∃ n, Aside0 (x0.length = n) := ⟨_, ⟨rfl⟩⟩
  rw [HN.out] at HV ⊢
  have HHV := Aside0.mk HV
  clear hw0 hC hlc he0 HV
  go_enter Try.func4, Try.ntmps4
  go_wp2_with fail
  refine HHV.out.mono ?_
  rintro e w0 ⟨b, rfl, hf, hb0⟩
  have HB0 := Aside0.mk hb0
  clear hb0 HHV
  cases b
  · obtain ⟨h150, h100⟩ := hf rfl
    have H100 := Aside0.mk h100
    have h150i : (n : Int) ≤ 150 := by omega
    clear hf h100 h150
    go_wp2_with fail
    refine (known_.calls w0).mono ?_
    rintro e w1 ⟨rfl, hb⟩
    have HB1 := Aside0.mk (below_then HB0.out HB0.out.size hb)
    clear hb HB0
    go_wp2_with fail
    refine (new_.calls (fun _ => True) w1).mono ?_
    rintro e w2 ⟨rfl, hp, hb⟩
    obtain ⟨g, HG⟩ : ∃ g, Aside0 (w1.heap.size = g) := ⟨_, ⟨rfl⟩⟩
    have HGW : Aside0 (W.heap.size ≤ g) := ⟨by rw [← HG.out]; exact HB1.out.size⟩
    have HB2 : Aside0 (Below W.heap.size W w2 ∧ g ≤ w2.heap.size) := ⟨below_then HB1.out HB1.out.size hb, by rw [← HG.out]; exact hb.size⟩
    rw [HG.out] at hp ⊢
    have HP2 := Aside0.mk hp
    clear hb hp HB1 HG
    go_wp2_with fail
    go_loopw [4, 5] (fun v i wr => ∃ (k : Nat) (ins : List Rq), i = .int .i64 k ∧ k ≤ n ∧ Aside0 (Pi.Pp wr g (fun _ => True) g ins) ∧ Aside0 (Below W.heap.size W wr ∧ g ≤ wr.heap.size) ∧ Aside0 (Kd.N kRq 33 wr W.heap.size (fun k => k ≠ g) v ins) ∧ Aside0 (∀ r ∈ ins, r.2.2.2.2.2.length ≤ 100)) (fun _ i _ => n - (intOf i).toNat)
    case atStart => exact ⟨0, [], rfl, Nat.zero_le _, HP2, HB2, ⟨Kd.N_nil _ _ _ _ _⟩, ⟨by simp⟩⟩
    case round =>
      obtain ⟨k, ins, rfl, hk, HP, HB, HI, HD⟩ := hrel
      clear HP2 HB2
      by_cases hlt : k < n
      · have hltI : (k : Int) < n := by omega
        have hki : k < x0.length := by rw [HN.out]; exact hlt
        obtain ⟨ad, A1, c1, hA, hc0, hc1, hc2, hrun, hKr⟩ := Pi.op_get HC.out k hki rfl
        subst hA
        have HDK := Aside0.mk (H100.out _ (List.getElem_mem hki))
        have HWK := Aside0.mk (HW.out _ (List.getElem_mem hki)).1
        obtain ⟨add, clr, q, r, HR⟩ : ∃ add clr q r, Aside0 (x0[k] = (add, clr, q, r)) := ⟨_, _, _, _, ⟨rfl⟩⟩
        rw [HR.out] at hc0 hc1 hc2 hrun hKr HDK HWK
        replace hc0 : wr.cell? (ad.add (k * 9)) = some (.bool add) := (HB.out.1.cell (World.block_lt_of_cell? W _ hc0)).trans hc0
        replace hc2 : wr.cell? ⟨(ad.add (k * 9)).block, (ad.add (k * 9)).off + 2, none⟩ = some (.int .i64 q) := (HB.out.1.cell (World.block_lt_of_cell? W _ hc2)).trans hc2
        change kRq.K W r (Pi.rqc r.1 r.2.1 r.2.2.1 r.2.2.2.1 r.2.2.2.2.1 (.slice A1 r.2.2.2.2.2.length c1)) at hKr
        obtain ⟨md, HMD⟩ : ∃ m, Aside0 (r.2.2.2.2.2.length = m) := ⟨_, ⟨rfl⟩⟩
        have HRUN : Aside0 (∀ w', Below W.heap.size W w' → (Instr.loadAt 33 (.pointer (some ⟨(ad.add (k * 9)).block, (ad.add (k * 9)).off + 3, none⟩))).run Try.prog w' = .ok (.agg (Pi.rqc r.1 r.2.1 r.2.2.1 r.2.2.2.1 r.2.2.2.2.1 (.slice A1 md c1)).toArray) w') := ⟨by rw [← HMD.out]; exact hrun⟩
        rw [HMD.out] at hKr
        have HKW := Aside0.mk hKr
        have HKR := Aside0.mk (kRq.K_below HB.out.1 hKr)
        obtain ⟨A2, c2, rfl⟩ := Kd.N_slice HI.out
        obtain ⟨m, HM⟩ : ∃ m, Aside0 (ins.length = m) := ⟨_, ⟨rfl⟩⟩
        have hm16 : m ≤ 16 := by rw [← HM.out]; exact HP.out.le
        rw [HM.out] at HI ⊢
        have HSZ := Aside0.mk Pi.size33
        clear hc1 hrun hKr
        cases add
        · rcases Nat.eq_zero_or_pos m with hm0 | hm0
          · subst hm0
            have HPE := HP
            have HME := HM
            have HBE := HB
            have HIE := HI
            have HDE := HD
            go_wp2_with fail
            refine (len_.calls HPE.out).mono ?_
            rintro e wE ⟨rfl, hwe⟩
            subst hwe
            rw [HME.out]
            go_wp2_with fail
            refine (len_.calls HPE.out).mono ?_
            rintro e wE ⟨rfl, hwe⟩
            subst hwe
            rw [HME.out]
            go_wp2_with fail
            go_roundw
            case rel => exact ⟨k + 1, _, by go_num, by omega, HPE, HBE, HIE, HDE⟩
            case measure => simp [intOf]; omega
          · have hm0i : (0 : Int) < m := by omega
            have hm16i : (m : Int) ≤ 16 := by omega
            go_wp2_with fail
            all_goals rename_i hmx
            · obtain ⟨p, hp⟩ : ∃ p : Nat, (0 : Int) = p := ⟨0, rfl⟩
              rw [hp]
              have hpm : p < m := by omega
              clear hp
              have hpI : (p : Int) < m := by omega
              have hpi : p < ins.length := by rw [HM.out]; exact hpm
              obtain ⟨r2, HR2⟩ : ∃ r2, Aside0 (ins[p] = r2) := ⟨_, ⟨rfl⟩⟩
              have hT := take_yes HP.out p hpi
              rw [HR2.out] at hT
              refine hT.mono ?_
              rintro e w4 ⟨cs4, rfl, hM, hp4, hg4⟩
              obtain ⟨v4, rfl, hR4⟩ := Pi.rq_Mc hM
              obtain ⟨A4, c4, rfl⟩ := Kd.R_slice hR4
              have hK4 := kRq.K_of_M hM
              have HBX4 : Aside0 (Below W.heap.size W w4 ∧ g ≤ w4.heap.size) := ⟨HB.out.1.grown hg4 HB.out.1.size (fun k hk => by cases hk; exact HGW.out), Nat.le_trans HB.out.2 hg4.size⟩
              have HP4 := Aside0.mk hp4
              have HI4 := Aside0.mk (Kd.N_grown HI.out hg4 (fun k hk he => hk (by injection he)))
              obtain ⟨m4, HM4⟩ : ∃ m, Aside0 (r2.2.2.2.2.2.length = m) := ⟨_, ⟨rfl⟩⟩
              rw [HM4.out] at hK4 ⊢
              have HK4 := Aside0.mk hK4
              have HX4 := Aside0.mk (Wk.Blk.new w4 33 Pi.zrq)
              clear hM hR4 hK4 hp4 hg4 HP HB HI hT hc2
              unfold Pi.rqc
              go_wp2_with (refine Wk.store_all rfl rfl 33 (.tmp 8) (.tmp 68) rfl w4.heap.size (Pi.rqc r2.1 r2.2.1 r2.2.2.1 r2.2.2.2.1 r2.2.2.2.2.1 (.slice A4 m4 c4)) rfl rfl 33 Pi.zrq HX4.out HSZ.out rfl rfl ?_; intro w5 hX hO; have HX5 := Aside0.mk hX; have HO5 := Aside0.mk hO; clear hX hO)
              have HB45 := Aside0.mk (Wk.Only.below ((Below.refl _ _).alloc (Nat.le_refl _) _) HO5.out (Nat.le_refl _))
              have HB5 : Aside0 (Below W.heap.size W w5 ∧ g ≤ w5.heap.size) := ⟨below_then HBX4.out.1 HBX4.out.1.size HB45.out, Nat.le_trans HBX4.out.2 HB45.out.size⟩
              have HP5 := Aside0.mk (HP4.out.below HB45.out)
              have HI5 := Aside0.mk (Kd.N_below HI4.out HB45.out)
              have HK5 := Aside0.mk (kRq.K_below HB45.out HK4.out)
              clear HP4 HX4 HO5 HK4 HBX4 HB45 HI4
              obtain ⟨hnm, hmc, hC5⟩ := Kd.N_reads' HI5.out
              obtain ⟨ad2, A5, c5, hA2, hrun2, hKr2, hcell2⟩ := Pi.row_get hC5 p hpi rfl
              subst hA2
              rw [HR2.out, HM4.out] at hrun2 hKr2
              have HRUN2 := Aside0.mk hrun2
              have HKR2 := Aside0.mk hKr2
              have HMC := Aside0.mk hmc
              clear hrun2 hKr2 hcell2 hC5 hnm hmc
              refine wp_region_noPanic ?_
              refine start_ (n := 11) (S := (fun w' => Below w5.heap.size w5 w')) (ds := [8]) #[false, false, false, false, false, false, false, false, false, false, false] (by kernel_rfl) rfl rfl (Below.refl _ _).drew (fun hHeld => ?_)
              refine pure_ (i := 0) (N := (some 70)) (v := ?_) (a' := ?_) #[true, false, false, false, false, false, false, false, false, false, false] rfl rfl (by kernel_rfl) (fun _ _ _ h => h) (Or.inl ⟨by rfl, ?_⟩) ?_ ?_
              rotate_left
              · intro w'
                go_simp
                with_reducible rfl
              rotate_left
              · simp only [Act.put, List.setIfInBounds_toArray, List.set_cons_zero, List.set_cons_succ]
                rfl
              refine pure_ (i := 1) (N := (some 71)) (v := ?_) (a' := ?_) #[true, true, false, false, false, false, false, false, false, false, false] rfl rfl (by kernel_rfl) (fun _ _ _ h => h) (Or.inl ⟨by rfl, ?_⟩) ?_ ?_
              rotate_left
              · intro w'
                go_simp
                with_reducible rfl
              rotate_left
              · simp only [Act.put, List.setIfInBounds_toArray, List.set_cons_zero, List.set_cons_succ]
                rfl
              refine pure_ (i := 2) (N := (some 72)) (v := ?_) (a' := ?_) #[true, true, true, false, false, false, false, false, false, false, false] rfl rfl (by kernel_rfl) (fun _ _ _ h => h) (Or.inl ⟨by rfl, ?_⟩) ?_ ?_
              rotate_left
              · intro w'
                go_simp
                with_reducible rfl
              rotate_left
              · simp only [Act.put, List.setIfInBounds_toArray, List.set_cons_zero, List.set_cons_succ]
                rfl
              refine take_ (i := 3) (N := (some 73)) (v := ?_) (a' := ?_) #[true, true, true, true, false, false, false, false, false, false, false] rfl rfl (by kernel_rfl) (fun _ _ _ h => h) (Or.inl ⟨by rfl, ?_⟩) hHeld ?_ ?_
              rotate_left
              · intro w' hS'
                (have hl := Wk.run_load_blk (P := Try.prog) 33 w4.heap.size 0 (Pi.rqc r2.1 r2.2.1 r2.2.2.1 r2.2.2.2.1 r2.2.2.2.2.1 (.slice A4 m4 c4)) _ (HX5.out.below_ hS') rfl Try.underlying33 rfl HSZ.out; refine (Wk.exec_load 33 (.tmp 8) rfl _ _ rfl hl).trans ?_)
                with_reducible rfl
              rotate_left
              · simp only [Act.put, List.setIfInBounds_toArray, List.set_cons_zero, List.set_cons_succ]
                rfl
              refine pure_ (i := 4) (N := (some 74)) (v := ?_) (a' := ?_) #[true, true, true, true, true, false, false, false, false, false, false] rfl rfl (by kernel_rfl) (fun _ _ _ h => h) (Or.inl ⟨by rfl, ?_⟩) ?_ ?_
              rotate_left
              · intro w'
                go_simp
                with_reducible rfl
              rotate_left
              · simp only [Act.put, List.setIfInBounds_toArray, List.set_cons_zero, List.set_cons_succ]
                rfl
              refine pure_ (i := 5) (N := (some 75)) (v := ?_) (a' := ?_) #[true, true, true, true, true, true, false, false, false, false, false] rfl rfl (by kernel_rfl) (fun _ _ _ h => h) (Or.inl ⟨by rfl, ?_⟩) ?_ ?_
              rotate_left
              · intro w'
                go_simp
                with_reducible rfl
              rotate_left
              · simp only [Act.put, List.setIfInBounds_toArray, List.set_cons_zero, List.set_cons_succ]
                rfl
              refine pure_ (i := 6) (N := (some 76)) (v := ?_) (a' := ?_) #[true, true, true, true, true, true, true, false, false, false, false] rfl rfl (by kernel_rfl) (fun _ _ _ h => h) (Or.inl ⟨by rfl, ?_⟩) ?_ ?_
              rotate_left
              · intro w'
                go_simp
                with_reducible rfl
              rotate_left
              · simp only [Act.put, List.setIfInBounds_toArray, List.set_cons_zero, List.set_cons_succ]
                rfl
              refine take_ (i := 7) (N := (some 77)) (v := ?_) (a' := ?_) #[true, true, true, true, true, true, true, true, false, false, false] rfl rfl (by kernel_rfl) (fun _ _ _ h => h) (Or.inl ⟨by rfl, ?_⟩) hHeld ?_ ?_
              rotate_left
              · intro w' hS'
                (refine (Wk.exec_load 33 (.tmp 76) rfl _ _ rfl (HRUN2.out w' hS')).trans ?_)
                with_reducible rfl
              rotate_left
              · simp only [Act.put, List.setIfInBounds_toArray, List.set_cons_zero, List.set_cons_succ]
                rfl
              refine last_ (i := 8) (N := (some 78)) #[true, true, true, true, true, true, true, true, true, false, false] rfl rfl (by kernel_rfl) (by decide) (fun K hK => ?_)
              refine call_ 17 #[.agg (Pi.rqc r2.1 r2.2.1 r2.2.2.1 r2.2.2.2.1 r2.2.2.2.2.1 (.slice A4 m4 c4)).toArray, .agg (Pi.rqc r2.1 r2.2.1 r2.2.2.1 r2.2.2.2.1 r2.2.2.2.2.1 (.slice A5 m4 c5)).toArray] (by rfl) rfl (by go_simp) ?_
              have hd : Below w5.heap.size w5 w5.drew := (Below.refl _ _).drew
              refine (same_.calls (kRq.K_below hd HK5.out) (kRq.K_below hd HKR2.out)).mono ?_
              rintro e w6 ⟨rfl, hb6⟩
              have HB56 := Aside0.mk (below_then hd hd.size hb6)
              refine ⟨_, rfl, ?_⟩
              refine hK.out _ _ ?_
              clear hK K
              refine norm_ (a' := ?_) ?_ ?_
              rotate_left
              · show Act.put _ (some 78) _ = _
                simp only [Act.put, List.setIfInBounds_toArray, List.set_cons_zero, List.set_cons_succ]
                rfl
              refine pure_ (i := 9) (N := (some 79)) (v := ?_) (a' := ?_) #[true, true, true, true, true, true, true, true, true, true, false] rfl rfl (by kernel_rfl) (fun _ _ _ h => h) (Or.inl ⟨by rfl, ?_⟩) ?_ ?_
              rotate_left
              · intro w'
                go_simp
                with_reducible rfl
              rotate_left
              · simp only [Act.put, List.setIfInBounds_toArray, List.set_cons_zero, List.set_cons_succ]
                rfl
              refine pure_ (i := 10) (N := (some 80)) (v := ?_) (a' := ?_) #[true, true, true, true, true, true, true, true, true, true, true] rfl rfl (by kernel_rfl) (fun _ _ _ h => h) (Or.inl ⟨by rfl, ?_⟩) ?_ ?_
              rotate_left
              · intro w'
                go_simp
                with_reducible rfl
              rotate_left
              · simp only [Act.put, List.setIfInBounds_toArray, List.set_cons_zero, List.set_cons_succ]
                rfl
              refine done_ (by kernel_rfl) ?_
              refine NoPanic.normal ?_
              have HP6 := Aside0.mk (HP5.out.below HB56.out)
              have HI6 := Aside0.mk (Kd.N_below HI5.out HB56.out)
              have HB6 : Aside0 (Below W.heap.size W w6 ∧ g ≤ w6.heap.size) := ⟨below_then HB5.out.1 HB5.out.1.size HB56.out, Nat.le_trans HB5.out.2 HB56.out.size⟩
              have HGL6 := Aside0.mk HP6.out.lt
              clear HP5 HI5 HB5 HB56 HKR2 HRUN2 HK5 HX5
              have hs1 := Pi.slice_to (some ad2) m c2 (p : Int) p rfl (Nat.le_of_lt hpm) HMC.out
              obtain ⟨A7, n7, c7, hs2, hn7, hF7⟩ := Pi.slice_from (some ad2) m c2 ins HM.out ((p : Int) + 1) (p + 1) (by simp) hpm HMC.out
              have HF7 := Aside0.mk hF7
              have HFI := Aside0.mk (Kd.F_bound (Kd.N_F HI6.out))
              have HFT : Aside0 (Kd.F kRq w6 (fun k => k ≠ g ∧ k < w6.heap.size) (some ad2) p (ins.take p)) := ⟨by
                have := Kd.F_take (m := p) (by rw [HM.out]; exact HFI.out) (Nat.le_of_lt hpi)
                rwa [List.length_take, Nat.min_eq_left (Nat.le_of_lt hpi)] at this⟩
              have HLN : Aside0 (((([] : List Rq).length + p) * 56 ≤ 140737488355328) ∧ ((ins.take p).length + n7) * 56 ≤ 140737488355328) := ⟨by simp; omega, by rw [List.length_take]; omega⟩
              clear hF7 hn7
              have HNL : Aside0 ((ins.take p).length = p) := ⟨by rw [List.length_take]; omega⟩
              go_wp2_with (first
                | (at_builtin; refine Kd.N_append_rows kRq (w0 := W) (W := w6) W.heap.size rfl (.tmp 81) (.tmp 84) 22 33 (.agg Pi.zrq.toArray) 56 rfl Try.underlying22 Pi.info33 rfl (by decide) (by omega) (.slice none 0 0) [] (ins.take p) (some ad2) p c2 (fun k => k ≠ g) (fun k => k ≠ g ∧ k < w6.heap.size) rfl rfl (Kd.N_nil _ _ _ _ _) HFT.out Pi.okp_one (Pi.fresh_ne HGL6.out) HB6.out.1 HB6.out.1.size HLN.out.1 ?_; intro v7 w7 hn7 hb7 hg7 ha7; rw [List.nil_append] at hn7; obtain ⟨A8, c8, rfl⟩ := Kd.N_slice hn7; rw [HNL.out] at hn7 ha7 ⊢; have HN7 := Aside0.mk hn7; have HB7 := Aside0.mk hb7; have HG7 := Aside0.mk hg7; have HA7 := Aside0.mk ha7; have HFR := Aside0.mk (HF7.out w7 _ (Pi.F_after_nil HFI.out hg7)); clear hn7 hb7 hg7 ha7)
                | (at_builtin; refine Kd.N_append_rows kRq (w0 := W) (W := w7) W.heap.size rfl (.tmp 86) (.tmp 90) 22 33 (.agg Pi.zrq.toArray) 56 rfl Try.underlying22 Pi.info33 rfl (by decide) (by omega) (.slice A8 p c8) (ins.take p) (ins.drop (p + 1)) A7 n7 c7 (fun k => k ≠ g) (fun k => k ≠ g ∧ k < w6.heap.size) rfl rfl HN7.out HFR.out (Pi.okp_two HA7.out) (Pi.fresh_ne (Nat.lt_of_lt_of_le HGL6.out HG7.out.size)) HB7.out HB7.out.size HLN.out.2 ?_; intro v9 w9 hn9 hb9 hg9 ha9; obtain ⟨A9, c9, rfl⟩ := Kd.N_slice hn9; obtain ⟨m9, HM9⟩ : ∃ m9, Aside0 ((ins.take p ++ ins.drop (p + 1)).length = m9) := ⟨_, ⟨rfl⟩⟩; rw [HM9.out] at hn9 ⊢; have hm9 : (m9 : Int) ≤ 16 := (by have h1 := HM9.out; have h2 := HM.out; rw [List.length_append, List.length_take, List.length_drop] at h1; omega); have HIE := Aside0.mk hn9; have HG9 := Aside0.mk hg9; have HB9 := Aside0.mk hb9; clear hn9 hb9 hg9 ha9))
              have HERA : Aside0 (ins.take p ++ ins.drop (p + 1) = ins.eraseIdx p) := ⟨(List.eraseIdx_eq_take_drop_succ ins p).symm⟩
              rw [HERA.out] at HIE HM9
              have HME := HM9
              have HGE : Aside0 (w6.grownBy w9 none) := ⟨Pi.grown_two HG7.out HG9.out HA7.out⟩
              have HPE := Aside0.mk (HP6.out.grown HGE.out (by simp) (fun k _ => by simp))
              have HBE : Aside0 (Below W.heap.size W w9 ∧ g ≤ w9.heap.size) := ⟨HB9.out, Nat.le_trans HB6.out.2 HGE.out.size⟩
              have HDE : Aside0 (∀ r ∈ ins.eraseIdx p, r.2.2.2.2.2.length ≤ 100) := ⟨fun r hr => HD.out r (List.mem_of_mem_eraseIdx hr)⟩
              clear HP6 HI6 HB6 hs1 hs2 HF7 HFI HFT HFR HLN HNL HN7 HB7 HG7 HA7 HG9 HB9 HMC
              go_wp2_with fail
              refine (len_.calls HPE.out).mono ?_
              rintro e wE ⟨rfl, hwe⟩
              subst hwe
              rw [HME.out]
              go_wp2_with fail
              refine (len_.calls HPE.out).mono ?_
              rintro e wE ⟨rfl, hwe⟩
              subst hwe
              rw [HME.out]
              go_wp2_with fail
              go_roundw
              case rel => exact ⟨k + 1, _, by go_num, by omega, HPE, HBE, HIE, HDE⟩
              case measure => simp [intOf]; omega
            · obtain ⟨p, hp⟩ : ∃ p : Nat, q % (m : Int) = p := ⟨(q % m).toNat, (Int.toNat_of_nonneg (Int.emod_nonneg _ (by omega))).symm⟩
              have hpm : p < m := by have := Int.emod_lt_of_pos q hm0i; omega
              rw [hp]
              clear hp
              have hpI : (p : Int) < m := by omega
              have hpi : p < ins.length := by rw [HM.out]; exact hpm
              obtain ⟨r2, HR2⟩ : ∃ r2, Aside0 (ins[p] = r2) := ⟨_, ⟨rfl⟩⟩
              have hT := take_yes HP.out p hpi
              rw [HR2.out] at hT
              refine hT.mono ?_
              rintro e w4 ⟨cs4, rfl, hM, hp4, hg4⟩
              obtain ⟨v4, rfl, hR4⟩ := Pi.rq_Mc hM
              obtain ⟨A4, c4, rfl⟩ := Kd.R_slice hR4
              have hK4 := kRq.K_of_M hM
              have HBX4 : Aside0 (Below W.heap.size W w4 ∧ g ≤ w4.heap.size) := ⟨HB.out.1.grown hg4 HB.out.1.size (fun k hk => by cases hk; exact HGW.out), Nat.le_trans HB.out.2 hg4.size⟩
              have HP4 := Aside0.mk hp4
              have HI4 := Aside0.mk (Kd.N_grown HI.out hg4 (fun k hk he => hk (by injection he)))
              obtain ⟨m4, HM4⟩ : ∃ m, Aside0 (r2.2.2.2.2.2.length = m) := ⟨_, ⟨rfl⟩⟩
              rw [HM4.out] at hK4 ⊢
              have HK4 := Aside0.mk hK4
              have HX4 := Aside0.mk (Wk.Blk.new w4 33 Pi.zrq)
              clear hM hR4 hK4 hp4 hg4 HP HB HI hT hc2
              unfold Pi.rqc
              go_wp2_with (refine Wk.store_all rfl rfl 33 (.tmp 8) (.tmp 68) rfl w4.heap.size (Pi.rqc r2.1 r2.2.1 r2.2.2.1 r2.2.2.2.1 r2.2.2.2.2.1 (.slice A4 m4 c4)) rfl rfl 33 Pi.zrq HX4.out HSZ.out rfl rfl ?_; intro w5 hX hO; have HX5 := Aside0.mk hX; have HO5 := Aside0.mk hO; clear hX hO)
              have HB45 := Aside0.mk (Wk.Only.below ((Below.refl _ _).alloc (Nat.le_refl _) _) HO5.out (Nat.le_refl _))
              have HB5 : Aside0 (Below W.heap.size W w5 ∧ g ≤ w5.heap.size) := ⟨below_then HBX4.out.1 HBX4.out.1.size HB45.out, Nat.le_trans HBX4.out.2 HB45.out.size⟩
              have HP5 := Aside0.mk (HP4.out.below HB45.out)
              have HI5 := Aside0.mk (Kd.N_below HI4.out HB45.out)
              have HK5 := Aside0.mk (kRq.K_below HB45.out HK4.out)
              clear HP4 HX4 HO5 HK4 HBX4 HB45 HI4
              obtain ⟨hnm, hmc, hC5⟩ := Kd.N_reads' HI5.out
              obtain ⟨ad2, A5, c5, hA2, hrun2, hKr2, hcell2⟩ := Pi.row_get hC5 p hpi rfl
              subst hA2
              rw [HR2.out, HM4.out] at hrun2 hKr2
              have HRUN2 := Aside0.mk hrun2
              have HKR2 := Aside0.mk hKr2
              have HMC := Aside0.mk hmc
              clear hrun2 hKr2 hcell2 hC5 hnm hmc
              refine wp_region_noPanic ?_
              refine start_ (n := 11) (S := (fun w' => Below w5.heap.size w5 w')) (ds := [8]) #[false, false, false, false, false, false, false, false, false, false, false] (by kernel_rfl) rfl rfl (Below.refl _ _).drew (fun hHeld => ?_)
              refine pure_ (i := 0) (N := (some 70)) (v := ?_) (a' := ?_) #[true, false, false, false, false, false, false, false, false, false, false] rfl rfl (by kernel_rfl) (fun _ _ _ h => h) (Or.inl ⟨by rfl, ?_⟩) ?_ ?_
              rotate_left
              · intro w'
                go_simp
                with_reducible rfl
              rotate_left
              · simp only [Act.put, List.setIfInBounds_toArray, List.set_cons_zero, List.set_cons_succ]
                rfl
              refine pure_ (i := 1) (N := (some 71)) (v := ?_) (a' := ?_) #[true, true, false, false, false, false, false, false, false, false, false] rfl rfl (by kernel_rfl) (fun _ _ _ h => h) (Or.inl ⟨by rfl, ?_⟩) ?_ ?_
              rotate_left
              · intro w'
                go_simp
                with_reducible rfl
              rotate_left
              · simp only [Act.put, List.setIfInBounds_toArray, List.set_cons_zero, List.set_cons_succ]
                rfl
              refine pure_ (i := 2) (N := (some 72)) (v := ?_) (a' := ?_) #[true, true, true, false, false, false, false, false, false, false, false] rfl rfl (by kernel_rfl) (fun _ _ _ h => h) (Or.inl ⟨by rfl, ?_⟩) ?_ ?_
              rotate_left
              · intro w'
                go_simp
                with_reducible rfl
              rotate_left
              · simp only [Act.put, List.setIfInBounds_toArray, List.set_cons_zero, List.set_cons_succ]
                rfl
              refine take_ (i := 3) (N := (some 73)) (v := ?_) (a' := ?_) #[true, true, true, true, false, false, false, false, false, false, false] rfl rfl (by kernel_rfl) (fun _ _ _ h => h) (Or.inl ⟨by rfl, ?_⟩) hHeld ?_ ?_
              rotate_left
              · intro w' hS'
                (have hl := Wk.run_load_blk (P := Try.prog) 33 w4.heap.size 0 (Pi.rqc r2.1 r2.2.1 r2.2.2.1 r2.2.2.2.1 r2.2.2.2.2.1 (.slice A4 m4 c4)) _ (HX5.out.below_ hS') rfl Try.underlying33 rfl HSZ.out; refine (Wk.exec_load 33 (.tmp 8) rfl _ _ rfl hl).trans ?_)
                with_reducible rfl
              rotate_left
              · simp only [Act.put, List.setIfInBounds_toArray, List.set_cons_zero, List.set_cons_succ]
                rfl
              refine pure_ (i := 4) (N := (some 74)) (v := ?_) (a' := ?_) #[true, true, true, true, true, false, false, false, false, false, false] rfl rfl (by kernel_rfl) (fun _ _ _ h => h) (Or.inl ⟨by rfl, ?_⟩) ?_ ?_
              rotate_left
              · intro w'
                go_simp
                with_reducible rfl
              rotate_left
              · simp only [Act.put, List.setIfInBounds_toArray, List.set_cons_zero, List.set_cons_succ]
                rfl
              refine pure_ (i := 5) (N := (some 75)) (v := ?_) (a' := ?_) #[true, true, true, true, true, true, false, false, false, false, false] rfl rfl (by kernel_rfl) (fun _ _ _ h => h) (Or.inl ⟨by rfl, ?_⟩) ?_ ?_
              rotate_left
              · intro w'
                go_simp
                with_reducible rfl
              rotate_left
              · simp only [Act.put, List.setIfInBounds_toArray, List.set_cons_zero, List.set_cons_succ]
                rfl
              refine pure_ (i := 6) (N := (some 76)) (v := ?_) (a' := ?_) #[true, true, true, true, true, true, true, false, false, false, false] rfl rfl (by kernel_rfl) (fun _ _ _ h => h) (Or.inl ⟨by rfl, ?_⟩) ?_ ?_
              rotate_left
              · intro w'
                go_simp
                with_reducible rfl
              rotate_left
              · simp only [Act.put, List.setIfInBounds_toArray, List.set_cons_zero, List.set_cons_succ]
                rfl
              refine take_ (i := 7) (N := (some 77)) (v := ?_) (a' := ?_) #[true, true, true, true, true, true, true, true, false, false, false] rfl rfl (by kernel_rfl) (fun _ _ _ h => h) (Or.inl ⟨by rfl, ?_⟩) hHeld ?_ ?_
              rotate_left
              · intro w' hS'
                (refine (Wk.exec_load 33 (.tmp 76) rfl _ _ rfl (HRUN2.out w' hS')).trans ?_)
                with_reducible rfl
              rotate_left
              · simp only [Act.put, List.setIfInBounds_toArray, List.set_cons_zero, List.set_cons_succ]
                rfl
              refine last_ (i := 8) (N := (some 78)) #[true, true, true, true, true, true, true, true, true, false, false] rfl rfl (by kernel_rfl) (by decide) (fun K hK => ?_)
              refine call_ 17 #[.agg (Pi.rqc r2.1 r2.2.1 r2.2.2.1 r2.2.2.2.1 r2.2.2.2.2.1 (.slice A4 m4 c4)).toArray, .agg (Pi.rqc r2.1 r2.2.1 r2.2.2.1 r2.2.2.2.1 r2.2.2.2.2.1 (.slice A5 m4 c5)).toArray] (by rfl) rfl (by go_simp) ?_
              have hd : Below w5.heap.size w5 w5.drew := (Below.refl _ _).drew
              refine (same_.calls (kRq.K_below hd HK5.out) (kRq.K_below hd HKR2.out)).mono ?_
              rintro e w6 ⟨rfl, hb6⟩
              have HB56 := Aside0.mk (below_then hd hd.size hb6)
              refine ⟨_, rfl, ?_⟩
              refine hK.out _ _ ?_
              clear hK K
              refine norm_ (a' := ?_) ?_ ?_
              rotate_left
              · show Act.put _ (some 78) _ = _
                simp only [Act.put, List.setIfInBounds_toArray, List.set_cons_zero, List.set_cons_succ]
                rfl
              refine pure_ (i := 9) (N := (some 79)) (v := ?_) (a' := ?_) #[true, true, true, true, true, true, true, true, true, true, false] rfl rfl (by kernel_rfl) (fun _ _ _ h => h) (Or.inl ⟨by rfl, ?_⟩) ?_ ?_
              rotate_left
              · intro w'
                go_simp
                with_reducible rfl
              rotate_left
              · simp only [Act.put, List.setIfInBounds_toArray, List.set_cons_zero, List.set_cons_succ]
                rfl
              refine pure_ (i := 10) (N := (some 80)) (v := ?_) (a' := ?_) #[true, true, true, true, true, true, true, true, true, true, true] rfl rfl (by kernel_rfl) (fun _ _ _ h => h) (Or.inl ⟨by rfl, ?_⟩) ?_ ?_
              rotate_left
              · intro w'
                go_simp
                with_reducible rfl
              rotate_left
              · simp only [Act.put, List.setIfInBounds_toArray, List.set_cons_zero, List.set_cons_succ]
                rfl
              refine done_ (by kernel_rfl) ?_
              refine NoPanic.normal ?_
              have HP6 := Aside0.mk (HP5.out.below HB56.out)
              have HI6 := Aside0.mk (Kd.N_below HI5.out HB56.out)
              have HB6 : Aside0 (Below W.heap.size W w6 ∧ g ≤ w6.heap.size) := ⟨below_then HB5.out.1 HB5.out.1.size HB56.out, Nat.le_trans HB5.out.2 HB56.out.size⟩
              have HGL6 := Aside0.mk HP6.out.lt
              clear HP5 HI5 HB5 HB56 HKR2 HRUN2 HK5 HX5
              have hs1 := Pi.slice_to (some ad2) m c2 (p : Int) p rfl (Nat.le_of_lt hpm) HMC.out
              obtain ⟨A7, n7, c7, hs2, hn7, hF7⟩ := Pi.slice_from (some ad2) m c2 ins HM.out ((p : Int) + 1) (p + 1) (by simp) hpm HMC.out
              have HF7 := Aside0.mk hF7
              have HFI := Aside0.mk (Kd.F_bound (Kd.N_F HI6.out))
              have HFT : Aside0 (Kd.F kRq w6 (fun k => k ≠ g ∧ k < w6.heap.size) (some ad2) p (ins.take p)) := ⟨by
                have := Kd.F_take (m := p) (by rw [HM.out]; exact HFI.out) (Nat.le_of_lt hpi)
                rwa [List.length_take, Nat.min_eq_left (Nat.le_of_lt hpi)] at this⟩
              have HLN : Aside0 (((([] : List Rq).length + p) * 56 ≤ 140737488355328) ∧ ((ins.take p).length + n7) * 56 ≤ 140737488355328) := ⟨by simp; omega, by rw [List.length_take]; omega⟩
              clear hF7 hn7
              have HNL : Aside0 ((ins.take p).length = p) := ⟨by rw [List.length_take]; omega⟩
              go_wp2_with (first
                | (at_builtin; refine Kd.N_append_rows kRq (w0 := W) (W := w6) W.heap.size rfl (.tmp 81) (.tmp 84) 22 33 (.agg Pi.zrq.toArray) 56 rfl Try.underlying22 Pi.info33 rfl (by decide) (by omega) (.slice none 0 0) [] (ins.take p) (some ad2) p c2 (fun k => k ≠ g) (fun k => k ≠ g ∧ k < w6.heap.size) rfl rfl (Kd.N_nil _ _ _ _ _) HFT.out Pi.okp_one (Pi.fresh_ne HGL6.out) HB6.out.1 HB6.out.1.size HLN.out.1 ?_; intro v7 w7 hn7 hb7 hg7 ha7; rw [List.nil_append] at hn7; obtain ⟨A8, c8, rfl⟩ := Kd.N_slice hn7; rw [HNL.out] at hn7 ha7 ⊢; have HN7 := Aside0.mk hn7; have HB7 := Aside0.mk hb7; have HG7 := Aside0.mk hg7; have HA7 := Aside0.mk ha7; have HFR := Aside0.mk (HF7.out w7 _ (Pi.F_after_nil HFI.out hg7)); clear hn7 hb7 hg7 ha7)
                | (at_builtin; refine Kd.N_append_rows kRq (w0 := W) (W := w7) W.heap.size rfl (.tmp 86) (.tmp 90) 22 33 (.agg Pi.zrq.toArray) 56 rfl Try.underlying22 Pi.info33 rfl (by decide) (by omega) (.slice A8 p c8) (ins.take p) (ins.drop (p + 1)) A7 n7 c7 (fun k => k ≠ g) (fun k => k ≠ g ∧ k < w6.heap.size) rfl rfl HN7.out HFR.out (Pi.okp_two HA7.out) (Pi.fresh_ne (Nat.lt_of_lt_of_le HGL6.out HG7.out.size)) HB7.out HB7.out.size HLN.out.2 ?_; intro v9 w9 hn9 hb9 hg9 ha9; obtain ⟨A9, c9, rfl⟩ := Kd.N_slice hn9; obtain ⟨m9, HM9⟩ : ∃ m9, Aside0 ((ins.take p ++ ins.drop (p + 1)).length = m9) := ⟨_, ⟨rfl⟩⟩; rw [HM9.out] at hn9 ⊢; have hm9 : (m9 : Int) ≤ 16 := (by have h1 := HM9.out; have h2 := HM.out; rw [List.length_append, List.length_take, List.length_drop] at h1; omega); have HIE := Aside0.mk hn9; have HG9 := Aside0.mk hg9; have HB9 := Aside0.mk hb9; clear hn9 hb9 hg9 ha9))
              have HERA : Aside0 (ins.take p ++ ins.drop (p + 1) = ins.eraseIdx p) := ⟨(List.eraseIdx_eq_take_drop_succ ins p).symm⟩
              rw [HERA.out] at HIE HM9
              have HME := HM9
              have HGE : Aside0 (w6.grownBy w9 none) := ⟨Pi.grown_two HG7.out HG9.out HA7.out⟩
              have HPE := Aside0.mk (HP6.out.grown HGE.out (by simp) (fun k _ => by simp))
              have HBE : Aside0 (Below W.heap.size W w9 ∧ g ≤ w9.heap.size) := ⟨HB9.out, Nat.le_trans HB6.out.2 HGE.out.size⟩
              have HDE : Aside0 (∀ r ∈ ins.eraseIdx p, r.2.2.2.2.2.length ≤ 100) := ⟨fun r hr => HD.out r (List.mem_of_mem_eraseIdx hr)⟩
              clear HP6 HI6 HB6 hs1 hs2 HF7 HFI HFT HFR HLN HNL HN7 HB7 HG7 HA7 HG9 HB9 HMC
              go_wp2_with fail
              refine (len_.calls HPE.out).mono ?_
              rintro e wE ⟨rfl, hwe⟩
              subst hwe
              rw [HME.out]
              go_wp2_with fail
              refine (len_.calls HPE.out).mono ?_
              rintro e wE ⟨rfl, hwe⟩
              subst hwe
              rw [HME.out]
              go_wp2_with fail
              go_roundw
              case rel => exact ⟨k + 1, _, by go_num, by omega, HPE, HBE, HIE, HDE⟩
              case measure => simp [intOf]; omega
        · have HT : Aside0 (Calls Try.prog 10 #[.pointer (some ⟨g, 0, none⟩), .agg (Pi.rqc r.1 r.2.1 r.2.2.1 r.2.2.2.1 r.2.2.2.2.1 (.slice A1 md c1)).toArray] wr fun e w' => e = .returned (.bool (decide (m < 16))) ∧ Aside0 (Pi.Pp w' g (fun _ => True) g (if m < 16 then ins ++ [r] else ins)) ∧ Aside0 (Below W.heap.size W w' ∧ g ≤ w'.heap.size) ∧ Aside0 (wr.grownBy w' (some g))) := ⟨by
            refine (add_.calls HP.out HKR.out (Nat.lt_of_le_of_lt HDK.out (Nat.le_of_ble_eq_true rfl)) HB.out.2 (fun _ _ => trivial)).mono ?_
            rintro e w' ⟨rfl, hp, hg⟩
            rw [HM.out] at hp ⊢
            exact ⟨rfl, ⟨hp⟩, ⟨HB.out.1.grown hg HB.out.1.size (fun k hk => by cases hk; exact HGW.out), Nat.le_trans HB.out.2 hg.size⟩, ⟨hg⟩⟩⟩
          have HGL := Aside0.mk HP.out.lt
          by_cases h16 : m = 16
          · subst h16
            go_wp2_with (refine Wk.load rfl 33 (.tmp 37) rfl _ (.pointer (some ⟨(ad.add (k * 9)).block, (ad.add (k * 9)).off + 3, none⟩)) rfl (HRUN.out _ HB.out.1) ?_)
            refine HT.out.mono ?_
            rintro e w3 ⟨rfl, HPE, HBE, HG3⟩
            rw [decide_eq_false (by omega : ¬ 16 < 16)]
            rw [if_neg (by omega : ¬ 16 < 16)] at HPE
            have HME := HM
            have HIE := Aside0.mk (Kd.N_grown HI.out HG3.out (fun k hk he => hk (by injection he)))
            have HDE := HD
            clear HT HP HB HI
            go_wp2_with fail
            refine (len_.calls HPE.out).mono ?_
            rintro e wE ⟨rfl, hwe⟩
            subst hwe
            rw [HME.out]
            go_wp2_with fail
            refine (len_.calls HPE.out).mono ?_
            rintro e wE ⟨rfl, hwe⟩
            subst hwe
            rw [HME.out]
            go_wp2_with fail
            go_roundw
            case rel => exact ⟨k + 1, _, by go_num, by omega, HPE, HBE, HIE, HDE⟩
            case measure => simp [intOf]; omega
          · have hlt16 : m < 16 := by omega
            have h16i : ((m : Int) == 16) = false := by simp; omega
            have hm16i : (m : Int) < 16 := by omega
            have HFK : Aside0 (Kd.FK kRq wr (fun k => k ≠ g ∧ some k ≠ (Value.slice A2 m c2).ownBlock) r (Pi.rqc r.1 r.2.1 r.2.2.1 r.2.2.2.1 r.2.2.2.2.1 (.slice A1 md c1))) := ⟨by
              refine Kd.FK_mono (Kd.FK_below (Pi.FK_came HKW.out) HB.out.1) (fun k hk => ⟨fun he => by have := HGW.out; omega, fun he => by have := Kd.N_base HI.out k he.symm; omega⟩)⟩
            go_wp2_with (refine Wk.load rfl 33 (.tmp 37) rfl _ (.pointer (some ⟨(ad.add (k * 9)).block, (ad.add (k * 9)).off + 3, none⟩)) rfl (HRUN.out _ HB.out.1) ?_)
            refine HT.out.mono ?_
            rintro e w3 ⟨rfl, HP3, HB3, HG3⟩
            rw [decide_eq_true hlt16]
            rw [if_pos hlt16] at HP3
            have HI3 := Aside0.mk (Kd.N_grown HI.out HG3.out (fun k hk he => hk (by injection he)))
            have HF3 := Aside0.mk (Kd.FK_grown (row := some g) HFK.out HG3.out (fun k hk he => hk.1 (by injection he)))
            have HGL3 := Aside0.mk HP3.out.lt
            have HBA := Aside0.mk (below_alloc HB3.out.1 (.cells #[] 4))
            have HLM : Aside0 ((ins.length + 1) * 56 ≤ 140737488355328) := ⟨by rw [HM.out]; omega⟩
            clear HT HP HB HI HFK HKR HKW hc2
            unfold Pi.rqc at HF3 HRUN
            go_wp2_with (first
              | refine Wk.load rfl 33 (.tmp 48) rfl _ (.pointer (some ⟨(ad.add (k * 9)).block, (ad.add (k * 9)).off + 3, none⟩)) rfl (HRUN.out _ HB3.out.1) ?_
              | (at_builtin; refine Kd.N_append kRq (w0 := W) (W := w3) W.heap.size rfl (.tmp 44) (.tmp 50) 22 33 (.agg Pi.zrq.toArray) 56 rfl Try.underlying22 Pi.info33 rfl (by decide) (by omega) (.slice A2 m c2) ins r [.int .u16 r.1, .int .u16 r.2.1, .int .u64 r.2.2.1, .int .u64 r.2.2.2.1, .int .u32 r.2.2.2.2.1, .slice A1 md c1] (fun k => k ≠ g) (fun k => k ≠ g ∧ some k ≠ (Value.slice A2 m c2).ownBlock) rfl rfl HF3.out (fun _ h => h) (Pi.fresh_ne HGL3.out) HI3.out HB3.out.1 HB3.out.1.size HLM.out ?_; intro v9 w9 hn9 hb9 hg9 _; obtain ⟨A9, c9, rfl⟩ := Kd.N_slice hn9; obtain ⟨m9, HME⟩ : ∃ m9, Aside0 ((ins ++ [r]).length = m9) := ⟨_, ⟨rfl⟩⟩; rw [HME.out] at hn9 ⊢; have hm9 : (m9 : Int) ≤ 16 := (by have h1 := HME.out; have h2 := HM.out; rw [List.length_append] at h1; simp at h1; omega); have HIE := Aside0.mk hn9; have HGE := Aside0.mk hg9; have HB9 := Aside0.mk hb9; clear hn9 hb9 hg9))
            have HPE : Aside0 (Pi.Pp w9 g (fun _ => True) g (ins ++ [r])) := ⟨HP3.out.grown_row HGE.out (Kd.N_typed HI3.out)⟩
            have HBE : Aside0 (Below W.heap.size W w9 ∧ g ≤ w9.heap.size) := ⟨HB9.out, Nat.le_trans HB3.out.2 HGE.out.size⟩
            have HDE : Aside0 (∀ r' ∈ ins ++ [r], r'.2.2.2.2.2.length ≤ 100) := ⟨fun r' hr => by
              rcases List.mem_append.1 hr with h | h
              · exact HD.out r' h
              · rw [List.mem_singleton.1 h]; exact HDK.out⟩
            clear HP3 HI3 HB3 HG3 HF3 HGE HB9
            refine (len_.calls HPE.out).mono ?_
            rintro e wE ⟨rfl, hwe⟩
            subst hwe
            rw [HME.out]
            go_wp2_with fail
            refine (len_.calls HPE.out).mono ?_
            rintro e wE ⟨rfl, hwe⟩
            subst hwe
            rw [HME.out]
            go_wp2_with fail
            go_roundw
            case rel => exact ⟨k + 1, _, by go_num, by omega, HPE, HBE, HIE, HDE⟩
            case measure => simp [intOf]; omega
      · obtain rfl : n = k := by omega
        go_wp2_with fail
        have HD2 : Aside0 (∀ r ∈ ins, r.2.2.2.2.2.length < 140737488355328) := ⟨fun r hr => Nat.lt_of_le_of_lt (HD.out r hr) (Nat.le_of_ble_eq_true rfl)⟩
        refine (all_.calls HP.out HD2.out).mono ?_
        rintro e w3 ⟨v3, rfl, hR3, hb3⟩
        obtain ⟨A3, c3, rfl, hl3, hC3⟩ := Kd.R_reads hR3
        obtain ⟨A4, c4, rfl, hl4, hC4⟩ := Kd.N_reads (Kd.N_below HI.out hb3)
        have HS := Aside0.mk (sameall_.calls (w := w3) (rs := ins) (by have := HP.out.le; omega) hC3 hl3 hC4 hl4)
        have HB3 := Aside0.mk (below_then HB.out.1 HB.out.1.size hb3)
        clear hR3 hb3 hl3 hC3 hl4 hC4 HP HI HB
        go_wp2_with fail
        refine HS.out.mono ?_
        rintro e w4 ⟨rfl, hb4⟩
        go_wp2_with fail
        go_ret
        exact ⟨rfl, below_then HB3.out HB3.out.size hb4⟩
  · clear hf
    go_wp2_with fail
    refine (known_.calls w0).mono ?_
    rintro e w1 ⟨rfl, hb⟩
    go_wp2_with fail
    go_ret
    exact ⟨rfl, below_then HB0.out HB0.out.size hb⟩
#print axioms pipeOnce_.calls
end Go.Proofs.Ytikogcdakdndnaa
