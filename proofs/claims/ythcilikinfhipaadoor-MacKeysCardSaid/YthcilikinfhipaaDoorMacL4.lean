/- The walk of the law MacKeys. -/
import Derived.Test.YthcilikinfhipaaDoorMacL3
set_option linter.unusedVariables false
set_option linter.unusedSimpArgs false
namespace Go.Proofs.YthcilikinfhipaaDoor
open Go.RowKit Go.Proofs.YthcilikinfhipaaDoorW.PrintWords Go.Proofs.YthcilikinfhipaaDoorW.PrintLast Go.Proofs.YthcilikinfhipaaDoorW.PrintMore
namespace Sh
theorem kblock_dig (key : List Int) (h : 64 < key.length) : kblock (dig key) = kblock key := by
  unfold kblock
  rw [if_neg (by rw [dig_length]; decide), if_pos h]
  simp [dig_length]
theorem hm_dig (key b : List Int) (h : 64 < key.length) : hm (dig key) b = hm key b := by
  unfold hm
  rw [kblock_dig key h]
theorem kblock_zeros (key : List Int) (z : Nat) (h : key.length + z ≤ 64) : kblock (key ++ List.replicate z 0) = kblock key := by
  unfold kblock
  rw [if_neg (by rw [List.length_append, List.length_replicate]; omega), if_neg (by omega), List.append_assoc, List.length_append, List.length_replicate, List.replicate_append_replicate]
  congr 2
  omega
theorem hm_zeros (key b : List Int) (z : Nat) (h : key.length + z ≤ 64) : hm (key ++ List.replicate z 0) b = hm key b := by
  unfold hm
  rw [kblock_zeros key z h]
theorem zeros_bytes {l : List Int} (h : Bytes l) (z : Nat) : Bytes (l ++ List.replicate z 0) := fun x hx => by
  rcases List.mem_append.1 hx with hx | hx
  · exact h x hx
  · obtain ⟨_, rfl⟩ := List.mem_replicate.1 hx
    omega
theorem load_exec {oi : Oper} {x : Operand} {a : Act} {w' : World} {b : Nat} {D : Array Value} (ho : oi.op = .load 25 x) (hx : a.eval x = .pointer (some ⟨b, 0, none⟩)) (hg : w'.heap[b]? = some (.cells D 25 (0, 0))) (hi : (Tryd.prog.info? 25).map (·.size) = some D.size) :
    (execOp a.eval oi).run Tryd.prog w' = .ok (.value (.agg D)) w' := by
  unfold execOp
  simp only [ho, hx, Instr.loadAt, Instr.sureAddr, Sem.run_bind, Sem.run_pure, Result.andThen_ok, run_loadVar_row w' b 25 25 D (0, 0) _ hg Tryd.underlying25 rfl hi]
end Sh
set_option maxHeartbeats 1000000 in
set_option maxRecDepth 100000 in
theorem macKeys_.calls (A0 : Option Addr) (c0 : Nat) (key : List Int) (A1 : Option Addr) (c1 : Nat) (b : List Int) (n : Int) (w : World) (hk : Sh.Ks w)
    (hr0 : Kd.C (Kd.int .u8) w A0 key.length key) (hc0 : key.length ≤ c0) (hby0 : Sh.Bytes key) (hm0 : key.length ≤ 9223372036854775807)
    (hr1 : Kd.C (Kd.int .u8) w A1 b.length b) (hc1 : b.length ≤ c1) (hby1 : Sh.Bytes b) (hm1 : b.length ≤ 9223372036854775807) (hn : (Lit.int .u8 n).wf = true) :
    Calls Tryd.prog 5 #[.slice A0 key.length c0, .slice A1 b.length c1, .int .u8 n] w fun e w' => e = .returned (.bool true) ∧ Below w.heap.size w w' := by
  have HR0 := Aside0.mk hr0
  have HR1 := Aside0.mk hr1
  have HY0 := Aside0.mk hby0
  have HY1 := Aside0.mk hby1
  have HK := Aside0.mk hk
  obtain ⟨k, rfl, hk255⟩ : ∃ k : Nat, n = k ∧ k ≤ 255 := by
    simp only [Lit.wf, IntKind.min, IntKind.max, IntKind.signed, IntKind.bits] at hn
    simp at hn
    exact ⟨n.toNat, by omega, by omega⟩
  clear hr0 hr1 hby0 hby1 hk hn
  obtain ⟨N0, HN0⟩ : ∃ N, Aside0 (key.length = N) := ⟨_, ⟨rfl⟩⟩
  obtain ⟨N1, HN1⟩ : ∃ N, Aside0 (b.length = N) := ⟨_, ⟨rfl⟩⟩
  rw [HN0.out] at hc0 hm0 ⊢
  rw [HN1.out] at hc1 hm1 ⊢
  go_enter Tryd.func5, Tryd.ntmps5
  by_cases g0 : 800 < N0
  · go_wp2_with fail
    refine (known_.calls w HK.out).mono ?_
    rintro e w1 ⟨rfl, hb1⟩
    have HB1 := Aside0.mk hb1
    clear hb1
    go_wp2_with fail
    go_ret
    exact ⟨rfl, HB1.out⟩
  · by_cases g1 : 800 < N1
    · go_wp2_with fail
      refine (known_.calls w HK.out).mono ?_
      rintro e w1 ⟨rfl, hb1⟩
      have HB1 := Aside0.mk hb1
      clear hb1
      go_wp2_with fail
      go_ret
      exact ⟨rfl, HB1.out⟩
    · go_wp2_with fail
      refine (known_.calls w HK.out).mono ?_
      rintro e w1 ⟨rfl, hb1⟩
      have HB1 := Aside0.mk hb1
      clear hb1
      go_wp2_with fail
      generalize hWq : World.alloc w1 _ = W2
      have hcell : W2.cell? ⟨w1.heap.size, 0, none⟩ = some (.slice A1 N1 c1) := by rw [← hWq]; exact Lit.cell_new w1 #[.slice A1 N1 c1] 22 (0, 0) 0
      have HB2 : Aside0 (Below w.heap.size w W2) := ⟨by rw [← hWq]; exact HB1.out.alloc HB1.out.size _⟩
      obtain ⟨bs, HBS⟩ : ∃ b, Aside0 (w1.heap.size = b) := ⟨_, ⟨rfl⟩⟩
      rw [HBS.out] at hcell ⊢
      have HCELL := Aside0.mk hcell
      clear hWq hcell HB1 HBS
      obtain ⟨D, HDD⟩ : ∃ D, Aside0 (Sh.u8s (Sh.hm key b) = D) := ⟨_, ⟨rfl⟩⟩
      have HI : Aside0 ((Tryd.prog.info? 25).map (·.size) = some D.size) := ⟨by rw [← HDD.out]; exact Sh.dig_info _⟩
      have HZ : Aside0 ((Sh.u8s (List.replicate 32 0)).size = D.size) := ⟨by rw [← HDD.out]; exact Sh.dig_zeros _⟩
      have HE : Aside0 (D.all (·.oneCell') = true) := ⟨by rw [← HDD.out]; exact Sh.dig_one _⟩
      have heq : ∀ W, (Op.equalIn 10000 25 (.agg D) (.agg D)).run Tryd.prog W = .ok true W := fun W => by rw [← HDD.out]; exact Sh.hm_self key b W
      have HF : Aside0 (Calls Tryd.prog 9 #[.slice A0 N0 c0, .slice (some ⟨bs, 0, none⟩) 1 1] W2 fun e w' => e = .returned (.agg D) ∧ Below W2.heap.size W2 w') := ⟨by
        have := Sh.of1_ (bs := bs) (c0 := c0) (c1 := c1) (HK.out.below HB2.out) (Kd.C_below HR0.out HB2.out) (by rw [HN0.out]; exact hc0) HY0.out (by rw [HN0.out]; omega) (Kd.C_below HR1.out HB2.out) (by rw [HN1.out]; exact hc1) HY1.out (by rw [HN1.out]; omega) (by rw [HN1.out]; exact HCELL.out)
        rw [HN0.out, HDD.out] at this
        exact this⟩
      refine HF.out.mono ?_
      rintro e w3 ⟨rfl, hb3⟩
      have HB3 : Aside0 (Below w.heap.size w w3) := ⟨below_then HB2.out HB2.out.size hb3⟩
      have HX3 := Aside0.mk (Sh.store_new w3 D)
      have HO3 : Aside0 ((w3.alloc (.cells (Sh.u8s (List.replicate 32 0)) 25)).heap[w3.heap.size]? = some (.cells (Sh.u8s (List.replicate 32 0)) 25 (0, 0))) := ⟨heap_alloc_new w3 _⟩
      clear hb3 HF HB2 HCELL
      by_cases h64 : 64 < N0
      · obtain ⟨D1, HD1⟩ : ∃ D, Aside0 (Sh.u8s (Sh.dig key) = D) := ⟨_, ⟨rfl⟩⟩
        have HI1 : Aside0 ((Tryd.prog.info? 25).map (·.size) = some D1.size) := ⟨by rw [← HD1.out]; exact Sh.dig_info _⟩
        have HZ1 : Aside0 ((Sh.u8s (List.replicate 32 0)).size = D1.size) := ⟨by rw [← HD1.out]; exact Sh.dig_zeros _⟩
        have HE1 : Aside0 (D1.all (·.oneCell') = true) := ⟨by rw [← HD1.out]; exact Sh.dig_one _⟩
        go_wp2_with (refine wpList_store_row rfl 25 (.tmp 7) (.tmp 27) rfl w3.heap.size D rfl rfl 25 _ HO3.out HI.out HZ.out HE.out ?_; generalize hWq : World.setRow _ w3.heap.size D = W4; have HX4 : Aside0 (W4.heap[w3.heap.size]? = some (.cells D 25 (0, 0)) ∧ Below w3.heap.size w3 W4) := ⟨by rw [← hWq]; exact HX3.out⟩; clear hWq)
        have HB4 : Aside0 (Below w.heap.size w W4) := ⟨below_then HB3.out HB3.out.size HX4.out.2⟩
        have HF : Aside0 (Calls Tryd.prog 11 #[.slice A0 N0 c0] W4 fun e w' => e = .returned (.agg D1) ∧ Below W4.heap.size W4 w') := ⟨by
          have := refsum_.calls A0 c0 key W4 (Kd.C_below HR0.out HB4.out) (by rw [HN0.out]; exact hc0) HY0.out (by rw [HN0.out]; omega)
          rw [HN0.out, HD1.out] at this
          exact this⟩
        refine HF.out.mono ?_
        rintro e w5 ⟨rfl, hb5⟩
        have HB5 : Aside0 (Below w.heap.size w w5) := ⟨below_then HB4.out HB4.out.size hb5⟩
        obtain ⟨b7, HB7⟩ : ∃ b, Aside0 (w3.heap.size = b) := ⟨_, ⟨rfl⟩⟩
        rw [HB7.out]
        have HO5 : Aside0 (w5.heap[b7]? = some (.cells D 25 (0, 0))) := ⟨by rw [← HB7.out]; exact (hb5.block _ (Array.getElem?_eq_some_iff.1 HX4.out.1).1).trans HX4.out.1⟩
        have HX5 := Aside0.mk (Sh.store_new w5 D1)
        have HO6 : Aside0 ((w5.alloc (.cells (Sh.u8s (List.replicate 32 0)) 25)).heap[w5.heap.size]? = some (.cells (Sh.u8s (List.replicate 32 0)) 25 (0, 0))) := ⟨heap_alloc_new w5 _⟩
        clear hb5 HF HX3 HO3 HX4 HB3 HB4 HB7
        go_wp2_with (refine wpList_store_row rfl 25 (.tmp 8) (.tmp 32) rfl w5.heap.size D1 rfl rfl 25 _ HO6.out HI1.out HZ1.out HE1.out ?_; generalize hWq : World.setRow _ w5.heap.size D1 = W6; have HX6 : Aside0 (W6.heap[w5.heap.size]? = some (.cells D1 25 (0, 0)) ∧ Below w5.heap.size w5 W6) := ⟨by rw [← hWq]; exact HX5.out⟩; clear hWq)
        obtain ⟨b8, HB8⟩ : ∃ b, Aside0 (w5.heap.size = b) := ⟨_, ⟨rfl⟩⟩
        have HB6 : Aside0 (Below w.heap.size w W6) := ⟨below_then HB5.out HB5.out.size HX6.out.2⟩
        have HO6' : Aside0 (W6.heap[b7]? = some (.cells D 25 (0, 0)) ∧ W6.heap[b8]? = some (.cells D1 25 (0, 0))) := ⟨(HX6.out.2.block _ (Array.getElem?_eq_some_iff.1 HO5.out).1).trans HO5.out, by rw [← HB8.out]; exact HX6.out.1⟩
        rw [HB8.out]
        have HKX : Aside0 (∀ W, Below W6.heap.size W6 W → W.heap[b7]? = some (.cells D 25 (0, 0))) := ⟨fun W hW => (hW.block _ (Array.getElem?_eq_some_iff.1 HO6'.out.1).1).trans HO6'.out.1⟩
        have HRUN : Aside0 (∀ W9 b9, Below W6.heap.size W6 W9 → W9.cell? ⟨b9, 0, none⟩ = some (.slice A1 N1 c1) → Calls Tryd.prog 9 #[.slice (some ⟨b8, 0, none⟩) 32 32, .slice (some ⟨b9, 0, none⟩) 1 1] W9 fun e w' => e = .returned (.agg D) ∧ Below W9.heap.size W9 w') := ⟨fun W9 b9 hW hcell => by
          have hb := below_then HB6.out HB6.out.size hW
          have h8 : W9.heap[b8]? = some (.cells D1 25 (0, 0)) := (hW.block _ (Array.getElem?_eq_some_iff.1 HO6'.out.2).1).trans HO6'.out.2
          have hC : Kd.C (Kd.int .u8) W9 (some ⟨b8, 0, none⟩) (Sh.dig key).length (Sh.dig key) := Lit.reads_block h8 .u8 (Sh.dig key) (by rw [← HD1.out]; simp [Sh.u8s]) (by rw [Sh.dig_length]; decide)
          have := Sh.of1_ (bs := b9) (c0 := 32) (c1 := c1) (key := Sh.dig key) (HK.out.below hb) hC (by rw [Sh.dig_length]; exact Nat.le_refl _) (Sh.dig_bytes _) (by rw [Sh.dig_length]; decide) (Kd.C_below HR1.out hb) (by rw [HN1.out]; exact hc1) HY1.out (by rw [HN1.out]; omega) (by rw [HN1.out]; exact hcell)
          rw [Sh.dig_length, Sh.hm_dig key b (by rw [HN0.out]; exact h64), HDD.out] at this
          exact this⟩
        have hsl := Sh.slice_all32 b8
        clear HX6 HB5 HX5 HO6 HO5 HB8 HO6' HD1 HI1 HZ1 HE1
        go_wp2_with fail
        refine wp_region_noPanic ?_
        refine start_ (n := 7) (S := (fun w' => Below W6.heap.size W6 w')) (ds := [6]) #[false, false, false, false, false, false, false] (by kernel_rfl) rfl rfl (Below.refl _ _).drew (fun hHeld => ?_)
        refine take_ (i := 0) (N := (some 33)) (v := ?_) (a' := ?_) #[true, false, false, false, false, false, false] rfl rfl (by kernel_rfl) (fun _ _ _ h => h) (Or.inl ⟨by rfl, ?_⟩) hHeld ?_ ?_
        rotate_left
        · intro w' hS'
          (refine (Sh.load_exec (x := .tmp 7) rfl rfl (HKX.out _ hS') HI.out).trans ?_)
          with_reducible rfl
        rotate_left
        · simp only [Act.put, List.setIfInBounds_toArray, List.set_cons_zero, List.set_cons_succ]
          rfl
        refine pure_ (i := 1) (N := (some 34)) (v := ?_) (a' := ?_) #[true, true, false, false, false, false, false] rfl rfl (by kernel_rfl) (fun _ _ _ h => h) (Or.inl ⟨by rfl, ?_⟩) ?_ ?_
        rotate_left
        · intro w'
          go_simp
          with_reducible rfl
        rotate_left
        · simp only [Act.put, List.setIfInBounds_toArray, List.set_cons_zero, List.set_cons_succ]
          rfl
        refine pure_ (i := 2) (N := (some 35)) (v := ?_) (a' := ?_) #[true, true, true, false, false, false, false] rfl rfl (by kernel_rfl) (fun _ _ _ h => h) (Or.inl ⟨by rfl, ?_⟩) ?_ ?_
        rotate_left
        · intro w'
          go_simp
          with_reducible rfl
        rotate_left
        · simp only [Act.put, List.setIfInBounds_toArray, List.set_cons_zero, List.set_cons_succ]
          rfl
        refine one_ (i := 3) (N := (some 36)) #[true, true, true, true, false, false, false] rfl rfl (by kernel_rfl) (by decide) (fun K hK => ?_)
        refine value_ (w1 := W6.drew.alloc (.cells #[.slice A1 N1 c1] 22)) (v := .slice (some ⟨W6.drew.heap.size, 0, none⟩) 1 1) (by rfl) rfl (by go_simp) ?_
        have HQ : Aside0 (Below W6.heap.size W6 (W6.drew.alloc (.cells #[.slice A1 N1 c1] 22))) := ⟨((Below.refl _ W6).drew).alloc (Nat.le_refl _) _⟩
        refine hK.out _ _ HQ.out (fun hHeld => ?_)
        clear hK K
        refine norm_ (a' := ?_) ?_ ?_
        rotate_left
        · show Act.put _ (some 36) _ = _
          simp only [Act.put, List.setIfInBounds_toArray, List.set_cons_zero, List.set_cons_succ]
          rfl
        refine one_ (i := 4) (N := (some 37)) #[true, true, true, true, true, false, false] rfl rfl (by kernel_rfl) (by decide) (fun K hK => ?_)
        refine call_ 9 #[.slice (some ⟨b8, 0, none⟩) 32 32, .slice (some ⟨W6.drew.heap.size, 0, none⟩) 1 1] (by rfl) rfl (by go_simp) ?_
        refine (HRUN.out _ _ hHeld (Lit.cell_new W6.drew #[.slice A1 N1 c1] 22 (0, 0) 0)).mono ?_
        rintro e w9 ⟨rfl, hb9⟩
        have HQ2 := Aside0.mk (Sh.below_step2 hHeld hb9)
        clear hb9
        refine ⟨_, rfl, ?_⟩
        refine hK.out _ _ HQ2.out (fun hHeld => ?_)
        clear hK K
        refine norm_ (a' := ?_) ?_ ?_
        rotate_left
        · show Act.put _ (some 37) _ = _
          simp only [Act.put, List.setIfInBounds_toArray, List.set_cons_zero, List.set_cons_succ]
          rfl
        refine pure_ (i := 5) (N := (some 38)) (v := ?_) (a' := ?_) #[true, true, true, true, true, true, false] rfl rfl (by kernel_rfl) (fun _ _ _ h => h) (Or.inl ⟨by rfl, ?_⟩) ?_ ?_
        rotate_left
        · intro w'
          go_simp
          with_reducible rfl
        rotate_left
        · simp only [Act.put, List.setIfInBounds_toArray, List.set_cons_zero, List.set_cons_succ]
          rfl
        refine pure_ (i := 6) (N := (some 6)) (v := ?_) (a' := ?_) #[true, true, true, true, true, true, true] rfl rfl (by kernel_rfl) (fun _ _ _ h => h) (Or.inl ⟨by rfl, ?_⟩) ?_ ?_
        rotate_left
        · intro w'
          go_simp
          with_reducible rfl
        rotate_left
        · simp only [Act.put, List.setIfInBounds_toArray, List.set_cons_zero, List.set_cons_succ]
          rfl
        refine done_ (by kernel_rfl) ?_
        have HBF : Aside0 (Below w.heap.size w w9) := ⟨below_then HB6.out HB6.out.size hHeld⟩
        refine NoPanic.normal ?_
        go_wp2_with fail
        go_ret
        exact ⟨by simp, HBF.out⟩
      · have HC0 : Aside0 (∀ W, Below w.heap.size w W → Kd.C (Kd.int .u8) W A0 N0 key) := ⟨fun W hW => by have := Kd.C_below HR0.out hW; rwa [HN0.out] at this⟩
        go_wp2_with (first
          | (refine wpList_store_row rfl 25 (.tmp 7) (.tmp 27) rfl w3.heap.size D rfl rfl 25 _ HO3.out HI.out HZ.out HE.out ?_; generalize hWq : World.setRow _ w3.heap.size D = W4; have HX4 : Aside0 (W4.heap[w3.heap.size]? = some (.cells D 25 (0, 0)) ∧ Below w3.heap.size w3 W4) := ⟨by rw [← hWq]; exact HX3.out⟩; clear hWq; have HB4 : Aside0 (Below w.heap.size w W4) := ⟨below_then HB3.out HB3.out.size HX4.out.2⟩)
          | ((with_reducible refine gate_builtin (b := .append) (xs := #[.tmp 39, .tmp 40]) rfl ?_); at_builtin; refine Kd.R_append_rows (Kd.int .u8) (w0 := W4) W4.heap.size rfl (.tmp 39) (.tmp 40) 22 5 (.int .u8 0) 1 rfl Tryd.underlying22 Sh.info8 rfl (by decide) (by omega) (.slice none 0 0) ([] : List Int) key A0 N0 c0 (fun _ => True) (fun _ => False) rfl rfl (Kd.R_nil _ _ _ _ _) (HC0.out _ HB4.out) (fun _ _ h => h) (fun _ h => h.elim) (fun k hk => trivial) (Below.refl _ _) (Nat.le_refl _) (by simp only [List.length_nil]; omega) ?_; intro v4 w4 ho hb4 hg _; have H4 : Aside0 (Sh.Pm W4 v4 key w4) := ⟨⟨ho, hb4⟩⟩; clear ho hb4 hg))
        obtain ⟨A5, c5, hv5⟩ := Kd.R_slice H4.out.r
        rw [HN0.out] at hv5
        subst hv5
        obtain ⟨b7, HB7⟩ : ∃ b, Aside0 (w3.heap.size = b) := ⟨_, ⟨rfl⟩⟩
        rw [HB7.out]
        have HO4 : Aside0 (W4.heap[b7]? = some (.cells D 25 (0, 0))) := ⟨by rw [← HB7.out]; exact HX4.out.1⟩
        have HS0 : Aside0 (Sh.Pm W4 (.slice A5 (N0 + 0) c5) (key ++ List.replicate 0 0) w4) := ⟨by rw [List.replicate_zero, List.append_nil]; exact H4.out⟩
        clear HX3 HO3 HX4 HB3 HB7 H4
        go_wp2_with fail
        go_loopw [10, 9] (fun v10 v9 wr => ∃ (i M : Nat) (A4 : Option Addr) (c4 : Nat), v10 = .int .i64 i ∧ i ≤ k ∧ v9 = .slice A4 M c4 ∧ M = N0 + i ∧ M ≤ 64 ∧ Aside0 (Sh.Pm W4 (.slice A4 M c4) (key ++ List.replicate i 0) wr)) (fun v _ _ => k - (intOf v).toNat)
        case atStart => exact ⟨0, N0, A5, c5, rfl, Nat.zero_le _, rfl, rfl, by omega, HS0⟩
        case round =>
          clear HS0
          obtain ⟨i, M, A4, c4, rfl, hi, rfl, hMi, hM, HP⟩ := hrel
          have HMI := Aside0.mk hMi
          have HL : Aside0 ((key ++ List.replicate i 0).length = M) := ⟨by rw [List.length_append, List.length_replicate, HN0.out, hMi]⟩
          clear hMi
          obtain ⟨stop, HST⟩ : ∃ b : Bool, Aside0 (b = true ↔ ¬ (i < k ∧ M < 64)) := ⟨decide (¬ (i < k ∧ M < 64)), ⟨decide_eq_true_iff⟩⟩
          cases stop with
          | false =>
            have hik : i < k := by have := HST.out; simp at this; omega
            have hM64 : M < 64 := by have := HST.out; simp at this; omega
            clear HST
            go_wp2_with ((with_reducible refine gate_builtin (b := .append) (xs := #[.tmp 53, .tmp 54]) rfl ?_); at_builtin; refine Kd.R_append (Kd.int .u8) (w0 := W4) W4.heap.size rfl (.tmp 53) (.tmp 54) 22 5 (.int .u8 0) 1 rfl Tryd.underlying22 Sh.info8 rfl (by decide) (by omega) (.slice A4 M c4) (key ++ List.replicate i 0) 0 [.int .u8 0] (fun _ => True) (fun _ => False) rfl rfl rfl (fun _ h => h.elim) (fun k hk => trivial) HP.out.r HP.out.g HP.out.g.size (by rw [HL.out]; omega) ?_; intro v4 w4 ho hb4 hg _; have H4 : Aside0 (Sh.Pm W4 v4 (key ++ List.replicate i 0 ++ [0]) w4) := ⟨⟨ho, hb4⟩⟩; clear ho hb4 hg)
            obtain ⟨A5, c5, hv5⟩ := Kd.R_slice H4.out.r
            have hl5 : (key ++ List.replicate i 0 ++ [(0 : Int)]).length = M + 1 := by rw [List.length_append, HL.out]; rfl
            rw [hl5] at hv5
            subst hv5
            have H5 : Aside0 (Sh.Pm W4 (.slice A5 (M + 1) c5) (key ++ List.replicate (i + 1) 0) w4) := ⟨by rw [List.replicate_succ', ← List.append_assoc]; exact H4.out⟩
            clear H4 HP HL hl5
            go_wp2_with fail
            exact ⟨⟨i + 1, M + 1, A5, c5, by go_num, by omega, rfl, by have := HMI.out; omega, by omega, H5⟩, by simp [intOf]; omega⟩
          | true =>
            obtain ⟨wq, rfl⟩ : ∃ q : World, q = wr := ⟨_, rfl⟩
            have HBQ : Aside0 (Below w.heap.size w wq) := ⟨below_then HB4.out HB4.out.size HP.out.g⟩
            have HOQ : Aside0 (∀ W, Below wq.heap.size wq W → W.heap[b7]? = some (.cells D 25 (0, 0))) := ⟨fun W hW => by
              have h1 := (HP.out.g.block _ (Array.getElem?_eq_some_iff.1 HO4.out).1).trans HO4.out
              exact (hW.block _ (Array.getElem?_eq_some_iff.1 h1).1).trans h1⟩
            obtain ⟨eM, hMc, hC⟩ := Kd.R_reads' HP.out.r
            have HC := Aside0.mk hC
            clear eM hC
            have HRUN : Aside0 (∀ W9 b9, Below wq.heap.size wq W9 → W9.cell? ⟨b9, 0, none⟩ = some (.slice A1 N1 c1) → Calls Tryd.prog 9 #[.slice A4 M c4, .slice (some ⟨b9, 0, none⟩) 1 1] W9 fun e w' => e = .returned (.agg D) ∧ Below W9.heap.size W9 w') := ⟨fun W9 b9 hW hcell => by
              have hb := below_then HBQ.out HBQ.out.size hW
              have := Sh.of1_ (bs := b9) (c0 := c4) (c1 := c1) (key := key ++ List.replicate i 0) (HK.out.below hb) (Kd.C_below HC.out hW) (by rw [HL.out]; exact hMc) (Sh.zeros_bytes HY0.out i) (by rw [HL.out]; omega) (Kd.C_below HR1.out hb) (by rw [HN1.out]; exact hc1) HY1.out (by rw [HN1.out]; omega) (by rw [HN1.out]; exact hcell)
              rw [HL.out, Sh.hm_zeros key b i (by rw [HN0.out]; have := HMI.out; omega), HDD.out] at this
              exact this⟩
            clear HP HC HO4
            have HGO : Aside0 (i < k ∧ M < 64 → False) := ⟨fun h => HST.out.1 rfl h⟩
            clear HST
            by_cases hik : i < k
            · have hM64 : ¬ M < 64 := fun h => HGO.out ⟨hik, h⟩
              go_wp2_with fail
              refine wp_region_noPanic ?_
              refine start_ (n := 7) (S := (fun w' => Below wq.heap.size wq w')) (ds := [6]) #[false, false, false, false, false, false, false] (by kernel_rfl) rfl rfl (Below.refl _ _).drew (fun hHeld => ?_)
              refine take_ (i := 0) (N := (some 56)) (v := ?_) (a' := ?_) #[true, false, false, false, false, false, false] rfl rfl (by kernel_rfl) (fun _ _ _ h => h) (Or.inl ⟨by rfl, ?_⟩) hHeld ?_ ?_
              rotate_left
              · intro w' hS'
                (refine (Sh.load_exec (x := .tmp 7) rfl rfl (HOQ.out _ hS') HI.out).trans ?_)
                with_reducible rfl
              rotate_left
              · simp only [Act.put, List.setIfInBounds_toArray, List.set_cons_zero, List.set_cons_succ]
                rfl
              refine pure_ (i := 1) (N := (some 57)) (v := ?_) (a' := ?_) #[true, true, false, false, false, false, false] rfl rfl (by kernel_rfl) (fun _ _ _ h => h) (Or.inl ⟨by rfl, ?_⟩) ?_ ?_
              rotate_left
              · intro w'
                go_simp
                with_reducible rfl
              rotate_left
              · simp only [Act.put, List.setIfInBounds_toArray, List.set_cons_zero, List.set_cons_succ]
                rfl
              refine pure_ (i := 2) (N := (some 58)) (v := ?_) (a' := ?_) #[true, true, true, false, false, false, false] rfl rfl (by kernel_rfl) (fun _ _ _ h => h) (Or.inl ⟨by rfl, ?_⟩) ?_ ?_
              rotate_left
              · intro w'
                go_simp
                with_reducible rfl
              rotate_left
              · simp only [Act.put, List.setIfInBounds_toArray, List.set_cons_zero, List.set_cons_succ]
                rfl
              refine one_ (i := 3) (N := (some 59)) #[true, true, true, true, false, false, false] rfl rfl (by kernel_rfl) (by decide) (fun K hK => ?_)
              refine value_ (w1 := wq.drew.alloc (.cells #[.slice A1 N1 c1] 22)) (v := .slice (some ⟨wq.drew.heap.size, 0, none⟩) 1 1) (by rfl) rfl (by go_simp) ?_
              have HQ : Aside0 (Below wq.heap.size wq (wq.drew.alloc (.cells #[.slice A1 N1 c1] 22))) := ⟨((Below.refl _ wq).drew).alloc (Nat.le_refl _) _⟩
              refine hK.out _ _ HQ.out (fun hHeld => ?_)
              clear hK K
              refine norm_ (a' := ?_) ?_ ?_
              rotate_left
              · show Act.put _ (some 59) _ = _
                simp only [Act.put, List.setIfInBounds_toArray, List.set_cons_zero, List.set_cons_succ]
                rfl
              refine one_ (i := 4) (N := (some 60)) #[true, true, true, true, true, false, false] rfl rfl (by kernel_rfl) (by decide) (fun K hK => ?_)
              refine call_ 9 #[.slice A4 M c4, .slice (some ⟨wq.drew.heap.size, 0, none⟩) 1 1] (by rfl) rfl (by go_simp) ?_
              refine (HRUN.out _ _ hHeld (Lit.cell_new wq.drew #[.slice A1 N1 c1] 22 (0, 0) 0)).mono ?_
              rintro e w9 ⟨rfl, hb9⟩
              have HQ2 := Aside0.mk (Sh.below_step2 hHeld hb9)
              clear hb9
              refine ⟨_, rfl, ?_⟩
              refine hK.out _ _ HQ2.out (fun hHeld => ?_)
              clear hK K
              refine norm_ (a' := ?_) ?_ ?_
              rotate_left
              · show Act.put _ (some 60) _ = _
                simp only [Act.put, List.setIfInBounds_toArray, List.set_cons_zero, List.set_cons_succ]
                rfl
              refine pure_ (i := 5) (N := (some 61)) (v := ?_) (a' := ?_) #[true, true, true, true, true, true, false] rfl rfl (by kernel_rfl) (fun _ _ _ h => h) (Or.inl ⟨by rfl, ?_⟩) ?_ ?_
              rotate_left
              · intro w'
                go_simp
                with_reducible rfl
              rotate_left
              · simp only [Act.put, List.setIfInBounds_toArray, List.set_cons_zero, List.set_cons_succ]
                rfl
              refine pure_ (i := 6) (N := (some 6)) (v := ?_) (a' := ?_) #[true, true, true, true, true, true, true] rfl rfl (by kernel_rfl) (fun _ _ _ h => h) (Or.inl ⟨by rfl, ?_⟩) ?_ ?_
              rotate_left
              · intro w'
                go_simp
                with_reducible rfl
              rotate_left
              · simp only [Act.put, List.setIfInBounds_toArray, List.set_cons_zero, List.set_cons_succ]
                rfl
              refine done_ (by kernel_rfl) ?_
              have HBF : Aside0 (Below w.heap.size w w9) := ⟨below_then HBQ.out HBQ.out.size hHeld⟩
              refine NoPanic.normal ?_
              go_wp2_with fail
              go_ret
              exact ⟨by simp, HBF.out⟩
            · go_wp2_with fail
              refine wp_region_noPanic ?_
              refine start_ (n := 7) (S := (fun w' => Below wq.heap.size wq w')) (ds := [6]) #[false, false, false, false, false, false, false] (by kernel_rfl) rfl rfl (Below.refl _ _).drew (fun hHeld => ?_)
              refine take_ (i := 0) (N := (some 56)) (v := ?_) (a' := ?_) #[true, false, false, false, false, false, false] rfl rfl (by kernel_rfl) (fun _ _ _ h => h) (Or.inl ⟨by rfl, ?_⟩) hHeld ?_ ?_
              rotate_left
              · intro w' hS'
                (refine (Sh.load_exec (x := .tmp 7) rfl rfl (HOQ.out _ hS') HI.out).trans ?_)
                with_reducible rfl
              rotate_left
              · simp only [Act.put, List.setIfInBounds_toArray, List.set_cons_zero, List.set_cons_succ]
                rfl
              refine pure_ (i := 1) (N := (some 57)) (v := ?_) (a' := ?_) #[true, true, false, false, false, false, false] rfl rfl (by kernel_rfl) (fun _ _ _ h => h) (Or.inl ⟨by rfl, ?_⟩) ?_ ?_
              rotate_left
              · intro w'
                go_simp
                with_reducible rfl
              rotate_left
              · simp only [Act.put, List.setIfInBounds_toArray, List.set_cons_zero, List.set_cons_succ]
                rfl
              refine pure_ (i := 2) (N := (some 58)) (v := ?_) (a' := ?_) #[true, true, true, false, false, false, false] rfl rfl (by kernel_rfl) (fun _ _ _ h => h) (Or.inl ⟨by rfl, ?_⟩) ?_ ?_
              rotate_left
              · intro w'
                go_simp
                with_reducible rfl
              rotate_left
              · simp only [Act.put, List.setIfInBounds_toArray, List.set_cons_zero, List.set_cons_succ]
                rfl
              refine one_ (i := 3) (N := (some 59)) #[true, true, true, true, false, false, false] rfl rfl (by kernel_rfl) (by decide) (fun K hK => ?_)
              refine value_ (w1 := wq.drew.alloc (.cells #[.slice A1 N1 c1] 22)) (v := .slice (some ⟨wq.drew.heap.size, 0, none⟩) 1 1) (by rfl) rfl (by go_simp) ?_
              have HQ : Aside0 (Below wq.heap.size wq (wq.drew.alloc (.cells #[.slice A1 N1 c1] 22))) := ⟨((Below.refl _ wq).drew).alloc (Nat.le_refl _) _⟩
              refine hK.out _ _ HQ.out (fun hHeld => ?_)
              clear hK K
              refine norm_ (a' := ?_) ?_ ?_
              rotate_left
              · show Act.put _ (some 59) _ = _
                simp only [Act.put, List.setIfInBounds_toArray, List.set_cons_zero, List.set_cons_succ]
                rfl
              refine one_ (i := 4) (N := (some 60)) #[true, true, true, true, true, false, false] rfl rfl (by kernel_rfl) (by decide) (fun K hK => ?_)
              refine call_ 9 #[.slice A4 M c4, .slice (some ⟨wq.drew.heap.size, 0, none⟩) 1 1] (by rfl) rfl (by go_simp) ?_
              refine (HRUN.out _ _ hHeld (Lit.cell_new wq.drew #[.slice A1 N1 c1] 22 (0, 0) 0)).mono ?_
              rintro e w9 ⟨rfl, hb9⟩
              have HQ2 := Aside0.mk (Sh.below_step2 hHeld hb9)
              clear hb9
              refine ⟨_, rfl, ?_⟩
              refine hK.out _ _ HQ2.out (fun hHeld => ?_)
              clear hK K
              refine norm_ (a' := ?_) ?_ ?_
              rotate_left
              · show Act.put _ (some 60) _ = _
                simp only [Act.put, List.setIfInBounds_toArray, List.set_cons_zero, List.set_cons_succ]
                rfl
              refine pure_ (i := 5) (N := (some 61)) (v := ?_) (a' := ?_) #[true, true, true, true, true, true, false] rfl rfl (by kernel_rfl) (fun _ _ _ h => h) (Or.inl ⟨by rfl, ?_⟩) ?_ ?_
              rotate_left
              · intro w'
                go_simp
                with_reducible rfl
              rotate_left
              · simp only [Act.put, List.setIfInBounds_toArray, List.set_cons_zero, List.set_cons_succ]
                rfl
              refine pure_ (i := 6) (N := (some 6)) (v := ?_) (a' := ?_) #[true, true, true, true, true, true, true] rfl rfl (by kernel_rfl) (fun _ _ _ h => h) (Or.inl ⟨by rfl, ?_⟩) ?_ ?_
              rotate_left
              · intro w'
                go_simp
                with_reducible rfl
              rotate_left
              · simp only [Act.put, List.setIfInBounds_toArray, List.set_cons_zero, List.set_cons_succ]
                rfl
              refine done_ (by kernel_rfl) ?_
              have HBF : Aside0 (Below w.heap.size w w9) := ⟨below_then HBQ.out HBQ.out.size hHeld⟩
              refine NoPanic.normal ?_
              go_wp2_with fail
              go_ret
              exact ⟨by simp, HBF.out⟩
#print axioms macKeys_.calls
end Go.Proofs.YthcilikinfhipaaDoor
