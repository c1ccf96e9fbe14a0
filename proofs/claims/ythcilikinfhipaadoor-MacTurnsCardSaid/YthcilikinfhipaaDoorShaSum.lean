/- The contracts of sha.New and Sum. -/
import Derived.Test.YthcilikinfhipaaDoorShaWr
import Derived.Test.YthcilikinfhipaaDoorLit
import Derived.Laws.Rows
set_option linter.unusedVariables false
set_option linter.unusedSimpArgs false
namespace Go.Proofs.YthcilikinfhipaaDoor
open Go.RowKit Go.Proofs.YthcilikinfhipaaDoorW.PrintWords Go.Proofs.YthcilikinfhipaaDoorW.PrintLast
namespace Sh
theorem ha_new (w : World) : Ha (w.alloc (.cells (hc v0.list (List.replicate 64 0) 0) 47)) w.heap.size [] (List.replicate 64 0) :=
  ⟨rfl, rfl, by intro x hx; obtain ⟨_, rfl⟩ := List.mem_replicate.1 hx; omega, heap_alloc_new _ _⟩
/-- a hash's zero value -/
def z73 : Array Value := hc (List.replicate 8 0) (List.replicate 64 0) 0
theorem z73_size : z73.size = 73 := rfl
theorem z73_zero (w : World) : (zeroValue 47).run Tryd.prog w = .ok (.agg z73) w := by kernel_rfl
theorem z73_set : ((((((((z73.setIfInBounds 0 (.int .u32 1779033703)).setIfInBounds 1 (.int .u32 3144134277)).setIfInBounds 2 (.int .u32 1013904242)).setIfInBounds 3 (.int .u32 2773480762)).setIfInBounds 4 (.int .u32 1359893119)).setIfInBounds 5 (.int .u32 2600822924)).setIfInBounds 6 (.int .u32 528734635)).setIfInBounds 7 (.int .u32 1541459225)) = hc v0.list (List.replicate 64 0) 0 := by kernel_rfl
end Sh
set_option maxHeartbeats 1000000 in
set_option maxRecDepth 100000 in
theorem new_.calls (w : World) : Calls Tryd.prog 13 #[] w fun e w' => e = .returned (.pointer (some ⟨w.heap.size, 0, none⟩)) ∧ Sh.Ha w' w.heap.size [] (List.replicate 64 0) ∧ Below w.heap.size w w' := by
  have HN := Aside0.mk (Sh.ha_new w)
  have hz := Sh.z73_zero
  have hz2 := Sh.z73_size
  have hz3 := Sh.z73_set
  generalize Sh.hc Sh.v0.list (List.replicate 64 0) 0 = C at *
  generalize Sh.z73 = Z at *
  go_enter Tryd.func13, Tryd.ntmps13
  go_wp2_with fail
  go_ret
  exact ⟨rfl, HN.out, below_alloc (Below.refl _ _) _⟩
namespace Sh
def u8s (l : List Int) : Array Value := (l.map (Value.int .u8)).toArray
/-- what stands in memory while the digest is made: the copy, and the place of the result -/
structure Sm (w : World) (bs : List Int) (rest : List Int) (wr : World) : Prop where
  o : wr.heap[w.heap.size]? = some (.cells (u8s (List.replicate 32 0)) 25 (0, 0))
  h : Ha wr (w.heap.size + 1) bs rest
  g : Below w.heap.size w wr
  k : Ks w
theorem u8s_at (l : List Int) (i : Nat) (h : i < l.length) : (u8s l)[i]? = some (.int .u8 (l.getD i 0)) := by
  simp [u8s, List.getD_eq_getElem?_getD, List.getElem?_eq_getElem h]
theorem u8s_set (l : List Int) (i : Nat) (x : Int) : (u8s l).setIfInBounds i (.int .u8 x) = u8s (l.set i x) := by
  simp [u8s, List.map_set]
theorem be8_take (x : Int) (i : Nat) (hi : i < 8) : (be8 x).take (i + 1) = (be8 x).take i ++ [x / 2 ^ (56 - 8 * i) % 256] := by
  rw [List.take_add_one]
  simp [be8, hi]
theorem put_next (xs : List Int) (n k : Nat) (hn : xs.length = n) (hk : k < n) (x : Int) (hx : xs.getD k 0 = x) : (xs.take k ++ List.replicate (n - k) 0).set k x = xs.take (k + 1) ++ List.replicate (n - (k + 1)) 0 := by
  have hl : (xs.take k).length = k := by rw [List.length_take]; omega
  rw [List.set_append_right _ _ (by omega), hl, Nat.sub_self, List.take_add_one, List.getElem?_eq_getElem (by omega), show n - k = (n - (k + 1)) + 1 by omega, List.replicate_succ]
  rw [List.getD_eq_getElem?_getD, List.getElem?_eq_getElem (by omega)] at hx
  simp only [Option.getD_some] at hx
  simp [hx]
theorem outs_at (s : V) (k : Nat) (hk : k < 32) : (outs s).getD k 0 = s.list.getD (k / 4) 0 / 2 ^ (24 - k % 4 * 8) % 256 := by
  simp [outs, List.getD_eq_getElem?_getD, hk]
/-- what stands in memory while the digest is laid out -/
structure S3 (w : World) (b : Nat) (C : Array Value) (L : List Int) (wr : World) : Prop where
  o : wr.heap[w.heap.size]? = some (.cells (u8s (List.replicate 32 0)) 25 (0, 0))
  h : wr.heap[w.heap.size + 1]? = some (.cells C 47 (0, 0))
  u : wr.heap[b]? = some (.cells (u8s L) 25 (0, 0))
  g : Below w.heap.size w wr
  lt : w.heap.size + 1 < b
theorem S3.put {w : World} {b : Nat} {C : Array Value} {L : List Int} {wr : World} (h : S3 w b C L wr) (k : Nat) (x : Int) : S3 w b C (L.set k x) (wr.setCell ⟨b, k, none⟩ (.int .u8 x)) :=
  ⟨row_far h.o _ (by have := h.lt; omega) _ _, row_far h.h _ (by have := h.lt; omega) _ _, by rw [row_set h.u, u8s_set], h.g.setCell (p := ⟨b, k, none⟩) (by show w.heap.size ≤ b; have := h.lt; omega) _, h.lt⟩
theorem Sm.write {w wr : World} {bs rest : List Int} (h : Sm w bs rest wr) (x : Int) (hx : 0 ≤ x ∧ x ≤ 255) (hl : bs.length + 1 ≤ 1099511627776) :
    Calls Tryd.prog 14 #[.pointer (some ⟨w.heap.size + 1, 0, none⟩), .slice (some ⟨wr.heap.size, 0, none⟩) 1 1] (wr.alloc (.cells #[.int .u8 x] 5)) fun e w' => e = .returned (.tuple #[]) ∧ ∃ rest', Sm w (bs ++ [x]) rest' w' := by
  have hlt : w.heap.size + 1 < wr.heap.size := (Array.getElem?_eq_some_iff.1 h.h.h).1
  have b1 : ∀ k, k < wr.heap.size → (wr.alloc (.cells #[.int .u8 x] 5)).heap[k]? = wr.heap[k]? := fun k hk => Below.heap_alloc _ _ _ hk
  have g1 : Below w.heap.size w (wr.alloc (.cells #[.int .u8 x] 5)) := h.g.alloc h.g.size _
  refine (write_.calls (w.heap.size + 1) bs rest (some ⟨wr.heap.size, 0, none⟩) 1 [x] _ ⟨h.h.len, h.h.tl, h.h.by_, (b1 _ hlt).trans h.h.h⟩ (by omega) (h.k.below g1) (Lit.reads_new wr #[.int .u8 x] 5 (0, 0) .u8 [x] rfl (by simp)) (Nat.le_refl _)
    (fun _ a e => by obtain rfl := Option.some.inj e; show wr.heap.size ≠ _; omega) (by intro y hy; obtain rfl := List.mem_singleton.1 hy; exact hx) (by simpa using hl)).mono ?_
  rintro e w' ⟨rfl, ⟨rest', h2⟩, g2⟩
  refine ⟨rfl, rest', ⟨?_, h2, ?_, h.k⟩⟩
  · exact (g2.block _ (by show w.heap.size < (wr.heap.push _).size; rw [Array.size_push]; omega) (by simp)).trans ((b1 _ (by omega)).trans h.o)
  · exact ⟨g2.os.trans g1.os, g2.tape.trans g1.tape, g2.output.trans g1.output, Nat.le_trans g1.size g2.size, fun k hk => (g2.block k (by show k < (wr.heap.push _).size; rw [Array.size_push]; omega) (by intro e; have := Option.some.inj e; omega)).trans (g1.block k hk)⟩
end Sh
set_option maxHeartbeats 2000000 in
set_option maxRecDepth 100000 in
theorem sum_.calls (hb : Nat) (bs rest : List Int) (w : World) (hH : Sh.Ha w hb bs rest) (hk : Sh.Ks w) (hby : Sh.Bytes bs) (hlen : bs.length ≤ 1099511000000) :
    Calls Tryd.prog 15 #[.pointer (some ⟨hb, 0, none⟩)] w fun e w' => e = .returned (.agg (Sh.u8s (Sh.dig bs))) ∧ Below w.heap.size w w' := by
  have HH := Aside0.mk hH
  have HK := Aside0.mk hk
  have hlt : hb < w.heap.size := (Array.getElem?_eq_some_iff.1 hH.h).1
  clear hH hk hby
  obtain ⟨C, HC⟩ : ∃ C, Aside0 (Sh.hc (Sh.state bs).list rest bs.length = C) := ⟨_, ⟨rfl⟩⟩
  have hz := Sh.z73_zero
  obtain ⟨Z, HZ⟩ : ∃ Z, Aside0 (Sh.z73 = Z) := ⟨_, ⟨rfl⟩⟩
  rw [HZ.out] at hz
  go_enter Tryd.func15, Tryd.ntmps15
  have HG1 : Aside0 ((w.alloc (.cells (Sh.u8s (List.replicate 32 0)) 25)).heap[hb]? = some (.cells C 47 (0, 0))) := ⟨by
    rw [← HC.out]
    exact (Below.heap_alloc _ _ _ hlt).trans HH.out.h⟩
  have HG2 : Aside0 (((w.alloc (.cells (Sh.u8s (List.replicate 32 0)) 25)).alloc (.cells Z 47)).heap[w.heap.size + 1]? = some (.cells Z 47 (0, 0))) := ⟨by
    have := heap_alloc_new (w.alloc (.cells (Sh.u8s (List.replicate 32 0)) 25)) (.cells Z 47)
    rwa [show (w.alloc (.cells (Sh.u8s (List.replicate 32 0)) 25)).heap.size = w.heap.size + 1 by show (w.heap.push _).size = _; simp] at this⟩
  have hCs : C.size = 73 := by rw [← HC.out]; simp [Sh.hc, Sh.list_length, HH.out.len]
  have HS : Aside0 ((Tryd.prog.info? 47).map (·.size) = some C.size) := ⟨by rw [hCs]; kernel_rfl⟩
  have HZC : Aside0 (Z.size = C.size) := ⟨by rw [hCs, ← HZ.out]; rfl⟩
  have HONE : Aside0 (C.all (·.oneCell') = true) := ⟨by rw [← HC.out]; simp [Sh.hc, Value.oneCell']⟩
  clear hCs
  have HSM : Aside0 (Sh.Sm w bs rest (((w.alloc (.cells (Sh.u8s (List.replicate 32 0)) 25)).alloc (.cells Z 47)).setRow (w.heap.size + 1) C)) := ⟨by
    refine ⟨?_, ⟨HH.out.len, HH.out.tl, HH.out.by_, ?_⟩, ?_, HK.out⟩
    · rw [setRow_other _ _ _ _ (by omega)]
      exact (Below.heap_alloc _ _ _ (by show w.heap.size < (w.heap.push _).size; simp)).trans (heap_alloc_new _ _)
    · rw [HC.out]
      exact setRow_heap _ _ _ _ _ _ HG2.out
    · exact below_setRow (below_alloc (below_alloc (Below.refl _ _) _) _) (by omega) _⟩
  obtain ⟨N, HN⟩ : ∃ N, Aside0 (bs.length = N) := ⟨_, ⟨rfl⟩⟩
  have hN : N ≤ 1099511000000 := by rw [← HN.out]; exact hlen
  go_wp2_with (first | (refine wpList_load_row rfl 47 (.tmp 9) rfl hb rfl 47 C (0, 0) _ HG1.out Tryd.underlying47 rfl HS.out ?_) | (refine wpList_store_row rfl 47 (.tmp 3) (.tmp 10) rfl (w.heap.size + 1) C rfl rfl 47 Z HG2.out HS.out HZC.out HONE.out ?_; generalize hWq : World.setRow _ (w.heap.size + 1) C = W; have HM : Aside0 (Sh.Sm w bs rest W) := ⟨by rw [← hWq]; exact HSM.out⟩; have cn := Sh.cell_n HM.out.h; rw [HN.out] at cn; clear hWq))
  clear cn HG1 HG2 HSM HS HZC HONE HZ hz HC HH
  refine (HM.out.write 128 (by omega) (by rw [HN.out]; omega)).mono ?_
  rintro e w1 ⟨rfl, rest1, h1⟩
  have H1 := Aside0.mk h1
  clear h1 HM
  go_wp2_with fail
  go_loopw [20] (fun _ wr => ∃ (z : Nat) (rest' : List Int), z ≤ Sh.zeros N ∧ Aside0 (Sh.Sm w (bs ++ [128] ++ List.replicate z 0) rest' wr)) (fun _ wr => match wr.cell? ⟨w.heap.size + 1, 72, none⟩ with | some (.int _ n) => ((120 - n) % 64).toNat | _ => 0)
  case atStart => exact ⟨0, rest1, Nat.zero_le _, ⟨by simpa using H1.out⟩⟩
  case round =>
    clear H1
    obtain ⟨z, rest', hz, HM⟩ := hrel
    have hzn : Sh.zeros N = (119 - N % 64) % 64 := rfl
    have cm := Sh.cell_n HM.out.h
    obtain ⟨M, HMd⟩ : ∃ M, Aside0 ((bs ++ [128] ++ List.replicate z 0).length = M) := ⟨_, ⟨rfl⟩⟩
    have hM : M = N + 1 + z := by rw [← HMd.out, ← HN.out, List.length_append, List.length_append, List.length_replicate]; rfl
    rw [HMd.out] at cm
    by_cases hlt2 : z < Sh.zeros N
    · have ht3 : ¬ (M : Int) % 64 = 56 := by omega
      have ht2 : ((M : Int) % 64 != 56) = true := by simpa using ht3
      clear ht3
      have HMN := Aside0.mk hM
      have HZN := Aside0.mk hzn
      clear hM hzn
      go_wp2_with fail
      refine (HM.out.write 0 (by omega) (by rw [HMd.out, HMN.out]; have := HZN.out; omega)).mono ?_
      rintro e w2 ⟨rfl, rest2, h2⟩
      have cm2 := Sh.cell_n h2.h
      have H2 : Aside0 (Sh.Sm w (bs ++ [128] ++ List.replicate (z + 1) 0) rest2 w2) := ⟨by
        rw [List.replicate_succ', ← List.append_assoc]; exact h2⟩
      rw [List.length_append, HMd.out] at cm2
      have CM := Aside0.mk cm
      have CM2 := Aside0.mk cm2
      clear h2 cm cm2 HM
      go_wp2_with fail
      refine ⟨⟨z + 1, rest2, by omega, H2⟩, ?_⟩
      rw [CM.out, CM2.out]
      simp only [List.length_cons, List.length_nil]
      have := HMN.out
      have := HZN.out
      omega
    · obtain rfl : z = Sh.zeros N := by omega
      have ht : (M : Int) % 64 = 56 := by omega
      clear hM hzn
      go_wp2_with fail
      clear cm ht
      obtain ⟨P0, HP0⟩ : ∃ P, Aside0 (bs ++ [128] ++ List.replicate (Sh.zeros N) 0 = P) := ⟨_, ⟨rfl⟩⟩
      have HM0 : Aside0 (Sh.Sm w (P0 ++ (Sh.be8 (N * 8)).take 0) rest' wr) := ⟨by rw [← HP0.out]; simpa using HM.out⟩
      have HPL : Aside0 (P0.length = M) := ⟨by rw [← HP0.out]; exact HMd.out⟩
      have hMM : M ≤ N + 64 := by
        have : Sh.zeros N = (119 - N % 64) % 64 := rfl
        have := HMd.out
        rw [List.length_append, List.length_append, List.length_replicate, HN.out] at this
        simp only [List.length_cons, List.length_nil] at this
        omega
      clear HM HMd hz hlt2
      go_loopw [22] (fun v22 wr => ∃ (i : Nat) (rest' : List Int), v22 = .int .i64 i ∧ i ≤ 8 ∧ Aside0 (Sh.Sm w (P0 ++ (Sh.be8 (N * 8)).take i) rest' wr)) (fun v _ => 8 - (intOf v).toNat)
      case atStart => exact ⟨0, rest', rfl, by omega, HM0⟩
      case round =>
        clear HM0
        obtain ⟨i, rest', rfl, hi, HM⟩ := hrel
        by_cases hlt3 : i < 8
        · go_wp2_with fail
          have hx0 : 0 ≤ (N : Int) * 8 / 2 ^ (56 - 8 * i) % 256 := by omega
          have hx1 : (N : Int) * 8 / 2 ^ (56 - 8 * i) % 256 ≤ 255 := by omega
          refine (HM.out.write _ ⟨hx0, hx1⟩ (by rw [List.length_append, HPL.out, List.length_take]; omega)).mono ?_
          rintro e w2 ⟨rfl, rest2, h2⟩
          have H2 : Aside0 (Sh.Sm w (P0 ++ (Sh.be8 (N * 8)).take (i + 1)) rest2 w2) := ⟨by
            rw [Sh.be8_take _ _ hlt3, ← List.append_assoc]; exact h2⟩
          clear h2 hx0 hx1 HM
          go_wp2_with fail
          exact ⟨⟨i + 1, rest2, by go_num, by omega, H2⟩, by simp [intOf]; omega⟩
        · obtain rfl : i = 8 := by omega
          have HP : Aside0 (P0 ++ (Sh.be8 (N * 8)).take 8 = Sh.padded bs) := ⟨by
            rw [List.take_of_length_le (by rw [Sh.be8_length]; exact Nat.le_refl _), ← HP0.out, ← HN.out]; rfl⟩
          rw [HP.out] at HM
          obtain ⟨st, HST⟩ : ∃ st, Aside0 (Sh.state (Sh.padded bs) = st) := ⟨_, ⟨rfl⟩⟩
          obtain ⟨C3, HC3⟩ : ∃ C, Aside0 (Sh.hc st.list rest' (Sh.padded bs).length = C) := ⟨_, ⟨rfl⟩⟩
          have hltb : w.heap.size + 1 < wr.heap.size := (Array.getElem?_eq_some_iff.1 HM.out.h.h).1
          have HS3 : Aside0 (Sh.S3 w wr.heap.size C3 ((Sh.outs st).take 0 ++ List.replicate (32 - 0) 0) (wr.alloc (.cells (Sh.u8s (List.replicate 32 0)) 25))) := ⟨by
            refine ⟨(Below.heap_alloc _ _ _ (by omega)).trans HM.out.o, ?_, heap_alloc_new _ _, HM.out.g.alloc HM.out.g.size _, hltb⟩
            rw [← HC3.out, ← HST.out]
            exact (Below.heap_alloc _ _ _ hltb).trans HM.out.h.h⟩
          have HSUM : Aside0 (∀ j, j < 8 → C3[j]? = some (.int .u32 (st.list.getD j 0))) := ⟨fun j hj => by rw [← HC3.out]; exact Sh.hc_sum _ _ _ _ hj⟩
          have HD : Aside0 (Sh.dig bs = Sh.outs st) := ⟨by rw [Sh.dig, HST.out]⟩
          clear HM HP HP0 HPL HC3 HST
          go_wp2_with fail
          obtain ⟨b, HB⟩ : ∃ b, Aside0 (wr.heap.size = b) := ⟨_, ⟨rfl⟩⟩
          rw [HB.out] at HS3 ⊢
          go_loopw [34] (fun v34 wr => ∃ k : Nat, v34 = .int .i64 k ∧ k ≤ 32 ∧ Aside0 (Sh.S3 w b C3 ((Sh.outs st).take k ++ List.replicate (32 - k) 0) wr)) (fun v _ => 32 - (intOf v).toNat)
          case atStart => exact ⟨0, rfl, by omega, HS3⟩
          case round =>
            clear HS3
            obtain ⟨k, rfl, hk, HM⟩ := hrel
            by_cases hlt4 : k < 32
            · have cs := Sh.cellAt HM.out.h (k / 4) _ (HSUM.out (k / 4) (by omega))
              have hl32 : ((Sh.outs st).take k ++ List.replicate (32 - k) 0).length = 32 := by rw [List.length_append, List.length_take, Sh.outs_length, List.length_replicate]; omega
              have cu := Sh.cellAt HM.out.u k _ (Sh.u8s_at _ k (by rw [hl32]; exact hlt4))
              have fu := Sh.frozenAt HM.out.u k
              clear hl32
              generalize ((Sh.outs st).take k ++ List.replicate (32 - k) 0).getD k 0 = old at cu
              go_wp2_with fail
              have HN2 : Aside0 (Sh.S3 w b C3 ((Sh.outs st).take (k + 1) ++ List.replicate (32 - (k + 1)) 0) (wr.setCell ⟨b, k, none⟩ (.int .u8 (st.list.getD (k / 4) 0 / 2 ^ (24 - k % 4 * 8) % 256)))) := ⟨by
                have := HM.out.put k (st.list.getD (k / 4) 0 / 2 ^ (24 - k % 4 * 8) % 256)
                rwa [Sh.put_next _ 32 k (Sh.outs_length st) hlt4 _ (Sh.outs_at st k hlt4)] at this⟩
              rw [List.getD_eq_getElem?_getD] at HN2
              exact ⟨⟨k + 1, by go_num, by omega, HN2⟩, by simp [intOf]; omega⟩
            · obtain rfl : k = 32 := by omega
              have hL : (Sh.outs st).take 32 ++ List.replicate (32 - 32) 0 = Sh.outs st := by
                rw [List.take_of_length_le (by rw [Sh.outs_length]; exact Nat.le_refl _)]; simp
              rw [hL] at HM
              clear hL
              have hl32 : (Sh.outs st).length = 32 := Sh.outs_length st
              obtain ⟨D, HDD⟩ : ∃ D, Aside0 (Sh.u8s (Sh.outs st) = D) := ⟨_, ⟨rfl⟩⟩
              have hDs : D.size = 32 := by rw [← HDD.out]; simp [Sh.u8s, hl32]
              have HS : Aside0 ((Tryd.prog.info? 25).map (·.size) = some D.size) := ⟨by rw [hDs]; kernel_rfl⟩
              have HU : Aside0 (wr.heap[b]? = some (.cells D 25 (0, 0))) := ⟨by rw [← HDD.out]; exact HM.out.u⟩
              have HZ2 : Aside0 ((Sh.u8s (List.replicate 32 0)).size = D.size) := ⟨by rw [hDs]; rfl⟩
              have HONE : Aside0 (D.all (·.oneCell') = true) := ⟨by rw [← HDD.out]; simp [Sh.u8s, Value.oneCell']⟩
              have HO := Aside0.mk HM.out.o
              clear hDs hl32
              go_wp2_with (first | (refine wpList_load_row rfl 25 (.tmp 6) rfl b rfl 25 D (0, 0) _ HU.out Tryd.underlying25 rfl HS.out ?_) | (refine wpList_store_row rfl 25 (.tmp 2) (.tmp 51) rfl w.heap.size D rfl rfl 25 _ HO.out HS.out HZ2.out HONE.out ?_))
              refine ⟨rfl, .agg D, ?_, ?_, below_setRow HM.out.g (Nat.le_refl _) D⟩
              · exact results_cell_row rfl _ _ w.heap.size 25 D (0, 0) _ rfl (setRow_heap wr w.heap.size _ D _ _ HO.out) Tryd.underlying25 rfl HS.out
              · rw [HD.out, HDD.out]
#print axioms new_.calls
#print axioms sum_.calls
end Go.Proofs.YthcilikinfhipaaDoor
