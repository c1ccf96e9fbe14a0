/- The contract of mac.digest. -/
import Derived.Test.YthcilikinfhipaaDoorMacM
import Derived.Test.YthcilikinfhipaaDoorShaSum
set_option linter.unusedVariables false
set_option linter.unusedSimpArgs false
namespace Go.Proofs.YthcilikinfhipaaDoor
open Go.RowKit Go.Proofs.YthcilikinfhipaaDoorW.PrintWords Go.Proofs.YthcilikinfhipaaDoorW.PrintLast Go.Proofs.YthcilikinfhipaaDoorW.PrintMore
namespace Sh
/-- slices of bytes that lie in a row -/
def Rows (w : World) (B : Option Addr) (n : Nat) (ps : Nat → List Int) (As : Nat → Option Addr) (Cs : Nat → Nat) : Prop :=
  ∀ i, i < n → ∃ ad, B = some ad ∧ w.cell? (ad.add i) = some (.slice (As i) (ps i).length (Cs i)) ∧ (ps i).length ≤ Cs i ∧ Bytes (ps i) ∧ Kd.C (Kd.int .u8) w (As i) (ps i).length (ps i)
theorem slice_all (b : Nat) (W : World) :
    (Instr.sliceAt 34 (.pointer (some ⟨b, 0, none⟩)) none none none).run Tryd.prog W = .ok (.slice (some ⟨b, 0, none⟩) 64 64) W := by
  rw [run_sliceAt_array_all W 34 ⟨b, 0, none⟩ (by kernel_rfl)]
  rw [show Tryd.prog.arrayLen 34 = 64 by kernel_rfl, show Tryd.prog.elem 34 = 5 by kernel_rfl]
  rw [show (sizeOf 5).run Tryd.prog W = .ok 1 W by kernel_rfl]
  simp [Result.andThen, slicedAt, Addr.add]
/-- what stands in memory while the key's bytes are turned -/
structure Md (w : World) (L : List Int) (wr : World) : Prop where
  k : wr.heap[w.heap.size]? = some (.cells (u8s L) 34 (0, 0))
  o : wr.heap[w.heap.size + 1]? = some (.cells (u8s (List.replicate 32 0)) 25 (0, 0))
  g : Below w.heap.size w wr
theorem Md.put {w : World} {L : List Int} {wr : World} (h : Md w L wr) (k : Nat) (x : Int) : Md w (L.set k x) (wr.setCell ⟨w.heap.size, k, none⟩ (.int .u8 x)) :=
  ⟨by rw [row_set h.k, u8s_set], row_far h.o _ (by omega) _ _, h.g.setCell (p := ⟨w.heap.size, k, none⟩) (Nat.le_refl _) _⟩
/-- what stands in memory while the pieces are taken -/
structure Mp (w : World) (hb : Nat) (acc r : List Int) (wr : World) : Prop where
  h : Ha wr hb acc r
  o : wr.heap[w.heap.size + 1]? = some (.cells (u8s (List.replicate 32 0)) 25 (0, 0))
  g : Below w.heap.size w wr
  n : w.heap.size + 1 < hb
theorem Mp.next {w : World} {hb : Nat} {acc r acc2 r2 : List Int} {wr W : World} (h : Mp w hb acc r wr) (h2 : Ha W hb acc2 r2) (hg : wr.grownBy W (some hb)) : Mp w hb acc2 r2 W :=
  ⟨h2, (hg.block _ (Array.getElem?_eq_some_iff.1 h.o).1 (fun e => by have := Option.some.inj e; have := h.n; omega)).trans h.o, below_of_gb h.g hg (by have := h.n; omega), h.n⟩
end Sh
set_option maxHeartbeats 1600000 in
set_option maxRecDepth 100000 in
theorem digest_.calls (kb : List Int) (t : Int) (B : Option Addr) (n c : Nat) (ps : Nat → List Int) (As : Nat → Option Addr) (Cs : Nat → Nat) (w : World) (hk : Sh.Ks w) (hl : kb.length = 64) (hby : Sh.Bytes kb) (hn : n ≤ 9223372036854775807)
    (hr : Sh.Rows w B n ps As Cs) (hlen : ∀ i, i ≤ n → (Sh.cat ps i).length ≤ 1099510000000) :
    Calls Tryd.prog 16 #[.agg (Sh.u8s kb), .int .u8 t, .slice B n c] w fun e w' => e = .returned (.agg (Sh.u8s (Sh.dig (Sh.turn kb t ++ Sh.cat ps n)))) ∧ Below w.heap.size w w' := by
  have HR := Aside0.mk hr
  have HK := Aside0.mk hk
  have HBY := Aside0.mk hby
  have HLN := Aside0.mk hlen
  have HL := Aside0.mk hl
  clear hr hk hby hlen hl
  obtain ⟨K, HKB⟩ : ∃ K, Aside0 (Sh.u8s kb = K) := ⟨_, ⟨rfl⟩⟩
  rw [HKB.out]
  have HM0 : Aside0 (Sh.Md w (Sh.some64 kb t 0) ((w.alloc (.cells K 34)).alloc (.cells (Sh.u8s (List.replicate 32 0)) 25))) := ⟨by
    refine ⟨?_, ?_, below_alloc (below_alloc (Below.refl _ _) _) _⟩
    · rw [← HKB.out]
      exact (Below.heap_alloc _ _ _ (by show w.heap.size < (w.heap.push _).size; simp)).trans (heap_alloc_new _ _)
    · have := heap_alloc_new (w.alloc (.cells K 34)) (.cells (Sh.u8s (List.replicate 32 0)) 25)
      rwa [show (w.alloc (.cells K 34)).heap.size = w.heap.size + 1 by show (w.heap.push _).size = _; simp] at this⟩
  go_enter Tryd.func16, Tryd.ntmps16
  go_wp2_with fail
  go_loopw [11] (fun v11 wr => ∃ k : Nat, v11 = .int .i64 k ∧ k ≤ 64 ∧ Aside0 (Sh.Md w (Sh.some64 kb t k) wr)) (fun v _ => 64 - (intOf v).toNat)
  case atStart => exact ⟨0, rfl, by omega, HM0⟩
  case round =>
    clear HM0
    obtain ⟨k, rfl, hk, HM⟩ := hrel
    by_cases hlt : k < 64
    · obtain ⟨e1, e2⟩ := Sh.some64_at kb t k (by rw [HL.out]; exact hlt)
      have cu := Sh.cellAt HM.out.k k _ (Sh.u8s_at _ k (by rw [Sh.some64_length, HL.out]; exact hlt))
      have fu := Sh.frozenAt HM.out.k k
      rw [e1] at cu
      have HN2 : Aside0 (Sh.Md w (Sh.some64 kb t (k + 1)) (wr.setCell ⟨w.heap.size, k, none⟩ (.int .u8 (bits .xor .u8 (kb.getD k 0) t)))) := ⟨by
        have := HM.out.put k (bits .xor .u8 (kb.getD k 0) t)
        rwa [e2] at this⟩
      clear e1 e2 HM
      generalize kb.getD k 0 = y at *
      go_wp2_with fail
      exact ⟨⟨k + 1, by go_num, by omega, HN2⟩, by simp [intOf]; omega⟩
    · obtain rfl : k = 64 := by omega
      have HT : Aside0 (Sh.Md w (Sh.turn kb t) wr) := ⟨by
        have := HM.out
        rwa [Sh.some64, List.take_of_length_le (by rw [Sh.turn_length, HL.out]; exact Nat.le_refl _), List.drop_of_length_le (by rw [HL.out]; exact Nat.le_refl _), List.append_nil] at this⟩
      clear HM hlt hk
      obtain ⟨wq, rfl⟩ : ∃ q : World, q = wr := ⟨_, rfl⟩
      go_wp2_with fail
      refine (new_.calls wq).mono ?_
      rintro e w2 ⟨rfl, h2, hb2⟩
      obtain ⟨hb, HHB⟩ : ∃ b, Aside0 (wq.heap.size = b) := ⟨_, ⟨rfl⟩⟩
      have HP2 : Aside0 (Sh.Mp w hb [] (List.replicate 64 0) w2) := ⟨⟨by rw [← HHB.out]; exact h2, (hb2.block _ (Array.getElem?_eq_some_iff.1 HT.out.o).1).trans HT.out.o, below_then HT.out.g HT.out.g.size hb2, by rw [← HHB.out]; exact (Array.getElem?_eq_some_iff.1 HT.out.o).1⟩⟩
      have HC2 : Aside0 (Kd.C (Kd.int .u8) w2 (some ⟨w.heap.size, 0, none⟩) 64 (Sh.turn kb t)) := ⟨by
        have hk2 : w2.heap[w.heap.size]? = some (.cells (Sh.u8s (Sh.turn kb t)) 34 (0, 0)) := (hb2.block _ (Array.getElem?_eq_some_iff.1 HT.out.k).1).trans HT.out.k
        have := Lit.reads_block hk2 .u8 (Sh.turn kb t) (by simp [Sh.u8s]) (by rw [Sh.turn_length, HL.out]; decide)
        rwa [Sh.turn_length, HL.out] at this⟩
      rw [HHB.out]
      clear h2 hb2 HT HHB
      have hsl := Sh.slice_all w.heap.size
      have HF : Aside0 (Calls Tryd.prog 14 #[.pointer (some ⟨hb, 0, none⟩), .slice (some ⟨w.heap.size, 0, none⟩) 64 64] w2 fun e w' => e = .returned (.tuple #[]) ∧ (∃ rest', Sh.Ha w' hb (Sh.turn kb t) rest') ∧ w2.grownBy w' (some hb)) := ⟨by
        have hTL : (Sh.turn kb t).length = 64 := by rw [Sh.turn_length, HL.out]
        have := write_.calls hb [] _ (some ⟨w.heap.size, 0, none⟩) 64 (Sh.turn kb t) w2 HP2.out.h (by have := HP2.out.n; omega) (HK.out.below HP2.out.g) (by rw [hTL]; exact HC2.out) (by rw [hTL]; exact Nat.le_refl _) (fun _ a e => by obtain rfl := Option.some.inj e; show w.heap.size ≠ hb; have := HP2.out.n; omega) (Sh.turn_bytes _ _) (by rw [hTL]; simp)
        rw [hTL, List.nil_append] at this
        exact this⟩
      go_wp2_with fail
      refine HF.out.mono ?_
      rintro e w3 ⟨rfl, ⟨r3, h3⟩, g3⟩
      have HP3 : Aside0 (Sh.Mp w hb (Sh.turn kb t ++ Sh.cat ps 0) r3 w3) := ⟨by rw [Sh.cat, List.append_nil]; exact HP2.out.next h3 g3⟩
      clear h3 g3 HF HP2 HC2 hsl
      go_wp2_with fail
      go_loopw [27] (fun v27 wr => ∃ (i : Nat) (r : List Int), v27 = .int .i64 i ∧ i ≤ n ∧ Aside0 (Sh.Mp w hb (Sh.turn kb t ++ Sh.cat ps i) r wr)) (fun v _ => n - (intOf v).toNat)
      case atStart => exact ⟨0, r3, rfl, Nat.zero_le _, HP3⟩
      case round =>
        clear HP3
        obtain ⟨i, r, rfl, hi, HP⟩ := hrel
        by_cases hlt : i < n
        · obtain ⟨ad, e1, hcell, hlc, hpb, hpC⟩ := HR.out i hlt
          subst e1
          obtain ⟨L, HLL⟩ : ∃ L, Aside0 ((ps i).length = L) := ⟨_, ⟨rfl⟩⟩
          rw [HLL.out] at hcell hlc
          obtain ⟨Ai, HAi⟩ : ∃ a, Aside0 (As i = a) := ⟨_, ⟨rfl⟩⟩
          obtain ⟨Ci, HCi⟩ : ∃ a, Aside0 (Cs i = a) := ⟨_, ⟨rfl⟩⟩
          have hx : wr.cell? (ad.add i) = some (.slice Ai L Ci) := by
            rw [← HAi.out, ← HCi.out]
            exact (HP.out.g.cell (World.block_lt_of_cell? w _ hcell)).trans hcell
          have HF : Aside0 (Calls Tryd.prog 14 #[.pointer (some ⟨hb, 0, none⟩), .slice Ai L Ci] wr fun e w' => e = .returned (.tuple #[]) ∧ (∃ rest', Sh.Ha w' hb (Sh.turn kb t ++ Sh.cat ps (i + 1)) rest') ∧ wr.grownBy w' (some hb)) := ⟨by
            rw [HAi.out] at hpC
            have hlen := HLN.out (i + 1) hlt
            rw [Sh.cat, List.length_append] at hlen
            have := write_.calls hb (Sh.turn kb t ++ Sh.cat ps i) r Ai Ci (ps i) wr HP.out.h (by have := HP.out.n; omega) (HK.out.below HP.out.g) (Kd.C_below hpC HP.out.g) (by rw [HLL.out, ← HCi.out]; exact hlc)
              (fun hl a e => Sh.far_of_C hpC hl e (by have := HP.out.n; omega)) hpb (by rw [List.length_append, Sh.turn_length, HL.out]; omega)
            rw [HLL.out, List.append_assoc] at this
            exact this⟩
          clear hcell hlc hpb hpC
          go_wp2_with fail
          refine HF.out.mono ?_
          rintro e w4 ⟨rfl, ⟨r4, h4⟩, g4⟩
          have HP4 := Aside0.mk (HP.out.next h4 g4)
          clear h4 g4 HF HP hx
          go_wp2_with fail
          exact ⟨⟨i + 1, r4, by go_num, by omega, HP4⟩, by simp [intOf]; omega⟩
        · obtain rfl : i = n := by omega
          obtain ⟨D, HDD⟩ : ∃ D, Aside0 (Sh.u8s (Sh.dig (Sh.turn kb t ++ Sh.cat ps i)) = D) := ⟨_, ⟨rfl⟩⟩
          have HF : Aside0 (Calls Tryd.prog 15 #[.pointer (some ⟨hb, 0, none⟩)] wr fun e w' => e = .returned (.agg D) ∧ Below wr.heap.size wr w') := ⟨by
            have := sum_.calls hb (Sh.turn kb t ++ Sh.cat ps i) r wr HP.out.h (HK.out.below HP.out.g) (Sh.app_bytes (Sh.turn_bytes _ _) (Sh.cat_bytes ps i (fun j hj => (HR.out j hj).choose_spec.2.2.2.1) i (Nat.le_refl _))) (by rw [List.length_append, Sh.turn_length, HL.out]; have := HLN.out i (Nat.le_refl _); omega)
            rw [HDD.out] at this
            exact this⟩
          go_wp2_with fail
          refine HF.out.mono ?_
          rintro e w4 ⟨rfl, hb4⟩
          have HB4 : Aside0 (Below w.heap.size w w4) := ⟨below_then HP.out.g HP.out.g.size hb4⟩
          have HO4 : Aside0 (w4.heap[w.heap.size + 1]? = some (.cells (Sh.u8s (List.replicate 32 0)) 25 (0, 0))) := ⟨(hb4.block _ (Array.getElem?_eq_some_iff.1 HP.out.o).1).trans HP.out.o⟩
          clear hb4 HF HP
          have hl32 := Sh.dig_length (Sh.turn kb t ++ Sh.cat ps i)
          have hDs : D.size = 32 := by rw [← HDD.out]; simp [Sh.u8s, hl32]
          have HS : Aside0 ((Tryd.prog.info? 25).map (·.size) = some D.size) := ⟨by rw [hDs]; kernel_rfl⟩
          have HZ2 : Aside0 ((Sh.u8s (List.replicate 32 0)).size = D.size) := ⟨by rw [hDs]; rfl⟩
          have HONE : Aside0 (D.all (·.oneCell') = true) := ⟨by rw [← HDD.out]; simp [Sh.u8s, Value.oneCell']⟩
          clear hDs hl32
          go_wp2_with (refine wpList_store_row rfl 25 (.tmp 6) (.tmp 36) rfl (w.heap.size + 1) D rfl rfl 25 _ HO4.out HS.out HZ2.out HONE.out ?_)
          refine ⟨rfl, .agg D, ?_, by rw [HDD.out], below_setRow HB4.out (Nat.le_succ _) D⟩
          exact results_cell_row rfl _ _ (w.heap.size + 1) 25 D (0, 0) _ rfl (setRow_heap w4 (w.heap.size + 1) _ D _ _ HO4.out) Tryd.underlying25 rfl HS.out
#print axioms digest_.calls
end Go.Proofs.YthcilikinfhipaaDoor
