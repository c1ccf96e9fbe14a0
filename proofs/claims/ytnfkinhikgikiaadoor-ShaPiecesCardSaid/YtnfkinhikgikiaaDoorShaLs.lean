/- The contract of the law's own sum. -/
import Derived.Test.YtnfkinhikgikiaaDoorShaK
set_option linter.unusedVariables false
set_option linter.unusedSimpArgs false
namespace Go.Proofs.YtnfkinhikgikiaaDoor
open Go.RowKit Go.Proofs.YtnfkinhikgikiaaDoorW.PrintWords Go.Proofs.YtnfkinhikgikiaaDoorW.PrintLast Go.Proofs.YtnfkinhikgikiaaDoorW.PrintMore
set_option maxHeartbeats 600000 in
set_option maxRecDepth 100000 in
theorem lawsum_.calls (A : Option Addr) (c : Nat) (l : List Int) (w : World) (hk : Sh.Ks w) (hr : Kd.C (Kd.int .u8) w A l.length l) (hc : l.length ≤ c) (hby : Sh.Bytes l) (hlen : l.length ≤ 1099511000000) :
    Calls Tryd.prog 8 #[.slice A l.length c] w fun e w' => e = .returned (.agg (Sh.u8s (Sh.dig l))) ∧ Below w.heap.size w w' := by
  have HR := Aside0.mk hr
  have HBY := Aside0.mk hby
  have HK := Aside0.mk hk
  clear hr hby hk
  obtain ⟨N, HN⟩ : ∃ N, Aside0 (l.length = N) := ⟨_, ⟨rfl⟩⟩
  have hN : N ≤ 1099511000000 := by rw [← HN.out]; exact hlen
  have hcN : N ≤ c := by rw [← HN.out]; exact hc
  rw [HN.out]
  obtain ⟨w0, HW0⟩ : ∃ w0, Aside0 (w.alloc (.cells (Sh.u8s (List.replicate 32 0)) 25) = w0) := ⟨_, ⟨rfl⟩⟩
  have hsz0 : w0.heap.size = w.heap.size + 1 := by rw [← HW0.out]; show (w.heap.push _).size = _; simp
  have HO : Aside0 (w0.heap[w.heap.size]? = some (.cells (Sh.u8s (List.replicate 32 0)) 25 (0, 0))) := ⟨by rw [← HW0.out]; exact heap_alloc_new _ _⟩
  have HB0 : Aside0 (Below w.heap.size w w0) := ⟨by rw [← HW0.out]; exact below_alloc (Below.refl _ _) _⟩
  have HSZ := Aside0.mk hsz0
  clear hsz0
  go_enter Tryd.func8, Tryd.ntmps8
  go_wp2_with fail
  change Calls _ _ _ (w.alloc (.cells (Sh.u8s (List.replicate 32 0)) 25)) _
  rw [HW0.out]
  refine (new_.calls w0).mono ?_
  rintro e w1 ⟨rfl, h1, hb1⟩
  have H1 := Aside0.mk h1
  have HB1 := Aside0.mk hb1
  clear h1 hb1 HW0
  go_wp2_with fail
  obtain ⟨b, HBB⟩ : ∃ b, Aside0 (w0.heap.size = b) := ⟨_, ⟨rfl⟩⟩
  rw [HBB.out] at H1 ⊢
  have HBW1 : Aside0 (Below w.heap.size w w1) := ⟨below_then HB0.out HB0.out.size HB1.out⟩
  have HBN : Aside0 (b = w.heap.size + 1) := ⟨by rw [← HBB.out]; exact HSZ.out⟩
  have HF := Aside0.mk (write_.calls b [] (List.replicate 64 0) A c l w1 H1.out (by have := HBN.out; omega) (HK.out.below HBW1.out) (Kd.C_below HR.out HBW1.out) hc (fun hl a e => Sh.far_of_C HR.out hl e (by have := HBN.out; omega)) HBY.out (by simp only [List.length_nil]; omega))
  rw [HN.out, List.nil_append] at HF
  refine HF.out.mono ?_
  rintro e w2 ⟨rfl, ⟨r2, h2⟩, g2⟩
  have H2 := Aside0.mk h2
  have HBW2 : Aside0 (Below w.heap.size w w2) := ⟨Sh.below_of_gb HBW1.out g2 (by have := HBN.out; omega)⟩
  have HO2 : Aside0 (w2.heap[w.heap.size]? = some (.cells (Sh.u8s (List.replicate 32 0)) 25 (0, 0))) := ⟨by
    have hlt0 : w.heap.size < w0.heap.size := by rw [HSZ.out]; omega
    exact (g2.block _ (Nat.lt_of_lt_of_le hlt0 HB1.out.size) (fun e => by have := Option.some.inj e; have := HBN.out; omega)).trans ((HB1.out.block _ hlt0).trans HO.out)⟩
  clear h2 g2 HF HB1 HBW1 H1
  go_wp2_with fail
  obtain ⟨D, HDD⟩ : ∃ D, Aside0 (Sh.u8s (Sh.dig l) = D) := ⟨_, ⟨rfl⟩⟩
  have HS2 : Aside0 (Calls Tryd.prog 12 #[.pointer (some ⟨b, 0, none⟩)] w2 fun e w' => e = .returned (.agg D) ∧ Below w2.heap.size w2 w') := ⟨by
    have := sum_.calls b l r2 w2 H2.out (HK.out.below HBW2.out) HBY.out hlen
    rw [HDD.out] at this
    exact this⟩
  refine HS2.out.mono ?_
  rintro e w3 ⟨rfl, hb3⟩
  have HB3 : Aside0 (Below w.heap.size w w3) := ⟨below_then HBW2.out HBW2.out.size hb3⟩
  have HO3 : Aside0 (w3.heap[w.heap.size]? = some (.cells (Sh.u8s (List.replicate 32 0)) 25 (0, 0))) := ⟨(hb3.block _ (Array.getElem?_eq_some_iff.1 HO2.out).1).trans HO2.out⟩
  clear hb3 HO2 HBW2 H2 HS2
  have hl32 : (Sh.dig l).length = 32 := Sh.dig_length l
  have hDs : D.size = 32 := by rw [← HDD.out]; simp [Sh.u8s, hl32]
  have HS : Aside0 ((Tryd.prog.info? 25).map (·.size) = some D.size) := ⟨by rw [hDs]; kernel_rfl⟩
  have HZ2 : Aside0 ((Sh.u8s (List.replicate 32 0)).size = D.size) := ⟨by rw [hDs]; rfl⟩
  have HONE : Aside0 (D.all (·.oneCell') = true) := ⟨by rw [← HDD.out]; simp [Sh.u8s, Value.oneCell']⟩
  clear hDs hl32
  go_wp2_with (refine wpList_store_row rfl 25 (.tmp 2) (.tmp 9) rfl w.heap.size D rfl rfl 25 _ HO3.out HS.out HZ2.out HONE.out ?_)
  refine ⟨rfl, .agg D, ?_, by rw [HDD.out], below_setRow HB3.out (Nat.le_refl _) D⟩
  exact results_cell_row rfl _ _ w.heap.size 25 D (0, 0) _ rfl (setRow_heap w3 w.heap.size _ D _ _ HO3.out) Tryd.underlying25 rfl HS.out
#print axioms lawsum_.calls
end Go.Proofs.YtnfkinhikgikiaaDoor
