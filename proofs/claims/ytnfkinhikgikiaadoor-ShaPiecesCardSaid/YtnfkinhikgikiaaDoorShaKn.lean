/- The contract of known. -/
import Derived.Test.YtnfkinhikgikiaaDoorShaK
set_option linter.unusedVariables false
set_option linter.unusedSimpArgs false
namespace Go.Proofs.YtnfkinhikgikiaaDoor
open Go.RowKit Go.Proofs.YtnfkinhikgikiaaDoorW.PrintWords Go.Proofs.YtnfkinhikgikiaaDoorW.PrintLast Go.Proofs.YtnfkinhikgikiaaDoorW.PrintMore
namespace Sh
def abc32 : Array Value := #[.int .u8 186, .int .u8 120, .int .u8 22, .int .u8 191, .int .u8 143, .int .u8 1, .int .u8 207, .int .u8 234, .int .u8 65, .int .u8 65, .int .u8 64, .int .u8 222, .int .u8 93, .int .u8 174, .int .u8 34, .int .u8 35, .int .u8 176, .int .u8 3, .int .u8 97, .int .u8 163, .int .u8 150, .int .u8 23, .int .u8 122, .int .u8 156, .int .u8 180, .int .u8 16, .int .u8 255, .int .u8 97, .int .u8 242, .int .u8 0, .int .u8 21, .int .u8 173]
theorem abc32_is : u8s (dig [97, 98, 99]) = abc32 := by rw [dig_abc]; rfl
end Sh
set_option maxHeartbeats 600000 in
set_option maxRecDepth 100000 in
theorem known_.calls (w : World) (hk : Sh.Ks w) :
    Calls Tryd.prog 7 #[] w fun e w' => e = .returned (.bool true) ∧ Below w.heap.size w w' := by
  have HK := Aside0.mk hk
  clear hk
  go_enter Tryd.func7, Tryd.ntmps7
  go_wp2_with fail
  refine (new_.calls w).mono ?_
  rintro e w1 ⟨rfl, h1, hb1⟩
  have H1 := Aside0.mk h1
  have HB1 := Aside0.mk hb1
  clear h1 hb1
  have hcv := Lib.run_convert_bytes_const (P := Tryd.prog) w1 22 5 #[.int .u8 97, .int .u8 98, .int .u8 99] 3 3 Tryd.underlying22 Tryd.underlying5
  rw [show (#[Value.int .u8 97, Value.int .u8 98, Value.int .u8 99] : Array Value).size = 3 from rfl] at hcv
  go_wp2_with fail
  clear hcv
  have HL1 : Aside0 (w.heap.size < w1.heap.size) := ⟨H1.out.lt⟩
  have HB1' : Aside0 (Below w.heap.size w (w1.alloc (.cells #[.int .u8 97, .int .u8 98, .int .u8 99] 5 (3, 4)))) := ⟨HB1.out.alloc HB1.out.size _⟩
  have HF := Aside0.mk (write_.calls w.heap.size [] (List.replicate 64 0) (some ⟨w1.heap.size, 0, none⟩) 3 [97, 98, 99] (w1.alloc (.cells #[.int .u8 97, .int .u8 98, .int .u8 99] 5 (3, 4))) (H1.out.below (below_alloc (Below.refl _ _) _)) (by have := HK.out.pos; omega) (HK.out.below HB1'.out) (Lit.reads_new w1 #[.int .u8 97, .int .u8 98, .int .u8 99] 5 (3, 4) .u8 [97, 98, 99] rfl (by simp)) (by simp)
    (fun _ a e => by obtain rfl := Option.some.inj e; show w1.heap.size ≠ _; have := HL1.out; omega) (by intro x hx; simp only [List.mem_cons, List.not_mem_nil, or_false] at hx; omega) (by simp))
  rw [List.nil_append] at HF
  refine HF.out.mono ?_
  rintro e w2 ⟨rfl, ⟨r2, h2⟩, g2⟩
  have H2 := Aside0.mk h2
  have HB2 : Aside0 (Below w.heap.size w w2) := ⟨Sh.below_of_gb HB1'.out g2 (Nat.le_refl _)⟩
  clear h2 g2 HF HB1 HB1' H1
  go_wp2_with fail
  obtain ⟨D, HDD⟩ : ∃ D, Aside0 (Sh.abc32 = D) := ⟨_, ⟨rfl⟩⟩
  have HS2 : Aside0 (Calls Tryd.prog 12 #[.pointer (some ⟨w.heap.size, 0, none⟩)] w2 fun e w' => e = .returned (.agg D) ∧ Below w2.heap.size w2 w') := ⟨by
    have := sum_.calls w.heap.size [97, 98, 99] r2 w2 H2.out (HK.out.below HB2.out) (by intro x hx; simp only [List.mem_cons, List.not_mem_nil, or_false] at hx; omega) (by simp)
    rw [Sh.abc32_is, HDD.out] at this
    exact this⟩
  refine HS2.out.mono ?_
  rintro e w3 ⟨rfl, hb3⟩
  have HB3 : Aside0 (Below w.heap.size w w3) := ⟨below_then HB2.out HB2.out.size hb3⟩
  have H3 := Aside0.mk (H2.out.below hb3)
  clear hb3 HB2 H2 HS2
  have HS : Aside0 ((Tryd.prog.info? 25).map (·.size) = some D.size) := ⟨by rw [← HDD.out]; kernel_rfl⟩
  have HZ2 : Aside0 ((Sh.u8s (List.replicate 32 0)).size = D.size) := ⟨by rw [← HDD.out]; rfl⟩
  have HONE : Aside0 (D.all (·.oneCell') = true) := ⟨by rw [← HDD.out]; kernel_rfl⟩
  have d0 : D[0]? = some (.int .u8 186) := by rw [← HDD.out]; rfl
  have d1 : D[1]? = some (.int .u8 120) := by rw [← HDD.out]; rfl
  have d2 : D[2]? = some (.int .u8 22) := by rw [← HDD.out]; rfl
  have d31 : D[31]? = some (.int .u8 173) := by rw [← HDD.out]; rfl
  have HR4 : Aside0 (((w3.alloc (.cells (Sh.u8s (List.replicate 32 0)) 25)).setRow w3.heap.size D).heap[w3.heap.size]? = some (.cells D 25 (0, 0))) := ⟨setRow_heap _ _ _ _ _ _ (heap_alloc_new w3 _)⟩
  have HB4 : Aside0 (Below w3.heap.size w3 ((w3.alloc (.cells (Sh.u8s (List.replicate 32 0)) 25)).setRow w3.heap.size D)) := ⟨below_setRow (below_alloc (Below.refl _ _) _) (Nat.le_refl _) D⟩
  have HO4 : Aside0 ((w3.alloc (.cells (Sh.u8s (List.replicate 32 0)) 25)).heap[w3.heap.size]? = some (.cells (Sh.u8s (List.replicate 32 0)) 25 (0, 0))) := ⟨heap_alloc_new w3 _⟩
  have D0 := Aside0.mk d0
  have D1 := Aside0.mk d1
  have D2 := Aside0.mk d2
  have D31 := Aside0.mk d31
  clear d0 d1 d2 d31
  go_wp2_with (refine wpList_store_row rfl 25 (.tmp 2) (.tmp 11) rfl w3.heap.size D rfl rfl 25 _ HO4.out HS.out HZ2.out HONE.out ?_; generalize hWq : World.setRow _ w3.heap.size D = W; have hr4 : W.heap[w3.heap.size]? = some (.cells D 25 (0, 0)) := (by rw [← hWq]; exact HR4.out); have HBW : Aside0 (Below w3.heap.size w3 W) := ⟨by rw [← hWq]; exact HB4.out⟩; have c0 := Sh.cellAt hr4 0 _ D0.out; have c1 := Sh.cellAt hr4 1 _ D1.out; have c2 := Sh.cellAt hr4 2 _ D2.out; have c3 := Sh.cellAt hr4 31 _ D31.out; clear hWq hr4)
  refine (len_.calls w.heap.size [97, 98, 99] r2 _ (H3.out.below HBW.out)).mono ?_
  rintro e w4 ⟨rfl, rfl⟩
  have HB5 : Aside0 (Below w.heap.size w w4) := ⟨below_then HB3.out HB3.out.size HBW.out⟩
  rw [show (([97, 98, 99] : List Int).length : Int) = 3 from rfl]
  go_wp2_with fail
  go_ret
  exact ⟨rfl, HB5.out⟩
#print axioms known_.calls
end Go.Proofs.YtnfkinhikgikiaaDoor
