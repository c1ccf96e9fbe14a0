/- The contract of the law's known. -/
import Derived.Test.YthcilikinfhipaaDoorMacR
import Derived.Test.YthcilikinfhipaaDoorMacS
import Derived.Lib.SlBytesConst
set_option linter.unusedVariables false
set_option linter.unusedSimpArgs false
namespace Go.Proofs.YthcilikinfhipaaDoor
open Go.RowKit Go.Proofs.YthcilikinfhipaaDoorW.PrintWords Go.Proofs.YthcilikinfhipaaDoorW.PrintLast Go.Proofs.YthcilikinfhipaaDoorW.PrintMore
namespace Sh
def jefe : List Int := [74, 101, 102, 101]
def what1 : List Int := [119, 104, 97, 116, 32, 100, 111, 32, 121, 97, 32, 119, 97, 110, 116, 32]
def what2 : List Int := [102, 111, 114, 32, 110, 111, 116, 104, 105, 110, 103, 63]
def tag32 : Array Value := #[.int .u8 91, .int .u8 220, .int .u8 193, .int .u8 70, .int .u8 191, .int .u8 96, .int .u8 117, .int .u8 78, .int .u8 106, .int .u8 4, .int .u8 36, .int .u8 38, .int .u8 8, .int .u8 149, .int .u8 117, .int .u8 199, .int .u8 90, .int .u8 0, .int .u8 63, .int .u8 8, .int .u8 157, .int .u8 39, .int .u8 57, .int .u8 131, .int .u8 157, .int .u8 236, .int .u8 88, .int .u8 185, .int .u8 100, .int .u8 236, .int .u8 56, .int .u8 67]
theorem hm_known : hm [74, 101, 102, 101] ([119, 104, 97, 116, 32, 100, 111, 32, 121, 97, 32, 119, 97, 110, 116, 32] ++ [102, 111, 114, 32, 110, 111, 116, 104, 105, 110, 103, 63]) = [91, 220, 193, 70, 191, 96, 117, 78, 106, 4, 36, 38, 8, 149, 117, 199, 90, 0, 63, 8, 157, 39, 57, 131, 157, 236, 88, 185, 100, 236, 56, 67] := by kernel_rfl
theorem tag32_is : u8s (hm jefe (what1 ++ what2)) = tag32 := by
  rw [show hm jefe (what1 ++ what2) = _ from hm_known]
  rfl
theorem heap4 (h : Array Obj) (a b c d : Obj) : ((((h.push a).push b).push c).push d)[h.size]? = some a ∧ ((((h.push a).push b).push c).push d)[h.size + 1]? = some b ∧ ((((h.push a).push b).push c).push d)[h.size + 1 + 1]? = some c ∧ ((((h.push a).push b).push c).push d)[h.size + 1 + 1 + 1]? = some d := by
  refine ⟨?_, ?_, ?_, ?_⟩ <;> simp only [Array.getElem?_push, Array.size_push, if_true] <;> (repeat (first | rw [if_neg (by omega)] | rw [if_pos (by omega)]))
def pieces2 (i : Nat) : List Int := if i = 0 then what1 else what2
theorem C_nil (k : IntKind) (w : World) : Kd.C (Kd.int k) w none 0 [] := Kd.C_of_reads (d := 0) ⟨rfl, by simp, fun h => absurd h (by simp)⟩
end Sh
set_option maxHeartbeats 1600000 in
set_option maxRecDepth 100000 in
theorem known_.calls (w : World) (hk : Sh.Ks w) :
    Calls Tryd.prog 8 #[] w fun e w' => e = .returned (.bool true) ∧ Below w.heap.size w w' := by
  have HK := Aside0.mk hk
  clear hk
  have hcv1 := Lib.run_convert_bytes_const (P := Tryd.prog) w 22 5 #[.int .u8 74, .int .u8 101, .int .u8 102, .int .u8 101] 4 4 Tryd.underlying22 Tryd.underlying5
  rw [show (#[Value.int .u8 74, Value.int .u8 101, Value.int .u8 102, Value.int .u8 101] : Array Value).size = 4 from rfl] at hcv1
  have hcv2 := Lib.run_convert_bytes_const (P := Tryd.prog) (w.alloc (.cells #[.int .u8 74, .int .u8 101, .int .u8 102, .int .u8 101] 5 (4, 5))) 22 5 #[.int .u8 119, .int .u8 104, .int .u8 97, .int .u8 116, .int .u8 32, .int .u8 100, .int .u8 111, .int .u8 32, .int .u8 121, .int .u8 97, .int .u8 32, .int .u8 119, .int .u8 97, .int .u8 110, .int .u8 116, .int .u8 32] 16 16 Tryd.underlying22 Tryd.underlying5
  rw [show (#[Value.int .u8 119, Value.int .u8 104, Value.int .u8 97, Value.int .u8 116, Value.int .u8 32, Value.int .u8 100, Value.int .u8 111, Value.int .u8 32, Value.int .u8 121, Value.int .u8 97, Value.int .u8 32, Value.int .u8 119, Value.int .u8 97, Value.int .u8 110, Value.int .u8 116, Value.int .u8 32] : Array Value).size = 16 from rfl, show (w.alloc (.cells #[.int .u8 74, .int .u8 101, .int .u8 102, .int .u8 101] 5 (4, 5))).heap.size = w.heap.size + 1 by show (w.heap.push _).size = _; simp] at hcv2
  have hcv3 := Lib.run_convert_bytes_const (P := Tryd.prog) ((w.alloc (.cells #[.int .u8 74, .int .u8 101, .int .u8 102, .int .u8 101] 5 (4, 5))).alloc (.cells #[.int .u8 119, .int .u8 104, .int .u8 97, .int .u8 116, .int .u8 32, .int .u8 100, .int .u8 111, .int .u8 32, .int .u8 121, .int .u8 97, .int .u8 32, .int .u8 119, .int .u8 97, .int .u8 110, .int .u8 116, .int .u8 32] 5 (16, 17))) 22 5 #[.int .u8 102, .int .u8 111, .int .u8 114, .int .u8 32, .int .u8 110, .int .u8 111, .int .u8 116, .int .u8 104, .int .u8 105, .int .u8 110, .int .u8 103, .int .u8 63] 12 12 Tryd.underlying22 Tryd.underlying5
  rw [show (#[Value.int .u8 102, Value.int .u8 111, Value.int .u8 114, Value.int .u8 32, Value.int .u8 110, Value.int .u8 111, Value.int .u8 116, Value.int .u8 104, Value.int .u8 105, Value.int .u8 110, Value.int .u8 103, Value.int .u8 63] : Array Value).size = 12 from rfl, show ((w.alloc (.cells #[.int .u8 74, .int .u8 101, .int .u8 102, .int .u8 101] 5 (4, 5))).alloc (.cells #[.int .u8 119, .int .u8 104, .int .u8 97, .int .u8 116, .int .u8 32, .int .u8 100, .int .u8 111, .int .u8 32, .int .u8 121, .int .u8 97, .int .u8 32, .int .u8 119, .int .u8 97, .int .u8 110, .int .u8 116, .int .u8 32] 5 (16, 17))).heap.size = w.heap.size + 1 + 1 by show ((w.heap.push _).push _).size = _; simp] at hcv3
  go_enter Tryd.func8, Tryd.ntmps8
  go_wp2_with fail
  clear hcv1 hcv2 hcv3
  generalize hW4 : World.alloc (World.alloc (World.alloc (World.alloc w _) _) _) _ = W4
  have h4 := Sh.heap4 w.heap (.cells #[.int .u8 74, .int .u8 101, .int .u8 102, .int .u8 101] 5 (4, 5)) (.cells #[.int .u8 119, .int .u8 104, .int .u8 97, .int .u8 116, .int .u8 32, .int .u8 100, .int .u8 111, .int .u8 32, .int .u8 121, .int .u8 97, .int .u8 32, .int .u8 119, .int .u8 97, .int .u8 110, .int .u8 116, .int .u8 32] 5 (16, 17)) (.cells #[.int .u8 102, .int .u8 111, .int .u8 114, .int .u8 32, .int .u8 110, .int .u8 111, .int .u8 116, .int .u8 104, .int .u8 105, .int .u8 110, .int .u8 103, .int .u8 63] 5 (12, 13)) (.cells #[.slice (some ⟨w.heap.size + 1, 0, none⟩) 16 16, .slice (some ⟨w.heap.size + 1 + 1, 0, none⟩) 12 12] 22 (0, 0))
  have HH0 : Aside0 (W4.heap[w.heap.size]? = some (.cells #[.int .u8 74, .int .u8 101, .int .u8 102, .int .u8 101] 5 (4, 5))) := ⟨by rw [← hW4]; exact h4.1⟩
  have HH1 : Aside0 (W4.heap[w.heap.size + 1]? = some (.cells #[.int .u8 119, .int .u8 104, .int .u8 97, .int .u8 116, .int .u8 32, .int .u8 100, .int .u8 111, .int .u8 32, .int .u8 121, .int .u8 97, .int .u8 32, .int .u8 119, .int .u8 97, .int .u8 110, .int .u8 116, .int .u8 32] 5 (16, 17))) := ⟨by rw [← hW4]; exact h4.2.1⟩
  have HH2 : Aside0 (W4.heap[w.heap.size + 1 + 1]? = some (.cells #[.int .u8 102, .int .u8 111, .int .u8 114, .int .u8 32, .int .u8 110, .int .u8 111, .int .u8 116, .int .u8 104, .int .u8 105, .int .u8 110, .int .u8 103, .int .u8 63] 5 (12, 13))) := ⟨by rw [← hW4]; exact h4.2.2.1⟩
  have HH3 : Aside0 (W4.heap[w.heap.size + 1 + 1 + 1]? = some (.cells #[.slice (some ⟨w.heap.size + 1, 0, none⟩) 16 16, .slice (some ⟨w.heap.size + 1 + 1, 0, none⟩) 12 12] 22 (0, 0))) := ⟨by rw [← hW4]; exact h4.2.2.2⟩
  have HB4 : Aside0 (Below w.heap.size w W4) := ⟨by rw [← hW4]; exact below_alloc (below_alloc (below_alloc (below_alloc (Below.refl _ _) _) _) _) _⟩
  clear h4 hW4
  obtain ⟨D, HDD⟩ : ∃ D, Aside0 (Sh.tag32 = D) := ⟨_, ⟨rfl⟩⟩
  have HF : Aside0 (Calls Tryd.prog 9 #[.slice (some ⟨w.heap.size, 0, none⟩) 4 4, .slice (some ⟨w.heap.size + 1 + 1 + 1, 0, none⟩) 2 2] W4 fun e w' => e = .returned (.agg D) ∧ Below W4.heap.size W4 w') := ⟨by
    have hr0 : Kd.C (Kd.int .u8) W4 (some ⟨w.heap.size, 0, none⟩) 4 Sh.jefe := Lit.reads_block HH0.out .u8 Sh.jefe rfl (by simp [Sh.jefe])
    have hr1 : Kd.C (Kd.int .u8) W4 (some ⟨w.heap.size + 1, 0, none⟩) 16 Sh.what1 := Lit.reads_block HH1.out .u8 Sh.what1 rfl (by simp [Sh.what1])
    have hr2 : Kd.C (Kd.int .u8) W4 (some ⟨w.heap.size + 1 + 1, 0, none⟩) 12 Sh.what2 := Lit.reads_block HH2.out .u8 Sh.what2 rfl (by simp [Sh.what2])
    have hb0 : Sh.Bytes Sh.jefe := by intro x hx; simp only [Sh.jefe, List.mem_cons, List.not_mem_nil, or_false] at hx; omega
    have hb1 : Sh.Bytes Sh.what1 := by intro x hx; simp only [Sh.what1, List.mem_cons, List.not_mem_nil, or_false] at hx; omega
    have hb2 : Sh.Bytes Sh.what2 := by intro x hx; simp only [Sh.what2, List.mem_cons, List.not_mem_nil, or_false] at hx; omega
    have hrows : Sh.Rows W4 (some ⟨w.heap.size + 1 + 1 + 1, 0, none⟩) 2 Sh.pieces2 (fun i => if i = 0 then some ⟨w.heap.size + 1, 0, none⟩ else some ⟨w.heap.size + 1 + 1, 0, none⟩) (fun i => if i = 0 then 16 else 12) := fun i hi => by
      rcases (show i = 0 ∨ i = 1 by omega) with rfl | rfl
      · exact ⟨_, rfl, Sh.cellAt HH3.out 0 _ rfl, Nat.le_refl _, hb1, hr1⟩
      · exact ⟨_, rfl, Sh.cellAt HH3.out 1 _ rfl, Nat.le_refl _, hb2, hr2⟩
    have := of_.calls (some ⟨w.heap.size, 0, none⟩) 4 Sh.jefe (some ⟨w.heap.size + 1 + 1 + 1, 0, none⟩) 2 2 Sh.pieces2 _ _ W4 (HK.out.below HB4.out) hr0 (Nat.le_refl _) hb0 (by simp [Sh.jefe]) (by decide) hrows (fun i hi => by
      rcases (show i = 0 ∨ i = 1 ∨ i = 2 by omega) with rfl | rfl | rfl
      · simp [Sh.cat]
      · simp [Sh.cat, Sh.pieces2, Sh.what1]
      · simp [Sh.cat, Sh.pieces2, Sh.what1, Sh.what2])
    rw [show Sh.cat Sh.pieces2 2 = Sh.what1 ++ Sh.what2 from rfl, Sh.tag32_is, HDD.out] at this
    exact this⟩
  refine HF.out.mono ?_
  rintro e w3 ⟨rfl, hb3⟩
  have HB3 : Aside0 (Below w.heap.size w w3) := ⟨below_then HB4.out HB4.out.size hb3⟩
  clear hb3 HF HH0 HH1 HH2 HH3 HB4
  have HS : Aside0 ((Tryd.prog.info? 25).map (·.size) = some D.size) := ⟨by rw [← HDD.out]; kernel_rfl⟩
  have HZ2 : Aside0 ((Sh.u8s (List.replicate 32 0)).size = D.size) := ⟨by rw [← HDD.out]; rfl⟩
  have HONE : Aside0 (D.all (·.oneCell') = true) := ⟨by rw [← HDD.out]; kernel_rfl⟩
  have d0 : D[0]? = some (.int .u8 91) := by rw [← HDD.out]; rfl
  have d1 : D[1]? = some (.int .u8 220) := by rw [← HDD.out]; rfl
  have d30 : D[30]? = some (.int .u8 56) := by rw [← HDD.out]; rfl
  have d31 : D[31]? = some (.int .u8 67) := by rw [← HDD.out]; rfl
  have HX := Aside0.mk (Sh.store_new w3 D)
  have HO4 : Aside0 ((w3.alloc (.cells (Sh.u8s (List.replicate 32 0)) 25)).heap[w3.heap.size]? = some (.cells (Sh.u8s (List.replicate 32 0)) 25 (0, 0))) := ⟨heap_alloc_new w3 _⟩
  have D0 := Aside0.mk d0
  have D1 := Aside0.mk d1
  have D30 := Aside0.mk d30
  have D31 := Aside0.mk d31
  clear d0 d1 d30 d31
  go_wp2_with (refine wpList_store_row rfl 25 (.tmp 1) (.tmp 9) rfl w3.heap.size D rfl rfl 25 _ HO4.out HS.out HZ2.out HONE.out ?_; generalize hWq : World.setRow _ w3.heap.size D = W; have hr4 : W.heap[w3.heap.size]? = some (.cells D 25 (0, 0)) := (by rw [← hWq]; exact HX.out.1); have HBW : Aside0 (Below w3.heap.size w3 W) := ⟨by rw [← hWq]; exact HX.out.2⟩; have c0 := Sh.cellAt hr4 0 _ D0.out; have c1 := Sh.cellAt hr4 1 _ D1.out; have c2 := Sh.cellAt hr4 30 _ D30.out; have c3 := Sh.cellAt hr4 31 _ D31.out; clear hWq hr4)
  refine (same_.calls none 0 [] none 0 [] W (Sh.C_nil _ _) (Nat.le_refl _) (Sh.C_nil _ _) (Nat.le_refl _) (by simp) (by intro x hx; cases hx) (by intro x hx; cases hx)).mono ?_
  rintro e w4 ⟨rfl, m, rfl⟩
  have HB5 : Aside0 (Below w.heap.size w (W.drewN m)) := ⟨pw_below_drewN (below_then HB3.out HB3.out.size HBW.out) m⟩
  rw [show decide (([] : List Int) = []) = true from rfl]
  clear c0 c1 c2 c3 HBW HB3 HX HO4
  generalize W.drewN m = W5 at *
  go_wp2_with fail
  refine (same_.calls (some ⟨W5.heap.size, 0, none⟩) 1 [1] none 0 [] (W5.alloc (.cells #[.int .u8 1] 5)) (Lit.reads_new W5 #[.int .u8 1] 5 (0, 0) .u8 [1] rfl (by simp)) (Nat.le_refl _) (Sh.C_nil _ _) (Nat.le_refl _) (by simp) (by intro x hx; obtain rfl := List.mem_singleton.1 hx; omega) (by intro x hx; cases hx)).mono ?_
  rintro e w6 ⟨rfl, m2, rfl⟩
  have HB6 : Aside0 (Below w.heap.size w ((W5.alloc (.cells #[.int .u8 1] 5)).drewN m2)) := ⟨pw_below_drewN (HB5.out.alloc HB5.out.size _) m2⟩
  rw [show decide (([1] : List Int) = []) = false from rfl]
  generalize (W5.alloc (.cells #[.int .u8 1] 5)).drewN m2 = W6 at *
  go_wp2_with fail
  go_ret
  exact ⟨rfl, HB6.out⟩
#print axioms known_.calls
end Go.Proofs.YthcilikinfhipaaDoor
