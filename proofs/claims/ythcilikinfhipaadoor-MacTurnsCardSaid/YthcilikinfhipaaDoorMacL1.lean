/- The walk of the law MacTags. -/
import Derived.Test.YthcilikinfhipaaDoorMacK
set_option linter.unusedVariables false
set_option linter.unusedSimpArgs false
namespace Go.Proofs.YthcilikinfhipaaDoor
open Go.RowKit Go.Proofs.YthcilikinfhipaaDoorW.PrintWords Go.Proofs.YthcilikinfhipaaDoorW.PrintLast Go.Proofs.YthcilikinfhipaaDoorW.PrintMore
namespace Sh
/-- a row of one slice, whatever it is -/
theorem one_rows {W : World} {b c : Nat} {A : Option Addr} {l : List Int} (hw : W.cell? ⟨b, 0, none⟩ = some (.slice A l.length c)) (hc : l.length ≤ c) (hb : Bytes l) (hC : Kd.C (Kd.int .u8) W A l.length l) : Rows W (some ⟨b, 0, none⟩) 1 (fun _ => l) (fun _ => A) (fun _ => c) := fun i hi => by
  obtain rfl : i = 0 := by omega
  refine ⟨_, rfl, ?_, hc, hb, hC⟩
  rw [Addr.add_zero']
  exact hw
theorem cat_one (l : List Int) (i : Nat) (hi : i ≤ 1) : (cat (fun _ => l) i).length ≤ l.length := by
  rcases (show i = 0 ∨ i = 1 by omega) with rfl | rfl
  · simp [cat]
  · simp [cat]
/-- Of of one list: its contract -/
theorem of1_ {A0 A1 : Option Addr} {c0 c1 : Nat} {key b : List Int} {W : World} {bs : Nat} (hk : Ks W) (h0 : Kd.C (Kd.int .u8) W A0 key.length key) (hc0 : key.length ≤ c0) (hy0 : Bytes key) (hl0 : key.length ≤ 1099510000000) (h1 : Kd.C (Kd.int .u8) W A1 b.length b) (hc1 : b.length ≤ c1) (hy1 : Bytes b) (hl1 : b.length ≤ 1099510000000)
    (hcell : W.cell? ⟨bs, 0, none⟩ = some (.slice A1 b.length c1)) : Calls Tryd.prog 9 #[.slice A0 key.length c0, .slice (some ⟨bs, 0, none⟩) 1 1] W fun e w' => e = .returned (.agg (u8s (hm key b))) ∧ Below W.heap.size W w' :=
  of_.calls A0 c0 key (some ⟨bs, 0, none⟩) 1 1 (fun _ => b) (fun _ => A1) (fun _ => c1) W hk h0 hc0 hy0 hl0 (by decide) (one_rows hcell hc1 hy1 h1) (fun i hi => Nat.le_trans (cat_one b i hi) hl1)
theorem hm_self (key b : List Int) (W : World) : (Op.equalIn 10000 25 (.agg (u8s (hm key b))) (.agg (u8s (hm key b)))).run Tryd.prog W = .ok true W := eq_self _ (dig_length _) W
end Sh
set_option maxHeartbeats 1000000 in
set_option maxRecDepth 100000 in
theorem macTags_.calls (A0 : Option Addr) (c0 : Nat) (a : List Int) (A1 : Option Addr) (c1 : Nat) (b : List Int) (w : World) (hk : Sh.Ks w)
    (hr0 : Kd.C (Kd.int .u8) w A0 a.length a) (hc0 : a.length ≤ c0) (hby0 : Sh.Bytes a) (hm0 : a.length ≤ 9223372036854775807)
    (hr1 : Kd.C (Kd.int .u8) w A1 b.length b) (hc1 : b.length ≤ c1) (hby1 : Sh.Bytes b) (hm1 : b.length ≤ 9223372036854775807) :
    Calls Tryd.prog 3 #[.slice A0 a.length c0, .slice A1 b.length c1] w fun e w' => e = .returned (.bool true) ∧ Below w.heap.size w w' := by
  have HR0 := Aside0.mk hr0
  have HR1 := Aside0.mk hr1
  have HY0 := Aside0.mk hby0
  have HY1 := Aside0.mk hby1
  have HK := Aside0.mk hk
  clear hr0 hr1 hby0 hby1 hk
  obtain ⟨N0, HN0⟩ : ∃ N, Aside0 (a.length = N) := ⟨_, ⟨rfl⟩⟩
  obtain ⟨N1, HN1⟩ : ∃ N, Aside0 (b.length = N) := ⟨_, ⟨rfl⟩⟩
  rw [HN0.out] at hc0 hm0 ⊢
  rw [HN1.out] at hc1 hm1 ⊢
  have HRF : Aside0 (Below w.heap.size w w) := ⟨Below.refl _ _⟩
  go_enter Tryd.func3, Tryd.ntmps3
  by_cases g0 : 800 < N0
  · go_wp2_with fail
    go_ret
    exact ⟨rfl, HRF.out⟩
  · by_cases g1 : 800 < N1
    · go_wp2_with fail
      go_ret
      exact ⟨rfl, HRF.out⟩
    · go_wp2_with fail
      refine (known_.calls w HK.out).mono ?_
      rintro e w1 ⟨rfl, hb1⟩
      have HB1 := Aside0.mk hb1
      clear hb1
      go_wp2_with fail
      generalize hWq : World.alloc w1 _ = W2
      have hcell : W2.cell? ⟨w1.heap.size, 0, none⟩ = some (.slice A1 N1 c1) := by rw [← hWq]; exact Lit.cell_new w1 #[.slice A1 N1 c1] 22 (0, 0) 0
      have HB2 : Aside0 (Below w.heap.size w W2) := ⟨by rw [← hWq]; exact HB1.out.alloc HB1.out.size _⟩
      obtain ⟨bs, HBS⟩ : ∃ b, Aside0 (w1.heap.size = b) := ⟨_, ⟨rfl⟩⟩
      rw [HBS.out] at hcell ⊢
      have HCELL := Aside0.mk hcell
      clear hWq hcell HB1 HBS
      obtain ⟨D, HDD⟩ : ∃ D, Aside0 (Sh.u8s (Sh.hm a b) = D) := ⟨_, ⟨rfl⟩⟩
      have HF : Aside0 (Calls Tryd.prog 9 #[.slice A0 N0 c0, .slice (some ⟨bs, 0, none⟩) 1 1] W2 fun e w' => e = .returned (.agg D) ∧ Below W2.heap.size W2 w') := ⟨by
        have := Sh.of1_ (bs := bs) (HK.out.below HB2.out) (Kd.C_below HR0.out HB2.out) (by rw [HN0.out]; exact hc0) HY0.out (by rw [HN0.out]; omega) (Kd.C_below HR1.out HB2.out) (by rw [HN1.out]; exact hc1) HY1.out (by rw [HN1.out]; omega) (by rw [HN1.out]; exact HCELL.out)
        rw [HN0.out, HDD.out] at this
        exact this⟩
      refine HF.out.mono ?_
      rintro e w3 ⟨rfl, hb3⟩
      have HB3 : Aside0 (Below w.heap.size w w3) := ⟨below_then HB2.out HB2.out.size hb3⟩
      clear hb3 HF HB2 HCELL
      go_wp2_with fail
      have HF : Aside0 (Calls Tryd.prog 10 #[.slice A0 N0 c0, .slice A1 N1 c1] w3 fun e w' => e = .returned (.agg D) ∧ Below w3.heap.size w3 w') := ⟨by
        have := refof_.calls A0 c0 a A1 c1 b w3 (Kd.C_below HR0.out HB3.out) (by rw [HN0.out]; exact hc0) HY0.out (by rw [HN0.out]; omega) (Kd.C_below HR1.out HB3.out) (by rw [HN1.out]; exact hc1) HY1.out (by rw [HN1.out]; omega)
        rw [HN0.out, HN1.out, HDD.out] at this
        exact this⟩
      refine HF.out.mono ?_
      rintro e w4 ⟨rfl, hb4⟩
      have HB4 : Aside0 (Below w.heap.size w w4) := ⟨below_then HB3.out HB3.out.size hb4⟩
      have heq : ∀ W, (Op.equalIn 10000 25 (.agg D) (.agg D)).run Tryd.prog W = .ok true W := fun W => by rw [← HDD.out]; exact Sh.hm_self a b W
      clear hb4 HF HB3
      go_wp2_with fail
      go_ret
      exact ⟨rfl, HB4.out⟩
#print axioms macTags_.calls
end Go.Proofs.YthcilikinfhipaaDoor
