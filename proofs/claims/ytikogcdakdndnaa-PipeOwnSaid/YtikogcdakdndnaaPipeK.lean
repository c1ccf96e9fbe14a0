/- The chapter's example: known. -/
import Derived.Test.YtikogcdakdndnaaPipeU
set_option linter.unusedVariables false
set_option linter.unusedSimpArgs false
namespace Go.Proofs.Ytikogcdakdndnaa
open Go.RowKit Go.Proofs.YtikogcdakdndnaaW.PrintWords Go.Proofs.YtikogcdakdndnaaW.PrintLast Go.Proofs.YtikogcdakdndnaaW.PrintMore
namespace Pi
def kn : List Rq := [(0, 0, 1, 0, 0, []), (0, 0, 2, 0, 0, []), (0, 0, 3, 0, 0, [])]
theorem kn_next (k : Nat) (h : k < 3) : (if (kn.take k).length < 16 then kn.take k ++ [((0, 0, (k : Int) + 1, 0, 0, []) : Rq)] else kn.take k) = kn.take (k + 1) := by
  rcases (by omega : k = 0 ∨ k = 1 ∨ k = 2) with rfl | rfl | rfl <;> rfl
theorem ck_K (W : World) (i : Int) : kRq.K W (0, 0, i, 0, 0, []) (rqc 0 0 i 0 0 (.slice none 0 0)) := K_of_R (Kd.R_nil (Kd.int .u8) 5 W 0 (fun _ => True))
theorem add0 (ad : Addr) : ad.add (0 * 6) = ad := by unfold Addr.add; split <;> simp_all
theorem add_block (ad : Addr) (n : Nat) : (ad.add n).block = ad.block := by unfold Addr.add; split <;> rfl
theorem add_off (ad : Addr) (n : Nat) : (ad.add n).off = ad.off + n := by unfold Addr.add; split <;> first | rfl | simp_all
/-- a request of a row, its cells by their places -/
theorem row_cells {w : World} {A : Option Addr} {n : Nat} {rs : List Rq} (h : kRq.C w A n rs) (i : Nat) (hi : i < rs.length) (hn : rs.length = n) : ∃ ad A1 c1, A = some ad ∧ w.cell? ⟨(ad.add (i * 6)).block, (ad.add (i * 6)).off + 2, none⟩ = some (.int .u64 rs[i].2.2.1) ∧ w.cell? ⟨(ad.add (i * 6)).block, (ad.add (i * 6)).off + 5, none⟩ = some (.slice A1 rs[i].2.2.2.2.2.length c1) := by
  obtain ⟨ad, c, e, _, hK, hc0⟩ := Kd.C_get h ((0, 0, 0, 0, 0, []) : Rq) (i : Int) (by omega) (by omega)
  rw [List.getD_eq_getElem?_getD, Int.toNat_natCast, List.getElem?_eq_getElem hi] at hK
  change kRq.K w rs[i] c at hK
  have hc : ∀ j u, c[j]? = some u → w.cell? (ad.add (i * 6 + j)) = some u := fun j u hu => by
    have := hc0 j u hu
    rwa [Int.toNat_natCast] at this
  obtain ⟨A5, c5, rfl, l5, g5⟩ := rq_cells hK
  exact ⟨ad, A5, c5, e, by rw [← add_field _ _ 2 (by omega)]; exact hc 2 _ rfl, by rw [← add_field _ _ 5 (by omega)]; exact hc 5 _ rfl⟩
end Pi
set_option maxHeartbeats 1000000 in
set_option maxRecDepth 100000 in
theorem known_.calls (W : World) : Calls Try.prog 7 #[] W fun e w' => e = .returned (.bool true) ∧ Below W.heap.size W w' := by
  go_enter Try.func7, Try.ntmps7
  go_wp2_with fail
  refine (new_.calls (fun _ => True) W).mono ?_
  rintro e w1 ⟨rfl, hp, hb⟩
  have HP1 := Aside0.mk hp
  have HB1 := Aside0.mk hb
  have HLT := Aside0.mk hp.lt
  clear hp hb
  go_wp2_with fail
  go_loopw [2] (fun i wr => ∃ k : Nat, i = .int .u64 ((k : Int) + 1) ∧ k ≤ 3 ∧ Aside0 (Pi.Pp wr W.heap.size (fun _ => True) W.heap.size (Pi.kn.take k)) ∧ Aside0 (Below W.heap.size W wr)) (fun i _ => 4 - (intOf i).toNat)
  case atStart => exact ⟨0, rfl, by omega, HP1, HB1⟩
  case round =>
    obtain ⟨k, rfl, hk, HP, HB⟩ := hrel
    by_cases hlt : k < 3
    · have h1 : (k : Int) + 1 < 4 := by omega
      go_wp2_with fail
      have hA := add_.calls HP.out (Pi.ck_K wr ((k : Int) + 1)) (by simp) HB.out.size (fun _ _ => trivial)
      refine hA.mono ?_
      rintro e w2 ⟨rfl, hp, hg⟩
      rw [Pi.kn_next k hlt] at hp
      have HP2 := Aside0.mk hp
      have HB2 := Aside0.mk (HB.out.grown hg HB.out.size (fun k hk => by cases hk; exact Nat.le_refl _))
      clear hp hg hA
      go_wp2_with fail
      go_roundw
      case rel => exact ⟨k + 1, by go_num, by omega, HP2, HB2⟩
      case measure => simp [intOf]; omega
    · obtain rfl : k = 3 := by omega
      go_wp2_with fail
      have hT := take_yes HP.out 1 (Nat.le_of_ble_eq_true rfl)
      refine hT.mono ?_
      clear hT
      rintro e w2 ⟨cs2, rfl, hM, hp, hg⟩
      obtain ⟨v2, rfl, hR2⟩ := Pi.rq_Mc hM
      obtain ⟨A2, c2, rfl⟩ := Kd.R_slice hR2
      have HP2 := Aside0.mk (show Pi.Pp w2 W.heap.size (fun _ => True) W.heap.size [(0, 0, 1, 0, 0, []), (0, 0, 3, 0, 0, [])] from hp)
      have HB2 := Aside0.mk (HB.out.grown hg HB.out.size (fun k hk => by cases hk; exact Nat.le_refl _))
      clear hp hg hM hR2 HP HB HB1 HP1
      unfold Pi.rqc
      rw [show (List.take 3 Pi.kn)[1] = ((0, 0, 2, 0, 0, []) : Rq) from rfl]
      obtain ⟨m2, HM2⟩ : ∃ m2, Aside0 (List.length (((0, 0, 2, 0, 0, []) : Rq).2.2.2.2.2) = m2) := ⟨_, ⟨rfl⟩⟩
      rw [HM2.out]
      have HSZ := Aside0.mk Pi.size33
      have HX := Aside0.mk (Wk.Blk.new w2 33 Pi.zrq)
      go_wp2_with (refine Wk.store_all rfl rfl 33 (.tmp 3) (.tmp 22) rfl w2.heap.size (Pi.rqc 0 0 2 0 0 (.slice A2 m2 c2)) rfl rfl 33 Pi.zrq HX.out HSZ.out rfl rfl ?_; intro w3 hX hO; have HX3 := Aside0.mk hX; have HO3 := Aside0.mk hO; clear hX hO)
      have HB3 := Aside0.mk (Wk.Only.below ((Below.refl _ _).alloc (Nat.le_refl _) _) HO3.out (Nat.le_refl _))
      have HP3 := Aside0.mk (HP2.out.below HB3.out)
      have HBW3 := Aside0.mk (below_then HB2.out HB2.out.size HB3.out)
      clear HP2 HX HO3
      refine (all_.calls HP3.out (by simp)).mono ?_
      rintro e w4 ⟨v4, rfl, hR4, hb4⟩
      obtain ⟨A4, c4, rfl, hl4, hC4⟩ := Kd.R_reads hR4
      have HP4 := Aside0.mk (HP3.out.below hb4)
      have HBW4 := Aside0.mk (below_then HBW3.out HBW3.out.size hb4)
      have HC4 := Aside0.mk hC4
      have HX4 := Aside0.mk (HX3.out.below_ hb4)
      clear hR4 hl4 hb4 hC4 HP3 HBW3 HX3
      go_wp2_with fail
      refine (take_no HP4.out 2 (.inr (by simp))).mono ?_
      rintro e w5 ⟨rfl, hb5⟩
      have HBW5 := Aside0.mk (below_then HBW4.out HBW4.out.size hb5)
      have HC5 := Aside0.mk (Kd.C_below HC4.out hb5)
      have HX5 := Aside0.mk (HX4.out.below_ hb5)
      clear hb5 HC4 HX4 HP4
      have HY := Aside0.mk (Wk.Blk.new w5 33 Pi.zrq)
      unfold Pi.zrq Pi.rqc
      go_wp2_with (refine Wk.store_all rfl rfl 33 (.tmp 6) (.tmp 29) rfl w5.heap.size Pi.zrq rfl rfl 33 Pi.zrq HY.out HSZ.out rfl rfl ?_; intro w6 hX hO; have HO6 := Aside0.mk hO; clear hX hO; have HB6 := Aside0.mk (Wk.Only.below ((Below.refl _ _).alloc (Nat.le_refl _) _) HO6.out (Nat.le_refl _)); have HBW6 := Aside0.mk (below_then HBW5.out HBW5.out.size HB6.out); have hX6 := (HX5.out.below_ HB6.out).at_ 2 (v := .int .u64 2) rfl; have HC6 := Aside0.mk (Kd.C_below HC5.out HB6.out); clear HY HO6 HC5; obtain ⟨ad, A5, c5, hA5, a1, a2⟩ := Pi.row_cells HC6.out 0 (Nat.le_of_ble_eq_true rfl) rfl; obtain ⟨ad', A6, c6, hA6, b1, b2⟩ := Pi.row_cells HC6.out 1 (Nat.le_of_ble_eq_true rfl) rfl; subst hA5; obtain rfl := Option.some.inj hA6; clear a2 b2 hA6; rw [Pi.add0] at a1; rw [show (1 * 6) = 6 from rfl] at b1; replace a1 : w6.cell? ⟨ad.block, ad.off + 2, none⟩ = some (.int .u64 1) := a1; rw [Pi.add_block, Pi.add_off] at b1; replace b1 : w6.cell? ⟨ad.block, ad.off + 6 + 2, none⟩ = some (.int .u64 3) := b1)
      go_ret
      exact ⟨rfl, HBW6.out⟩
#print axioms known_.calls
end Go.Proofs.Ytikogcdakdndnaa
