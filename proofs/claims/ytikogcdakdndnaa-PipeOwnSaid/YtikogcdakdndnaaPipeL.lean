/- The walk of pipe.All. -/
import Derived.Test.YtikogcdakdndnaaPipeA
set_option linter.unusedVariables false
set_option linter.unusedSimpArgs false
namespace Go.Proofs.Ytikogcdakdndnaa
open Go.RowKit Go.Proofs.YtikogcdakdndnaaW.PrintWords Go.Proofs.YtikogcdakdndnaaW.PrintLast Go.Proofs.YtikogcdakdndnaaW.PrintMore
namespace Pi
theorem info33 : (Try.prog.info? 33).map (fun i => (i.zero, i.size, i.bytes)) = some (some (.agg zrq.toArray), 6, 56) := by kernel_rfl
/-- a request of a pipe, by its place -/
theorem Pp.get {W : World} {base : Nat} {ok : Nat → Prop} {g : Nat} {rs : List Rq} (h : Pp W base ok g rs) (i : Nat) (hi : i < rs.length) : ∃ (zs : List Value) (v : Value), Wk.Blk W g 49 zs ∧ (zs.drop (i * 6)).take 6 = rqc rs[i].1 rs[i].2.1 rs[i].2.2.1 rs[i].2.2.2.1 rs[i].2.2.2.2.1 v ∧ Kd.R (Kd.int .u8) 5 W base ok v rs[i].2.2.2.2.2 := by
  obtain ⟨cs, h1, h2, h3, h4, h5, h6⟩ := h.out
  have hM := h6.2 i rs[i] (List.getElem?_eq_getElem hi)
  rw [List.drop_take, List.take_take, Nat.min_eq_left (by omega)] at hM
  obtain ⟨v, he, hR⟩ := rq_Mc hM
  exact ⟨cs, v, h1, he, hR⟩
theorem K_of_R {w : World} {base : Nat} {ok : Nat → Prop} {fl kd ck off len : Int} {data : List Int} {v : Value} (h : Kd.R (Kd.int .u8) 5 w base ok v data) : kRq.K w (fl, kd, ck, off, len, data) (rqc fl kd ck off len v) := kRq.K_of_M (rq_M h)
end Pi
set_option maxHeartbeats 1000000 in
set_option maxRecDepth 100000 in
theorem all_.calls {W : World} {base : Nat} {ok : Nat → Prop} {g : Nat} {rs : List Rq} (h : Pi.Pp W base ok g rs) (hd : ∀ r ∈ rs, r.2.2.2.2.2.length < 140737488355328) :
    Calls Try.prog 12 #[.pointer (some ⟨g, 0, none⟩)] W fun e w' => ∃ v, e = .returned v ∧ kRq.R 33 w' W.heap.size (fun _ => True) v rs ∧ Below W.heap.size W w' := by
  have HP := Aside0.mk h
  have HD := Aside0.mk hd
  have hc := h.cell
  obtain ⟨m, HM⟩ : ∃ n, Aside0 (rs.length = n) := ⟨_, ⟨rfl⟩⟩
  have hm16 : m ≤ 16 := by rw [← HM.out]; exact h.le
  have hm16I : (m : Int) ≤ 16 := by omega
  rw [HM.out] at hc
  clear h hd
  go_enter Try.func12, Try.ntmps12
  go_wp2_with fail
  clear hc
  go_loopw [3, 9] (fun v i wr => ∃ k : Nat, i = .int .i64 k ∧ k ≤ m ∧ Aside0 (kRq.R 33 wr W.heap.size (fun _ => True) v (rs.take k)) ∧ Aside0 (Below W.heap.size W wr)) (fun _ i _ => m - (intOf i).toNat)
  case atStart => exact ⟨0, rfl, Nat.zero_le _, ⟨Kd.R_nil _ _ _ _ _⟩, ⟨Below.refl _ _⟩⟩
  case round =>
    obtain ⟨k, rfl, hk, HR, HB⟩ := hrel
    by_cases hlt : k < m
    · have hltI : (k : Int) < m := by omega
      have hltJ : (k : Int) < 16 := by omega
      have hki : k < rs.length := by rw [HM.out]; exact hlt
      obtain ⟨zs, v, z1, z2, zr⟩ := (HP.out.below HB.out).get k hki
      obtain ⟨A, c, rfl⟩ := Kd.R_slice zr
      obtain ⟨r, hr⟩ : ∃ r, rs[k] = r := ⟨_, rfl⟩
      rw [hr] at z2 zr
      have HTK : Aside0 (rs.take (k + 1) = rs.take k ++ [r]) := ⟨by rw [List.take_succ_eq_append_getElem hki, hr]⟩
      have HDR : Aside0 (r.2.2.2.2.2.length < 140737488355328) := ⟨HD.out r (by rw [← hr]; exact List.getElem_mem _)⟩
      obtain ⟨fl, kd, ck, off, len, data⟩ := r
      obtain ⟨n, HN⟩ : ∃ n, Aside0 (data.length = n) := ⟨_, ⟨rfl⟩⟩
      change (zs.drop (k * 6)).take 6 = Pi.rqc fl kd ck off len (.slice A data.length c) at z2
      change Kd.R _ _ _ _ _ (.slice A data.length c) data at zr
      rw [HN.out] at z2 zr
      have HZ1 := Aside0.mk z1
      have HZ2 := Aside0.mk z2
      have HZR := Aside0.mk zr
      have HSZ := Aside0.mk Pi.size33
      clear z1 z2 zr hr hki
      go_wp2_with (refine Wk.load rfl 33 (.tmp 17) rfl (.agg (Pi.rqc fl kd ck off len (.slice A n c)).toArray) (.pointer (some ⟨g, k * 6, none⟩)) rfl (Wk.run_load_blk 33 g (k * 6) _ _ HZ1.out HZ2.out Try.underlying33 rfl HSZ.out) ?_)
      have hK : kRq.K wr (fl, kd, ck, off, len, data) (Pi.rqc fl kd ck off len (.slice A n c)) := Pi.K_of_R HZR.out
      refine (lent_.calls hK HDR.out).mono ?_
      rintro e w2 ⟨cs2, rfl, hM, hb2⟩
      obtain ⟨v2, rfl, hR2⟩ := Pi.rq_Mc hM
      obtain ⟨A2, c2, rfl⟩ := Kd.R_slice hR2
      change Kd.R _ _ _ _ _ (.slice A2 data.length c2) data at hR2
      change kRq.M _ _ _ _ (Pi.rqc fl kd ck off len (.slice A2 data.length c2)) at hM
      rw [show ((fl, kd, ck, off, len, data) : Rq).2.2.2.2.2 = data from rfl, HN.out]
      unfold Pi.rqc
      obtain ⟨inner, hown⟩ := Kd.R_own HR.out
      have HM2 := Aside0.mk (kRq.M_lower HB.out.size (Kd.M_new hM hown))
      have HR2 := Aside0.mk (Kd.R_below HR.out hb2)
      have HB2 := Aside0.mk (below_then HB.out HB.out.size hb2)
      have HL2 : Aside0 (((rs.take k).length + 1) * 56 ≤ 140737488355328) := ⟨by rw [List.length_take]; omega⟩
      rw [HN.out] at HM2
      clear hM hb2 hR2 hK hown HZ1 HZ2 HZR
      go_wp2_with (at_builtin; refine Kd.R_append kRq (w0 := W) (W := w2) W.heap.size rfl (.tmp 12) (.tmp 20) 22 33 (.agg Pi.zrq.toArray) 56 rfl Try.underlying22 Pi.info33 rfl (by decide) (by omega) u3 (rs.take k) (fl, kd, ck, off, len, data) (Pi.rqc fl kd ck off len (.slice A2 n c2)) (fun _ => True) (fun k => True ∧ some k ≠ u3.ownBlock) rfl rfl HM2.out (fun _ h => h) (fun _ _ => trivial) HR2.out HB2.out HB2.out.size HL2.out ?_; intro v3 w3 hr3 hb3 _ _; have HR3 := Aside0.mk hr3; have HB3 := Aside0.mk hb3; clear hr3 hb3)
      go_roundw
      case rel => exact ⟨k + 1, by go_num, by omega, ⟨by rw [HTK.out]; exact HR3.out⟩, HB3⟩
      case measure => simp [intOf]; omega
    · obtain rfl : k = m := by omega
      go_wp2_with fail
      go_ret
      refine ⟨_, rfl, ?_, HB.out⟩
      have := HR.out
      rwa [← HM.out, List.take_length] at this
#print axioms all_.calls
end Go.Proofs.Ytikogcdakdndnaa
