/- What the law's proof stands on, part 6: ConnC, ConnD, ConnE, ConnP, ConnF, ConnG, ConnH, ConnI, PassF, PassH, PassS, PassU, ConnJ, PipeU, ConnK, ConnX, ConnHv (laid together by wip/pack.py). -/
import Derived.Test.YtgljicdpcapgnaaDoorXDP5
set_option linter.unusedVariables false
set_option linter.unusedSimpArgs false
namespace Go.Proofs.YtgljicdpcapgnaaDoor
open Go.RowKit Go.Proofs.YtgljicdpcapgnaaDoor.PBase Go.Proofs.YtgljicdpcapgnaaDoorW.PrintWords Go.Proofs.YtgljicdpcapgnaaDoorW.PrintLast Go.Proofs.YtgljicdpcapgnaaDoorW.PrintMore
set_option maxHeartbeats 2000000 in
set_option maxRecDepth 100000 in
theorem served_.calls {W : World} {ok : Nat → Prop} {p tb : Nat} {c : Cn.St} (h : Cn.Cn W ok p tb c) (hb : 0 ≤ c.blk ∧ c.blk ≤ 65535) (t : Ps.Tk) (ht : Ps.TkWf t) :
  Calls Tryd.prog 80 #[.pointer (some ⟨p, 0, none⟩), .agg (Ps.tkc t).toArray] W fun e w' => e = .returned (.agg (Cn.exc (Cn.served c.blk t)).toArray) ∧ Below W.heap.size W w' := by
 obtain ⟨pp, vk, vs, hv⟩ := h
 obtain ⟨ti, se, ro, sz⟩ := t
 have HV := Aside0.mk hv
 have HT := Aside0.mk ht
 obtain ⟨b, HBK⟩ : ∃ b, Aside0 (c.blk = b) := ⟨_, ⟨rfl⟩⟩
 rw [HBK.out] at hb ⊢
 have HBB := Aside0.mk hb
 have HSE := Aside0.mk Cn.sizeEx
 clear hv ht hb
 have HB2 : Aside0 (Below W.heap.size W ((W.alloc (.cells (Ps.tkc (ti, se, ro, sz)).toArray 55)).alloc (.cells #[.int .u32 0, .int .u64 0, .bool false] 44))) := ⟨below_alloc (below_alloc (Below.refl _ _) _) _⟩
 have HX2 : Aside0 (Wk.Blk ((W.alloc (.cells (Ps.tkc (ti, se, ro, sz)).toArray 55)).alloc (.cells #[.int .u32 0, .int .u64 0, .bool false] 44)) W.heap.size 55 (Ps.tkc (ti, se, ro, sz))) := ⟨(Wk.Blk.new W _ (Ps.tkc (ti, se, ro, sz))).alloc _⟩
 have HY2 : Aside0 (Wk.Blk ((W.alloc (.cells (Ps.tkc (ti, se, ro, sz)).toArray 55)).alloc (.cells #[.int .u32 0, .int .u64 0, .bool false] 44)) (W.heap.size + 1) 44 (Cn.exc Cn.ex0)) := ⟨⟨heap_alloc2_new W _ _⟩⟩
 have k2 := (HV.out.below HB2.out).blk.at_ 2 rfl
 rw [HBK.out] at k2
 go_enter Tryd.func80, Tryd.ntmps80
 go_wp2_with fail
 clear k2
 rw [Cn.u64_ b HBB.out.1 (by have := HBB.out; omega)]
 generalize ((W.alloc (.cells (Ps.tkc (ti, se, ro, sz)).toArray 55)).alloc (.cells #[.int .u32 0, .int .u64 0, .bool false] 44)) = w2 at *
 have c0 := HX2.out.at_ 0 rfl
 have c2 := HX2.out.at_ 2 rfl
 have c3 := HX2.out.at_ 3 rfl
 refine wp_region_noPanic ?_
 by_cases h0 : b = 0
 ·subst h0
  refine start_ (n := 10) (S := (fun w' => Below w2.heap.size w2 w')) (ds := []) #[false, false, false, false, false, false, false, false, false, false] (by kernel_rfl) rfl rfl (Below.refl _ _).drew (fun hHeld => ?_)
  refine pure_ (i := 0) (N := (some 12)) (v := ?_) (a' := ?_) #[true, false, false, false, false, false, false, false, false, false] rfl rfl (by kernel_rfl) (fun _ _ _ h => h) (Or.inl ⟨by rfl, ?_⟩) ?_ ?_
  rotate_left
  ·intro w'
   go_simp
   first | done | with_reducible rfl
  rotate_left
  ·simp only [Act.put, List.setIfInBounds_toArray, List.set_cons_zero, List.set_cons_succ]
   rfl
  refine pure_ (i := 1) (N := (some 13)) (v := ?_) (a' := ?_) #[true, true, false, false, false, false, false, false, false, false] rfl rfl (by kernel_rfl) (fun _ _ _ h => h) (Or.inl ⟨by rfl, ?_⟩) ?_ ?_
  rotate_left
  ·intro w'
   go_simp
   first | done | with_reducible rfl
  rotate_left
  ·simp only [Act.put, List.setIfInBounds_toArray, List.set_cons_zero, List.set_cons_succ]
   rfl
  refine pure_ (i := 2) (N := (some 14)) (v := ?_) (a' := ?_) #[true, true, true, false, false, false, false, false, false, false] rfl rfl (by kernel_rfl) (fun _ _ _ h => h) (Or.inl ⟨by rfl, ?_⟩) ?_ ?_
  rotate_left
  ·intro w'
   go_simp
   first | done | with_reducible rfl
  rotate_left
  ·simp only [Act.put, List.setIfInBounds_toArray, List.set_cons_zero, List.set_cons_succ]
   rfl
  refine pure_ (i := 3) (N := (some 15)) (v := undef) (a' := ?_) #[true, true, true, true, false, false, false, false, false, false] rfl rfl (by kernel_rfl) (fun _ _ _ h => h) (Or.inr ⟨by rfl, rfl⟩) ?_ ?_
  rotate_left
  ·simp only [Act.put, List.setIfInBounds_toArray, List.set_cons_zero, List.set_cons_succ]
   rfl
  refine pure_ (i := 4) (N := (some 16)) (v := undef) (a' := ?_) #[true, true, true, true, true, false, false, false, false, false] rfl rfl (by kernel_rfl) (fun _ _ _ h => h) (Or.inr ⟨by rfl, rfl⟩) ?_ ?_
  rotate_left
  ·simp only [Act.put, List.setIfInBounds_toArray, List.set_cons_zero, List.set_cons_succ]
   rfl
  refine pure_ (i := 5) (N := (some 17)) (v := undef) (a' := ?_) #[true, true, true, true, true, true, false, false, false, false] rfl rfl (by kernel_rfl) (fun _ _ _ h => h) (Or.inr ⟨by rfl, rfl⟩) ?_ ?_
  rotate_left
  ·simp only [Act.put, List.setIfInBounds_toArray, List.set_cons_zero, List.set_cons_succ]
   rfl
  refine pure_ (i := 6) (N := (some 18)) (v := undef) (a' := ?_) #[true, true, true, true, true, true, true, false, false, false] rfl rfl (by kernel_rfl) (fun _ _ _ h => h) (Or.inr ⟨by rfl, rfl⟩) ?_ ?_
  rotate_left
  ·simp only [Act.put, List.setIfInBounds_toArray, List.set_cons_zero, List.set_cons_succ]
   rfl
  refine pure_ (i := 7) (N := (some 19)) (v := undef) (a' := ?_) #[true, true, true, true, true, true, true, true, false, false] rfl rfl (by kernel_rfl) (fun _ _ _ h => h) (Or.inr ⟨by rfl, rfl⟩) ?_ ?_
  rotate_left
  ·simp only [Act.put, List.setIfInBounds_toArray, List.set_cons_zero, List.set_cons_succ]
   rfl
  refine pure_ (i := 8) (N := (some 20)) (v := undef) (a' := ?_) #[true, true, true, true, true, true, true, true, true, false] rfl rfl (by kernel_rfl) (fun _ _ _ h => h) (Or.inr ⟨by rfl, rfl⟩) ?_ ?_
  rotate_left
  ·simp only [Act.put, List.setIfInBounds_toArray, List.set_cons_zero, List.set_cons_succ]
   rfl
  refine pure_ (i := 9) (N := (some 21)) (v := ?_) (a' := ?_) #[true, true, true, true, true, true, true, true, true, true] rfl rfl (by kernel_rfl) (fun _ _ _ h => h) (Or.inl ⟨by rfl, ?_⟩) ?_ ?_
  rotate_left
  ·intro w'
   go_simp
   first | done | with_reducible rfl
  rotate_left
  ·simp only [Act.put, List.setIfInBounds_toArray, List.set_cons_zero, List.set_cons_succ]
   rfl
  refine done_ (by kernel_rfl) ?_
  refine NoPanic.normal ?_
  have HYD := Aside0.mk HY2.out.drew
  have HBD := Aside0.mk (below_drew HB2.out)
  have d0 := HX2.out.drew.at_ 0 rfl
  have d2 := HX2.out.drew.at_ 2 rfl
  have d3 := HX2.out.drew.at_ 3 rfl
  clear c0 c2 c3
  go_wp2_with (refine Wk.store_all rfl rfl 44 (.tmp 4) (.tmp 31) rfl (W.heap.size + 1) [.int .u32 ti, _, .bool ro] rfl rfl 44 _ HYD.out HSE.out rfl rfl ?_; intro w5 hX hO; have HX5 := Aside0.mk hX; have HO5 := Aside0.mk hO; clear hX hO)
  refine bodyPost_ret (Wk.res_c rfl _ (W.heap.size + 1) 44 _ _ rfl HX5.out Tryd.underlying44 rfl HSE.out) rfl ?_
  refine ⟨?_, Wk.Only.below HBD.out HO5.out (Nat.le_succ _)⟩
  unfold Cn.served
  rw [if_pos (Or.inl rfl)]
  first | rfl | simp [Cn.exc]
 ·have hbz : (b == 0) = false := by simpa using h0
  refine start_ (n := 10) (S := (fun w' => Below w2.heap.size w2 w')) (ds := []) #[false, false, false, false, false, false, false, false, false, false] (by kernel_rfl) rfl rfl (Below.refl _ _).drew (fun hHeld => ?_)
  refine pure_ (i := 0) (N := (some 12)) (v := ?_) (a' := ?_) #[true, false, false, false, false, false, false, false, false, false] rfl rfl (by kernel_rfl) (fun _ _ _ h => h) (Or.inl ⟨by rfl, ?_⟩) ?_ ?_
  rotate_left
  ·intro w'
   go_simp
   first | done | with_reducible rfl
  rotate_left
  ·simp only [Act.put, List.setIfInBounds_toArray, List.set_cons_zero, List.set_cons_succ]
   rfl
  refine pure_ (i := 1) (N := (some 13)) (v := ?_) (a' := ?_) #[true, true, false, false, false, false, false, false, false, false] rfl rfl (by kernel_rfl) (fun _ _ _ h => h) (Or.inl ⟨by rfl, ?_⟩) ?_ ?_
  rotate_left
  ·intro w'
   (refine Eq.trans (b := .ok (Next.value (.bool false)) w') (by first | (go_simp; done) | (go_simp; simp_all; done) | (go_simp; omega)) ?_)
   first | done | with_reducible rfl
  rotate_left
  ·simp only [Act.put, List.setIfInBounds_toArray, List.set_cons_zero, List.set_cons_succ]
   rfl
  refine pure_ (i := 2) (N := (some 14)) (v := ?_) (a' := ?_) #[true, true, true, false, false, false, false, false, false, false] rfl rfl (by kernel_rfl) (fun _ _ _ h => h) (Or.inl ⟨by rfl, ?_⟩) ?_ ?_
  rotate_left
  ·intro w'
   go_simp
   first | done | with_reducible rfl
  rotate_left
  ·simp only [Act.put, List.setIfInBounds_toArray, List.set_cons_zero, List.set_cons_succ]
   rfl
  refine pure_ (i := 3) (N := (some 15)) (v := ?_) (a' := ?_) #[true, true, true, true, false, false, false, false, false, false] rfl rfl (by kernel_rfl) (fun _ _ _ h => h) (Or.inl ⟨by rfl, ?_⟩) ?_ ?_
  rotate_left
  ·intro w'
   go_simp
   first | done | with_reducible rfl
  rotate_left
  ·simp only [Act.put, List.setIfInBounds_toArray, List.set_cons_zero, List.set_cons_succ]
   rfl
  refine take_ (i := 4) (N := (some 16)) (v := ?_) (a' := ?_) #[true, true, true, true, true, false, false, false, false, false] rfl rfl (by kernel_rfl) (fun _ _ _ h => h) (Or.inl ⟨by rfl, ?_⟩) hHeld ?_ ?_
  rotate_left
  ·intro w' hS'
   (have c1 := (HX2.out.below_ hS').at_ 3 rfl; go_simp)
   first | done | with_reducible rfl
  rotate_left
  ·simp only [Act.put, List.setIfInBounds_toArray, List.set_cons_zero, List.set_cons_succ]
   rfl
  refine pure_ (i := 5) (N := (some 17)) (v := ?_) (a' := ?_) #[true, true, true, true, true, true, false, false, false, false] rfl rfl (by kernel_rfl) (fun _ _ _ h => h) (Or.inl ⟨by rfl, ?_⟩) ?_ ?_
  rotate_left
  ·intro w'
   go_simp
   first | done | with_reducible rfl
  rotate_left
  ·simp only [Act.put, List.setIfInBounds_toArray, List.set_cons_zero, List.set_cons_succ]
   rfl
  refine pure_ (i := 6) (N := (some 18)) (v := ?_) (a' := ?_) #[true, true, true, true, true, true, true, false, false, false] rfl rfl (by kernel_rfl) (fun _ _ _ h => h) (Or.inl ⟨by rfl, ?_⟩) ?_ ?_
  rotate_left
  ·intro w'
   go_simp
   first | done | with_reducible rfl
  rotate_left
  ·simp only [Act.put, List.setIfInBounds_toArray, List.set_cons_zero, List.set_cons_succ]
   rfl
  refine pure_ (i := 7) (N := (some 19)) (v := ?_) (a' := ?_) #[true, true, true, true, true, true, true, true, false, false] rfl rfl (by kernel_rfl) (fun _ _ _ h => h) (Or.inl ⟨by rfl, ?_⟩) ?_ ?_
  rotate_left
  ·intro w'
   go_simp
   first | done | with_reducible rfl
  rotate_left
  ·simp only [Act.put, List.setIfInBounds_toArray, List.set_cons_zero, List.set_cons_succ]
   rfl
  refine pure_ (i := 8) (N := (some 20)) (v := ?_) (a' := ?_) #[true, true, true, true, true, true, true, true, true, false] rfl rfl (by kernel_rfl) (fun _ _ _ h => h) (Or.inl ⟨by rfl, ?_⟩) ?_ ?_
  rotate_left
  ·intro w'
   go_simp
   first | done | with_reducible rfl
  rotate_left
  ·simp only [Act.put, List.setIfInBounds_toArray, List.set_cons_zero, List.set_cons_succ]
   rfl
  refine pure_ (i := 9) (N := (some 21)) (v := ?_) (a' := ?_) #[true, true, true, true, true, true, true, true, true, true] rfl rfl (by kernel_rfl) (fun _ _ _ h => h) (Or.inl ⟨by rfl, ?_⟩) ?_ ?_
  rotate_left
  ·intro w'
   go_simp
   first | done | with_reducible rfl
  rotate_left
  ·simp only [Act.put, List.setIfInBounds_toArray, List.set_cons_zero, List.set_cons_succ]
   rfl
  refine done_ (by kernel_rfl) ?_
  refine NoPanic.normal ?_
  have HYD := Aside0.mk HY2.out.drew
  have HBD := Aside0.mk (below_drew HB2.out)
  have d0 := HX2.out.drew.at_ 0 rfl
  have d2 := HX2.out.drew.at_ 2 rfl
  have d3 := HX2.out.drew.at_ 3 rfl
  clear c0 c2 c3
  obtain ⟨q0, HQ⟩ : ∃ q : Int, Aside0 (18446744073709551615 / b = q) := ⟨_, ⟨rfl⟩⟩
  have hbp : 0 < b := by have := HBB.out; omega
  have hq0 : 0 ≤ q0 ∧ q0 ≤ 18446744073709551615 := by
   rw [← HQ.out]
   exact ⟨Int.ediv_nonneg (by decide) (by omega), Int.ediv_le_self _ (by decide)⟩
  have hmul : q0 * b ≤ 18446744073709551615 := by rw [← HQ.out]; exact Int.ediv_mul_le _ (by omega)
  have hw : IntKind.u64.wrap (Int.tdiv 18446744073709551615 b) = q0 := by
   rw [Int.tdiv_eq_ediv_of_nonneg (by decide), HQ.out]
   exact Cn.u64_ q0 hq0.1 (by omega)
  rw [hw]
  clear hw
  have HQB := Aside0.mk (And.intro hq0 hmul)
  clear hq0 hmul
  by_cases hsq : sz ≤ q0
  ·have hdd : decide (sz ≤ q0) = true := decide_eq_true hsq
   rw [hdd]
   go_wp2_with (refine Wk.store_all rfl rfl 44 (.tmp 4) (.tmp 31) rfl (W.heap.size + 1) [.int .u32 ti, _, .bool ro] rfl rfl 44 _ HYD.out HSE.out rfl rfl ?_; intro w5 hX hO; have HX5 := Aside0.mk hX; have HO5 := Aside0.mk hO; clear hX hO)
   refine bodyPost_ret (Wk.res_c rfl _ (W.heap.size + 1) 44 _ _ rfl HX5.out Tryd.underlying44 rfl HSE.out) rfl ?_
   refine ⟨?_, Wk.Only.below HBD.out HO5.out (Nat.le_succ _)⟩
   have h1 : sz * b ≤ 18446744073709551615 := Int.le_trans (Int.mul_le_mul_of_nonneg_right hsq (Int.le_of_lt hbp)) HQB.out.2
   have h2 : 0 ≤ sz * b := Int.mul_nonneg HT.out.2.2.1 (Int.le_of_lt hbp)
   unfold Cn.served
   rw [if_pos (Or.inr (by rw [HQ.out]; exact hsq))]
   show Ending.returned (.agg #[.int .u32 ti, .int .u64 (IntKind.u64.wrap (sz * b)), .bool ro]) = _
   rw [Cn.u64_ _ h2 (by omega)]
   rfl
  ·have hdd : decide (sz ≤ q0) = false := decide_eq_false hsq
   rw [hdd]
   go_wp2_with (refine Wk.store_all rfl rfl 44 (.tmp 4) (.tmp 31) rfl (W.heap.size + 1) [.int .u32 ti, _, .bool ro] rfl rfl 44 _ HYD.out HSE.out rfl rfl ?_; intro w5 hX hO; have HX5 := Aside0.mk hX; have HO5 := Aside0.mk hO; clear hX hO)
   refine bodyPost_ret (Wk.res_c rfl _ (W.heap.size + 1) 44 _ _ rfl HX5.out Tryd.underlying44 rfl HSE.out) rfl ?_
   refine ⟨?_, Wk.Only.below HBD.out HO5.out (Nat.le_succ _)⟩
   unfold Cn.served
   rw [if_neg (fun hh => hh.elim h0 (fun h => by rw [HQ.out] at h; change sz ≤ q0 at h; omega))]
   rfl
end Go.Proofs.YtgljicdpcapgnaaDoor
set_option linter.unusedVariables false
set_option linter.unusedSimpArgs false
namespace Go.Proofs.YtgljicdpcapgnaaDoor
open Go.RowKit Go.Proofs.YtgljicdpcapgnaaDoor.PBase Go.Proofs.YtgljicdpcapgnaaDoorW.PrintWords Go.Proofs.YtgljicdpcapgnaaDoorW.PrintLast Go.Proofs.YtgljicdpcapgnaaDoorW.PrintMore
namespace Cn
theorem check_wf (l : List Ps.Tn) (s : ByteArray) : Ps.TkWf (Ps.check l s).1 := by
  have hz : Ps.TkWf Ps.zt := by unfold Ps.TkWf Ps.zt; decide
  have ht : Ps.TkWf (Ps.tok (Ps.got s)) := Ps.tok_wf _ (Ps.got_bytes s)
  unfold Ps.check
  split
  · split
    · exact hz
    · unfold Ps.verdict
      split
      · exact hz
      · split
        · exact hz
        · split
          · exact hz
          · exact ht
  · exact hz
theorem str_size (d : List Int) : (strOfNums d).size = d.length := by simp [strOfNums, ByteArray.size]
end Cn
set_option maxHeartbeats 8000000 in
set_option maxRecDepth 100000 in
theorem oldway_.calls {W : World} {ok : Nat → Prop} {p tb bs : Nat} {c : Cn.St} {l : List Ps.Tn} (h : Cn.Cn W ok p tb c) (hf : ∀ k, W.heap.size ≤ k → ok k) (hb : 0 ≤ c.blk ∧ c.blk ≤ 65535) (hK : Sh.Ks W) (hT : Ps.Tb W bs tb l) (hW : ∀ x ∈ l, Ps.TnWf x) {A : Option Addr} {n cd : Nat} {k : Int} {d : List Int} (hd : Kd.C (Kd.int .u8) W A d.length d) (hn : d.length = n) (hl : n ≤ 1000000) (hs : c.send.length ≤ 10000000000000) :
  Calls Tryd.prog 67 #[.pointer (some ⟨p, 0, none⟩), .agg #[.int .u32 k, .slice A n cd]] W fun e w' => e = .returned (.tuple #[]) ∧ Cn.Cn w' ok p tb (Cn.oldway l c d) ∧ Cn.Fr W w' ok := by
 obtain ⟨pp, vk, vs, hv⟩ := h
 have HV := Aside0.mk hv
 have HF := Aside0.mk hf
 have HBK := Aside0.mk hb
 have HK := Aside0.mk hK
 have HT := Aside0.mk hT
 have HW := Aside0.mk hW
 have HD := Aside0.mk hd
 have HN := Aside0.mk hn
 have HL := Aside0.mk hl
 have HS := Aside0.mk hs
 have HS1 := Aside0.mk Cn.size1
 have HS2 := Aside0.mk Pi.size31
 have HSK := Aside0.mk Ps.sizeTk
 have HSE := Aside0.mk Cn.sizeEx
 clear hv hf hb hK hT hW hd hn hl hs
 have HB1 : Aside0 (Below W.heap.size W (W.alloc (.cells #[.int .u32 k, .slice A n cd] 113))) := ⟨below_alloc (Below.refl _ _) _⟩
 have HX1 : Aside0 (Wk.Blk (W.alloc (.cells #[.int .u32 k, .slice A n cd] 113)) W.heap.size 113 [.int .u32 k, .slice A n cd]) := ⟨Wk.Blk.new W _ [.int .u32 k, .slice A n cd]⟩
 go_enter Tryd.func67, Tryd.ntmps67
 go_wp2_with fail
 generalize W.alloc (.cells #[.int .u32 k, .slice A n cd] 113) = w1 at *
 obtain ⟨g3, HG3⟩ : ∃ g, Aside0 (W.heap.size = g) := ⟨_, ⟨rfl⟩⟩
 have HV1 := Aside0.mk (HV.out.below HB1.out)
 obtain ⟨ti, se, ro, sz, er, HCK⟩ : ∃ ti se ro sz er, Aside0 (Ps.check l (strOfNums d) = ((ti, se, ro, sz), er)) := ⟨_, _, _, _, _, ⟨rfl⟩⟩
 have HTK : Aside0 (Ps.TkWf (ti, se, ro, sz)) := ⟨by have := Cn.check_wf l (strOfNums d); rw [HCK.out] at this; exact this⟩
 have HCH : Aside0 (∀ w', Below w1.heap.size w1 w' → Calls Tryd.prog 29 #[.pointer (some ⟨tb, 0, none⟩), .string (strOfNums d)] w' fun e w2 => e = .returned (.tuple #[.agg #[.int .u32 ti, .int .u32 se, .bool ro, .int .u64 sz], .int .u16 er]) ∧ Below w'.heap.size w' w2) := ⟨fun w' hb' => by
  have hbw := below_then HB1.out HB1.out.size hb'
  refine (check_.calls tb bs l (strOfNums d) w' (HK.out.below hbw) (HT.out.below hbw) (by rw [Cn.str_size, HN.out]; exact HL.out) HW.out).mono ?_
  rintro e w2 ⟨rfl, hb2⟩
  rw [HCK.out]
  exact ⟨rfl, hb2⟩⟩
 rw [HG3.out] at HX1 ⊢
 refine wp_region_noPanic ?_
 refine start_ (n := 14) (S := (fun w' => Below w1.heap.size w1 w')) (ds := []) #[false, false, false, false, false, false, false, false, false, false, false, false, false, false] (by kernel_rfl) rfl rfl (Below.refl _ _).drew (fun hHeld => ?_)
 refine pure_ (i := 0) (N := (some 7)) (v := ?_) (a' := ?_) #[true, false, false, false, false, false, false, false, false, false, false, false, false, false] rfl rfl (by kernel_rfl) (fun _ _ _ h => h) (Or.inl ⟨by rfl, ?_⟩) ?_ ?_
 rotate_left
 ·intro w'
  go_simp
  first | done | with_reducible rfl
 rotate_left
 ·simp only [Act.put, List.setIfInBounds_toArray, List.set_cons_zero, List.set_cons_succ]
  rfl
 refine pure_ (i := 1) (N := (some 8)) (v := ?_) (a' := ?_) #[true, true, false, false, false, false, false, false, false, false, false, false, false, false] rfl rfl (by kernel_rfl) (fun _ _ _ h => h) (Or.inl ⟨by rfl, ?_⟩) ?_ ?_
 rotate_left
 ·intro w'
  go_simp
  first | done | with_reducible rfl
 rotate_left
 ·simp only [Act.put, List.setIfInBounds_toArray, List.set_cons_zero, List.set_cons_succ]
  rfl
 refine pure_ (i := 2) (N := (some 9)) (v := ?_) (a' := ?_) #[true, true, true, false, false, false, false, false, false, false, false, false, false, false] rfl rfl (by kernel_rfl) (fun _ _ _ h => h) (Or.inl ⟨by rfl, ?_⟩) ?_ ?_
 rotate_left
 ·intro w'
  go_simp
  first | done | with_reducible rfl
 rotate_left
 ·simp only [Act.put, List.setIfInBounds_toArray, List.set_cons_zero, List.set_cons_succ]
  rfl
 refine take_ (i := 3) (N := (some 10)) (v := ?_) (a' := ?_) #[true, true, true, true, false, false, false, false, false, false, false, false, false, false] rfl rfl (by kernel_rfl) (fun _ _ _ h => h) (Or.inl ⟨by rfl, ?_⟩) hHeld ?_ ?_
 rotate_left
 ·intro w' hS'
  (have c1 := (HV1.out.below hS').blk.at_ 1 rfl; go_simp)
  first | done | with_reducible rfl
 rotate_left
 ·simp only [Act.put, List.setIfInBounds_toArray, List.set_cons_zero, List.set_cons_succ]
  rfl
 refine pure_ (i := 4) (N := (some 11)) (v := ?_) (a' := ?_) #[true, true, true, true, true, false, false, false, false, false, false, false, false, false] rfl rfl (by kernel_rfl) (fun _ _ _ h => h) (Or.inl ⟨by rfl, ?_⟩) ?_ ?_
 rotate_left
 ·intro w'
  go_simp
  first | done | with_reducible rfl
 rotate_left
 ·simp only [Act.put, List.setIfInBounds_toArray, List.set_cons_zero, List.set_cons_succ]
  rfl
 refine take_ (i := 5) (N := (some 12)) (v := ?_) (a' := ?_) #[true, true, true, true, true, true, false, false, false, false, false, false, false, false] rfl rfl (by kernel_rfl) (fun _ _ _ h => h) (Or.inl ⟨by rfl, ?_⟩) hHeld ?_ ?_
 rotate_left
 ·intro w' hS'
  (have c1 := (HX1.out.below_ hS').at_ 1 rfl; go_simp)
  first | done | with_reducible rfl
 rotate_left
 ·simp only [Act.put, List.setIfInBounds_toArray, List.set_cons_zero, List.set_cons_succ]
  rfl
 refine take_ (i := 6) (N := (some 13)) (v := ?_) (a' := ?_) #[true, true, true, true, true, true, true, false, false, false, false, false, false, false] rfl rfl (by kernel_rfl) (fun _ _ _ h => h) (Or.inl ⟨by rfl, ?_⟩) hHeld ?_ ?_
 rotate_left
 ·intro w' hS'
  (have c1 : (convert 23 9 (.slice A n cd)).run Tryd.prog w' = .ok (.string (strOfNums d)) w' := Kd.C_string Tryd.underlying23 Tryd.underlying5 Tryd.underlying9 (by have := Kd.C_below HD.out (below_then HB1.out HB1.out.size hS'); rw [HN.out] at this; exact this); go_simp)
  first | done | with_reducible rfl
 rotate_left
 ·simp only [Act.put, List.setIfInBounds_toArray, List.set_cons_zero, List.set_cons_succ]
  rfl
 have HWD : Aside0 (w1.heap.size ≤ w1.drew.heap.size) := ⟨Nat.le_refl _⟩
 generalize hwd : w1.drew = wd at *
 refine join_ (σ := Nat) (fuel' := 2) #[true, true, true, true, true, true, true, true, true, true, true, true, false, false] (fun b4 => [(14, (.tuple #[.agg #[.int .u32 ti, .int .u32 se, .bool ro, .int .u64 sz], .int .u16 er])), (6, (.tuple #[.agg #[.int .u32 ti, .int .u32 se, .bool ro, .int .u64 sz], .int .u16 er])), (15, (.agg #[.int .u32 ti, .int .u32 se, .bool ro, .int .u64 sz])), (16, .int .u16 er), (4, .pointer (some ⟨b4, 0, none⟩))]) (fun b4 w' => Below w1.heap.size w1 w' ∧ w1.heap.size ≤ b4 ∧ Wk.Blk w' b4 55 Ps.zt4) ?_ (fun hJ => ?_)
 ·rintro b4 w5 ⟨hB5, hge, hX5⟩
  refine norm_ (a' := ?_) ?_ ?_
  rotate_left
  ·show Act.put (Act.put (Act.put (Act.put (Act.put _ (some 14) _) (some 6) _) (some 15) _) (some 16) _) (some 4) _ = _
   simp only [Act.put, List.setIfInBounds_toArray, List.set_cons_zero, List.set_cons_succ]
   rfl
  change Wk.Blk w5 b4 _ _ at hX5
  change w1.heap.size ≤ b4 at hge
  have HX5 := Aside0.mk hX5
  have HB5 := Aside0.mk hB5
  have HGE := Aside0.mk hge
  clear hX5 hB5 hge
  refine one_ (i := 12) (N := none) #[true, true, true, true, true, true, true, true, true, true, true, true, true, false] rfl rfl (by kernel_rfl) (by decide) (fun K hK => ?_)
  refine Wk.store_all_step (by rfl) rfl 55 (.tmp 4) (.tmp 15) rfl b4 (Ps.tkc (ti, se, ro, sz)) rfl rfl 55 Ps.zt4 HX5.out HSK.out rfl rfl ?_
  intro w6 hX hO
  have HX6 := Aside0.mk hX
  have HB6 := Aside0.mk (Wk.Only.below HB5.out hO HGE.out)
  clear hX hO
  refine hK.out _ _ HB6.out (fun hHeld => ?_)
  clear hK K
  refine pure_ (i := 13) (N := (some 5)) (v := ?_) (a' := ?_) #[true, true, true, true, true, true, true, true, true, true, true, true, true, true] rfl rfl (by kernel_rfl) (fun _ _ _ h => h) (Or.inl ⟨by rfl, ?_⟩) ?_ ?_
  rotate_left
  ·intro w'
   go_simp
   first | done | with_reducible rfl
  rotate_left
  ·simp only [Act.put, List.setIfInBounds_toArray, List.set_cons_zero, List.set_cons_succ]
   rfl
  refine done_ (by kernel_rfl) ?_
  refine NoPanic.normal ?_
  have HBW := Aside0.mk (below_then HB1.out HB1.out.size HB6.out)
  have HV6 := Aside0.mk (HV1.out.below HB6.out)
  have HX16 := Aside0.mk (HX1.out.below_ HB6.out)
  have c1 := HX16.out.at_ 1 rfl
  clear HV1 HX1 HB1 HX5 HB5 HGE HCH hHeld HWD hwd
  by_cases he : er = 0
  ·subst he
   by_cases hn : (n : Int) > 255
   ·skip
    go_wp2_with fail
    refine (close_.calls ⟨pp, vk, vs, HV6.out⟩).mono ?_
    rintro e w7 ⟨rfl, hc7, hf7⟩
    have HC7 := Aside0.mk hc7
    have HF7 := Aside0.mk ((Cn.Fr.of_below HBW.out ok).trans hf7)
    clear hc7 hf7
    go_wp2_with fail
    refine bodyPost_ret (results_none rfl _ _ _) rfl ?_
    refine ⟨rfl, ?_, HF7.out⟩
    unfold Cn.oldway
    rw [HCK.out, if_pos (Or.inr (by rw [HN.out]; omega))]
    exact HC7.out
   ·have HNN : Aside0 (n ≤ 255) := ⟨by omega⟩
    have hrun : (Instr.loadAt 55 (.pointer (some ⟨b4, 0, none⟩))).run Tryd.prog w6 = .ok (.agg #[.int .u32 ti, .int .u32 se, .bool ro, .int .u64 sz]) w6 := Wk.run_load_blk (P := Tryd.prog) 55 b4 0 (Ps.tkc (ti, se, ro, sz)) _ HX6.out rfl Tryd.underlying55 rfl HSK.out
    go_wp2_with (refine Wk.load rfl 55 (.tmp 4) rfl _ (.pointer (some ⟨b4, 0, none⟩)) rfl hrun ?_)
    clear hrun c1
    refine (served_.calls ⟨pp, vk, vs, HV6.out⟩ HBK.out (ti, se, ro, sz) HTK.out).mono ?_
    rintro e w7 ⟨rfl, hb7⟩
    obtain ⟨x, HXE⟩ : ∃ x, Aside0 (Cn.served c.blk (ti, se, ro, sz) = x) := ⟨_, ⟨rfl⟩⟩
    rw [HXE.out]
    have HV7 := Aside0.mk (HV6.out.below hb7)
    have HB7 := Aside0.mk (below_then HBW.out HBW.out.size hb7)
    clear hb7 HV6 HB6 HX6 HX16
    go_wp2_with (first
     | (refine Wk.store rfl rfl 44 (.tmp 33) (.tmp 31) rfl p 6 (.agg (Cn.exc x).toArray) (Cn.exc x) rfl rfl (by simp [Value.cells]) 72 _ HV7.out.blk HSE.out (Nat.le_of_ble_eq_true rfl) rfl ?_; intro w8 hX hO; have HO8 := Aside0.mk hO; have HV8 : Aside0 (Cn.Cv w8 ok p tb pp vk vs { c with ex := x }) := ⟨HV7.out.turn hO hX rfl rfl rfl⟩; clear hX hO)
     | (refine Wk.store rfl rfl 5 (.tmp 35) (.const (.int .u8 3)) rfl p 5 (.int .u8 3) [.int .u8 3] rfl rfl rfl 72 _ HV8.out.blk HS1.out (Nat.le_of_ble_eq_true rfl) rfl ?_; intro w9 hX hO; have HO9 := Aside0.mk hO; have HV9 : Aside0 (Cn.Cv w9 ok p tb pp vk vs { c with ex := x, st := 3 }) := ⟨HV8.out.turn hO hX rfl rfl rfl⟩; clear hX hO))
    have HFW : Aside0 (Cn.Fr W w9 ok ∧ W.heap.size ≤ w9.heap.size) := ⟨((Cn.Fr.of_below HB7.out ok).trans (Cn.Fr.of_only HO8.out HV7.out.okp)).trans (Cn.Fr.of_only HO9.out HV7.out.okp), by have := HB7.out.size; have := HO8.out.size; have := HO9.out.size; omega⟩
    clear HV7 HV8 HO8 HO9 HB7
    refine wp_region_noPanic ?_
    refine start_ (n := 18) (S := (fun w' => Below w9.heap.size w9 w')) (ds := [14, 17]) #[false, false, false, false, false, false, false, false, false, false, false, false, false, false, false, false, false, false] (by kernel_rfl) rfl rfl (Below.refl _ _).drew (fun hHeld => ?_)
    refine pure_ (i := 0) (N := (some 36)) (v := ?_) (a' := ?_) #[true, false, false, false, false, false, false, false, false, false, false, false, false, false, false, false, false, false] rfl rfl (by kernel_rfl) (fun _ _ _ h => h) (Or.inl ⟨by rfl, ?_⟩) ?_ ?_
    rotate_left
    ·intro w'
     go_simp
     first | done | with_reducible rfl
    rotate_left
    ·simp only [Act.put, List.setIfInBounds_toArray, List.set_cons_zero, List.set_cons_succ]
     rfl
    refine pure_ (i := 1) (N := (some 37)) (v := ?_) (a' := ?_) #[true, true, false, false, false, false, false, false, false, false, false, false, false, false, false, false, false, false] rfl rfl (by kernel_rfl) (fun _ _ _ h => h) (Or.inl ⟨by rfl, ?_⟩) ?_ ?_
    rotate_left
    ·intro w'
     go_simp
     first | done | with_reducible rfl
    rotate_left
    ·simp only [Act.put, List.setIfInBounds_toArray, List.set_cons_zero, List.set_cons_succ]
     rfl
    refine pure_ (i := 2) (N := (some 38)) (v := ?_) (a' := ?_) #[true, true, true, false, false, false, false, false, false, false, false, false, false, false, false, false, false, false] rfl rfl (by kernel_rfl) (fun _ _ _ h => h) (Or.inl ⟨by rfl, ?_⟩) ?_ ?_
    rotate_left
    ·intro w'
     go_simp
     first | done | with_reducible rfl
    rotate_left
    ·simp only [Act.put, List.setIfInBounds_toArray, List.set_cons_zero, List.set_cons_succ]
     rfl
    refine pure_ (i := 3) (N := (some 39)) (v := ?_) (a' := ?_) #[true, true, true, true, false, false, false, false, false, false, false, false, false, false, false, false, false, false] rfl rfl (by kernel_rfl) (fun _ _ _ h => h) (Or.inl ⟨by rfl, ?_⟩) ?_ ?_
    rotate_left
    ·intro w'
     go_simp
     first | done | with_reducible rfl
    rotate_left
    ·simp only [Act.put, List.setIfInBounds_toArray, List.set_cons_zero, List.set_cons_succ]
     rfl
    refine take_ (i := 4) (N := (some 40)) (v := ?_) (a' := ?_) #[true, true, true, true, true, false, false, false, false, false, false, false, false, false, false, false, false, false] rfl rfl (by kernel_rfl) (fun _ _ _ h => h) (Or.inl ⟨by rfl, ?_⟩) hHeld ?_ ?_
    rotate_left
    ·intro w' hS'
     (have c1 := (HV9.out.below hS').blk.at_ 4 rfl; go_simp)
     first | done | with_reducible rfl
    rotate_left
    ·simp only [Act.put, List.setIfInBounds_toArray, List.set_cons_zero, List.set_cons_succ]
     rfl
    refine pure_ (i := 5) (N := (some 41)) (v := ?_) (a' := ?_) #[true, true, true, true, true, true, false, false, false, false, false, false, false, false, false, false, false, false] rfl rfl (by kernel_rfl) (fun _ _ _ h => h) (Or.inl ⟨by rfl, ?_⟩) ?_ ?_
    rotate_left
    ·intro w'
     go_simp
     first | done | with_reducible rfl
    rotate_left
    ·simp only [Act.put, List.setIfInBounds_toArray, List.set_cons_zero, List.set_cons_succ]
     rfl
    refine pure_ (i := 6) (N := (some 42)) (v := ?_) (a' := ?_) #[true, true, true, true, true, true, true, false, false, false, false, false, false, false, false, false, false, false] rfl rfl (by kernel_rfl) (fun _ _ _ h => h) (Or.inl ⟨by rfl, ?_⟩) ?_ ?_
    rotate_left
    ·intro w'
     go_simp
     first | done | with_reducible rfl
    rotate_left
    ·simp only [Act.put, List.setIfInBounds_toArray, List.set_cons_zero, List.set_cons_succ]
     rfl
    refine pure_ (i := 7) (N := (some 43)) (v := ?_) (a' := ?_) #[true, true, true, true, true, true, true, true, false, false, false, false, false, false, false, false, false, false] rfl rfl (by kernel_rfl) (fun _ _ _ h => h) (Or.inl ⟨by rfl, ?_⟩) ?_ ?_
    rotate_left
    ·intro w'
     go_simp
     first | done | with_reducible rfl
    rotate_left
    ·simp only [Act.put, List.setIfInBounds_toArray, List.set_cons_zero, List.set_cons_succ]
     rfl
    refine take_ (i := 8) (N := (some 44)) (v := ?_) (a' := ?_) #[true, true, true, true, true, true, true, true, true, false, false, false, false, false, false, false, false, false] rfl rfl (by kernel_rfl) (fun _ _ _ h => h) (Or.inl ⟨by rfl, ?_⟩) hHeld ?_ ?_
    rotate_left
    ·intro w' hS'
     (have hl := Wk.run_load_blk (P := Tryd.prog) 44 p 6 (Cn.exc x) _ (HV9.out.below hS').blk rfl Tryd.underlying44 rfl HSE.out; refine (Wk.exec_load 44 (.tmp 43) rfl _ _ rfl hl).trans ?_)
     first | done | with_reducible rfl
    rotate_left
    ·simp only [Act.put, List.setIfInBounds_toArray, List.set_cons_zero, List.set_cons_succ]
     rfl
    refine pure_ (i := 9) (N := (some 45)) (v := ?_) (a' := ?_) #[true, true, true, true, true, true, true, true, true, true, false, false, false, false, false, false, false, false] rfl rfl (by kernel_rfl) (fun _ _ _ h => h) (Or.inl ⟨by rfl, ?_⟩) ?_ ?_
    rotate_left
    ·intro w'
     go_simp
     first | done | with_reducible rfl
    rotate_left
    ·simp only [Act.put, List.setIfInBounds_toArray, List.set_cons_zero, List.set_cons_succ]
     rfl
    refine pure_ (i := 10) (N := (some 46)) (v := ?_) (a' := ?_) #[true, true, true, true, true, true, true, true, true, true, true, false, false, false, false, false, false, false] rfl rfl (by kernel_rfl) (fun _ _ _ h => h) (Or.inl ⟨by rfl, ?_⟩) ?_ ?_
    rotate_left
    ·intro w'
     go_simp
     first | done | with_reducible rfl
    rotate_left
    ·simp only [Act.put, List.setIfInBounds_toArray, List.set_cons_zero, List.set_cons_succ]
     rfl
    refine pure_ (i := 11) (N := (some 47)) (v := ?_) (a' := ?_) #[true, true, true, true, true, true, true, true, true, true, true, true, false, false, false, false, false, false] rfl rfl (by kernel_rfl) (fun _ _ _ h => h) (Or.inl ⟨by rfl, ?_⟩) ?_ ?_
    rotate_left
    ·intro w'
     go_simp
     first | done | with_reducible rfl
    rotate_left
    ·simp only [Act.put, List.setIfInBounds_toArray, List.set_cons_zero, List.set_cons_succ]
     rfl
    refine take_ (i := 12) (N := (some 48)) (v := ?_) (a' := ?_) #[true, true, true, true, true, true, true, true, true, true, true, true, true, false, false, false, false, false] rfl rfl (by kernel_rfl) (fun _ _ _ h => h) (Or.inl ⟨by rfl, ?_⟩) hHeld ?_ ?_
    rotate_left
    ·intro w' hS'
     (have c1 := (HV9.out.below hS').blk.at_ 9 rfl; go_simp)
     first | done | with_reducible rfl
    rotate_left
    ·simp only [Act.put, List.setIfInBounds_toArray, List.set_cons_zero, List.set_cons_succ]
     rfl
    refine one_ (i := 13) (N := (some 49)) #[true, true, true, true, true, true, true, true, true, true, true, true, true, true, false, false, false, false] rfl rfl (by kernel_rfl) (by decide) (fun K hK => ?_)
    refine call_ 81 #[.agg (Cn.exc x).toArray, .bool c.sh] (by rfl) rfl (by go_simp) ?_
    refine (Cn.old_ _ x c.sh).mono ?_
    rintro e w10 ⟨A2, c2, rfl, hR2, hb2⟩
    have HR2 := Aside0.mk hR2
    have HB2 := Aside0.mk (below_then hHeld hHeld.size hb2)
    clear hR2 hb2
    refine ⟨_, rfl, ?_⟩
    refine hK.out _ _ HB2.out (fun hHeld => ?_)
    clear hK K
    refine norm_ (a' := ?_) ?_ ?_
    rotate_left
    ·show Act.put _ (some 49) _ = _
     simp only [Act.put, List.setIfInBounds_toArray, List.set_cons_zero, List.set_cons_succ]
     rfl
    have HV10 := Aside0.mk (HV9.out.below HB2.out)
    have HLR : Aside0 ((Cn.old x c.sh).length ≤ 2000000) := ⟨by
     have := Cn.packs_len4 [8, 2] [x.2.1, Cn.can x.2.2] (by simp)
     unfold Cn.old
     rw [List.length_append]
     split
     ·simp; omega
     ·rw [List.length_replicate]; omega⟩
    have HFS : Aside0 (∀ j, w10.heap.size ≤ j → ok j ∧ some j ≠ vk.ownBlock) := ⟨HV10.out.freshK (fun j hj => HF.out j (Nat.le_trans HFW.out.2 (Nat.le_trans HB2.out.size hj)))⟩
    refine last_ (i := 14) (N := (some 50)) #[true, true, true, true, true, true, true, true, true, true, true, true, true, true, true, false, false, false] rfl rfl (by kernel_rfl) (by decide) (fun K hK => ?_)
    refine Kd.R_append_rows_step (Kd.int .u8) (w0 := w10) (W := w10) 0 (by rfl) (.tmp 40) (.tmp 49) 23 5 (.int .u8 0) 1 rfl Tryd.underlying23 Cn.infoByte rfl (by decide) (by omega) vs c.send (Cn.old x c.sh) A2 _ c2 (fun k => ok k ∧ some k ≠ vk.ownBlock) (fun _ => False) rfl rfl HV10.out.send (Kd.R_reads' HR2.out).2.2 (fun _ _ h => h) (fun _ h => h.elim) HFS.out (Below.refl _ _) (Nat.zero_le _) (by have := HS.out; have := HLR.out; omega) ?_
    intro v3 w11 hr3 _ hg3 hat3
    obtain ⟨A3, c3, hv3⟩ := Kd.R_slice hr3
    obtain ⟨L3, HL3⟩ : ∃ L, Aside0 ((c.send ++ Cn.old x c.sh).length = L) := ⟨_, ⟨rfl⟩⟩
    rw [HL3.out] at hv3
    subst hv3
    have HR3 := Aside0.mk hr3
    have HG3' := Aside0.mk hg3
    have HA3 := Aside0.mk (Cn.hat_of hat3)
    have HX3 := Aside0.mk (HV10.out.blk.grown hg3 (Kd.R_ne HV10.out.send HV10.out.blk.out (by decide)))
    clear hr3 hg3 hat3
    refine hK.out _ _ ?_
    clear hK K
    refine norm_ (a' := ?_) ?_ ?_
    rotate_left
    ·show Act.put _ (some 50) _ = _
     simp only [Act.put, List.setIfInBounds_toArray, List.set_cons_zero, List.set_cons_succ]
     rfl
    refine pure_ (i := 15) (N := (some 51)) (v := ?_) (a' := ?_) #[true, true, true, true, true, true, true, true, true, true, true, true, true, true, true, true, false, false] rfl rfl (by kernel_rfl) (fun _ _ _ h => h) (Or.inl ⟨by rfl, ?_⟩) ?_ ?_
    rotate_left
    ·intro w'
     go_simp
     first | done | with_reducible rfl
    rotate_left
    ·simp only [Act.put, List.setIfInBounds_toArray, List.set_cons_zero, List.set_cons_succ]
     rfl
    refine pure_ (i := 16) (N := (some 52)) (v := ?_) (a' := ?_) #[true, true, true, true, true, true, true, true, true, true, true, true, true, true, true, true, true, false] rfl rfl (by kernel_rfl) (fun _ _ _ h => h) (Or.inl ⟨by rfl, ?_⟩) ?_ ?_
    rotate_left
    ·intro w'
     go_simp
     first | done | with_reducible rfl
    rotate_left
    ·simp only [Act.put, List.setIfInBounds_toArray, List.set_cons_zero, List.set_cons_succ]
     rfl
    refine last_ (i := 17) (N := none) #[true, true, true, true, true, true, true, true, true, true, true, true, true, true, true, true, true, true] rfl rfl (by kernel_rfl) (by decide) (fun K hK => ?_)
    refine Wk.store_step (by rfl) rfl 23 (.tmp 52) (.tmp 50) rfl p 4 (.slice A3 L3 c3) [.slice A3 L3 c3] rfl rfl rfl 72 _ HX3.out HS2.out (Nat.le_of_ble_eq_true rfl) rfl ?_
    intro w12 hX hO
    have HO12 := Aside0.mk hO
    have HV12 : Aside0 (Cn.Cv w12 ok p tb pp vk (.slice A3 L3 c3) { c with ex := x, st := 3, send := c.send ++ Cn.old x c.sh }) := ⟨HV10.out.sent HR3.out HG3'.out HA3.out hO hX rfl rfl rfl⟩
    clear hX hO
    refine hK.out _ _ ?_
    clear hK K
    refine done_ (by kernel_rfl) ?_
    refine NoPanic.normal ?_
    go_wp2_with fail
    go_end0
    refine ⟨rfl, ?_, ((HFW.out.1.trans (Cn.Fr.of_below HB2.out ok)).trans (Cn.Fr.of_grown HG3'.out HV10.out.okS)).trans (Cn.Fr.of_only HO12.out HV10.out.okp)⟩
    unfold Cn.oldway
    rw [HCK.out, if_neg (by rw [HN.out]; have := HNN.out; omega), HXE.out]
    exact ⟨pp, vk, _, HV12.out⟩
  ·have hneb : (er == 0) = false := by simpa using he
   go_wp2_with fail
   refine (close_.calls ⟨pp, vk, vs, HV6.out⟩).mono ?_
   rintro e w7 ⟨rfl, hc7, hf7⟩
   have HC7 := Aside0.mk hc7
   have HF7 := Aside0.mk ((Cn.Fr.of_below HBW.out ok).trans hf7)
   clear hc7 hf7
   go_wp2_with fail
   refine bodyPost_ret (results_none rfl _ _ _) rfl ?_
   refine ⟨rfl, ?_, HF7.out⟩
   unfold Cn.oldway
   rw [HCK.out, if_pos (Or.inl he)]
   exact HC7.out
 ·refine two_ (i := 7) (j := 11) (Ni := some 14) (Nj := some 4) #[true, true, true, true, true, true, true, true, false, false, false, false, false, false] #[true, true, true, true, true, true, true, false, false, false, false, true, false, false] rfl rfl rfl rfl (by kernel_rfl) (by decide) (by decide) (fun K hK => ?_) (fun K hK => ?_)
  ·refine call_ 29 #[.pointer (some ⟨tb, 0, none⟩), .string (strOfNums d)] (by rfl) rfl (by go_simp) ?_
   refine (HCH.out _ hHeld).mono ?_
   rintro e w7 ⟨rfl, hbn⟩
   refine ⟨_, rfl, ?_⟩
   have hbt : Below w1.heap.size w1 w7 := below_then hHeld hHeld.size hbn
   refine hK.out _ _ hbt (fun hHeld => ?_)
   clear hK K hbt hbn
   refine norm_ (a' := ?_) ?_ ?_
   rotate_left
   ·show Act.put _ (some 14) _ = _
    simp only [Act.put, List.setIfInBounds_toArray, List.set_cons_zero, List.set_cons_succ]
    rfl
   refine pure_ (i := 8) (N := (some 6)) (v := ?_) (a' := ?_) #[true, true, true, true, true, true, true, true, true, false, false, false, false, false] rfl rfl (by kernel_rfl) (fun _ _ _ h => h) (Or.inl ⟨by rfl, ?_⟩) ?_ ?_
   rotate_left
   ·intro w'
    go_simp
    first | done | with_reducible rfl
   rotate_left
   ·simp only [Act.put, List.setIfInBounds_toArray, List.set_cons_zero, List.set_cons_succ]
    rfl
   refine pure_ (i := 9) (N := (some 15)) (v := ?_) (a' := ?_) #[true, true, true, true, true, true, true, true, true, true, false, false, false, false] rfl rfl (by kernel_rfl) (fun _ _ _ h => h) (Or.inl ⟨by rfl, ?_⟩) ?_ ?_
   rotate_left
   ·intro w'
    go_simp
    first | done | with_reducible rfl
   rotate_left
   ·simp only [Act.put, List.setIfInBounds_toArray, List.set_cons_zero, List.set_cons_succ]
    rfl
   refine pure_ (i := 10) (N := (some 16)) (v := ?_) (a' := ?_) #[true, true, true, true, true, true, true, true, true, true, true, false, false, false] rfl rfl (by kernel_rfl) (fun _ _ _ h => h) (Or.inl ⟨by rfl, ?_⟩) ?_ ?_
   rotate_left
   ·intro w'
    go_simp
    first | done | with_reducible rfl
   rotate_left
   ·simp only [Act.put, List.setIfInBounds_toArray, List.set_cons_zero, List.set_cons_succ]
    rfl
   refine one_ (i := 11) (N := some 4) #[true, true, true, true, true, true, true, true, true, true, true, true, false, false] rfl rfl (by kernel_rfl) (by decide) (fun K hK => ?_)
   refine value_ (w1 := w7.alloc (.cells Ps.zt4.toArray 55)) (v := .pointer (some ⟨w7.heap.size, 0, none⟩)) (by rfl) rfl (by first | (go_simp; done) | (go_simp; rfl)) ?_
   have hoe : Wk.Blk (w7.alloc (.cells Ps.zt4.toArray 55)) w7.heap.size 55 Ps.zt4 := Wk.Blk.new w7 _ Ps.zt4
   have hbn : Below w7.heap.size w7 (w7.alloc (.cells Ps.zt4.toArray 55)) := below_alloc (Below.refl _ _) _
   have hbt : Below w1.heap.size w1 (w7.alloc (.cells Ps.zt4.toArray 55)) := below_then hHeld hHeld.size hbn
   generalize World.alloc w7 (.cells Ps.zt4.toArray 55) = w11_7 at *
   have hres : Below w1.heap.size w1 w11_7 ∧ w1.heap.size ≤ w7.heap.size ∧ Wk.Blk w11_7 w7.heap.size 55 Ps.zt4 := ⟨hbt, hHeld.size, hoe⟩
   have HRES := Aside0.mk hres
   refine hK.out _ _ hbt (fun hHeld => ?_)
   clear hK K hbt hbn hoe hres
   refine norm_ (a' := ?_) ?_ ?_
   rotate_left
   ·show Act.put _ (some 4) _ = _
    simp only [Act.put, List.setIfInBounds_toArray, List.set_cons_zero, List.set_cons_succ]
    rfl
   refine norm_ (a' := putAll _ ((fun b4 : Nat => ([(14, (.tuple #[.agg #[.int .u32 ti, .int .u32 se, .bool ro, .int .u64 sz], .int .u16 er])), (6, (.tuple #[.agg #[.int .u32 ti, .int .u32 se, .bool ro, .int .u64 sz], .int .u16 er])), (15, (.agg #[.int .u32 ti, .int .u32 se, .bool ro, .int .u64 sz])), (16, .int .u16 er), (4, .pointer (some ⟨b4, 0, none⟩))] : List (Tmp × Value))) w7.heap.size)) ?_ (hJ w7.heap.size w11_7 HRES.out)
   simp only [putAll, Act.put, List.setIfInBounds_toArray, List.set_cons_zero, List.set_cons_succ]
  ·refine value_ (w1 := wd.alloc (.cells Ps.zt4.toArray 55)) (v := .pointer (some ⟨wd.heap.size, 0, none⟩)) (by rfl) rfl (by first | (go_simp; done) | (go_simp; rfl)) ?_
   have hoe : Wk.Blk (wd.alloc (.cells Ps.zt4.toArray 55)) wd.heap.size 55 Ps.zt4 := Wk.Blk.new wd _ Ps.zt4
   have hbn : Below wd.heap.size wd (wd.alloc (.cells Ps.zt4.toArray 55)) := below_alloc (Below.refl _ _) _
   have hbt : Below w1.heap.size w1 (wd.alloc (.cells Ps.zt4.toArray 55)) := below_then hHeld hHeld.size hbn
   generalize World.alloc wd (.cells Ps.zt4.toArray 55) = w11 at *
   have HOE := Aside0.mk (And.intro (show w1.heap.size ≤ wd.heap.size from HWD.out) hoe)
   refine hK.out _ _ hbt (fun hHeld => ?_)
   clear hK K hbt hbn hoe
   refine norm_ (a' := ?_) ?_ ?_
   rotate_left
   ·show Act.put _ (some 4) _ = _
    simp only [Act.put, List.setIfInBounds_toArray, List.set_cons_zero, List.set_cons_succ]
    rfl
   refine one_ (i := 7) (N := some 14) #[true, true, true, true, true, true, true, true, false, false, false, true, false, false] rfl rfl (by kernel_rfl) (by decide) (fun K hK => ?_)
   refine call_ 29 #[.pointer (some ⟨tb, 0, none⟩), .string (strOfNums d)] (by rfl) rfl (by go_simp) ?_
   refine (HCH.out _ hHeld).mono ?_
   rintro e w7_11 ⟨rfl, hbn⟩
   refine ⟨_, rfl, ?_⟩
   have hbt : Below w1.heap.size w1 w7_11 := below_then hHeld hHeld.size hbn
   have HRES := Aside0.mk (show Below w1.heap.size w1 w7_11 ∧ w1.heap.size ≤ wd.heap.size ∧ Wk.Blk w7_11 wd.heap.size 55 Ps.zt4 from ⟨hbt, HOE.out.1, HOE.out.2.below_ hbn⟩)
   refine hK.out _ _ hbt (fun hHeld => ?_)
   clear hK K hbt hbn
   refine norm_ (a' := ?_) ?_ ?_
   rotate_left
   ·show Act.put _ (some 14) _ = _
    simp only [Act.put, List.setIfInBounds_toArray, List.set_cons_zero, List.set_cons_succ]
    rfl
   refine pure_ (i := 8) (N := (some 6)) (v := ?_) (a' := ?_) #[true, true, true, true, true, true, true, true, true, false, false, true, false, false] rfl rfl (by kernel_rfl) (fun _ _ _ h => h) (Or.inl ⟨by rfl, ?_⟩) ?_ ?_
   rotate_left
   ·intro w'
    go_simp
    first | done | with_reducible rfl
   rotate_left
   ·simp only [Act.put, List.setIfInBounds_toArray, List.set_cons_zero, List.set_cons_succ]
    rfl
   refine pure_ (i := 9) (N := (some 15)) (v := ?_) (a' := ?_) #[true, true, true, true, true, true, true, true, true, true, false, true, false, false] rfl rfl (by kernel_rfl) (fun _ _ _ h => h) (Or.inl ⟨by rfl, ?_⟩) ?_ ?_
   rotate_left
   ·intro w'
    go_simp
    first | done | with_reducible rfl
   rotate_left
   ·simp only [Act.put, List.setIfInBounds_toArray, List.set_cons_zero, List.set_cons_succ]
    rfl
   refine pure_ (i := 10) (N := (some 16)) (v := ?_) (a' := ?_) #[true, true, true, true, true, true, true, true, true, true, true, true, false, false] rfl rfl (by kernel_rfl) (fun _ _ _ h => h) (Or.inl ⟨by rfl, ?_⟩) ?_ ?_
   rotate_left
   ·intro w'
    go_simp
    first | done | with_reducible rfl
   rotate_left
   ·simp only [Act.put, List.setIfInBounds_toArray, List.set_cons_zero, List.set_cons_succ]
    rfl
   refine norm_ (a' := putAll _ ((fun b4 : Nat => ([(14, (.tuple #[.agg #[.int .u32 ti, .int .u32 se, .bool ro, .int .u64 sz], .int .u16 er])), (6, (.tuple #[.agg #[.int .u32 ti, .int .u32 se, .bool ro, .int .u64 sz], .int .u16 er])), (15, (.agg #[.int .u32 ti, .int .u32 se, .bool ro, .int .u64 sz])), (16, .int .u16 er), (4, .pointer (some ⟨b4, 0, none⟩))] : List (Tmp × Value))) wd.heap.size)) ?_ (hJ wd.heap.size w7_11 HRES.out)
   simp only [putAll, Act.put, List.setIfInBounds_toArray, List.set_cons_zero, List.set_cons_succ]
end Go.Proofs.YtgljicdpcapgnaaDoor
set_option linter.unusedVariables false
set_option linter.unusedSimpArgs false
namespace Go.Proofs.YtgljicdpcapgnaaDoor
open Go.RowKit Go.Proofs.YtgljicdpcapgnaaDoor.PBase Go.Proofs.YtgljicdpcapgnaaDoorW.PrintWords Go.Proofs.YtgljicdpcapgnaaDoorW.PrintLast Go.Proofs.YtgljicdpcapgnaaDoorW.PrintMore
namespace Cn
theorem sizeOp : (Tryd.prog.info? 113).map (·.size) = some 2 := by kernel_rfl
theorem Blk_frame {W W' : World} {ok : Nat → Prop} {g : Nat} {t : TypeId} {cs : List Value} (h : Wk.Blk W g t cs) (hf : Fr W W' ok) (hg : ¬ ok g) : Wk.Blk W' g t cs := ⟨(hf.block g h.lt hg).trans h.out⟩
theorem R_frame {α : Type} {d : Kd α} {e : Nat} {W W' : World} {base : Nat} {ok ok' : Nat → Prop} {v : Value} {xs : List α} (h : d.R e W base ok v xs) (hf : Fr W W' ok') (hd : ∀ k, ok k → ¬ ok' k) : d.R e W' base ok v xs := Kd.R_step h (fun k ho hk => hf.block k hk (hd k ho))
theorem refused_range (e : Int) : 0 ≤ refused e ∧ refused e < 4294967296 := by
  unfold refused
  split
  · decide
  · split
    · decide
    · decide
theorem rep_len (o k : Int) (d : List Int) : (rep o k d).length ≤ 8000 + d.length := by
  have := packs_len4 [8, 4, 4, 4] [1100100111001001, o, k, (d.length : Int)] (by simp)
  unfold rep
  rw [List.length_append]
  omega
theorem ak_size (d : List Int) : (Gr.ak d).1.size ≤ d.length := by
  unfold Gr.ak
  repeat' split
  all_goals first
    | exact Nat.zero_le _
    | (rw [str_size, List.length_take, List.length_drop]; omega)
theorem pairs_len : ∀ l : List Int, (Gr.pairs l).length ≤ l.length
  | [] => Nat.le_refl _
  | [_] => Nat.zero_le _
  | a :: b :: l => by
    rw [Gr.pairs, List.length_cons, List.length_cons, List.length_cons]
    have := pairs_len l
    omega
theorem ak_wants (d : List Int) : (Gr.ak d).2.1.length ≤ d.length := by
  unfold Gr.ak
  repeat' split
  all_goals first
    | exact Nat.zero_le _
    | (refine Nat.le_trans (pairs_len _) ?_; rw [List.length_drop, List.length_drop, List.length_drop]; omega)
theorem R_own {e : Nat} {k : IntKind} {W : World} {base : Nat} {ok : Nat → Prop} {v : Value} {xs : List Int} (h : Kd.R (Kd.int k) e W base ok v xs) : Kd.R (Kd.int k) e W base (fun j => v.ownBlock = some j) v xs := ⟨fun _ hk => hk, h.2.imp_ (fun _ _ hp => hp)⟩
theorem info_len (x : Ex) : (info x).length ≤ 8000 := packs_len4 _ _ (by simp)
theorem blocks_len (b : Int) : (blocks b).length ≤ 8000 := packs_len4 _ _ (by simp)
theorem say_len (c : St) (o k : Int) (d : List Int) : (say c o k d).send.length ≤ c.send.length + 8000 + d.length := by
  have := rep_len o k d
  unfold say
  simp only [List.length_append]
  omega
end Cn
set_option maxHeartbeats 8000000 in
set_option maxRecDepth 100000 in
theorem askedc_.calls {W : World} {ok : Nat → Prop} {p tb bs : Nat} {c : Cn.St} {l : List Ps.Tn} (h : Cn.Cn W ok p tb c) (hf : ∀ k, W.heap.size ≤ k → ok k) (hb : 0 ≤ c.blk ∧ c.blk ≤ 65535) (hK : Sh.Ks W) (hT : Ps.Tb W bs tb l) (hW : ∀ x ∈ l, Ps.TnWf x) {A : Option Addr} {n cd : Nat} {k : Int} {d : List Int} (hk : 0 ≤ k ∧ k < 4294967296) (hd : Kd.C (Kd.int .u8) W A d.length d) (hn : d.length = n) (hc : n ≤ cd) (hl : n ≤ 100000) (hby : Sh.Bytes d) (hs : c.send.length ≤ 9000000000000) :
  Calls Tryd.prog 68 #[.pointer (some ⟨p, 0, none⟩), .agg #[.int .u32 k, .slice A n cd]] W fun e w' => e = .returned (.tuple #[]) ∧ Cn.Cn w' ok p tb (Cn.asked l c k d) ∧ Cn.Fr W w' ok := by
 have HC0 := Aside0.mk h.bound
 have HF := Aside0.mk hf
 have HBK := Aside0.mk hb
 have HK := Aside0.mk hK
 have HT := Aside0.mk hT
 have HW := Aside0.mk hW
 have HKK := Aside0.mk hk
 have HD := Aside0.mk hd
 have HN := Aside0.mk hn
 have HL := Aside0.mk (And.intro hc hl)
 have HBY := Aside0.mk hby
 have HS := Aside0.mk hs
 have HS1 := Aside0.mk Cn.size1
 have HSO := Aside0.mk Cn.sizeOp
 have HSK := Aside0.mk Ps.sizeTk
 have HSE := Aside0.mk Cn.sizeEx
 clear h hf hb hK hT hW hk hd hn hc hl hby hs
 have HB1 : Aside0 (Below W.heap.size W (W.alloc (.cells #[.int .u32 k, .slice A n cd] 113))) := ⟨below_alloc (Below.refl _ _) _⟩
 have HX1 : Aside0 (Wk.Blk (W.alloc (.cells #[.int .u32 k, .slice A n cd] 113)) W.heap.size 113 [.int .u32 k, .slice A n cd]) := ⟨Wk.Blk.new W _ [.int .u32 k, .slice A n cd]⟩
 obtain ⟨s, ws, e, HAK⟩ : ∃ s ws e, Aside0 (Gr.ak d = (s, ws, e)) := ⟨_, _, _, ⟨rfl⟩⟩
 go_enter Tryd.func68, Tryd.ntmps68
 have k1 := HX1.out.at_ 1 rfl
 go_wp2_with fail
 clear k1
 generalize W.alloc (.cells #[.int .u32 k, .slice A n cd] 113) = w1 at *
 obtain ⟨g3, HG3⟩ : ∃ g, Aside0 (W.heap.size = g) := ⟨_, ⟨rfl⟩⟩
 rw [HG3.out] at HX1 ⊢
 refine (Cn.asked_ (Kd.C_below HD.out HB1.out) HN.out HL.out.1 HL.out.2 HBY.out HAK.out).mono ?_
 rintro e' w2 ⟨A5, c5, rfl, hR5, hb2⟩
 obtain ⟨n5, HN5⟩ : ∃ m, Aside0 (ws.length = m) := ⟨_, ⟨rfl⟩⟩
 rw [HN5.out] at hR5 ⊢
 have HB3 := Aside0.mk (below_then (below_then HB1.out HB1.out.size hb2) (below_then HB1.out HB1.out.size hb2).size (below_alloc (Below.refl w2.heap.size w2) (.cells #[.int .u32 0, .int .u32 0, .bool false, .int .u64 0] 55)))
 have HX3 := Aside0.mk ((HX1.out.below_ hb2).alloc (.cells #[.int .u32 0, .int .u32 0, .bool false, .int .u64 0] 55))
 have HY3 : Aside0 (Wk.Blk (w2.alloc (.cells #[.int .u32 0, .int .u32 0, .bool false, .int .u64 0] 55)) w2.heap.size 55 Ps.zt4) := ⟨Wk.Blk.new w2 _ Ps.zt4⟩
 have HR3 : Aside0 (Kd.R (Kd.int .u16) 56 (w2.alloc (.cells #[.int .u32 0, .int .u32 0, .bool false, .int .u64 0] 55)) w1.heap.size (fun _ => True) (.slice A5 n5 c5) ws) := ⟨Kd.R_below hR5 (below_alloc (Below.refl _ _) _)⟩
 have HG7 : Aside0 (g3 < w2.heap.size ∧ w1.heap.size ≤ w2.heap.size ∧ g3 < w1.heap.size) := ⟨(HX1.out.below_ hb2).lt, hb2.size, HX1.out.lt⟩
 have HR5 : Aside0 (Kd.R (Kd.int .u16) 56 w2 w1.heap.size (fun _ => True) (.slice A5 n5 c5) ws) := ⟨hR5⟩
 clear hR5 hb2
 by_cases he : e = 0
 ·subst he
  have k1 := ((HC0.out.below HB3.out).choose_spec.choose_spec.choose_spec).blk.at_ 1 rfl
  go_wp2_with fail
  clear k1
  generalize w2.alloc (.cells #[.int .u32 0, .int .u32 0, .bool false, .int .u64 0] 55) = w3 at *
  obtain ⟨b7, HB7⟩ : ∃ g, Aside0 (w2.heap.size = g) := ⟨_, ⟨rfl⟩⟩
  rw [HB7.out] at HY3 HG7 ⊢
  have HSS : Aside0 (s.size ≤ 100000) := ⟨by have := Cn.ak_size d; rw [HAK.out, HN.out] at this; change s.size ≤ n at this; have := HL.out.2; omega⟩
  have HWL : Aside0 (n5 ≤ 100000) := ⟨by have := Cn.ak_wants d; rw [HAK.out, HN.out] at this; change ws.length ≤ n at this; have := HL.out.2; have := HN5.out; omega⟩
  refine (check_.calls tb bs l s w3 (HK.out.below HB3.out) (HT.out.below HB3.out) (by have := HSS.out; omega) HW.out).mono ?_
  rintro e' wc ⟨rfl, hbc⟩
  obtain ⟨ti, se, ro, sz, f, HCK⟩ : ∃ ti se ro sz f, Aside0 (Ps.check l s = ((ti, se, ro, sz), f)) := ⟨_, _, _, _, _, ⟨rfl⟩⟩
  have HTK : Aside0 (Ps.TkWf (ti, se, ro, sz)) := ⟨by have := Cn.check_wf l s; rw [HCK.out] at this; exact this⟩
  rw [HCK.out]
  have HBc := Aside0.mk (below_then HB3.out HB3.out.size hbc)
  have HXc := Aside0.mk (HX3.out.below_ hbc)
  have HYc := Aside0.mk (HY3.out.below_ hbc)
  have HRc := Aside0.mk (Kd.R_below HR3.out hbc)
  have HW1 : Aside0 (W.heap.size ≤ w1.heap.size) := ⟨by have := HG7.out; have := HG3.out; omega⟩
  have HGW : Aside0 (W.heap.size ≤ b7 ∧ g3 ≠ b7) := ⟨by have := HG7.out; have := HG3.out; omega, by have := HG7.out; omega⟩
  clear hbc HX3 HY3 HR3 HR5 HB7 HX1 HB1 HG7
  by_cases hf0 : f = 0
  ·subst hf0
   go_wp2_with (first
    | (refine Wk.store_all rfl rfl 55 (.tmp 7) (.tmp 25) rfl b7 (Ps.tkc (ti, se, ro, sz)) rfl rfl 55 _ HYc.out HSK.out rfl rfl ?_; intro w4 hX hO; have HY4 := Aside0.mk hX; have HX4 := Aside0.mk (HXc.out.only hO HGW.out.2); have HBW := Aside0.mk (Wk.Only.below HBc.out hO HGW.out.1); have HR4 := Aside0.mk (Wk.R_only HRc.out HYc.out (by decide) hO); clear hX hO)
    | refine Wk.load rfl 55 (.tmp 7) rfl (.agg #[.int .u32 ti, .int .u32 se, .bool ro, .int .u64 sz]) (.pointer (some ⟨b7, 0, none⟩)) rfl (Wk.run_load_blk (P := Tryd.prog) 55 b7 0 (Ps.tkc (ti, se, ro, sz)) _ HY4.out rfl Tryd.underlying55 rfl HSK.out) ?_)
   have HCW := Aside0.mk (HC0.out.below HBW.out)
   refine (served_.calls HCW.out HBK.out (ti, se, ro, sz) HTK.out).mono ?_
   rintro e' w5 ⟨rfl, hb5⟩
   obtain ⟨x, HXE⟩ : ∃ x, Aside0 (Cn.served c.blk (ti, se, ro, sz) = x) := ⟨_, ⟨rfl⟩⟩
   rw [HXE.out]
   have HB5 := Aside0.mk (below_then HBW.out HBW.out.size hb5)
   have HX5 := Aside0.mk (HX4.out.below_ hb5)
   have HR5 := Aside0.mk (Kd.R_below HR4.out hb5)
   clear hb5 HBW HX4 HR4 HCW HY4 HBc HXc HYc HRc
   go_wp2_with (refine Wk.store_all rfl rfl 44 (.tmp 8) (.tmp 36) rfl w5.heap.size (Cn.exc x) rfl rfl 44 (Cn.exc Cn.ex0) (Wk.Blk.new w5 44 (Cn.exc Cn.ex0)) HSE.out rfl rfl ?_; intro w6 hX hO; have HF6 := Aside0.mk (Wk.Only.fresh HB5.out HB5.out.size hO); have HZ6 := Aside0.mk hX; clear hX hO)
   have HX6 := Aside0.mk (HX5.out.below_ HF6.out.2.2)
   have HR6 := Aside0.mk (Cn.R_own (Kd.R_below HR5.out HF6.out.2.2))
   have HB6 := Aside0.mk HF6.out.2.1
   obtain ⟨b8, HB8⟩ : ∃ g, Aside0 (w5.heap.size = g) := ⟨_, ⟨rfl⟩⟩
   rw [HB8.out] at HZ6 ⊢
   have HNE : Aside0 (W.heap.size ≤ g3 ∧ g3 < w6.heap.size ∧ W.heap.size ≤ b8 ∧ b8 < w6.heap.size ∧ ∀ j, (Value.slice A5 n5 c5).ownBlock = some j → W.heap.size ≤ j ∧ j < w6.heap.size) := ⟨by
    refine ⟨by rw [HG3.out]; exact Nat.le_refl _, HX6.out.lt, by rw [← HB8.out]; exact HB5.out.size, HZ6.out.lt, fun j hj => ?_⟩
    have := (Kd.R_bound HR6.out).1 j hj
    exact ⟨Nat.le_trans HW1.out this.2.1, this.2.2.1⟩⟩
   obtain ⟨okL, HOK⟩ : ∃ okL : Nat → Prop, Aside0 (∀ j, okL j ↔ (ok j ∧ j ≠ g3 ∧ j ≠ b8 ∧ (Value.slice A5 n5 c5).ownBlock ≠ some j)) := ⟨fun j => ok j ∧ j ≠ g3 ∧ j ≠ b8 ∧ (Value.slice A5 n5 c5).ownBlock ≠ some j, ⟨fun _ => Iff.rfl⟩⟩
   have HOL : Aside0 (∀ j, okL j → ok j) := ⟨fun j hj => ((HOK.out j).1 hj).1⟩
   have HFR : Aside0 (∀ j, w6.heap.size ≤ j → okL j) := ⟨fun j hj => (HOK.out j).2 ⟨HF.out j (Nat.le_trans HB6.out.size hj), by have := HNE.out.2.1; omega, by have := HNE.out.2.2.2.1; omega, fun he => by have := (HNE.out.2.2.2.2 j he).2; omega⟩⟩
   have HC6 : Aside0 (Cn.Cn w6 okL p tb c) := ⟨(HC0.out.below HB6.out).mono (fun j hj => (HOK.out j).2 ⟨hj.1, by have := HNE.out.1; have := hj.2; omega, by have := HNE.out.2.2.1; have := hj.2; omega, fun he => by have := (HNE.out.2.2.2.2 j he).1; have := hj.2; omega⟩)⟩
   have HNG : Aside0 (¬ okL g3 ∧ ¬ okL b8 ∧ ∀ j, (Value.slice A5 n5 c5).ownBlock = some j → ¬ okL j) := ⟨fun hh => ((HOK.out _).1 hh).2.1 rfl, fun hh => ((HOK.out _).1 hh).2.2.1 rfl, fun j hj hh => ((HOK.out _).1 hh).2.2.2 hj⟩
   clear HX5 HR5 HB5 HF6 HB8 HOK HNE
   refine wp_region_noPanic ?_
   refine start_ (n := 5) (S := (fun w' => Below w6.heap.size w6 w')) (ds := [4]) #[false, false, false, false, false] (by kernel_rfl) rfl rfl (Below.refl _ _).drew (fun hHeld => ?_)
   refine pure_ (i := 0) (N := (some 37)) (v := ?_) (a' := ?_) #[true, false, false, false, false] rfl rfl (by kernel_rfl) (fun _ _ _ h => h) (Or.inl ⟨by rfl, ?_⟩) ?_ ?_
   rotate_left
   ·intro w'
    go_simp
    first | done | with_reducible rfl
   rotate_left
   ·simp only [Act.put, List.setIfInBounds_toArray, List.set_cons_zero, List.set_cons_succ]
    rfl
   refine take_ (i := 1) (N := (some 38)) (v := ?_) (a' := ?_) #[true, true, false, false, false] rfl rfl (by kernel_rfl) (fun _ _ _ h => h) (Or.inl ⟨by rfl, ?_⟩) hHeld ?_ ?_
   rotate_left
   ·intro w' hS'
    (have hl := Wk.run_load_blk (P := Tryd.prog) 113 g3 0 [.int .u32 k, .slice A n cd] _ (HX6.out.below_ hS') rfl Tryd.underlying113 rfl HSO.out; refine (Wk.exec_load 113 (.tmp 3) rfl _ _ rfl hl).trans ?_)
    first | done | with_reducible rfl
   rotate_left
   ·simp only [Act.put, List.setIfInBounds_toArray, List.set_cons_zero, List.set_cons_succ]
    rfl
   refine take_ (i := 2) (N := (some 39)) (v := ?_) (a' := ?_) #[true, true, true, false, false] rfl rfl (by kernel_rfl) (fun _ _ _ h => h) (Or.inl ⟨by rfl, ?_⟩) hHeld ?_ ?_
   rotate_left
   ·intro w' hS'
    (have hl := Wk.run_load_blk (P := Tryd.prog) 44 b8 0 (Cn.exc x) _ (HZ6.out.below_ hS') rfl Tryd.underlying44 rfl HSE.out; refine (Wk.exec_load 44 (.tmp 8) rfl _ _ rfl hl).trans ?_)
    first | done | with_reducible rfl
   rotate_left
   ·simp only [Act.put, List.setIfInBounds_toArray, List.set_cons_zero, List.set_cons_succ]
    rfl
   refine one_ (i := 3) (N := (some 40)) #[true, true, true, true, false] rfl rfl (by kernel_rfl) (by decide) (fun K hK => ?_)
   refine call_ 84 #[.agg (Cn.exc x).toArray] (by rfl) rfl (by go_simp) ?_
   refine (Cn.info_ _ x).mono ?_
   rintro e7 w7 ⟨A9, c9, rfl, hR7, hb7⟩
   have HR7 := Aside0.mk hR7
   have HB7 := Aside0.mk (below_then hHeld hHeld.size hb7)
   clear hR7 hb7
   refine ⟨_, rfl, ?_⟩
   refine hK.out _ _ HB7.out (fun hHeld => ?_)
   clear hK K
   refine norm_ (a' := ?_) ?_ ?_
   rotate_left
   ·show Act.put _ (some 40) _ = _
    simp only [Act.put, List.setIfInBounds_toArray, List.set_cons_zero, List.set_cons_succ]
    rfl
   refine last_ (i := 4) (N := (some 41)) #[true, true, true, true, true] rfl rfl (by kernel_rfl) (by decide) (fun K hK => ?_)
   refine call_ 66 #[.pointer (some ⟨p, 0, none⟩), .agg #[.int .u32 k, .slice A n cd], .int .u32 3, .slice A9 (Cn.info x).length c9] (by rfl) rfl (by go_simp) ?_
   refine (reply_.calls (HC6.out.below HB7.out) (fun j hj => HFR.out j (Nat.le_trans HB7.out.size hj)) HKK.out (by decide) (Kd.R_reads' HR7.out).2.2 rfl (Kd.R_reads' HR7.out).2.1 (by have := Cn.info_len x; omega) (by have := HS.out; omega)).mono ?_
   rintro e8 w8 ⟨rfl, hc8, hf8⟩
   have HC8 := Aside0.mk hc8
   have HX8 := Aside0.mk (Cn.Blk_frame (HX6.out.below_ HB7.out) hf8 HNG.out.1)
   have HZ8 := Aside0.mk (Cn.Blk_frame (HZ6.out.below_ HB7.out) hf8 HNG.out.2.1)
   have HR8 := Aside0.mk (Cn.R_frame (Kd.R_below HR6.out HB7.out) hf8 HNG.out.2.2)
   have HF8 := Aside0.mk (((Cn.Fr.of_below HB6.out ok).trans (Cn.Fr.of_below HB7.out ok)).trans (hf8.mono HOL.out))
   have HS8 : Aside0 (w6.heap.size ≤ w8.heap.size) := ⟨Nat.le_trans HB7.out.size hf8.size⟩
   clear hc8 hf8
   refine ⟨_, rfl, ?_⟩
   refine hK.out _ _ ?_
   clear hK K
   refine norm_ (a' := ?_) ?_ ?_
   rotate_left
   ·show Act.put _ (some 41) _ = _
    simp only [Act.put, List.setIfInBounds_toArray, List.set_cons_zero, List.set_cons_succ]
    rfl
   refine done_ (by kernel_rfl) ?_
   refine NoPanic.normal ?_
   clear HX6 HZ6 HR6 HC6 HB6
   obtain ⟨c1, HC1E⟩ : ∃ c1, Aside0 (Cn.say c k 3 (Cn.info x) = c1) := ⟨_, ⟨rfl⟩⟩
   have HL1 : Aside0 (c1.send.length ≤ 9000000100000 ∧ c1.blk = c.blk) := ⟨by
    rw [← HC1E.out]
    have h1 := Cn.say_len c k 3 (Cn.info x)
    have h2 := Cn.info_len x
    have h3 := HS.out
    exact ⟨by omega, rfl⟩⟩
   rw [HC1E.out] at HC8
   obtain ⟨wb, HWB⟩ : ∃ b, Aside0 (decide (3 ∈ ws) = b) := ⟨_, ⟨rfl⟩⟩
   go_wp2_with fail
   refine (Cn.cont16_ (Kd.R_reads' HR8.out).2.2 HN5.out (Kd.R_reads' HR8.out).2.1 (by have := HWL.out; omega) HWB.out).mono ?_
   rintro e9 w9 ⟨rfl, hb9⟩
   have HC9' := Aside0.mk (HC8.out.below hb9)
   have HX9' := Aside0.mk (HX8.out.below_ hb9)
   have HZ9' := Aside0.mk (HZ8.out.below_ hb9)
   have HF9' := Aside0.mk (HF8.out.trans (Cn.Fr.of_below hb9 ok))
   have HS9' : Aside0 (w6.heap.size ≤ w9.heap.size) := ⟨Nat.le_trans HS8.out hb9.size⟩
   clear hb9 HC8 HX8 HZ8 HF8 HS8 HR8
   cases wb with
   | true =>
    have k2 := (HC9'.out.choose_spec.choose_spec.choose_spec).blk.at_ 2 rfl
    rw [HL1.out.2] at k2
    go_wp2_with fail
    clear k2
    refine wp_region_noPanic ?_
    refine start_ (n := 8) (S := (fun w' => Below w9.heap.size w9 w')) (ds := [7]) #[false, false, false, false, false, false, false, false] (by kernel_rfl) rfl rfl (Below.refl _ _).drew (fun hHeld => ?_)
    refine pure_ (i := 0) (N := (some 44)) (v := ?_) (a' := ?_) #[true, false, false, false, false, false, false, false] rfl rfl (by kernel_rfl) (fun _ _ _ h => h) (Or.inl ⟨by rfl, ?_⟩) ?_ ?_
    rotate_left
    ·intro w'
     go_simp
     first | done | with_reducible rfl
    rotate_left
    ·simp only [Act.put, List.setIfInBounds_toArray, List.set_cons_zero, List.set_cons_succ]
     rfl
    refine take_ (i := 1) (N := (some 45)) (v := ?_) (a' := ?_) #[true, true, false, false, false, false, false, false] rfl rfl (by kernel_rfl) (fun _ _ _ h => h) (Or.inl ⟨by rfl, ?_⟩) hHeld ?_ ?_
    rotate_left
    ·intro w' hS'
     (have hl := Wk.run_load_blk (P := Tryd.prog) 113 g3 0 [.int .u32 k, .slice A n cd] _ (HX9'.out.below_ hS') rfl Tryd.underlying113 rfl HSO.out; refine (Wk.exec_load 113 (.tmp 3) rfl _ _ rfl hl).trans ?_)
     first | done | with_reducible rfl
    rotate_left
    ·simp only [Act.put, List.setIfInBounds_toArray, List.set_cons_zero, List.set_cons_succ]
     rfl
    refine pure_ (i := 2) (N := (some 46)) (v := ?_) (a' := ?_) #[true, true, true, false, false, false, false, false] rfl rfl (by kernel_rfl) (fun _ _ _ h => h) (Or.inl ⟨by rfl, ?_⟩) ?_ ?_
    rotate_left
    ·intro w'
     go_simp
     first | done | with_reducible rfl
    rotate_left
    ·simp only [Act.put, List.setIfInBounds_toArray, List.set_cons_zero, List.set_cons_succ]
     rfl
    refine pure_ (i := 3) (N := (some 47)) (v := ?_) (a' := ?_) #[true, true, true, true, false, false, false, false] rfl rfl (by kernel_rfl) (fun _ _ _ h => h) (Or.inl ⟨by rfl, ?_⟩) ?_ ?_
    rotate_left
    ·intro w'
     go_simp
     first | done | with_reducible rfl
    rotate_left
    ·simp only [Act.put, List.setIfInBounds_toArray, List.set_cons_zero, List.set_cons_succ]
     rfl
    refine pure_ (i := 4) (N := (some 48)) (v := ?_) (a' := ?_) #[true, true, true, true, true, false, false, false] rfl rfl (by kernel_rfl) (fun _ _ _ h => h) (Or.inl ⟨by rfl, ?_⟩) ?_ ?_
    rotate_left
    ·intro w'
     go_simp
     first | done | with_reducible rfl
    rotate_left
    ·simp only [Act.put, List.setIfInBounds_toArray, List.set_cons_zero, List.set_cons_succ]
     rfl
    refine take_ (i := 5) (N := (some 49)) (v := ?_) (a' := ?_) #[true, true, true, true, true, true, false, false] rfl rfl (by kernel_rfl) (fun _ _ _ h => h) (Or.inl ⟨by rfl, ?_⟩) hHeld ?_ ?_
    rotate_left
    ·intro w' hS'
     (have k2 := ((HC9'.out.below hS').choose_spec.choose_spec.choose_spec).blk.at_ 2 rfl; rw [HL1.out.2] at k2; go_simp)
     first | done | with_reducible rfl
    rotate_left
    ·simp only [Act.put, List.setIfInBounds_toArray, List.set_cons_zero, List.set_cons_succ]
     rfl
    refine one_ (i := 6) (N := (some 50)) #[true, true, true, true, true, true, true, false] rfl rfl (by kernel_rfl) (by decide) (fun K hK => ?_)
    refine call_ 86 #[.int .i64 c.blk] (by rfl) rfl (by go_simp) ?_
    refine (Cn.blocks_ _ c.blk HBK.out.1 (by have := HBK.out.2; omega)).mono ?_
    rintro e7 w13 ⟨A9', c9', rfl, hR7, hb7⟩
    have HR13 := Aside0.mk hR7
    have HB13 := Aside0.mk (below_then hHeld hHeld.size hb7)
    clear hR7 hb7
    refine ⟨_, rfl, ?_⟩
    refine hK.out _ _ HB13.out (fun hHeld => ?_)
    clear hK K
    refine norm_ (a' := ?_) ?_ ?_
    rotate_left
    ·show Act.put _ (some 50) _ = _
     simp only [Act.put, List.setIfInBounds_toArray, List.set_cons_zero, List.set_cons_succ]
     rfl
    refine last_ (i := 7) (N := (some 51)) #[true, true, true, true, true, true, true, true] rfl rfl (by kernel_rfl) (by decide) (fun K hK => ?_)
    refine call_ 66 #[.pointer (some ⟨p, 0, none⟩), .agg #[.int .u32 k, .slice A n cd], .int .u32 3, .slice A9' (Cn.blocks c.blk).length c9'] (by rfl) rfl (by go_simp) ?_
    refine (reply_.calls (HC9'.out.below HB13.out) (fun j hj => HFR.out j (Nat.le_trans HS9'.out (Nat.le_trans HB13.out.size hj))) HKK.out (by decide) (Kd.R_reads' HR13.out).2.2 rfl (Kd.R_reads' HR13.out).2.1 (by have := Cn.blocks_len c.blk; omega) (by have := HL1.out.1; omega)).mono ?_
    rintro e8 w14 ⟨rfl, hc8, hf8⟩
    have HC9 := Aside0.mk hc8
    have HX9 := Aside0.mk (Cn.Blk_frame (HX9'.out.below_ HB13.out) hf8 HNG.out.1)
    have HZ9 := Aside0.mk (Cn.Blk_frame (HZ9'.out.below_ HB13.out) hf8 HNG.out.2.1)
    have HF9 := Aside0.mk ((HF9'.out.trans (Cn.Fr.of_below HB13.out ok)).trans (hf8.mono HOL.out))
    have HS9 : Aside0 (w6.heap.size ≤ w14.heap.size) := ⟨Nat.le_trans HS9'.out (Nat.le_trans HB13.out.size hf8.size)⟩
    clear hc8 hf8
    refine ⟨_, rfl, ?_⟩
    refine hK.out _ _ ?_
    clear hK K
    refine norm_ (a' := ?_) ?_ ?_
    rotate_left
    ·show Act.put _ (some 51) _ = _
     simp only [Act.put, List.setIfInBounds_toArray, List.set_cons_zero, List.set_cons_succ]
     rfl
    refine done_ (by kernel_rfl) ?_
    refine NoPanic.normal ?_
    have HL9 : Aside0 ((Cn.say c1 k 3 (Cn.blocks c.blk)).send.length ≤ 9000000200000) := ⟨by
     have h1 := Cn.say_len c1 k 3 (Cn.blocks c.blk)
     have h2 := Cn.blocks_len c.blk
     have h3 := HL1.out.1
     omega⟩
    clear HC9' HX9' HZ9' HF9' HS9'
    have hl11 := Wk.run_load_blk (P := Tryd.prog) 113 g3 0 [.int .u32 k, .slice A n cd] _ HX9.out rfl Tryd.underlying113 rfl HSO.out
    go_wp2_with (refine Wk.load rfl 113 (.tmp 3) rfl (.agg #[.int .u32 k, .slice A n cd]) (.pointer (some ⟨g3, 0, none⟩)) rfl hl11 ?_)
    clear hl11
    refine (reply_.calls HC9.out (fun j hj => HFR.out j (Nat.le_trans HS9.out hj)) HKK.out (by decide) (d := []) (Kd.C_nil _ _) rfl (Nat.le_refl _) (by decide) (by have := HL9.out; omega)).mono ?_
    rintro e10 w10 ⟨rfl, hc10, hf10⟩
    have HC10 := Aside0.mk hc10
    have HX10 := Aside0.mk (Cn.Blk_frame HX9.out hf10 HNG.out.1)
    have HZ10 := Aside0.mk (Cn.Blk_frame HZ9.out hf10 HNG.out.2.1)
    have HF10 := Aside0.mk (HF9.out.trans (hf10.mono HOL.out))
    have k0 := HX10.out.at_ 0 rfl
    clear hc10 hf10
    by_cases hk7 : k = 7
    ·have hkb : (k == 7) = true := by simpa using hk7
     have HK7 := Aside0.mk hk7
     clear hk7
     obtain ⟨pp, vk, vs, hv⟩ := HC10.out
     have HV10 := Aside0.mk hv
     clear hv
     go_wp2_with (first
      | refine Wk.load rfl 44 (.tmp 8) rfl (.agg (Cn.exc x).toArray) (.pointer (some ⟨b8, 0, none⟩)) rfl (Wk.run_load_blk (P := Tryd.prog) 44 b8 0 (Cn.exc x) _ HZ10.out rfl Tryd.underlying44 rfl HSE.out) ?_
      | (refine Wk.store rfl rfl 44 (.tmp 62) (.tmp 60) rfl p 6 (.agg (Cn.exc x).toArray) (Cn.exc x) rfl rfl (by simp [Value.cells]) 72 _ HV10.out.blk HSE.out (Nat.le_of_ble_eq_true rfl) rfl ?_; intro w11 hX hO; have HO11 := Aside0.mk hO; have HV11 : Aside0 (Cn.Cv w11 okL p tb pp vk vs { Cn.say (Cn.say c1 k 3 (Cn.blocks c.blk)) k 1 [] with ex := x }) := ⟨HV10.out.turn hO hX rfl rfl rfl⟩; clear hX hO)
      | (refine Wk.store rfl rfl 5 (.tmp 64) (.const (.int .u8 3)) rfl p 5 (.int .u8 3) [.int .u8 3] rfl rfl rfl 72 _ HV11.out.blk HS1.out (Nat.le_of_ble_eq_true rfl) rfl ?_; intro w12 hX hO; have HO12 := Aside0.mk hO; have HV12 : Aside0 (Cn.Cv w12 okL p tb pp vk vs { Cn.say (Cn.say c1 k 3 (Cn.blocks c.blk)) k 1 [] with ex := x, st := 3 }) := ⟨HV11.out.turn hO hX rfl rfl rfl⟩; clear hX hO))
     go_end0
     refine ⟨rfl, ?_, (HF10.out.trans (Cn.Fr.of_only HO11.out (HOL.out _ HV10.out.okp))).trans (Cn.Fr.of_only HO12.out (HOL.out _ HV10.out.okp))⟩
     unfold Cn.asked
     rw [HAK.out, if_neg (fun h => h rfl), HCK.out, if_neg (fun h => h rfl), HXE.out]
     simp only [HC1E.out]
     rw [(if_pos (of_decide_eq_true HWB.out)), if_pos HK7.out]
     exact ⟨pp, vk, vs, HV12.out.mono HOL.out⟩
    ·have hkb : (k == 7) = false := by simpa using hk7
     go_wp2_with fail
     go_end0
     refine ⟨rfl, ?_, HF10.out⟩
     unfold Cn.asked
     rw [HAK.out, if_neg (fun h => h rfl), HCK.out, if_neg (fun h => h rfl), HXE.out]
     simp only [HC1E.out]
     rw [(if_pos (of_decide_eq_true HWB.out)), if_neg hk7]
     exact HC10.out.mono HOL.out
   | false =>
    have HC9 := HC9'
    have HX9 := HX9'
    have HZ9 := HZ9'
    have HF9 := HF9'
    have HS9 := HS9'
    have HL9 : Aside0 (c1.send.length ≤ 9000000200000) := ⟨by have := HL1.out.1; omega⟩
    clear HC9' HX9' HZ9' HF9' HS9'
    have hl11 := Wk.run_load_blk (P := Tryd.prog) 113 g3 0 [.int .u32 k, .slice A n cd] _ HX9.out rfl Tryd.underlying113 rfl HSO.out
    go_wp2_with (refine Wk.load rfl 113 (.tmp 3) rfl (.agg #[.int .u32 k, .slice A n cd]) (.pointer (some ⟨g3, 0, none⟩)) rfl hl11 ?_)
    clear hl11
    refine (reply_.calls HC9.out (fun j hj => HFR.out j (Nat.le_trans HS9.out hj)) HKK.out (by decide) (d := []) (Kd.C_nil _ _) rfl (Nat.le_refl _) (by decide) (by have := HL9.out; omega)).mono ?_
    rintro e10 w10 ⟨rfl, hc10, hf10⟩
    have HC10 := Aside0.mk hc10
    have HX10 := Aside0.mk (Cn.Blk_frame HX9.out hf10 HNG.out.1)
    have HZ10 := Aside0.mk (Cn.Blk_frame HZ9.out hf10 HNG.out.2.1)
    have HF10 := Aside0.mk (HF9.out.trans (hf10.mono HOL.out))
    have k0 := HX10.out.at_ 0 rfl
    clear hc10 hf10
    by_cases hk7 : k = 7
    ·have hkb : (k == 7) = true := by simpa using hk7
     have HK7 := Aside0.mk hk7
     clear hk7
     obtain ⟨pp, vk, vs, hv⟩ := HC10.out
     have HV10 := Aside0.mk hv
     clear hv
     go_wp2_with (first
      | refine Wk.load rfl 44 (.tmp 8) rfl (.agg (Cn.exc x).toArray) (.pointer (some ⟨b8, 0, none⟩)) rfl (Wk.run_load_blk (P := Tryd.prog) 44 b8 0 (Cn.exc x) _ HZ10.out rfl Tryd.underlying44 rfl HSE.out) ?_
      | (refine Wk.store rfl rfl 44 (.tmp 62) (.tmp 60) rfl p 6 (.agg (Cn.exc x).toArray) (Cn.exc x) rfl rfl (by simp [Value.cells]) 72 _ HV10.out.blk HSE.out (Nat.le_of_ble_eq_true rfl) rfl ?_; intro w11 hX hO; have HO11 := Aside0.mk hO; have HV11 : Aside0 (Cn.Cv w11 okL p tb pp vk vs { Cn.say c1 k 1 [] with ex := x }) := ⟨HV10.out.turn hO hX rfl rfl rfl⟩; clear hX hO)
      | (refine Wk.store rfl rfl 5 (.tmp 64) (.const (.int .u8 3)) rfl p 5 (.int .u8 3) [.int .u8 3] rfl rfl rfl 72 _ HV11.out.blk HS1.out (Nat.le_of_ble_eq_true rfl) rfl ?_; intro w12 hX hO; have HO12 := Aside0.mk hO; have HV12 : Aside0 (Cn.Cv w12 okL p tb pp vk vs { Cn.say c1 k 1 [] with ex := x, st := 3 }) := ⟨HV11.out.turn hO hX rfl rfl rfl⟩; clear hX hO))
     go_end0
     refine ⟨rfl, ?_, (HF10.out.trans (Cn.Fr.of_only HO11.out (HOL.out _ HV10.out.okp))).trans (Cn.Fr.of_only HO12.out (HOL.out _ HV10.out.okp))⟩
     unfold Cn.asked
     rw [HAK.out, if_neg (fun h => h rfl), HCK.out, if_neg (fun h => h rfl), HXE.out]
     simp only [HC1E.out]
     rw [(if_neg (of_decide_eq_false HWB.out)), if_pos HK7.out]
     exact ⟨pp, vk, vs, HV12.out.mono HOL.out⟩
    ·have hkb : (k == 7) = false := by simpa using hk7
     go_wp2_with fail
     go_end0
     refine ⟨rfl, ?_, HF10.out⟩
     unfold Cn.asked
     rw [HAK.out, if_neg (fun h => h rfl), HCK.out, if_neg (fun h => h rfl), HXE.out]
     simp only [HC1E.out]
     rw [(if_neg (of_decide_eq_false HWB.out)), if_neg hk7]
     exact HC10.out.mono HOL.out
  ·have hfb : (f == 0) = false := by simpa using hf0
   go_wp2_with (refine Wk.store_all rfl rfl 55 (.tmp 7) (.tmp 25) rfl b7 (Ps.tkc (ti, se, ro, sz)) rfl rfl 55 _ HYc.out HSK.out rfl rfl ?_; intro w4 hX hO; have HX4 := Aside0.mk (HXc.out.only hO HGW.out.2); have HBW := Aside0.mk (Wk.Only.below HBc.out hO HGW.out.1); clear hX hO)
   have HCW := Aside0.mk (HC0.out.below HBW.out)
   have HCL : Aside0 (Cn.Cn w4 (fun j => ok j ∧ j ≠ g3) p tb c) := ⟨HCW.out.mono (fun j hj => ⟨hj.1, by have := hj.2; have := HG3.out; omega⟩)⟩
   have HFL : Aside0 (∀ j, w4.heap.size ≤ j → ok j ∧ j ≠ g3) := ⟨fun j hj => ⟨HF.out j (Nat.le_trans HBW.out.size hj), by have := HX4.out.lt; omega⟩⟩
   refine wp_region_noPanic ?_
   refine start_ (n := 5) (S := (fun w' => Below w4.heap.size w4 w')) (ds := [4]) #[false, false, false, false, false] (by kernel_rfl) rfl rfl (Below.refl _ _).drew (fun hHeld => ?_)
   refine pure_ (i := 0) (N := (some 29)) (v := ?_) (a' := ?_) #[true, false, false, false, false] rfl rfl (by kernel_rfl) (fun _ _ _ h => h) (Or.inl ⟨by rfl, ?_⟩) ?_ ?_
   rotate_left
   ·intro w'
    go_simp
    first | done | with_reducible rfl
   rotate_left
   ·simp only [Act.put, List.setIfInBounds_toArray, List.set_cons_zero, List.set_cons_succ]
    rfl
   refine take_ (i := 1) (N := (some 30)) (v := ?_) (a' := ?_) #[true, true, false, false, false] rfl rfl (by kernel_rfl) (fun _ _ _ h => h) (Or.inl ⟨by rfl, ?_⟩) hHeld ?_ ?_
   rotate_left
   ·intro w' hS'
    (have hl := Wk.run_load_blk (P := Tryd.prog) 113 g3 0 [.int .u32 k, .slice A n cd] _ (HX4.out.below_ hS') rfl Tryd.underlying113 rfl HSO.out; refine (Wk.exec_load 113 (.tmp 3) rfl _ _ rfl hl).trans ?_)
    first | done | with_reducible rfl
   rotate_left
   ·simp only [Act.put, List.setIfInBounds_toArray, List.set_cons_zero, List.set_cons_succ]
    rfl
   refine pure_ (i := 2) (N := (some 31)) (v := ?_) (a' := ?_) #[true, true, true, false, false] rfl rfl (by kernel_rfl) (fun _ _ _ h => h) (Or.inl ⟨by rfl, ?_⟩) ?_ ?_
   rotate_left
   ·intro w'
    go_simp
    first | done | with_reducible rfl
   rotate_left
   ·simp only [Act.put, List.setIfInBounds_toArray, List.set_cons_zero, List.set_cons_succ]
    rfl
   refine one_ (i := 3) (N := (some 32)) #[true, true, true, true, false] rfl rfl (by kernel_rfl) (by decide) (fun K hK => ?_)
   refine call_ 83 #[.int .u16 f] (by rfl) rfl (by go_simp) ?_
   refine (Cn.refused_ _ f).mono ?_
   rintro e5 w5 ⟨rfl, hb5⟩
   have HB5 := Aside0.mk (below_then hHeld hHeld.size hb5)
   clear hb5
   refine ⟨_, rfl, ?_⟩
   refine hK.out _ _ HB5.out (fun hHeld => ?_)
   clear hK K
   refine norm_ (a' := ?_) ?_ ?_
   rotate_left
   ·show Act.put _ (some 32) _ = _
    simp only [Act.put, List.setIfInBounds_toArray, List.set_cons_zero, List.set_cons_succ]
    rfl
   refine last_ (i := 4) (N := (some 33)) #[true, true, true, true, true] rfl rfl (by kernel_rfl) (by decide) (fun K hK => ?_)
   refine call_ 66 #[.pointer (some ⟨p, 0, none⟩), .agg #[.int .u32 k, .slice A n cd], .int .u32 (Cn.refused f), .slice none 0 0] (by rfl) rfl (by go_simp) ?_
   refine (reply_.calls (HCL.out.below HB5.out) (fun j hj => HFL.out j (Nat.le_trans HB5.out.size hj)) HKK.out (Cn.refused_range f) (d := []) (Kd.C_nil _ _) rfl (Nat.le_refl _) (by decide) (by have := HS.out; omega)).mono ?_
   rintro e6 w6 ⟨rfl, hc6, hf6⟩
   have HC6 := Aside0.mk (hc6.mono (fun j hj => hj.1))
   have HF6 := Aside0.mk (((Cn.Fr.of_below HBW.out ok).trans (Cn.Fr.of_below HB5.out ok)).trans (hf6.mono (fun j hj => hj.1)))
   clear hc6 hf6
   refine ⟨_, rfl, ?_⟩
   refine hK.out _ _ ?_
   clear hK K
   refine norm_ (a' := ?_) ?_ ?_
   rotate_left
   ·show Act.put _ (some 33) _ = _
    simp only [Act.put, List.setIfInBounds_toArray, List.set_cons_zero, List.set_cons_succ]
    rfl
   refine done_ (by kernel_rfl) ?_
   refine NoPanic.normal ?_
   go_wp2_with fail
   refine bodyPost_ret (results_none rfl _ _ _) rfl ?_
   refine ⟨rfl, ?_, HF6.out⟩
   unfold Cn.asked
   rw [HAK.out]
   rw [if_neg (fun h => h rfl), HCK.out, if_pos hf0]
   exact HC6.out
 ·have heb : (e == 0) = false := by simpa using he
  go_wp2_with fail
  generalize w2.alloc (.cells #[.int .u32 0, .int .u32 0, .bool false, .int .u64 0] 55) = w4 at *
  have HBW := HB3
  have HX4 := HX3
  have HCW := Aside0.mk (HC0.out.below HB3.out)
  have HCL : Aside0 (Cn.Cn w4 (fun j => ok j ∧ j ≠ g3) p tb c) := ⟨HCW.out.mono (fun j hj => ⟨hj.1, by have := hj.2; have := HG3.out; omega⟩)⟩
  have HFL : Aside0 (∀ j, w4.heap.size ≤ j → ok j ∧ j ≠ g3) := ⟨fun j hj => ⟨HF.out j (Nat.le_trans HBW.out.size hj), by have := HX4.out.lt; omega⟩⟩
  refine wp_region_noPanic ?_
  refine start_ (n := 5) (S := (fun w' => Below w4.heap.size w4 w')) (ds := [4]) #[false, false, false, false, false] (by kernel_rfl) rfl rfl (Below.refl _ _).drew (fun hHeld => ?_)
  refine pure_ (i := 0) (N := (some 29)) (v := ?_) (a' := ?_) #[true, false, false, false, false] rfl rfl (by kernel_rfl) (fun _ _ _ h => h) (Or.inl ⟨by rfl, ?_⟩) ?_ ?_
  rotate_left
  ·intro w'
   go_simp
   first | done | with_reducible rfl
  rotate_left
  ·simp only [Act.put, List.setIfInBounds_toArray, List.set_cons_zero, List.set_cons_succ]
   rfl
  refine take_ (i := 1) (N := (some 30)) (v := ?_) (a' := ?_) #[true, true, false, false, false] rfl rfl (by kernel_rfl) (fun _ _ _ h => h) (Or.inl ⟨by rfl, ?_⟩) hHeld ?_ ?_
  rotate_left
  ·intro w' hS'
   (have hl := Wk.run_load_blk (P := Tryd.prog) 113 g3 0 [.int .u32 k, .slice A n cd] _ (HX4.out.below_ hS') rfl Tryd.underlying113 rfl HSO.out; refine (Wk.exec_load 113 (.tmp 3) rfl _ _ rfl hl).trans ?_)
   first | done | with_reducible rfl
  rotate_left
  ·simp only [Act.put, List.setIfInBounds_toArray, List.set_cons_zero, List.set_cons_succ]
   rfl
  refine pure_ (i := 2) (N := (some 31)) (v := ?_) (a' := ?_) #[true, true, true, false, false] rfl rfl (by kernel_rfl) (fun _ _ _ h => h) (Or.inl ⟨by rfl, ?_⟩) ?_ ?_
  rotate_left
  ·intro w'
   go_simp
   first | done | with_reducible rfl
  rotate_left
  ·simp only [Act.put, List.setIfInBounds_toArray, List.set_cons_zero, List.set_cons_succ]
   rfl
  refine one_ (i := 3) (N := (some 32)) #[true, true, true, true, false] rfl rfl (by kernel_rfl) (by decide) (fun K hK => ?_)
  refine call_ 83 #[.int .u16 e] (by rfl) rfl (by go_simp) ?_
  refine (Cn.refused_ _ e).mono ?_
  rintro e5 w5 ⟨rfl, hb5⟩
  have HB5 := Aside0.mk (below_then hHeld hHeld.size hb5)
  clear hb5
  refine ⟨_, rfl, ?_⟩
  refine hK.out _ _ HB5.out (fun hHeld => ?_)
  clear hK K
  refine norm_ (a' := ?_) ?_ ?_
  rotate_left
  ·show Act.put _ (some 32) _ = _
   simp only [Act.put, List.setIfInBounds_toArray, List.set_cons_zero, List.set_cons_succ]
   rfl
  refine last_ (i := 4) (N := (some 33)) #[true, true, true, true, true] rfl rfl (by kernel_rfl) (by decide) (fun K hK => ?_)
  refine call_ 66 #[.pointer (some ⟨p, 0, none⟩), .agg #[.int .u32 k, .slice A n cd], .int .u32 (Cn.refused e), .slice none 0 0] (by rfl) rfl (by go_simp) ?_
  refine (reply_.calls (HCL.out.below HB5.out) (fun j hj => HFL.out j (Nat.le_trans HB5.out.size hj)) HKK.out (Cn.refused_range e) (d := []) (Kd.C_nil _ _) rfl (Nat.le_refl _) (by decide) (by have := HS.out; omega)).mono ?_
  rintro e6 w6 ⟨rfl, hc6, hf6⟩
  have HC6 := Aside0.mk (hc6.mono (fun j hj => hj.1))
  have HF6 := Aside0.mk (((Cn.Fr.of_below HBW.out ok).trans (Cn.Fr.of_below HB5.out ok)).trans (hf6.mono (fun j hj => hj.1)))
  clear hc6 hf6
  refine ⟨_, rfl, ?_⟩
  refine hK.out _ _ ?_
  clear hK K
  refine norm_ (a' := ?_) ?_ ?_
  rotate_left
  ·show Act.put _ (some 33) _ = _
   simp only [Act.put, List.setIfInBounds_toArray, List.set_cons_zero, List.set_cons_succ]
   rfl
  refine done_ (by kernel_rfl) ?_
  refine NoPanic.normal ?_
  go_wp2_with fail
  refine bodyPost_ret (results_none rfl _ _ _) rfl ?_
  refine ⟨rfl, ?_, HF6.out⟩
  unfold Cn.asked
  rw [HAK.out]
  rw [if_pos he]
  exact HC6.out
end Go.Proofs.YtgljicdpcapgnaaDoor
set_option linter.unusedVariables false
set_option linter.unusedSimpArgs false
namespace Go.Proofs.YtgljicdpcapgnaaDoor.Cn
open Go.RowKit Go.Proofs.YtgljicdpcapgnaaDoor Go.Proofs.YtgljicdpcapgnaaDoor.PBase Go.Proofs.YtgljicdpcapgnaaDoorW.PrintWords Go.Proofs.YtgljicdpcapgnaaDoorW.PrintLast Go.Proofs.YtgljicdpcapgnaaDoorW.PrintMore
theorem bytes_drop {l : List Int} (h : Sh.Bytes l) (n : Nat) : Sh.Bytes (l.drop n) := fun x hx => h x (List.mem_of_mem_drop hx)
theorem bytes_take {l : List Int} (h : Sh.Bytes l) (n : Nat) : Sh.Bytes (l.take n) := fun x hx => h x (List.mem_of_mem_take hx)
theorem fl_cases (l : List Int) : (l.length < 4 ∧ Gr.fl l = (false, 0, 70)) ∨ (4 ≤ l.length ∧ ∃ b, Gr.fl l = (b, 4, 0)) ∨ (4 ≤ l.length ∧ Gr.fl l = (false, 0, 72)) := by
  unfold Gr.fl
  by_cases h : l.length < 4
  · rw [if_pos h]; exact .inl ⟨h, rfl⟩
  · rw [if_neg h]
    split
    · exact .inr (.inl ⟨by omega, _, rfl⟩)
    · exact .inr (.inr ⟨by omega, rfl⟩)
theorem nx_cases (l : List Int) (hb : Sh.Bytes l) : Gr.nx l = (0, [], 0, 70) ∨ Gr.nx l = (0, [], 0, 71) ∨ Gr.nx l = (0, [], 0, 73) ∨
    ∃ (k : Int) (m : Nat), m ≤ 1024 ∧ 16 + m ≤ l.length ∧ (0 ≤ k ∧ k < 4294967296) ∧ Gr.nx l = (k, (l.drop 16).take m, 16 + (m : Int), 0) := by
  unfold Gr.nx
  by_cases h : l.length < 16
  · rw [if_pos h]; exact .inl rfl
  · rw [if_neg h]
    by_cases h1 : Wi.num (l.take 8) ≠ 5280542401877725268
    · rw [if_pos h1]; exact .inr (.inl rfl)
    · rw [if_neg h1]
      have b3 := Gr.num_bound (l.drop 12) (bytes_drop hb 12) 4 (by decide)
      have b2 := Gr.num_bound (l.drop 8) (bytes_drop hb 8) 4 (by decide)
      have p4 : (256 : Int) ^ 4 = 4294967296 := by decide
      rw [p4] at b2 b3
      by_cases h2 : Wi.num ((l.drop 12).take 4) > 1024
      · rw [if_pos h2]; exact .inr (.inr (.inl rfl))
      · rw [if_neg h2]
        by_cases h3 : 16 + Wi.num ((l.drop 12).take 4) > l.length
        · rw [if_pos h3]; exact .inl rfl
        · rw [if_neg h3]
          obtain ⟨m, hm⟩ := Int.eq_ofNat_of_zero_le b3.1
          rw [hm] at h2 h3 ⊢
          exact .inr (.inr (.inr ⟨_, m, by omega, by omega, b2, by rw [Int.toNat_natCast]⟩))
theorem rq_cases (l : List Int) (hb : Sh.Bytes l) : Wi.nextOf l = (0, 0, 0, 0, 0, [], 0, 80) ∨ Wi.nextOf l = (0, 0, 0, 0, 0, [], 0, 81) ∨ Wi.nextOf l = (0, 0, 0, 0, 0, [], 0, 82) ∨
    ∃ (m : Nat) (len : Int), m ≤ 65536 ∧ 28 + m ≤ l.length ∧ Wi.nextOf l = (Wi.rq1 l, Wi.rq2 l, Wi.rq3 l, Wi.rq4 l, len, (l.drop 28).take m, 28 + (m : Int), 0) := by
  unfold Wi.nextOf
  by_cases h : l.length < 28
  · rw [if_pos h]; exact .inl rfl
  · rw [if_neg h]
    by_cases h1 : Wi.rq0 l ≠ 627086611
    · rw [if_pos h1]; exact .inr (.inl rfl)
    · rw [if_neg h1]
      by_cases h2 : Wi.rq2 l = 1
      · rw [if_pos h2]
        have b5 : 0 ≤ Wi.rq5 l := (Wi.num_bnd _ (bytes_drop hb 24) 4).1
        by_cases h3 : Wi.rq5 l > 65536
        · rw [if_pos h3]; exact .inr (.inr (.inl rfl))
        · rw [if_neg h3]
          by_cases h4 : 28 + Wi.rq5 l > l.length
          · rw [if_pos h4]; exact .inl rfl
          · rw [if_neg h4]
            obtain ⟨m, hm⟩ := Int.eq_ofNat_of_zero_le b5
            rw [hm] at h3 h4 ⊢
            exact .inr (.inr (.inr ⟨m, _, by omega, by omega, by rw [Int.toNat_natCast]⟩))
      · rw [if_neg h2]
        exact .inr (.inr (.inr ⟨0, Wi.rq5 l, by omega, by omega, by simp⟩))
structure Ok (c : St) : Prop where
  by_ : Sh.Bytes c.kept
  len : c.kept.length ≤ 131072
  rs_ : ∀ r ∈ c.rs, r.2.2.2.2.2.length ≤ 131072
  blk_ : 0 ≤ c.blk ∧ c.blk ≤ 65535
theorem old_len (x : Ex) (sh : Bool) : (old x sh).length ≤ 9000 := by
  have := packs_len4 [8, 2] [x.2.1, can x.2.2] (by simp)
  unfold old
  rw [List.length_append]
  split
  · simp; omega
  · rw [List.length_replicate]; omega
theorem asked_keeps (l : List Ps.Tn) (c : St) (k : Int) (d : List Int) : (asked l c k d).kept = c.kept ∧ (asked l c k d).rs = c.rs ∧ (asked l c k d).blk = c.blk ∧ (asked l c k d).send.length ≤ c.send.length + 40000 := by
  unfold asked
  split
  · exact ⟨rfl, rfl, rfl, by have := say_len c k (refused (Gr.ak d).2.2) []; simp at this; omega⟩
  · split
    · exact ⟨rfl, rfl, rfl, by have := say_len c k (refused (Ps.check l (Gr.ak d).1).2) []; simp at this; omega⟩
    · have hi := info_len (served c.blk (Ps.check l (Gr.ak d).1).1)
      have hbl := blocks_len c.blk
      have h1 := say_len c k 3 (info (served c.blk (Ps.check l (Gr.ak d).1).1))
      have h2 := say_len (say c k 3 (info (served c.blk (Ps.check l (Gr.ak d).1).1))) k 3 (blocks c.blk)
      have h3 := say_len (say (say c k 3 (info (served c.blk (Ps.check l (Gr.ak d).1).1))) k 3 (blocks c.blk)) k 1 []
      have h4 := say_len (say c k 3 (info (served c.blk (Ps.check l (Gr.ak d).1).1))) k 1 []
      simp only [List.length_nil, Nat.add_zero] at h3 h4
      by_cases hw : 3 ∈ (Gr.ak d).2.1
      · simp only [if_pos hw]
        split
        · exact ⟨rfl, rfl, rfl, by show (say _ k 1 []).send.length ≤ _; omega⟩
        · exact ⟨rfl, rfl, rfl, by omega⟩
      · simp only [if_neg hw]
        split
        · exact ⟨rfl, rfl, rfl, by show (say _ k 1 []).send.length ≤ _; omega⟩
        · exact ⟨rfl, rfl, rfl, by omega⟩
theorem option_keeps (l : List Ps.Tn) (c : St) (k : Int) (d : List Int) : (option l c k d).blk = c.blk ∧ (option l c k d).send.length ≤ c.send.length + 40000 ∧ (((option l c k d).kept = c.kept ∧ (option l c k d).rs = c.rs) ∨ ((option l c k d).kept = [] ∧ (option l c k d).rs = [] ∧ (option l c k d).st = 4)) := by
  unfold option
  split
  · exact ⟨rfl, by have := say_len c k 1 []; simp at this; show (say c k 1 []).send.length ≤ _; omega, .inr ⟨rfl, rfl, rfl⟩⟩
  · split
    · exact ⟨rfl, by have := say_len c k (if 0 < d.length then 2147483651 else 1) []; simp only [List.length_nil, Nat.add_zero] at this; omega, .inl ⟨rfl, rfl⟩⟩
    · split
      · unfold oldway
        split
        · exact ⟨rfl, by show c.send.length ≤ _; omega, .inr ⟨rfl, rfl, rfl⟩⟩
        · refine ⟨rfl, ?_, .inl ⟨rfl, rfl⟩⟩
          have := old_len (served c.blk (Ps.check l (strOfNums d)).1) c.sh
          show (c.send ++ old _ c.sh).length ≤ _
          rw [List.length_append]
          omega
      · split
        · obtain ⟨h1, h2, h3, h4⟩ := asked_keeps l c k d
          exact ⟨h3, h4, .inl ⟨h1, h2⟩⟩
        · exact ⟨rfl, by have := say_len c k 2147483649 []; simp only [List.length_nil, Nat.add_zero] at this; omega, .inl ⟨rfl, rfl⟩⟩
theorem step_facts (l : List Ps.Tn) (c : St) (h : Ok c) : (step l c).2.2.blk = c.blk ∧ (step l c).2.2.send.length ≤ c.send.length + 40000 ∧ (∀ r ∈ (step l c).2.2.rs, r.2.2.2.2.2.length ≤ 131072) ∧
    (((step l c).2.2.kept = c.kept ∧ ((step l c).2.1 = 0 → 4 ≤ (step l c).1 ∧ (step l c).1 ≤ c.kept.length)) ∨ ((step l c).2.2.kept = [] ∧ (step l c).2.2.st = 4)) := by
  unfold step
  by_cases h1 : c.st = 1
  · rw [if_pos h1]
    rcases fl_cases c.kept with ⟨_, e⟩ | ⟨hl, b, e⟩ | ⟨_, e⟩
    · rw [e]
      exact ⟨rfl, Nat.le_add_right _ _, h.rs_, .inl ⟨rfl, fun h => by simp at h⟩⟩
    · rw [e]
      exact ⟨rfl, Nat.le_add_right _ _, h.rs_, .inl ⟨rfl, fun _ => ⟨by show (4 : Int) ≤ 4; decide, by show (4 : Int) ≤ _; omega⟩⟩⟩
    · rw [e]
      exact ⟨rfl, Nat.le_add_right _ _, h.rs_, .inl ⟨rfl, fun h => by simp at h⟩⟩
  · rw [if_neg h1]
    by_cases h2 : c.st = 2
    · rw [if_pos h2]
      rcases nx_cases c.kept h.by_ with e | e | e | ⟨k, m, hm, hl, _, e⟩
      · rw [e]
        exact ⟨rfl, Nat.le_add_right _ _, h.rs_, .inl ⟨rfl, fun h => by simp at h⟩⟩
      · rw [e]
        exact ⟨rfl, Nat.le_add_right _ _, h.rs_, .inl ⟨rfl, fun h => by simp at h⟩⟩
      · rw [e]
        exact ⟨rfl, Nat.le_add_right _ _, h.rs_, .inl ⟨rfl, fun h => by simp at h⟩⟩
      · rw [e]
        simp only [if_true]
        obtain ⟨o1, o2, o3⟩ := option_keeps l c k ((c.kept.drop 16).take m)
        refine ⟨o1, o2, ?_, ?_⟩
        · rcases o3 with ⟨_, o4⟩ | ⟨_, o4, _⟩
          · rw [o4]; exact h.rs_
          · rw [o4]; intro r hr; cases hr
        · rcases o3 with ⟨o4, _⟩ | ⟨o4, _, o5⟩
          · exact .inl ⟨o4, fun _ => ⟨by omega, by omega⟩⟩
          · exact .inr ⟨o4, o5⟩
    · rw [if_neg h2]
      by_cases h3 : c.st = 3
      · rw [if_pos h3]
        unfold request
        by_cases h16 : c.rs.length = 16
        · rw [if_pos h16]
          exact ⟨rfl, Nat.le_add_right _ _, h.rs_, .inl ⟨rfl, fun h => by simp at h⟩⟩
        · rw [if_neg h16]
          rcases rq_cases c.kept h.by_ with e | e | e | ⟨m, len, hm, hl, e⟩
          · rw [e]
            exact ⟨rfl, Nat.le_add_right _ _, h.rs_, .inl ⟨rfl, fun h => by simp at h⟩⟩
          · rw [e]
            exact ⟨rfl, Nat.le_add_right _ _, h.rs_, .inl ⟨rfl, fun h => by simp at h⟩⟩
          · rw [e]
            exact ⟨rfl, Nat.le_add_right _ _, h.rs_, .inl ⟨rfl, fun h => by simp at h⟩⟩
          · rw [e]
            simp only [ne_eq, not_true_eq_false, if_false]
            by_cases hk : Wi.rq2 c.kept = 2
            · rw [if_pos hk]
              exact ⟨rfl, Nat.le_add_right _ _, (by intro r hr; cases hr), .inr ⟨rfl, rfl⟩⟩
            · rw [if_neg hk]
              refine ⟨rfl, Nat.le_add_right _ _, ?_, .inl ⟨rfl, fun _ => ⟨by show (4 : Int) ≤ 28 + _; omega, by show 28 + (m : Int) ≤ _; omega⟩⟩⟩
              intro r hr
              rcases List.mem_append.1 hr with hr | hr
              · exact h.rs_ r hr
              · rw [List.mem_singleton.1 hr]
                show ((c.kept.drop 28).take m).length ≤ _
                rw [List.length_take]
                omega
      · rw [if_neg h3]
        exact ⟨rfl, Nat.le_add_right _ _, h.rs_, .inl ⟨rfl, fun h => by simp at h⟩⟩
def nextSt (l : List Ps.Tn) (c : St) : St := { (step l c).2.2 with kept := (step l c).2.2.kept.drop (step l c).1.toNat }
theorem next_ok (l : List Ps.Tn) (c : St) (h : Ok c) (he : (step l c).2.1 = 0) (h4 : (step l c).2.2.st ≠ 4) : Ok (nextSt l c) ∧ (nextSt l c).kept.length + 4 ≤ c.kept.length ∧ (nextSt l c).send.length ≤ c.send.length + 40000 ∧ 0 ≤ (step l c).1 ∧ (step l c).1 ≤ (step l c).2.2.kept.length := by
  obtain ⟨f1, f2, f3, f4⟩ := step_facts l c h
  rcases f4 with ⟨f4, f5⟩ | ⟨_, f5⟩
  · obtain ⟨g1, g2⟩ := f5 he
    have hk : (nextSt l c).kept = c.kept.drop (step l c).1.toNat := by unfold nextSt; rw [f4]
    refine ⟨⟨by rw [hk]; exact bytes_drop h.by_ _, by rw [hk, List.length_drop]; have := h.len; omega, f3, by have : (nextSt l c).blk = c.blk := f1; rw [this]; exact h.blk_⟩, by rw [hk, List.length_drop]; omega, f2, by omega, by rw [f4]; exact g2⟩
  · exact absurd f5 h4
theorem rd_fuel (l : List Ps.Tn) : ∀ (F G : Nat) (c : St), Ok c → c.kept.length < F → c.kept.length < G → rd l F c = rd l G c
  | 0, _, _, _, h, _ => absurd h (Nat.not_lt_zero _)
  | _ + 1, 0, _, _, _, h => absurd h (Nat.not_lt_zero _)
  | F + 1, G + 1, c, hc, hF, hG => by
    rw [rd, rd]
    split
    · rfl
    · split
      · rename_i he
        split
        · rfl
        · rename_i h4
          obtain ⟨h1, h2, _⟩ := next_ok l c hc he h4
          exact rd_fuel l F G (nextSt l c) h1 (by omega) (by omega)
      · rfl
theorem read_step (l : List Ps.Tn) (c : St) (h : Ok c) : read l c = if (step l c).2.1 = 70 ∨ (step l c).2.1 = 80 then (step l c).2.2 else if (step l c).2.1 = 0 then (if (step l c).2.2.st = 4 then (step l c).2.2 else read l (nextSt l c)) else close (step l c).2.2 := by
  unfold read
  rw [rd]
  split
  · rfl
  · split
    · rename_i he
      split
      · rfl
      · rename_i h4
        obtain ⟨h1, h2, _⟩ := next_ok l c h he h4
        exact rd_fuel l _ _ (nextSt l c) h1 (by omega) (Nat.lt_succ_self _)
    · rfl
end Go.Proofs.YtgljicdpcapgnaaDoor.Cn
set_option linter.unusedVariables false
set_option linter.unusedSimpArgs false
namespace Go.Proofs.YtgljicdpcapgnaaDoor
open Go.RowKit Go.Proofs.YtgljicdpcapgnaaDoor.PBase Go.Proofs.YtgljicdpcapgnaaDoorW.PrintWords Go.Proofs.YtgljicdpcapgnaaDoorW.PrintLast Go.Proofs.YtgljicdpcapgnaaDoorW.PrintMore
set_option maxHeartbeats 8000000 in
set_option maxRecDepth 100000 in
theorem optc_.calls {W : World} {ok : Nat → Prop} {p tb bs : Nat} {c : Cn.St} {l : List Ps.Tn} (h : Cn.Cn W ok p tb c) (hf : ∀ k, W.heap.size ≤ k → ok k) (hb : 0 ≤ c.blk ∧ c.blk ≤ 65535) (hK : Sh.Ks W) (hT : Ps.Tb W bs tb l) (hW : ∀ x ∈ l, Ps.TnWf x) {A : Option Addr} {n cd : Nat} {k : Int} {d : List Int} (hk : 0 ≤ k ∧ k < 4294967296) (hd : Kd.C (Kd.int .u8) W A d.length d) (hn : d.length = n) (hc : n ≤ cd) (hl : n ≤ 100000) (hby : Sh.Bytes d) (hs : c.send.length ≤ 9000000000000) :
  Calls Tryd.prog 55 #[.pointer (some ⟨p, 0, none⟩), .agg #[.int .u32 k, .slice A n cd]] W fun e w' => e = .returned (.tuple #[]) ∧ Cn.Cn w' ok p tb (Cn.option l c k d) ∧ Cn.Fr W w' ok := by
 have HC := Aside0.mk h
 have HF := Aside0.mk hf
 have HBK := Aside0.mk hb
 have HK := Aside0.mk hK
 have HT := Aside0.mk hT
 have HW := Aside0.mk hW
 have HKK := Aside0.mk hk
 have HD := Aside0.mk hd
 have HN := Aside0.mk hn
 have HL := Aside0.mk (And.intro hc hl)
 have HBY := Aside0.mk hby
 have HS := Aside0.mk hs
 have HSO := Aside0.mk Cn.sizeOp
 clear h hf hb hK hT hW hk hd hn hc hl hby hs
 have HB1 : Aside0 (Below W.heap.size W (W.alloc (.cells #[.int .u32 k, .slice A n cd] 113))) := ⟨below_alloc (Below.refl _ _) _⟩
 have HX1 : Aside0 (Wk.Blk (W.alloc (.cells #[.int .u32 k, .slice A n cd] 113)) W.heap.size 113 [.int .u32 k, .slice A n cd]) := ⟨Wk.Blk.new W _ [.int .u32 k, .slice A n cd]⟩
 have k0 := HX1.out.at_ 0 rfl
 have k1 := HX1.out.at_ 1 rfl
 have hl1 := Wk.run_load_blk (P := Tryd.prog) 113 W.heap.size 0 [.int .u32 k, .slice A n cd] _ HX1.out rfl Tryd.underlying113 rfl HSO.out
 go_enter Tryd.func55, Tryd.ntmps55
 by_cases h2 : k = 2
 ·have e2 : (k == 2) = true := by simpa using h2
  have H2 := Aside0.mk h2
  clear h2
  go_wp2_with (refine Wk.load rfl 113 (.tmp 3) rfl (.agg #[.int .u32 k, .slice A n cd]) (.pointer (some ⟨W.heap.size, 0, none⟩)) rfl hl1 ?_)
  clear k0 k1 hl1
  generalize W.alloc (.cells #[.int .u32 k, .slice A n cd] 113) = w1 at *
  refine (reply_.calls (HC.out.below HB1.out) (fun j hj => HF.out j (Nat.le_trans HB1.out.size hj)) HKK.out (by decide) (d := []) (Kd.C_nil _ _) rfl (Nat.le_refl _) (by decide) (by have := HS.out; omega)).mono ?_
  rintro e w2 ⟨rfl, hc2, hf2⟩
  have HC2 := Aside0.mk hc2
  have HF2 := Aside0.mk ((Cn.Fr.of_below HB1.out ok).trans hf2)
  clear hc2 hf2
  go_wp2_with fail
  refine (close_.calls HC2.out).mono ?_
  rintro e w3 ⟨rfl, hc3, hf3⟩
  have HC3 := Aside0.mk hc3
  have HF3 := Aside0.mk (HF2.out.trans hf3)
  clear hc3 hf3
  go_wp2_with fail
  go_end0
  refine ⟨rfl, ?_, HF3.out⟩
  unfold Cn.option
  rw [if_pos H2.out]
  exact HC3.out
 ·have e2 : (k == 2) = false := by simpa using h2
  have H2 := Aside0.mk h2
  clear h2
  by_cases h3 : k = 3
  ·have e3 : (k == 3) = true := by simpa using h3
   have H3 := Aside0.mk h3
   clear h3
   by_cases hn0 : 0 < n
   ·have hnI : (0 : Int) < n := by omega
    go_wp2_with (refine Wk.load rfl 113 (.tmp 3) rfl (.agg #[.int .u32 k, .slice A n cd]) (.pointer (some ⟨W.heap.size, 0, none⟩)) rfl hl1 ?_)
    clear k0 k1 hl1
    generalize W.alloc (.cells #[.int .u32 k, .slice A n cd] 113) = w1 at *
    refine (reply_.calls (HC.out.below HB1.out) (fun j hj => HF.out j (Nat.le_trans HB1.out.size hj)) HKK.out (by decide) (d := []) (Kd.C_nil _ _) rfl (Nat.le_refl _) (by decide) (by have := HS.out; omega)).mono ?_
    rintro e w2 ⟨rfl, hc2, hf2⟩
    have HC2 := Aside0.mk hc2
    have HF2 := Aside0.mk ((Cn.Fr.of_below HB1.out ok).trans hf2)
    clear hc2 hf2
    go_wp2_with fail
    go_end0
    refine ⟨rfl, ?_, HF2.out⟩
    unfold Cn.option
    rw [if_neg H2.out, if_pos H3.out, if_pos (by rw [HN.out]; exact hn0)]
    exact HC2.out
   ·have hnI : ¬ (0 : Int) < n := by omega
    go_wp2_with (refine Wk.load rfl 113 (.tmp 3) rfl (.agg #[.int .u32 k, .slice A n cd]) (.pointer (some ⟨W.heap.size, 0, none⟩)) rfl hl1 ?_)
    clear k0 k1 hl1
    generalize W.alloc (.cells #[.int .u32 k, .slice A n cd] 113) = w1 at *
    refine (reply_.calls (HC.out.below HB1.out) (fun j hj => HF.out j (Nat.le_trans HB1.out.size hj)) HKK.out (by decide) (d := []) (Kd.C_nil _ _) rfl (Nat.le_refl _) (by decide) (by have := HS.out; omega)).mono ?_
    rintro e w2 ⟨rfl, hc2, hf2⟩
    have HC2 := Aside0.mk hc2
    have HF2 := Aside0.mk ((Cn.Fr.of_below HB1.out ok).trans hf2)
    clear hc2 hf2
    go_wp2_with fail
    go_end0
    refine ⟨rfl, ?_, HF2.out⟩
    unfold Cn.option
    rw [if_neg H2.out, if_pos H3.out, if_neg (by rw [HN.out]; exact hn0)]
    exact HC2.out
  ·have e3 : (k == 3) = false := by simpa using h3
   have H3 := Aside0.mk h3
   clear h3
   by_cases h1 : k = 1
   ·have e1 : (k == 1) = true := by simpa using h1
    have H1 := Aside0.mk h1
    clear h1
    go_wp2_with (refine Wk.load rfl 113 (.tmp 3) rfl (.agg #[.int .u32 k, .slice A n cd]) (.pointer (some ⟨W.heap.size, 0, none⟩)) rfl hl1 ?_)
    clear k0 k1 hl1
    generalize W.alloc (.cells #[.int .u32 k, .slice A n cd] 113) = w1 at *
    refine (oldway_.calls (HC.out.below HB1.out) (fun j hj => HF.out j (Nat.le_trans HB1.out.size hj)) HBK.out (HK.out.below HB1.out) (HT.out.below HB1.out) HW.out (Kd.C_below HD.out HB1.out) HN.out (by have := HL.out.2; omega) (by have := HS.out; omega)).mono ?_
    rintro e w2 ⟨rfl, hc2, hf2⟩
    have HC2 := Aside0.mk hc2
    have HF2 := Aside0.mk ((Cn.Fr.of_below HB1.out ok).trans hf2)
    clear hc2 hf2
    go_wp2_with fail
    go_end0
    refine ⟨rfl, ?_, HF2.out⟩
    unfold Cn.option
    rw [if_neg H2.out, if_neg H3.out, if_pos H1.out]
    exact HC2.out
   ·have e1 : (k == 1) = false := by simpa using h1
    have H1 := Aside0.mk h1
    clear h1
    by_cases h6 : k = 6
    ·have e6 : (k == 6) = true := by simpa using h6
     have H6 := Aside0.mk h6
     clear h6
     go_wp2_with (refine Wk.load rfl 113 (.tmp 3) rfl (.agg #[.int .u32 k, .slice A n cd]) (.pointer (some ⟨W.heap.size, 0, none⟩)) rfl hl1 ?_)
     clear k0 k1 hl1
     generalize W.alloc (.cells #[.int .u32 k, .slice A n cd] 113) = w1 at *
     refine (askedc_.calls (HC.out.below HB1.out) (fun j hj => HF.out j (Nat.le_trans HB1.out.size hj)) HBK.out (HK.out.below HB1.out) (HT.out.below HB1.out) HW.out HKK.out (Kd.C_below HD.out HB1.out) HN.out HL.out.1 HL.out.2 HBY.out (by have := HS.out; omega)).mono ?_
     rintro e w2 ⟨rfl, hc2, hf2⟩
     have HC2 := Aside0.mk hc2
     have HF2 := Aside0.mk ((Cn.Fr.of_below HB1.out ok).trans hf2)
     clear hc2 hf2
     go_wp2_with fail
     go_end0
     refine ⟨rfl, ?_, HF2.out⟩
     unfold Cn.option
     rw [if_neg H2.out, if_neg H3.out, if_neg H1.out, if_pos (Or.inl H6.out)]
     exact HC2.out
    ·have e6 : (k == 6) = false := by simpa using h6
     have H6 := Aside0.mk h6
     clear h6
     by_cases h7 : k = 7
     ·have e7 : (k == 7) = true := by simpa using h7
      have H7 := Aside0.mk h7
      clear h7
      go_wp2_with (refine Wk.load rfl 113 (.tmp 3) rfl (.agg #[.int .u32 k, .slice A n cd]) (.pointer (some ⟨W.heap.size, 0, none⟩)) rfl hl1 ?_)
      clear k0 k1 hl1
      generalize W.alloc (.cells #[.int .u32 k, .slice A n cd] 113) = w1 at *
      refine (askedc_.calls (HC.out.below HB1.out) (fun j hj => HF.out j (Nat.le_trans HB1.out.size hj)) HBK.out (HK.out.below HB1.out) (HT.out.below HB1.out) HW.out HKK.out (Kd.C_below HD.out HB1.out) HN.out HL.out.1 HL.out.2 HBY.out (by have := HS.out; omega)).mono ?_
      rintro e w2 ⟨rfl, hc2, hf2⟩
      have HC2 := Aside0.mk hc2
      have HF2 := Aside0.mk ((Cn.Fr.of_below HB1.out ok).trans hf2)
      clear hc2 hf2
      go_wp2_with fail
      go_end0
      refine ⟨rfl, ?_, HF2.out⟩
      unfold Cn.option
      rw [if_neg H2.out, if_neg H3.out, if_neg H1.out, if_pos (Or.inr H7.out)]
      exact HC2.out
     ·have e7 : (k == 7) = false := by simpa using h7
      have H7 := Aside0.mk h7
      clear h7
      go_wp2_with (refine Wk.load rfl 113 (.tmp 3) rfl (.agg #[.int .u32 k, .slice A n cd]) (.pointer (some ⟨W.heap.size, 0, none⟩)) rfl hl1 ?_)
      clear k0 k1 hl1
      generalize W.alloc (.cells #[.int .u32 k, .slice A n cd] 113) = w1 at *
      refine (reply_.calls (HC.out.below HB1.out) (fun j hj => HF.out j (Nat.le_trans HB1.out.size hj)) HKK.out (by decide) (d := []) (Kd.C_nil _ _) rfl (Nat.le_refl _) (by decide) (by have := HS.out; omega)).mono ?_
      rintro e w2 ⟨rfl, hc2, hf2⟩
      have HC2 := Aside0.mk hc2
      have HF2 := Aside0.mk ((Cn.Fr.of_below HB1.out ok).trans hf2)
      clear hc2 hf2
      go_wp2_with fail
      go_end0
      refine ⟨rfl, ?_, HF2.out⟩
      unfold Cn.option
      rw [if_neg H2.out, if_neg H3.out, if_neg H1.out, if_neg (fun h => h.elim H6.out H7.out)]
      exact HC2.out
set_option maxHeartbeats 8000000 in
set_option maxRecDepth 100000 in
theorem reqc_.calls {W : World} {ok : Nat → Prop} {p tb : Nat} {c : Cn.St} (h : Cn.Cn W ok p tb c) (hf : ∀ k, W.heap.size ≤ k → ok k) (hc : Cn.Ok c) :
  Calls Tryd.prog 56 #[.pointer (some ⟨p, 0, none⟩)] W fun e w' => e = .returned (.tuple #[.int .i64 (Cn.request c).1, .int .u16 (Cn.request c).2.1]) ∧ Cn.Cn w' ok p tb (Cn.request c).2.2 ∧ Cn.Fr W w' ok := by
 obtain ⟨pp, vk, vs, hv⟩ := h
 obtain ⟨A, cp, rfl⟩ := Kd.R_slice hv.kept
 obtain ⟨n, HN⟩ : ∃ n, Aside0 (c.kept.length = n) := ⟨_, ⟨rfl⟩⟩
 have k0 := hv.blk.at_ 0 rfl
 have k3 := hv.blk.at_ 3 rfl
 rw [HN.out] at k3
 have HV := Aside0.mk hv
 have HF := Aside0.mk hf
 have HO := Aside0.mk hc
 have HSR := Aside0.mk Pi.size33
 clear hv hf hc
 obtain ⟨fu, HFU⟩ : ∃ b, Aside0 (decide (c.rs.length = 16) = b) := ⟨_, ⟨rfl⟩⟩
 go_enter Tryd.func56, Tryd.ntmps56
 go_wp2_with fail
 refine (full_.calls HV.out.pipe).mono ?_
 rintro e w' ⟨rfl, rfl⟩
 rw [HFU.out]
 cases fu with
 | true =>
  go_wp2_with fail
  go_ret2
  unfold Cn.request
  rw [if_pos (of_decide_eq_true HFU.out)]
  exact ⟨rfl, ⟨pp, _, vs, HV.out⟩, Cn.Fr.refl _ _⟩
 | false =>
  have HRQ : Aside0 (Cn.request c = (match Wi.nextOf c.kept with | (f, k, ck, off, len, data, n, e) => if e ≠ 0 then (0, e, c) else if k = 2 then (n, 0, Cn.close c) else (n, 0, { c with rs := c.rs ++ [(f, k, ck, off, len, data)] }))) := ⟨by unfold Cn.request; rw [if_neg (of_decide_eq_false HFU.out)]⟩
  obtain ⟨f, kd, ck, off, len, d, m, er, HNX⟩ : ∃ f kd ck off len d m er, Aside0 (Wi.nextOf c.kept = (f, kd, ck, off, len, d, m, er)) := ⟨_, _, _, _, _, _, _, _, ⟨rfl⟩⟩
  rw [HNX.out] at HRQ
  have HDL : Aside0 (d.length ≤ 131072) := ⟨by
   rcases Cn.rq_cases c.kept HO.out.by_ with e | e | e | ⟨m', len', _, _, e⟩ <;> rw [HNX.out] at e <;> simp only [Prod.mk.injEq] at e
   ·rw [e.2.2.2.2.2.1]; exact Nat.zero_le _
   ·rw [e.2.2.2.2.2.1]; exact Nat.zero_le _
   ·rw [e.2.2.2.2.2.1]; exact Nat.zero_le _
   ·rw [e.2.2.2.2.2.1, List.length_take]; omega⟩
  go_wp2_with fail
  clear k0 k3
  have hr := Kd.R_reads' HV.out.kept
  refine (Cn.reqnext_ hr.2.2 HN.out (by rw [← HN.out]; exact hr.2.1) (by have := HO.out.len; have := HN.out; omega) HO.out.by_ HNX.out).mono ?_
  rintro e w2 ⟨A2, c2, rfl, hR2, hb2⟩
  obtain ⟨nd, HND⟩ : ∃ n, Aside0 (d.length = n) := ⟨_, ⟨rfl⟩⟩
  rw [HND.out] at hR2 ⊢
  have HR2 := Aside0.mk hR2
  have HB2 := Aside0.mk hb2
  clear hR2 hb2 hr
  have HB3 : Aside0 (Below w2.heap.size w2 (w2.alloc (.cells #[.int .u16 f, .int .u16 kd, .int .u64 ck, .int .u64 off, .int .u32 len, .slice A2 nd c2] 61))) := ⟨below_alloc (Below.refl _ _) _⟩
  have HX3 : Aside0 (Wk.Blk (w2.alloc (.cells #[.int .u16 f, .int .u16 kd, .int .u64 ck, .int .u64 off, .int .u32 len, .slice A2 nd c2] 61)) w2.heap.size 61 (Pi.rqc f kd ck off len (.slice A2 nd c2))) := ⟨Wk.Blk.new w2 _ (Pi.rqc f kd ck off len (.slice A2 nd c2))⟩
  have HBW := Aside0.mk (below_then HB2.out HB2.out.size HB3.out)
  have HV3 := Aside0.mk (HV.out.below HBW.out)
  have HR3 := Aside0.mk (Kd.R_below HR2.out HB3.out)
  have k1 := HX3.out.at_ 1 rfl
  try simp only [Pi.rqc] at k1
  by_cases he : er = 0
  ·subst he
   by_cases h2 : kd = 2
   ·have e2 : (kd == 2) = true := by simpa using h2
    have H2 := Aside0.mk h2
    clear h2
    go_wp2_with fail
    clear k1
    refine (close_.calls ⟨pp, _, vs, HV3.out⟩).mono ?_
    rintro e w4 ⟨rfl, hc4, hf4⟩
    have HC4 := Aside0.mk hc4
    have HF4 := Aside0.mk ((Cn.Fr.of_below HBW.out ok).trans hf4)
    clear hc4 hf4
    go_wp2_with fail
    go_ret2
    rw [HRQ.out]
    simp only [ne_eq, not_true_eq_false, if_false]
    rw [if_pos H2.out]
    exact ⟨rfl, HC4.out, HF4.out⟩
   ·have e2 : (kd == 2) = false := by simpa using h2
    have H2 := Aside0.mk h2
    clear h2
    go_wp2_with fail
    clear k1
    generalize w2.alloc (.cells #[.int .u16 f, .int .u16 kd, .int .u64 ck, .int .u64 off, .int .u32 len, .slice A2 nd c2] 61) = w3 at *
    obtain ⟨g4, HG4⟩ : ∃ g, Aside0 (w2.heap.size = g) := ⟨_, ⟨rfl⟩⟩
    rw [HG4.out] at HX3 ⊢
    refine wp_region_noPanic ?_
    refine start_ (n := 6) (S := (fun w' => Below w3.heap.size w3 w')) (ds := [5]) #[false, false, false, false, false, false] (by kernel_rfl) rfl rfl (Below.refl _ _).drew (fun hHeld => ?_)
    refine pure_ (i := 0) (N := (some 21)) (v := ?_) (a' := ?_) #[true, false, false, false, false, false] rfl rfl (by kernel_rfl) (fun _ _ _ h => h) (Or.inl ⟨by rfl, ?_⟩) ?_ ?_
    rotate_left
    ·intro w'
     go_simp
     first | done | with_reducible rfl
    rotate_left
    ·simp only [Act.put, List.setIfInBounds_toArray, List.set_cons_zero, List.set_cons_succ]
     rfl
    refine pure_ (i := 1) (N := (some 22)) (v := ?_) (a' := ?_) #[true, true, false, false, false, false] rfl rfl (by kernel_rfl) (fun _ _ _ h => h) (Or.inl ⟨by rfl, ?_⟩) ?_ ?_
    rotate_left
    ·intro w'
     go_simp
     first | done | with_reducible rfl
    rotate_left
    ·simp only [Act.put, List.setIfInBounds_toArray, List.set_cons_zero, List.set_cons_succ]
     rfl
    refine pure_ (i := 2) (N := (some 23)) (v := ?_) (a' := ?_) #[true, true, true, false, false, false] rfl rfl (by kernel_rfl) (fun _ _ _ h => h) (Or.inl ⟨by rfl, ?_⟩) ?_ ?_
    rotate_left
    ·intro w'
     go_simp
     first | done | with_reducible rfl
    rotate_left
    ·simp only [Act.put, List.setIfInBounds_toArray, List.set_cons_zero, List.set_cons_succ]
     rfl
    refine take_ (i := 3) (N := (some 24)) (v := ?_) (a' := ?_) #[true, true, true, true, false, false] rfl rfl (by kernel_rfl) (fun _ _ _ h => h) (Or.inl ⟨by rfl, ?_⟩) hHeld ?_ ?_
    rotate_left
    ·intro w' hS'
     (have c1 := (HV3.out.below hS').blk.at_ 0 rfl; go_simp)
     first | done | with_reducible rfl
    rotate_left
    ·simp only [Act.put, List.setIfInBounds_toArray, List.set_cons_zero, List.set_cons_succ]
     rfl
    refine take_ (i := 4) (N := (some 25)) (v := ?_) (a' := ?_) #[true, true, true, true, true, false] rfl rfl (by kernel_rfl) (fun _ _ _ h => h) (Or.inl ⟨by rfl, ?_⟩) hHeld ?_ ?_
    rotate_left
    ·intro w' hS'
     (have hl := Wk.run_load_blk (P := Tryd.prog) 61 g4 0 (Pi.rqc f kd ck off len (.slice A2 nd c2)) _ (HX3.out.below_ hS') rfl Tryd.underlying61 rfl HSR.out; refine (Wk.exec_load 61 (.tmp 4) rfl _ _ rfl hl).trans ?_)
     first | done | with_reducible rfl
    rotate_left
    ·simp only [Act.put, List.setIfInBounds_toArray, List.set_cons_zero, List.set_cons_succ]
     rfl
    have HBD : Aside0 (Below w3.heap.size w3 w3.drew) := ⟨(Below.refl _ _).drew⟩
    have HV4 := Aside0.mk (HV3.out.below HBD.out)
    have HKR : Aside0 (kRq.K w3.drew (f, kd, ck, off, len, d) (Pi.rqc f kd ck off len (.slice A2 nd c2))) := ⟨Pi.K_of_R (Kd.R_below HR3.out HBD.out)⟩
    have HFP : Aside0 (∀ j, w3.drew.heap.size ≤ j → ok j ∧ some j ≠ (Value.slice A c.kept.length cp).ownBlock ∧ some j ≠ vs.ownBlock) := ⟨HV4.out.freshP (fun j hj => HF.out j (Nat.le_trans HBW.out.size (Nat.le_trans HBD.out.size hj)))⟩
    refine last_ (i := 5) (N := (some 26)) #[true, true, true, true, true, true] rfl rfl (by kernel_rfl) (by decide) (fun K hK => ?_)
    refine call_ 71 #[.pointer (some ⟨pp, 0, none⟩), .agg (Pi.rqc f kd ck off len (.slice A2 nd c2)).toArray] (by rfl) rfl (by go_simp) ?_
    refine (add_.calls HV4.out.pipe HKR.out (by show d.length < _; have := HDL.out; omega) (Nat.zero_le _) HFP.out).mono ?_
    rintro e w5 ⟨rfl, hp5, hg5⟩
    have HV5 : Aside0 (Cn.Cv w5 ok p tb pp (.slice A c.kept.length cp) vs { c with rs := c.rs ++ [(f, kd, ck, off, len, d)] }) := ⟨by
     rw [if_pos (by have := HV4.out.pipe.le; have := of_decide_eq_false HFU.out; omega)] at hp5
     exact HV4.out.piped hp5 hg5 ⟨rfl, rfl, rfl, rfl⟩ rfl rfl rfl⟩
    have HF5 := Aside0.mk (((Cn.Fr.of_below HBW.out ok).trans (Cn.Fr.of_below HBD.out ok)).trans (Cn.Fr.of_grown hg5 (fun j hj => by cases hj; exact HV4.out.okq)))
    clear hp5 hg5
    refine ⟨_, rfl, ?_⟩
    refine hK.out _ _ ?_
    clear hK K
    refine norm_ (a' := ?_) ?_ ?_
    rotate_left
    ·show Act.put _ (some 26) _ = _
     simp only [Act.put, List.setIfInBounds_toArray, List.set_cons_zero, List.set_cons_succ]
     rfl
    refine done_ (by kernel_rfl) ?_
    refine NoPanic.normal ?_
    go_wp2_with fail
    go_ret2
    rw [HRQ.out]
    simp only [ne_eq, not_true_eq_false, if_false]
    rw [if_neg H2.out]
    exact ⟨rfl, ⟨pp, _, vs, HV5.out⟩, HF5.out⟩
  ·have heb : (er == 0) = false := by simpa using he
   have HE := Aside0.mk he
   clear he
   go_wp2_with fail
   go_ret2
   rw [HRQ.out]
   simp only []
   rw [if_pos HE.out]
   exact ⟨rfl, ⟨pp, _, vs, HV3.out⟩, Cn.Fr.of_below HBW.out ok⟩
end Go.Proofs.YtgljicdpcapgnaaDoor
set_option linter.unusedVariables false
set_option linter.unusedSimpArgs false
namespace Go.Proofs.YtgljicdpcapgnaaDoor
open Go.RowKit Go.Proofs.YtgljicdpcapgnaaDoor.PBase Go.Proofs.YtgljicdpcapgnaaDoorW.PrintWords Go.Proofs.YtgljicdpcapgnaaDoorW.PrintLast Go.Proofs.YtgljicdpcapgnaaDoorW.PrintMore
set_option maxHeartbeats 8000000 in
set_option maxRecDepth 100000 in
theorem stepc_.calls {W : World} {ok : Nat → Prop} {p tb bs : Nat} {c : Cn.St} {l : List Ps.Tn} (h : Cn.Cn W ok p tb c) (hf : ∀ k, W.heap.size ≤ k → ok k) (hc : Cn.Ok c) (hK : Sh.Ks W) (hT : Ps.Tb W bs tb l) (hW : ∀ x ∈ l, Ps.TnWf x) (hs : c.send.length ≤ 9000000000000) :
  Calls Tryd.prog 40 #[.pointer (some ⟨p, 0, none⟩)] W fun e w' => e = .returned (.tuple #[.int .i64 (Cn.step l c).1, .int .u16 (Cn.step l c).2.1]) ∧ Cn.Cn w' ok p tb (Cn.step l c).2.2 ∧ Cn.Fr W w' ok := by
 have HCN := Aside0.mk h
 obtain ⟨pp, vk, vs, hv⟩ := h
 obtain ⟨A, cp, rfl⟩ := Kd.R_slice hv.kept
 obtain ⟨n, HN⟩ : ∃ n, Aside0 (c.kept.length = n) := ⟨_, ⟨rfl⟩⟩
 have k3 := hv.blk.at_ 3 rfl
 have k5 := hv.blk.at_ 5 rfl
 rw [HN.out] at k3
 have HV := Aside0.mk hv
 have HF := Aside0.mk hf
 have HO := Aside0.mk hc
 have HK := Aside0.mk hK
 have HT := Aside0.mk hT
 have HW := Aside0.mk hW
 have HS := Aside0.mk hs
 have HS1 := Aside0.mk Cn.size1
 have HSB := Aside0.mk Cn.sizeB
 have HSO := Aside0.mk Cn.sizeOp
 have HLN : Aside0 (n ≤ 1000000 ∧ n ≤ cp) := ⟨by have := hc.len; have := HN.out; omega, by rw [← HN.out]; exact (Kd.R_reads' hv.kept).2.1⟩
 clear hv hf hc hK hT hW hs
 go_enter Tryd.func40, Tryd.ntmps40
 by_cases h1 : c.st = 1
 ·have e1 : (c.st == 1) = true := by simpa using h1
  have H1 := Aside0.mk h1
  clear h1
  have HST : Aside0 (Cn.step l c = ((Gr.fl c.kept).2.1, (Gr.fl c.kept).2.2, if (Gr.fl c.kept).2.2 = 0 then { c with sh := (Gr.fl c.kept).1, st := 2 } else c)) := ⟨by unfold Cn.step; rw [if_pos H1.out]⟩
  obtain ⟨s, m, e, HFL⟩ : ∃ s m e, Aside0 (Gr.fl c.kept = (s, m, e)) := ⟨_, _, _, ⟨rfl⟩⟩
  rw [HFL.out] at HST
  simp only [] at HST
  go_wp2_with fail
  clear k3 k5 e1
  refine (Cn.flags_ (Kd.R_reads' HV.out.kept).2.2 HN.out HLN.out.2 HLN.out.1 HO.out.by_ HFL.out).mono ?_
  rintro e' w2 ⟨rfl, hb2⟩
  have HV2 := Aside0.mk (HV.out.below hb2)
  have HB2 := Aside0.mk hb2
  clear hb2
  by_cases he : e = 0
  ·subst he
   go_wp2_with (first
    | (refine Wk.store rfl rfl 4 (.tmp 31) (.tmp 29) rfl p 9 (.bool s) [.bool s] rfl rfl rfl 72 _ HV2.out.blk HSB.out (Nat.le_of_ble_eq_true rfl) rfl ?_; intro w3 hX hO; have HO3 := Aside0.mk hO; have HV3 : Aside0 (Cn.Cv w3 ok p tb pp (.slice A c.kept.length cp) vs { c with sh := s }) := ⟨HV2.out.turn hO hX rfl rfl rfl⟩; clear hX hO)
    | (refine Wk.store rfl rfl 5 (.tmp 33) (.const (.int .u8 2)) rfl p 5 (.int .u8 2) [.int .u8 2] rfl rfl rfl 72 _ HV3.out.blk HS1.out (Nat.le_of_ble_eq_true rfl) rfl ?_; intro w4 hX hO; have HO4 := Aside0.mk hO; have HV4 : Aside0 (Cn.Cv w4 ok p tb pp (.slice A c.kept.length cp) vs { c with sh := s, st := 2 }) := ⟨HV3.out.turn hO hX rfl rfl rfl⟩; clear hX hO))
   go_ret2
   rw [HST.out]
   first | rw [if_pos trivial] | rw [if_pos rfl]
   exact ⟨rfl, ⟨pp, _, vs, HV4.out⟩, ((Cn.Fr.of_below HB2.out ok).trans (Cn.Fr.of_only HO3.out HV2.out.okp)).trans (Cn.Fr.of_only HO4.out HV2.out.okp)⟩
  ·have heb : (e == 0) = false := by simpa using he
   have HE := Aside0.mk he
   clear he
   go_wp2_with fail
   go_ret2
   rw [HST.out, if_neg HE.out]
   exact ⟨rfl, ⟨pp, _, vs, HV2.out⟩, Cn.Fr.of_below HB2.out ok⟩
 ·have e1 : (c.st == 1) = false := by simpa using h1
  have H1 := Aside0.mk h1
  clear h1
  by_cases h2 : c.st = 2
  ·have e2 : (c.st == 2) = true := by simpa using h2
   have H2 := Aside0.mk h2
   clear h2
   have HST : Aside0 (Cn.step l c = ((Gr.nx c.kept).2.2.1, (Gr.nx c.kept).2.2.2, if (Gr.nx c.kept).2.2.2 = 0 then Cn.option l c (Gr.nx c.kept).1 (Gr.nx c.kept).2.1 else c)) := ⟨by unfold Cn.step; rw [if_neg H1.out, if_pos H2.out]⟩
   obtain ⟨k, d, m, e, HNX⟩ : ∃ k d m e, Aside0 (Gr.nx c.kept = (k, d, m, e)) := ⟨_, _, _, _, ⟨rfl⟩⟩
   have HNK : Aside0 ((0 ≤ k ∧ k < 4294967296) ∧ d.length ≤ 1024 ∧ Sh.Bytes d) := ⟨by
    have hz : Sh.Bytes [] := fun x hx => by cases hx
    rcases Cn.nx_cases c.kept HO.out.by_ with q | q | q | ⟨k', m', h1, h2, h3, q⟩ <;> rw [HNX.out] at q <;> simp only [Prod.mk.injEq] at q <;> obtain ⟨q1, q2, _⟩ := q <;> rw [q1, q2]
    ·exact ⟨by decide, by simp, hz⟩
    ·exact ⟨by decide, by simp, hz⟩
    ·exact ⟨by decide, by simp, hz⟩
    ·exact ⟨h3, by rw [List.length_take]; omega, Cn.bytes_take (Cn.bytes_drop HO.out.by_ 16) m'⟩⟩
   rw [HNX.out] at HST
   simp only [] at HST
   go_wp2_with fail
   clear k3 k5 e1 e2
   refine (Cn.next_ (Kd.R_reads' HV.out.kept).2.2 HN.out HLN.out.2 HLN.out.1 HO.out.by_ HNX.out).mono ?_
   rintro e' w2 ⟨A2, c2, rfl, hR2, hb2⟩
   obtain ⟨nd, HND⟩ : ∃ n, Aside0 (d.length = n) := ⟨_, ⟨rfl⟩⟩
   rw [HND.out] at hR2 ⊢
   have HR2 := Aside0.mk hR2
   have HB2 := Aside0.mk hb2
   clear hR2 hb2
   have HB3 : Aside0 (Below w2.heap.size w2 (w2.alloc (.cells #[.int .u32 k, .slice A2 nd c2] 113))) := ⟨below_alloc (Below.refl _ _) _⟩
   have HX3 : Aside0 (Wk.Blk (w2.alloc (.cells #[.int .u32 k, .slice A2 nd c2] 113)) w2.heap.size 113 [.int .u32 k, .slice A2 nd c2]) := ⟨Wk.Blk.new w2 _ [.int .u32 k, .slice A2 nd c2]⟩
   have HBW := Aside0.mk (below_then HB2.out HB2.out.size HB3.out)
   have HC3 := Aside0.mk (HCN.out.below HBW.out)
   have HR3 := Aside0.mk (Kd.R_reads' (Kd.R_below HR2.out HB3.out))
   by_cases he : e = 0
   ·subst he
    have hl1 := Wk.run_load_blk (P := Tryd.prog) 113 w2.heap.size 0 [.int .u32 k, .slice A2 nd c2] _ HX3.out rfl Tryd.underlying113 rfl HSO.out
    go_wp2_with (refine Wk.load rfl 113 (.tmp 7) rfl (.agg #[.int .u32 k, .slice A2 nd c2]) (.pointer (some ⟨w2.heap.size, 0, none⟩)) rfl hl1 ?_)
    clear hl1
    refine (optc_.calls HC3.out (fun j hj => HF.out j (Nat.le_trans HBW.out.size hj)) HO.out.blk_ (HK.out.below HBW.out) (HT.out.below HBW.out) HW.out HNK.out.1 HR3.out.2.2 HND.out HR3.out.2.1 (by have := HNK.out.2.1; have := HND.out; omega) HNK.out.2.2 HS.out).mono ?_
    rintro e' w4 ⟨rfl, hc4, hf4⟩
    have HC4 := Aside0.mk hc4
    have HF4 := Aside0.mk ((Cn.Fr.of_below HBW.out ok).trans hf4)
    clear hc4 hf4
    go_wp2_with fail
    go_ret2
    rw [HST.out]
    first | rw [if_pos trivial] | rw [if_pos rfl]
    exact ⟨rfl, HC4.out, HF4.out⟩
   ·have heb : (e == 0) = false := by simpa using he
    have HE := Aside0.mk he
    clear he
    go_wp2_with fail
    go_ret2
    rw [HST.out, if_neg HE.out]
    exact ⟨rfl, HC3.out, Cn.Fr.of_below HBW.out ok⟩
  ·have e2 : (c.st == 2) = false := by simpa using h2
   have H2 := Aside0.mk h2
   clear h2
   by_cases h3 : c.st = 3
   ·have e3 : (c.st == 3) = true := by simpa using h3
    have H3 := Aside0.mk h3
    clear h3
    have HST : Aside0 (Cn.step l c = Cn.request c) := ⟨by unfold Cn.step; rw [if_neg H1.out, if_neg H2.out, if_pos H3.out]⟩
    go_wp2_with fail
    clear k3 k5 e1 e2 e3
    refine (reqc_.calls HCN.out HF.out HO.out).mono ?_
    rintro e' w2 ⟨rfl, hc2, hf2⟩
    have HC2 := Aside0.mk hc2
    have HF2 := Aside0.mk hf2
    clear hc2 hf2
    go_wp2_with fail
    go_ret2
    rw [HST.out]
    exact ⟨rfl, HC2.out, HF2.out⟩
   ·have e3 : (c.st == 3) = false := by simpa using h3
    have H3 := Aside0.mk h3
    clear h3
    have HST : Aside0 (Cn.step l c = (0, 80, c)) := ⟨by unfold Cn.step; rw [if_neg H1.out, if_neg H2.out, if_neg H3.out]⟩
    go_wp2_with fail
    go_ret2
    rw [HST.out]
    exact ⟨rfl, HCN.out, Cn.Fr.refl _ _⟩
end Go.Proofs.YtgljicdpcapgnaaDoor
set_option linter.unusedVariables false
set_option linter.unusedSimpArgs false
namespace Go.Proofs.YtgljicdpcapgnaaDoor
open Go.RowKit Go.Proofs.YtgljicdpcapgnaaDoor.PBase Go.Proofs.YtgljicdpcapgnaaDoorW.PrintWords Go.Proofs.YtgljicdpcapgnaaDoorW.PrintLast Go.Proofs.YtgljicdpcapgnaaDoorW.PrintMore
namespace Cn
def kl (w : World) (p : Nat) : Nat := match w.cell? ⟨p, 3, none⟩ with | some (.slice _ n _) => n | _ => 0
theorem Cv.kl {W : World} {ok : Nat → Prop} {p tb pp : Nat} {vk vs : Value} {c : St} (h : Cv W ok p tb pp vk vs c) : kl W p = c.kept.length := by
  obtain ⟨A, cp, hv⟩ := Kd.R_slice h.kept
  have k3 := h.blk.at_ 3 rfl
  unfold Cn.kl
  rw [k3]
  show (match some vk with | some (.slice _ n _) => n | _ => 0) = _
  rw [hv]
theorem Cn.kl {W : World} {ok : Nat → Prop} {p tb : Nat} {c : St} (h : Cn W ok p tb c) : kl W p = c.kept.length := by
  obtain ⟨pp, vk, vs, h⟩ := h
  exact h.kl
theorem step_ok (l : List Ps.Tn) (c : St) (h : Ok c) : Ok (step l c).2.2 := by
  obtain ⟨f1, f2, f3, f4⟩ := step_facts l c h
  refine ⟨?_, ?_, f3, by rw [f1]; exact h.blk_⟩
  · rcases f4 with ⟨e, _⟩ | ⟨e, _⟩
    · rw [e]; exact h.by_
    · rw [e]; intro x hx; cases hx
  · rcases f4 with ⟨e, _⟩ | ⟨e, _⟩
    · rw [e]; exact h.len
    · rw [e]; exact Nat.zero_le _
theorem close_ok (c : St) (h : Ok c) : Ok (close c) := ⟨(fun x hx => by cases hx), Nat.zero_le _, (fun r hr => by cases hr), h.blk_⟩
theorem read_ok (l : List Ps.Tn) (K : Nat) (hK : 40000 ≤ K) : ∀ (n : Nat) (c : St), c.kept.length ≤ n → Ok c → Ok (read l c) ∧ (read l c).send.length ≤ c.send.length + K * (c.kept.length + 1) := by
  intro n
  induction n with
  | zero =>
    intro c hn h
    have f2 := (step_facts l c h).2.1
    have hk1 : K ≤ K * (c.kept.length + 1) := Nat.le_mul_of_pos_right _ (Nat.succ_pos _)
    rw [read_step l c h]
    split
    · exact ⟨step_ok l c h, by omega⟩
    · split
      · rename_i he
        split
        · exact ⟨step_ok l c h, by omega⟩
        · rename_i h4
          have h2 := (next_ok l c h he h4).2.1
          omega
      · exact ⟨close_ok _ (step_ok l c h), Nat.le_trans f2 (by omega)⟩
  | succ n ih =>
    intro c hn h
    have f2 := (step_facts l c h).2.1
    have hk1 : K ≤ K * (c.kept.length + 1) := Nat.le_mul_of_pos_right _ (Nat.succ_pos _)
    rw [read_step l c h]
    split
    · exact ⟨step_ok l c h, by omega⟩
    · split
      · rename_i he
        split
        · exact ⟨step_ok l c h, by omega⟩
        · rename_i h4
          obtain ⟨h1, h2, h3, _⟩ := next_ok l c h he h4
          obtain ⟨g1, g2⟩ := ih (nextSt l c) (by omega) h1
          have hk2 : K * ((nextSt l c).kept.length + 1) + K ≤ K * (c.kept.length + 1) := by
            rw [← Nat.mul_succ]
            exact Nat.mul_le_mul_left K (by omega)
          exact ⟨g1, by omega⟩
      · exact ⟨close_ok _ (step_ok l c h), Nat.le_trans f2 (by omega)⟩
set_option maxRecDepth 100000 in
theorem feed_ok (l : List Ps.Tn) (c : St) (b : List Int) (h : Ok c) (hb : Sh.Bytes b) : Ok (feed l c b) ∧ (feed l c b).send.length ≤ c.send.length + 5300000000 := by
  unfold feed
  split
  · exact ⟨h, by omega⟩
  · split
    · exact ⟨close_ok c h, Nat.le_add_right _ _⟩
    · rename_i hn
      have hl : (c.kept ++ b).length ≤ 131072 := by rw [List.length_append]; omega
      have hok : Ok { c with kept := c.kept ++ b } := ⟨fun x hx => (List.mem_append.1 hx).elim (h.by_ x) (hb x), hl, h.rs_, h.blk_⟩
      obtain ⟨g1, g2⟩ := read_ok l 40000 (Nat.le_refl _) _ _ (Nat.le_refl _) hok
      have g3 : (read l { c with kept := c.kept ++ b }).send.length ≤ c.send.length + 40000 * ((c.kept ++ b).length + 1) := g2
      exact ⟨g1, by omega⟩
theorem new_ok (b : Int) (hb : 0 ≤ b ∧ b ≤ 65535) : Ok (new b) := ⟨(fun x hx => by cases hx), Nat.zero_le _, (fun r hr => by cases hr), hb⟩
theorem hello_len : hello.length ≤ 8000 := packs_len4 _ _ (by simp)
end Cn
set_option maxHeartbeats 8000000 in
set_option maxRecDepth 100000 in
theorem readc_.calls {W : World} {ok : Nat → Prop} {p tb bs : Nat} {c : Cn.St} {l : List Ps.Tn} (h : Cn.Cn W ok p tb c) (hf : ∀ k, W.heap.size ≤ k → ok k) (hc : Cn.Ok c) (hW : ∀ x ∈ l, Ps.TnWf x) (w0 : World) (hKt : ∀ w', Below w0.heap.size w0 w' → Sh.Ks w' ∧ Ps.Tb w' bs tb l) (hBW : Below w0.heap.size w0 W) (hok : ∀ k, ok k → w0.heap.size ≤ k) (hs : c.send.length + 40000 * (c.kept.length + 1) ≤ 8000000000000) :
  Calls Tryd.prog 27 #[.pointer (some ⟨p, 0, none⟩)] W fun e w' => e = .returned (.tuple #[]) ∧ Cn.Cn w' ok p tb (Cn.read l c) ∧ Cn.Fr W w' ok := by
 have HCN := Aside0.mk h
 have HF := Aside0.mk hf
 have HO := Aside0.mk hc
 have HW := Aside0.mk hW
 have HKT := Aside0.mk hKt
 have HBW := Aside0.mk hBW
 have HOK := Aside0.mk hok
 have HS := Aside0.mk hs
 have HS2 := Aside0.mk Pi.size31
 have HFR : Aside0 (Cn.Fr W W ok) := ⟨Cn.Fr.refl _ _⟩
 clear h hf hc hW hKt hBW hok hs
 go_enter Tryd.func27, Tryd.ntmps27
 go_wp2_with fail
 have HRD : Aside0 (Cn.read l c = Cn.read l c) := ⟨rfl⟩
 go_loopw [2] (fun _ wr => ∃ c', Aside0 (Cn.Cn wr ok p tb c') ∧ Aside0 (Cn.Ok c') ∧ Aside0 (Cn.read l c' = Cn.read l c) ∧ Aside0 (Cn.Fr W wr ok) ∧ Aside0 (c'.send.length + 40000 * (c'.kept.length + 1) ≤ 8000000000000)) (fun _ w => Cn.kl w p)
 case atStart => exact ⟨c, HCN, HO, HRD, HFR, HS⟩
 case round =>
  clear HCN HO HRD HFR HS
  obtain ⟨c', HCN, HO, HRD, HFR, HS⟩ := hrel
  have HKL : Aside0 (Cn.kl wr p = c'.kept.length) := ⟨HCN.out.kl⟩
  have HB : Aside0 (Below w0.heap.size w0 wr) := ⟨HFR.out.below HBW.out HBW.out.size HOK.out⟩
  have HRS := Aside0.mk (Cn.read_step l c' HO.out)
  have HSF := Aside0.mk (Cn.step_facts l c' HO.out)
  have HNX := Aside0.mk (Cn.next_ok l c' HO.out)
  go_wp2_with fail
  refine (stepc_.calls HCN.out (fun j hj => HF.out j (Nat.le_trans HFR.out.size hj)) HO.out (HKT.out wr HB.out).1 (HKT.out wr HB.out).2 HW.out (by have := HS.out; omega)).mono ?_
  rintro e w2 ⟨rfl, hc2, hf2⟩
  obtain ⟨n, er, c2, HST⟩ : ∃ n er c2, Aside0 (Cn.step l c' = (n, er, c2)) := ⟨_, _, _, ⟨rfl⟩⟩
  have HNS : Aside0 (Cn.nextSt l c' = { c2 with kept := c2.kept.drop n.toNat }) := ⟨by unfold Cn.nextSt; rw [HST.out]⟩
  rw [HST.out] at hc2 HRS HSF HNX ⊢
  rw [HNS.out] at HRS HNX
  simp only [] at hc2 HRS HSF HNX ⊢
  have HC2 := Aside0.mk hc2
  have HF2 := Aside0.mk (HFR.out.trans hf2)
  clear hc2 hf2
  by_cases h70 : er = 70
  ·subst h70
   go_wp2_with fail
   refine bodyPost_ret (results_none rfl _ _ _) rfl ?_
   rw [← HRD.out, HRS.out]
   first | rw [if_pos (Or.inl rfl)] | rw [if_pos (Or.inl trivial)]
   exact ⟨rfl, HC2.out, HF2.out⟩
  ·have e70 : (er == 70) = false := by simpa using h70
   have H70 := Aside0.mk h70
   clear h70
   by_cases h80 : er = 80
   ·subst h80
    go_wp2_with fail
    refine bodyPost_ret (results_none rfl _ _ _) rfl ?_
    rw [← HRD.out, HRS.out]
    first | rw [if_pos (Or.inr rfl)] | rw [if_pos (Or.inr trivial)]
    exact ⟨rfl, HC2.out, HF2.out⟩
   ·have e80 : (er == 80) = false := by simpa using h80
    have H80 := Aside0.mk h80
    clear h80
    by_cases h0 : er = 0
    ·have e0 : (er == 0) = true := by simpa using h0
     have H0 := Aside0.mk h0
     clear h0
     obtain ⟨pp, vk, vs, hv⟩ := HC2.out
     obtain ⟨A, cp, rfl⟩ := Kd.R_slice hv.kept
     obtain ⟨m, HM⟩ : ∃ m, Aside0 (c2.kept.length = m) := ⟨_, ⟨rfl⟩⟩
     have k3 := hv.blk.at_ 3 rfl
     have k5 := hv.blk.at_ 5 rfl
     rw [HM.out] at k3
     have HV := Aside0.mk hv
     clear hv
     by_cases h4 : c2.st = 4
     ·have e4 : (c2.st == 4) = true := by simpa using h4
      have H4 := Aside0.mk h4
      clear h4
      go_wp2_with fail
      refine bodyPost_ret (results_none rfl _ _ _) rfl ?_
      rw [← HRD.out, HRS.out, if_neg (fun h => h.elim H70.out H80.out), if_pos H0.out, if_pos H4.out]
      exact ⟨rfl, HC2.out, HF2.out⟩
     ·have e4 : (c2.st == 4) = false := by simpa using h4
      have H4 := Aside0.mk h4
      clear h4
      have HRR : Aside0 (Cn.read l { c2 with kept := c2.kept.drop n.toNat } = Cn.read l c) := ⟨by rw [← HRD.out, HRS.out, if_neg (fun h => h.elim H70.out H80.out), if_pos H0.out, if_neg H4.out]⟩
      have HNN := Aside0.mk (HNX.out H0.out H4.out)
      obtain ⟨nn, rfl⟩ := Int.eq_ofNat_of_zero_le HNN.out.2.2.2.1
      have hnm : nn ≤ m := by have := HNN.out.2.2.2.2; have := HM.out; omega
      have hmc : m ≤ cp := by rw [← HM.out]; exact (Kd.R_reads' HV.out.kept).2.1
      rw [Int.toNat_natCast] at HRR HNN
      obtain ⟨A', hcut, hcutC⟩ := Wk.cut_from_ (P := Tryd.prog) 23 5 .i64 Tryd.underlying23 (by kernel_rfl) .u8 A cp c2.kept (nn : Int) nn rfl (by rw [HM.out]; exact hnm) (by rw [HM.out]; exact hmc)
      have HCC := Aside0.mk hcutC
      rw [HM.out] at hcut
      have h1 := hcut w2
      have HNM := Aside0.mk (And.intro hnm hmc)
      have hnmI : (nn : Int) ≤ m := by omega
      clear hcutC hcut hnm hmc
      go_wp2_with fail
      clear h1 k3 k5 hnmI
      have HML : Aside0 (m ≤ 131072) := ⟨by
       rw [← HM.out]
       rcases HSF.out.2.2.2 with ⟨e, _⟩ | ⟨e, _⟩
       ·rw [e]; exact HO.out.len
       ·rw [e]; exact Nat.zero_le _⟩
      have hdl : (c2.kept.drop nn).length = m - nn := by rw [List.length_drop, HM.out]
      have hcl := clone_.calls A' (cp - nn) (c2.kept.drop nn) (c2.kept.drop nn) w2 (HCC.out w2 (Kd.R_reads' HV.out.kept).2.2) (by rw [hdl]; have := HNM.out; omega) (by unfold clone_.f; rw [if_pos (by rw [hdl]; have := HML.out; omega)])
      rw [hdl] at hcl
      refine hcl.mono ?_
      rintro e w3 ⟨v3, rfl, hR3, hb3⟩
      obtain ⟨A3, c3, hv3⟩ := Kd.R_slice hR3
      rw [hdl] at hv3
      subst hv3
      have HR3 := Aside0.mk hR3
      have HV3 := Aside0.mk (HV.out.below hb3)
      have HB3 := Aside0.mk hb3
      clear hR3 hb3 hcl
      go_wp2_with (refine Wk.store rfl rfl 23 (.tmp 31) (.tmp 29) rfl p 3 (.slice A3 (m - nn) c3) [.slice A3 (m - nn) c3] rfl rfl rfl 72 _ HV3.out.blk HS2.out (Nat.le_of_ble_eq_true rfl) rfl ?_; intro w4 hX hO; have HO4 := Aside0.mk hO; have HX4 := Aside0.mk hX; clear hX hO)
      have HV4 : Aside0 (Cn.Cv w4 ok p tb pp (.slice A3 (m - nn) c3) vs { c2 with kept := c2.kept.drop nn }) := ⟨by
       have hfr : ∀ b, (Value.slice A3 (m - nn) c3).ownBlock = some b → w2.heap.size ≤ b := fun b hb => ((Kd.R_bound HR3.out).1 b hb).2.1
       have hr : Kd.R (Kd.int .u8) 5 w3 0 (fun k => ok k ∧ some k ≠ vs.ownBlock) (.slice A3 (m - nn) c3) (c2.kept.drop nn) :=
        Kd.R_lower (Kd.R_mono (Kd.R_bound HR3.out) (fun k hk => HV.out.freshS (fun j hj => HF.out j (Nat.le_trans HF2.out.size hj)) k hk.2.1)) (Nat.zero_le _)
       exact HV.out.keeps hr (grown_of_below HB3.out _) (fun b hb => .inr (hfr b hb)) HO4.out HX4.out rfl rfl rfl⟩
      have HF4 := Aside0.mk ((HF2.out.trans (Cn.Fr.of_below HB3.out ok)).trans (Cn.Fr.of_only HO4.out HV.out.okp))
      have HS4 : Aside0 (({ c2 with kept := c2.kept.drop nn } : Cn.St).send.length + 40000 * (({ c2 with kept := c2.kept.drop nn } : Cn.St).kept.length + 1) ≤ 8000000000000) := ⟨by
       have g1 : (c2.kept.drop nn).length + 4 ≤ c'.kept.length := HNN.out.2.1
       have g2 : c2.send.length ≤ c'.send.length + 40000 := HNN.out.2.2.1
       have g3 := HS.out
       show c2.send.length + 40000 * ((c2.kept.drop nn).length + 1) ≤ 8000000000000
       omega⟩
      refine ⟨⟨_, ⟨⟨pp, _, vs, HV4.out⟩⟩, ⟨HNN.out.1⟩, HRR, HF4, HS4⟩, ?_⟩
      rw [HKL.out, HV4.out.kl]
      have g1 : (c2.kept.drop nn).length + 4 ≤ c'.kept.length := HNN.out.2.1
      show (c2.kept.drop nn).length < c'.kept.length
      omega
    ·have e0 : (er == 0) = false := by simpa using h0
     have H0 := Aside0.mk h0
     clear h0
     go_wp2_with fail
     refine (close_.calls HC2.out).mono ?_
     rintro e w3 ⟨rfl, hc3, hf3⟩
     have HC3 := Aside0.mk hc3
     have HF3 := Aside0.mk (HF2.out.trans hf3)
     clear hc3 hf3
     go_wp2_with fail
     refine bodyPost_ret (results_none rfl _ _ _) rfl ?_
     rw [← HRD.out, HRS.out, if_neg (fun h => h.elim H70.out H80.out), if_neg H0.out]
     exact ⟨rfl, HC3.out, HF3.out⟩
end Go.Proofs.YtgljicdpcapgnaaDoor
set_option linter.unusedVariables false
set_option linter.unusedSimpArgs false
namespace Go.Proofs.YtgljicdpcapgnaaDoor
open Go.RowKit Go.Proofs.YtgljicdpcapgnaaDoor.PBase Go.Proofs.YtgljicdpcapgnaaDoorW.PrintWords Go.Proofs.YtgljicdpcapgnaaDoorW.PrintLast Go.Proofs.YtgljicdpcapgnaaDoorW.PrintMore
namespace Cn
structure Ctx (w0 : World) (tb bs : Nat) (l : List Ps.Tn) : Prop where
  kt : ∀ w', Below w0.heap.size w0 w' → Sh.Ks w' ∧ Ps.Tb w' bs tb l
  wf : ∀ x ∈ l, Ps.TnWf x
end Cn
set_option maxHeartbeats 8000000 in
set_option maxRecDepth 100000 in
theorem feedc_.calls {W w0 : World} {ok : Nat → Prop} {p tb bs : Nat} {c : Cn.St} {l : List Ps.Tn} (hX : Cn.Ctx w0 tb bs l) (h : Cn.Cn W ok p tb c) (hf : ∀ k, W.heap.size ≤ k → ok k) (hc : Cn.Ok c) (hBW : Below w0.heap.size w0 W) (hok : ∀ k, ok k → w0.heap.size ≤ k) (hs : c.send.length ≤ 7000000000000) {A : Option Addr} {n cp : Nat} {b : List Int} (hb : Kd.C (Kd.int .u8) W A b.length b) (hn : b.length = n) (hcp : n ≤ cp) (hby : Sh.Bytes b) :
    Calls Tryd.prog 11 #[.pointer (some ⟨p, 0, none⟩), .slice A n cp] W fun e w' => e = .returned (.tuple #[]) ∧ Cn.Cn w' ok p tb (Cn.feed l c b) ∧ Cn.Fr W w' ok := by
  have HCN := Aside0.mk h
  obtain ⟨pp, vk, vs, hv⟩ := h
  obtain ⟨Ak, ck, rfl⟩ := Kd.R_slice hv.kept
  obtain ⟨m, HM⟩ : ∃ m, Aside0 (c.kept.length = m) := ⟨_, ⟨rfl⟩⟩
  have k3 := hv.blk.at_ 3 rfl
  have k5 := hv.blk.at_ 5 rfl
  rw [HM.out] at k3
  have HKM : Aside0 (Kd.R (Kd.int .u8) 5 W 0 (fun k => ok k ∧ some k ≠ vs.ownBlock) (.slice Ak m ck) c.kept) := ⟨by have := hv.kept; rwa [HM.out] at this⟩
  have HV := Aside0.mk hv
  have HX := Aside0.mk hX
  have HF := Aside0.mk hf
  have HO := Aside0.mk hc
  have HBW := Aside0.mk hBW
  have HOK := Aside0.mk hok
  have HS := Aside0.mk hs
  have HCB := Aside0.mk hb
  have HN := Aside0.mk hn
  have HCP := Aside0.mk hcp
  have HBY := Aside0.mk hby
  have HS2 := Aside0.mk Pi.size31
  have HML : Aside0 (m ≤ 131072) := ⟨by rw [← HM.out]; exact hc.len⟩
  clear hv hX hf hc hBW hok hs hb hn hcp hby
  go_enter Tryd.func11, Tryd.ntmps11
  by_cases h4 : c.st = 4
  · have e4 : (c.st == 4) = true := by simpa using h4
    have H4 := Aside0.mk h4
    clear h4
    go_wp2_with fail
    go_end0
    unfold Cn.feed
    rw [if_pos H4.out]
    exact ⟨rfl, HCN.out, Cn.Fr.refl _ _⟩
  · have e4 : (c.st == 4) = false := by simpa using h4
    have H4 := Aside0.mk h4
    clear h4
    by_cases hb1 : (n : Int) > 131072
    · have HB1 : Aside0 (131072 < n) := ⟨by omega⟩
      go_wp2_with fail
      clear k3 k5
      refine (close_.calls HCN.out).mono ?_
      rintro e w2 ⟨rfl, hc2, hf2⟩
      have HC2 := Aside0.mk hc2
      have HF2 := Aside0.mk hf2
      clear hc2 hf2
      go_wp2_with fail
      go_end0
      unfold Cn.feed
      rw [if_neg H4.out, if_pos (Or.inl (by rw [HN.out]; exact HB1.out))]
      exact ⟨rfl, HC2.out, HF2.out⟩
    · have hnI : (n : Int) ≤ 131072 := by omega
      have HNL : Aside0 (n ≤ 131072) := ⟨by omega⟩
      by_cases hb2 : (m : Int) > 131072 - (n : Int)
      · have HB2 : Aside0 (131072 < m + n) := ⟨by omega⟩
        go_wp2_with fail
        clear k3 k5
        refine (close_.calls HCN.out).mono ?_
        rintro e w2 ⟨rfl, hc2, hf2⟩
        have HC2 := Aside0.mk hc2
        have HF2 := Aside0.mk hf2
        clear hc2 hf2
        go_wp2_with fail
        go_end0
        unfold Cn.feed
        rw [if_neg H4.out, if_pos (Or.inr (by rw [HN.out, HM.out]; exact HB2.out))]
        exact ⟨rfl, HC2.out, HF2.out⟩
      · have HB2 : Aside0 (m + n ≤ 131072) := ⟨by omega⟩
        go_wp2_with (first
          | (at_builtin; refine Kd.R_append_rows (Kd.int .u8) (w0 := W) (W := W) 0 rfl (.tmp 8) (.tmp 9) 23 5 (.int .u8 0) 1 rfl Tryd.underlying23 Cn.infoByte rfl (by decide) (by omega) (.slice Ak m ck) c.kept b A n cp (fun k => ok k ∧ some k ≠ vs.ownBlock) (fun _ => False) rfl rfl HKM.out (by have := HCB.out; rw [HN.out] at this; exact this) (fun _ _ h => h) (fun _ h => h.elim) (HV.out.freshS HF.out) (Below.refl _ _) (Nat.zero_le _) (by rw [HM.out]; have := HB2.out; omega) ?_; intro v3 w3 hr3 _ hg3 hat3; obtain ⟨A3, c3, hv3⟩ := Kd.R_slice hr3; obtain ⟨L3, HL3⟩ : ∃ L, Aside0 ((c.kept ++ b).length = L) := ⟨_, ⟨rfl⟩⟩; rw [HL3.out] at hv3; subst hv3; have HR3 := Aside0.mk hr3; have HG3 := Aside0.mk hg3; have HA3 := Aside0.mk (Cn.hat_of hat3); have HX3 := Aside0.mk (HV.out.blk.grown hg3 (Kd.R_ne HKM.out HV.out.blk.out (by decide))); clear hr3 hg3 hat3 k3 k5)
          | (refine Wk.store rfl rfl 23 (.tmp 12) (.tmp 10) rfl p 3 (.slice A3 L3 c3) [.slice A3 L3 c3] rfl rfl rfl 72 _ HX3.out HS2.out (Nat.le_of_ble_eq_true rfl) rfl ?_; intro w4 hX hO; have HO4 := Aside0.mk hO; have HV4 : Aside0 (Cn.Cv w4 ok p tb pp (.slice A3 L3 c3) vs { c with kept := c.kept ++ b }) := ⟨HV.out.keeps HR3.out (by have := HG3.out; rwa [← HM.out] at this) (by have := HA3.out; rwa [← HM.out] at this) hO hX rfl rfl rfl⟩; clear hX hO))
        have HF4 : Aside0 (Cn.Fr W w4 ok) := ⟨(Cn.Fr.of_grown HG3.out (fun k hk => (HKM.out.1 k hk).1)).trans (Cn.Fr.of_only HO4.out HV.out.okp)⟩
        have HO5 : Aside0 (Cn.Ok { c with kept := c.kept ++ b }) := ⟨(fun x hx => (List.mem_append.1 hx).elim (HO.out.by_ x) (HBY.out x)), by show (c.kept ++ b).length ≤ _; rw [List.length_append, HM.out, HN.out]; exact HB2.out, HO.out.rs_, HO.out.blk_⟩
        have HL5 : Aside0 ((c.kept ++ b).length ≤ 131072) := ⟨by rw [List.length_append, HM.out, HN.out]; exact HB2.out⟩
        refine (readc_.calls (l := l) (bs := bs) ⟨pp, _, vs, HV4.out⟩ (fun j hj => HF.out j (Nat.le_trans HF4.out.size hj)) HO5.out HX.out.wf w0 HX.out.kt (HF4.out.below HBW.out HBW.out.size HOK.out) HOK.out (by
          have := HS.out
          have := HL5.out
          show c.send.length + 40000 * ((c.kept ++ b).length + 1) ≤ 8000000000000
          omega)).mono ?_
        rintro e w5 ⟨rfl, hc5, hf5⟩
        have HC5 := Aside0.mk hc5
        have HF5 := Aside0.mk (HF4.out.trans hf5)
        clear hc5 hf5
        go_wp2_with fail
        go_end0
        unfold Cn.feed
        rw [if_neg H4.out, if_neg (by rw [HN.out, HM.out]; have := HNL.out; have := HB2.out; omega)]
        exact ⟨rfl, HC5.out, HF5.out⟩
end Go.Proofs.YtgljicdpcapgnaaDoor
set_option linter.unusedVariables false
set_option linter.unusedSimpArgs false
namespace Go.Proofs.YtgljicdpcapgnaaDoor.Ps
open Go.RowKit Go.Proofs.YtgljicdpcapgnaaDoor.PBase Go.Proofs.YtgljicdpcapgnaaDoorW.PrintWords Go.Proofs.YtgljicdpcapgnaaDoorW.PrintLast Go.Proofs.YtgljicdpcapgnaaDoorW.PrintMore
def Dist (l : List Tn) : Prop := l.Pairwise (fun x y => x.f0 ≠ y.f0)
theorem find_none {l : List Tn} {id : Int} : find l id = none ↔ ∀ x ∈ l, x.f0 ≠ id := by
  unfold find
  rw [List.find?_eq_none]
  constructor
  · intro h x hx he
    exact h x hx (by simpa using he)
  · intro h x hx he
    exact h x hx (by simpa using he)
theorem good_iff : ∀ (l acc : List Tn), good acc l = true ↔ (∀ x ∈ l, 0 < x.f1.length) ∧ (∀ x ∈ l, find acc x.f0 = none) ∧ Dist l
  | [], acc => by simp [good, Dist]
  | x :: xs, acc => by
    rw [good]
    simp only [Bool.and_eq_true, Option.isNone_iff_eq_none, decide_eq_true_eq]
    rw [good_iff xs (acc ++ [x])]
    constructor
    · rintro ⟨⟨h1, h2⟩, h3, h4, h5⟩
      have h4' : ∀ y ∈ xs, y.f0 ≠ x.f0 ∧ find acc y.f0 = none := fun y hy => by
        have := h4 y hy
        rw [find_snoc acc x y.f0 h1] at this
        by_cases h : y.f0 = x.f0
        · rw [if_pos h] at this; cases this
        · rw [if_neg h] at this; exact ⟨h, this⟩
      refine ⟨?_, ?_, ?_⟩
      · intro y hy
        rcases List.mem_cons.1 hy with rfl | hy
        · exact h2
        · exact h3 y hy
      · intro y hy
        rcases List.mem_cons.1 hy with rfl | hy
        · exact h1
        · exact (h4' y hy).2
      · exact List.pairwise_cons.2 ⟨fun y hy he => (h4' y hy).1 he.symm, h5⟩
    · rintro ⟨h1, h2, h3⟩
      obtain ⟨h4, h5⟩ := List.pairwise_cons.1 h3
      have hx := h2 x List.mem_cons_self
      refine ⟨⟨hx, h1 x List.mem_cons_self⟩, fun y hy => h1 y (List.mem_cons_of_mem _ hy), fun y hy => ?_, h5⟩
      rw [find_snoc acc x y.f0 hx, if_neg (fun he => h4 y hy he.symm)]
      exact h2 y (List.mem_cons_of_mem _ hy)
theorem good_dist {l : List Tn} : good [] l = true ↔ (∀ x ∈ l, 0 < x.f1.length) ∧ Dist l := by
  rw [good_iff]
  constructor
  · exact fun h => ⟨h.1, h.2.2⟩
  · exact fun h => ⟨h.1, fun _ _ => rfl, h.2⟩
theorem find_of : ∀ {l : List Tn}, Dist l → ∀ {x : Tn}, x ∈ l → find l x.f0 = some x
  | [], _, x, h => by cases h
  | y :: ys, hd, x, h => by
    obtain ⟨h1, h2⟩ := List.pairwise_cons.1 hd
    unfold find
    rcases List.mem_cons.1 h with rfl | h
    · rw [List.find?_cons_of_pos (by simp)]
    · rw [List.find?_cons_of_neg (by simpa using h1 x h)]
      exact find_of h2 h
theorem verdict_cases (y : Tn) (b : List Int) : verdict y b = (zt, 52) ∨ verdict y b = (zt, 53) ∨ verdict y b = (zt, 54) ∨ verdict y b = (tok b, 0) := by
  unfold verdict
  split
  · exact .inl rfl
  · split
    · exact .inr (.inl rfl)
    · split
      · exact .inr (.inr (.inl rfl))
      · exact .inr (.inr (.inr rfl))
theorem verdict_51 (y : Tn) (b : List Int) : (verdict y b).2 ≠ 51 := by
  rcases verdict_cases y b with h | h | h | h <;> simp [h]
theorem apart {l : List Tn} (h : good [] l = true) {x : Tn} (hx : x ∈ l) (s : ByteArray) :
    ((check [x] s).2 = 51 ∧ ((check l s).2 ≠ 0 ∨ (check l s).1.1 ≠ x.f0)) ∨ ((check [x] s).2 ≠ 51 ∧ check [x] s = check l s) := by
  by_cases hi : is s = true
  · by_cases hid : (tok (got s)).1 = x.f0
    · have h1 : find [x] (tok (got s)).1 = some x := by rw [hid]; exact find_of (List.pairwise_singleton _ _) (List.mem_singleton.2 rfl)
      have h2 : find l (tok (got s)).1 = some x := by rw [hid]; exact find_of (good_dist.1 h).2 hx
      rw [check_some hi h1, check_some hi h2]
      exact .inr ⟨verdict_51 _ _, rfl⟩
    · have h1 : find [x] (tok (got s)).1 = none := find_none.2 fun y hy he => hid (by rw [List.mem_singleton.1 hy] at he; exact he.symm)
      rw [check_none hi h1]
      refine .inl ⟨rfl, ?_⟩
      cases h2 : find l (tok (got s)).1 with
      | none => rw [check_none hi h2]; exact .inl (by decide)
      | some y =>
        rw [check_some hi h2]
        rcases verdict_cases y (got s) with h | h | h | h <;> rw [h]
        · exact .inl (by decide)
        · exact .inl (by decide)
        · exact .inl (by decide)
        · exact .inr hid
  · rw [check_form hi, check_form hi]
    exact .inr ⟨by decide, rfl⟩
def few (l : List Tn) : Bool := decide (l.length ≤ 70 ∧ ∀ x ∈ l, x.f1.length ≤ 200 ∧ x.f4.length ≤ 50)
theorem rdT (l : List Tn) (i : Nat) (hi : i < l.length) : PBase.rd_T58 l (i : Int) = l[i] := by
  unfold PBase.rd_T58
  rw [Int.toNat_natCast, List.getD_eq_getElem?_getD, List.getElem?_eq_getElem hi]
  rfl
theorem ten_l (l : List Tn) (hl : l.length ≤ 70) : ∀ (d i k : Nat), i + d = l.length → d < k → coamingref00_Tenants.l0 k l i = some (decide (∀ x ∈ l.drop i, x.f1.length ≤ 200 ∧ x.f4.length ≤ 50))
  | 0, i, k, hi, hk => by
    obtain ⟨k, rfl⟩ : ∃ m, k = m + 1 := ⟨k - 1, by omega⟩
    rw [coamingref00_Tenants.l0, if_neg (by omega), List.drop_of_length_le (by omega)]
    simp
  | d + 1, i, k, hi, hk => by
    obtain ⟨k, rfl⟩ : ∃ m, k = m + 1 := ⟨k - 1, by omega⟩
    have hlt : i < l.length := by omega
    have e1 : wrap64 ((i : Int) + 1) = ((i + 1 : Nat) : Int) := by unfold wrap64; omega
    rw [coamingref00_Tenants.l0, e1, rdT l i hlt, List.drop_eq_getElem_cons hlt]
    clear e1
    rw [if_pos (by omega), if_pos (by omega)]
    by_cases h1 : (l[i].f1.length : Int) > 200
    · rw [if_pos h1]
      congr 1
      exact (decide_eq_false (fun h => by have := (h _ List.mem_cons_self).1; omega)).symm
    · rw [if_neg h1]
      by_cases h2 : (l[i].f4.length : Int) > 50
      · rw [if_pos h2]
        congr 1
        exact (decide_eq_false (fun h => by have := (h _ List.mem_cons_self).2; omega)).symm
      · rw [if_neg h2, ten_l l hl d (i + 1) k (by omega) (by omega)]
        congr 1
        rw [decide_eq_decide]
        constructor
        · intro h x hx
          rcases List.mem_cons.1 hx with rfl | hx
          · exact ⟨by omega, by omega⟩
          · exact h x hx
        · exact fun h x hx => h x (List.mem_cons_of_mem _ hx)
theorem tenants_is (l : List Tn) (k : Nat) (hk : 100 ≤ k) : coamingref00_Tenants.f k l = some (few l) := by
  unfold coamingref00_Tenants.f few
  by_cases h : (l.length : Int) > 70
  · rw [if_pos h]
    congr 1
    exact (decide_eq_false (fun hh => by have := hh.1; omega)).symm
  · rw [if_neg h, show (0 : Int) = ((0 : Nat) : Int) from rfl, ten_l l (by omega) l.length 0 k (by omega) (by omega), List.drop_zero]
    congr 1
    rw [decide_eq_decide]
    exact ⟨fun hh => ⟨by omega, hh⟩, fun hh => hh.2⟩
theorem tenants_ {A : Option Addr} {n c : Nat} {l : List Tn} {w : World} (h : kTn.C w A l.length l) (hn : l.length = n) (hc : n ≤ c) {b : Bool} (hb : few l = b) :
    Calls Tryd.prog 28 #[.slice A n c] w fun e w' => e = .returned (.bool b) ∧ Below w.heap.size w w' := by
  subst hn; subst hb
  exact (coamingref00_Tenants.calls 100 A c l (few l) w h hc (tenants_is l 100 (Nat.le_refl _))).mono (fun _ _ ⟨a, h⟩ => ⟨a, by obtain ⟨m, hm⟩ := h.out; rw [hm]; exact pw_below_drewN (Below.refl _ _) m⟩)
theorem few_wf {l : List Tn} (h : few l = true) (hw : ∀ x ∈ l, TnIn x) : ∀ x ∈ l, TnWf x := fun x hx => by
  unfold few at h
  rw [decide_eq_true_eq] at h
  obtain ⟨h1, h2⟩ := h.2 x hx
  obtain ⟨a, b, _⟩ := hw x hx
  exact ⟨of32 a, by omega, by omega, bytes_of b.2⟩
theorem infoTn : (Tryd.prog.info? 58).map (fun i => (i.zero, i.size, i.bytes)) = some (some (.agg z5.toArray), 5, 72) := by kernel_rfl
end Go.Proofs.YtgljicdpcapgnaaDoor.Ps
set_option linter.unusedVariables false
set_option linter.unusedSimpArgs false
namespace Go.Proofs.YtgljicdpcapgnaaDoor.Ps
open Go.RowKit Go.Proofs.YtgljicdpcapgnaaDoor.PBase Go.Proofs.YtgljicdpcapgnaaDoorW.PrintWords Go.Proofs.YtgljicdpcapgnaaDoorW.PrintLast Go.Proofs.YtgljicdpcapgnaaDoorW.PrintMore
theorem row_cells {W : World} {A : Option Addr} {n : Nat} {xs : List Tn} (h : kTn.C W A n xs) (hn : xs.length = n) (k : Nat) (hk : k < xs.length) : ∃ ad A0 c0 A1 c1, A = some ad ∧ xs[k].f1.length ≤ c0 ∧ xs[k].f4.length ≤ c1 ∧ Kd.C (Kd.int .u8) W A0 xs[k].f1.length xs[k].f1 ∧ Kd.C (Kd.int .u32) W A1 xs[k].f4.length xs[k].f4 ∧
    ∀ w', Below W.heap.size W w' → (Instr.loadAt 58 (.pointer (some (ad.add (k * 5))))).run Tryd.prog w' = .ok (.agg (tnc xs[k] A0 c0 A1 c1).toArray) w' ∧ w'.cell? (ad.add (k * 5)) = some (.int .u32 xs[k].f0) ∧ w'.cell? ⟨(ad.add (k * 5)).block, (ad.add (k * 5)).off + 1, none⟩ = some (.slice A0 xs[k].f1.length c0) := by
  obtain ⟨ad, A0, c0, A1, c1, hA, hl, hc, l0, l1, g0, g1⟩ := row_get h k hk hn
  refine ⟨ad, A0, c0, A1, c1, hA, l0, l1, g0, g1, fun w' hb => ⟨hl w' hb, ?_, ?_⟩⟩
  · have := hc 0 _ rfl
    exact (hb.cell (World.block_lt_of_cell? W _ this)).trans this
  · have := hc 1 _ rfl
    rw [add_field _ _ 1 (by omega)] at this
    exact (hb.cell (World.block_lt_of_cell? W _ this)).trans this
end Go.Proofs.YtgljicdpcapgnaaDoor.Ps
set_option linter.unusedVariables false
set_option linter.unusedSimpArgs false
namespace Go.Proofs.YtgljicdpcapgnaaDoor
open Go.RowKit Go.Proofs.YtgljicdpcapgnaaDoor.PBase Go.Proofs.YtgljicdpcapgnaaDoorW.PrintWords Go.Proofs.YtgljicdpcapgnaaDoorW.PrintLast Go.Proofs.YtgljicdpcapgnaaDoorW.PrintMore
namespace Ps
theorem find_at {l : List Tn} {id : Int} {k : Nat} (h : ∀ y ∈ l.take k, y.f0 ≠ id) (hk : k < l.length) (he : l[k].f0 = id) : find l id = some l[k] := by
  obtain ⟨x, hx⟩ : ∃ x, l[k] = x := ⟨_, rfl⟩
  have e : l = l.take k ++ x :: l.drop (k + 1) := by rw [← hx, ← List.drop_eq_getElem_cons hk, List.take_append_drop]
  have h1 : List.find? (fun y : Tn => y.f0 == id) (l.take k) = none := by
    rw [List.find?_eq_none]
    intro y hy hh
    exact h y hy (by simpa using hh)
  rw [hx] at he ⊢
  have h2 : find l id = find (l.take k ++ x :: l.drop (k + 1)) id := by rw [← e]
  rw [h2]
  unfold find
  rw [List.find?_append, h1, Option.none_or, List.find?_cons_of_pos (by simpa using he)]
theorem sizeTr : (Tryd.prog.info? 91).map (·.size) = some 1 := by kernel_rfl
end Ps
set_option maxHeartbeats 4000000 in
set_option maxRecDepth 100000 in
theorem reftenant_.calls (p base : Nat) (l : List Ps.Tn) (id : Int) (w : World) (hT : Ps.Tr w base p l) (hl70 : l.length ≤ 70) (hW : ∀ x ∈ l, Ps.TnWf x) :
    Calls Tryd.prog 37 #[.pointer (some ⟨p, 0, none⟩), .int .u32 id] w (Ps.TenPost w l id) := by
  obtain ⟨A, c, _, hlc, hP, hF⟩ := hT
  have HC := Aside0.mk (Kd.F_now hF)
  have HSZ := Aside0.mk Ps.sizeTn
  have HW := Aside0.mk hW
  obtain ⟨n, HN⟩ : ∃ n, Aside0 (l.length = n) := ⟨_, ⟨rfl⟩⟩
  rw [HN.out] at hlc hl70 hP
  have HP := Aside0.mk hP
  have HLC := Aside0.mk hlc
  clear hF hW hP hlc
  have HA : Aside0 (Below w.heap.size w (w.alloc (.cells Ps.z5.toArray 58))) := ⟨below_alloc (Below.refl _ _) _⟩
  have HX : Aside0 (Wk.Blk (w.alloc (.cells Ps.z5.toArray 58)) w.heap.size 58 Ps.z5) := ⟨Wk.Blk.new w _ Ps.z5⟩
  have H0 : Aside0 (∀ y ∈ l.take 0, y.f0 ≠ id) := ⟨fun y hy => by simp at hy⟩
  go_enter Tryd.func37, Tryd.ntmps37
  go_wp2_with fail
  go_loopw [6] (fun v6 wr => ∃ k : Nat, v6 = .int .i64 k ∧ k ≤ n ∧ Aside0 (∀ y ∈ l.take k, y.f0 ≠ id) ∧ Aside0 (Below w.heap.size w wr) ∧ Aside0 (Wk.Blk wr w.heap.size 58 Ps.z5)) (fun v _ => n - (intOf v).toNat)
  case atStart => exact ⟨0, rfl, Nat.zero_le _, H0, HA, HX⟩
  case round =>
    clear H0 HA HX
    obtain ⟨k, rfl, hk, HNO, HB, HX⟩ := hrel
    have p0 := (HP.out.below_ HB.out).at_ 0 rfl
    by_cases hlt : k < n
    · have hltI : (k : Int) < n := by omega
      have hki : k < l.length := by rw [HN.out]; exact hlt
      obtain ⟨ad, B0, d0, B1, d1, hA, hl0, hl1, hg0, hg1, hrow⟩ := Ps.row_cells HC.out rfl k hki
      subst hA
      have HTK := Aside0.mk (List.take_succ_eq_append_getElem hki)
      have HXM := Aside0.mk (List.getElem_mem hki)
      have HFA : Aside0 (l[k].f0 = id → Ps.find l id = some l[k]) := ⟨fun he => Ps.find_at HNO.out hki he⟩
      obtain ⟨x, HXK⟩ : ∃ x, Aside0 (l[k] = x) := ⟨_, ⟨rfl⟩⟩
      rw [HXK.out] at hrow hl0 hl1 hg0 hg1 HTK HXM HFA
      have hwx := HW.out x HXM.out
      obtain ⟨i, l0, q, s, l1⟩ := x
      obtain ⟨_, hm0, hm1, -⟩ := hwx
      change l0.length ≤ 1000 at hm0
      change l1.length ≤ 1000 at hm1
      obtain ⟨n0, HN0⟩ : ∃ i, Aside0 (l0.length = i) := ⟨_, ⟨rfl⟩⟩
      obtain ⟨n1, HN1⟩ : ∃ i, Aside0 (l1.length = i) := ⟨_, ⟨rfl⟩⟩
      simp only [Ps.tnc] at hrow hl0 hl1
      have HG0 : Aside0 (Kd.C (Kd.int .u8) w B0 l0.length l0) := ⟨hg0⟩
      have HG1 : Aside0 (Kd.C (Kd.int .u32) w B1 l1.length l1) := ⟨hg1⟩
      rw [HN0.out, HN1.out] at hrow
      rw [HN0.out] at hm0 hl0
      rw [HN1.out] at hm1 hl1
      have HROW : Aside0 (∀ w', Below w.heap.size w w' → (Instr.loadAt 58 (.pointer (some (ad.add (k * 5))))).run Tryd.prog w' = .ok (.agg (Ps.tv i q s (.slice B0 n0 d0) (.slice B1 n1 d1)).toArray) w' ∧ w'.cell? (ad.add (k * 5)) = some (.int .u32 i)) := ⟨fun w' hb => ⟨(hrow w' hb).1, (hrow w' hb).2.1⟩⟩
      clear hrow hg0 hg1 HXK
      have cc1 := (HROW.out wr HB.out).2
      by_cases hid : i = id
      · have HFI := Aside0.mk (HFA.out hid)
        have hidb : (i == id) = true := by simpa using hid
        have HRN := Aside0.mk (HROW.out wr HB.out).1
        clear HFA hid HNO
        have HIU := Aside0.mk Cl.infoByte
        have HIV := Aside0.mk Cl32.infoByte
        have HS1 := Aside0.mk Ps.sizeSl
        have HS2 := Aside0.mk Ps.sizeSm
        have HAL : Aside0 ((([] : List Int).length + n0) * 1 ≤ 140737488355328 ∧ (([] : List Int).length + n1) * 4 ≤ 140737488355328) := ⟨by simp only [List.length_nil]; omega⟩
        go_wp2_with (first
          | refine Wk.load rfl 58 (.tmp 34) rfl _ (.pointer (some (ad.add (k * 5)))) rfl HRN.out ?_
          | (refine Wk.store_all rfl rfl 58 (.tmp 7) (.tmp 35) rfl wr.heap.size (Ps.tv i q s (.slice B0 n0 d0) (.slice B1 n1 d1)) rfl rfl 58 Ps.z5 (Wk.Blk.new wr 58 Ps.z5) HSZ.out rfl rfl ?_; intro w1 hX hO; have HF1 := Aside0.mk (Wk.Only.fresh HB.out HB.out.size hO); have HY1 := Aside0.mk hX; have HX1 := Aside0.mk (HX.out.below_ HF1.out.2.2); have HC10 := Aside0.mk (Kd.C_below HG0.out HF1.out.2.1); have HC11 := Aside0.mk (Kd.C_below HG1.out HF1.out.2.1); have k1 := hX.at_ 1 rfl; clear hX hO)
          | (at_builtin; refine Kd.R_append_rows (Kd.int .u8) (w0 := w) (W := w1) w.heap.size rfl (.tmp 36) (.tmp 38) 23 5 (.int .u8 0) 1 rfl Tryd.underlying23 HIU.out rfl (by decide) (by omega) (.slice none 0 0) ([] : List Int) l0 B0 n0 d0 (fun _ => True) (fun _ => False) rfl rfl (Kd.R_nil _ _ _ _ _) (by rw [← HN0.out]; exact HC10.out) (fun _ _ h => h) (fun _ h => h.elim) (fun _ _ => trivial) HF1.out.2.1 HF1.out.2.1.size HAL.out.1 ?_; intro v2 w2 ho hb hg _; rw [List.nil_append] at ho; obtain ⟨A2, e2, rfl⟩ := Kd.R_slice ho; rw [HN0.out] at ho ⊢; have HR2 := Aside0.mk ho; have HB2 := Aside0.mk hb; have hbw : Below w1.heap.size w1 w2 := ⟨hg.os, hg.tape, hg.output, hg.size, fun kk hkk => hg.block kk hkk (by simp [Value.ownBlock])⟩; have HX2 := Aside0.mk (HX1.out.below_ hbw); have HY2 := Aside0.mk (HY1.out.below_ hbw); have HC21 := Aside0.mk (Kd.C_below HC11.out hbw); have k4 := HY2.out.at_ 4 rfl; clear ho hb hg hbw k1)
          | (at_builtin; refine Kd.R_append_rows (Kd.int .u32) (w0 := w) (W := w2) w.heap.size rfl (.tmp 40) (.tmp 42) 22 33 (.int .u32 0) 4 rfl Tryd.underlying22 HIV.out rfl (by decide) (by omega) (.slice none 0 0) ([] : List Int) l1 B1 n1 d1 (fun _ => True) (fun _ => False) rfl rfl (Kd.R_nil _ _ _ _ _) (by rw [← HN1.out]; exact HC21.out) (fun _ _ h => h) (fun _ h => h.elim) (fun _ _ => trivial) HB2.out HB2.out.size HAL.out.2 ?_; intro v3 w3 ho hb hg _; rw [List.nil_append] at ho; obtain ⟨A3, e3, rfl⟩ := Kd.R_slice ho; rw [HN1.out] at ho ⊢; have HR3 := Aside0.mk ho; have HB3 := Aside0.mk hb; have hbw : Below w2.heap.size w2 w3 := ⟨hg.os, hg.tape, hg.output, hg.size, fun kk hkk => hg.block kk hkk (by simp [Value.ownBlock])⟩; have HX3 := Aside0.mk (HX2.out.below_ hbw); have HY3 := Aside0.mk (HY2.out.below_ hbw); have HU3 := Aside0.mk (Kd.R_below HR2.out hbw); clear ho hb hg hbw k4)
          | (refine Wk.store rfl rfl 23 (.tmp 45) (.tmp 44) rfl wr.heap.size 1 (.slice A2 n0 e2) [.slice A2 n0 e2] rfl rfl rfl 58 _ HY3.out HS1.out (Nat.le_of_ble_eq_true rfl) rfl ?_; intro w4 hX hO; have HY4 := Aside0.mk (show Wk.Blk w4 wr.heap.size 58 (Ps.tv i q s (.slice A2 n0 e2) (.slice B1 n1 d1)) from hX); have HO4 := Aside0.mk hO; clear hX hO)
          | (refine Wk.store rfl rfl 22 (.tmp 47) (.tmp 46) rfl wr.heap.size 4 (.slice A3 n1 e3) [.slice A3 n1 e3] rfl rfl rfl 58 _ HY4.out HS2.out (Nat.le_of_ble_eq_true rfl) rfl ?_; intro w5 hX hO; have HY5 := Aside0.mk (show Wk.Blk w5 wr.heap.size 58 (Ps.tv i q s (.slice A2 n0 e2) (.slice A3 n1 e3)) from hX); have HO5 := Aside0.mk hO; have HNE : Aside0 (w.heap.size ≠ wr.heap.size) := ⟨by have := HX.out.lt; omega⟩; have HX5 := Aside0.mk ((HX3.out.only HO4.out HNE.out).only hO HNE.out); clear hX hO)
          | refine Wk.load rfl 58 (.tmp 7) rfl (.agg (Ps.tv i q s (.slice A2 n0 e2) (.slice A3 n1 e3)).toArray) (.pointer (some ⟨wr.heap.size, 0, none⟩)) rfl (Wk.run_load_blk 58 wr.heap.size 0 _ _ HY5.out rfl Tryd.underlying58 rfl HSZ.out) ?_
          | (refine Wk.store_all rfl rfl 58 (.tmp 4) (.tmp 48) rfl w.heap.size (Ps.tv i q s (.slice A2 n0 e2) (.slice A3 n1 e3)) rfl rfl 58 _ HX5.out HSZ.out rfl rfl ?_; intro w6 hX hO; have HX6 := Aside0.mk hX; have HO6 := Aside0.mk hO; clear hX hO))
        refine bodyPost_ret (Wk.res_ct rfl _ w.heap.size 58 _ _ rfl HX6.out Tryd.underlying58 rfl HSZ.out) rfl ?_
        have hne : ∀ q, q ∈ 5 :: (Kd.int .u8).E → q ≠ 58 := by decide
        have hne' : ∀ q, q ∈ 33 :: (Kd.int .u32).E → q ≠ 58 := by decide
        have hb4 := Wk.Only.below HB3.out HO4.out HB.out.size
        have hb5 := Wk.Only.below hb4 HO5.out HB.out.size
        have hR := Wk.R_only (Wk.R_only (Wk.R_only HU3.out HY3.out hne HO4.out) HY4.out hne HO5.out) HX5.out hne HO6.out
        have hR' := Wk.R_only (Wk.R_only (Wk.R_only HR3.out HY3.out hne' HO4.out) HY4.out hne' HO5.out) HX5.out hne' HO6.out
        have c2' : n0 ≤ e2 := (Kd.R_reads' hR).2.1
        have c3' : n1 ≤ e3 := (Kd.R_reads' hR').2.1
        unfold Ps.TenPost
        rw [HFI.out]
        simp only [Option.getD_some, Option.isSome_some]
        refine ⟨Wk.Only.below hb5 HO6.out (Nat.le_refl _), A2, e2, A3, e3, ?_, ?_, ?_, ?_, ?_⟩
        · simp only [Ps.tnc]; rw [HN0.out, HN1.out]; rfl
        · rw [HN0.out]; exact c2'
        · rw [HN1.out]; exact c3'
        · rw [HN0.out]; exact hR
        · rw [HN1.out]; exact hR'
      · have hidb : (i == id) = false := by simpa using hid
        clear HFA
        go_wp2_with fail
        refine ⟨⟨k + 1, by simp, by omega, ⟨?_⟩, HB, HX⟩, by simp [intOf]; omega⟩
        intro y hy
        rw [HTK.out] at hy
        rcases List.mem_append.1 hy with h | h
        · exact HNO.out y h
        · rw [List.mem_singleton.1 h]; exact hid
    · obtain rfl : k = n := by omega
      have HFN : Aside0 (Ps.find l id = none) := ⟨Ps.find_none.2 (by
        have := HNO.out
        rwa [List.take_of_length_le (by rw [HN.out]; exact Nat.le_refl _)] at this)⟩
      go_wp2_with (refine Wk.store_all rfl rfl 58 (.tmp 4) (.tmp 49) rfl w.heap.size Ps.z5 rfl rfl 58 _ HX.out HSZ.out rfl rfl ?_; intro w4 hX hO; have HX4 := Aside0.mk hX; have HO4 := Aside0.mk hO; clear hX hO)
      refine bodyPost_ret (Wk.res_ct rfl _ w.heap.size 58 _ _ rfl HX4.out Tryd.underlying58 rfl HSZ.out) rfl ?_
      unfold Ps.TenPost
      rw [HFN.out]
      exact ⟨Wk.Only.below HB.out HO4.out (Nat.le_refl _), none, 0, none, 0, rfl, Nat.le_refl _, Nat.le_refl _, Kd.R_nil _ _ _ _ _, Kd.R_nil _ _ _ _ _⟩
end Go.Proofs.YtgljicdpcapgnaaDoor
set_option linter.unusedVariables false
set_option linter.unusedSimpArgs false
namespace Go.Proofs.YtgljicdpcapgnaaDoor
open Go.RowKit Go.Proofs.YtgljicdpcapgnaaDoor.PBase Go.Proofs.YtgljicdpcapgnaaDoorW.PrintWords Go.Proofs.YtgljicdpcapgnaaDoorW.PrintLast Go.Proofs.YtgljicdpcapgnaaDoorW.PrintMore
namespace Ps
def Rt (W : World) (base p : Nat) (l : List Tn) : Prop := ∃ A c, base ≤ p ∧ Wk.Blk W p 91 [.slice A l.length c] ∧ Kd.R kTn 58 W base (fun _ => True) (.slice A l.length c) l
theorem Rt.tr {W : World} {base p : Nat} {l : List Tn} (h : Rt W base p l) : Tr W base p l := by
  obtain ⟨A, c, h1, h2, h3⟩ := h
  exact ⟨A, c, h1, (Kd.R_reads' h3).2.1, h2, Kd.F_mono (Kd.R_F (Kd.R_bound h3)) (fun k hk => hk.2.1)⟩
theorem Rt.below {W W' : World} {base p : Nat} {l : List Tn} (h : Rt W base p l) (hb : Below W.heap.size W W') : Rt W' base p l := by
  obtain ⟨A, c, h1, h2, h3⟩ := h
  exact ⟨A, c, h1, h2.below_ hb, Kd.R_below h3 hb⟩
def RNewPost (w : World) (n : Nat) (l : List Tn) (e : Ending) (w' : World) : Prop :=
  Below w.heap.size w w' ∧ ((64 < n ∧ e = .returned (.tuple #[.pointer none, .int .i64 3])) ∨ (n ≤ 64 ∧ good [] l = false ∧ e = .returned (.tuple #[.pointer none, .int .i64 1])) ∨ (n ≤ 64 ∧ good [] l = true ∧ ∃ p, e = .returned (.tuple #[.pointer (some ⟨p, 0, none⟩), .int .i64 0]) ∧ Tr w' w.heap.size p l))
theorem sizeTs : (Tryd.prog.info? 37).map (·.size) = some 1 := by kernel_rfl
theorem kTn_ne : ∀ q, q ∈ 58 :: kTn.E → q ≠ 91 := by decide
end Ps
set_option maxHeartbeats 4000000 in
set_option maxRecDepth 100000 in
theorem refnew_.calls (A : Option Addr) (n c : Nat) (l : List Ps.Tn) (w : World) (hC : Ps.kTn.C w A l.length l) (hn : l.length = n) (hw : ∀ x ∈ l, Ps.TnWf x) :
    Calls Tryd.prog 23 #[.slice A n c] w (Ps.RNewPost w n l) := by
  have HC := Aside0.mk hC
  have HN := Aside0.mk hn
  have HW := Aside0.mk hw
  clear hC hn hw
  have HSZ := Aside0.mk Ps.sizeTn
  have HST := Aside0.mk Ps.sizeTr
  have HTS := Aside0.mk Ps.sizeTs
  go_enter Tryd.func23, Tryd.ntmps23
  by_cases h64 : 64 < n
  · go_wp2_with fail
    go_ret2
    exact ⟨Below.refl _ _, .inl ⟨h64, rfl⟩⟩
  · have h64I : (n : Int) ≤ 64 := by omega
    go_wp2_with fail
    obtain ⟨pt, HPT⟩ : ∃ b, Aside0 (w.heap.size = b) := ⟨_, ⟨rfl⟩⟩
    generalize hWq : World.alloc w _ = W0
    have HB0 : Aside0 (Below w.heap.size w W0) := ⟨by rw [← hWq]; exact below_alloc (Below.refl _ _) _⟩
    have HR0 : Aside0 (Ps.Rt W0 w.heap.size pt []) := ⟨by
      rw [← HPT.out]
      exact ⟨none, 0, Nat.le_refl _, by rw [← hWq]; exact Wk.Blk.new w _ [.slice none 0 0], Kd.R_nil _ _ _ _ _⟩⟩
    clear hWq
    rw [HPT.out]
    go_loopw [5] (fun v wr => ∃ k : Nat, v = .int .i64 k ∧ k ≤ n ∧ Aside0 (Ps.Rt wr w.heap.size pt (l.take k)) ∧ Aside0 (Below w.heap.size w wr) ∧ Aside0 (Ps.good (l.take k) (l.drop k) = Ps.good [] l)) (fun v _ => n - (intOf v).toNat)
    case atStart => exact ⟨0, rfl, Nat.zero_le _, HR0, HB0, ⟨rfl⟩⟩
    case round =>
      clear HR0 HB0
      obtain ⟨k, rfl, hk, HT, HB, HG⟩ := hrel
      by_cases hlt : k < n
      · have hltI : (k : Int) < n := by omega
        have hki : k < l.length := by rw [HN.out]; exact hlt
        obtain ⟨ad, B0, d0, B1, d1, hA, hl0, hl1, hg0, hg1, hrow⟩ := Ps.row_cells HC.out rfl k hki
        subst hA
        have HTK := Aside0.mk (List.take_succ_eq_append_getElem hki)
        have HDK := Aside0.mk (List.drop_eq_getElem_cons hki)
        have hwx := HW.out _ (List.getElem_mem hki)
        obtain ⟨x, HXK⟩ : ∃ x, Aside0 (l[k] = x) := ⟨_, ⟨rfl⟩⟩
        rw [HXK.out] at hrow hl0 hl1 hg0 hg1 HTK HDK hwx
        obtain ⟨i, l0, q, s, l1⟩ := x
        obtain ⟨_, hm0, hm1, -⟩ := hwx
        change l0.length ≤ 1000 at hm0
        change l1.length ≤ 1000 at hm1
        obtain ⟨n0, HN0⟩ : ∃ i, Aside0 (l0.length = i) := ⟨_, ⟨rfl⟩⟩
        obtain ⟨n1, HN1⟩ : ∃ i, Aside0 (l1.length = i) := ⟨_, ⟨rfl⟩⟩
        simp only [Ps.tnc] at hrow hl0 hl1
        have HG0 : Aside0 (Kd.C (Kd.int .u8) w B0 l0.length l0) := ⟨hg0⟩
        have HG1 : Aside0 (Kd.C (Kd.int .u32) w B1 l1.length l1) := ⟨hg1⟩
        rw [HN0.out, HN1.out] at hrow
        rw [HN0.out] at hm0 hl0
        rw [HN1.out] at hm1 hl1
        have HROW : Aside0 (∀ w', Below w.heap.size w w' → (Instr.loadAt 58 (.pointer (some (ad.add (k * 5))))).run Tryd.prog w' = .ok (.agg (Ps.tv i q s (.slice B0 n0 d0) (.slice B1 n1 d1)).toArray) w' ∧ w'.cell? (ad.add (k * 5)) = some (.int .u32 i) ∧ w'.cell? ⟨(ad.add (k * 5)).block, (ad.add (k * 5)).off + 1, none⟩ = some (.slice B0 n0 d0)) := ⟨fun w' hb => hrow w' hb⟩
        have HLK : Aside0 ((l.take k).length = k) := ⟨by rw [List.length_take]; omega⟩
        clear hrow hg0 hg1 HXK
        have cc0 := (HROW.out wr HB.out).2.1
        go_wp2_with fail
        clear cc0
        refine (reftenant_.calls pt w.heap.size (l.take k) i wr HT.out.tr (by rw [HLK.out]; omega) (fun x hx => HW.out x (List.mem_of_mem_take hx))).mono ?_
        rintro e w4 ⟨hb4, Z0, z0, Z1, z1, rfl, -⟩
        generalize (Ps.find (l.take k) i).getD Ps.zn = y
        obtain ⟨yi, yl, yq, ys, ym⟩ := y
        simp only [Ps.tnc]
        generalize yl.length = yn
        generalize ym.length = yz
        have HB4 := Aside0.mk (below_then HB.out HB.out.size hb4)
        have HT4 := Aside0.mk (HT.out.below hb4)
        obtain ⟨fd, HFD⟩ : ∃ b, Aside0 ((Ps.find (l.take k) i).isSome = b) := ⟨_, ⟨rfl⟩⟩
        rw [HFD.out]
        clear hb4 HT HB
        have HB5 : Aside0 (Below w.heap.size w (w4.alloc (.cells #[.int .u32 yi, .slice Z0 yn z0, .int .u64 yq, .int .u64 ys, .slice Z1 yz z1] 58))) := ⟨HB4.out.alloc HB4.out.size _⟩
        have HT5 : Aside0 (Ps.Rt (w4.alloc (.cells #[.int .u32 yi, .slice Z0 yn z0, .int .u64 yq, .int .u64 ys, .slice Z1 yz z1] 58)) w.heap.size pt (l.take k)) := ⟨HT4.out.below (below_alloc (Below.refl _ _) _)⟩
        have cc1 := (HROW.out _ HB5.out).2.2
        cases fd with
        | true =>
          go_wp2_with fail
          go_ret2
          refine ⟨HB5.out, .inr (.inl ⟨by omega, ?_, rfl⟩)⟩
          rw [← HG.out, HDK.out]
          obtain ⟨y, hy⟩ := Option.isSome_iff_exists.1 HFD.out
          exact Ps.good_there _ _ _ hy
        | false =>
          have HFN : Aside0 (Ps.find (l.take k) i = none) := ⟨by
            have := HFD.out
            cases h : Ps.find (l.take k) i with
            | none => rfl
            | some y => rw [h] at this; cases this⟩
          by_cases hz : n0 = 0
          · have hzI : ((n0 : Int) == 0) = true := by simpa using hz
            go_wp2_with fail
            go_ret2
            refine ⟨HB5.out, .inr (.inl ⟨by omega, ?_, rfl⟩)⟩
            rw [← HG.out, HDK.out]
            exact Ps.good_bare _ _ _ (by show l0.length = 0; rw [HN0.out]; exact hz)
          · have hzI : ((n0 : Int) == 0) = false := by simpa using hz
            clear cc1 HB5 HT5
            have HIU := Aside0.mk Cl.infoByte
            have HIV := Aside0.mk Cl32.infoByte
            have HS1 := Aside0.mk Ps.sizeSl
            have HS2 := Aside0.mk Ps.sizeSm
            have HAL : Aside0 ((([] : List Int).length + n0) * 1 ≤ 140737488355328 ∧ (([] : List Int).length + n1) * 4 ≤ 140737488355328) := ⟨by simp only [List.length_nil]; omega⟩
            go_wp2_with (first
              | (refine Wk.store_all rfl rfl 58 (.tmp 6) (.tmp 30) rfl w4.heap.size [.int .u32 yi, .slice Z0 yn z0, .int .u64 yq, .int .u64 ys, .slice Z1 yz z1] rfl rfl 58 Ps.z5 (Wk.Blk.new w4 58 Ps.z5) HSZ.out rfl rfl ?_; intro w6 hX hO; have HF6 := Aside0.mk (Wk.Only.fresh HB4.out HB4.out.size hO); have HT6 := Aside0.mk (HT4.out.below HF6.out.2.2); have cc1 := (HROW.out w6 HF6.out.2.1).2.2; have HRN6 := Aside0.mk (HROW.out w6 HF6.out.2.1).1; clear hX hO)
              | refine Wk.load rfl 58 (.tmp 44) rfl _ (.pointer (some (ad.add (k * 5)))) rfl HRN6.out ?_
              | (refine Wk.store_all rfl rfl 58 (.tmp 8) (.tmp 45) rfl w6.heap.size (Ps.tv i q s (.slice B0 n0 d0) (.slice B1 n1 d1)) rfl rfl 58 Ps.z5 (Wk.Blk.new w6 58 Ps.z5) HSZ.out rfl rfl ?_; intro w1 hX hO; have HF1 := Aside0.mk (Wk.Only.fresh HF6.out.2.1 HF6.out.2.1.size hO); have HY1 := Aside0.mk hX; have HT1 := Aside0.mk (HT6.out.below HF1.out.2.2); have HC10 := Aside0.mk (Kd.C_below HG0.out HF1.out.2.1); have HC11 := Aside0.mk (Kd.C_below HG1.out HF1.out.2.1); have k1 := hX.at_ 1 rfl; obtain ⟨g8, HG8⟩ : ∃ b, Aside0 (w6.heap.size = b) := ⟨_, ⟨rfl⟩⟩; rw [HG8.out] at HY1 k1 ⊢; clear hX hO cc1)
              | (at_builtin; refine Kd.R_append_rows (Kd.int .u8) (w0 := w1) (W := w1) w1.heap.size rfl (.tmp 46) (.tmp 48) 23 5 (.int .u8 0) 1 rfl Tryd.underlying23 HIU.out rfl (by decide) (by omega) (.slice none 0 0) ([] : List Int) l0 B0 n0 d0 (fun _ => True) (fun _ => False) rfl rfl (Kd.R_nil _ _ _ _ _) (by rw [← HN0.out]; exact HC10.out) (fun _ _ h => h) (fun _ h => h.elim) (fun _ _ => trivial) (Below.refl _ _) (Nat.le_refl _) HAL.out.1 ?_; intro v2 w2 ho hb hg _; rw [List.nil_append] at ho; obtain ⟨A2, e2, rfl⟩ := Kd.R_slice ho; rw [HN0.out] at ho ⊢; have HR2 := Aside0.mk ho; have HB2 := Aside0.mk hb; have HY2 := Aside0.mk (HY1.out.below_ hb); have HC21 := Aside0.mk (Kd.C_below HC11.out hb); have k4 := HY2.out.at_ 4 rfl; clear ho hb hg k1)
              | (at_builtin; refine Kd.R_append_rows (Kd.int .u32) (w0 := w1) (W := w2) w1.heap.size rfl (.tmp 50) (.tmp 52) 22 33 (.int .u32 0) 4 rfl Tryd.underlying22 HIV.out rfl (by decide) (by omega) (.slice none 0 0) ([] : List Int) l1 B1 n1 d1 (fun _ => True) (fun _ => False) rfl rfl (Kd.R_nil _ _ _ _ _) (by rw [← HN1.out]; exact HC21.out) (fun _ _ h => h) (fun _ h => h.elim) (fun _ _ => trivial) HB2.out HB2.out.size HAL.out.2 ?_; intro v3 w3 ho hb hg _; rw [List.nil_append] at ho; obtain ⟨A3, e3, rfl⟩ := Kd.R_slice ho; rw [HN1.out] at ho ⊢; have HR3 := Aside0.mk ho; have HB3 := Aside0.mk hb; have hbw : Below w2.heap.size w2 w3 := ⟨hg.os, hg.tape, hg.output, hg.size, fun kk hkk => hg.block kk hkk (by simp [Value.ownBlock])⟩; have HY3 := Aside0.mk (HY2.out.below_ hbw); have HU3 := Aside0.mk (Kd.R_below HR2.out hbw); have HT3 := Aside0.mk (HT1.out.below hb); clear ho hb hg hbw k4)
              | (refine Wk.store rfl rfl 23 (.tmp 55) (.tmp 54) rfl g8 1 (.slice A2 n0 e2) [.slice A2 n0 e2] rfl rfl rfl 58 _ HY3.out HS1.out (Nat.le_of_ble_eq_true rfl) rfl ?_; intro w7 hX hO; have HY7 := Aside0.mk (show Wk.Blk w7 g8 58 (Ps.tv i q s (.slice A2 n0 e2) (.slice B1 n1 d1)) from hX); have HO7 := Aside0.mk hO; clear hX hO)
              | (refine Wk.store rfl rfl 22 (.tmp 57) (.tmp 56) rfl g8 4 (.slice A3 n1 e3) [.slice A3 n1 e3] rfl rfl rfl 58 _ HY7.out HS2.out (Nat.le_of_ble_eq_true rfl) rfl ?_; intro w8 hX hO; have HY8 := Aside0.mk (show Wk.Blk w8 g8 58 (Ps.tv i q s (.slice A2 n0 e2) (.slice A3 n1 e3)) from hX); have HO8 := Aside0.mk hO; clear hX hO))
            obtain ⟨A6, c6, hbp6, hblk6, hR6⟩ := HT6.out
            rw [HLK.out] at hblk6 hR6
            have hb13 := below_then HF1.out.2.2 HF1.out.2.2.size HB3.out
            have HG6 : Aside0 (w6.heap.size ≤ g8 ∧ pt ≠ g8 ∧ w6.heap.size ≤ w1.heap.size ∧ w.heap.size ≤ w6.heap.size) := ⟨by rw [← HG8.out]; exact ⟨Nat.le_refl _, by have := hblk6.lt; omega, HF1.out.2.2.size, HF6.out.2.1.size⟩⟩
            have HPB : Aside0 (Wk.Blk w8 pt 91 [.slice A6 k c6]) := ⟨((hblk6.below_ hb13).only HO7.out HG6.out.2.1).only HO8.out HG6.out.2.1⟩
            have HRR : Aside0 (Kd.R Ps.kTn 58 w8 w.heap.size (fun j => j < w6.heap.size) (.slice A6 k c6) (l.take k)) := ⟨by
              have h1 : Kd.R Ps.kTn 58 w6 w.heap.size (fun j => j < w6.heap.size) (.slice A6 k c6) (l.take k) := Kd.R_mono (Kd.R_bound hR6) (fun j hj => hj.2.2.1)
              have h2 := Kd.R_below h1 hb13
              have hne : ∀ j, j < w6.heap.size → some j ≠ some g8 := fun j hj he => by have := Option.some.inj he; have := HG6.out.1; omega
              exact Kd.R_grown (Kd.R_grown h2 HO7.out.grown hne) HO8.out.grown hne⟩
            have hne : ∀ q, q ∈ 5 :: (Kd.int .u8).E → q ≠ 58 := by decide
            have hne' : ∀ q, q ∈ 33 :: (Kd.int .u32).E → q ≠ 58 := by decide
            have HUU := Aside0.mk (Wk.R_only (Wk.R_only HU3.out HY3.out hne HO7.out) HY7.out hne HO8.out)
            have HVV := Aside0.mk (Wk.R_only (Wk.R_only HR3.out HY3.out hne' HO7.out) HY7.out hne' HO8.out)
            have HB8 : Aside0 (Below w.heap.size w w8) := ⟨by
              have hg : w.heap.size ≤ g8 := Nat.le_trans HF6.out.2.1.size HG6.out.1
              exact Wk.Only.below (Wk.Only.below (below_then HF1.out.2.1 HF1.out.2.1.size HB3.out) HO7.out hg) HO8.out hg⟩
            have HBS : Aside0 (w.heap.size ≤ pt) := ⟨hbp6⟩
            have HLM : Aside0 (((l.take k).length + 1) * 72 ≤ 140737488355328) := ⟨by rw [HLK.out]; omega⟩
            clear hbp6 hblk6 hR6 hb13 hne hne' HT6 HT1 HT3 HT4 HB4 HF6 HF1 HY1 HY2 HY3 HY7 HO7 HO8 HR2 HR3 HU3 HB2 HB3 HC10 HC11 HC21 HRN6
            refine wp_region_noPanic ?_
            refine start_ (n := 11) (S := (fun w' => Below w8.heap.size w8 w')) (ds := [7, 10]) #[false, false, false, false, false, false, false, false, false, false, false] (by kernel_rfl) rfl rfl (Below.refl _ _).drew (fun hHeld => ?_)
            refine pure_ (i := 0) (N := (some 58)) (v := ?_) (a' := ?_) #[true, false, false, false, false, false, false, false, false, false, false] rfl rfl (by kernel_rfl) (fun _ _ _ h => h) (Or.inl ⟨by rfl, ?_⟩) ?_ ?_
            rotate_left
            · intro w'
              go_simp
              first | done | with_reducible rfl
            rotate_left
            · simp only [Act.put, List.setIfInBounds_toArray, List.set_cons_zero, List.set_cons_succ]
              rfl
            refine pure_ (i := 1) (N := (some 59)) (v := ?_) (a' := ?_) #[true, true, false, false, false, false, false, false, false, false, false] rfl rfl (by kernel_rfl) (fun _ _ _ h => h) (Or.inl ⟨by rfl, ?_⟩) ?_ ?_
            rotate_left
            · intro w'
              go_simp
              first | done | with_reducible rfl
            rotate_left
            · simp only [Act.put, List.setIfInBounds_toArray, List.set_cons_zero, List.set_cons_succ]
              rfl
            refine pure_ (i := 2) (N := (some 60)) (v := ?_) (a' := ?_) #[true, true, true, false, false, false, false, false, false, false, false] rfl rfl (by kernel_rfl) (fun _ _ _ h => h) (Or.inl ⟨by rfl, ?_⟩) ?_ ?_
            rotate_left
            · intro w'
              go_simp
              first | done | with_reducible rfl
            rotate_left
            · simp only [Act.put, List.setIfInBounds_toArray, List.set_cons_zero, List.set_cons_succ]
              rfl
            refine pure_ (i := 3) (N := (some 61)) (v := ?_) (a' := ?_) #[true, true, true, true, false, false, false, false, false, false, false] rfl rfl (by kernel_rfl) (fun _ _ _ h => h) (Or.inl ⟨by rfl, ?_⟩) ?_ ?_
            rotate_left
            · intro w'
              go_simp
              first | done | with_reducible rfl
            rotate_left
            · simp only [Act.put, List.setIfInBounds_toArray, List.set_cons_zero, List.set_cons_succ]
              rfl
            refine take_ (i := 4) (N := (some 62)) (v := ?_) (a' := ?_) #[true, true, true, true, true, false, false, false, false, false, false] rfl rfl (by kernel_rfl) (fun _ _ _ h => h) (Or.inl ⟨by rfl, ?_⟩) hHeld ?_ ?_
            rotate_left
            · intro w' hS'
              (have c1 := (HPB.out.below_ hS').at_ 0 rfl; go_simp)
              first | done | with_reducible rfl
            rotate_left
            · simp only [Act.put, List.setIfInBounds_toArray, List.set_cons_zero, List.set_cons_succ]
              rfl
            refine take_ (i := 5) (N := (some 63)) (v := ?_) (a' := ?_) #[true, true, true, true, true, true, false, false, false, false, false] rfl rfl (by kernel_rfl) (fun _ _ _ h => h) (Or.inl ⟨by rfl, ?_⟩) hHeld ?_ ?_
            rotate_left
            · intro w' hS'
              (have hl := Wk.run_load_blk (P := Tryd.prog) 58 g8 0 (Ps.tv i q s (.slice A2 n0 e2) (.slice A3 n1 e3)) _ (HY8.out.below_ hS') rfl Tryd.underlying58 rfl HSZ.out; refine (Wk.exec_load 58 (.tmp 8) rfl _ _ rfl hl).trans ?_)
              first | done | with_reducible rfl
            rotate_left
            · simp only [Act.put, List.setIfInBounds_toArray, List.set_cons_zero, List.set_cons_succ]
              rfl
            refine one_ (i := 6) (N := (some 64)) #[true, true, true, true, true, true, true, false, false, false, false] rfl rfl (by kernel_rfl) (by decide) (fun K hK => ?_)
            refine value_ (w1 := w8.drew.alloc (.cells (Ps.tv i q s (.slice A2 n0 e2) (.slice A3 n1 e3)).toArray 58)) (v := .slice (some ⟨w8.drew.heap.size, 0, none⟩) 1 1) (by rfl) rfl (by first | (go_simp; done) | (go_simp; rfl)) ?_
            refine hK.out _ _ (hHeld.alloc hHeld.size _) (fun hHeld => ?_)
            clear hK K
            refine norm_ (a' := ?_) ?_ ?_
            rotate_left
            · show Act.put _ (some 64) _ = _
              simp only [Act.put, List.setIfInBounds_toArray, List.set_cons_zero, List.set_cons_succ]
              rfl
            have HH9 : Aside0 (Below w8.heap.size w8 w8.drew) := ⟨(Below.refl _ _).drew⟩
            have HRO : Aside0 (Kd.R Ps.kTn 58 w8.drew w.heap.size (fun _ => True) (.slice A6 k c6) (l.take k)) := ⟨Kd.R_mono (Kd.R_below HRR.out HH9.out) (fun _ _ => trivial)⟩
            have HBB : Aside0 (Below w.heap.size w w8.drew ∧ w.heap.size ≤ w8.drew.heap.size) := ⟨below_then HB8.out HB8.out.size HH9.out, (below_then HB8.out HB8.out.size HH9.out).size⟩
            have HOW : Aside0 (∀ j, (Value.slice A6 k c6).ownBlock = some j → j < w6.heap.size) := ⟨fun j hj => HRR.out.1 j hj⟩
            have HMM : Aside0 (Ps.kTn.M w8.drew w.heap.size (fun j => True ∧ some j ≠ (Value.slice A6 k c6).ownBlock) ⟨i, l0, q, s, l1⟩ (Ps.tv i q s (.slice A2 n0 e2) (.slice A3 n1 e3))) := ⟨by
              have hok : ∀ j, w1.heap.size ≤ j → True ∧ some j ≠ (Value.slice A6 k c6).ownBlock := fun j hj => ⟨trivial, fun he => by have := HOW.out j he.symm; have := HG6.out.2.2.1; omega⟩
              have hle : w.heap.size ≤ w1.heap.size := Nat.le_trans HG6.out.2.2.2 HG6.out.2.2.1
              have r2 := Kd.R_lower (Kd.R_mono (Kd.R_bound (Kd.R_below HUU.out HH9.out)) (fun j hj => hok j hj.2.1)) hle
              have r3 := Kd.R_lower (Kd.R_mono (Kd.R_bound (Kd.R_below HVV.out HH9.out)) (fun j hj => hok j hj.2.1)) hle
              exact PBase.k58_mkM w8.drew w.heap.size _ ⟨i, l0, q, s, l1⟩ r2 r3⟩
            refine last_ (i := 7) (N := (some 65)) #[true, true, true, true, true, true, true, true, false, false, false] rfl rfl (by kernel_rfl) (by decide) (fun K hK => ?_)
            refine Kd.R_append_step Ps.kTn (w0 := w) (W := w8.drew) w.heap.size (by rfl) (.tmp 62) (.tmp 64) 37 58 (.agg Ps.z5.toArray) 72 rfl Tryd.underlying37 Ps.infoTn rfl (by decide) (by omega) (.slice A6 k c6) (l.take k) ⟨i, l0, q, s, l1⟩ (Ps.tv i q s (.slice A2 n0 e2) (.slice A3 n1 e3)) (fun _ => True) (fun j => True ∧ some j ≠ (Value.slice A6 k c6).ownBlock) rfl rfl HMM.out (fun _ h => h) (fun _ _ => trivial) HRO.out HBB.out.1 HBB.out.2 HLM.out ?_
            intro v3 w11 hr3 hb3 hg3 _
            obtain ⟨A9, c9, rfl⟩ := Kd.R_slice hr3
            have hL : (l.take k ++ [(⟨i, l0, q, s, l1⟩ : Ps.Tn)]).length = k + 1 := by rw [List.length_append, HLK.out]; rfl
            rw [hL] at hr3 ⊢
            have HR11 := Aside0.mk hr3
            have HB11 := Aside0.mk hb3
            have hpo : some pt ≠ (Value.slice A6 k c6).ownBlock := fun he => Kd.R_ne HRO.out (HPB.out.below_ HH9.out).out (by decide) he
            have HP11 := Aside0.mk ((HPB.out.below_ HH9.out).grown hg3 hpo)
            clear hr3 hb3 hg3 hL hpo
            refine hK.out _ _ ?_
            clear hK K
            refine norm_ (a' := ?_) ?_ ?_
            rotate_left
            · show Act.put _ (some 65) _ = _
              simp only [Act.put, List.setIfInBounds_toArray, List.set_cons_zero, List.set_cons_succ]
              rfl
            refine pure_ (i := 8) (N := (some 66)) (v := ?_) (a' := ?_) #[true, true, true, true, true, true, true, true, true, false, false] rfl rfl (by kernel_rfl) (fun _ _ _ h => h) (Or.inl ⟨by rfl, ?_⟩) ?_ ?_
            rotate_left
            · intro w'
              go_simp
              first | done | with_reducible rfl
            rotate_left
            · simp only [Act.put, List.setIfInBounds_toArray, List.set_cons_zero, List.set_cons_succ]
              rfl
            refine pure_ (i := 9) (N := (some 67)) (v := ?_) (a' := ?_) #[true, true, true, true, true, true, true, true, true, true, false] rfl rfl (by kernel_rfl) (fun _ _ _ h => h) (Or.inl ⟨by rfl, ?_⟩) ?_ ?_
            rotate_left
            · intro w'
              go_simp
              first | done | with_reducible rfl
            rotate_left
            · simp only [Act.put, List.setIfInBounds_toArray, List.set_cons_zero, List.set_cons_succ]
              rfl
            refine last_ (i := 10) (N := none) #[true, true, true, true, true, true, true, true, true, true, true] rfl rfl (by kernel_rfl) (by decide) (fun K hK => ?_)
            refine Wk.store_step (by rfl) rfl 37 (.tmp 67) (.tmp 65) rfl pt 0 (.slice A9 (k + 1) c9) [.slice A9 (k + 1) c9] rfl rfl rfl 91 _ HP11.out HTS.out (Nat.le_refl 1) rfl ?_
            intro w12 hX hO
            have HP12 := Aside0.mk (show Wk.Blk w12 pt 91 [.slice A9 (k + 1) c9] from hX)
            have HO12 := Aside0.mk hO
            clear hX hO
            refine hK.out _ _ ?_
            clear hK K
            refine done_ (by kernel_rfl) ?_
            refine NoPanic.normal ?_
            go_wp2_with fail
            have HLK2 : (l.take (k + 1)).length = k + 1 := by rw [List.length_take]; omega
            refine ⟨⟨k + 1, by simp, by omega, ⟨A9, c9, HBS.out, ?_, ?_⟩, ⟨Wk.Only.below HB11.out HO12.out HBS.out⟩, ⟨?_⟩⟩, by simp [intOf]; omega⟩
            · rw [HLK2]; exact HP12.out
            · rw [HLK2, HTK.out]
              exact Wk.R_only HR11.out HP11.out Ps.kTn_ne HO12.out
            · rw [HTK.out, ← HG.out, HDK.out]
              exact (Ps.good_step _ _ _ HFN.out (by show 0 < l0.length; rw [HN0.out]; omega)).symm
      · obtain rfl : k = n := by omega
        go_wp2_with fail
        go_ret2
        refine ⟨HB.out, .inr (.inr ⟨by omega, ?_, pt, rfl, ?_⟩)⟩
        · rw [← HG.out, List.drop_of_length_le (by rw [HN.out]; exact Nat.le_refl _)]
          rfl
        · have := HT.out.tr
          rwa [List.take_of_length_le (by rw [HN.out]; exact Nat.le_refl _)] at this
end Go.Proofs.YtgljicdpcapgnaaDoor
set_option linter.unusedVariables false
set_option linter.unusedSimpArgs false
namespace Go.Proofs.YtgljicdpcapgnaaDoor
open Go.RowKit Go.Proofs.YtgljicdpcapgnaaDoor.PBase Go.Proofs.YtgljicdpcapgnaaDoorW.PrintWords Go.Proofs.YtgljicdpcapgnaaDoorW.PrintLast Go.Proofs.YtgljicdpcapgnaaDoorW.PrintMore
namespace Cn
def TabPost (W : World) (n : Nat) (l : List Ps.Tn) (e : Ending) (w' : World) : Prop :=
  Below W.heap.size W w' ∧ ((n ≤ 64 ∧ Ps.good [] l = true ∧ ∃ p q, e = .returned (.tuple #[.pointer (some ⟨p, 0, none⟩), .pointer (some ⟨q, 0, none⟩), .bool true]) ∧ Ps.Tb w' W.heap.size p l) ∨ (¬ (n ≤ 64 ∧ Ps.good [] l = true) ∧ e = .returned (.tuple #[.pointer none, .pointer none, .bool false])))
theorem Ctx.new {W : World} {tb bs : Nat} {l : List Ps.Tn} (hK : Sh.Ks W) (hT : Ps.Tb W bs tb l) (hW : ∀ x ∈ l, Ps.TnWf x) : Ctx W tb bs l := ⟨fun w' hb => ⟨hK.below hb, hT.below hb⟩, hW⟩
theorem Ctx.later {w0 w1 : World} {tb bs : Nat} {l : List Ps.Tn} (h : Ctx w0 tb bs l) (hb : Below w0.heap.size w0 w1) : Ctx w1 tb bs l := ⟨fun w' hb' => h.kt w' (below_then hb hb.size hb'), h.wf⟩
def st1 : St := ⟨64, [], [], 1, ex0, false, []⟩
def st2 : St := ⟨64, [], [], 2, ex0, true, []⟩
def st3 : St := ⟨64, [], [0, 3, 232, 137, 4, 85, 101, 169, 0, 0, 0, 2, 0, 0, 0, 1, 0, 0, 0, 0], 4, ex0, true, []⟩
theorem out_new : out (new 64) = st1 := rfl
theorem feed_1 (l : List Ps.Tn) : feed l st1 [0, 0, 0, 3] = st2 := by kernel_rfl
theorem feed_2 (l : List Ps.Tn) : feed l st2 [73, 72, 65, 86, 69, 79, 80, 84, 0, 0, 0, 2, 0, 0, 0, 0] = st3 := by kernel_rfl
theorem feed_3 (l : List Ps.Tn) : (feed l (new 64) [0, 0, 0, 0]).st = 4 := by kernel_rfl
theorem lit_ok (c : St) (h : c.kept = []) (h' : c.rs = []) (hb : 0 ≤ c.blk ∧ c.blk ≤ 65535) : Ok c := ⟨(by rw [h]; intro x hx; cases hx), (by rw [h]; exact Nat.zero_le _), (by rw [h']; intro r hr; cases hr), hb⟩
theorem bytes_lit (l : List Int) (h : l.all (fun x => decide (0 ≤ x) && decide (x ≤ 255)) = true) : Sh.Bytes l := fun x hx => by
  have := List.all_eq_true.1 h x hx
  simpa using this
end Cn
set_option maxHeartbeats 4000000 in
set_option maxRecDepth 100000 in
theorem tables_.calls {W : World} {A : Option Addr} {n c : Nat} {l : List Ps.Tn} (hC : Ps.kTn.C W A l.length l) (hn : l.length = n) (hw : ∀ x ∈ l, Ps.TnWf x) : Calls Tryd.prog 9 #[.slice A n c] W (Cn.TabPost W n l) := by
 have HC := Aside0.mk hC
 have HN := Aside0.mk hn
 have HW := Aside0.mk hw
 clear hC hn hw
 go_enter Tryd.func9, Tryd.ntmps9
 go_wp2_with fail
 refine (new_pass.calls A n c l W HC.out HN.out HW.out).mono ?_
 rintro e w1 ⟨hb1, h1⟩
 have HB1 := Aside0.mk hb1
 have HC1 := Aside0.mk (Kd.C_below HC.out hb1)
 clear hb1
 rcases h1 with ⟨h64, rfl⟩ | ⟨h64, hg, rfl⟩ | ⟨h64, hg, p, rfl, ht⟩
 ·have H64 := Aside0.mk h64
  clear h64
  go_wp2_with fail
  refine (refnew_.calls A n c l w1 HC1.out HN.out HW.out).mono ?_
  rintro e w2 ⟨hb2, h2⟩
  have HB2 := Aside0.mk (below_then HB1.out HB1.out.size hb2)
  clear hb2
  rcases h2 with ⟨_, rfl⟩ | ⟨h, _⟩ | ⟨h, _⟩
  ·go_wp2_with fail
   go_ret3
   exact ⟨HB2.out, .inr ⟨(fun hh => by have := H64.out; omega), rfl⟩⟩
  ·exact absurd H64.out (by omega)
  ·exact absurd H64.out (by omega)
 ·have H64 := Aside0.mk (And.intro h64 hg)
  clear h64 hg
  go_wp2_with fail
  refine (refnew_.calls A n c l w1 HC1.out HN.out HW.out).mono ?_
  rintro e w2 ⟨hb2, h2⟩
  have HB2 := Aside0.mk (below_then HB1.out HB1.out.size hb2)
  clear hb2
  rcases h2 with ⟨h, _⟩ | ⟨_, _, rfl⟩ | ⟨_, h, _⟩
  ·exact absurd H64.out.1 (by omega)
  ·go_wp2_with fail
   go_ret3
   exact ⟨HB2.out, .inr ⟨(fun hh => by have := H64.out.2; rw [hh.2] at this; cases this), rfl⟩⟩
  ·have := H64.out.2
   rw [h] at this
   cases this
 ·have H64 := Aside0.mk (And.intro h64 hg)
  have HT := Aside0.mk ht
  clear h64 hg ht
  go_wp2_with fail
  refine (refnew_.calls A n c l w1 HC1.out HN.out HW.out).mono ?_
  rintro e w2 ⟨hb2, h2⟩
  have HB2 := Aside0.mk (below_then HB1.out HB1.out.size hb2)
  have HT2 := Aside0.mk (HT.out.below hb2)
  clear hb2
  rcases h2 with ⟨h, _⟩ | ⟨_, h, _⟩ | ⟨_, _, q, rfl, _⟩
  ·exact absurd H64.out.1 (by omega)
  ·have := H64.out.2
   rw [h] at this
   cases this
  ·go_wp2_with fail
   go_ret3
   exact ⟨HB2.out, .inl ⟨H64.out.1, H64.out.2, p, q, rfl, HT2.out⟩⟩
set_option maxHeartbeats 8000000 in
set_option maxRecDepth 100000 in
theorem knownc_.calls (W : World) (hk : Sh.Ks W) : Calls Tryd.prog 8 #[] W fun e w' => e = .returned (.bool true) ∧ Below W.heap.size W w' := by
 have HK := Aside0.mk hk
 have HZ : Aside0 (∀ x ∈ ([] : List Ps.Tn), Ps.TnWf x) := ⟨fun x hx => by cases hx⟩
 clear hk
 go_enter Tryd.func8, Tryd.ntmps8
 go_wp2_with fail
 refine (new_pass.calls none 0 0 [] W (Kd.C_nil _ _) rfl HZ.out).mono ?_
 rintro e w1 ⟨hb1, ⟨h, -⟩ | ⟨-, h, -⟩ | ⟨-, -, tb, rfl, ht⟩⟩
 ·exact absurd h (by decide)
 ·cases h
 have HB1 := Aside0.mk hb1
 have HX := Aside0.mk (Cn.Ctx.new (HK.out.below hb1) ht HZ.out)
 clear hb1 ht
 go_wp2_with fail
 refine (newconn_.calls w1 tb 64).mono ?_
 rintro e w2 ⟨p, rfl, hc2, hb2⟩
 have HC2 := Aside0.mk hc2
 have HB2 := Aside0.mk hb2
 clear hc2 hb2
 go_wp2_with fail
 refine (out_.calls HC2.out).mono ?_
 rintro e w3 ⟨A3, n3, rfl, _, hc3, hf3⟩
 rw [Cn.out_new] at hc3
 have HC3 := Aside0.mk hc3
 have HB3 := Aside0.mk (hf3.below HB2.out HB2.out.size (fun k hk => hk))
 clear hc3 hf3
 have HB4 : Aside0 (Below w3.heap.size w3 (w3.alloc (.cells #[.int .u8 0, .int .u8 0, .int .u8 0, .int .u8 3] 5))) := ⟨below_alloc (Below.refl _ _) _⟩
 have HR4 : Aside0 (Kd.C (Kd.int .u8) (w3.alloc (.cells #[.int .u8 0, .int .u8 0, .int .u8 0, .int .u8 3] 5)) (some ⟨w3.heap.size, 0, none⟩) ([0, 0, 0, 3] : List Int).length [0, 0, 0, 3]) := ⟨Lit.reads_new w3 _ _ _ .u8 [0, 0, 0, 3] rfl (by simp)⟩
 go_wp2_with fail
 have HBX := Aside0.mk (below_then HB3.out HB3.out.size HB4.out)
 refine (feedc_.calls HX.out (HC3.out.below HB4.out) (fun k hk => Nat.le_trans HBX.out.size hk) (Cn.lit_ok _ rfl rfl (by decide)) HBX.out (fun k hk => hk) (by decide) HR4.out rfl (by decide) (Cn.bytes_lit _ (by decide))).mono ?_
 rintro e w5 ⟨rfl, hc5, hf5⟩
 rw [Cn.feed_1] at hc5
 have HC5 := Aside0.mk hc5
 have HB5 := Aside0.mk (hf5.below HBX.out HBX.out.size (fun k hk => hk))
 clear hc5 hf5
 go_wp2_with fail
 refine (state_.calls HC5.out).mono ?_
 rintro e w6 ⟨rfl, hb6⟩
 have HC6 := Aside0.mk (HC5.out.below hb6)
 have HB6 := Aside0.mk (below_then HB5.out HB5.out.size hb6)
 clear hb6
 have HB7 : Aside0 (Below w6.heap.size w6 (w6.alloc (.cells #[.int .u8 73, .int .u8 72, .int .u8 65, .int .u8 86, .int .u8 69, .int .u8 79, .int .u8 80, .int .u8 84, .int .u8 0, .int .u8 0, .int .u8 0, .int .u8 2, .int .u8 0, .int .u8 0, .int .u8 0, .int .u8 0] 5))) := ⟨below_alloc (Below.refl _ _) _⟩
 have HR7 : Aside0 (Kd.C (Kd.int .u8) (w6.alloc (.cells #[.int .u8 73, .int .u8 72, .int .u8 65, .int .u8 86, .int .u8 69, .int .u8 79, .int .u8 80, .int .u8 84, .int .u8 0, .int .u8 0, .int .u8 0, .int .u8 2, .int .u8 0, .int .u8 0, .int .u8 0, .int .u8 0] 5)) (some ⟨w6.heap.size, 0, none⟩) ([73, 72, 65, 86, 69, 79, 80, 84, 0, 0, 0, 2, 0, 0, 0, 0] : List Int).length [73, 72, 65, 86, 69, 79, 80, 84, 0, 0, 0, 2, 0, 0, 0, 0]) := ⟨Lit.reads_new w6 _ _ _ .u8 [73, 72, 65, 86, 69, 79, 80, 84, 0, 0, 0, 2, 0, 0, 0, 0] rfl (by simp)⟩
 go_wp2_with fail
 have HBY := Aside0.mk (below_then HB6.out HB6.out.size HB7.out)
 refine (feedc_.calls HX.out (HC6.out.below HB7.out) (fun k hk => Nat.le_trans HBY.out.size hk) (Cn.lit_ok _ rfl rfl (by decide)) HBY.out (fun k hk => hk) (by decide) HR7.out rfl (by decide) (Cn.bytes_lit _ (by decide))).mono ?_
 rintro e w8 ⟨rfl, hc8, hf8⟩
 rw [Cn.feed_2] at hc8
 have HC8 := Aside0.mk hc8
 have HB8 := Aside0.mk (hf8.below HBY.out HBY.out.size (fun k hk => hk))
 clear hc8 hf8
 go_wp2_with fail
 refine (out_.calls HC8.out).mono ?_
 rintro e w9 ⟨A9, n9, rfl, hr9, hc9, hf9⟩
 rw [show Cn.st3.send.length = 20 from rfl] at hr9 ⊢
 have HR9 := Aside0.mk (Kd.R_bound hr9)
 have HC9 := Aside0.mk hc9.bound
 have HB9 := Aside0.mk (hf9.below HB8.out HB8.out.size (fun k hk => hk))
 clear hr9 hc9 hf9
 go_wp2_with fail
 refine (newconn_.calls w9 tb 64).mono ?_
 rintro e w10 ⟨q, rfl, hc10, hb10⟩
 have HD10 := Aside0.mk hc10
 have HB10 := Aside0.mk (below_then HB9.out HB9.out.size hb10)
 have HC10 := Aside0.mk (HC9.out.below hb10)
 have HR10 := Aside0.mk (Kd.R_below HR9.out hb10)
 have HS10 : Aside0 (w9.heap.size ≤ w10.heap.size) := ⟨hb10.size⟩
 clear hc10 hb10
 have HB11 : Aside0 (Below w10.heap.size w10 (w10.alloc (.cells #[.int .u8 0, .int .u8 0, .int .u8 0, .int .u8 0] 5))) := ⟨below_alloc (Below.refl _ _) _⟩
 have HR11 : Aside0 (Kd.C (Kd.int .u8) (w10.alloc (.cells #[.int .u8 0, .int .u8 0, .int .u8 0, .int .u8 0] 5)) (some ⟨w10.heap.size, 0, none⟩) ([0, 0, 0, 0] : List Int).length [0, 0, 0, 0]) := ⟨Lit.reads_new w10 _ _ _ .u8 [0, 0, 0, 0] rfl (by simp)⟩
 go_wp2_with fail
 have HBZ := Aside0.mk (below_then HB10.out HB10.out.size HB11.out)
 refine (feedc_.calls HX.out (HD10.out.below HB11.out) (fun k hk => Nat.le_trans HS10.out (Nat.le_trans HB11.out.size hk)) (Cn.new_ok 64 (by decide)) HBZ.out (fun k hk => Nat.le_trans HB9.out.size hk) (by have := Cn.hello_len; show Cn.hello.length ≤ _; omega) HR11.out rfl (by decide) (Cn.bytes_lit _ (by decide))).mono ?_
 rintro e w12 ⟨rfl, hc12, hf12⟩
 have HD12 := Aside0.mk hc12
 have HS12 := Aside0.mk (Cn.feed_3 [])
 have HC12 := Aside0.mk ((HC10.out.below HB11.out).frame hf12 (fun k hk hh => by have := hk.2; omega))
 have HR12 := Aside0.mk (Kd.R_reads' (Cn.R_frame (Kd.R_below HR10.out HB11.out) hf12 (fun k hk hh => by have := hk.2.2.1; omega)))
 have HB12 := Aside0.mk (hf12.below HBZ.out HBZ.out.size (fun k hk => Nat.le_trans HB9.out.size hk))
 clear hc12 hf12
 obtain ⟨ad, hA9, hx9⟩ := Kd.at_int HR12.out.2.2 15 (by decide) (by decide)
 obtain ⟨ab, cap9, he9, -⟩ := Kd.R_form HR9.out (by decide)
 replace he9 := Value.slice.inj he9
 obtain ⟨he9, -, -⟩ := he9
 rw [hA9] at he9
 obtain rfl := Option.some.inj he9
 have hx9' : w12.cell? (⟨ab, 15, none⟩ : Addr) = some (.int .u8 1) := hx9
 subst hA9
 go_wp2_with fail
 refine (state_.calls HC12.out).mono ?_
 rintro e w13 ⟨rfl, hb13⟩
 have HB13 := Aside0.mk (below_then HB12.out HB12.out.size hb13)
 have HD13 := Aside0.mk (HD12.out.below hb13)
 have hx10 : w13.cell? (⟨ab, 15, none⟩ : Addr) = some (.int .u8 1) := (hb13.cell (World.block_lt_of_cell? _ _ hx9')).trans hx9'
 clear hb13 hx9 hx9'
 go_wp2_with fail
 refine (state_.calls HD13.out).mono ?_
 rintro e w14 ⟨rfl, hb14⟩
 rw [HS12.out]
 have HB14 := Aside0.mk (below_then HB1.out HB1.out.size (below_then HB13.out HB13.out.size hb14))
 clear hb14
 go_wp2_with fail
 go_ret
 exact ⟨rfl, HB14.out⟩
end Go.Proofs.YtgljicdpcapgnaaDoor
set_option linter.unusedVariables false
set_option linter.unusedSimpArgs false
namespace Go.Proofs.YtgljicdpcapgnaaDoor
open Go.RowKit Go.Proofs.YtgljicdpcapgnaaDoorW.PrintWords Go.Proofs.YtgljicdpcapgnaaDoorW.PrintLast Go.Proofs.YtgljicdpcapgnaaDoorW.PrintMore Go.Proofs.YtgljicdpcapgnaaDoor.PBase
namespace Pi
def toS (r : Rq) : S61 := ⟨r.1, r.2.1, r.2.2.1, r.2.2.2.1, r.2.2.2.2.1, r.2.2.2.2.2⟩
theorem same_f (r : Rq) : coamingref20_Same.f r.1 r.2.1 r.2.2.1 r.2.2.2.1 r.2.2.2.2.1 r.2.2.2.2.2 r.1 r.2.1 r.2.2.1 r.2.2.2.1 r.2.2.2.2.1 r.2.2.2.2.2 = some true := by
  unfold coamingref20_Same.f
  rw [if_pos rfl, if_pos rfl, if_pos rfl, if_pos rfl, if_pos rfl, beq_self_eq_true]
theorem rd_S (rs : List Rq) (i : Nat) (hi : i < rs.length) : rd_T61 (rs.map toS) (i : Int) = toS rs[i] := by
  unfold rd_T61
  rw [List.getD_eq_getElem?_getD, List.getElem?_map, Int.toNat_natCast, List.getElem?_eq_getElem hi]
  rfl
theorem sameall_l (rs : List Rq) (hl : rs.length < 9223372036854775807) : ∀ k i : Nat, i ≤ rs.length → rs.length - i < k → coamingref20_SameAll.l0 k (rs.map toS) (rs.map toS) i = some true
  | 0, _, _, h => absurd h (by omega)
  | k + 1, i, hi, h => by
    unfold coamingref20_SameAll.l0
    rw [List.length_map]
    rcases Nat.lt_or_ge i rs.length with hlt | hge
    · rw [if_pos (by omega), if_pos (by omega), if_pos (by omega), rd_S rs i hlt]
      have : coamingref20_Same.f (toS rs[i]).f0 (toS rs[i]).f1 (toS rs[i]).f2 (toS rs[i]).f3 (toS rs[i]).f4 (toS rs[i]).f5 (toS rs[i]).f0 (toS rs[i]).f1 (toS rs[i]).f2 (toS rs[i]).f3 (toS rs[i]).f4 (toS rs[i]).f5 = some true := same_f rs[i]
      rw [this, Option.bind_some, if_pos rfl, show wrap64 ((i : Int) + 1) = ((i + 1 : Nat) : Int) from by unfold wrap64; omega]
      exact sameall_l rs hl k (i + 1) hlt (by omega)
    · rw [if_neg (by omega)]
theorem sameall_f (rs : List Rq) (hl : rs.length < 9223372036854775807) : coamingref20_SameAll.f (rs.length + 1) (rs.map toS) (rs.map toS) = some true := by
  unfold coamingref20_SameAll.f
  rw [if_pos rfl]
  exact sameall_l rs hl _ 0 (Nat.zero_le _) (by omega)
end Pi
theorem Pi.C_S {w : World} {A : Option Addr} {n : Nat} {rs : List Rq} (h : kRq.C w A n rs) : k61.C w A n (rs.map Pi.toS) := by
  obtain ⟨h1, h0, h2⟩ := h
  refine ⟨by simpa using h1, h0, fun hp => ?_⟩
  obtain ⟨ad, e, hh⟩ := h2 hp
  refine ⟨ad, e, fun j p hj => ?_⟩
  rw [List.getElem?_map] at hj
  obtain ⟨r, hr, rfl⟩ := Option.map_eq_some_iff.1 hj
  exact hh j r hr
theorem sameall_.calls {w : World} {rs : List Rq} {A B : Option Addr} {c d : Nat} (hl : rs.length < 9223372036854775807) (h1 : kRq.C w A rs.length rs) (l1 : rs.length ≤ c) (h2 : kRq.C w B rs.length rs) (l2 : rs.length ≤ d) : Calls Tryd.prog 17 #[.slice A rs.length c, .slice B rs.length d] w fun e w' => e = .returned (.bool true) ∧ Below w.heap.size w w' := by
  have e : (rs.map Pi.toS).length = rs.length := List.length_map ..
  have h := coamingref20_SameAll.calls (rs.length + 1) A c (rs.map Pi.toS) B d (rs.map Pi.toS) true w (by rw [e]; exact Pi.C_S h1) (by rw [e]; exact l1) (by rw [e]; exact Pi.C_S h2) (by rw [e]; exact l2) (Pi.sameall_f rs hl)
  rw [e] at h
  exact h
end Go.Proofs.YtgljicdpcapgnaaDoor
set_option linter.unusedVariables false
set_option linter.unusedSimpArgs false
namespace Go.Proofs.YtgljicdpcapgnaaDoor
open Go.RowKit Go.Proofs.YtgljicdpcapgnaaDoor.PBase Go.Proofs.YtgljicdpcapgnaaDoorW.PrintWords Go.Proofs.YtgljicdpcapgnaaDoorW.PrintLast Go.Proofs.YtgljicdpcapgnaaDoorW.PrintMore
namespace Cn
theorem drawn_below {w w' : World} (h : Drawn0 w w') : Below w.heap.size w w' := by obtain ⟨m, hm⟩ := h.out; rw [hm]; exact pw_below_drewN (Below.refl _ _) m
theorem sameb_ {A B : Option Addr} {n m c d : Nat} {l : List Int} {w : World} (h0 : Kd.C (Kd.int .u8) w A l.length l) (hn : l.length = n) (hc : n ≤ c) (h1 : Kd.C (Kd.int .u8) w B l.length l) (hm : l.length = m) (hd : m ≤ d) :
    Calls Tryd.prog 19 #[.slice A n c, .slice B m d] w fun e w' => e = .returned (.bool true) ∧ Below w.heap.size w w' := by
  subst hn; subst hm
  exact (coamingref00_SameBytes.calls A c l B d l true w h0 hc h1 hd (by unfold coamingref00_SameBytes.f; rw [beq_self_eq_true])).mono (fun _ _ ⟨a, h⟩ => ⟨a, drawn_below h⟩)
theorem sameall_ {A B : Option Addr} {n m c d : Nat} {rs : List Rq} {w : World} (hl : rs.length < 9223372036854775807) (h0 : kRq.C w A rs.length rs) (hn : rs.length = n) (hc : n ≤ c) (h1 : kRq.C w B rs.length rs) (hm : rs.length = m) (hd : m ≤ d) :
    Calls Tryd.prog 17 #[.slice A n c, .slice B m d] w fun e w' => e = .returned (.bool true) ∧ Below w.heap.size w w' := by
  subst hn; subst hm
  exact sameall_.calls hl h0 hc h1 hd
def Few (c : St) : Prop := c.rs.length ≤ 16 ∧ (c.st ≠ 3 → c.rs = [])
theorem few_close (c : St) : Few (close c) := ⟨Nat.zero_le _, fun _ => rfl⟩
theorem few_option (l : List Ps.Tn) (c : St) (k : Int) (d : List Int) (h : c.rs = []) : Few (option l c k d) := by
  have e : (option l c k d).rs = [] := by
    rcases (option_keeps l c k d).2.2 with ⟨_, e⟩ | ⟨_, e, _⟩
    · rw [e, h]
    · exact e
  exact ⟨by rw [e]; exact Nat.zero_le _, fun _ => e⟩
theorem few_step (l : List Ps.Tn) (c : St) (h : Few c) : Few (step l c).2.2 := by
  unfold step
  split
  · rename_i h1
    have hr := h.2 (by rw [h1]; decide)
    show Few (if (Gr.fl c.kept).2.2 = 0 then { c with sh := (Gr.fl c.kept).1, st := 2 } else c)
    split
    · exact ⟨by show c.rs.length ≤ 16; exact h.1, fun _ => hr⟩
    · exact h
  · split
    · rename_i h2
      show Few (if (Gr.nx c.kept).2.2.2 = 0 then option l c (Gr.nx c.kept).1 (Gr.nx c.kept).2.1 else c)
      split
      · exact few_option l c _ _ (h.2 (by rw [h2]; decide))
      · exact h
    · split
      · rename_i h3
        unfold request
        split
        · exact h
        · rename_i h16
          split
          split
          · exact h
          · split
            · exact few_close c
            · refine ⟨?_, fun hh => absurd h3 hh⟩
              show (c.rs ++ [_]).length ≤ 16
              rw [List.length_append]
              have := h.1
              simp only [List.length_singleton]
              omega
      · exact h
theorem few_rd (l : List Ps.Tn) : ∀ (F : Nat) (c : St), Few c → Few (rd l F c)
  | 0, c, h => h
  | F + 1, c, h => by
    rw [rd]
    split
    · exact few_step l c h
    · split
      · split
        · exact few_step l c h
        · exact few_rd l F _ (few_step l c h)
      · exact few_close _
theorem few_feed (l : List Ps.Tn) (c : St) (b : List Int) (h : Few c) : Few (feed l c b) := by
  unfold feed
  split
  · exact h
  · split
    · exact few_close c
    · exact few_rd l _ _ h
theorem few_new (b : Int) : Few (new b) := ⟨Nat.zero_le _, fun _ => rfl⟩
def st0 : St := ⟨64, [], hello, 2, ex0, false, []⟩
theorem feed_0 (l : List Ps.Tn) : feed l (new 64) [0, 0, 0, 1] = st0 := by kernel_rfl
theorem TabNone {W w : World} {e : Ending} (h : TabPost W 0 [] e w) : Below W.heap.size W w ∧ ∃ p q, e = .returned (.tuple #[.pointer (some ⟨p, 0, none⟩), .pointer (some ⟨q, 0, none⟩), .bool true]) ∧ Ps.Tb w W.heap.size p [] := by
  obtain ⟨hb, ⟨_, _, p, q, he, ht⟩ | ⟨h, _⟩⟩ := h
  · exact ⟨hb, p, q, he, ht⟩
  · exact absurd ⟨by decide, rfl⟩ h
end Cn
end Go.Proofs.YtgljicdpcapgnaaDoor
set_option linter.unusedVariables false
set_option linter.unusedSimpArgs false
namespace Go.Proofs.YtgljicdpcapgnaaDoor
open Go.RowKit Go.Proofs.YtgljicdpcapgnaaDoor.PBase Go.Proofs.YtgljicdpcapgnaaDoorW.PrintWords Go.Proofs.YtgljicdpcapgnaaDoorW.PrintLast Go.Proofs.YtgljicdpcapgnaaDoorW.PrintMore
namespace Cn
theorem reps_u8 {W : World} {base : Nat} {ok : Nat → Prop} : ∀ xs : List Int, Reps ((Kd.int .u8).M W base ok) 1 xs (xs.map (Value.int .u8))
  | [] => Reps.none _ _
  | x :: xs => Reps.one rfl (reps_u8 xs)
theorem R_new (w : World) (xs : List Int) (hm : xs.length ≤ 100000) {ok : Nat → Prop} (hok : ok w.heap.size) : Kd.R (Kd.int .u8) 5 (w.alloc (.cells (xs.map (Value.int .u8)).toArray 5)) 0 ok (.slice (some ⟨w.heap.size, 0, none⟩) xs.length xs.length) xs := by
  refine ⟨fun k hk => ?_, xs.map (Value.int .u8), ?_, reps_u8 xs⟩
  · have : w.heap.size = k := by simpa [Value.ownBlock] using hk
    subst this
    exact hok
  · have h2 := World.ownsRow_lit (base := 0) (e := 5) (size := 1) w (xs.map (Value.int .u8)).toArray xs.length (Nat.zero_le _) (by have : maxLen = 9223372036854775807 ∨ 100000 ≤ maxLen := .inr (by decide); omega) (by simp)
    show World.ownsRow _ 0 5 1 _ _ _
    simpa using h2
def opt (k m : Int) : List Int := [73, 72, 65, 86, 69, 79, 80, 84, k / 16777216 % 256, k / 65536 % 256, k / 256 % 256, k % 256, 0, 0, 0, m]
theorem num4 (a b c d : Int) : Wi.num [a, b, c, d] = ((a * 256 + b) * 256 + c) * 256 + d := by simp [Wi.num]
theorem nx_opt (k : Int) (d more : List Int) (hk : 0 ≤ k ∧ k < 4294967296) (hd : d.length ≤ 255) : Gr.nx (opt k d.length ++ (d ++ more)) = (k, d, 16 + (d.length : Int), 0) := by
  have e1 : (opt k d.length ++ (d ++ more)).take 8 = [73, 72, 65, 86, 69, 79, 80, 84] := rfl
  have e2 : ((opt k d.length ++ (d ++ more)).drop 8).take 4 = [k / 16777216 % 256, k / 65536 % 256, k / 256 % 256, k % 256] := rfl
  have e3 : ((opt k d.length ++ (d ++ more)).drop 12).take 4 = [0, 0, 0, (d.length : Int)] := rfl
  have e4 : (opt k d.length ++ (d ++ more)).drop 16 = d ++ more := rfl
  have e5 : (opt k d.length ++ (d ++ more)).length = 16 + (d.length + more.length) := by rw [List.length_append, List.length_append]; rfl
  unfold Gr.nx
  rw [e1, e2, e3, e4, num4, num4, if_neg (by rw [e5]; omega), if_neg (fun h => h (by decide)), if_neg (by omega), if_neg (by rw [e5]; omega)]
  refine Prod.ext ?_ (Prod.ext ?_ (Prod.ext ?_ rfl))
  · show ((k / 16777216 % 256 * 256 + k / 65536 % 256) * 256 + k / 256 % 256) * 256 + k % 256 = k
    omega
  · show (d ++ more).take (((0 * 256 + 0) * 256 + 0) * 256 + (d.length : Int)).toNat = d
    rw [show ((((0 : Int) * 256 + 0) * 256 + 0) * 256 + (d.length : Int)).toNat = d.length from by omega]
    exact List.take_left' rfl
  · show 16 + ((((0 : Int) * 256 + 0) * 256 + 0) * 256 + (d.length : Int)) = 16 + (d.length : Int)
    omega
theorem rep_is (o k : Int) : rep o k [] = [0, 3, 232, 137, 4, 85, 101, 169, o / 16777216 % 256, o / 65536 % 256, o / 256 % 256, o % 256, k / 16777216 % 256, k / 65536 % 256, k / 256 % 256, k % 256, 0, 0, 0, 0] := by
  have e : ∀ v : Int, Wi.be v 4 = [v / 16777216 % 256, v / 65536 % 256, v / 256 % 256, v % 256] := fun v => by
    show [v / 256 ^ 3 % 256, v / 256 ^ 2 % 256, v / 256 ^ 1 % 256, v / 256 ^ 0 % 256] = _
    rw [show (256 : Int) ^ 3 = 16777216 from by decide, show (256 : Int) ^ 2 = 65536 from by decide, show (256 : Int) ^ 1 = 256 from by decide, show (256 : Int) ^ 0 = 1 from by decide, Int.ediv_one]
  have e8 : Wi.be 1100100111001001 8 = [0, 3, 232, 137, 4, 85, 101, 169] := by decide
  have e0 : Wi.be 0 4 = [0, 0, 0, 0] := by decide
  unfold rep
  show Wi.be 1100100111001001 8 ++ (Wi.be o 4 ++ (Wi.be k 4 ++ (Wi.be ((0 : Nat) : Int) 4 ++ []))) ++ [] = _
  rw [e8, e o, e k, show ((0 : Nat) : Int) = 0 from rfl, e0]
  rfl
def kindOf (k : Int) (d : List Int) : Int :=
  if k = 3 then (if 0 < d.length then 2147483651 else 1)
  else if k = 6 ∨ k = 7 then (if (Gr.ak d).2.2 ≠ 0 then refused (Gr.ak d).2.2 else refused (Ps.check [] (Gr.ak d).1).2)
  else 2147483649
theorem check_bare (s : ByteArray) : (Ps.check [] s).2 = 50 ∨ (Ps.check [] s).2 = 51 := by
  unfold Ps.check
  split
  · exact .inr rfl
  · exact .inl rfl
theorem ak_code (d : List Int) : (Gr.ak d).2.2 = 74 ∨ (Gr.ak d).2.2 = 0 := by
  unfold Gr.ak
  repeat' split
  all_goals first
    | exact .inl rfl
    | exact .inr rfl
theorem kind_67 (k : Int) (d : List Int) (h : k = 6 ∨ k = 7) : kindOf k d = 2147483651 ∨ kindOf k d = 2147483654 := by
  unfold kindOf
  rw [if_neg (by omega), if_pos h]
  rcases ak_code d with e | e
  · rw [e]; exact .inl rfl
  · rw [e, if_neg (fun h => h rfl)]
    rcases check_bare (Gr.ak d).1 with e' | e' <;> (rw [e']; exact .inr rfl)
theorem kind_range (k : Int) (d : List Int) : 0 ≤ kindOf k d ∧ kindOf k d < 4294967296 := by
  by_cases h : k = 6 ∨ k = 7
  · rcases kind_67 k d h with e | e <;> (rw [e]; decide)
  · unfold kindOf
    rw [if_neg h]
    split
    · split <;> decide
    · decide
theorem option_bare (c : St) (k : Int) (d : List Int) (h1 : k ≠ 1) (h2 : k ≠ 2) : option [] c k d = say c k (kindOf k d) [] := by
  unfold option kindOf
  rw [if_neg h2]
  by_cases h3 : k = 3
  · rw [if_pos h3, if_pos h3]
  · rw [if_neg h3, if_neg h3, if_neg h1]
    by_cases h6 : k = 6 ∨ k = 7
    · rw [if_pos h6, if_pos h6]
      unfold asked
      by_cases he : (Gr.ak d).2.2 ≠ 0
      · rw [if_pos he, if_pos he]
      · rw [if_neg he, if_neg he, if_pos]
        rcases check_bare (Gr.ak d).1 with e | e <;> (rw [e]; decide)
    · rw [if_neg h6, if_neg h6]
theorem step_opt (l : List Ps.Tn) (c : St) (k : Int) (d more : List Int) (hs : c.st = 2) (hk : 0 ≤ k ∧ k < 4294967296) (hd : d.length ≤ 255) (hc : c.kept = opt k d.length ++ (d ++ more)) : step l c = (16 + (d.length : Int), 0, option l c k d) := by
  unfold step
  rw [if_neg (by rw [hs]; decide), if_pos hs, hc, nx_opt k d more hk hd]
  rfl
theorem nx_nil : Gr.nx [] = (0, [], 0, 70) := rfl
theorem read_bare (l : List Ps.Tn) (c : St) (h : Ok c) (hs : c.st = 2) (hk : c.kept = []) : read l c = c := by
  have e : step l c = (0, 70, c) := by
    unfold step
    rw [if_neg (by rw [hs]; decide), if_pos hs, hk, nx_nil]
    rfl
  rw [read_step l c h, e]
  rfl
theorem opt_len (k m : Int) : (opt k m).length = 16 := rfl
theorem opt_bytes (k m : Int) (hm : 0 ≤ m ∧ m ≤ 255) : Sh.Bytes (opt k m) := by
  intro x hx
  simp only [opt, List.mem_cons, List.not_mem_nil, or_false] at hx
  omega
theorem feed_bare (c : St) (k : Int) (d : List Int) (h : Ok c) (hs : c.st = 2) (hc : c.kept = []) (hk : 0 ≤ k ∧ k < 4294967296) (h1 : k ≠ 1) (h2 : k ≠ 2) (hd : d.length ≤ 255) (hb : Sh.Bytes d) : feed [] c (opt k d.length ++ d) = { c with send := c.send ++ rep k (kindOf k d) [] } := by
  have hl : (opt k d.length ++ d).length = 16 + d.length := by rw [List.length_append, opt_len]
  have hok : Ok { c with kept := opt k d.length ++ d } := ⟨(fun x hx => (List.mem_append.1 hx).elim (opt_bytes k _ (by omega) x) (hb x)), by show (opt k d.length ++ d).length ≤ _; omega, h.rs_, h.blk_⟩
  unfold feed
  rw [if_neg (by rw [hs]; decide), if_neg (by rw [hl, hc, List.length_nil]; omega), hc, List.nil_append]
  have e := step_opt [] { c with kept := opt k d.length ++ d } k d [] hs hk hd (by rw [List.append_nil])
  rw [option_bare _ k d h1 h2] at e
  have en : nextSt [] { c with kept := opt k d.length ++ d } = { c with send := c.send ++ rep k (kindOf k d) [] } := by
    unfold nextSt
    rw [e]
    show ({ c with send := c.send ++ rep k (kindOf k d) [], kept := (opt k d.length ++ d).drop (16 + (d.length : Int)).toNat } : St) = _
    rw [List.drop_of_length_le (by rw [hl]; omega), ← hc]
  have hok2 : Ok { c with send := c.send ++ rep k (kindOf k d) [] } := ⟨h.by_, h.len, h.rs_, h.blk_⟩
  rw [read_step [] _ hok, en, read_bare [] _ hok2 hs hc, e]
  rw [if_neg (by show ¬((0 : Int) = 70 ∨ (0 : Int) = 80); decide), if_pos rfl, if_neg (by show c.st ≠ 4; rw [hs]; decide)]
  simp only [hc]
end Cn
end Go.Proofs.YtgljicdpcapgnaaDoor
set_option linter.unusedVariables false
set_option linter.unusedSimpArgs false
namespace Go.Proofs.YtgljicdpcapgnaaDoor
open Go.RowKit Go.Proofs.YtgljicdpcapgnaaDoor.PBase Go.Proofs.YtgljicdpcapgnaaDoorW.PrintWords Go.Proofs.YtgljicdpcapgnaaDoorW.PrintLast Go.Proofs.YtgljicdpcapgnaaDoorW.PrintMore
namespace Cn
def Lite (l : List Ps.Tn) (n : Nat) (ls : Nat → Nat) : Prop := Ps.few l = true ∧ n ≤ 60 ∧ ∀ i, i < n → ls i ≤ 3000
end Cn
set_option maxHeartbeats 4000000 in
set_option maxRecDepth 100000 in
theorem heavyc_.calls {W : World} {A0 A1 : Option Addr} {n0 c0 n c : Nat} {l : List Ps.Tn} {ls : Nat → Nat} (h0 : Ps.kTn.C W A0 l.length l) (hn0 : l.length = n0) (hc0 : n0 ≤ c0) (h1 : 0 < n → ∃ ad, A1 = some ad ∧ ∀ i : Nat, i < n → ∃ A c, W.cell? ⟨(ad.add (i * 4)).block, (ad.add (i * 4)).off + 1, none⟩ = some (.slice A (ls i) c)) :
  Calls Tryd.prog 14 #[.slice A0 n0 c0, .slice A1 n c] W fun e w' => ∃ b, e = .returned (.bool b) ∧ (b = false → Cn.Lite l n ls) ∧ Below W.heap.size W w' := by
 obtain ⟨fw, HFW⟩ : ∃ b, Aside0 (Ps.few l = b) := ⟨_, ⟨rfl⟩⟩
 have H1 := Aside0.mk h1
 have H0 := Aside0.mk h0
 have HN0 := Aside0.mk hn0
 have HC0 := Aside0.mk hc0
 clear h0 hn0 hc0 h1
 go_enter Tryd.func14, Tryd.ntmps14
 go_wp2_with fail
 refine (Ps.tenants_ H0.out HN0.out HC0.out HFW.out).mono ?_
 rintro e w1 ⟨rfl, hb1⟩
 have HB1 := Aside0.mk hb1
 clear hb1
 cases fw with
 | false =>
  go_wp2_with fail
  go_ret
  exact ⟨true, rfl, (fun h => by cases h), HB1.out⟩
 | true =>
 by_cases h60 : (n : Int) > 60
 ·go_wp2_with fail
  go_ret
  exact ⟨true, rfl, (fun h => by cases h), HB1.out⟩
 have HN60 : Aside0 (n ≤ 60) := ⟨by omega⟩
 go_wp2_with fail
 clear h60
 go_loopw [6] (fun ix wr => ∃ i : Nat, ix = .int .i64 i ∧ i ≤ n ∧ Aside0 (∀ j, j < i → ls j ≤ 3000) ∧ Aside0 (Below W.heap.size W wr)) (fun ix _ => n - (intOf ix).toNat)
 case atStart => exact ⟨0, rfl, Nat.zero_le _, ⟨fun j hj => absurd hj (Nat.not_lt_zero _)⟩, HB1⟩
 case round =>
  clear HB1
  obtain ⟨i, rfl, hi, HL, HB⟩ := hrel
  by_cases hlt : i < n
  ·have hltI : (i : Int) < n := by omega
   have hi60 : (i : Int) < 60 := by have := HN60.out; omega
   obtain ⟨ad, hA, hh⟩ := H1.out (by omega)
   subst hA
   obtain ⟨Ai, ci, hx⟩ := hh i hlt
   have hcell := (HB.out.cell (World.block_lt_of_cell? _ _ hx)).trans hx
   obtain ⟨q, HQ⟩ : ∃ q, Aside0 (ls i = q) := ⟨_, ⟨rfl⟩⟩
   rw [HQ.out] at hcell
   clear hh hx
   by_cases h3 : (q : Int) > 3000
   ·go_wp2_with fail
    go_ret
    exact ⟨true, rfl, (fun h => by cases h), HB.out⟩
   ·have HQ3 : Aside0 (q ≤ 3000) := ⟨by omega⟩
    go_wp2_with fail
    exact ⟨⟨i + 1, by simp, by omega, ⟨fun j hj => by
     rcases Nat.lt_or_ge j i with h | h
     ·exact HL.out j h
     ·obtain rfl : j = i := by omega
      rw [HQ.out]; exact HQ3.out⟩, HB⟩, by simp [intOf]; omega⟩
  ·obtain rfl : n = i := by omega
   go_wp2_with fail
   go_ret
   exact ⟨false, rfl, fun _ => ⟨HFW.out, HN60.out, HL.out⟩, HB.out⟩
end Go.Proofs.YtgljicdpcapgnaaDoor
