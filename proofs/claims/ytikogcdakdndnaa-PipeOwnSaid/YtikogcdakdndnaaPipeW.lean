/- A pipe's block, what it holds; New, Full, Len, Clear, lent. -/
import Derived.Test.YtikogcdakdndnaaWk
import Derived.Test.YtikogcdakdndnaaOpenR
import Derived.Test.YtikogcdakdndnaaClone
import Derived.Test.YtikogcdakdndnaaWMore
import Derived.Outline
set_option linter.unusedVariables false
set_option linter.unusedSimpArgs false
namespace Go.Proofs.Ytikogcdakdndnaa
open Go.RowKit Go.Proofs.YtikogcdakdndnaaW.PrintWords Go.Proofs.YtikogcdakdndnaaW.PrintLast Go.Proofs.YtikogcdakdndnaaW.PrintMore
namespace Pi
/-- a request's cells -/
def rqc (x1 x2 x3 x4 x5 : Int) (v : Value) : List Value := [.int .u16 x1, .int .u16 x2, .int .u64 x3, .int .u64 x4, .int .u32 x5, v]
def zrq : List Value := rqc 0 0 0 0 0 (.slice none 0 0)
/-- an empty pipe's cells -/
def zeros : List Value := (List.replicate 16 zrq).flatten ++ [.int .i64 0]
theorem zeros_len : zeros.length = 97 := by decide
theorem zero49 (W : World) : (zeroValue 49).run Try.prog W = .ok (.agg zeros.toArray) W := by kernel_rfl
theorem size33 : (Try.prog.info? 33).map (·.size) = some 6 := by kernel_rfl
theorem size49 : (Try.prog.info? 49).map (·.size) = some 97 := by kernel_rfl
theorem size31 : (Try.prog.info? 31).map (·.size) = some 1 := by kernel_rfl
theorem size22 : (Try.prog.info? 22).map (·.size) = some 1 := by kernel_rfl
theorem size3 : (Try.prog.info? 3).map (·.size) = some 1 := by kernel_rfl
/-- block g is a pipe with these requests -/
structure Pp (W : World) (base : Nat) (ok : Nat → Prop) (g : Nat) (rs : List Rq) : Prop where mk_ ::
  out : ∃ cs : List Value, Wk.Blk W g 49 cs ∧ base ≤ g ∧ cs.length = 97 ∧ rs.length ≤ 16 ∧ cs[96]? = some (.int .i64 rs.length) ∧ Reps (kRq.M W base ok) 6 rs (cs.take (6 * rs.length))
theorem kRq_E : ∀ q, q ∈ kRq.E → q ≠ 49 := by decide
theorem kRq_sz : kRq.sz = 6 := rfl
section
variable {W W' : World} {base : Nat} {ok ok' : Nat → Prop} {g : Nat} {rs : List Rq}
theorem Pp.below (h : Pp W base ok g rs) (hb : Below W.heap.size W W') : Pp W' base ok g rs := by
  obtain ⟨cs, h1, h2, h3, h4, h5, h6⟩ := h.out
  exact ⟨cs, h1.below_ hb, h2, h3, h4, h5, h6.imp_ (fun _ _ hp => Kd.M_below hp hb)⟩
theorem Pp.mono (h : Pp W base ok g rs) (ho : ∀ k, ok k → ok' k) : Pp W base ok' g rs := by
  obtain ⟨cs, h1, h2, h3, h4, h5, h6⟩ := h.out
  exact ⟨cs, h1, h2, h3, h4, h5, h6.imp_ (fun _ _ hp => kRq.M_mono ho hp)⟩
theorem Pp.bound (h : Pp W base ok g rs) : Pp W base (fun k => ok k ∧ base ≤ k ∧ k < W.heap.size) g rs := by
  obtain ⟨cs, h1, h2, h3, h4, h5, h6⟩ := h.out
  exact ⟨cs, h1, h2, h3, h4, h5, h6.imp_ (fun _ _ hp => kRq.M_mono (fun k hk => ⟨hk.1, hk.2.1, hk.2.2.1⟩) (kRq.M_bound hp))⟩
theorem Pp.grown (h : Pp W base ok g rs) {row : Option Nat} (hg : W.grownBy W' row) (hne : some g ≠ row) (ho : ∀ k, ok k → some k ≠ row) : Pp W' base ok g rs := by
  obtain ⟨cs, h1, h2, h3, h4, h5, h6⟩ := h.out
  exact ⟨cs, h1.grown hg hne, h2, h3, h4, h5, h6.imp_ (fun _ _ hp => Kd.M_grown hp hg ho)⟩
theorem Pp.lower {base' : Nat} (h : Pp W base ok g rs) (hb : base' ≤ base) : Pp W base' ok g rs := by
  obtain ⟨cs, h1, h2, h3, h4, h5, h6⟩ := h.out
  exact ⟨cs, h1, by omega, h3, h4, h5, h6.imp_ (fun _ _ hp => kRq.M_lower hb hp)⟩
theorem Pp.lt (h : Pp W base ok g rs) : g < W.heap.size := by
  obtain ⟨cs, h1, _⟩ := h.out
  exact h1.lt
theorem Pp.cell (h : Pp W base ok g rs) : W.cell? ⟨g, 96, none⟩ = some (.int .i64 rs.length) := by
  obtain ⟨cs, h1, _, _, _, h5, _⟩ := h.out
  exact h1.at_ 96 h5
theorem Pp.le (h : Pp W base ok g rs) : rs.length ≤ 16 := by
  obtain ⟨cs, _, _, _, h4, _⟩ := h.out
  exact h4
theorem Pp.base_ (h : Pp W base ok g rs) : base ≤ g := by
  obtain ⟨cs, _, h2, _⟩ := h.out
  exact h2
end
theorem M_only {w w' : World} {base : Nat} {ok : Nat → Prop} {x : Rq} {cs zs : List Value} {g : Nat} (h : kRq.M w base ok x cs) (hb : Wk.Blk w g 49 zs) (hO : Wk.Only w w' g) : kRq.M w' base ok x cs :=
  kRq.M_mono (fun _ hk => hk.1) (Kd.M_grown (Kd.M_types h hb.out kRq_E) hO.grown (fun k hk he => hk.2 (by injection he)))
theorem M_fresh {w : World} {base B : Nat} {ok : Nat → Prop} {x : Rq} {cs : List Value} (h : kRq.M w B (fun _ => True) x cs) (hb : base ≤ B) (ho : ∀ k, B ≤ k → ok k) : kRq.M w base ok x cs :=
  kRq.M_lower hb (kRq.M_mono (fun k hk => ho k hk.2.1) (kRq.M_bound h))
open Wk (over)
theorem over_len (zs : List Value) (off : Nat) (vs : List Value) (h : off + vs.length ≤ zs.length) : (over zs off vs).length = zs.length := by unfold over; simp; omega
theorem over_hi (zs : List Value) (off : Nat) (vs : List Value) (h : off + vs.length ≤ zs.length) (i : Nat) (hi : off + vs.length ≤ i) : (over zs off vs)[i]? = zs[i]? := by
  unfold over
  rw [List.getElem?_append_right (by simp; omega), List.getElem?_drop]
  congr 1
  simp
  omega
theorem over_take (zs : List Value) (off : Nat) (vs : List Value) (i : Nat) (h : off ≤ zs.length) (hi : i ≤ off) : (over zs off vs).take i = zs.take i := by
  unfold over
  rw [List.append_assoc, List.take_append_of_le_length (by simp; omega), List.take_take, Nat.min_eq_left hi]
theorem over_upto (zs : List Value) (off : Nat) (vs : List Value) (h : off ≤ zs.length) : (over zs off vs).take (off + vs.length) = zs.take off ++ vs := by
  unfold over
  rw [List.take_append_of_le_length (by simp; omega), List.take_of_length_le (by simp; omega)]
theorem over_at (zs : List Value) (off : Nat) (v : Value) (h : off < zs.length) : (over zs off [v])[off]? = some v := by
  unfold over
  rw [List.append_assoc, List.getElem?_append_right (by simp; omega)]
  simp [Nat.min_eq_left (Nat.le_of_lt h)]
/-- a request's cells, made -/
theorem rq_M {w : World} {base : Nat} {ok : Nat → Prop} {fl kd ck off len : Int} {data : List Int} {v : Value} (h : Kd.R (Kd.int .u8) 5 w base ok v data) : kRq.M w base ok (fl, kd, ck, off, len, data) (rqc fl kd ck off len v) :=
  ⟨[_], [_, _, _, _, _], rfl, rfl, [_], [_, _, _, _], rfl, rfl, [_], [_, _, _], rfl, rfl, [_], [_, _], rfl, rfl, [_], [_], rfl, rfl, v, rfl, h⟩
theorem rq_Mc {w : World} {base : Nat} {ok : Nat → Prop} {r : Rq} {cs : List Value} (h : kRq.M w base ok r cs) : ∃ v, cs = rqc r.1 r.2.1 r.2.2.1 r.2.2.2.1 r.2.2.2.2.1 v ∧ Kd.R (Kd.int .u8) 5 w base ok v r.2.2.2.2.2 := by
  obtain ⟨_, _, rfl, rfl, _, _, rfl, rfl, _, _, rfl, rfl, _, _, rfl, rfl, _, _, rfl, rfl, v, rfl, hR⟩ := h
  exact ⟨v, rfl, hR⟩
end Pi
set_option maxHeartbeats 1000000 in
set_option maxRecDepth 100000 in
theorem new_.calls (ok : Nat → Prop) (w : World) : Calls Try.prog 8 #[] w fun e w' => e = .returned (.pointer (some ⟨w.heap.size, 0, none⟩)) ∧ Pi.Pp w' w.heap.size ok w.heap.size [] ∧ Below w.heap.size w w' := by
  obtain ⟨Z, HZ⟩ : ∃ Z : Array Value, Aside0 (Pi.zeros.toArray = Z) := ⟨_, ⟨rfl⟩⟩
  have hz : ∀ W : World, (zeroValue 49).run Try.prog W = .ok (.agg Z) W := fun W => by rw [← HZ.out]; exact Pi.zero49 W
  go_enter Try.func8, Try.ntmps8
  go_wp2_with fail
  go_ret
  refine ⟨rfl, ⟨Pi.zeros, ⟨?_⟩, Nat.le_refl _, Pi.zeros_len, by simp, rfl, Reps.none _ _⟩, (Below.refl _ _).alloc (Nat.le_refl _) _⟩
  rw [HZ.out]
  exact heap_alloc_new w _
#print axioms new_.calls
theorem len_.calls {W : World} {base : Nat} {ok : Nat → Prop} {g : Nat} {rs : List Rq} (h : Pi.Pp W base ok g rs) : Calls Try.prog 18 #[.pointer (some ⟨g, 0, none⟩)] W fun e w' => e = .returned (.int .i64 rs.length) ∧ W = w' := by
  have hc := h.cell
  obtain ⟨n, HN⟩ : ∃ n, Aside0 (rs.length = n) := ⟨_, ⟨rfl⟩⟩
  rw [HN.out] at hc ⊢
  clear h
  go_enter Try.func18, Try.ntmps18
  go_wp2_with fail
  go_ret
  exact ⟨rfl, rfl⟩
theorem full_.calls {W : World} {base : Nat} {ok : Nat → Prop} {g : Nat} {rs : List Rq} (h : Pi.Pp W base ok g rs) : Calls Try.prog 19 #[.pointer (some ⟨g, 0, none⟩)] W fun e w' => e = .returned (.bool (decide (rs.length = 16))) ∧ W = w' := by
  have hc := h.cell
  obtain ⟨n, HN⟩ : ∃ n, Aside0 (rs.length = n) := ⟨_, ⟨rfl⟩⟩
  rw [HN.out] at hc ⊢
  clear h
  by_cases hn : n = 16
  · subst hn
    go_enter Try.func19, Try.ntmps19
    go_wp2_with fail
    go_ret
    exact ⟨rfl, rfl⟩
  · have hb : ((n : Int) == 16) = false := by simp; omega
    have HD : Aside0 (decide (n = 16) = false) := ⟨decide_eq_false hn⟩
    clear hn
    go_enter Try.func19, Try.ntmps19
    go_wp2_with fail
    go_ret
    exact ⟨by rw [HD.out]; rfl, rfl⟩
set_option maxHeartbeats 1000000 in
set_option maxRecDepth 100000 in
theorem clear_.calls {W : World} {base : Nat} {ok : Nat → Prop} {g : Nat} {rs : List Rq} (h : Pi.Pp W base ok g rs) (ok' : Nat → Prop) : Calls Try.prog 20 #[.pointer (some ⟨g, 0, none⟩)] W fun e w' => e = .returned (.tuple #[]) ∧ Pi.Pp w' base ok' g [] ∧ Wk.Only W w' g := by
  obtain ⟨cs, h1, h2, h3, _⟩ := h.out
  obtain ⟨Z, HZ⟩ : ∃ Z : List Value, Aside0 (Pi.zeros = Z) := ⟨_, ⟨rfl⟩⟩
  have hz : ∀ W : World, (zeroValue 49).run Try.prog W = .ok (.agg Z.toArray) W := fun W => by rw [← HZ.out]; exact Pi.zero49 W
  have HB := Aside0.mk h1
  have HL : Aside0 ((Try.prog.info? 49).map (·.size) = some Z.length ∧ Z.length = cs.length ∧ Z.all (·.oneCell') = true) := ⟨by rw [← HZ.out, Pi.zeros_len, h3]; exact ⟨Pi.size49, rfl, by decide⟩⟩
  have H2 := Aside0.mk h2
  clear h1 h h2
  go_enter Try.func20, Try.ntmps20
  go_wp2_with (refine Wk.store_all rfl rfl 49 (.tmp 4) (.tmp 3) rfl g Z rfl rfl 49 _ HB.out HL.out.1 HL.out.2.1 HL.out.2.2 ?_; intro w3 hX hO; have HX := Aside0.mk hX; have HO := Aside0.mk hO; clear hX hO)
  go_end0
  refine ⟨rfl, ⟨Z, HX.out, H2.out, by rw [← HZ.out]; exact Pi.zeros_len, by simp, by rw [← HZ.out]; rfl, Reps.none _ _⟩, HO.out⟩
#print axioms clear_.calls
set_option maxHeartbeats 1000000 in
set_option maxRecDepth 100000 in
theorem lent_.calls {W : World} {r : Rq} {cs : List Value} (h : kRq.K W r cs) (hl : r.2.2.2.2.2.length < 140737488355328) : Calls Try.prog 25 #[.agg cs.toArray] W fun e w' => ∃ cs', e = .returned (.agg cs'.toArray) ∧ kRq.M w' W.heap.size (fun _ => True) r cs' ∧ Below W.heap.size W w' := by
  obtain ⟨A, c, rfl, hlc, hC⟩ := rq_cells h
  obtain ⟨fl, kd, ck, off, len, data⟩ := r
  change data.length ≤ c at hlc
  change data.length < _ at hl
  have HC := Aside0.mk (show Kd.C (Kd.int .u8) W A data.length data from hC)
  clear h hC
  obtain ⟨n, HN⟩ : ∃ n, Aside0 (data.length = n) := ⟨_, ⟨rfl⟩⟩
  rw [HN.out] at hlc hl
  show Calls _ _ #[.agg #[.int .u16 fl, .int .u16 kd, .int .u64 ck, .int .u64 off, .int .u32 len, .slice A data.length c]] _ _
  rw [HN.out]
  have HL := Aside0.mk hl
  clear hl
  go_enter Try.func25, Try.ntmps25
  go_wp2_with fail
  generalize hWq : World.alloc (World.alloc W _) _ = W0
  have HB0 : Aside0 (Below W.heap.size W W0) := ⟨by rw [← hWq]; exact below_alloc (below_alloc (Below.refl _ _) _) _⟩
  have HX0 : Aside0 (Wk.Blk W0 W.heap.size 33 (Pi.rqc fl kd ck off len (.slice A n c))) := ⟨by rw [← hWq]; exact (Wk.Blk.new W _ (Pi.rqc fl kd ck off len (.slice A n c))).alloc _⟩
  have HY0 : Aside0 (Wk.Blk W0 (W.heap.size + 1) 33 Pi.zrq) := ⟨by rw [← hWq]; exact ⟨heap_alloc2_new W _ _⟩⟩
  clear hWq
  have HF : Aside0 (Calls Try.prog 27 #[.slice A n c] W0 fun e w' => ∃ v, e = .returned v ∧ Kd.R (Kd.int .u8) 5 w' W0.heap.size (fun _ => True) v data ∧ Below W0.heap.size W0 w') := ⟨by
    have := clone_.calls A c data data W0 (Kd.C_below HC.out HB0.out) (by rw [HN.out]; exact hlc) (by unfold clone_.f; rw [if_pos (by rw [HN.out]; exact HL.out)])
    rw [HN.out] at this
    exact this⟩
  refine HF.out.mono ?_
  rintro e w5 ⟨v5, rfl, rv, bv⟩
  obtain ⟨A5, c5, rfl⟩ := Kd.R_slice rv
  rw [HN.out] at rv ⊢
  have HV5 := Aside0.mk (Kd.R_lower rv HB0.out.size)
  have HX5 := Aside0.mk (HX0.out.below_ bv)
  have HY5 := Aside0.mk (HY0.out.below_ bv)
  have HB5 := Aside0.mk (below_then HB0.out HB0.out.size bv)
  have HSL := Aside0.mk Pi.size31
  have HSZ := Aside0.mk Pi.size33
  clear rv bv HF HX0 HY0
  go_wp2_with (first
    | (refine Wk.store rfl rfl 31 (.tmp 6) (.tmp 5) rfl W.heap.size 5 (.slice A5 n c5) [.slice A5 n c5] rfl rfl rfl 33 _ HX5.out HSL.out (Nat.le_of_ble_eq_true rfl) rfl ?_; intro w6 hX hO; have HX6 := Aside0.mk (show Wk.Blk w6 W.heap.size 33 (Pi.rqc fl kd ck off len (.slice A5 n c5)) from hX); have HO6 := Aside0.mk hO; have HY6 := Aside0.mk (HY5.out.only hO (Nat.ne_of_gt (Nat.lt_succ_self _))); clear hX hO)
    | refine Wk.load rfl 33 (.tmp 1) rfl (.agg (Pi.rqc fl kd ck off len (.slice A5 n c5)).toArray) (.pointer (some ⟨W.heap.size, 0, none⟩)) rfl (Wk.run_load_blk 33 W.heap.size 0 _ _ HX6.out rfl Try.underlying33 rfl HSZ.out) ?_
    | (refine Wk.store_all rfl rfl 33 (.tmp 2) (.tmp 7) rfl (W.heap.size + 1) (Pi.rqc fl kd ck off len (.slice A5 n c5)) rfl rfl 33 _ HY6.out HSZ.out rfl rfl ?_; intro w7 hX hO; have HX := Aside0.mk hX; have HO := Aside0.mk hO; clear hX hO))
  refine bodyPost_ret (Wk.res_c rfl _ (W.heap.size + 1) 33 _ _ rfl HX.out Try.underlying33 rfl HSZ.out) rfl ?_
  have hne : ∀ q, q ∈ 5 :: (Kd.int .u8).E → q ≠ 33 := by decide
  have hB6 := Wk.Only.below HB5.out HO6.out (Nat.le_refl _)
  have hR := Wk.R_only (Wk.R_only HV5.out HX5.out hne HO6.out) HY6.out hne HO.out
  exact ⟨_, rfl, Pi.rq_M hR, Wk.Only.below hB6 HO.out (Nat.le_succ _)⟩
#print axioms lent_.calls
end Go.Proofs.Ytikogcdakdndnaa
