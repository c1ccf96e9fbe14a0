/- wire.Take, its contract. -/
import Derived.Test.YtemhlinodccokaaWireT
import Derived.Test.YtemhlinodccokaaLit
import Derived.Deep.RegionHeld3
set_option linter.unusedVariables false
set_option linter.unusedSimpArgs false
namespace Go.Proofs.Ytemhlinodccokaa
open Go.RowKit Go.Proofs.YtemhlinodccokaaW.PrintWords Go.Proofs.YtemhlinodccokaaW.PrintLast

namespace Wi
section
variable {P : Program} {ops : Array Oper}
/-- a call that may end in a panic -/
theorem callp_ {oi : Oper} {N : Option Tmp} {a : Act} {w : World} {K : Act → World → Prop} {Q : Exit → Act → World → Prop} (f : FuncId) (args : Array Value) (hw : Region.wanted oi (yielded ops a.tmps) = true) (hN : oi.dst = N) (hrun : (execOp a.eval oi).run P w = .ok (.enter f args) w)
    (h : Calls P f args w fun e w' => (∃ v, e = .returned v ∧ K (a.put N v) w') ∨ ∃ c, e = .panicked c ∧ Q (.panic c) a w') : if Region.wanted oi (yielded ops a.tmps) = true then Oper.wp P oi a w K Q else K (a.put N undef) w := by
  rw [if_pos hw]
  subst hN
  unfold Oper.wp
  rw [hrun, Oper.upon_enter]
  refine h.mono fun e w'' hh => ?_
  rcases hh with ⟨v, rfl, hk⟩ | ⟨c, rfl, hk⟩
  · exact hk
  · exact hk
end
/-- what is kept until the panic goes through the door -/
def Pk (p0 p1 p2 : Value) (D : List Deferred) (W : World) : Exit → Act → World → Prop
  | .panic c, a, w' => (∃ u pv, c = [{ v := .iface u pv, recovered := false }]) ∧ a.tmps[4]? = some p0 ∧ a.tmps[5]? = some p1 ∧ a.tmps[6]? = some p2 ∧ a.defers = D ∧ w' = W
  | _, _, _ => False
theorem Pk.put {p0 p1 p2 : Value} {D : List Deferred} {W : World} {c : List PanicEntry} {a : Act} {w : World} {d : Nat} {v : Value} (hd : 6 < d) (h : Pk p0 p1 p2 D W (.panic c) (a.put (some d) v) w) : Pk p0 p1 p2 D W (.panic c) a w := by
  obtain ⟨h1, h2, h3, h4, h5, h6⟩ := h
  simp only [Act.put, Array.getElem?_setIfInBounds] at h2 h3 h4 h5
  rw [if_neg (by omega)] at h2 h3 h4
  exact ⟨h1, h2, h3, h4, h5, h6⟩
/-- the four blocks of the call's own -/
structure Own (w : World) (v : Value) (acc : List Int) (A : Option Addr) (c : Nat) (rest : List Int) (wr : World) : Prop where
  b0 : wr.heap[w.heap.size]? = some (.cells #[v] 43 (0, 0))
  b1 : wr.heap[w.heap.size + 1]? = some (.cells #[.slice none 0 0] 22 (0, 0))
  b2 : wr.heap[w.heap.size + 1 + 1]? = some (.cells #[.bool false] 4 (0, 0))
  b3 : wr.heap[w.heap.size + 1 + 1 + 1]? = some (.cells #[.slice A rest.length c] 70 (0, 0))
  r : Kd.R (Kd.int .u64) 25 wr w.heap.size (fun k => w.heap.size + 1 + 1 + 1 < k) v acc
  reads : Kd.C (Kd.int .u8) w A rest.length rest
  cap : rest.length ≤ c
  below : Below w.heap.size w wr
theorem cell0 {w : World} {b : Nat} {v : Value} {t : TypeId} (h : w.heap[b]? = some (.cells #[v] t (0, 0))) : w.cell? ⟨b, 0, none⟩ = some v := by unfold World.cell?; rw [h]; rfl
theorem frozen0 {w : World} {b : Nat} {v : Value} {t : TypeId} (h : w.heap[b]? = some (.cells #[v] t (0, 0))) : w.frozen? ⟨b, 0, none⟩ = false := by unfold World.frozen?; rw [h]; simp
theorem block_set {w : World} {b : Nat} {v u : Value} {t : TypeId} (h : w.heap[b]? = some (.cells #[v] t (0, 0))) : (w.setCell ⟨b, 0, none⟩ u).heap[b]? = some (.cells #[u] t (0, 0)) := by
  rw [heap_setCell_same w b 0 #[v] t u h]
  rfl
theorem Own.step {w : World} {v : Value} {acc : List Int} {A : Option Addr} {c : Nat} {rest : List Int} {wr : World} (h : Own w v acc A c rest wr) {wn : World} (hb : ∀ k, k < wr.heap.size → wn.heap[k]? = wr.heap[k]?) (hB : Below w.heap.size w wn) : Own w v acc A c rest wn := by
  have lt : ∀ {k : Nat} {o : Obj}, wr.heap[k]? = some o → k < wr.heap.size := fun e => (Array.getElem?_eq_some_iff.1 e).1
  exact ⟨(hb _ (lt h.b0)).trans h.b0, (hb _ (lt h.b1)).trans h.b1, (hb _ (lt h.b2)).trans h.b2, (hb _ (lt h.b3)).trans h.b3, Kd.R_step h.r (fun k _ hk => hb k hk), h.reads, h.cap, hB⟩
theorem Own.drew {w : World} {v : Value} {acc : List Int} {A : Option Addr} {c : Nat} {rest : List Int} {wr : World} (h : Own w v acc A c rest wr) : Own w v acc A c rest wr.drew := h.step (fun _ _ => rfl) (below_drew h.below)
theorem Own.cut {w : World} {v : Value} {acc : List Int} {A A' : Option Addr} {c c' n : Nat} {rest : List Int} {wr : World} (h : Own w v acc A c rest wr) (hc : Cuts A rest A' n) (h1 : (rest.drop n).length ≤ c') :
    Own w v acc A' c' (rest.drop n) (wr.setCell ⟨w.heap.size + 1 + 1 + 1, 0, none⟩ (.slice A' (rest.drop n).length c')) :=
  ⟨(Below.heap_setCell _ _ _ _ (by show w.heap.size ≠ w.heap.size + 1 + 1 + 1; omega)).trans h.b0, (Below.heap_setCell _ _ _ _ (by show w.heap.size + 1 ≠ w.heap.size + 1 + 1 + 1; omega)).trans h.b1, (Below.heap_setCell _ _ _ _ (by show w.heap.size + 1 + 1 ≠ w.heap.size + 1 + 1 + 1; omega)).trans h.b2, block_set h.b3,
    Kd.R_far (p := ⟨w.heap.size + 1 + 1 + 1, 0, none⟩) h.r (fun k hk => by show k ≠ w.heap.size + 1 + 1 + 1; omega) _, hc _ h.reads, h1, h.below.setCell (p := ⟨w.heap.size + 1 + 1 + 1, 0, none⟩) (by show w.heap.size ≤ w.heap.size + 1 + 1 + 1; omega) _⟩
theorem Own.app {w : World} {v v1 : Value} {acc acc' : List Int} {A : Option Addr} {c : Nat} {rest : List Int} {W w2 : World} (h : Own w v acc A c rest W) (hr : Kd.R (Kd.int .u64) 25 w2 w.heap.size (fun k => w.heap.size + 1 + 1 + 1 < k) v1 acc') (hb : Below w.heap.size w w2) (hg : W.grownBy w2 v.ownBlock) :
    Own w v1 acc' A c rest (w2.setCell ⟨w.heap.size, 0, none⟩ v1) ∧ w2.heap[w.heap.size]? = some (.cells #[v] 43 (0, 0)) := by
  have lt : ∀ {k : Nat} {o : Obj}, W.heap[k]? = some o → k < W.heap.size := fun e => (Array.getElem?_eq_some_iff.1 e).1
  have ne : ∀ k, k ≤ w.heap.size + 1 + 1 + 1 → some k ≠ v.ownBlock := fun k hk e => by have := h.r.1 k e.symm; omega
  have g0 := (hg.block _ (lt h.b0) (ne _ (by omega))).trans h.b0
  have g1 := (hg.block _ (lt h.b1) (ne _ (by omega))).trans h.b1
  have g2 := (hg.block _ (lt h.b2) (ne _ (by omega))).trans h.b2
  have g3 := (hg.block _ (lt h.b3) (ne _ (by omega))).trans h.b3
  exact ⟨⟨block_set g0, (Below.heap_setCell _ _ _ _ (by show w.heap.size + 1 ≠ w.heap.size; omega)).trans g1, (Below.heap_setCell _ _ _ _ (by show w.heap.size + 1 + 1 ≠ w.heap.size; omega)).trans g2, (Below.heap_setCell _ _ _ _ (by show w.heap.size + 1 + 1 + 1 ≠ w.heap.size; omega)).trans g3,
    Kd.R_far (p := ⟨w.heap.size, 0, none⟩) hr (fun k hk => by show k ≠ w.heap.size; omega) _, h.reads, h.cap, hb.setCell (p := ⟨w.heap.size, 0, none⟩) (Nat.le_refl _) _⟩, g0⟩
theorem takes_acc (b ws acc : List Int) : (takes b ws acc).2.2 = true → (takes b ws acc).1.length = acc.length + ws.length := by
  induction ws generalizing b acc with
  | nil => intro _; simp [takes]
  | cons w ws ih =>
    intro h
    unfold takes at h ⊢
    split at h
    · cases h
    · rename_i hn
      rw [if_neg hn, ih _ _ h]
      simp; omega
theorem four (h : Array Obj) (a b c d : Obj) : ((((h.push a).push b).push c).push d)[h.size]? = some a ∧ ((((h.push a).push b).push c).push d)[h.size + 1]? = some b ∧ ((((h.push a).push b).push c).push d)[h.size + 1 + 1]? = some c ∧ ((((h.push a).push b).push c).push d)[h.size + 1 + 1 + 1]? = some d := by
  refine ⟨?_, ?_, ?_, ?_⟩ <;> simp only [Array.getElem?_push, Array.size_push, if_true] <;> (repeat (first | rw [if_neg (by omega)] | rw [if_pos (by omega)]))
theorem wd_range (n : Int) : 1 ≤ wd n ∧ wd n ≤ 8 := by unfold wd; split <;> (try split) <;> (try split) <;> omega
end Wi

def wire_Take.f (l0 l1 : List Int) : Option (List Int × List Int × Bool) := if l0.length ≤ 1099511627776 ∧ l1.length ≤ 1099511627776 ∧ ∀ x ∈ l0, 0 ≤ x ∧ x ≤ 255 then some (Wi.takes l0 l1 []) else none

set_option maxHeartbeats 2000000 in
set_option maxRecDepth 100000 in
theorem wire_Take.calls (A0 : Option Addr) (c0 : Nat) (l0 : List Int) (A1 : Option Addr) (c1 : Nat) (l1 : List Int) (r1 : List Int) (r2 : List Int) (r3 : Bool) (w : World) (hr0 : Kd.C (Kd.int .u8) w A0 l0.length l0) (hc0 : l0.length ≤ c0) (hr1 : Kd.C (Kd.int .i64) w A1 l1.length l1) (hc1 : l1.length ≤ c1) (h : wire_Take.f l0 l1 = some (r1, r2, r3)) :
    Calls Try.prog 24 #[.slice A0 l0.length c0, .slice A1 l1.length c1] w fun e w' => ∃ v0_ v1_ : Value, e = .returned (.tuple #[v0_, v1_, .bool r3]) ∧ Kd.R (Kd.int .u64) 25 w' w.heap.size (fun _ => True) v0_ r1 ∧ Kd.R (Kd.int .u8) 5 w' w.heap.size (fun _ => True) v1_ r2 ∧ Below w.heap.size w w' := by
  have hmf : ∀ (fn : Fn) (first cap : Array Value) (w : World), (Instr.makeFunc fn first cap).run Try.prog w = .ok (.func fn first cap) w := fun _ _ _ _ => rfl
  have HR0 := Aside0.mk hr0
  have HR1 := Aside0.mk hr1
  clear hr0 hr1
  have HF := Aside0.mk h
  clear h
  go_enter_defers Try.func24, Try.ntmps24
  go_wp2_with fail
  have hbytes : ∀ x ∈ l0, 0 ≤ x ∧ x ≤ 255 := by
    have h := HF.out
    unfold wire_Take.f at h
    split at h
    · rename_i hc; exact hc.2.2
    · cases h
  have hlen0 : l0.length ≤ 1099511627776 := by
    have h := HF.out
    unfold wire_Take.f at h
    split at h
    · rename_i hc; exact hc.1
    · cases h
  have hlen1 : l1.length ≤ 1099511627776 := by
    have h := HF.out
    unfold wire_Take.f at h
    split at h
    · rename_i hc; exact hc.2.1
    · cases h
  have HT : Aside0 (Wi.takes l0 l1 [] = (r1, r2, r3)) := ⟨by
    have h := HF.out
    unfold wire_Take.f at h
    rw [if_pos ⟨hlen0, hlen1, hbytes⟩] at h
    exact Option.some.inj h⟩
  have HY := Aside0.mk hbytes
  clear hbytes HF
  go_loopw [16] (fun v16 wr => ∃ (k : Nat) (v : Value) (acc : List Int) (A : Option Addr) (c : Nat) (rest : List Int), v16 = .int .i64 k ∧ k ≤ l1.length ∧ Aside0 (Wi.takes rest (l1.drop k) acc = (r1, r2, r3)) ∧ Aside0 (Wi.Bytes rest) ∧ Aside0 (acc.length = k) ∧ Aside0 (rest.length ≤ l0.length) ∧ Aside0 (Wi.Own w v acc A c rest wr)) (fun i _ => l1.length - (intOf i).toNat)
  case atStart =>
    refine ⟨0, .slice none 0 0, [], A0, c0, l0, rfl, by omega, ⟨HT.out⟩, ⟨HY.out⟩, ⟨rfl⟩, ⟨Nat.le_refl _⟩, ⟨?_⟩⟩
    refine ⟨?_, ?_, ?_, ?_, Kd.R_nil _ _ _ _ _, HR0.out, hc0, ?_⟩
    · exact (Wi.four w.heap _ _ _ _).1
    · exact (Wi.four w.heap _ _ _ _).2.1
    · exact (Wi.four w.heap _ _ _ _).2.2.1
    · exact (Wi.four w.heap _ _ _ _).2.2.2
    · exact below_alloc (below_alloc (below_alloc (below_alloc (Below.refl _ _) _) _) _) _
  case round =>
    obtain ⟨k, v, acc, A, c, rest, rfl, hk, HA, HBy, HAL, HRL, HO⟩ := hrel
    by_cases hlt : k < l1.length
    · obtain ⟨ad, e, hx⟩ := Kd.at_int HR1.out k (by omega) (by omega)
      cases e
      have hx' : wr.cell? (ad.add k) = some (.int .i64 (rd l1 k)) := by simpa using (HO.out.below.cell (World.block_lt_of_cell? w _ hx)).trans hx
      clear hx
      obtain ⟨x, HX⟩ : ∃ x, Aside0 (rd l1 ↑k = x) := ⟨_, ⟨rfl⟩⟩
      rw [HX.out] at hx'
      have HD : Aside0 (l1.drop k = x :: l1.drop (k + 1)) := ⟨by rw [← HX.out, List.drop_eq_getElem_cons hlt]; simp [rd, List.getD_eq_getElem?_getD, List.getElem?_eq_getElem hlt]⟩
      go_wp2_with fail
      by_cases hs : Wi.wd x ≤ rest.length
      · refine wp_region_noPanic ?_
        have hwd := Wi.wd_range x
        obtain ⟨Av, cv, hvv⟩ := Kd.R_slice HO.out.r
        subst hvv
        refine start_ (n := 8) (S := (fun w' => w'.cell? ⟨w.heap.size, 0, none⟩ = some (.slice Av acc.length cv))) (ds := [7]) #[false, false, false, false, false, false, false, false] (by kernel_rfl) rfl rfl (Wi.cell0 HO.out.drew.b0) (fun hHeld => ?_)
        refine pure_ (i := 1) (N := (some 21)) (v := ?_) (a' := ?_) #[false, true, false, false, false, false, false, false] rfl rfl (by kernel_rfl) (fun _ _ _ h => h) (Or.inl ⟨by rfl, ?_⟩) ?_ ?_
        rotate_left
        · intro w'
          go_simp
          with_reducible rfl
        rotate_left
        · simp only [Act.put, List.setIfInBounds_toArray, List.set_cons_zero, List.set_cons_succ]
          rfl
        refine pure_ (i := 2) (N := (some 22)) (v := ?_) (a' := ?_) #[false, true, true, false, false, false, false, false] rfl rfl (by kernel_rfl) (fun _ _ _ h => h) (Or.inl ⟨by rfl, ?_⟩) ?_ ?_
        rotate_left
        · intro w'
          go_simp
          with_reducible rfl
        rotate_left
        · simp only [Act.put, List.setIfInBounds_toArray, List.set_cons_zero, List.set_cons_succ]
          rfl
        refine take_ (i := 0) (N := (some 20)) (v := ?_) (a' := ?_) #[true, true, true, false, false, false, false, false] rfl rfl (by kernel_rfl) (fun _ _ _ h => h) (Or.inl ⟨by rfl, ?_⟩) hHeld ?_ ?_
        rotate_left
        · intro w' hS'
          go_simp
          with_reducible rfl
        rotate_left
        · simp only [Act.put, List.setIfInBounds_toArray, List.set_cons_zero, List.set_cons_succ]
          rfl
        refine one_ (i := 3) (N := (some 23)) #[true, true, true, true, false, false, false, false] rfl rfl (by kernel_rfl) (by decide) (fun K hK => ?_)
        refine call_ 34 #[.int .i64 x] (by rfl) rfl (by go_simp) ?_
        refine (Wi.width_is x _).mono ?_
        rintro e w' ⟨rfl, rfl⟩
        refine ⟨_, rfl, ?_⟩
        refine hK.out _ _ hHeld (fun hHeld => ?_)
        clear hK K
        refine norm_ (a' := ?_) ?_ ?_
        rotate_left
        · show Act.put _ (some 23) _ = _
          simp only [Act.put, List.setIfInBounds_toArray, List.set_cons_zero, List.set_cons_succ]
          rfl
        refine one_ (i := 4) (N := (some 24)) #[true, true, true, true, true, false, false, false] rfl rfl (by kernel_rfl) (by decide) (fun K hK => ?_)
        refine call_ 33 #[.pointer (some ⟨w.heap.size + 1 + 1 + 1, 0, none⟩), .int .i64 (Wi.wd x)] (by rfl) rfl (by go_simp) ?_
        refine (Wi.number_long _ A c rest (Wi.wd x) hwd.2 hwd.1 _ HO.out.drew.b3 hs (Kd.C_below HO.out.reads HO.out.drew.below) HO.out.cap HBy.out).mono ?_
        rintro e w' ⟨rfl, A', c', rfl, hc1, hcut⟩
        have HO1 := Aside0.mk (HO.out.drew.cut hcut hc1)
        refine ⟨_, rfl, ?_⟩
        refine hK.out _ _ (Wi.cell0 HO1.out.b0) (fun hHeld => ?_)
        clear hK K
        refine norm_ (a' := ?_) ?_ ?_
        rotate_left
        · show Act.put _ (some 24) _ = _
          simp only [Act.put, List.setIfInBounds_toArray, List.set_cons_zero, List.set_cons_succ]
          rfl
        refine one_ (i := 5) (N := (some 25)) #[true, true, true, true, true, true, false, false] rfl rfl (by kernel_rfl) (by decide) (fun K hK => ?_)
        refine value_ (w1 := (World.setCell wr.drew ⟨w.heap.size + 1 + 1 + 1, 0, none⟩ (.slice A' (rest.drop (Wi.wd x)).length c')).alloc (.cells #[.int .u64 (Wi.num (rest.take (Wi.wd x)))] 25)) (v := .slice (some ⟨(World.setCell wr.drew ⟨w.heap.size + 1 + 1 + 1, 0, none⟩ (.slice A' (rest.drop (Wi.wd x)).length c')).heap.size, 0, none⟩) 1 1) (by rfl) rfl (by go_simp) ?_
        have HO2 := Aside0.mk (HO1.out.step (wn := (World.setCell wr.drew ⟨w.heap.size + 1 + 1 + 1, 0, none⟩ (.slice A' (rest.drop (Wi.wd x)).length c')).alloc (.cells #[.int .u64 (Wi.num (rest.take (Wi.wd x)))] 25)) (fun k hk => Below.heap_alloc _ _ _ hk) (HO1.out.below.alloc HO1.out.below.size _))
        refine hK.out _ _ (Wi.cell0 HO2.out.b0) (fun hHeld => ?_)
        clear hK K
        refine norm_ (a' := ?_) ?_ ?_
        rotate_left
        · show Act.put _ (some 25) _ = _
          simp only [Act.put, List.setIfInBounds_toArray, List.set_cons_zero, List.set_cons_succ]
          rfl
        generalize (World.setCell wr.drew ⟨w.heap.size + 1 + 1 + 1, 0, none⟩ (.slice A' (rest.drop (Wi.wd x)).length c')) = w1 at *
        refine one_ (i := 6) (N := (some 26)) #[true, true, true, true, true, true, true, false] rfl rfl (by kernel_rfl) (by decide) (fun K hK => ?_)
        refine Kd.R_append_step (Kd.int .u64) (w0 := w) (W := w1) w.heap.size (by rfl) (.tmp 20) (.tmp 25) 43 25 (.int .u64 0) 8 rfl Try.underlying43 Wi.info64 rfl (by decide) (by omega) (.slice Av acc.length cv) acc (Wi.num (rest.take (Wi.wd x))) [.int .u64 (Wi.num (rest.take (Wi.wd x)))] (fun k => w.heap.size + 1 + 1 + 1 < k) (fun _ => False) rfl rfl rfl (fun _ h => h.elim) ?hfresh HO1.out.r HO1.out.below HO1.out.below.size ?hl ?_
        case hfresh => intro k hk; have := (Array.getElem?_eq_some_iff.1 HO1.out.b3).1; omega
        case hl => have := HAL.out; omega
        intro v1 w2 hr2 hb2 hg2 _
        have HP := Aside0.mk (HO1.out.app hr2 hb2 hg2)
        obtain ⟨Av1, cv1, hv1⟩ := Kd.R_slice hr2
        subst hv1
        clear hr2 hb2 hg2
        refine hK.out _ _ (Wi.cell0 HP.out.2) (fun hHeld => ?_)
        clear hK K
        refine norm_ (a' := ?_) ?_ ?_
        rotate_left
        · show Act.put _ (some 26) _ = _
          simp only [Act.put, List.setIfInBounds_toArray, List.set_cons_zero, List.set_cons_succ]
          rfl
        refine last_ (i := 7) (N := none) #[true, true, true, true, true, true, true, true] rfl rfl (by kernel_rfl) (by decide) (fun K hK => ?_)
        have hc0' := Wi.cell0 HP.out.2
        have hf0' := Wi.frozen0 HP.out.2
        refine skip_ (w1 := w2.setCell ⟨w.heap.size, 0, none⟩ (.slice Av1 (acc ++ [Wi.num (rest.take (Wi.wd x))]).length cv1)) (by rfl) rfl (by go_simp) ?_
        clear hc0' hf0'
        refine hK.out _ _ ?_
        clear hK K
        refine done_ (by kernel_rfl) ?_
        have HQ := Aside0.mk HP.out.1
        clear hHeld HP HO1 HO2
        refine NoPanic.normal ?_
        go_wp2_with fail
        go_roundw
        case rel =>
          refine ⟨k + 1, .slice Av1 (acc ++ [Wi.num (rest.take (Wi.wd x))]).length cv1, acc ++ [Wi.num (rest.take (Wi.wd x))], A', c', rest.drop (Wi.wd x), by go_num, by omega, ⟨?_⟩, ⟨HBy.out.drop _⟩, ⟨?_⟩, ⟨?_⟩, ⟨by simpa using HQ.out⟩⟩
          · rw [← HA.out, HD.out, Wi.takes, if_neg (by omega)]
          · rw [List.length_append, HAL.out]; rfl
          · have := HRL.out; rw [List.length_drop]; omega
        case measure => simp [intOf]; omega
      · refine Code.wp_mono (Q := Wi.Pk (.pointer (some ⟨w.heap.size, 0, none⟩)) (.pointer (some ⟨w.heap.size + 1, 0, none⟩)) (.pointer (some ⟨w.heap.size + 1 + 1, 0, none⟩)) [{ target := .fn (.func 32) #[.pointer (some ⟨w.heap.size, 0, none⟩), .pointer (some ⟨w.heap.size + 1, 0, none⟩), .pointer (some ⟨w.heap.size + 1 + 1, 0, none⟩)], args := #[] }] wr.drew) ?hq ?_
        case hq =>
          intro e a' w' hp
          cases e with
          | panic ch =>
            obtain ⟨⟨u, pv, rfl⟩, p4, p5, p6, pd, rfl⟩ := hp
            have HZ : Aside0 (r1 = [] ∧ r2 = [] ∧ r3 = false) := ⟨by
              have h := HA.out
              rw [HD.out, Wi.takes, if_pos (by omega)] at h
              cases h
              exact ⟨rfl, rfl, rfl⟩⟩
            obtain ⟨e1, e2, e3⟩ := HZ.out
            subst e1; subst e2; subst e3
            have HW := Aside0.mk HO.out.drew
            have c0 := Wi.cell0 HW.out.b0
            have z0 := Wi.frozen0 HW.out.b0
            have k1 := Eq.trans (Below.heap_setCell wr.drew ⟨w.heap.size, 0, none⟩ (.slice none 0 0) (w.heap.size + 1) (by show w.heap.size + 1 ≠ w.heap.size; omega)) HW.out.b1
            have k2 := Eq.trans (Below.heap_setCell wr.drew ⟨w.heap.size, 0, none⟩ (.slice none 0 0) (w.heap.size + 1 + 1) (by show w.heap.size + 1 + 1 ≠ w.heap.size; omega)) HW.out.b2
            have k2' := Eq.trans (Below.heap_setCell (wr.drew.setCell ⟨w.heap.size, 0, none⟩ (.slice none 0 0)) ⟨w.heap.size + 1, 0, none⟩ (.slice none 0 0) (w.heap.size + 1 + 1) (by show w.heap.size + 1 + 1 ≠ w.heap.size + 1; omega)) k2
            have k0 := Wi.block_set (u := .slice none 0 0) HW.out.b0
            show Leaves _ _ a'.tmps _ a'.defers (.panicking _) _
            rw [pd]
            clear HA HR0 HR1 HT HBy HAL HRL
            refine leaves_cons (f := 32) (args := #[.pointer (some ⟨w.heap.size, 0, none⟩), .pointer (some ⟨w.heap.size + 1, 0, none⟩), .pointer (some ⟨w.heap.size + 1 + 1, 0, none⟩)]) (by simp) (by simp [go_sem]) ?_
            refine (Wi.catch_panicking ⟨w.heap.size, 0, none⟩ ⟨w.heap.size + 1, 0, none⟩ ⟨w.heap.size + 1 + 1, 0, none⟩ _ _ _ u pv [] _ c0 z0 (Wi.cell0 k1) (Wi.frozen0 k1) (Wi.cell0 k2') (Wi.frozen0 k2')).mono ?_
            rintro e' u' w' ⟨rfl, rfl, rfl⟩
            have m1 := Wi.block_set (u := .slice none 0 0) k1
            have m0 := Eq.trans (Below.heap_setCell (wr.drew.setCell ⟨w.heap.size, 0, none⟩ (.slice none 0 0)) ⟨w.heap.size + 1, 0, none⟩ (.slice none 0 0) (w.heap.size) (by show w.heap.size ≠ w.heap.size + 1; omega)) k0
            have n0 := Eq.trans (Below.heap_setCell ((wr.drew.setCell ⟨w.heap.size, 0, none⟩ (.slice none 0 0)).setCell ⟨w.heap.size + 1, 0, none⟩ (.slice none 0 0)) ⟨w.heap.size + 1 + 1, 0, none⟩ (.bool false) (w.heap.size) (by show w.heap.size ≠ w.heap.size + 1 + 1; omega)) m0
            have n1 := Eq.trans (Below.heap_setCell ((wr.drew.setCell ⟨w.heap.size, 0, none⟩ (.slice none 0 0)).setCell ⟨w.heap.size + 1, 0, none⟩ (.slice none 0 0)) ⟨w.heap.size + 1 + 1, 0, none⟩ (.bool false) (w.heap.size + 1) (by show w.heap.size + 1 ≠ w.heap.size + 1 + 1; omega)) m1
            have n2 := Wi.block_set (u := .bool false) k2'
            have d0 := Wi.cell0 n0
            have d1 := Wi.cell0 n1
            have d2 := Wi.cell0 n2
            clear c0 z0 k1 k2 k2' k0 m1 m0 n0 n1 n2
            have hB := ((HW.out.below.setCell (p := ⟨w.heap.size, 0, none⟩) (Nat.le_refl _) (.slice none 0 0)).setCell (p := ⟨w.heap.size + 1, 0, none⟩) (by show w.heap.size ≤ w.heap.size + 1; omega) (.slice none 0 0)).setCell (p := ⟨w.heap.size + 1 + 1, 0, none⟩) (by show w.heap.size ≤ w.heap.size + 1 + 1; omega) (.bool false)
            generalize ((wr.drew.setCell ⟨w.heap.size, 0, none⟩ (.slice none 0 0)).setCell ⟨w.heap.size + 1, 0, none⟩ (.slice none 0 0)).setCell ⟨w.heap.size + 1 + 1, 0, none⟩ (.bool false) = WW at d0 d1 d2 hB ⊢
            refine ⟨.tuple #[.slice none 0 0, .slice none 0 0, .bool false], by simp [results, Try.results24, go_sem, Act.eval, p4, p5, p6, d0, d1, d2], ?_⟩
            refine ⟨_, _, rfl, Kd.R_nil _ _ _ _ _, Kd.R_nil _ _ _ _ _, ?_⟩
            exact hB
          | normal => exact hp.elim
          | ret => exact hp.elim
          | exit _ => exact hp.elim
          | goto _ => exact hp.elim
          | outgrown => exact hp.elim
        have hwd := Wi.wd_range x
        obtain ⟨Av, cv, hvv⟩ := Kd.R_slice HO.out.r
        subst hvv
        refine start_ (n := 8) (S := (fun w' => w'.cell? ⟨w.heap.size, 0, none⟩ = some (.slice Av acc.length cv))) (ds := [7]) #[false, false, false, false, false, false, false, false] (by kernel_rfl) rfl rfl (Wi.cell0 HO.out.drew.b0) (fun hHeld => ?_)
        refine pure_ (i := 1) (N := (some 21)) (v := ?_) (a' := ?_) #[false, true, false, false, false, false, false, false] rfl rfl (by kernel_rfl) (fun _ _ _ h => Wi.Pk.put (by decide) h) (Or.inl ⟨by rfl, ?_⟩) ?_ ?_
        rotate_left
        · intro w'
          go_simp
          with_reducible rfl
        rotate_left
        · simp only [Act.put, List.setIfInBounds_toArray, List.set_cons_zero, List.set_cons_succ]
          rfl
        refine pure_ (i := 2) (N := (some 22)) (v := ?_) (a' := ?_) #[false, true, true, false, false, false, false, false] rfl rfl (by kernel_rfl) (fun _ _ _ h => Wi.Pk.put (by decide) h) (Or.inl ⟨by rfl, ?_⟩) ?_ ?_
        rotate_left
        · intro w'
          go_simp
          with_reducible rfl
        rotate_left
        · simp only [Act.put, List.setIfInBounds_toArray, List.set_cons_zero, List.set_cons_succ]
          rfl
        refine take_ (i := 0) (N := (some 20)) (v := ?_) (a' := ?_) #[true, true, true, false, false, false, false, false] rfl rfl (by kernel_rfl) (fun _ _ _ h => Wi.Pk.put (by decide) h) (Or.inl ⟨by rfl, ?_⟩) hHeld ?_ ?_
        rotate_left
        · intro w' hS'
          go_simp
          with_reducible rfl
        rotate_left
        · simp only [Act.put, List.setIfInBounds_toArray, List.set_cons_zero, List.set_cons_succ]
          rfl
        refine one_ (i := 3) (N := (some 23)) #[true, true, true, true, false, false, false, false] rfl rfl (by kernel_rfl) (by decide) (fun K hK => ?_)
        refine call_ 34 #[.int .i64 x] (by rfl) rfl (by go_simp) ?_
        refine (Wi.width_is x _).mono ?_
        rintro e w' ⟨rfl, rfl⟩
        refine ⟨_, rfl, ?_⟩
        refine hK.out _ _ hHeld (fun hHeld => ?_)
        clear hK K
        refine norm_ (a' := ?_) ?_ ?_
        rotate_left
        · show Act.put _ (some 23) _ = _
          simp only [Act.put, List.setIfInBounds_toArray, List.set_cons_zero, List.set_cons_succ]
          rfl
        refine one_ (i := 4) (N := (some 24)) #[true, true, true, true, true, false, false, false] rfl rfl (by kernel_rfl) (by decide) (fun K hK => ?_)
        refine Wi.callp_ 33 #[.pointer (some ⟨w.heap.size + 1 + 1 + 1, 0, none⟩), .int .i64 (Wi.wd x)] (by rfl) rfl (by go_simp) ?_
        refine (Wi.number_short _ A c rest (Wi.wd x) hwd.2 _ HO.out.drew.b3 (by omega)).mono ?_
        rintro e w' ⟨⟨u, pv, rfl⟩, rfl⟩
        exact .inr ⟨_, rfl, ⟨u, pv, rfl⟩, rfl, rfl, rfl, rfl, rfl⟩
    · go_wp2_with fail
      refine wp_region_noPanic ?_
      obtain ⟨Av, cv, hvv⟩ := Kd.R_slice HO.out.r
      subst hvv
      refine start_ (n := 9) (S := (fun w' => w'.cell? ⟨w.heap.size, 0, none⟩ = some (.slice Av acc.length cv) ∧ w'.cell? ⟨w.heap.size + 1 + 1 + 1, 0, none⟩ = some (.slice A rest.length c))) (ds := [6, 7, 8]) #[false, false, false, false, false, false, false, false, false] (by kernel_rfl) rfl rfl ⟨Wi.cell0 HO.out.drew.b0, Wi.cell0 HO.out.drew.b3⟩ (fun hHeld => ?_)
      refine take_ (i := 0) (N := (some 28)) (v := ?_) (a' := ?_) #[true, false, false, false, false, false, false, false, false] rfl rfl (by kernel_rfl) (fun _ _ _ h => h) (Or.inl ⟨by rfl, ?_⟩) hHeld ?_ ?_
      rotate_left
      · intro w' hS'
        (obtain ⟨hS0, _⟩ := hS'; go_simp)
        with_reducible rfl
      rotate_left
      · simp only [Act.put, List.setIfInBounds_toArray, List.set_cons_zero, List.set_cons_succ]
        rfl
      refine pure_ (i := 1) (N := (some 29)) (v := ?_) (a' := ?_) #[true, true, false, false, false, false, false, false, false] rfl rfl (by kernel_rfl) (fun _ _ _ h => h) (Or.inl ⟨by rfl, ?_⟩) ?_ ?_
      rotate_left
      · intro w'
        go_simp
        with_reducible rfl
      rotate_left
      · simp only [Act.put, List.setIfInBounds_toArray, List.set_cons_zero, List.set_cons_succ]
        rfl
      refine pure_ (i := 2) (N := (some 30)) (v := ?_) (a' := ?_) #[true, true, true, false, false, false, false, false, false] rfl rfl (by kernel_rfl) (fun _ _ _ h => h) (Or.inl ⟨by rfl, ?_⟩) ?_ ?_
      rotate_left
      · intro w'
        go_simp
        with_reducible rfl
      rotate_left
      · simp only [Act.put, List.setIfInBounds_toArray, List.set_cons_zero, List.set_cons_succ]
        rfl
      refine pure_ (i := 3) (N := (some 31)) (v := ?_) (a' := ?_) #[true, true, true, true, false, false, false, false, false] rfl rfl (by kernel_rfl) (fun _ _ _ h => h) (Or.inl ⟨by rfl, ?_⟩) ?_ ?_
      rotate_left
      · intro w'
        go_simp
        with_reducible rfl
      rotate_left
      · simp only [Act.put, List.setIfInBounds_toArray, List.set_cons_zero, List.set_cons_succ]
        rfl
      refine take_ (i := 4) (N := (some 32)) (v := ?_) (a' := ?_) #[true, true, true, true, true, false, false, false, false] rfl rfl (by kernel_rfl) (fun _ _ _ h => h) (Or.inl ⟨by rfl, ?_⟩) hHeld ?_ ?_
      rotate_left
      · intro w' hS'
        (obtain ⟨_, hS1⟩ := hS'; go_simp)
        with_reducible rfl
      rotate_left
      · simp only [Act.put, List.setIfInBounds_toArray, List.set_cons_zero, List.set_cons_succ]
        rfl
      refine one_ (i := 5) (N := (some 33)) #[true, true, true, true, true, true, false, false, false] rfl rfl (by kernel_rfl) (by decide) (fun K hK => ?_)
      refine call_ 26 #[.slice A rest.length c] (by rfl) rfl (by go_simp) ?_
      refine (clone_.calls A c rest rest _ (Kd.C_below HO.out.reads HO.out.drew.below) HO.out.cap (by unfold clone_.f; rw [if_pos (by have := HRL.out; omega)])).mono ?_
      rintro e w1 ⟨v1, rfl, hr1, hb1⟩
      have HO1 := Aside0.mk (HO.out.drew.step (fun k hk => hb1.block k hk) (below_then HO.out.drew.below HO.out.drew.below.size hb1))
      have HR1' := Aside0.mk hr1
      have HB1 := Aside0.mk hb1
      obtain ⟨Av1, cv1, hv1⟩ := Kd.R_slice hr1
      subst hv1
      clear hr1 hb1
      refine ⟨_, rfl, ?_⟩
      refine hK.out _ _ ⟨Wi.cell0 HO1.out.b0, Wi.cell0 HO1.out.b3⟩ (fun hHeld => ?_)
      clear hK K
      refine norm_ (a' := ?_) ?_ ?_
      rotate_left
      · show Act.put _ (some 33) _ = _
        simp only [Act.put, List.setIfInBounds_toArray, List.set_cons_zero, List.set_cons_succ]
        rfl
      have b0 := HO1.out.b0
      have b1 := HO1.out.b1
      have b2 := HO1.out.b2
      refine last_ (i := 6) (N := none) #[true, true, true, true, true, true, true, false, false] rfl rfl (by kernel_rfl) (by decide) (fun K hK => ?_)
      have hc0' := Wi.cell0 b0
      have hf0' := Wi.frozen0 b0
      refine skip_ (w1 := w1.setCell ⟨w.heap.size, 0, none⟩ (.slice Av acc.length cv)) (by rfl) rfl (by go_simp) ?_
      clear hc0' hf0'
      refine hK.out _ _ ?_
      clear hK K
      have k0 := Wi.block_set (u := .slice Av acc.length cv) b0
      have k1 := Eq.trans (Below.heap_setCell w1 ⟨w.heap.size, 0, none⟩ (.slice Av acc.length cv) (w.heap.size + 1) (by show w.heap.size + 1 ≠ w.heap.size; omega)) b1
      have k2 := Eq.trans (Below.heap_setCell w1 ⟨w.heap.size, 0, none⟩ (.slice Av acc.length cv) (w.heap.size + 1 + 1) (by show w.heap.size + 1 + 1 ≠ w.heap.size; omega)) b2
      clear b0 b1 b2
      refine last_ (i := 7) (N := none) #[true, true, true, true, true, true, true, true, false] rfl rfl (by kernel_rfl) (by decide) (fun K hK => ?_)
      have hc0' := Wi.cell0 k1
      have hf0' := Wi.frozen0 k1
      refine skip_ (w1 := (w1.setCell ⟨w.heap.size, 0, none⟩ (.slice Av acc.length cv)).setCell ⟨w.heap.size + 1, 0, none⟩ (.slice Av1 rest.length cv1)) (by rfl) rfl (by go_simp) ?_
      clear hc0' hf0'
      refine hK.out _ _ ?_
      clear hK K
      have m1 := Wi.block_set (u := .slice Av1 rest.length cv1) k1
      have m0 := Eq.trans (Below.heap_setCell (w1.setCell ⟨w.heap.size, 0, none⟩ (.slice Av acc.length cv)) ⟨w.heap.size + 1, 0, none⟩ (.slice Av1 rest.length cv1) (w.heap.size) (by show w.heap.size ≠ w.heap.size + 1; omega)) k0
      have m2 := Eq.trans (Below.heap_setCell (w1.setCell ⟨w.heap.size, 0, none⟩ (.slice Av acc.length cv)) ⟨w.heap.size + 1, 0, none⟩ (.slice Av1 rest.length cv1) (w.heap.size + 1 + 1) (by show w.heap.size + 1 + 1 ≠ w.heap.size + 1; omega)) k2
      clear k0 k1 k2
      refine last_ (i := 8) (N := none) #[true, true, true, true, true, true, true, true, true] rfl rfl (by kernel_rfl) (by decide) (fun K hK => ?_)
      have hc0' := Wi.cell0 m2
      have hf0' := Wi.frozen0 m2
      refine skip_ (w1 := ((w1.setCell ⟨w.heap.size, 0, none⟩ (.slice Av acc.length cv)).setCell ⟨w.heap.size + 1, 0, none⟩ (.slice Av1 rest.length cv1)).setCell ⟨w.heap.size + 1 + 1, 0, none⟩ (.bool true)) (by rfl) rfl (by go_simp) ?_
      clear hc0' hf0'
      refine hK.out _ _ ?_
      clear hK K
      have n0 := Eq.trans (Below.heap_setCell ((w1.setCell ⟨w.heap.size, 0, none⟩ (.slice Av acc.length cv)).setCell ⟨w.heap.size + 1, 0, none⟩ (.slice Av1 rest.length cv1)) ⟨w.heap.size + 1 + 1, 0, none⟩ (.bool true) (w.heap.size) (by show w.heap.size ≠ w.heap.size + 1 + 1; omega)) m0
      have n1 := Eq.trans (Below.heap_setCell ((w1.setCell ⟨w.heap.size, 0, none⟩ (.slice Av acc.length cv)).setCell ⟨w.heap.size + 1, 0, none⟩ (.slice Av1 rest.length cv1)) ⟨w.heap.size + 1 + 1, 0, none⟩ (.bool true) (w.heap.size + 1) (by show w.heap.size + 1 ≠ w.heap.size + 1 + 1; omega)) m1
      have n2 := Wi.block_set (u := .bool true) m2
      have d0 := Wi.cell0 n0
      have d1 := Wi.cell0 n1
      have d2 := Wi.cell0 n2
      clear m0 m1 m2 n0 n1 n2
      refine done_ (by kernel_rfl) ?_
      refine NoPanic.normal ?_
      have HRR : Aside0 (r1 = acc ∧ r2 = rest ∧ r3 = true) := ⟨by
        have h := HA.out
        rw [List.drop_eq_nil_of_le (by omega), Wi.takes] at h
        cases h
        exact ⟨rfl, rfl, rfl⟩⟩
      obtain ⟨e1, e2, e3⟩ := HRR.out
      subst e1; subst e2; subst e3
      clear HA HT HR0 HR1 HBy HAL HRL
      have hR1 : Kd.R (Kd.int .u64) 25 (((w1.setCell ⟨w.heap.size, 0, none⟩ (.slice Av r1.length cv)).setCell ⟨w.heap.size + 1, 0, none⟩ (.slice Av1 r2.length cv1)).setCell ⟨w.heap.size + 1 + 1, 0, none⟩ (.bool true)) w.heap.size (fun _ => True) (.slice Av r1.length cv) r1 := Kd.R_mono (Kd.R_far (p := ⟨w.heap.size + 1 + 1, 0, none⟩) (Kd.R_far (p := ⟨w.heap.size + 1, 0, none⟩) (Kd.R_far (p := ⟨w.heap.size, 0, none⟩) HO1.out.r (fun k hk => by show k ≠ w.heap.size; omega) _) (fun k hk => by show k ≠ w.heap.size + 1; omega) _) (fun k hk => by show k ≠ w.heap.size + 1 + 1; omega) _) (fun _ _ => trivial)
      have hl3 : w.heap.size + 1 + 1 + 1 < wr.drew.heap.size := (Array.getElem?_eq_some_iff.1 HO.out.drew.b3).1
      have hR2 : Kd.R (Kd.int .u8) 5 (((w1.setCell ⟨w.heap.size, 0, none⟩ (.slice Av r1.length cv)).setCell ⟨w.heap.size + 1, 0, none⟩ (.slice Av1 r2.length cv1)).setCell ⟨w.heap.size + 1 + 1, 0, none⟩ (.bool true)) w.heap.size (fun _ => True) (.slice Av1 r2.length cv1) r2 := Kd.R_lower (Kd.R_mono (Kd.R_far (p := ⟨w.heap.size + 1 + 1, 0, none⟩) (Kd.R_far (p := ⟨w.heap.size + 1, 0, none⟩) (Kd.R_far (p := ⟨w.heap.size, 0, none⟩) (Kd.R_bound HR1'.out) (fun k hk => by have := hk.2.1; show k ≠ w.heap.size; omega) _) (fun k hk => by have := hk.2.1; show k ≠ w.heap.size + 1; omega) _) (fun k hk => by have := hk.2.1; show k ≠ w.heap.size + 1 + 1; omega) _) (fun _ _ => trivial)) (by omega)
      have hB := ((HO1.out.below.setCell (p := ⟨w.heap.size, 0, none⟩) (Nat.le_refl _) (.slice Av r1.length cv)).setCell (p := ⟨w.heap.size + 1, 0, none⟩) (by show w.heap.size ≤ w.heap.size + 1; omega) (.slice Av1 r2.length cv1)).setCell (p := ⟨w.heap.size + 1 + 1, 0, none⟩) (by show w.heap.size ≤ w.heap.size + 1 + 1; omega) (.bool true)
      clear HO1 HB1 HR1' hHeld HO
      generalize ((w1.setCell ⟨w.heap.size, 0, none⟩ (.slice Av r1.length cv)).setCell ⟨w.heap.size + 1, 0, none⟩ (.slice Av1 r2.length cv1)).setCell ⟨w.heap.size + 1 + 1, 0, none⟩ (.bool true) = WW at d0 d1 d2 hB hR1 hR2 ⊢
      have HX1 := Aside0.mk hR1
      have HX2 := Aside0.mk hR2
      have HX3 := Aside0.mk hB
      clear hR1 hR2 hB
      go_wp2_with fail
      refine leaves_cons (f := 32) (args := #[.pointer (some ⟨w.heap.size, 0, none⟩), .pointer (some ⟨w.heap.size + 1, 0, none⟩), .pointer (some ⟨w.heap.size + 1 + 1, 0, none⟩)]) (by simp) (by simp [go_sem]) ?_
      refine (Wi.catch_idle ⟨w.heap.size, 0, none⟩ ⟨w.heap.size + 1, 0, none⟩ ⟨w.heap.size + 1 + 1, 0, none⟩ _).mono ?_
      rintro e' u' w' ⟨rfl, rfl, rfl⟩
      refine ⟨.tuple #[.slice Av r1.length cv, .slice Av1 r2.length cv1, .bool true], by simp [results, Try.results24, go_sem, Act.eval, d0, d1, d2], ?_⟩
      exact ⟨_, _, rfl, HX1.out, HX2.out, HX3.out⟩
#print axioms wire_Take.calls
end Go.Proofs.Ytemhlinodccokaa
