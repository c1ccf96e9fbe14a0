/- The contract of (*sha.Hash).Write: what one keeps who has taken bytes. -/
import Derived.Test.YthcilikinfhipaaDoorShaMix
import Derived.Laws.CopyOwn
set_option linter.unusedVariables false
set_option linter.unusedSimpArgs false
namespace Go.Proofs.YthcilikinfhipaaDoor
open Go.RowKit Go.Proofs.YthcilikinfhipaaDoorW.PrintWords Go.Proofs.YthcilikinfhipaaDoorW.PrintLast
namespace Sh
/-- the hash in block b has taken the bytes bs -/
structure Ha (w : World) (b : Nat) (bs : List Int) (rest : List Int) : Prop where
  len : rest.length = 64
  tl : rest.take (bs.length % 64) = tail bs
  by_ : Bytes rest
  h : w.heap[b]? = some (.cells (hc (state bs).list rest bs.length) 47 (0, 0))
/-- the table of numbers stands where it was laid -/
def Ks (w : World) : Prop := ∀ i, i < 64 → w.cell? ⟨0, i, none⟩ = some (.int .u32 (keys.getD i 0))
theorem Ks.far {w W : World} (h : Ks w) {hb : Nat} (hg : w.grownBy W (some hb)) (h0 : hb ≠ 0) : Ks W := fun i hi => hg.cell (h i hi) (fun e => h0 (Option.some.inj e).symm)
theorem Ks.below {w W : World} (h : Ks w) (hg : Below w.heap.size w W) : Ks W := fun i hi => (hg.cell (World.block_lt_of_cell? w _ (h i hi))).trans (h i hi)
theorem Ks.pos {w : World} (h : Ks w) : 0 < w.heap.size := World.block_lt_of_cell? w _ (h 0 (by decide))
theorem add_block (a : Addr) (j : Nat) : (a.add j).block = a.block := by unfold Addr.add; split <;> rfl
theorem add_add (a : Addr) (i j : Nat) : (a.add i).add j = a.add (i + j) := by
  by_cases hi : i = 0
  · subst hi; rw [Addr.add_zero', Nat.zero_add]
  · by_cases hj : j = 0
    · subst hj; rw [Addr.add_zero', Nat.add_zero]
    · simp [Addr.add, hi, hj, Nat.add_assoc]
theorem C_far {w W : World} {A : Option Addr} {n : Nat} {xs : List Int} (h : Kd.C (Kd.int .u8) w A n xs) {hb : Nat} (hg : w.grownBy W (some hb)) (hA : ∀ a, A = some a → a.block ≠ hb) : Kd.C (Kd.int .u8) W A n xs := by
  obtain ⟨h1, h2, h3⟩ := Kd.reads_of_C (d := (0 : Int)) h
  refine Kd.C_of_reads (d := 0) ⟨h1, h2, fun hn => ?_⟩
  obtain ⟨ad, e, hc⟩ := h3 hn
  exact ⟨ad, e, fun j hj => hg.cell (hc j hj) (fun e2 => hA ad e (by rw [← add_block ad j]; exact Option.some.inj e2))⟩
theorem hc_splice (s : V) (rest c : List Int) (n : Int) (r : Nat) (h : r + c.length ≤ rest.length) : (splice (hc s.list rest n).toList (8 + r) (c.map (Value.int .u8))) = (hc s.list (rest.take r ++ c ++ rest.drop (r + c.length)) n).toList := by
  have h8 : s.list.length = 8 := rfl
  simp only [splice, hc, List.toList_toArray, List.length_map, List.append_assoc, List.map_append]
  rw [List.take_append, List.take_append, List.drop_append, List.drop_append]
  simp only [List.length_map, h8]
  rw [show 8 + r - 8 = r by omega, show 8 + r + c.length - 8 = r + c.length by omega, show r - rest.length = 0 by omega, show r + c.length - rest.length = 0 by omega, List.take_of_length_le (l := s.list.map _) (by rw [List.length_map, h8]; omega), List.drop_of_length_le (l := s.list.map _) (by rw [List.length_map, h8]; omega)]
  simp [List.map_take, List.map_drop]
theorem hc_setn (s : V) (rest : List Int) (n m : Int) (h : rest.length = 64) : (hc s.list rest n).setIfInBounds 72 (.int .u64 m) = hc s.list rest m := by
  have h8 : s.list.length = 8 := rfl
  simp only [hc, List.setIfInBounds_toArray]
  rw [List.set_append_right _ _ (by simp [h8, h])]
  simp [h8, h]
theorem cell_n {w : World} {b : Nat} {bs rest : List Int} (h : Ha w b bs rest) : w.cell? ⟨b, 72, none⟩ = some (.int .u64 bs.length) := by
  have := cellAt h.h (8 + rest.length) _ (hc_n (state bs).list rest bs.length)
  rw [h.len] at this
  exact this
/-- a piece goes into the block -/
theorem rest_put (bs rest c : List Int) (hl : rest.length = 64) (ht : rest.take (bs.length % 64) = tail bs) (hb : Bytes rest) (hc : Bytes c) (h : bs.length % 64 + c.length ≤ 64) :
    (rest.take (bs.length % 64) ++ c ++ rest.drop (bs.length % 64 + c.length)).length = 64 ∧ Bytes (rest.take (bs.length % 64) ++ c ++ rest.drop (bs.length % 64 + c.length)) ∧
    (rest.take (bs.length % 64) ++ c ++ rest.drop (bs.length % 64 + c.length)).take (bs.length % 64 + c.length) = tail bs ++ c := by
  refine ⟨by simp only [List.length_append, List.length_take, List.length_drop]; omega, ?_, ?_⟩
  · intro x hx
    simp only [List.mem_append] at hx
    rcases hx with (hx | hx) | hx
    · exact hb x (List.mem_of_mem_take hx)
    · exact hc x hx
    · exact hb x (List.mem_of_mem_drop hx)
  · rw [ht, List.take_left' (by rw [List.length_append, tail_length])]
theorem ha_next {w : World} {hb : Nat} (bs2 cs rest1 : List Int) (M : Nat) (hM : M = bs2.length + cs.length) (h64 : rest1.length = 64) (hby : Bytes rest1) (hle : bs2.length % 64 + cs.length ≤ 64) (hc0 : 0 < cs.length) (ht : rest1.take (bs2.length % 64 + cs.length) = tail bs2 ++ cs) :
    (M % 64 = 0 → w.heap[hb]? = some (.cells (hc (comp (state bs2) rest1).list rest1 M) 47 (0, 0)) → Ha w hb (bs2 ++ cs) rest1) ∧ (¬ M % 64 = 0 → w.heap[hb]? = some (.cells (hc (state bs2).list rest1 M) 47 (0, 0)) → Ha w hb (bs2 ++ cs) rest1) := by
  have hl : (bs2 ++ cs).length = M := by rw [List.length_append]; exact hM.symm
  constructor
  · intro h0 h
    have hf : bs2.length % 64 + cs.length = 64 := by omega
    obtain ⟨e1, e2⟩ := state_full bs2 cs hf
    have er : rest1 = tail bs2 ++ cs := by rw [← ht, hf, List.take_of_length_le (by omega)]
    refine ⟨h64, ?_, hby, ?_⟩
    · rw [hl, h0, e2]; rfl
    · rw [hl, e1, ← er]; exact h
  · intro h0 h
    have hf : bs2.length % 64 + cs.length < 64 := by omega
    obtain ⟨e1, e2⟩ := state_part bs2 cs hf
    refine ⟨h64, ?_, hby, ?_⟩
    · rw [hl, e2, ← ht, show M % 64 = bs2.length % 64 + cs.length by omega]
    · rw [hl, e1]; exact h
/-- as many bytes as the block holds, or as there are -/
theorem copy_run {w : World} {g : Nat} {s : V} {rest : List Int} {n : Int} (ty : TypeId) (r m c1 c2 : Nat) (ad : Addr) (cs : List Int) (hg : w.heap[g]? = some (.cells (hc s.list rest n) 47 (0, 0))) (hl : rest.length = 64)
    (hn : cs.length = Nat.min m (64 - r)) (hr : r < 64) (hsrc : ∀ j, j < cs.length → w.cell? (ad.add j) = some (.int .u8 (cs.getD j 0))) :
    (Builtin.copy_ #[22, 22] ty #[.slice (some ⟨g, 8 + r, none⟩) (64 - r) c1, .slice (some ad) m c2]).run Tryd.prog w = .ok (goInt cs.length) (w.setRow g (hc s.list (rest.take r ++ cs ++ rest.drop (r + cs.length)) n)) := by
  have hle : r + cs.length ≤ 64 := by have : m.min (64 - r) ≤ 64 - r := Nat.min_le_right _ _; omega
  have hrun := run_copy_row (P := Tryd.prog) w 22 22 ty 5 g (8 + r) (64 - r) c1 ad m c2 (hc s.list rest n) 47 (cs.map (Value.int .u8)) (by kernel_rfl) (by kernel_rfl) hg (by rw [List.length_map]; exact hn)
    (fun j v hv => by
      rw [List.getElem?_map] at hv
      have hj : j < cs.length := by
        rcases Nat.lt_or_ge j cs.length with h | h
        · exact h
        · rw [List.getElem?_eq_none h] at hv; cases hv
      rw [hsrc j hj]
      rw [List.getElem?_eq_getElem hj] at hv
      rw [← hv, List.getD_eq_getElem?_getD, List.getElem?_eq_getElem hj]
      rfl)
    (by simp [hc, hl, list_length]; omega) (by intro v hv; simp only [List.mem_map] at hv; obtain ⟨x, _, rfl⟩ := hv; rfl)
  rw [hrun]
  rw [List.length_map]
  congr 2
  rw [List.append_assoc]
  have := hc_splice s rest cs n r (by rw [hl]; exact hle)
  unfold splice at this
  rw [List.length_map] at this
  rw [this]
theorem src {w wr : World} {ad : Addr} {l : List Int} {hb : Nat} (h : Kd.C (Kd.int .u8) w (some ad) l.length l) (hg : w.grownBy wr (some hb)) (hA : ad.block ≠ hb) (i : Nat) (hi : i < l.length) : wr.cell? (ad.add i) = some (.int .u8 (l.getD i 0)) := by
  obtain ⟨_, _, h3⟩ := Kd.reads_of_C (d := (0 : Int)) h
  obtain ⟨ad', e, hc⟩ := h3 (by omega)
  obtain rfl := Option.some.inj e
  exact hg.cell (hc i hi) (fun e2 => hA (by rw [← add_block ad i]; exact Option.some.inj e2))
theorem gb_row {a b : World} {k : Nat} (h : a.grownBy b (some k)) (cs : Array Value) : a.grownBy (b.setRow k cs) (some k) :=
  gb_trans h ⟨rfl, rfl, rfl, by simp [World.setRow], fun j hj hr => setRow_other b k j cs (fun e => hr (by rw [e]))⟩
theorem cut_run (w : World) (A : Option Addr) (m c : Nat) (k : Nat) (hk : k ≤ m) :
    (Instr.slice 22 (.slice A m c) (some (.int .i64 k)) none none).run Tryd.prog w = .ok (.slice (if c = k then A else A.map (·.add k)) (m - k) (c - k)) w := by
  rw [run_slice_l w 22 A m c (by kernel_rfl) .i64 k (by omega) (by omega)]
  rw [show Tryd.prog.elem 22 = 5 by kernel_rfl, show (sizeOf 5).run Tryd.prog w = .ok 1 w by kernel_rfl]
  simp [Result.andThen, sliced]
theorem cutAt_run (w : World) (A : Option Addr) (m c : Nat) (k : Nat) (hk : k ≤ m) :
    (Instr.sliceAt 22 (.slice A m c) (some (.int .i64 k)) none none).run Tryd.prog w = .ok (.slice (if c = k then A else A.map (·.add k)) (m - k) (c - k)) w := by
  rw [run_sliceAt_slice w _ _ _ _ _ (by kernel_rfl)]
  exact cut_run w A m c k hk
end Sh

set_option maxHeartbeats 2000000 in
set_option maxRecDepth 100000 in
theorem write_.calls (hb : Nat) (bs rest : List Int) (A : Option Addr) (c : Nat) (l : List Int) (w : World) (hH : Sh.Ha w hb bs rest) (hb0 : hb ≠ 0) (hk : Sh.Ks w) (hr : Kd.C (Kd.int .u8) w A l.length l) (hc : l.length ≤ c)
    (hA : 0 < l.length → ∀ a, A = some a → a.block ≠ hb) (hby : Sh.Bytes l) (hlen : bs.length + l.length ≤ 1099511627776) :
    Calls Tryd.prog 14 #[.pointer (some ⟨hb, 0, none⟩), .slice A l.length c] w fun e w' => e = .returned (.tuple #[]) ∧ (∃ rest', Sh.Ha w' hb (bs ++ l) rest') ∧ w.grownBy w' (some hb) := by
  have HK := Aside0.mk hk
  have HR := Aside0.mk hr
  have HA := Aside0.mk hA
  have HB := Aside0.mk hby
  have HH := Aside0.mk hH
  clear hk hr hA hby hH
  go_enter Tryd.func14, Tryd.ntmps14
  go_wp2_with fail
  go_loopw [1] (fun v1 wr => ∃ (j : Nat) (A' : Option Addr) (c' : Nat) (rest' : List Int), v1 = .slice A' (l.length - j) c' ∧ j ≤ l.length ∧ l.length - j ≤ c' ∧ Aside0 (j < l.length → ∃ ad, A = some ad ∧ A' = some (ad.add j)) ∧ Aside0 (Sh.Ha wr hb (bs ++ l.take j) rest') ∧ Aside0 (w.grownBy wr (some hb))) (fun v _ => match v with | .slice _ n _ => n | _ => 0)
  case atStart =>
    refine ⟨0, A, c, rest, rfl, by omega, by omega, ⟨fun hj => ?_⟩, ⟨by simpa using HH.out⟩, ⟨Sh.gb_refl _ _⟩⟩
    obtain ⟨ad, e, _⟩ := Kd.at_int HR.out 0 (by omega) (by omega)
    exact ⟨ad, e, by rw [e, Addr.add_zero']⟩
  case round =>
    clear HH
    obtain ⟨j, A', c', rest', rfl, hj, hc', HA', HH, HG⟩ := hrel
    by_cases hlt : j < l.length
    · obtain ⟨ad, e1, e2⟩ := HA'.out hlt
      subst e1; subst e2
      clear HA'
      obtain ⟨N, HN⟩ : ∃ N, Aside0 ((bs ++ l.take j).length = N) := ⟨_, ⟨rfl⟩⟩
      have hN : N ≤ 1099511627776 := by rw [← HN.out, List.length_append, List.length_take]; omega
      have HNJ : Aside0 (N = bs.length + j) := ⟨by rw [← HN.out, List.length_append, List.length_take]; omega⟩
      have cn := Sh.cell_n HH.out
      rw [HN.out] at cn
      have hs := Sh.slice_rest hb 8 .u64 ((N : Int).tmod 64) (N % 64) (by rw [Int.tmod_eq_emod_of_nonneg (by omega)]; omega) (by omega)
      obtain ⟨k, hkd⟩ : ∃ k, k = Nat.min (l.length - j) (64 - N % 64) := ⟨_, rfl⟩
      have hk1 : k ≤ l.length - j := by rw [hkd]; exact Nat.min_le_left _ _
      have hk2 : k ≤ 64 - N % 64 := by rw [hkd]; exact Nat.min_le_right _ _
      have hk0 : 0 < k := by rw [hkd]; exact Nat.lt_min.2 ⟨by omega, by omega⟩
      have hk3 : k = l.length - j ∨ k = 64 - N % 64 := by
        rw [hkd]
        rcases Nat.le_total (l.length - j) (64 - N % 64) with h | h
        · exact .inl (Nat.min_eq_left h)
        · exact .inr (Nat.min_eq_right h)
      have HKD := Aside0.mk hkd
      clear hkd
      obtain ⟨cs, HCS⟩ : ∃ cs, Aside0 ((l.drop j).take k = cs) := ⟨_, ⟨rfl⟩⟩
      have hcl : cs.length = k := by rw [← HCS.out, List.length_take, List.length_drop]; omega
      obtain ⟨st, HST⟩ : ∃ st, Aside0 (Sh.state (bs ++ l.take j) = st) := ⟨_, ⟨rfl⟩⟩
      have HST2 : Aside0 (wr.drew.heap[hb]? = some (.cells (Sh.hc st.list rest' N) 47 (0, 0))) := ⟨by
        have := HH.out.h
        rw [HN.out, HST.out] at this
        exact this⟩
      have HCC := Aside0.mk (Sh.copy_run (w := wr.drew) 3 (N % 64) (l.length - j) (64 - N % 64) c' (ad.add j) cs HST2.out HH.out.len (by rw [hcl, HKD.out]) (by omega) (fun i hi => by
        have := Sh.src HR.out HG.out (HA.out (by omega) ad rfl) (j + i) (by omega)
        rw [← Sh.add_add] at this
        refine Eq.trans this ?_
        rw [← HCS.out, List.getD_eq_getElem?_getD, List.getD_eq_getElem?_getD, List.getElem?_take, if_pos (by omega), List.getElem?_drop]))
      have CN := Aside0.mk (show wr.drew.cell? ⟨hb, 72, none⟩ = some (.int .u64 N) from cn)
      clear cn
      go_wp2_with fail
      refine wp_region_noPanic ?_
      refine start_ (n := 12) (S := (fun w' => w'.cell? ⟨hb, 72, none⟩ = some (.int .u64 N))) (ds := [10]) #[false, false, false, false, false, false, false, false, false, false, false, false] (by kernel_rfl) rfl rfl CN.out (fun hHeld => ?_)
      refine pure_ (i := 0) (N := (some 8)) (v := ?_) (a' := ?_) #[true, false, false, false, false, false, false, false, false, false, false, false] rfl rfl (by kernel_rfl) (fun _ _ _ h => h) (Or.inl ⟨by rfl, ?_⟩) ?_ ?_
      rotate_left
      · intro w'
        go_simp
        with_reducible rfl
      rotate_left
      · simp only [Act.put, List.setIfInBounds_toArray, List.set_cons_zero, List.set_cons_succ]
        rfl
      refine pure_ (i := 1) (N := (some 9)) (v := ?_) (a' := ?_) #[true, true, false, false, false, false, false, false, false, false, false, false] rfl rfl (by kernel_rfl) (fun _ _ _ h => h) (Or.inl ⟨by rfl, ?_⟩) ?_ ?_
      rotate_left
      · intro w'
        go_simp
        with_reducible rfl
      rotate_left
      · simp only [Act.put, List.setIfInBounds_toArray, List.set_cons_zero, List.set_cons_succ]
        rfl
      refine pure_ (i := 2) (N := (some 10)) (v := ?_) (a' := ?_) #[true, true, true, false, false, false, false, false, false, false, false, false] rfl rfl (by kernel_rfl) (fun _ _ _ h => h) (Or.inl ⟨by rfl, ?_⟩) ?_ ?_
      rotate_left
      · intro w'
        go_simp
        with_reducible rfl
      rotate_left
      · simp only [Act.put, List.setIfInBounds_toArray, List.set_cons_zero, List.set_cons_succ]
        rfl
      refine pure_ (i := 3) (N := (some 11)) (v := ?_) (a' := ?_) #[true, true, true, true, false, false, false, false, false, false, false, false] rfl rfl (by kernel_rfl) (fun _ _ _ h => h) (Or.inl ⟨by rfl, ?_⟩) ?_ ?_
      rotate_left
      · intro w'
        go_simp
        with_reducible rfl
      rotate_left
      · simp only [Act.put, List.setIfInBounds_toArray, List.set_cons_zero, List.set_cons_succ]
        rfl
      refine pure_ (i := 4) (N := (some 12)) (v := ?_) (a' := ?_) #[true, true, true, true, true, false, false, false, false, false, false, false] rfl rfl (by kernel_rfl) (fun _ _ _ h => h) (Or.inl ⟨by rfl, ?_⟩) ?_ ?_
      rotate_left
      · intro w'
        go_simp
        with_reducible rfl
      rotate_left
      · simp only [Act.put, List.setIfInBounds_toArray, List.set_cons_zero, List.set_cons_succ]
        rfl
      refine pure_ (i := 5) (N := (some 13)) (v := ?_) (a' := ?_) #[true, true, true, true, true, true, false, false, false, false, false, false] rfl rfl (by kernel_rfl) (fun _ _ _ h => h) (Or.inl ⟨by rfl, ?_⟩) ?_ ?_
      rotate_left
      · intro w'
        go_simp
        with_reducible rfl
      rotate_left
      · simp only [Act.put, List.setIfInBounds_toArray, List.set_cons_zero, List.set_cons_succ]
        rfl
      refine take_ (i := 6) (N := (some 14)) (v := ?_) (a' := ?_) #[true, true, true, true, true, true, true, false, false, false, false, false] rfl rfl (by kernel_rfl) (fun _ _ _ h => h) (Or.inl ⟨by rfl, ?_⟩) hHeld ?_ ?_
      rotate_left
      · intro w' hS'
        go_simp
        with_reducible rfl
      rotate_left
      · simp only [Act.put, List.setIfInBounds_toArray, List.set_cons_zero, List.set_cons_succ]
        rfl
      refine pure_ (i := 7) (N := (some 15)) (v := ?_) (a' := ?_) #[true, true, true, true, true, true, true, true, false, false, false, false] rfl rfl (by kernel_rfl) (fun _ _ _ h => h) (Or.inl ⟨by rfl, ?_⟩) ?_ ?_
      rotate_left
      · intro w'
        go_simp
        with_reducible rfl
      rotate_left
      · simp only [Act.put, List.setIfInBounds_toArray, List.set_cons_zero, List.set_cons_succ]
        rfl
      refine pure_ (i := 8) (N := (some 16)) (v := ?_) (a' := ?_) #[true, true, true, true, true, true, true, true, true, false, false, false] rfl rfl (by kernel_rfl) (fun _ _ _ h => h) (Or.inl ⟨by rfl, ?_⟩) ?_ ?_
      rotate_left
      · intro w'
        go_simp
        with_reducible rfl
      rotate_left
      · simp only [Act.put, List.setIfInBounds_toArray, List.set_cons_zero, List.set_cons_succ]
        rfl
      refine pure_ (i := 9) (N := (some 17)) (v := ?_) (a' := ?_) #[true, true, true, true, true, true, true, true, true, true, false, false] rfl rfl (by kernel_rfl) (fun _ _ _ h => h) (Or.inl ⟨by rfl, ?_⟩) ?_ ?_
      rotate_left
      · intro w'
        go_simp
        with_reducible rfl
      rotate_left
      · simp only [Act.put, List.setIfInBounds_toArray, List.set_cons_zero, List.set_cons_succ]
        rfl
      refine last_ (i := 10) (N := (some 18)) #[true, true, true, true, true, true, true, true, true, true, true, false] rfl rfl (by kernel_rfl) (by decide) (fun K hK => ?_)
      have hcc := HCC.out
      rw [hcl] at hcc
      refine value_ (w1 := wr.drew.setRow hb (Sh.hc st.list (rest'.take (N % 64) ++ cs ++ rest'.drop (N % 64 + k)) N)) (v := .int .i64 k) (by rfl) rfl (by simp [execOp, resolve, invoke, builtin, Act.eval, hcc, Result.andThen, goInt]) ?_
      clear hcc
      refine hK.out _ _ ?_
      clear hK K
      refine norm_ (a' := ?_) ?_ ?_
      rotate_left
      · show Act.put _ (some 18) _ = _
        simp only [Act.put, List.setIfInBounds_toArray, List.set_cons_zero, List.set_cons_succ]
        rfl
      refine pure_ (i := 11) (N := (some 4)) (v := ?_) (a' := ?_) #[true, true, true, true, true, true, true, true, true, true, true, true] rfl rfl (by kernel_rfl) (fun _ _ _ h => h) (Or.inl ⟨by rfl, ?_⟩) ?_ ?_
      rotate_left
      · intro w'
        go_simp
        with_reducible rfl
      rotate_left
      · simp only [Act.put, List.setIfInBounds_toArray, List.set_cons_zero, List.set_cons_succ]
        rfl
      refine done_ (by kernel_rfl) ?_
      obtain ⟨rest1, HR1⟩ : ∃ r, Aside0 (rest'.take (N % 64) ++ cs ++ rest'.drop (N % 64 + k) = r) := ⟨_, ⟨rfl⟩⟩
      rw [HR1.out]
      have H1 := Aside0.mk (show (wr.drew.setRow hb (Sh.hc st.list rest1 N)).heap[hb]? = some (.cells (Sh.hc st.list rest1 N) 47 (0, 0)) from setRow_heap wr.drew hb _ _ _ _ HST2.out)
      have G1 := Aside0.mk (show w.grownBy (wr.drew.setRow hb (Sh.hc st.list rest1 N)) (some hb) from Sh.gb_row (b := wr.drew) ⟨HG.out.os, HG.out.tape, HG.out.output, HG.out.size, HG.out.block⟩ _)
      generalize wr.drew.setRow hb (Sh.hc st.list rest1 N) = W1 at *
      have HR64 : rest1.length = 64 ∧ Sh.Bytes rest1 ∧ rest1.take (N % 64 + k) = Sh.tail (bs ++ l.take j) ++ cs := by
        have := Sh.rest_put (bs ++ l.take j) rest' cs HH.out.len HH.out.tl HH.out.by_ (fun x hx => HB.out x (List.mem_of_mem_drop (List.mem_of_mem_take (HCS.out ▸ hx)))) (by rw [HN.out, hcl]; omega)
        rw [HN.out, hcl, HR1.out] at this
        exact this
      clear HCC CN hs hHeld HST2
      obtain ⟨M, HMd⟩ : ∃ M, Aside0 (M = N + k) := ⟨_, ⟨rfl⟩⟩
      have hM : M = N + k := HMd.out
      have c1 : W1.cell? ⟨hb, 72, none⟩ = some (.int .u64 N) := by
        have := Sh.cellAt H1.out (8 + rest1.length) _ (Sh.hc_n st.list rest1 N)
        rw [HR64.1] at this
        exact this
      have f1 : W1.frozen? ⟨hb, 72, none⟩ = false := Sh.frozenAt H1.out 72
      have q1 := fun W => Sh.cut_run W (some (ad.add j)) (l.length - j) c' k hk1
      have q2 := fun W => Sh.cutAt_run W (some (ad.add j)) (l.length - j) c' k hk1
      obtain ⟨A2, HA2⟩ : ∃ A2, Aside0 ((if c' = k then some (ad.add j) else (some (ad.add j)).map (·.add k)) = A2) := ⟨_, ⟨rfl⟩⟩
      rw [HA2.out] at q1 q2
      have wk : IntKind.u64.wrap (k : Int) = k := Bt.wraps_u64 _ (by omega) (by omega)
      have wn : IntKind.u64.wrap ((N : Int) + k) = M := by rw [Bt.wraps_u64 _ (by omega) (by omega)]; omega
      have HW2 := Aside0.mk (show (W1.setCell ⟨hb, 72, none⟩ (.int .u64 M)).heap[hb]? = some (.cells (Sh.hc st.list rest1 M) 47 (0, 0)) from by rw [Sh.row_set H1.out, Sh.hc_setn _ _ _ _ HR64.1])
      have HTK : Aside0 (bs ++ l.take (j + k) = (bs ++ l.take j) ++ cs) := ⟨by rw [List.append_assoc, ← HCS.out, List.take_add]⟩
      have HML : Aside0 (M = (bs ++ l.take j).length + cs.length) := ⟨by rw [HN.out, hcl]; exact hM⟩
      clear hM
      by_cases hf : M % 64 = 0
      · have ht : (M : Int).tmod 64 = 0 := by rw [Int.tmod_eq_emod_of_nonneg (by omega)]; omega
        refine NoPanic.normal ?_
        go_wp2_with fail
        have HM := Aside0.mk (mix_.calls hb st rest1 M _ HR64.1 HR64.2.1 (HW2.out) hb0 (HK.out.far (Sh.gb_set G1.out 72 (.int .u64 M)) hb0))
        refine HM.out.mono ?_
        rintro e w3 ⟨rfl, h3, g3⟩
        have H3 := Aside0.mk h3
        have G3 := Aside0.mk (Sh.gb_trans (Sh.gb_set G1.out 72 (.int .u64 M)) g3)
        clear h3 g3 HM
        go_wp2_with fail
        refine ⟨⟨j + k, A2, c' - k, rest1, by rw [Nat.sub_sub], by omega, by omega, ⟨fun hjk => ?_⟩, ⟨?_⟩, ⟨?_⟩⟩, by show l.length - j - k < l.length - j; omega⟩
        · refine ⟨ad, rfl, ?_⟩
          rw [← HA2.out, if_neg (by omega)]
          show some ((ad.add j).add k) = _
          rw [Sh.add_add]
        · rw [HTK.out]
          exact (Sh.ha_next (bs ++ l.take j) cs rest1 M HML.out HR64.1 HR64.2.1 (by rw [HN.out, hcl]; omega) (by omega) (by rw [HN.out, hcl]; exact HR64.2.2)).1 hf (by rw [HST.out]; exact H3.out)
        · exact G3.out
      · have ht : ¬ (M : Int).tmod 64 = 0 := by rw [Int.tmod_eq_emod_of_nonneg (by omega)]; omega
        refine NoPanic.normal ?_
        go_wp2_with fail
        refine ⟨⟨j + k, A2, c' - k, rest1, by rw [Nat.sub_sub], by omega, by omega, ⟨fun hjk => ?_⟩, ⟨?_⟩, ⟨?_⟩⟩, by show l.length - j - k < l.length - j; omega⟩
        · refine ⟨ad, rfl, ?_⟩
          rw [← HA2.out, if_neg (by omega)]
          show some ((ad.add j).add k) = _
          rw [Sh.add_add]
        · rw [HTK.out]
          exact (Sh.ha_next (bs ++ l.take j) cs rest1 M HML.out HR64.1 HR64.2.1 (by rw [HN.out, hcl]; omega) (by omega) (by rw [HN.out, hcl]; exact HR64.2.2)).2 hf (by rw [HST.out]; exact HW2.out)
        · exact Sh.gb_set G1.out 72 (.int .u64 M)
    · obtain rfl : j = l.length := by omega
      go_wp2_with fail
      refine ⟨rfl, .tuple #[], by simp [results, Tryd.results14, go_sem], rfl, ⟨rest', ?_⟩, HG.out⟩
      have := HH.out
      rwa [List.take_length] at this
#print axioms write_.calls
end Go.Proofs.YthcilikinfhipaaDoor
