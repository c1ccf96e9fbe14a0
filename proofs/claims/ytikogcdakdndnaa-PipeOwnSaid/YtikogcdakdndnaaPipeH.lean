/- Rows of numbers and of requests that are written: plain. -/
import Derived.Test.YtikogcdakdndnaaPipeG
import Derived.Test.YtikogcdakdndnaaPipeD
set_option linter.unusedVariables false
set_option linter.unusedSimpArgs false
namespace Go.Proofs.Ytikogcdakdndnaa
open Go.RowKit Go.Proofs.YtikogcdakdndnaaW.PrintWords Go.Proofs.YtikogcdakdndnaaW.PrintLast Go.Proofs.YtikogcdakdndnaaW.PrintMore
namespace Pi
open Wk (over)
theorem addr0 (b j : Nat) : (⟨b, 0, none⟩ : Addr).add j = ⟨b, j, none⟩ := by unfold Addr.add; split <;> simp_all
theorem over_get (zs : List Value) (off : Nat) (vs : List Value) (h : off + vs.length ≤ zs.length) (i : Nat) : (over zs off vs)[i]? = if i < off then zs[i]? else if i < off + vs.length then vs[i - off]? else zs[i]? := by
  unfold over
  by_cases h1 : i < off
  · rw [if_pos h1, List.append_assoc, List.getElem?_append_left (by simp; omega), List.getElem?_take, if_pos h1]
  · rw [if_neg h1]
    by_cases h2 : i < off + vs.length
    · rw [if_pos h2, List.getElem?_append_left (by simp; omega), List.getElem?_append_right (by simp; omega)]
      simp [Nat.min_eq_left (by omega : off ≤ zs.length)]
    · rw [if_neg h2, List.getElem?_append_right (by simp; omega), List.getElem?_drop]
      congr 1
      simp
      omega
theorem over_seg (zs : List Value) (i j : Nat) (vs : List Value) (hv : vs.length = 6) (h : i * 6 + 6 ≤ zs.length) (hne : j ≠ i) : ((over zs (i * 6) vs).drop (j * 6)).take 6 = (zs.drop (j * 6)).take 6 := by
  apply List.ext_getElem?
  intro t
  rw [List.getElem?_take, List.getElem?_take]
  by_cases ht : t < 6
  · rw [if_pos ht, if_pos ht, List.getElem?_drop, List.getElem?_drop, over_get _ _ _ (by omega)]
    rcases Nat.lt_or_gt_of_ne hne with h1 | h1
    · rw [if_pos (by omega)]
    · rw [if_neg (by omega), if_neg (by omega)]
  · rw [if_neg ht, if_neg ht]
theorem over_same (zs : List Value) (i : Nat) (vs : List Value) (hv : vs.length = 6) (h : i * 6 + 6 ≤ zs.length) : ((over zs (i * 6) vs).drop (i * 6)).take 6 = vs := by
  apply List.ext_getElem?
  intro t
  rw [List.getElem?_take]
  by_cases ht : t < 6
  · rw [if_pos ht, List.getElem?_drop, over_get _ _ _ (by omega), if_neg (by omega), if_pos (by omega)]
    congr 1
    omega
  · rw [if_neg ht, List.getElem?_eq_none (by omega)]
/-- a row of n numbers that may be written: behind lo -/
def Num (W : World) (lo : Nat) (A : Option Addr) (n : Nat) : Prop := 0 < n → ∃ b cs, A = some ⟨b, 0, none⟩ ∧ lo ≤ b ∧ Wk.Blk W b 5 cs ∧ n ≤ cs.length ∧ ∀ j, j < n → ∃ y, cs[j]? = some (.int .u8 y)
theorem num_of_R {W : World} {base : Nat} {ok : Nat → Prop} {A : Option Addr} {c : Nat} {data : List Int} (h : Kd.R (Kd.int .u8) 5 W base ok (.slice A data.length c) data) : Num W base A data.length := by
  intro hp
  obtain ⟨b, cap, he, hb, _, cells, hc⟩ := Kd.R_form h hp
  injection he with he _ _
  subst he
  have hB : Wk.Blk W b 5 cells.toList := ⟨by simpa using hc⟩
  have hC := (Kd.R_reads' h).2.2
  have hat : ∀ j, j < data.length → ∃ y, cells.toList[j]? = some (.int .u8 y) := fun j hj => by
    obtain ⟨ad, c', e, _, hK, hcc⟩ := Kd.C_get hC (0 : Int) (j : Int) (by omega) (by omega)
    obtain rfl := Option.some.inj e
    have hK' : c' = [.int .u8 (data.getD (j : Int).toNat 0)] := by cases hK; rfl
    subst hK'
    have := hcc 0 _ rfl
    rw [Int.toNat_natCast, show (Kd.int .u8).sz = 1 from rfl, Nat.mul_one, Nat.add_zero, addr0] at this
    exact ⟨_, by rw [← hB.cell]; exact this⟩
  refine ⟨b, cells.toList, rfl, hb, hB, ?_, hat⟩
  obtain ⟨y, hy⟩ := hat (data.length - 1) (by omega)
  have := (List.getElem?_eq_some_iff.1 hy).1
  omega
theorem Num.far {W W' : World} {lo n b' : Nat} {A : Option Addr} (h : Num W lo A n) (hg : W.grownBy W' (some b')) (hne : ∀ b, A = some ⟨b, 0, none⟩ → b ≠ b') : Num W' lo A n := fun hp => by
  obtain ⟨b, cs, rfl, h1, h2, h3, h4⟩ := h hp
  exact ⟨b, cs, rfl, h1, h2.grown hg (fun he => hne b rfl (by injection he)), h3, h4⟩
theorem Num.typed {W W' : World} {lo n b' : Nat} {t : TypeId} {zs : List Value} {A : Option Addr} (h : Num W lo A n) (hb : Wk.Blk W b' t zs) (ht : 5 ≠ t) (hg : W.grownBy W' (some b')) : Num W' lo A n := fun hp => by
  obtain ⟨b, cs, rfl, h1, h2, h3, h4⟩ := h hp
  exact ⟨b, cs, rfl, h1, h2.grown hg (fun he => h2.ne_ hb ht (by injection he)), h3, h4⟩
theorem Num.below {W W' : World} {lo n : Nat} {A : Option Addr} (h : Num W lo A n) (hb : Below W.heap.size W W') : Num W' lo A n := fun hp => by
  obtain ⟨b, cs, rfl, h1, h2, h3, h4⟩ := h hp
  exact ⟨b, cs, rfl, h1, h2.below_ hb, h3, h4⟩
theorem Num.ty {W W' : World} {lo n base : Nat} {ts : List TypeId} {A : Option Addr} (h : Num W lo A n) (hT : Ty W W' base ts) (h5 : 5 ∉ ts) : Num W' lo A n := fun hp => by
  obtain ⟨b, cs, rfl, h1, h2, h3, h4⟩ := h hp
  exact ⟨b, cs, rfl, h1, ⟨(hT.keep _ _ _ h2.out h5).trans h2.out⟩, h3, h4⟩
/-- a number was written into some row of numbers -/
theorem Num.put {W W' : World} {lo n b k : Nat} {z : Int} {cs : List Value} {A : Option Addr} (h : Num W lo A n) (hb : Wk.Blk W b 5 cs) (hk : k < cs.length) (hb' : Wk.Blk W' b 5 (over cs k [.int .u8 z])) (hO : Wk.Only W W' b) : Num W' lo A n := fun hp => by
  obtain ⟨b1, cs1, rfl, h1, h2, h3, h4⟩ := h hp
  by_cases he : b1 = b
  · subst he
    have : cs1 = cs := by
      have := h2.out
      rw [hb.out] at this
      injection this with this
      injection this with this _
      simpa using this.symm
    subst this
    refine ⟨b1, _, rfl, h1, hb', by rw [over_len _ _ _ (by simp; omega)]; exact h3, fun j hj => ?_⟩
    rw [over_get _ _ _ (by simp; omega)]
    by_cases hj1 : j < k
    · rw [if_pos hj1]; exact h4 j hj
    · rw [if_neg hj1]
      by_cases hj2 : j < k + ([Value.int .u8 z] : List Value).length
      · rw [if_pos hj2]
        exact ⟨z, by rw [show j - k = 0 by simp at hj2; omega]; rfl⟩
      · rw [if_neg hj2]; exact h4 j hj
  · exact ⟨b1, cs1, rfl, h1, h2.only hO he, h3, h4⟩
/-- a row of requests whose rows may be written -/
def Rws (W : World) (lo ab m : Nat) (cells : List Value) : Prop := Wk.Blk W ab 33 cells ∧ m * 6 ≤ cells.length ∧ ∀ i, i < m → ∃ x1 x2 x3 x4 x5 A n c, (cells.drop (i * 6)).take 6 = rqc x1 x2 x3 x4 x5 (.slice A n c) ∧ n ≤ 9223372036854775807 ∧ Num W lo A n
theorem rws_of_R {W : World} {base : Nat} {ok : Nat → Prop} {A : Option Addr} {c : Nat} {rs : List Rq} (h : kRq.R 33 W base ok (.slice A rs.length c) rs) (hp : 0 < rs.length) : ∃ ab cells, A = some ⟨ab, 0, none⟩ ∧ base ≤ ab ∧ Rws W base ab rs.length cells := by
  obtain ⟨b, cap, he, hb, _, cells, hc⟩ := Kd.R_form h hp
  injection he with he _ _
  subst he
  have hB : Wk.Blk W b 33 cells.toList := ⟨by simpa using hc⟩
  obtain ⟨A', cc, he', _, hrd⟩ := OwnRow.reads h.2
  injection he' with he' _ _
  subst he'
  have hat : ∀ i, i < rs.length → ∃ cs, (∀ j u, cs[j]? = some u → cells.toList[i * 6 + j]? = some u) ∧ ∃ x1 x2 x3 x4 x5 A n c, cs = rqc x1 x2 x3 x4 x5 (.slice A n c) ∧ n ≤ 9223372036854775807 ∧ Num W base A n := fun i hi => by
    obtain ⟨ad, cs, e, _, hM, hcc⟩ := ReadsRow.get_ hrd ((0, 0, 0, 0, 0, []) : Rq) (i : Int) (by omega) (by omega)
    obtain rfl := Option.some.inj e
    obtain ⟨v5, hcs, hR5⟩ := rq_Mc hM
    obtain ⟨A5, c5, rfl⟩ := Kd.R_slice hR5
    refine ⟨cs, fun j u hu => ?_, _, _, _, _, _, _, _, _, hcs, (Kd.R_reads' hR5).2.2.2.1, num_of_R hR5⟩
    have := hcc j u hu
    rw [Int.toNat_natCast, show kRq.sz = 6 from rfl, addr0] at this
    rw [← hB.cell]
    exact this
  refine ⟨b, cells.toList, rfl, hb, hB, ?_, fun i hi => ?_⟩
  · obtain ⟨cs, h1, x1, x2, x3, x4, x5, A, n, c, rfl, _⟩ := hat (rs.length - 1) (by omega)
    have := (List.getElem?_eq_some_iff.1 (h1 5 _ rfl)).1
    omega
  · obtain ⟨cs, h1, x1, x2, x3, x4, x5, A, n, c, rfl, h2⟩ := hat i hi
    refine ⟨x1, x2, x3, x4, x5, A, n, c, ?_, h2⟩
    apply List.ext_getElem?
    intro t
    rw [List.getElem?_take]
    by_cases ht : t < 6
    · rw [if_pos ht, List.getElem?_drop]
      have hl : t < (rqc x1 x2 x3 x4 x5 (.slice A n c)).length := ht
      rw [h1 t _ (List.getElem?_eq_getElem hl), List.getElem?_eq_getElem hl]
    · rw [if_neg ht, List.getElem?_eq_none (show (rqc x1 x2 x3 x4 x5 (.slice A n c)).length ≤ t from by change 6 ≤ t; omega)]
theorem Rws.put {W W' : World} {lo ab m b k : Nat} {z : Int} {cells cs : List Value} (h : Rws W lo ab m cells) (hb : Wk.Blk W b 5 cs) (hk : k < cs.length) (hb' : Wk.Blk W' b 5 (over cs k [.int .u8 z])) (hO : Wk.Only W W' b) : Rws W' lo ab m cells := by
  obtain ⟨h1, h2, h3⟩ := h
  refine ⟨h1.only hO (h1.ne_ hb (by decide)), h2, fun i hi => ?_⟩
  obtain ⟨x1, x2, x3, x4, x5, A, n, c, he, hl, hN⟩ := h3 i hi
  exact ⟨x1, x2, x3, x4, x5, A, n, c, he, hl, hN.put hb hk hb' hO⟩
theorem Rws.wipe {W W' : World} {lo ab m k : Nat} {cells : List Value} (h : Rws W lo ab m cells) (hk : k < m) (hb' : Wk.Blk W' ab 33 (over cells (k * 6) zrq)) (hO : Wk.Only W W' ab) : Rws W' lo ab m (over cells (k * 6) zrq) := by
  obtain ⟨h1, h2, h3⟩ := h
  have h6 : k * 6 + zrq.length ≤ cells.length := by rw [show zrq.length = 6 from rfl]; omega
  refine ⟨hb', by rw [over_len _ _ _ h6]; exact h2, fun i hi => ?_⟩
  by_cases he : i = k
  · subst he
    exact ⟨0, 0, 0, 0, 0, none, 0, 0, over_same cells i zrq rfl h6, by omega, fun hp => absurd hp (Nat.lt_irrefl _)⟩
  · obtain ⟨x1, x2, x3, x4, x5, A, n, c, hc, hl, hN⟩ := h3 i hi
    exact ⟨x1, x2, x3, x4, x5, A, n, c, by rw [over_seg cells k i zrq rfl h6 he]; exact hc, hl, hN.typed h1 (by decide) hO.grown⟩
theorem Rws.cell {W : World} {lo ab m i : Nat} {cells : List Value} {x1 x2 x3 x4 x5 : Int} {v : Value} (h : Rws W lo ab m cells) (hc : (cells.drop (i * 6)).take 6 = rqc x1 x2 x3 x4 x5 v) : W.cell? ⟨ab, i * 6 + 5, none⟩ = some v := by
  rw [h.1.cell]
  have : ((cells.drop (i * 6)).take 6)[5]? = some v := by rw [hc]; rfl
  rw [List.getElem?_take, if_pos (by omega), List.getElem?_drop] at this
  exact this
end Pi
end Go.Proofs.Ytikogcdakdndnaa
