/- Replies one behind the other: plain. -/
import Derived.Test.YtemhlinodccokaaReqW
import Derived.Test.YtemhlinodccokaaReqP
set_option linter.unusedVariables false
set_option linter.unusedSimpArgs false
namespace Go.Proofs.Ytemhlinodccokaa
open Go.RowKit Go.Proofs.Ytemhlinodccokaa Go.Proofs.Ytemhlinodccokaa.PBase Go.Proofs.YtemhlinodccokaaW.PrintWords Go.Proofs.YtemhlinodccokaaW.PrintLast Go.Proofs.YtemhlinodccokaaW.PrintMore Go.Proofs.Ytemhlinodccokaa.Wi
namespace Rw
/-- a request of a row: its load, its cells -/
theorem row_get {w : World} {A : Option Addr} {n : Nat} {rs : List Rq} (h : kRq.C w A n rs) (i : Nat) (hi : i < rs.length) (hn : rs.length = n) : ∃ ad A1 c1, A = some ad ∧ (∀ w', Below w.heap.size w w' → (Instr.loadAt 28 (.pointer (some (ad.add (i * 6))))).run Try.prog w' = .ok (.agg (rqc rs[i].1 rs[i].2.1 rs[i].2.2.1 rs[i].2.2.2.1 rs[i].2.2.2.2.1 (.slice A1 rs[i].2.2.2.2.2.length c1)).toArray) w') ∧ kRq.K w rs[i] (rqc rs[i].1 rs[i].2.1 rs[i].2.2.1 rs[i].2.2.2.1 rs[i].2.2.2.2.1 (.slice A1 rs[i].2.2.2.2.2.length c1)) ∧ w.cell? ⟨(ad.add (i * 6)).block, (ad.add (i * 6)).off + 1, none⟩ = some (.int .u16 rs[i].2.1) ∧ w.cell? ⟨(ad.add (i * 6)).block, (ad.add (i * 6)).off + 2, none⟩ = some (.int .u64 rs[i].2.2.1) ∧ w.cell? ⟨(ad.add (i * 6)).block, (ad.add (i * 6)).off + 5, none⟩ = some (.slice A1 rs[i].2.2.2.2.2.length c1) := by
  obtain ⟨ad, c, e, _, hK, hc0⟩ := Kd.C_get h ((0, 0, 0, 0, 0, []) : Rq) (i : Int) (by omega) (by omega)
  rw [List.getD_eq_getElem?_getD, Int.toNat_natCast, List.getElem?_eq_getElem hi] at hK
  change kRq.K w rs[i] c at hK
  have hc : ∀ j u, c[j]? = some u → w.cell? (ad.add (i * 6 + j)) = some u := fun j u hu => by
    have := hc0 j u hu
    rwa [Int.toNat_natCast] at this
  obtain ⟨A5, c5, rfl, l5, g5⟩ := rq_cells hK
  refine ⟨ad, A5, c5, e, ?_, hK, by rw [← add_field _ _ 1 (by omega)]; exact hc 1 _ rfl, by rw [← add_field _ _ 2 (by omega)]; exact hc 2 _ rfl, by rw [← add_field _ _ 5 (by omega)]; exact hc 5 _ rfl⟩
  intro w' hb
  have hu := Try.underlying28
  obtain ⟨q, hi, hsz⟩ := Option.map_eq_some_iff.1 size28
  have hl : (loadCells (ad.add (i * 6)) 6).run Try.prog w' = .ok (rqc rs[i].1 rs[i].2.1 rs[i].2.2.1 rs[i].2.2.2.1 rs[i].2.2.2.2.1 (.slice A5 rs[i].2.2.2.2.2.length c5)).toArray w' :=
    run_loadCells_list (P := Try.prog) w' (ad.add (i * 6)) (rqc rs[i].1 rs[i].2.1 rs[i].2.2.1 rs[i].2.2.2.1 rs[i].2.2.2.2.1 (.slice A5 rs[i].2.2.2.2.2.length c5)) (fun j v hv => by rw [add_add]; have := hc j v hv; exact (hb.cell (World.block_lt_of_cell? w _ this)).trans this)
  have hagg : (isAgg 28).run Try.prog w' = .ok true w' := by
    unfold isAgg
    rw [Sem.run_bind, run_underlying hu w']
    rfl
  simp [Instr.loadAt, Instr.sureAddr, loadVar, Sem.run_bind, hagg, sizeOf, typeInfo, hi, hsz, hl]
/-- a number of a row of numbers of 32 bits -/
theorem num_get {w : World} {A : Option Addr} {n : Nat} {xs : List Int} (h : Kd.C (Kd.int .u32) w A n xs) (i : Nat) (hi : i < xs.length) (hn : xs.length = n) : ∃ ad, A = some ad ∧ w.cell? (ad.add i) = some (.int .u32 xs[i]) := by
  obtain ⟨ad, c, e, _, hK, hc0⟩ := Kd.C_get h (0 : Int) (i : Int) (by omega) (by omega)
  rw [List.getD_eq_getElem?_getD, Int.toNat_natCast, List.getElem?_eq_getElem hi] at hK
  have hK' : c = [.int .u32 xs[i]] := by cases hK; rfl
  subst hK'
  have := hc0 0 _ rfl
  rw [Int.toNat_natCast, show (Kd.int .u32).sz = 1 from rfl, Nat.mul_one, Nat.add_zero] at this
  exact ⟨ad, e, this⟩
theorem rp_hd (ck : Int) (more : List Int) (h3 : 0 ≤ ck ∧ ck < 18446744073709551616) : rp0 (packs [4, 4, 8] [1732535960, 0, ck] ++ more) = 1732535960 ∧ rp1 (packs [4, 4, 8] [1732535960, 0, ck] ++ more) = 0 ∧ rp2 (packs [4, 4, 8] [1732535960, 0, ck] ++ more) = ck ∧ (packs [4, 4, 8] [1732535960, 0, ck] ++ more).drop 16 = more := by
  have e := takes_packs [4, 4, 8] [1732535960, 0, ck] more [] (by simp) (by simp; omega)
  have hl : (packs [4, 4, 8] [1732535960, 0, ck]).length = 16 := by simp [packs, show Wi.wd 4 = 4 from rfl, show Wi.wd 8 = 8 from rfl, be_len]
  have e2 := takes448 (packs [4, 4, 8] [1732535960, 0, ck] ++ more)
  rw [if_neg (by rw [List.length_append, hl]; omega)] at e2
  rw [e2] at e
  have e3 : cuts [4, 4, 8] [1732535960, 0, ck] = [1732535960, 0, ck] := by
    simp only [cuts, show Wi.wd 4 = 4 from rfl, show Wi.wd 8 = 8 from rfl]
    rw [show (1732535960 : Int) % 256 ^ 4 = 1732535960 by decide, show (0 : Int) % 256 ^ 4 = 0 by decide, show ck % 256 ^ 8 = ck from Int.emod_eq_of_lt h3.1 (by simpa using h3.2)]
  rw [e3] at e
  simp only [Prod.mk.injEq, List.nil_append, List.cons.injEq, and_true] at e
  obtain ⟨⟨a, b, c⟩, g⟩ := e
  exact ⟨a, b, c, g⟩
/-- replies to requests, the k-th on -/
def rcat : List Rq → Nat → List Int
  | [], _ => []
  | r :: rs, k => rpb 0 k r.2.2.2.2.2 ++ rcat rs (k + 1)
theorem rcat_snoc : ∀ (rs : List Rq) (r : Rq) (k : Nat), rcat (rs ++ [r]) k = rcat rs k ++ rpb 0 ((k + rs.length : Nat) : Int) r.2.2.2.2.2
  | [], r, k => by simp [rcat]
  | q :: rs, r, k => by
    show rpb 0 k q.2.2.2.2.2 ++ rcat (rs ++ [r]) (k + 1) = _
    rw [rcat_snoc rs r (k + 1)]
    show _ = rpb 0 k q.2.2.2.2.2 ++ rcat rs (k + 1) ++ _
    rw [List.append_assoc, List.length_cons, show k + 1 + rs.length = k + (rs.length + 1) by omega]
/-- a reply at the front is read -/
theorem one_good (m : Int → Int) (ck : Int) (data more : List Int) (an cs : List Int) (ds : List (List Int)) (h3 : 0 ≤ ck ∧ ck < 18446744073709551616) (hm : m ck = data.length) : repls m (rpb 0 ck data ++ more) an cs ds = repls m more (an ++ [0]) (cs ++ [ck]) (ds ++ [data]) := by
  obtain ⟨q0, q1, q2, q3⟩ := rp_hd ck (data ++ more) h3
  have e : rpb 0 ck data ++ more = packs [4, 4, 8] [1732535960, 0, ck] ++ (data ++ more) := by unfold rpb; rw [List.append_assoc]
  have hl := rpb_len 0 ck data
  rw [← e] at q0 q1 q2 q3
  have hn : rpn m (rpb 0 ck data ++ more) = data.length := by unfold rpn; rw [if_pos q1, q2, hm]
  have hk : rpOk m (rpb 0 ck data ++ more) := ⟨by rw [List.length_append, hl]; omega, q0, by rw [hn, List.length_append, hl]; omega⟩
  rw [repls_good m _ an cs ds hk, q1, q2]
  unfold rpData rpRest
  rw [hn, q3, Int.toNat_natCast, List.take_left, List.drop_left]
theorem many_good (m : Int → Int) : ∀ (rs : List Rq) (k : Nat) (more : List Int) (an cs : List Int) (ds : List (List Int)), (∀ j (hj : j < rs.length), m ((k + j : Nat) : Int) = (rs[j].2.2.2.2.2.length : Int)) → k + rs.length ≤ 1000000 → repls m (rcat rs k ++ more) an cs ds = repls m more (an ++ List.replicate rs.length 0) (cs ++ (List.range' k rs.length).map (fun i : Nat => (i : Int))) (ds ++ rs.map (fun r => r.2.2.2.2.2))
  | [], k, more, an, cs, ds, _, _ => by simp [rcat]
  | r :: rs, k, more, an, cs, ds, h, hk => by
    show repls m (rpb 0 k r.2.2.2.2.2 ++ rcat rs (k + 1) ++ more) an cs ds = _
    rw [List.length_cons] at hk
    rw [List.append_assoc, one_good m k r.2.2.2.2.2 _ an cs ds ⟨by omega, by omega⟩ (by have := h 0 (by simp); simpa using this),
      many_good m rs (k + 1) more _ _ _ (fun j hj => by
        have := h (j + 1) (by rw [List.length_cons]; omega)
        rw [show k + 1 + j = k + (j + 1) by omega, this]
        rfl) (by omega)]
    simp [List.replicate_succ, List.range'_succ]
/-- what is no whole reply is none -/
theorem rest_bad (m : Int → Int) (b : List Int) (an cs : List Int) (ds : List (List Int)) (h0 : b.length ≠ 0) (h : b.length < 16) : (repls m b an cs ds).2.2.2 = false := by
  rw [repls_bad m b an cs ds h0 (fun hk => by have := hk.1; omega)]
theorem short_bad (m : Int → Int) (ck : Int) (data : List Int) (an cs : List Int) (ds : List (List Int)) (h3 : 0 ≤ ck ∧ ck < 18446744073709551616) (hm : m ck = data.length) : (repls m ((rpb 0 ck data).take (15 + data.length)) an cs ds).2.2.2 = false := by
  have hl := rpb_len 0 ck data
  have hl2 : ((rpb 0 ck data).take (15 + data.length)).length = 15 + data.length := by rw [List.length_take, hl]; omega
  by_cases hd : data.length = 0
  · exact rest_bad m _ an cs ds (by omega) (by omega)
  · have hp : (packs [4, 4, 8] [1732535960, 0, ck]).length = 16 := by simp [packs, show Wi.wd 4 = 4 from rfl, show Wi.wd 8 = 8 from rfl, be_len]
    have e : (rpb 0 ck data).take (15 + data.length) = packs [4, 4, 8] [1732535960, 0, ck] ++ data.take (data.length - 1) := by
      unfold rpb
      rw [List.take_append, hp, List.take_of_length_le (by rw [hp]; omega)]
      congr 2
      omega
    obtain ⟨q0, q1, q2, q3⟩ := rp_hd ck (data.take (data.length - 1)) h3
    rw [← e] at q0 q1 q2 q3
    have hn : rpn m ((rpb 0 ck data).take (15 + data.length)) = data.length := by unfold rpn; rw [if_pos q1, q2, hm]
    rw [repls_bad m _ an cs ds (by omega) (fun hk => by have := hk.2.2; rw [hn, hl2] at this; omega)]
end Rw
#print axioms Rw.many_good
#print axioms Rw.short_bad
end Go.Proofs.Ytemhlinodccokaa
