/- Same, SameAll, heavy: their printed contracts in this session's words; a list of calls that comes in. -/
import Derived.Test.YtikogcdakdndnaaPipeS
import Derived.Test.YtikogcdakdndnaaPBasex
set_option linter.unusedVariables false
set_option linter.unusedSimpArgs false
namespace Go.Proofs.Ytikogcdakdndnaa
open Go.RowKit Go.Proofs.YtikogcdakdndnaaW.PrintWords Go.Proofs.YtikogcdakdndnaaW.PrintLast Go.Proofs.YtikogcdakdndnaaW.PrintMore Go.Proofs.Ytikogcdakdndnaa.PBase
namespace Pi
def toS (r : Rq) : S33 := ⟨r.1, r.2.1, r.2.2.1, r.2.2.2.1, r.2.2.2.2.1, r.2.2.2.2.2⟩
/-- a call -/
abbrev Oq := Bool × Bool × Int × Rq
abbrev kOp : Kd Oq := Kd.pair Kd.bool (Kd.pair Kd.bool (Kd.pair (Kd.int .i64) kRq))
def toO (x : Oq) : S41 := ⟨x.1, x.2.1, x.2.2.1, toS x.2.2.2⟩
def OpWf (x : Oq) : Prop := (Lit.int .i64 x.2.2.1).wf = true ∧ RqWf x.2.2.2
theorem opens_op : Opens Try.prog 41 kOp OpWf := by
  intro H enc w base spare held fuel cs x h
  obtain ⟨hl, hf⟩ := struct_fields Try.underlying41 h
  obtain ⟨a0, k0, w0⟩ := hf 0 _ rfl (opens_bool Try.underlying4)
  obtain ⟨a1, k1, w1⟩ := hf 1 _ rfl (opens_bool Try.underlying4)
  obtain ⟨a2, k2, w2⟩ := hf 2 _ rfl (opens_int Try.underlying3)
  obtain ⟨a3, k3, w3⟩ := hf 3 _ rfl opens_request
  have cb : Try.prog.cellsOf 4 = 1 := by kernel_rfl
  have ci : Try.prog.cellsOf 3 = 1 := by kernel_rfl
  have c6 : Try.prog.cellsOf 33 = 6 := by kernel_rfl
  have c9 : Try.prog.cellsOf 41 = 9 := by kernel_rfl
  rw [c9] at hl
  change Kd.bool.K w a0 ((cs.drop 0).take (Try.prog.cellsOf 4)) at k0
  rw [cb] at k0
  change Kd.bool.K w a1 ((cs.drop 1).take (Try.prog.cellsOf 4)) at k1
  rw [cb] at k1
  change (Kd.int .i64).K w a2 ((cs.drop 2).take (Try.prog.cellsOf 3)) at k2
  rw [ci] at k2
  change kRq.K w a3 ((cs.drop 3).take (Try.prog.cellsOf 33)) at k3
  rw [c6] at k3
  refine ⟨(a0, a1, a2, a3), ?_, w2, w3⟩
  match cs, hl with
  | [y0, y1, y2, y3, y4, y5, y6, y7, y8], _ => exact pairK k0 (pairK k1 (pairK k2 k3))
theorem op_cells {w : World} {x : Oq} {cs : List Value} (h : kOp.K w x cs) : ∃ zs, cs = .bool x.1 :: .bool x.2.1 :: .int .i64 x.2.2.1 :: zs ∧ kRq.K w x.2.2.2 zs := by
  obtain ⟨_, _, rfl, rfl, _, _, rfl, rfl, _, _, rfl, rfl, h⟩ := h
  exact ⟨_, rfl, h⟩
theorem same_f (r : Rq) : coamingref20_Same.f r.1 r.2.1 r.2.2.1 r.2.2.2.1 r.2.2.2.2.1 r.2.2.2.2.2 r.1 r.2.1 r.2.2.1 r.2.2.2.1 r.2.2.2.2.1 r.2.2.2.2.2 = some true := by
  unfold coamingref20_Same.f
  rw [if_pos rfl, if_pos rfl, if_pos rfl, if_pos rfl, if_pos rfl, beq_self_eq_true]
theorem rd_S (rs : List Rq) (i : Nat) (hi : i < rs.length) : rd_T33 (rs.map toS) (i : Int) = toS rs[i] := by
  unfold rd_T33
  rw [List.getD_eq_getElem?_getD, List.getElem?_map, Int.toNat_natCast, List.getElem?_eq_getElem hi]
  rfl
theorem sameall_l (rs : List Rq) (hl : rs.length < 9223372036854775807) : ∀ k i : Nat, i ≤ rs.length → rs.length - i < k → coamingref20_SameAll.l0 k (rs.map toS) (rs.map toS) i = some true
  | 0, _, _, h => absurd h (by omega)
  | k + 1, i, hi, h => by
    unfold coamingref20_SameAll.l0
    rw [List.length_map]
    rcases Nat.lt_or_ge i rs.length with hlt | hge
    · rw [if_pos (by omega), if_pos (by omega), if_pos (by omega), rd_S rs i hlt]
      have : coamingref20_Same.f (toS rs[i]).f0 (toS rs[i]).f1 (toS rs[i]).f2 (toS rs[i]).f3 (toS rs[i]).f4 (toS rs[i]).f5 (toS rs[i]).f0 (toS rs[i]).f1 (toS rs[i]).f2 (toS rs[i]).f3 (toS rs[i]).f4 (toS rs[i]).f5 = some true := same_f rs[i]
      rw [this, Option.bind_some, if_pos rfl, show wrap64 ((i : Int) + 1) = ((i + 1 : Nat) : Int) from by unfold wrap64; omega]
      exact sameall_l rs hl k (i + 1) hlt (by omega)
    · rw [if_neg (by omega)]
theorem sameall_f (rs : List Rq) (hl : rs.length < 9223372036854775807) : coamingref20_SameAll.f (rs.length + 1) (rs.map toS) (rs.map toS) = some true := by
  unfold coamingref20_SameAll.f
  rw [if_pos rfl]
  exact sameall_l rs hl _ 0 (Nat.zero_le _) (by omega)
theorem rd_O (rs : List Oq) (i : Nat) (hi : i < rs.length) : rd_T41 (rs.map toO) (i : Int) = toO rs[i] := by
  unfold rd_T41
  rw [List.getD_eq_getElem?_getD, List.getElem?_map, Int.toNat_natCast, List.getElem?_eq_getElem hi]
  rfl
theorem heavy_l (xs : List Oq) (hl : xs.length ≤ 150) : ∀ k i : Nat, i ≤ xs.length → xs.length - i < k → ∃ b, coaminglaw20_heavy.l0 k (xs.map toO) i = some b ∧ (b = false → ∀ j (hj : j < xs.length), i ≤ j → xs[j].2.2.2.2.2.2.2.2.length ≤ 100)
  | 0, _, _, h => absurd h (by omega)
  | k + 1, i, hi, h => by
    unfold coaminglaw20_heavy.l0
    rw [List.length_map]
    rcases Nat.lt_or_ge i xs.length with hlt | hge
    · rw [if_pos (by omega), if_pos (by omega), rd_O xs i hlt]
      by_cases hb : ((toO xs[i]).f3.f5.length : Int) > 100
      · rw [if_pos hb]
        exact ⟨true, rfl, fun h => by cases h⟩
      · rw [if_neg hb, show wrap64 ((i : Int) + 1) = ((i + 1 : Nat) : Int) from by unfold wrap64; omega]
        obtain ⟨b, e, hh⟩ := heavy_l xs hl k (i + 1) hlt (by omega)
        refine ⟨b, e, fun hf j hj hij => ?_⟩
        rcases Nat.lt_or_ge i j with h1 | h1
        · exact hh hf j hj h1
        · obtain rfl : j = i := by omega
          change ¬ ((xs[j].2.2.2.2.2.2.2.2.length : Int) > 100) at hb
          omega
    · rw [if_neg (by omega)]
      exact ⟨false, rfl, fun _ j hj hij => by omega⟩
end Pi
theorem same_.calls {w : World} {r : Rq} {c1 c2 : List Value} (h1 : kRq.K w r c1) (h2 : kRq.K w r c2) : Calls Try.prog 17 #[.agg c1.toArray, .agg c2.toArray] w fun e w' => e = .returned (.bool true) ∧ Below w.heap.size w w' := by
  obtain ⟨A, c, rfl, hl, hC⟩ := rq_cells h1
  obtain ⟨A2, c2, rfl, hl2, hC2⟩ := rq_cells h2
  exact coamingref20_Same.calls _ _ _ _ _ A c _ _ _ _ _ _ A2 c2 _ true w hC hl hC2 hl2 (Pi.same_f r)
theorem Pi.C_S {w : World} {A : Option Addr} {n : Nat} {rs : List Rq} (h : kRq.C w A n rs) : k33.C w A n (rs.map Pi.toS) := by
  obtain ⟨h1, h0, h2⟩ := h
  refine ⟨by simpa using h1, h0, fun hp => ?_⟩
  obtain ⟨ad, e, hh⟩ := h2 hp
  refine ⟨ad, e, fun j p hj => ?_⟩
  rw [List.getElem?_map] at hj
  obtain ⟨r, hr, rfl⟩ := Option.map_eq_some_iff.1 hj
  exact hh j r hr
theorem Pi.C_O {w : World} {A : Option Addr} {n : Nat} {rs : List Pi.Oq} (h : Pi.kOp.C w A n rs) : k41.C w A n (rs.map Pi.toO) := by
  obtain ⟨h1, h0, h2⟩ := h
  refine ⟨by simpa using h1, h0, fun hp => ?_⟩
  obtain ⟨ad, e, hh⟩ := h2 hp
  refine ⟨ad, e, fun j p hj => ?_⟩
  rw [List.getElem?_map] at hj
  obtain ⟨r, hr, rfl⟩ := Option.map_eq_some_iff.1 hj
  exact hh j r hr
theorem sameall_.calls {w : World} {rs : List Rq} {A B : Option Addr} {c d : Nat} (hl : rs.length < 9223372036854775807) (h1 : kRq.C w A rs.length rs) (l1 : rs.length ≤ c) (h2 : kRq.C w B rs.length rs) (l2 : rs.length ≤ d) : Calls Try.prog 13 #[.slice A rs.length c, .slice B rs.length d] w fun e w' => e = .returned (.bool true) ∧ Below w.heap.size w w' := by
  have e : (rs.map Pi.toS).length = rs.length := List.length_map ..
  have h := coamingref20_SameAll.calls (rs.length + 1) A c (rs.map Pi.toS) B d (rs.map Pi.toS) true w (by rw [e]; exact Pi.C_S h1) (by rw [e]; exact l1) (by rw [e]; exact Pi.C_S h2) (by rw [e]; exact l2) (Pi.sameall_f rs hl)
  rw [e] at h
  exact h
theorem heavy_.calls {w : World} {xs : List Pi.Oq} {A : Option Addr} {c : Nat} (h1 : Pi.kOp.C w A xs.length xs) (l1 : xs.length ≤ c) : Calls Try.prog 15 #[.slice A xs.length c] w fun e w' => ∃ b, e = .returned (.bool b) ∧ (b = false → xs.length ≤ 150 ∧ ∀ x ∈ xs, x.2.2.2.2.2.2.2.2.length ≤ 100) ∧ Below w.heap.size w w' := by
  have e : (xs.map Pi.toO).length = xs.length := List.length_map ..
  obtain ⟨b, hb, hh⟩ : ∃ b, coaminglaw20_heavy.f (xs.length + 1) (xs.map Pi.toO) = some b ∧ (b = false → xs.length ≤ 150 ∧ ∀ x ∈ xs, x.2.2.2.2.2.2.2.2.length ≤ 100) := by
    unfold coaminglaw20_heavy.f
    rw [e]
    by_cases h150 : (xs.length : Int) > 150
    · rw [if_pos h150]
      exact ⟨true, rfl, fun h => by cases h⟩
    · rw [if_neg h150]
      obtain ⟨b, hb, hh⟩ := Pi.heavy_l xs (by omega) (xs.length + 1) 0 (Nat.zero_le _) (by omega)
      refine ⟨b, hb, fun hf => ⟨by omega, fun x hx => ?_⟩⟩
      obtain ⟨j, hj, rfl⟩ := List.mem_iff_getElem.1 hx
      exact hh hf j hj (Nat.zero_le _)
  have h := coaminglaw20_heavy.calls (xs.length + 1) A c (xs.map Pi.toO) b w (by rw [e]; exact Pi.C_O h1) (by rw [e]; exact l1) hb
  rw [e] at h
  refine h.mono ?_
  rintro e w' ⟨rfl, hd⟩
  exact ⟨b, rfl, hh, hd.below⟩
#print axioms heavy_.calls
#print axioms sameall_.calls
#print axioms same_.calls
#print axioms Pi.opens_op
end Go.Proofs.Ytikogcdakdndnaa
