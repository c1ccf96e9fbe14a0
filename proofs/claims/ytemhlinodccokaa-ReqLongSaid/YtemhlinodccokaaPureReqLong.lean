/- coaminglaw08.ReqLong: for every request and number; no conditions. -/
import Derived.Test.YtemhlinodccokaaPReqLongx1
import Derived.Test.YtemhlinodccokaaReqX
import Derived.Test.YtemhlinodccokaaOpenR
set_option linter.unusedVariables false
set_option linter.unusedSimpArgs false
namespace Go.Proofs.Ytemhlinodccokaa
open Go.RowKit Go.Proofs.Ytemhlinodccokaa Go.Proofs.Ytemhlinodccokaa.PReqLong Go.Proofs.Ytemhlinodccokaa.PBase Go.Proofs.YtemhlinodccokaaW.PrintWords Go.Proofs.YtemhlinodccokaaW.PrintLast Go.Proofs.YtemhlinodccokaaW.PrintMore Go.Proofs.Ytemhlinodccokaa.Wi
namespace Pure
theorem be4 (n : Int) : be n 4 = [n / 16777216 % 256, n / 65536 % 256, n / 256 % 256, n % 256] := by
  simp [be]
theorem hd_set (fl ck off n : Int) : ((((hd fl 1 ck off 0 ++ []).set 24 (n / 16777216 % 256)).set 25 (n / 65536 % 256)).set 26 (n / 256 % 256)).set 27 (n % 256) = hd fl 1 ck off n := by
  rw [hd_eq, hd_eq, be4, be4]
  simp [be]
theorem ReqLong (r : Rq) (hr : RqWf r) (n : Int) (hn : (Lit.int .u32 n).wf = true) (K : Nat) (hK : 1000 ≤ K) : coaminglaw08_ReqLong.f K r.1 r.2.1 r.2.2.1 r.2.2.2.1 r.2.2.2.2.1 r.2.2.2.2.2 n = some true := by
  obtain ⟨fl, kd, ck, off, len, data⟩ := r
  obtain ⟨h0, h1, h2, h3, h4, _⟩ := hr
  have b0 := of_wf16 h0
  have b2 := of_wf64 h2
  have b3 := of_wf64 h3
  have b4 := of_wf32' h4
  have bn := of_wf32' hn
  show coaminglaw08_ReqLong.f K fl kd ck off len data n = some true
  unfold coaminglaw08_ReqLong.f
  rw [show known_.f = some true from rfl, Option.bind_some, if_pos rfl, write_is K hK fl 1 ck off len [] b0 (by omega) b4 (by simp), Option.bind_some]
  have e : rqb fl 1 ck off len [] = hd fl 1 ck off 0 ++ [] := rfl
  have hl : (rqb fl 1 ck off len []).length = 28 := by rw [e, List.append_nil, hd_len]
  rw [hl]
  rw [if_pos (by decide), if_pos (by decide), if_pos (by decide), if_pos (by decide)]
  have hm : Int.tmod n 1048576 = n % 1048576 := Int.tmod_eq_emod_of_nonneg bn.1
  rw [hm]
  obtain ⟨m, hmd⟩ : ∃ m, n % 1048576 = m := ⟨_, rfl⟩
  have hmb : 0 ≤ m ∧ m < 1048576 := by omega
  rw [hmd, e]
  have es := hd_set fl ck off m
  rw [show ((24 : Int).toNat) = 24 from rfl, show ((25 : Int).toNat) = 25 from rfl, show ((26 : Int).toNat) = 26 from rfl, show ((27 : Int).toNat) = 27 from rfl, es]
  have hq := rq_hd fl 1 ck off m [] b0 (by omega) b2 b3 (by omega)
  rw [List.append_nil] at hq
  obtain ⟨q0, q1, q2, q3, q4, q5, q6⟩ := hq
  have hhl := hd_len fl 1 ck off m
  rw [next_is _ (by rw [hhl]; decide) (hd_bytes _ _ _ _ _), Option.bind_some]
  have hne : nextOf (hd fl 1 ck off m) = if m > 65536 then (0, 0, 0, 0, 0, [], 0, 82) else if 28 + m > (28 : Nat) then (0, 0, 0, 0, 0, [], 0, 80) else (fl, 1, ck, off, m, ((hd fl 1 ck off m).drop 28).take m.toNat, 28 + m, 0) := by
    unfold nextOf
    rw [hhl, if_neg (by omega), q0, if_neg (by omega), q2, if_pos rfl, q1, q3, q4, q5]
  by_cases h0' : m = 0
  · rw [if_neg (by omega), if_neg (by omega)] at hne
    rw [hne, if_pos h0', if_pos rfl, h0']
    rfl
  · by_cases h6 : m > 65536
    · rw [if_pos h6] at hne
      rw [hne, if_neg h0', if_pos h6, if_pos rfl]
      rfl
    · rw [if_neg h6, if_pos (by omega)] at hne
      rw [hne, if_neg h0', if_neg h6, if_pos rfl]
      rfl
end Pure
theorem reqLong_.calls (x0 : Rq) (cs0 : List Value) (x1 : Int) (v1 : Value) (W : World) (hK0 : kRq.K W x0 cs0) (hw0 : RqWf x0) (hK1 : (Kd.int .u32).K W x1 [v1]) (hw1 : (Lit.int .u32 x1).wf = true) :
    Calls Try.prog 9 #[.agg cs0.toArray, v1] W fun e w' => e = .returned (.bool true) ∧ Below W.heap.size W w' := by
  obtain ⟨A, c, rfl, hl, hC⟩ := rq_cells hK0
  obtain rfl : v1 = .int .u32 x1 := by cases hK1; rfl
  obtain ⟨fl, kd, ck, off, len, data⟩ := x0
  obtain ⟨K, hK⟩ : ∃ K : Nat, 1000 ≤ K := ⟨1000, Nat.le_refl _⟩
  exact coaminglaw08_ReqLong.calls K fl kd ck off len A c data x1 true W hC hl (Pure.ReqLong (fl, kd, ck, off, len, data) hw0 x1 hw1 K hK)
end Go.Proofs.Ytemhlinodccokaa
