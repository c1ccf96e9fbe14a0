/- coaminglaw08.ReqWrites: for every request, number and bytes; no conditions. -/
import Derived.Test.YtemhlinodccokaaPReqWritesx1
import Derived.Test.YtemhlinodccokaaReqX
import Derived.Test.YtemhlinodccokaaOpenR
set_option linter.unusedVariables false
set_option linter.unusedSimpArgs false
namespace Go.Proofs.Ytemhlinodccokaa
open Go.RowKit Go.Proofs.Ytemhlinodccokaa Go.Proofs.Ytemhlinodccokaa.PReqWrites Go.Proofs.Ytemhlinodccokaa.PBase Go.Proofs.YtemhlinodccokaaW.PrintWords Go.Proofs.YtemhlinodccokaaW.PrintLast Go.Proofs.YtemhlinodccokaaW.PrintMore Go.Proofs.Ytemhlinodccokaa.Wi
namespace Pure
theorem ReqWrites (r : Rq) (hr : RqWf r) (a ck : Int) (ha : (Lit.int .u32 a).wf = true) (l : List Int) (K : Nat) (hK : 1000 ≤ K) : coaminglaw08_ReqWrites.f (K + 1) r.1 r.2.1 r.2.2.1 r.2.2.2.1 r.2.2.2.2.1 r.2.2.2.2.2 a ck l = some true := by
  obtain ⟨fl, kd, c, off, len, data⟩ := r
  obtain ⟨h0, h1, h2, h3, h4, _⟩ := hr
  have b0 := of_wf16 h0
  have b1 := of_wf16 h1
  have b4 := of_wf32' h4
  have bn := of_wf32' ha
  show coaminglaw08_ReqWrites.f (K + 1) fl kd c off len data a ck l = some true
  unfold coaminglaw08_ReqWrites.f
  by_cases hd1 : (data.length : Int) > 2000
  · rw [if_pos hd1, coaminglaw08_ReqWrites.j0, if_pos rfl]
  · rw [if_neg hd1]
    by_cases hl1 : (l.length : Int) > 2000
    · rw [decide_eq_true hl1, coaminglaw08_ReqWrites.j0, if_pos rfl]
    · rw [decide_eq_false hl1, coaminglaw08_ReqWrites.j0, if_neg (by decide), show known_.f = some true from rfl, Option.bind_some, if_pos rfl, write_is K hK fl kd c off len data b0 b1 b4 (by omega), Option.bind_some, rwrite_is K hK fl kd c off len data b0 b1 b4 (by omega), Option.bind_some, same_bytes, Option.bind_some, if_pos rfl,
        reply_is K hK a ck l bn (by omega), Option.bind_some, rreply_is K hK a ck l bn (by omega), Option.bind_some, same_bytes, Option.bind_some]
end Pure
theorem reqWrites_.calls (x0 : Rq) (cs0 : List Value) (x1 : Int) (v1 : Value) (x2 : Int) (v2 : Value) (x3 : List Int) (v3 : Value) (W : World) (hK0 : kRq.K W x0 cs0) (hw0 : RqWf x0) (hK1 : (Kd.int .u32).K W x1 [v1]) (hw1 : (Lit.int .u32 x1).wf = true) (hK2 : (Kd.int .u64).K W x2 [v2]) (hw2 : (Lit.int .u64 x2).wf = true) (hK3 : (Kd.slice 5 (Kd.int .u8)).K W x3 [v3]) (hw3 : x3.length ≤ maxLen ∧ ∀ x ∈ x3, (Lit.int .u8 x).wf = true) :
    Calls Try.prog 4 #[.agg cs0.toArray, v1, v2, v3] W fun e w' => e = .returned (.bool true) ∧ Below W.heap.size W w' := by
  obtain ⟨A, c, rfl, hl, hC⟩ := rq_cells hK0
  obtain rfl : v1 = .int .u32 x1 := by cases hK1; rfl
  obtain rfl : v2 = .int .u64 x2 := by cases hK2; rfl
  obtain ⟨A3, c3, he3, hl3, hC3⟩ := hK3
  obtain rfl : v3 = .slice A3 x3.length c3 := by simpa using he3
  obtain ⟨fl, kd, ck, off, len, data⟩ := x0
  obtain ⟨K, hK⟩ : ∃ K : Nat, 1000 ≤ K := ⟨1000, Nat.le_refl _⟩
  exact coaminglaw08_ReqWrites.calls (K + 1) fl kd ck off len A c data x1 x2 A3 c3 x3 true W hC hl hC3 hl3 (Pure.ReqWrites (fl, kd, ck, off, len, data) hw0 x1 x2 hw1 x3 K hK)
end Go.Proofs.Ytemhlinodccokaa
