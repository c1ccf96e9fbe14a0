/- Requests as bytes: plain. -/
import Derived.Test.YtemhlinodccokaaReqR
import Derived.Test.YtemhlinodccokaaWireM3
set_option linter.unusedVariables false
set_option linter.unusedSimpArgs false
namespace Go.Proofs.Ytemhlinodccokaa.Wi
open Go.RowKit Go.Proofs.Ytemhlinodccokaa Go.Proofs.Ytemhlinodccokaa.PBase Go.Proofs.YtemhlinodccokaaW.PrintWords Go.Proofs.YtemhlinodccokaaW.PrintLast Go.Proofs.YtemhlinodccokaaW.PrintMore
theorem next_is (l : List Int) (h : l.length ≤ 1000000) (hb : Bytes l) : req_Next.f l = some (nextOf l) := by unfold req_Next.f; rw [if_pos ⟨by omega, hb⟩]
theorem rnext_is (l : List Int) (h : l.length ≤ 1000000) (hb : Bytes l) : coamingref08_Next.f l = some (nextOf l) := by unfold coamingref08_Next.f; rw [if_pos ⟨by omega, hb⟩]
theorem same_request (a b c d e : Int) (l : List Int) : coamingref00_SameRequest.f a b c d e l a b c d e l = some true := by
  unfold coamingref00_SameRequest.f
  rw [if_pos rfl, if_pos rfl, if_pos rfl, if_pos rfl, if_pos rfl, beq_self_eq_true]
/-- a request's head -/
def hd (fl kd ck off n : Int) : List Int := packs [4, 2, 2, 8, 8, 4] [627086611, fl, kd, ck, off, n]
/-- a request as bytes -/
def rqb (fl kd ck off len : Int) (data : List Int) : List Int := if kd = 1 then hd fl kd ck off data.length ++ data else hd fl kd ck off len
/-- a reply as bytes -/
def rpb (code ck : Int) (data : List Int) : List Int := packs [4, 4, 8] [1732535960, code, ck] ++ data
theorem hd_eq (fl kd ck off n : Int) : hd fl kd ck off n = be 627086611 4 ++ (be fl 2 ++ (be kd 2 ++ (be ck 8 ++ (be off 8 ++ be n 4)))) := by
  simp [hd, packs, show wd 4 = 4 from rfl, show wd 2 = 2 from rfl, show wd 8 = 8 from rfl]
theorem hd_len (fl kd ck off n : Int) : (hd fl kd ck off n).length = 28 := by rw [hd_eq]; simp [be_len]
theorem hd_bytes (fl kd ck off n : Int) : Bytes (hd fl kd ck off n) := packs_bytes _ _
theorem bytes_app {a b : List Int} (ha : Bytes a) (hb : Bytes b) : Bytes (a ++ b) := fun x hx => by
  rcases List.mem_append.1 hx with h | h
  · exact ha x h
  · exact hb x h
theorem rqb_bytes (fl kd ck off len : Int) (data : List Int) (h : Bytes data) : Bytes (rqb fl kd ck off len data) := by
  unfold rqb
  split
  · exact bytes_app (hd_bytes _ _ _ _ _) h
  · exact hd_bytes _ _ _ _ _
theorem rpb_bytes (code ck : Int) (data : List Int) (h : Bytes data) : Bytes (rpb code ck data) := bytes_app (packs_bytes _ _) h
theorem rpb_len (code ck : Int) (data : List Int) : (rpb code ck data).length = 16 + data.length := by
  unfold rpb
  simp [packs, show wd 4 = 4 from rfl, show wd 8 = 8 from rfl, be_len]
  omega
theorem form_is : req_form.f = some [4, 2, 2, 8, 8, 4] := rfl
theorem write_is (K : Nat) (hK : 1000 ≤ K) (fl kd ck off len : Int) (data : List Int) (h0 : 0 ≤ fl ∧ fl < 65536) (h1 : 0 ≤ kd ∧ kd < 65536) (h2 : 0 ≤ len ∧ len < 4294967296) (hd' : data.length ≤ 100000) : req_Write.f K fl kd ck off len data = some (rqb fl kd ck off len data) := by
  unfold req_Write.f rqb
  rw [form_is, IntWalk.u64_in fl (by omega), IntWalk.u64_in kd (by omega), IntWalk.u64_in len (by omega), IntWalk.u64_in (data.length : Int) (by omega)]
  by_cases h : kd = 1
  · rw [if_pos h, if_pos h, Option.bind_some, pack_is _ _ (by decide) (by simp) K (by simp; omega), Option.bind_some]
    have := hd_len fl kd ck off data.length
    unfold hd at this
    rw [if_pos (by rw [this]; omega)]
    rfl
  · rw [if_neg h, if_neg h, Option.bind_some, pack_is _ _ (by decide) (by simp) K (by simp; omega), Option.bind_some]
    rfl
theorem rwrite_is (K : Nat) (hK : 1000 ≤ K) (fl kd ck off len : Int) (data : List Int) (h0 : 0 ≤ fl ∧ fl < 65536) (h1 : 0 ≤ kd ∧ kd < 65536) (h2 : 0 ≤ len ∧ len < 4294967296) (hd' : data.length ≤ 100000) : coamingref08_Write.f K fl kd ck off len data = some (rqb fl kd ck off len data) := by
  unfold coamingref08_Write.f rqb
  rw [IntWalk.u64_in fl (by omega), IntWalk.u64_in kd (by omega), IntWalk.u64_in len (by omega), IntWalk.u64_in (data.length : Int) (by omega)]
  by_cases h : kd = 1
  · rw [if_pos h, if_pos h, rpack_is _ _ (by decide) (by simp) K (by simp; omega), Option.bind_some]
    have := hd_len fl kd ck off data.length
    unfold hd at this
    rw [if_pos (by rw [this]; omega)]
    rfl
  · rw [if_neg h, if_neg h, rpack_is _ _ (by decide) (by simp) K (by simp; omega), Option.bind_some]
    rfl
theorem reply_is (K : Nat) (hK : 1000 ≤ K) (code ck : Int) (data : List Int) (h0 : 0 ≤ code ∧ code < 4294967296) (hd' : data.length ≤ 100000) : req_Reply.f K code ck data = some (rpb code ck data) := by
  unfold req_Reply.f
  rw [IntWalk.u64_in code (by omega), pack_is _ _ (by decide) (by simp) K (by simp; omega), Option.bind_some]
  have := rpb_len code ck []
  unfold rpb at this
  rw [List.append_nil] at this
  rw [if_pos (by rw [this]; simp; omega)]
  rfl
theorem rreply_is (K : Nat) (hK : 1000 ≤ K) (code ck : Int) (data : List Int) (h0 : 0 ≤ code ∧ code < 4294967296) (hd' : data.length ≤ 100000) : coamingref08_Reply.f K code ck data = some (rpb code ck data) := by
  unfold coamingref08_Reply.f
  rw [IntWalk.u64_in code (by omega), rpack_is _ _ (by decide) (by simp) K (by simp; omega), Option.bind_some]
  have := rpb_len code ck []
  unfold rpb at this
  rw [List.append_nil] at this
  rw [if_pos (by rw [this]; simp; omega)]
  rfl
theorem of_wf {k : IntKind} {n : Int} (h : (Lit.int k n).wf = true) : k.min ≤ n ∧ n ≤ k.max := by simpa [Lit.wf] using h
theorem of_wf16 {n : Int} (h : (Lit.int .u16 n).wf = true) : 0 ≤ n ∧ n < 65536 := by
  simp [Lit.wf, IntKind.min, IntKind.max, IntKind.signed, IntKind.bits] at h
  omega
theorem of_wf32' {n : Int} (h : (Lit.int .u32 n).wf = true) : 0 ≤ n ∧ n < 4294967296 := by
  simp [Lit.wf, IntKind.min, IntKind.max, IntKind.signed, IntKind.bits] at h
  omega
theorem of_wf64 {n : Int} (h : (Lit.int .u64 n).wf = true) : 0 ≤ n ∧ n < 18446744073709551616 := by
  simp [Lit.wf, IntKind.min, IntKind.max, IntKind.signed, IntKind.bits] at h
  omega
/-- the numbers at the front of a head -/
theorem rq_hd (fl kd ck off n : Int) (more : List Int) (h1 : 0 ≤ fl ∧ fl < 65536) (h2 : 0 ≤ kd ∧ kd < 65536) (h3 : 0 ≤ ck ∧ ck < 18446744073709551616) (h4 : 0 ≤ off ∧ off < 18446744073709551616) (h5 : 0 ≤ n ∧ n < 4294967296) :
    rq0 (hd fl kd ck off n ++ more) = 627086611 ∧ rq1 (hd fl kd ck off n ++ more) = fl ∧ rq2 (hd fl kd ck off n ++ more) = kd ∧ rq3 (hd fl kd ck off n ++ more) = ck ∧ rq4 (hd fl kd ck off n ++ more) = off ∧ rq5 (hd fl kd ck off n ++ more) = n ∧ (hd fl kd ck off n ++ more).drop 28 = more := by
  have e := takes_packs [4, 2, 2, 8, 8, 4] [627086611, fl, kd, ck, off, n] more [] (by simp) (by simp; omega)
  have e2 := takes6 (hd fl kd ck off n ++ more)
  rw [if_neg (by rw [List.length_append, hd_len]; omega)] at e2
  unfold hd at e2 ⊢
  rw [e2] at e
  have e3 : cuts [4, 2, 2, 8, 8, 4] [627086611, fl, kd, ck, off, n] = [627086611, fl, kd, ck, off, n] := by
    simp only [cuts, show wd 4 = 4 from rfl, show wd 2 = 2 from rfl, show wd 8 = 8 from rfl]
    rw [show (627086611 : Int) % 256 ^ 4 = 627086611 by decide, show fl % 256 ^ 2 = fl from Int.emod_eq_of_lt h1.1 (by simpa using h1.2), show kd % 256 ^ 2 = kd from Int.emod_eq_of_lt h2.1 (by simpa using h2.2), show ck % 256 ^ 8 = ck from Int.emod_eq_of_lt h3.1 (by simpa using h3.2), show off % 256 ^ 8 = off from Int.emod_eq_of_lt h4.1 (by simpa using h4.2), show n % 256 ^ 4 = n from Int.emod_eq_of_lt h5.1 (by simpa using h5.2)]
  rw [e3] at e
  simp only [Prod.mk.injEq, List.nil_append, List.cons.injEq, and_true] at e
  obtain ⟨⟨a, b, c, d, e', f⟩, g⟩ := e
  exact ⟨a, b, c, d, e', f, g⟩
end Go.Proofs.Ytemhlinodccokaa.Wi
