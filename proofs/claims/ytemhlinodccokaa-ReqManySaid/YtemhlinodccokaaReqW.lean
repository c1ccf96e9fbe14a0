/- Requests that are written and read: plain; the contracts of Write, Next, LentBytes in short. -/
import Derived.Test.YtemhlinodccokaaReqX
import Derived.Test.YtemhlinodccokaaReqK
import Derived.Test.YtemhlinodccokaaReqN
import Derived.Test.YtemhlinodccokaaOpenR
import Derived.Test.YtemhlinodccokaaWk
set_option linter.unusedVariables false
set_option linter.unusedSimpArgs false
namespace Go.Proofs.Ytemhlinodccokaa
open Go.RowKit Go.Proofs.Ytemhlinodccokaa Go.Proofs.Ytemhlinodccokaa.PBase Go.Proofs.YtemhlinodccokaaW.PrintWords Go.Proofs.YtemhlinodccokaaW.PrintLast Go.Proofs.YtemhlinodccokaaW.PrintMore Go.Proofs.Ytemhlinodccokaa.Wi
namespace Rw
def rqc (x1 x2 x3 x4 x5 : Int) (v : Value) : List Value := [.int .u16 x1, .int .u16 x2, .int .u64 x3, .int .u64 x4, .int .u32 x5, v]
def zrq : List Value := rqc 0 0 0 0 0 (.slice none 0 0)
theorem size28 : (Try.prog.info? 28).map (·.size) = some 6 := by kernel_rfl
theorem size22 : (Try.prog.info? 22).map (·.size) = some 1 := by kernel_rfl
theorem size26 : (Try.prog.info? 26).map (·.size) = some 1 := by kernel_rfl
theorem infoByte : (Try.prog.info? 5).map (fun i => (i.zero, i.size, i.bytes)) = some (some (.int .u8 0), 1, 1) := by kernel_rfl
theorem infoByte1 : (Try.prog.info? 5).map (·.size) = some 1 := by kernel_rfl
/-- a request as bytes -/
def bs (r : Rq) : List Int := rqb r.1 r.2.1 r.2.2.1 r.2.2.2.1 r.2.2.2.2.1 r.2.2.2.2.2
/-- its length, its data, as they are read again -/
def wl (r : Rq) : Int := if r.2.1 = 1 then r.2.2.2.2.2.length else r.2.2.2.2.1
def wd (r : Rq) : List Int := if r.2.1 = 1 then r.2.2.2.2.2 else []
theorem bytes_of {l : List Int} (h : ∀ x ∈ l, (Lit.int .u8 x).wf = true) : Bytes l := fun x hx => by
  have := h x hx
  simp [Lit.wf, IntKind.min, IntKind.max, IntKind.signed, IntKind.bits] at this
  omega
theorem bs_bytes {r : Rq} (h : RqWf r) : Bytes (bs r) := rqb_bytes _ _ _ _ _ _ (bytes_of h.2.2.2.2.2.2)
theorem bs_len (r : Rq) : (bs r).length = if r.2.1 = 1 then 28 + r.2.2.2.2.2.length else 28 := by
  unfold bs rqb
  split
  · rw [List.length_append, hd_len]
  · exact hd_len _ _ _ _ _
theorem next_whole (r : Rq) (h : RqWf r) (hd' : r.2.2.2.2.2.length ≤ 65536) (more : List Int) : nextOf (bs r ++ more) = (r.1, r.2.1, r.2.2.1, r.2.2.2.1, wl r, wd r, ((bs r).length : Int), 0) := by
  obtain ⟨fl, kd, ck, off, len, data⟩ := r
  obtain ⟨h0, h1, h2, h3, h4, _⟩ := h
  change data.length ≤ 65536 at hd'
  have b0 := of_wf16 h0
  have b1 := of_wf16 h1
  have b2 := of_wf64 h2
  have b3 := of_wf64 h3
  have b4 := of_wf32' h4
  unfold nextOf
  have hlen := bs_len (fl, kd, ck, off, len, data)
  by_cases hk : kd = 1
  · have e : bs (fl, kd, ck, off, len, data) ++ more = hd fl kd ck off data.length ++ (data ++ more) := by
      unfold bs rqb
      rw [if_pos hk, List.append_assoc]
    obtain ⟨q0, q1, q2, q3, q4, q5, q6⟩ := rq_hd fl kd ck off data.length (data ++ more) b0 b1 b2 b3 (by omega)
    have hl : (bs (fl, kd, ck, off, len, data)).length = 28 + data.length := by rw [hlen]; exact if_pos hk
    rw [← e] at q0 q1 q2 q3 q4 q5 q6
    rw [if_neg (by rw [List.length_append, hl]; omega), if_neg (by rw [q0]; decide), if_pos (by rw [q2]; exact hk), q5, if_neg (by omega), if_neg (by rw [List.length_append, hl]; omega), q1, q2, q3, q4, q6, Int.toNat_natCast, List.take_left, hl]
    unfold wl wd
    rw [if_pos hk, if_pos hk]
    simp
  · have e : bs (fl, kd, ck, off, len, data) ++ more = hd fl kd ck off len ++ more := by
      unfold bs rqb
      rw [if_neg hk]
    obtain ⟨q0, q1, q2, q3, q4, q5, q6⟩ := rq_hd fl kd ck off len more b0 b1 b2 b3 b4
    have hl : (bs (fl, kd, ck, off, len, data)).length = 28 := by rw [hlen]; exact if_neg hk
    rw [← e] at q0 q1 q2 q3 q4 q5 q6
    rw [if_neg (by rw [List.length_append, hl]; omega), if_neg (by rw [q0]; decide), if_neg (by rw [q2]; exact hk), q1, q2, q3, q4, q5, hl]
    unfold wl wd
    rw [if_neg hk, if_neg hk]
    rfl
theorem next_front (r : Rq) (h : RqWf r) (hd' : r.2.2.2.2.2.length ≤ 65536) (m : Nat) (hm : m < (bs r).length) : nextOf ((bs r).take m) = (0, 0, 0, 0, 0, [], 0, 80) := by
  obtain ⟨fl, kd, ck, off, len, data⟩ := r
  obtain ⟨h0, h1, h2, h3, h4, _⟩ := h
  change data.length ≤ 65536 at hd'
  have b0 := of_wf16 h0
  have b1 := of_wf16 h1
  have b2 := of_wf64 h2
  have b3 := of_wf64 h3
  unfold nextOf
  have hlen := bs_len (fl, kd, ck, off, len, data)
  by_cases h28 : m < 28
  · rw [if_pos (by rw [List.length_take]; omega)]
  · by_cases hk : kd = 1
    · have hl : (bs (fl, kd, ck, off, len, data)).length = 28 + data.length := by rw [hlen]; exact if_pos hk
      have e : (bs (fl, kd, ck, off, len, data)).take m = hd fl kd ck off data.length ++ data.take (m - 28) := by
        unfold bs rqb
        rw [if_pos hk, List.take_append, hd_len, List.take_of_length_le (by rw [hd_len]; omega)]
      obtain ⟨q0, q1, q2, q3, q4, q5, q6⟩ := rq_hd fl kd ck off data.length (data.take (m - 28)) b0 b1 b2 b3 (by omega)
      rw [← e] at q0 q1 q2 q3 q4 q5 q6
      have hl2 : ((bs (fl, kd, ck, off, len, data)).take m).length = m := by rw [List.length_take]; omega
      rw [if_neg (by rw [hl2]; omega), if_neg (by rw [q0]; decide), if_pos (by rw [q2]; exact hk), q5, if_neg (by omega), if_pos (by rw [hl2]; omega)]
    · have hl : (bs (fl, kd, ck, off, len, data)).length = 28 := by rw [hlen]; exact if_neg hk
      omega
theorem K_of {w : World} {A : Option Addr} {c : Nat} {fl kd ck off len : Int} {data : List Int} (hl : data.length ≤ c) (hC : Kd.C (Kd.int .u8) w A data.length data) : kRq.K w (fl, kd, ck, off, len, data) (rqc fl kd ck off len (.slice A data.length c)) :=
  ⟨[_], [_, _, _, _, _], rfl, rfl, [_], [_, _, _, _], rfl, rfl, [_], [_, _, _], rfl, rfl, [_], [_, _], rfl, rfl, [_], [_], rfl, rfl, A, c, rfl, hl, hC⟩
end Rw
theorem wr_.calls {w : World} {r : Rq} {cs : List Value} (hK : kRq.K w r cs) (hw : RqWf r) (hd' : r.2.2.2.2.2.length ≤ 100000) : Calls Try.prog 16 #[.agg cs.toArray] w fun e w' => ∃ A c, e = .returned (.slice A (Rw.bs r).length c) ∧ Kd.R (Kd.int .u8) 5 w' w.heap.size (fun _ => True) (.slice A (Rw.bs r).length c) (Rw.bs r) ∧ Below w.heap.size w w' := by
  obtain ⟨A, c, rfl, hl, hC⟩ := rq_cells hK
  obtain ⟨fl, kd, ck, off, len, data⟩ := r
  refine (req_Write.calls 1000 fl kd ck off len A c data _ w hC hl (write_is 1000 (Nat.le_refl _) fl kd ck off len data (of_wf16 hw.1) (of_wf16 hw.2.1) (of_wf32' hw.2.2.2.2.1) hd')).mono ?_
  rintro e w' ⟨v, rfl, hR, hb⟩
  obtain ⟨A', c', rfl⟩ := Kd.R_slice hR
  exact ⟨A', c', rfl, hR, hb⟩
theorem lent_.calls {w : World} {A : Option Addr} {c : Nat} {l : List Int} (hC : Kd.C (Kd.int .u8) w A l.length l) (hc : l.length ≤ c) (hl : l.length ≤ 1000000) : Calls Try.prog 10 #[.slice A l.length c] w fun e w' => ∃ A c, e = .returned (.slice A l.length c) ∧ Kd.R (Kd.int .u8) 5 w' w.heap.size (fun _ => True) (.slice A l.length c) l ∧ Below w.heap.size w w' := by
  refine (coamingref00_LentBytes.calls A c l l w hC hc (lent_bytes l hl)).mono ?_
  rintro e w' ⟨v, rfl, hR, hb⟩
  obtain ⟨A', c', rfl⟩ := Kd.R_slice hR
  exact ⟨A', c', rfl, hR, hb⟩
theorem next_.calls {w : World} {A : Option Addr} {c : Nat} {l : List Int} {r1 r2 r3 r4 r5 r7 r8 : Int} {r6 : List Int} (hC : Kd.C (Kd.int .u8) w A l.length l) (hc : l.length ≤ c) (hl : l.length ≤ 1000000) (hb : Bytes l) (hn : nextOf l = (r1, r2, r3, r4, r5, r6, r7, r8)) : Calls Try.prog 11 #[.slice A l.length c] w fun e w' => ∃ A c, e = .returned (.tuple #[.agg (Rw.rqc r1 r2 r3 r4 r5 (.slice A r6.length c)).toArray, .int .i64 r7, .int .u16 r8]) ∧ Kd.R (Kd.int .u8) 5 w' w.heap.size (fun _ => True) (.slice A r6.length c) r6 ∧ Below w.heap.size w w' := by
  refine (req_Next.calls A c l r1 r2 r3 r4 r5 r6 r7 r8 w hC hc (by rw [next_is l hl hb, hn])).mono ?_
  rintro e w' ⟨v, rfl, hR, hb⟩
  obtain ⟨A', c', rfl⟩ := Kd.R_slice hR
  exact ⟨A', c', rfl, hR, hb⟩
theorem kn_.calls (w : World) : Calls Try.prog 13 #[] w fun e w' => e = .returned (.bool true) ∧ Below w.heap.size w w' := known_.calls true w rfl
theorem samebs_.calls {w : World} {A A' : Option Addr} {c c' : Nat} {l : List Int} (h1 : Kd.C (Kd.int .u8) w A l.length l) (l1 : l.length ≤ c) (h2 : Kd.C (Kd.int .u8) w A' l.length l) (l2 : l.length ≤ c') : Calls Try.prog 15 #[.slice A l.length c, .slice A' l.length c'] w fun e w' => e = .returned (.bool true) ∧ Below w.heap.size w w' := by
  refine (coamingref00_SameBytes.calls A c l A' c' l true w h1 l1 h2 l2 (same_bytes l)).mono ?_
  rintro e w' ⟨rfl, h⟩
  exact ⟨rfl, h.below⟩
theorem samerq_.calls {w : World} {r : Rq} {c1 c2 : List Value} (h1 : kRq.K w r c1) (h2 : kRq.K w r c2) : Calls Try.prog 14 #[.agg c1.toArray, .agg c2.toArray] w fun e w' => e = .returned (.bool true) ∧ Below w.heap.size w w' := by
  obtain ⟨A, c, rfl, hl, hC⟩ := rq_cells h1
  obtain ⟨A2, c2, rfl, hl2, hC2⟩ := rq_cells h2
  exact coamingref00_SameRequest.calls _ _ _ _ _ A c _ _ _ _ _ _ A2 c2 _ true w hC hl hC2 hl2 (same_request _ _ _ _ _ _)
#print axioms samerq_.calls
#print axioms next_.calls
#print axioms wr_.calls
end Go.Proofs.Ytemhlinodccokaa
