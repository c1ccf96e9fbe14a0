/- coaminglaw08.known answers true. -/
import Derived.Test.YtemhlinodccokaaReqS
import Derived.Test.YtemhlinodccokaaReqMap
import Derived.Test.YtemhlinodccokaaPBasex
import Derived.Lib.SlBytesConst
set_option linter.unusedVariables false
set_option linter.unusedSimpArgs false
namespace Go.Proofs.Ytemhlinodccokaa
open Go.RowKit Go.Proofs.YtemhlinodccokaaW.PrintWords Go.Proofs.YtemhlinodccokaaW.PrintLast Go.Proofs.YtemhlinodccokaaW.PrintMore Go.Maps
namespace Wi
def exQ : List Int := [37, 96, 149, 19, 0, 0, 0, 0, 0, 0, 0, 0, 0, 0, 0, 5, 0, 0, 0, 0, 0, 0, 0, 8, 0, 0, 0, 4]
def exA : List Int := [103, 68, 102, 152, 0, 0, 0, 0, 0, 0, 0, 0, 0, 0, 0, 5, 97, 98, 99, 100]
theorem write_ex : PBase.req_Write.f 100 0 0 5 8 4 [] = some exQ := by decide +kernel
theorem reply_ex : PBase.req_Reply.f 100 0 5 [97, 98, 99, 100] = some exA := by decide +kernel
theorem repls_ex (m : Int → Int) (h5 : m 5 = 4) : repls m exA [] [] [] = ([0], [5], [[97, 98, 99, 100]], true) := by
  have e0 : rp0 exA = 1732535960 := by decide +kernel
  have e1 : rp1 exA = 0 := by decide +kernel
  have e2 : rp2 exA = 5 := by decide +kernel
  have en : rpn m exA = 4 := by unfold rpn; rw [e1, e2, if_pos rfl, h5]
  have hk : rpOk m exA := ⟨by decide, e0, by rw [en]; decide⟩
  rw [repls_good m exA _ _ _ hk, repls_nil _ _ _ _ _ (by unfold rpRest; rw [en]; rfl)]
  unfold rpData
  rw [en, e1, e2]
  rfl
theorem bytes_ex : Bytes exA := by unfold Bytes; decide +kernel
theorem bytes_exQ : Bytes exQ := by unfold Bytes; decide +kernel
theorem next_ex : req_Next.f exQ = some (0, 0, 5, 8, 4, [], 28, 0) := by
  unfold req_Next.f
  rw [if_pos ⟨by decide, bytes_exQ⟩]
  have : nextOf exQ = (0, 0, 5, 8, 4, [], 28, 0) := by kernel_rfl
  rw [this]
theorem one_int {k : IntKind} {e : Nat} {w : World} {base : Nat} {v : Value} {x : Int} (h : Kd.R (Kd.int k) e w base (fun _ => True) v [x]) : ∃ g c, v = .slice (some ⟨g, 0, none⟩) 1 c ∧ w.cell? ⟨g, 0, none⟩ = some (.int k x) := by
  have ho := Kd.own_of_R h
  obtain ⟨g, c, rfl, hb, hl⟩ := ho.form (by simp)
  have := ho.cells (g := g) rfl 0 (.int k x) rfl
  rw [add_plain] at this
  exact ⟨g, c, rfl, this⟩
theorem one_row {e e' : Nat} {w : World} {base : Nat} {v : Value} {x : List Int} (h : Kd.R (Kd.slice e' (Kd.int .u8)) e w base (fun _ => True) v [x]) : ∃ ad c A c', v = .slice (some ad) 1 c ∧ w.cell? ad = some (.slice A x.length c') ∧ x.length ≤ c' ∧ Kd.C (Kd.int .u8) w A x.length x := by
  obtain ⟨A, c, rfl, _, hC⟩ := Kd.R_reads h
  obtain ⟨ad, cs, rfl, _, ⟨A', c', rfl, hl, hC'⟩, hcell⟩ := Kd.C_get hC [] 0 (by decide) (by simp)
  have h0 := hcell 0 _ rfl
  exact ⟨ad, c, A', c', rfl, by simpa [Addr.add] using h0, hl, hC'⟩
end Wi
def known_.f : Option Bool := some true
set_option maxHeartbeats 1000000 in
set_option maxRecDepth 100000 in
theorem known_.calls (r : Bool) (w : World) (h : known_.f = some r) :
    Calls Try.prog 13 #[] w fun e w' => e = .returned (.bool r) ∧ Below w.heap.size w w' := by
  obtain rfl := Option.some.inj h
  have kc := fun (w : World) (C : Array Value) (n c : Nat) => Lib.run_convert_bytes_const (P := Try.prog) w 22 5 C n c Try.underlying22 Try.underlying5
  have kc2 := fun (w : World) (o : Obj) (C : Array Value) (n c : Nat) => (show (convert 22 22 (.slice (some ⟨w.heap.size + 1, 0, none⟩) n c)).run Try.prog ((w.alloc o).alloc (.cells C 5)) = .ok (.slice (some ⟨w.heap.size + 1, 0, none⟩) n c) ((w.alloc o).alloc (.cells C 5 (C.size, C.size + 1))) from by
    have := Lib.run_convert_bytes_const (P := Try.prog) (w.alloc o) 22 5 C n c Try.underlying22 Try.underlying5
    simpa using this)
  clear kc
  have hmm := @run_makeMap Try.prog
  go_enter Try.func13, Try.ntmps13
  go_wp2_with fail
  generalize hWq : World.alloc w _ = W0
  have HB0 : Aside0 (Below w.heap.size w W0) := ⟨by rw [← hWq]; exact below_alloc (Below.refl _ _) _⟩
  clear hWq
  refine (PBase.req_Write.calls 100 0 0 5 8 4 none 0 [] Wi.exQ W0 ⟨rfl, by decide, fun h => absurd h (by decide)⟩ (by decide) Wi.write_ex).mono ?_
  rintro e w1 ⟨v1, rfl, hr1, hb1⟩
  obtain ⟨A1, c1, rfl, hl1, hC1⟩ := Kd.R_reads hr1
  have HC1 := Aside0.mk hC1
  have HL1 := Aside0.mk hl1
  have HB1 := Aside0.mk (below_then HB0.out HB0.out.size hb1)
  clear hr1 hC1 hb1 hl1
  go_wp2_with fail
  refine (req_Next.calls A1 c1 Wi.exQ 0 0 5 8 4 [] 28 0 w1 HC1.out HL1.out Wi.next_ex).mono ?_
  rintro e w2 ⟨v2, rfl, hr2, hb2⟩
  obtain ⟨A2, c2, rfl⟩ := Kd.R_slice hr2
  have HB2 := Aside0.mk (below_then HB1.out HB1.out.size hb2)
  clear hr2 hb2 HC1 HL1
  go_wp2_with fail
  generalize hWq : World.alloc w2 _ = W2
  have HB3 : Aside0 (Below w.heap.size w W2) := ⟨by rw [← hWq]; exact HB2.out.alloc HB2.out.size _⟩
  have HZ : Aside0 (Wk.Blk W2 w2.heap.size 28 (Wi.rqc 0 0 5 8 4 (.slice A2 0 c2))) := ⟨by rw [← hWq]; exact Wk.Blk.new w2 _ (Wi.rqc 0 0 5 8 4 (.slice A2 0 c2))⟩
  have HG : Aside0 (w2.heap.size + 1 = W2.heap.size) := ⟨by rw [← hWq]; simp⟩
  obtain ⟨b2, HB2E⟩ : ∃ b, Aside0 (w2.heap.size = b) := ⟨_, ⟨rfl⟩⟩
  rw [HG.out]
  rw [HB2E.out] at HZ ⊢
  clear hWq kc2 HG HB2E HB2
  refine (PBase.req_Reply.calls 100 0 5 (some ⟨W2.heap.size, 0, none⟩) 4 [97, 98, 99, 100] Wi.exA _ ?r0 (by decide) Wi.reply_ex).mono ?_
  case r0 => exact Lit.reads_new W2 _ _ _ .u8 [97, 98, 99, 100] rfl (by decide)
  rintro e w3 ⟨v3, rfl, hr3, hb3⟩
  obtain ⟨A3, c3, rfl, hl3, hC3⟩ := Kd.R_reads hr3
  have HC3 := Aside0.mk hC3
  have HL3 := Aside0.mk hl3
  have HZ3 := Aside0.mk ((HZ.out.alloc _).below_ hb3)
  have HB4 := Aside0.mk (Lit.one_below HB3.out hb3)
  clear hr3 hC3 hb3 hl3 HZ HB3
  have HOW : Aside0 ((w3.alloc (.map #[] 0)).ownsMap (H := Unit) Try.prog 25 (plainElem Try.prog 26) w3.heap.size 0 (.map [])) := ⟨World.ownsMap_made _ _ _ _⟩
  have HK5 : Aside0 (keyOf Try.prog 25 (.int .u64 5) = some (.int .u64 5)) := ⟨keyOf_int_mk Try.underlying25 (Wi.wf64 (by decide) (by decide))⟩
  have HE4 : Aside0 (plainElem (H := Unit) Try.prog 26 (.int .u32 4) = some (.lit (.int .u32 4), [])) := ⟨plainElem_int Try.underlying26 (Wi.wf32 (by decide) (by decide))⟩
  have HML : Aside0 (0 < maxLen) := ⟨by unfold maxLen; omega⟩
  obtain ⟨w4, hrun, hown, hgrow⟩ := HOW.out.update Wi.law Try.underlying41 HML.out HK5.out HE4.out
  have HMP : Aside0 (Wi.Map w4 (.map (some w3.heap.size)) (Wi.valOf ((DataW.map (H := Unit) []).put (.int .u64 5) (.lit (.int .u32 4))))) := ⟨Wi.Map_of_owns hown⟩
  have HV5 : Aside0 (Wi.valOf ((DataW.map (H := Unit) []).put (.int .u64 5) (.lit (.int .u32 4))) 5 = 4) := ⟨Wi.valOf_is (by rfl) (Wi.wf32 (by decide) (by decide))⟩
  have HB5 : Aside0 (Below w.heap.size w w4 ∧ Below w3.heap.size w3 w4) := ⟨(HB4.out.alloc HB4.out.size _).grown hgrow (by have := HB4.out.size; simp; omega) (fun k hk => by injection hk with hk; have := HB4.out.size; omega), ((Below.refl _ _).alloc (Nat.le_refl _) _).grown hgrow (by simp) (fun k hk => by injection hk with hk; omega)⟩
  generalize Wi.valOf _ = m at *
  have HRX := Aside0.mk (Wi.repls_ex m HV5.out)
  have HZ4 := Aside0.mk (HZ3.out.below_ HB5.out.2)
  have HC4 := Aside0.mk (Kd.C_below HC3.out HB5.out.2)
  clear hown hgrow HOW HK5 HE4 HML HV5 HZ3 HC3
  go_wp2_with fail
  have HF := replies_.calls m A3 c3 Wi.exA (some w3.heap.size) w4 HC4.out HL3.out (by decide) Wi.bytes_ex HMP.out
  rw [HRX.out] at HF
  refine HF.mono ?_
  rintro e w5 ⟨v0, v1, v2, rfl, r0, r1, r2, hb⟩
  obtain ⟨g0, k0, rfl, d0⟩ := Wi.one_int r0
  obtain ⟨g1, k1, rfl, d1⟩ := Wi.one_int r1
  obtain ⟨ad, k2, Ad, kd, rfl, d2, _, hCd⟩ := Wi.one_row r2
  have hcv := Kd.C_string (P := Try.prog) (A := Ad) (c := kd) Try.underlying22 Try.underlying5 Try.underlying9 hCd
  rw [show strOfNums [97, 98, 99, 100] = ⟨#[97, 98, 99, 100]⟩ by rfl] at hcv
  have HZ5 := HZ4.out.below_ hb
  have z2 := HZ5.at_ 2 rfl
  have z3 := HZ5.at_ 3 rfl
  have z4 := HZ5.at_ 4 rfl
  have HB6 := Aside0.mk (below_then HB5.out.1 HB5.out.1.size hb)
  clear r0 r1 r2 hb HF HRX HZ5 HZ4 HC4 hCd HMP hrun hmm HB5
  change Sem.run _ (convert _ _ (Value.slice Ad 4 kd)) _ = _ at hcv
  change w5.cell? ad = some (.slice Ad 4 kd) at d2
  go_wp2_with fail
  go_ret
  exact ⟨rfl, HB6.out⟩
#print axioms known_.calls
end Go.Proofs.Ytemhlinodccokaa
