/- What the law's proof stands on, part 5: PassQ, MacS, PassC, OpenR, PassK, PassRow, PipeW, PipeA, PipeL, WireM1, WireM2, GreetM, GreetA, ReqM, ConnM, ConnV, GreetW, GreetX, ReqN, WireM3, ReqX, ReqW, ConnW, ConnA, ConnB, ConnC, ConnD (laid together by wip/pack.py). -/
import Derived.Test.YtgljicdpcapgnaaDoorProg
import Derived.Test.YtgljicdpcapgnaaDoorRows
import Derived.Test.YtgljicdpcapgnaaDoorCards
import Derived.Test.YtgljicdpcapgnaaDoorTie
import Derived.Test.YtgljicdpcapgnaaDoorXEP4
import Derived.ProofKit
import Derived.LaidMore
import Derived.OpenShut
import Derived.Stop.Joined
import Derived.SevenTiedAt
import Derived.SizedLaws
import Derived.Laws.ResultCell
set_option linter.unusedVariables false
set_option linter.unusedSimpArgs false
namespace Go.Proofs.YtgljicdpcapgnaaDoor
open Go.RowKit Go.Proofs.YtgljicdpcapgnaaDoor.PBase Go.Proofs.YtgljicdpcapgnaaDoorW.PrintWords Go.Proofs.YtgljicdpcapgnaaDoorW.PrintLast Go.Proofs.YtgljicdpcapgnaaDoorW.PrintMore
namespace Ps
theorem find_mem {l : List Tn} {id : Int} {x : Tn} (h : find l id = some x) : x ∈ l ∧ x.f0 = id := by
  unfold find at h
  exact ⟨List.mem_of_find?_eq_some h, by simpa using List.find?_some h⟩
theorem zn_wf : TnWf zn := ⟨⟨Int.le_refl _, by show (0 : Int) < 4294967296; decide⟩, by show 0 ≤ 1000; decide, by show 0 ≤ 1000; decide, fun x h => by cases h⟩
theorem got_wf {l : List Tn} (hW : ∀ x ∈ l, TnWf x) (id : Int) : TnWf ((find l id).getD zn) := by
  cases h : find l id with
  | none => exact zn_wf
  | some x => exact hW x (find_mem h).1
theorem Tm.looks {W : World} {b : Nat} {l : List Tn} (h : Tm W b l) (id : Int) (h0 : 0 ≤ id) (h1 : id < 4294967296) :
    ∃ A0 c0 A1 c1, (∀ W', Below W.heap.size W W' → (Instr.lookup 85 (.map (some b)) (.int .u32 id) true).run Tryd.prog W' = .ok (.tuple #[.agg (tnc ((find l id).getD zn) A0 c0 A1 c1).toArray, .bool (find l id).isSome]) W') ∧ ((find l id).getD zn).f1.length ≤ c0 ∧ ((find l id).getD zn).f4.length ≤ c1 ∧ Kd.C (Kd.int .u8) W A0 ((find l id).getD zn).f1.length ((find l id).getD zn).f1 ∧ Kd.C (Kd.int .u32) W A1 ((find l id).getD zn).f4.length ((find l id).getD zn).f4 := by
  rcases h.look id h0 h1 with ⟨hf, hr⟩ | ⟨x, A0, c0, A1, c1, hf, hr, l0, l1, g0, g1⟩
  · rw [hf]
    exact ⟨none, 0, none, 0, hr, Nat.le_refl _, Nat.le_refl _, Kd.C_nil _ _, Kd.C_nil _ _⟩
  · rw [hf]
    exact ⟨A0, c0, A1, c1, hr, l0, l1, g0, g1⟩
def TenPost (w : World) (l : List Tn) (id : Int) (e : Ending) (w' : World) : Prop :=
  Below w.heap.size w w' ∧ ∃ A0 c0 A1 c1, e = .returned (.tuple #[.agg (tnc ((find l id).getD zn) A0 c0 A1 c1).toArray, .bool (find l id).isSome]) ∧ ((find l id).getD zn).f1.length ≤ c0 ∧ ((find l id).getD zn).f4.length ≤ c1 ∧
    Kd.R (Kd.int .u8) 5 w' w.heap.size (fun _ => True) (.slice A0 ((find l id).getD zn).f1.length c0) ((find l id).getD zn).f1 ∧ Kd.R (Kd.int .u32) 33 w' w.heap.size (fun _ => True) (.slice A1 ((find l id).getD zn).f4.length c1) ((find l id).getD zn).f4
end Ps
end Go.Proofs.YtgljicdpcapgnaaDoor
set_option linter.unusedVariables false
set_option linter.unusedSimpArgs false
namespace Go.Proofs.YtgljicdpcapgnaaDoor
open Go.RowKit Go.Proofs.YtgljicdpcapgnaaDoorW.PrintWords
namespace Sh
open PBase
theorem wrap_toNat (x : BitVec 8) : IntKind.u8.wrap (x.toNat : Int) = (x.toNat : Int) := by
  rw [IntKind.wrap_u8]
  have := x.isLt
  omega
theorem ofInt_wrap (x : BitVec 8) : BitVec.ofInt 8 (IntKind.u8.wrap (x.toNat : Int)) = x := by
  rw [wrap_toNat]
  apply BitVec.eq_of_toNat_eq
  rw [BitVec.ofInt_natCast, BitVec.toNat_ofNat]
  exact Nat.mod_eq_of_lt x.isLt
theorem ofInt_inj (a b : Int) (ha : 0 ≤ a ∧ a ≤ 255) (hb : 0 ≤ b ∧ b ≤ 255) (h : BitVec.ofInt 8 a = BitVec.ofInt 8 b) : a = b := by
  obtain ⟨m, rfl⟩ := Int.eq_ofNat_of_zero_le ha.1
  obtain ⟨n, rfl⟩ := Int.eq_ofNat_of_zero_le hb.1
  have := congrArg BitVec.toNat h
  rw [BitVec.ofInt_natCast, BitVec.ofInt_natCast, BitVec.toNat_ofNat, BitVec.toNat_ofNat, Nat.mod_eq_of_lt (by omega), Nat.mod_eq_of_lt (by omega)] at this
  rw [this]
theorem or_xor_zero (x a b : Int) (hx : 0 ≤ x ∧ x ≤ 255) (ha : 0 ≤ a ∧ a ≤ 255) (hb : 0 ≤ b ∧ b ≤ 255) : bits .or .u8 x (bits .xor .u8 a b) = 0 ↔ x = 0 ∧ a = b := by
  have hxor : BitVec.ofInt 8 (bits .xor .u8 a b) = BitVec.ofInt 8 a ^^^ BitVec.ofInt 8 b := ofInt_wrap (BitVec.ofInt 8 a ^^^ BitVec.ofInt 8 b)
  have hor : bits .or .u8 x (bits .xor .u8 a b) = ((BitVec.ofInt 8 x ||| (BitVec.ofInt 8 a ^^^ BitVec.ofInt 8 b)).toNat : Int) := by
    rw [← hxor]
    exact wrap_toNat (BitVec.ofInt 8 x ||| BitVec.ofInt 8 (bits .xor .u8 a b))
  rw [hor]
  constructor
  · intro h
    have h0 : BitVec.ofInt 8 x ||| (BitVec.ofInt 8 a ^^^ BitVec.ofInt 8 b) = 0#8 := by
      apply BitVec.eq_of_toNat_eq
      have : (BitVec.ofInt 8 x ||| (BitVec.ofInt 8 a ^^^ BitVec.ofInt 8 b)).toNat = 0 := by omega
      rw [this]; rfl
    rw [BitVec.or_eq_zero_iff, BitVec.xor_eq_zero_iff] at h0
    refine ⟨ofInt_inj x 0 hx (by omega) (h0.1.trans rfl), ofInt_inj a b ha hb h0.2⟩
  · rintro ⟨rfl, rfl⟩
    rw [BitVec.xor_self]
    rfl
theorem rd_nat' (l : List Int) (i : Nat) : rd l (i : Int) = l.getD i 0 := by simp [rd, List.getD_eq_getElem?_getD]
theorem same_loop (l0 l1 : List Int) (h : l0.length = l1.length) (hm : l0.length ≤ 4611686018427387904) (hb0 : Bytes l0) (hb1 : Bytes l1) : ∀ (d i k : Nat) (x : Int), i + d = l0.length → d < k → (0 ≤ x ∧ x ≤ 255) →
    mac_Same.l0 k l0 l1 x (l0.length : Int) i = some (decide (x = 0 ∧ l0.drop i = l1.drop i))
  | 0, i, k, x, hi, hk, hx => by
    obtain ⟨k, rfl⟩ : ∃ m, k = m + 1 := ⟨k - 1, by omega⟩
    rw [mac_Same.l0, if_neg (by omega), List.drop_of_length_le (by omega), List.drop_of_length_le (by omega)]
    simp [Bool.beq_eq_decide_eq]
  | d + 1, i, k, x, hi, hk, hx => by
    obtain ⟨k, rfl⟩ : ∃ m, k = m + 1 := ⟨k - 1, by omega⟩
    have h0 : i < l0.length := by omega
    have h1 : i < l1.length := by omega
    have e1 : wrap64 ((i : Int) + 1) = ((i + 1 : Nat) : Int) := by unfold wrap64; omega
    rw [mac_Same.l0, e1]
    clear e1
    rw [if_pos (by omega), if_pos (by omega), if_pos (by omega), if_pos (by omega), rd_nat', rd_nat']
    have g0 : l0.getD i 0 = l0[i] := by rw [List.getD_eq_getElem?_getD, List.getElem?_eq_getElem h0]; rfl
    have g1 : l1.getD i 0 = l1[i] := by rw [List.getD_eq_getElem?_getD, List.getElem?_eq_getElem h1]; rfl
    have b0 := hb0 _ (List.getElem_mem h0)
    have b1 := hb1 _ (List.getElem_mem h1)
    rw [same_loop l0 l1 h hm hb0 hb1 d (i + 1) k _ (by omega) (by omega) ⟨bits_lo_u8 _ _ _, bits_hi_u8 _ _ _⟩, g0, g1]
    rw [List.drop_eq_getElem_cons h0, List.drop_eq_getElem_cons h1]
    congr 1
    rw [decide_eq_decide, or_xor_zero x _ _ hx b0 b1, List.cons.injEq, and_assoc]
theorem same_is (l0 l1 : List Int) (hm : l0.length ≤ 4611686018427387904) (hb0 : Bytes l0) (hb1 : Bytes l1) (k : Nat) (hk : l0.length < k) : mac_Same.f k l0 l1 = some (decide (l0 = l1)) := by
  unfold mac_Same.f
  by_cases h : l0.length = l1.length
  · rw [if_pos (by omega)]
    have := same_loop l0 l1 h hm hb0 hb1 l0.length 0 k 0 (by omega) hk (by omega)
    rw [List.drop_zero, List.drop_zero] at this
    refine this.trans ?_
    simp
  · rw [if_neg (by omega)]
    have : l0 ≠ l1 := fun e => h (by rw [e])
    simp [this]
end Sh
theorem same_.calls (A0 : Option Addr) (c0 : Nat) (l0 : List Int) (A1 : Option Addr) (c1 : Nat) (l1 : List Int) (w : World) (hr0 : Kd.C (Kd.int .u8) w A0 l0.length l0) (hc0 : l0.length ≤ c0) (hr1 : Kd.C (Kd.int .u8) w A1 l1.length l1) (hc1 : l1.length ≤ c1)
    (hm : l0.length ≤ 4611686018427387904) (hb0 : Sh.Bytes l0) (hb1 : Sh.Bytes l1) :
    Calls Tryd.prog 45 #[.slice A0 l0.length c0, .slice A1 l1.length c1] w fun e w' => e = .returned (.bool (decide (l0 = l1))) ∧ ∃ m, w' = w.drewN m :=
  (PBase.mac_Same.calls (l0.length + 1) A0 c0 l0 A1 c1 l1 _ w hr0 hc0 hr1 hc1 (Sh.same_is l0 l1 hm hb0 hb1 _ (Nat.lt_succ_self _))).mono fun _ _ ⟨h1, h2⟩ => ⟨h1, h2.out⟩
end Go.Proofs.YtgljicdpcapgnaaDoor
set_option linter.unusedVariables false
set_option linter.unusedSimpArgs false
namespace Go.Proofs.YtgljicdpcapgnaaDoor
open Go.RowKit Go.Proofs.YtgljicdpcapgnaaDoor.PBase Go.Proofs.YtgljicdpcapgnaaDoorW.PrintWords Go.Proofs.YtgljicdpcapgnaaDoorW.PrintLast Go.Proofs.YtgljicdpcapgnaaDoorW.PrintMore
namespace Ps
theorem same1_ {A0 A1 : Option Addr} {n0 n1 c0 c1 : Nat} {l0 l1 : List Int} {w : World} (h0 : Kd.C (Kd.int .u8) w A0 l0.length l0) (hn0 : l0.length = n0) (hc0 : n0 ≤ c0) (h1 : Kd.C (Kd.int .u8) w A1 l1.length l1) (hn1 : l1.length = n1) (hc1 : n1 ≤ c1) (hm : n0 ≤ 4611686018427387904) (hb0 : Sh.Bytes l0) (hb1 : Sh.Bytes l1) {b : Bool} (hb : decide (l0 = l1) = b) :
    Calls Tryd.prog 45 #[.slice A0 n0 c0, .slice A1 n1 c1] w fun e w' => e = .returned (.bool b) ∧ Below w.heap.size w w' := by
  subst hn0; subst hn1; subst hb
  exact (same_.calls A0 c0 l0 A1 c1 l1 w h0 hc0 h1 hc1 hm hb0 hb1).mono (fun _ _ ⟨a, m, hm⟩ => ⟨a, by rw [hm]; exact pw_below_drewN (Below.refl _ _) m⟩)
theorem cont_ {A : Option Addr} {n c : Nat} {l : List Int} {x : Int} {w : World} (h : Kd.C (Kd.int .u32) w A l.length l) (hn : l.length = n) (hc : n ≤ c) (hm : n ≤ 1000000) {b : Bool} (hb : decide (x ∈ l) = b) :
    Calls Tryd.prog 46 #[.slice A n c, .int .u32 x] w fun e w' => e = .returned (.bool b) ∧ Below w.heap.size w w' := by
  subst hn; subst hb
  exact (slices_Contains_uint32_uint32.calls (l.length + 1) A c l x _ w h hc (contains_is l x hm _ (Nat.lt_succ_self _))).mono (fun _ _ ⟨a, h⟩ => ⟨a, by obtain ⟨m, hm⟩ := h.out; rw [hm]; exact pw_below_drewN (Below.refl _ _) m⟩)
theorem token_ {A : Option Addr} {n c : Nat} {l : List Int} {w : World} (h : Kd.C (Kd.int .u8) w A l.length l) (hn : l.length = n) (hc : n ≤ c) (hb : Sh.Bytes l) (h18 : 18 ≤ n) {a b d : Int} {ro : Bool} (ht : tok l = (a, b, ro, d)) :
    Calls Tryd.prog 43 #[.slice A n c] w fun e w' => e = .returned (.agg #[.int .u32 a, .int .u32 b, .bool ro, .int .u64 d]) ∧ Below w.heap.size w w' := by
  subst hn
  exact pass_token.calls 10 A c l a b ro d w h hc ((token_is l hb h18 10 (by decide)).trans (by rw [ht]))
theorem cutTo {A : Option Addr} {n c : Nat} {l : List Int} (hn : l.length = n) (h : 18 ≤ n) (hc : n ≤ c) : ∀ W : World, (Instr.slice 23 (.slice A n c) none (some (.int .i64 18)) none).run Tryd.prog W = .ok (.slice A 18 c) W := by
  subst hn
  exact Wk.cut_to_ 23 5 .i64 Tryd.underlying23 (by kernel_rfl) A c l 18 18 rfl h hc
theorem cutFrom {A : Option Addr} {n c : Nat} {l : List Int} (hn : l.length = n) (h : 18 ≤ n) (hc : n ≤ c) : ∃ A' : Option Addr, (∀ W : World, (Instr.slice 23 (.slice A n c) (some (.int .i64 18)) none none).run Tryd.prog W = .ok (.slice A' (n - 18) (c - 18)) W) ∧
      ∀ W : World, Kd.C (Kd.int .u8) W A l.length l → Kd.C (Kd.int .u8) W A' (l.drop 18).length (l.drop 18) := by
  subst hn
  exact Wk.cut_from_ 23 5 .i64 Tryd.underlying23 (by kernel_rfl) .u8 A c l 18 18 rfl h hc
abbrev zt4 : List Value := [.int .u32 0, .int .u32 0, .bool false, .int .u64 0]
def ChPost (w : World) (l : List Tn) (s : ByteArray) (e : Ending) (w' : World) : Prop :=
  e = .returned (.tuple #[.agg (tkc (check l s).1).toArray, .int .u16 (check l s).2]) ∧ Below w.heap.size w w'
theorem check_form {l : List Tn} {s : ByteArray} (h : ¬ is s = true) : check l s = (zt, 50) := if_neg h
theorem check_none {l : List Tn} {s : ByteArray} (h : is s = true) (hf : find l (tok (got s)).1 = none) : check l s = (zt, 51) := by
  unfold check
  rw [if_pos h, hf]
theorem check_some {l : List Tn} {s : ByteArray} (h : is s = true) {x : Tn} (hf : find l (tok (got s)).1 = some x) : check l s = verdict x (got s) := by
  unfold check
  rw [if_pos h, hf]
end Ps
set_option maxHeartbeats 4000000 in
set_option maxRecDepth 100000 in
theorem check_.calls (p base : Nat) (l : List Ps.Tn) (s : ByteArray) (w : World) (hk : Sh.Ks w) (hT : Ps.Tb w base p l) (hs : s.size ≤ 1000000) (hW : ∀ x ∈ l, Ps.TnWf x) :
  Calls Tryd.prog 29 #[.pointer (some ⟨p, 0, none⟩), .string s] w (Ps.ChPost w l s) := by
 obtain ⟨bm, _, _, hP, hM⟩ := hT
 have HP := Aside0.mk hP
 have HM := Aside0.mk hM
 have HK := Aside0.mk hk
 have HW := Aside0.mk hW
 have HSZ := Aside0.mk Ps.sizeTn
 have HSK := Aside0.mk Ps.sizeTk
 have HZ4 : Aside0 (Below w.heap.size w (w.alloc (.cells Ps.zt4.toArray 55))) := ⟨below_alloc (Below.refl _ _) _⟩
 have HX4 : Aside0 (Wk.Blk (w.alloc (.cells Ps.zt4.toArray 55)) w.heap.size 55 Ps.zt4) := ⟨Wk.Blk.new w _ Ps.zt4⟩
 clear hP hM hk hW
 go_enter Tryd.func29, Tryd.ntmps29
 go_wp2_with fail
 refine (pass_read.calls (s.size + 2) s (Ps.got s) (Ps.is s) _ (Ps.read_is s hs _ (Nat.lt_succ_self _))).mono ?_
 rintro e w2 ⟨v2, rfl, hR2, hb2⟩
 obtain ⟨A2, c2, rfl⟩ := Kd.R_slice hR2
 obtain ⟨m, HMM⟩ : ∃ n, Aside0 ((Ps.got s).length = n) := ⟨_, ⟨rfl⟩⟩
 have HX2 := Aside0.mk (HX4.out.below_ hb2)
 have HB2 := Aside0.mk (below_then HZ4.out HZ4.out.size hb2)
 obtain ⟨hc2, hC2⟩ : (Ps.got s).length ≤ c2 ∧ Kd.C (Kd.int .u8) w2 A2 (Ps.got s).length (Ps.got s) := by
  obtain ⟨A', c', he, h1, h2⟩ := Kd.R_reads hR2
  injection he with e1 e2 e3
  subst e1; subst e3
  exact ⟨h1, h2⟩
 rw [HMM.out] at hc2 ⊢
 have HC2 := Aside0.mk hC2
 obtain ⟨fi, HFI⟩ : ∃ b, Aside0 (Ps.is s = b) := ⟨_, ⟨rfl⟩⟩
 rw [HFI.out]
 clear hR2 hb2 hC2 HZ4 HX4
 cases fi with
 | false =>
  go_wp2_with (refine Wk.store_all rfl rfl 55 (.tmp 4) (.tmp 19) rfl w.heap.size Ps.zt4 rfl rfl 55 _ HX2.out HSK.out rfl rfl ?_; intro wz hX hO; have HXZ := Aside0.mk hX; have HOZ := Aside0.mk hO; clear hX hO)
  refine bodyPost_ret (Wk.res_ct rfl _ w.heap.size 55 _ _ rfl HXZ.out Tryd.underlying55 rfl HSK.out) rfl ?_
  refine ⟨?_, Wk.Only.below HB2.out HOZ.out (Nat.le_refl _)⟩
  rw [Ps.check_form (by rw [HFI.out]; exact Bool.false_ne_true)]
  rfl
 | true =>
  obtain ⟨hfm, hgb, -⟩ := Ps.got_of s HFI.out
  have hm50 : m = 50 := by
   unfold Ps.form at hfm
   rw [decide_eq_true_eq] at hfm
   rw [← HMM.out]
   exact hfm.1
  have HGB := Aside0.mk hgb
  have HM50 := Aside0.mk hm50
  have hwf := Ps.tok_wf _ hgb
  obtain ⟨tk, HTK⟩ : ∃ t, Aside0 (Ps.tok (Ps.got s) = t) := ⟨_, ⟨rfl⟩⟩
  rw [HTK.out] at hwf
  obtain ⟨ti, se, ro, sz⟩ := tk
  have HTW : Aside0 ((0 ≤ ti ∧ ti < 4294967296) ∧ (0 ≤ se ∧ se < 4294967296) ∧ (0 ≤ sz ∧ sz < 18446744073709551616)) := ⟨hwf⟩
  clear hwf
  clear hfm hgb hm50 hs
  go_wp2_with fail
  refine (Ps.token_ HC2.out HMM.out hc2 HGB.out (by rw [HM50.out]; decide) HTK.out).mono ?_
  rintro e w3 ⟨rfl, hb3⟩
  have HB3 := Aside0.mk (below_then HB2.out HB2.out.size hb3)
  have HX3 := Aside0.mk (HX2.out.below_ hb3)
  have HC3 := Aside0.mk (Kd.C_below HC2.out hb3)
  clear hb3 HX2 HC2 HB2
  go_wp2_with fail
  generalize hWq : World.alloc w3 _ = w4
  have HB4 : Aside0 (Below w.heap.size w w4) := ⟨by rw [← hWq]; exact HB3.out.alloc HB3.out.size _⟩
  have HBD : Aside0 (Below w3.heap.size w3 w4) := ⟨by rw [← hWq]; exact below_alloc (Below.refl _ _) _⟩
  have HK4 : Aside0 (Wk.Blk w4 w3.heap.size 55 (Ps.tkc (ti, se, ro, sz))) := ⟨by rw [← hWq]; exact Wk.Blk.new w3 _ (Ps.tkc (ti, se, ro, sz))⟩
  have HX4 := Aside0.mk (HX3.out.below_ HBD.out)
  have HC4 := Aside0.mk (Kd.C_below HC3.out HBD.out)
  have HP4 := Aside0.mk (HP.out.below_ HB4.out)
  obtain ⟨g8, HG8⟩ : ∃ b, Aside0 (w3.heap.size = b) := ⟨_, ⟨rfl⟩⟩
  rw [HG8.out] at HK4 ⊢
  clear hWq HB3 HX3 HC3 HBD HG8 HP
  obtain ⟨A0, d0, A1, d1, hlo, hc0, hc1, g0, g1⟩ := (HM.out.below HB4.out).looks ti HTW.out.1.1 HTW.out.1.2
  obtain ⟨hwf, hwn⟩ : Ps.TnWf ((Ps.find l ti).getD Ps.zn) ∧ ((Ps.find l ti).isSome = true → Ps.find l ti = some ((Ps.find l ti).getD Ps.zn)) := ⟨Ps.got_wf HW.out ti, fun h => by
   obtain ⟨y, hy⟩ := Option.isSome_iff_exists.1 h
   rw [hy]; rfl⟩
  obtain ⟨fd, HFD⟩ : ∃ b, Aside0 ((Ps.find l ti).isSome = b) := ⟨_, ⟨rfl⟩⟩
  obtain ⟨x, HXX⟩ : ∃ x, Aside0 ((Ps.find l ti).getD Ps.zn = x) := ⟨_, ⟨rfl⟩⟩
  rw [HXX.out] at hlo hc0 hc1 g0 g1 hwf hwn
  rw [HFD.out] at hlo hwn
  have HFN := Aside0.mk hwn
  obtain ⟨i, l0, q, sx, l1⟩ := x
  obtain ⟨_, hm0, hm1, hby⟩ := hwf
  change l0.length ≤ 1000 at hm0
  change l1.length ≤ 1000 at hm1
  simp only [Ps.tnc] at hlo hc0 hc1 g0 g1
  have HG0 := Aside0.mk g0
  have HG1 := Aside0.mk g1
  have HBY : Aside0 (Sh.Bytes l0) := ⟨hby⟩
  obtain ⟨n0, HN0⟩ : ∃ n, Aside0 (l0.length = n) := ⟨_, ⟨rfl⟩⟩
  obtain ⟨n1, HN1⟩ : ∃ n, Aside0 (l1.length = n) := ⟨_, ⟨rfl⟩⟩
  rw [HN0.out] at hm0 hc0 hlo
  rw [HN1.out] at hm1 hc1 hlo
  have HLO := Aside0.mk hlo
  clear g0 g1 hby hlo hwn HXX
  refine wp_region_noPanic ?_
  refine Rg.s1 13 (fun w' => Below w4.heap.size w4 w') [11] (Below.refl _ _).drew #[false, false, false, false, false, false, false, false, false, false, false, false, false] (fun hHeld => ?_)
  refine Rg.p1 0 (.some 23) ?_
  refine Rg.p1 1 (.some 24) ?_
  refine Rg.p1 2 (.some 25) ?_
  refine Rg.t1 3 (.some 26) hHeld ?_ (hy := by intro w' hS'; (have c1 := (HP4.out.below_ hS').at_ 0 rfl; go_simp); first | done | with_reducible rfl)
  refine Rg.p1 4 (.some 27) ?_
  refine Rg.t1 5 (.some 28) hHeld ?_ (hy := by intro w' hS'; (have c1 := (HK4.out.below_ hS').at_ 0 rfl; go_simp); first | done | with_reducible rfl)
  refine Rg.t1 6 (.some 29) hHeld ?_ (hy := by intro w' hS'; (have c1 := HLO.out w' hS'; go_simp); first | done | with_reducible rfl)
  refine Rg.p1 7 (.some 22) ?_
  refine Rg.p1 8 (.some 30) ?_
  refine Rg.p1 9 (.some 31) ?_
  refine Rg.o1 10 (.some 9) (fun K hK => ?_)
  refine value_ (w1 := w4.drew.alloc (.cells Ps.z5.toArray 58)) (v := .pointer (some ⟨w4.drew.heap.size, 0, none⟩)) (by rfl) rfl (by go_simp) ?_
  refine hK.out _ _ (hHeld.alloc hHeld.size _) (fun hHeld => ?_)
  clear hK K
  refine Rg.n1 ?_
  refine Rg.l1 11 none (fun K hK => ?_)
  refine Wk.store_all_step (by rfl) rfl 58 (.tmp 9) (.tmp 30) rfl w4.drew.heap.size (Ps.tv i q sx (.slice A0 n0 d0) (.slice A1 n1 d1)) rfl rfl 58 Ps.z5 (Wk.Blk.new w4.drew 58 Ps.z5) HSZ.out rfl rfl ?_
  intro w5 hX hO
  have HX9 := Aside0.mk hX
  have HO5 := Aside0.mk hO
  clear hX hO
  refine hK.out _ _ ?_
  clear hK K
  refine Rg.p1 12 (.some 10) ?_
  refine Rg.d1 ?_
  refine NoPanic.normal ?_
  have HF5 := Aside0.mk (Wk.Only.fresh (w := w4.drew) HB4.out.drew HB4.out.size HO5.out)
  have HBD : Aside0 (Below w4.heap.size w4 w5) := ⟨Below.trans (Below.refl _ _).drew HF5.out.2.2⟩
  have HB5 : Aside0 (Below w.heap.size w w5) := ⟨HF5.out.2.1⟩
  have HX5 := Aside0.mk (HX4.out.below_ HBD.out)
  have HK5 := Aside0.mk (HK4.out.below_ HBD.out)
  have HC5 := Aside0.mk (Kd.C_below HC4.out HBD.out)
  have HG05 := Aside0.mk (Kd.C_below HG0.out HBD.out)
  have HG15 := Aside0.mk (Kd.C_below HG1.out HBD.out)
  obtain ⟨g9, HG9⟩ : ∃ b, Aside0 (w4.drew.heap.size = b) := ⟨_, ⟨rfl⟩⟩
  rw [HG9.out] at HX9 ⊢
  clear HBD HF5 HO5 HX4 HK4 HC4 HP4 HB4 HG0 HG1 HLO HG9 hHeld HM
  cases fd with
  | false =>
   go_wp2_with (refine Wk.store_all rfl rfl 55 (.tmp 4) (.tmp 34) rfl w.heap.size Ps.zt4 rfl rfl 55 _ HX5.out HSK.out rfl rfl ?_; intro wz hX hO; have HXZ := Aside0.mk hX; have HOZ := Aside0.mk hO; clear hX hO)
   refine bodyPost_ret (Wk.res_ct rfl _ w.heap.size 55 _ _ rfl HXZ.out Tryd.underlying55 rfl HSK.out) rfl ?_
   refine ⟨?_, Wk.Only.below HB5.out HOZ.out (Nat.le_refl _)⟩
   rw [Ps.check_none HFI.out (by rw [HTK.out]; exact Option.isNone_iff_eq_none.1 (by have := HFD.out; rw [Option.isNone_iff_eq_none]; cases h : Ps.find l ti with | none => rfl | some y => rw [h] at this; cases this))]
   rfl
  | true =>
   have HFS : Aside0 (Ps.check l s = Ps.verdict ⟨i, l0, q, sx, l1⟩ (Ps.got s)) := ⟨Ps.check_some HFI.out (by rw [HTK.out]; exact HFN.out rfl)⟩
   clear HFN HFD
   go_wp2_with fail
   have hcut := Ps.cutTo (A := A2) HMM.out (by rw [HM50.out]; decide) hc2
   obtain ⟨A3, hcutf, hcf⟩ := Ps.cutFrom (A := A2) HMM.out (by rw [HM50.out]; decide) hc2
   have HCF : Aside0 (∀ W : World, Kd.C (Kd.int .u8) W A2 (Ps.got s).length (Ps.got s) → Kd.C (Kd.int .u8) W A3 ((Ps.got s).drop 18).length ((Ps.got s).drop 18)) := ⟨hcf⟩
   clear hcf
   obtain ⟨bd, HBD⟩ : ∃ l, Aside0 ((Ps.got s).take 18 = l) := ⟨_, ⟨rfl⟩⟩
   have HBL : Aside0 (bd.length = 18) := ⟨by rw [← HBD.out, List.length_take, HMM.out, HM50.out]; rfl⟩
   have HBB : Aside0 (Sh.Bytes bd) := ⟨by rw [← HBD.out]; exact fun x hx => HGB.out x (List.mem_of_mem_take hx)⟩
   have HCT : Aside0 (∀ W : World, Kd.C (Kd.int .u8) W A2 (Ps.got s).length (Ps.got s) → Kd.C (Kd.int .u8) W A2 bd.length bd) := ⟨fun W h => by
    rw [← HBD.out]
    exact Kd.C_take h (by rw [HMM.out, HM50.out]; decide)⟩
   obtain ⟨D, HDD⟩ : ∃ D, Aside0 (Sh.u8s (Sh.hm l0 bd) = D) := ⟨_, ⟨rfl⟩⟩
   have HIF := Aside0.mk (Sh.tag_info HDD.out)
   have HOF : Aside0 (∀ (W : World) (b : Nat), Below w5.heap.size w5 W → W.cell? ⟨b, 0, none⟩ = some (.slice A2 18 c2) → Calls Tryd.prog 44 #[.slice A0 n0 d0, .slice (some ⟨b, 0, none⟩) 1 1] W fun e w' => e = .returned (.agg D) ∧ Below W.heap.size W w') := ⟨fun W b hb hc =>
    Sh.of1_ (HK.out.below (below_then HB5.out HB5.out.size hb)) (Kd.C_below HG05.out hb) HN0.out hc0 HBY.out (by omega) (HCT.out W (Kd.C_below HC5.out hb)) HBL.out (by have := HM50.out; omega) HBB.out (by decide) hc HDD.out⟩
   refine wp_region_noPanic ?_
   refine Rg.s1 8 (fun w' => Below w5.heap.size w5 w') [7] (Below.refl _ _).drew #[false, false, false, false, false, false, false, false] (fun hHeld => ?_)
   refine Rg.p1 0 (.some 35) ?_
   refine Rg.t1 1 (.some 36) hHeld ?_ (hy := by intro w' hS'; (have c1 := (HX9.out.below_ hS').at_ 1 rfl; go_simp); first | done | with_reducible rfl)
   refine Rg.p1 2 (.some 37) ?_
   refine Rg.p1 3 (.some 38) ?_ (hy := by intro w'; (have h1 := hcut w'; go_simp); first | done | with_reducible rfl)
   have HH := Aside0.mk hHeld
   generalize w5.drew = w6 at hHeld HH ⊢
   refine join_ (σ := Nat × Nat) (fuel' := 1) #[true, true, true, true, true, true, true, false] (fun s => [(39, .slice (some ⟨s.1, 0, none⟩) 1 1), (40, .agg D), (11, .pointer (some ⟨s.2, 0, none⟩))]) (fun s w' => Below w6.heap.size w6 w' ∧ w6.heap.size ≤ s.2 ∧ w'.heap[s.2]? = some (.cells (Sh.u8s (List.replicate 32 0)) 79 (0, 0))) ?_ (fun hJ => ?_)
   ·rintro ⟨b4, b11⟩ w7 ⟨hB7, hge, hO7⟩
    refine norm_ (a' := ?_) ?_ ?_
    rotate_left
    ·show Act.put (Act.put (Act.put _ (some 39) _) (some 40) _) (some 11) _ = _
     simp only [Act.put, List.setIfInBounds_toArray, List.set_cons_zero, List.set_cons_succ]
     rfl
    change w7.heap[b11]? = _ at hO7
    change w6.heap.size ≤ b11 at hge
    refine last_ (i := 7) (N := none) #[true, true, true, true, true, true, true, true] rfl rfl (by kernel_rfl) (by decide) (fun K hK => ?_)
    refine skip_ (w1 := w7.setRow b11 D) (by rfl) rfl (Sh.store_exec rfl rfl rfl hO7 HIF.out.1 HIF.out.2.1 HIF.out.2.2) ?_
    have HD8 : Aside0 ((w7.setRow b11 D).heap[b11]? = some (.cells D 79 (0, 0))) := ⟨setRow_heap _ _ _ _ _ _ hO7⟩
    have HB8 : Aside0 (Below w5.heap.size w5 (w7.setRow b11 D)) := ⟨below_then HH.out HH.out.size (below_setRow hB7 hge D)⟩
    generalize w7.setRow b11 D = w8 at HD8 HB8 ⊢
    refine hK.out _ _ ?_
    clear hK K hO7 hge hB7
    refine done_ (by kernel_rfl) ?_
    refine NoPanic.normal ?_
    have HX8 := Aside0.mk (HX5.out.below_ HB8.out)
    have HK8 := Aside0.mk (HK5.out.below_ HB8.out)
    have HX98 := Aside0.mk (HX9.out.below_ HB8.out)
    have HC8 := Aside0.mk (HCF.out _ (Kd.C_below HC5.out HB8.out))
    have HG18 := Aside0.mk (Kd.C_below HG15.out HB8.out)
    have HB58 := Aside0.mk (below_then HB5.out HB5.out.size HB8.out)
    have HT8 := Aside0.mk (Sh.tag_reads HDD.out HD8.out)
    have hsl := Sh.slice_all32 b11
    clear hHeld hcut
    clear HX5 HK5 HX9 HC5 HG15 HB5 HG05 HOF HCT HH HB8 HD8
    go_wp2_with fail
    refine wp_region_noPanic ?_
    refine Rg.s1 6 (fun w' => Below w8.heap.size w8 w') [] (Below.refl _ _).drew #[false, false, false, false, false, false] (fun hHeld => ?_)
    refine Rg.p1 0 (.some 42) ?_ (hy := by intro w'; (have h1 := hsl w'; go_simp); first | done | with_reducible rfl)
    refine Rg.p1 1 (.some 43) ?_
    refine Rg.p1 2 (.some 44) ?_ (hy := by intro w'; (have h1 := hcutf w'; go_simp); first | done | with_reducible rfl)
    refine Rg.o1 3 (.some 45) (fun K hK => ?_)
    refine call_ 45 #[.slice (some ⟨b11, 0, none⟩) 32 32, .slice A3 (m - 18) (c2 - 18)] (by rfl) rfl (by go_simp) ?_
    obtain ⟨sm, HSM⟩ : ∃ b, Aside0 (decide (Sh.hm l0 bd = (Ps.got s).drop 18) = b) := ⟨_, ⟨rfl⟩⟩
    refine (Ps.same1_ (Kd.C_below HT8.out hHeld) (Ps.hm_len _ _) (Nat.le_refl _) (Kd.C_below HC8.out hHeld) (by rw [List.length_drop, HMM.out]) (by omega) (by decide) (Ps.hm_bytes _ _) (fun x hx => HGB.out x (List.mem_of_mem_drop hx)) HSM.out).mono ?_
    rintro e w9 ⟨rfl, hb9⟩
    have HB9 := Aside0.mk (below_then hHeld hHeld.size hb9)
    clear hb9
    refine ⟨_, rfl, ?_⟩
    refine hK.out _ _ HB9.out (fun hHeld => ?_)
    clear hK K
    refine Rg.n1 ?_
    refine Rg.p1 4 (.some 46) ?_
    refine Rg.p1 5 (.some 41) ?_
    refine Rg.d1 ?_
    refine NoPanic.normal ?_
    have HX9 := Aside0.mk (HX8.out.below_ HB9.out)
    have HB59 := Aside0.mk (below_then HB58.out HB58.out.size HB9.out)
    have HG19 := Aside0.mk (Kd.C_below HG18.out HB9.out)
    have HK9 := Aside0.mk (HK8.out.below_ HB9.out)
    have HX99 := Aside0.mk (HX98.out.below_ HB9.out)
    clear HX8 HK8 HX98 HC8 HG18 HB58 HT8 hHeld hsl HB9 hcutf
    cases sm with
    | false =>
     go_wp2_with (refine Wk.store_all rfl rfl 55 (.tmp 4) (.tmp 47) rfl w.heap.size Ps.zt4 rfl rfl 55 _ HX9.out HSK.out rfl rfl ?_; intro wz hX hO; have HXZ := Aside0.mk hX; have HOZ := Aside0.mk hO; clear hX hO)
     refine bodyPost_ret (Wk.res_ct rfl _ w.heap.size 55 _ _ rfl HXZ.out Tryd.underlying55 rfl HSK.out) rfl ?_
     refine ⟨?_, Wk.Only.below HB59.out HOZ.out (Nat.le_refl _)⟩
     rw [HFS.out, Ps.verdict, if_pos (by rw [HBD.out]; exact of_decide_eq_false HSM.out)]
     rfl
    | true =>
     have HV1 : Aside0 (Ps.check l s = if (Ps.tok (Ps.got s)).2.1 ∈ l1 then (Ps.zt, 53) else if (Ps.tok (Ps.got s)).2.2.2 = 0 ∨ (Ps.tok (Ps.got s)).2.2.2 > sx then (Ps.zt, 54) else (Ps.tok (Ps.got s), 0)) := ⟨by
      rw [HFS.out, Ps.verdict, if_neg (by rw [HBD.out]; exact fun h => h (of_decide_eq_true HSM.out))]⟩
     have c1 := HX99.out.at_ 4 rfl
     have c2 := HK9.out.at_ 1 rfl
     go_wp2_with fail
     obtain ⟨cn, HCN⟩ : ∃ b, Aside0 (decide (se ∈ l1) = b) := ⟨_, ⟨rfl⟩⟩
     refine (Ps.cont_ HG19.out HN1.out hc1 (by omega) HCN.out).mono ?_
     rintro e w10 ⟨rfl, hb10⟩
     have HX10 := Aside0.mk (HX9.out.below_ hb10)
     have HB10 := Aside0.mk (below_then HB59.out HB59.out.size hb10)
     have HK10 := Aside0.mk (HK9.out.below_ hb10)
     have HX910 := Aside0.mk (HX99.out.below_ hb10)
     clear HX9 HB59 HK9 HX99 HG19 hb10 c1 c2
     have HV2 : Aside0 (Ps.check l s = if se ∈ l1 then (Ps.zt, 53) else if sz = 0 ∨ sz > sx then (Ps.zt, 54) else ((ti, se, ro, sz), 0)) := ⟨by
      have := HV1.out
      rw [HTK.out] at this
      exact this⟩
     cases cn with
     | true =>
      go_wp2_with (refine Wk.store_all rfl rfl 55 (.tmp 4) (.tmp 54) rfl w.heap.size Ps.zt4 rfl rfl 55 _ HX10.out HSK.out rfl rfl ?_; intro wz hX hO; have HXZ := Aside0.mk hX; have HOZ := Aside0.mk hO; clear hX hO)
      refine bodyPost_ret (Wk.res_ct rfl _ w.heap.size 55 _ _ rfl HXZ.out Tryd.underlying55 rfl HSK.out) rfl ?_
      refine ⟨?_, Wk.Only.below HB10.out HOZ.out (Nat.le_refl _)⟩
      rw [HV2.out, if_pos (of_decide_eq_true HCN.out)]
      rfl
     | false =>
      have HV3 : Aside0 (Ps.check l s = if sz = 0 ∨ sz > sx then (Ps.zt, 54) else ((ti, se, ro, sz), 0)) := ⟨by rw [HV2.out, if_neg (of_decide_eq_false HCN.out)]⟩
      have c3 := HK10.out.at_ 3 rfl
      have c4 := HX910.out.at_ 3 rfl
      by_cases hz : sz = 0
      ·have hzb : (sz == 0) = true := by simpa using hz
       go_wp2_with (refine Wk.store_all rfl rfl 55 (.tmp 4) (.tmp 64) rfl w.heap.size Ps.zt4 rfl rfl 55 _ HX10.out HSK.out rfl rfl ?_; intro wz hX hO; have HXZ := Aside0.mk hX; have HOZ := Aside0.mk hO; clear hX hO)
       refine bodyPost_ret (Wk.res_ct rfl _ w.heap.size 55 _ _ rfl HXZ.out Tryd.underlying55 rfl HSK.out) rfl ?_
       refine ⟨?_, Wk.Only.below HB10.out HOZ.out (Nat.le_refl _)⟩
       rw [HV3.out, if_pos (.inl hz)]
       rfl
      ·have hzb : (sz == 0) = false := by simpa using hz
       by_cases hx : sz > sx
       ·have hxb : sx < sz := hx
        go_wp2_with (refine Wk.store_all rfl rfl 55 (.tmp 4) (.tmp 64) rfl w.heap.size Ps.zt4 rfl rfl 55 _ HX10.out HSK.out rfl rfl ?_; intro wz hX hO; have HXZ := Aside0.mk hX; have HOZ := Aside0.mk hO; clear hX hO)
        refine bodyPost_ret (Wk.res_ct rfl _ w.heap.size 55 _ _ rfl HXZ.out Tryd.underlying55 rfl HSK.out) rfl ?_
        refine ⟨?_, Wk.Only.below HB10.out HOZ.out (Nat.le_refl _)⟩
        rw [HV3.out, if_pos (.inr hx)]
        rfl
       ·have hrun : (Instr.loadAt 55 (.pointer (some ⟨g8, 0, none⟩))).run Tryd.prog w10 = .ok (.agg (Ps.tkc (ti, se, ro, sz)).toArray) w10 := Wk.run_load_blk (P := Tryd.prog) 55 g8 0 (Ps.tkc (ti, se, ro, sz)) _ HK10.out rfl Tryd.underlying55 rfl HSK.out
        go_wp2_with (first
         | refine Wk.load rfl 55 (.tmp 8) rfl _ (.pointer (some ⟨g8, 0, none⟩)) rfl hrun ?_
         | (refine Wk.store_all rfl rfl 55 (.tmp 4) (.tmp 65) rfl w.heap.size (Ps.tkc (ti, se, ro, sz)) rfl rfl 55 _ HX10.out HSK.out rfl rfl ?_; intro wz hX hO; have HXZ := Aside0.mk hX; have HOZ := Aside0.mk hO; clear hX hO))
        refine bodyPost_ret (Wk.res_ct rfl _ w.heap.size 55 _ _ rfl HXZ.out Tryd.underlying55 rfl HSK.out) rfl ?_
        refine ⟨?_, Wk.Only.below HB10.out HOZ.out (Nat.le_refl _)⟩
        rw [HV3.out, if_neg (fun h => h.elim hz (fun h => by omega))]
        rfl
   ·have HHW : Aside0 (Below w6.heap.size w6 w6) := ⟨Below.refl _ _⟩
    refine two_ (i := 4) (j := 6) (Ni := some 39) (Nj := some 11) #[true, true, true, true, true, false, false, false] #[true, true, true, true, false, false, true, false] rfl rfl rfl rfl (by kernel_rfl) (by decide) (by decide) (fun K hK => ?_) (fun K hK => ?_)
    ·refine value_ (w1 := w6.alloc (.cells #[.slice A2 18 c2] 23)) (v := .slice (some ⟨w6.heap.size, 0, none⟩) 1 1) (by rfl) rfl (by first | (go_simp; done) | (go_simp; rfl)) ?_
     have hce : (w6.alloc (.cells #[.slice A2 18 c2] 23)).cell? ⟨w6.heap.size, 0, none⟩ = some (.slice A2 18 c2) := Lit.cell_new w6 #[.slice A2 18 c2] 23 (0, 0) 0
     have hbn : Below w6.heap.size w6 (w6.alloc (.cells #[.slice A2 18 c2] 23)) := below_alloc (Below.refl _ _) _
     generalize World.alloc w6 (.cells #[.slice A2 18 c2] 23) = w4_w6 at *
     have HCE := Aside0.mk hce
     have hbt : Below w5.heap.size w5 w4_w6 := below_then hHeld hHeld.size hbn
     have HHN := Aside0.mk (below_then HHW.out HHW.out.size hbn)
     refine hK.out _ _ hbt (fun hHeld => ?_)
     clear hK K hbt hbn hce
     clear HHW; have HHW := HHN; clear HHN
     refine norm_ (a' := ?_) ?_ ?_
     rotate_left
     ·show Act.put _ (some 39) _ = _
      simp only [Act.put, List.setIfInBounds_toArray, List.set_cons_zero, List.set_cons_succ]
      rfl
     refine two_ (i := 5) (j := 6) (Ni := some 40) (Nj := some 11) #[true, true, true, true, true, true, false, false] #[true, true, true, true, true, false, true, false] rfl rfl rfl rfl (by kernel_rfl) (by decide) (by decide) (fun K hK => ?_) (fun K hK => ?_)
     ·refine call_ 44 #[.slice A0 n0 d0, .slice (some ⟨w6.heap.size, 0, none⟩) 1 1] (by rfl) rfl (by go_simp) ?_
      refine (HOF.out w4_w6 w6.heap.size hHeld HCE.out).mono ?_
      rintro e w5_w4_w6 ⟨rfl, hbn⟩
      refine ⟨_, rfl, ?_⟩
      have hbt : Below w5.heap.size w5 w5_w4_w6 := below_then hHeld hHeld.size hbn
      have HHN := Aside0.mk (below_then HHW.out HHW.out.size hbn)
      have HCE' := Aside0.mk ((hbn.cell (World.block_lt_of_cell? _ _ HCE.out)).trans HCE.out)
      refine hK.out _ _ hbt (fun hHeld => ?_)
      clear hK K hbt hbn
      clear HCE; have HCE := HCE'; clear HCE'
      clear HHW; have HHW := HHN; clear HHN
      refine norm_ (a' := ?_) ?_ ?_
      rotate_left
      ·show Act.put _ (some 40) _ = _
       simp only [Act.put, List.setIfInBounds_toArray, List.set_cons_zero, List.set_cons_succ]
       rfl
      refine one_ (i := 6) (N := some 11) #[true, true, true, true, true, true, true, false] rfl rfl (by kernel_rfl) (by decide) (fun K hK => ?_)
      refine value_ (w1 := w5_w4_w6.alloc (.cells (Sh.u8s (List.replicate 32 0)) 79)) (v := .pointer (some ⟨w5_w4_w6.heap.size, 0, none⟩)) (by rfl) rfl (by first | (go_simp; done) | (go_simp; rfl)) ?_
      have hoe : (w5_w4_w6.alloc (.cells (Sh.u8s (List.replicate 32 0)) 79)).heap[w5_w4_w6.heap.size]? = some (.cells (Sh.u8s (List.replicate 32 0)) 79 (0, 0)) := heap_alloc_new w5_w4_w6 _
      have hbn : Below w5_w4_w6.heap.size w5_w4_w6 (w5_w4_w6.alloc (.cells (Sh.u8s (List.replicate 32 0)) 79)) := below_alloc (Below.refl _ _) _
      generalize World.alloc w5_w4_w6 (.cells (Sh.u8s (List.replicate 32 0)) 79) = w6_w5_w4_w6 at *
      have HOE := Aside0.mk hoe
      have hbt : Below w5.heap.size w5 w6_w5_w4_w6 := below_then hHeld hHeld.size hbn
      have HHN := Aside0.mk (below_then HHW.out HHW.out.size hbn)
      have HCE' := Aside0.mk ((hbn.cell (World.block_lt_of_cell? _ _ HCE.out)).trans HCE.out)
      have HGE : Aside0 (w6.heap.size ≤ w5_w4_w6.heap.size) := ⟨HHW.out.size⟩
      refine hK.out _ _ hbt (fun hHeld => ?_)
      clear hK K hbt hbn hoe
      clear HCE; have HCE := HCE'; clear HCE'
      clear HHW; have HHW := HHN; clear HHN
      refine norm_ (a' := ?_) ?_ ?_
      rotate_left
      ·show Act.put _ (some 11) _ = _
       simp only [Act.put, List.setIfInBounds_toArray, List.set_cons_zero, List.set_cons_succ]
       rfl
      refine norm_ (a' := putAll _ ((fun s : Nat × Nat => [((39 : Tmp), Value.slice (some ⟨s.1, 0, none⟩) 1 1), (40, Value.agg D), (11, Value.pointer (some ⟨s.2, 0, none⟩))]) (w6.heap.size, w5_w4_w6.heap.size))) ?_ (hJ (w6.heap.size, w5_w4_w6.heap.size) w6_w5_w4_w6 ⟨HHW.out, HGE.out, HOE.out⟩)
      simp only [putAll, Act.put, List.setIfInBounds_toArray, List.set_cons_zero, List.set_cons_succ]
     ·refine value_ (w1 := w4_w6.alloc (.cells (Sh.u8s (List.replicate 32 0)) 79)) (v := .pointer (some ⟨w4_w6.heap.size, 0, none⟩)) (by rfl) rfl (by first | (go_simp; done) | (go_simp; rfl)) ?_
      have hoe : (w4_w6.alloc (.cells (Sh.u8s (List.replicate 32 0)) 79)).heap[w4_w6.heap.size]? = some (.cells (Sh.u8s (List.replicate 32 0)) 79 (0, 0)) := heap_alloc_new w4_w6 _
      have hbn : Below w4_w6.heap.size w4_w6 (w4_w6.alloc (.cells (Sh.u8s (List.replicate 32 0)) 79)) := below_alloc (Below.refl _ _) _
      generalize World.alloc w4_w6 (.cells (Sh.u8s (List.replicate 32 0)) 79) = w6_w4_w6 at *
      have HOE := Aside0.mk hoe
      have hbt : Below w5.heap.size w5 w6_w4_w6 := below_then hHeld hHeld.size hbn
      have HHN := Aside0.mk (below_then HHW.out HHW.out.size hbn)
      have HCE' := Aside0.mk ((hbn.cell (World.block_lt_of_cell? _ _ HCE.out)).trans HCE.out)
      have HGE : Aside0 (w6.heap.size ≤ w4_w6.heap.size) := ⟨HHW.out.size⟩
      refine hK.out _ _ hbt (fun hHeld => ?_)
      clear hK K hbt hbn hoe
      clear HCE; have HCE := HCE'; clear HCE'
      clear HHW; have HHW := HHN; clear HHN
      refine norm_ (a' := ?_) ?_ ?_
      rotate_left
      ·show Act.put _ (some 11) _ = _
       simp only [Act.put, List.setIfInBounds_toArray, List.set_cons_zero, List.set_cons_succ]
       rfl
      refine one_ (i := 5) (N := some 40) #[true, true, true, true, true, true, true, false] rfl rfl (by kernel_rfl) (by decide) (fun K hK => ?_)
      refine call_ 44 #[.slice A0 n0 d0, .slice (some ⟨w6.heap.size, 0, none⟩) 1 1] (by rfl) rfl (by go_simp) ?_
      refine (HOF.out w6_w4_w6 w6.heap.size hHeld HCE.out).mono ?_
      rintro e w5_w6_w4_w6 ⟨rfl, hbn⟩
      refine ⟨_, rfl, ?_⟩
      have hbt : Below w5.heap.size w5 w5_w6_w4_w6 := below_then hHeld hHeld.size hbn
      have HHN := Aside0.mk (below_then HHW.out HHW.out.size hbn)
      have HCE' := Aside0.mk ((hbn.cell (World.block_lt_of_cell? _ _ HCE.out)).trans HCE.out)
      have HOE' := Aside0.mk ((hbn.block _ (Array.getElem?_eq_some_iff.1 HOE.out).1).trans HOE.out)
      refine hK.out _ _ hbt (fun hHeld => ?_)
      clear hK K hbt hbn
      clear HCE; have HCE := HCE'; clear HCE'
      clear HOE; have HOE := HOE'; clear HOE'
      clear HHW; have HHW := HHN; clear HHN
      refine norm_ (a' := ?_) ?_ ?_
      rotate_left
      ·show Act.put _ (some 40) _ = _
       simp only [Act.put, List.setIfInBounds_toArray, List.set_cons_zero, List.set_cons_succ]
       rfl
      refine norm_ (a' := putAll _ ((fun s : Nat × Nat => [((39 : Tmp), Value.slice (some ⟨s.1, 0, none⟩) 1 1), (40, Value.agg D), (11, Value.pointer (some ⟨s.2, 0, none⟩))]) (w6.heap.size, w4_w6.heap.size))) ?_ (hJ (w6.heap.size, w4_w6.heap.size) w5_w6_w4_w6 ⟨HHW.out, HGE.out, HOE.out⟩)
      simp only [putAll, Act.put, List.setIfInBounds_toArray, List.set_cons_zero, List.set_cons_succ]
    ·refine value_ (w1 := w6.alloc (.cells (Sh.u8s (List.replicate 32 0)) 79)) (v := .pointer (some ⟨w6.heap.size, 0, none⟩)) (by rfl) rfl (by first | (go_simp; done) | (go_simp; rfl)) ?_
     have hoe : (w6.alloc (.cells (Sh.u8s (List.replicate 32 0)) 79)).heap[w6.heap.size]? = some (.cells (Sh.u8s (List.replicate 32 0)) 79 (0, 0)) := heap_alloc_new w6 _
     have hbn : Below w6.heap.size w6 (w6.alloc (.cells (Sh.u8s (List.replicate 32 0)) 79)) := below_alloc (Below.refl _ _) _
     generalize World.alloc w6 (.cells (Sh.u8s (List.replicate 32 0)) 79) = w6_w6 at *
     have HOE := Aside0.mk hoe
     have hbt : Below w5.heap.size w5 w6_w6 := below_then hHeld hHeld.size hbn
     have HHN := Aside0.mk (below_then HHW.out HHW.out.size hbn)
     have HGE : Aside0 (w6.heap.size ≤ w6.heap.size) := ⟨HHW.out.size⟩
     refine hK.out _ _ hbt (fun hHeld => ?_)
     clear hK K hbt hbn hoe
     clear HHW; have HHW := HHN; clear HHN
     refine norm_ (a' := ?_) ?_ ?_
     rotate_left
     ·show Act.put _ (some 11) _ = _
      simp only [Act.put, List.setIfInBounds_toArray, List.set_cons_zero, List.set_cons_succ]
      rfl
     refine one_ (i := 4) (N := some 39) #[true, true, true, true, true, false, true, false] rfl rfl (by kernel_rfl) (by decide) (fun K hK => ?_)
     refine value_ (w1 := w6_w6.alloc (.cells #[.slice A2 18 c2] 23)) (v := .slice (some ⟨w6_w6.heap.size, 0, none⟩) 1 1) (by rfl) rfl (by first | (go_simp; done) | (go_simp; rfl)) ?_
     have hce : (w6_w6.alloc (.cells #[.slice A2 18 c2] 23)).cell? ⟨w6_w6.heap.size, 0, none⟩ = some (.slice A2 18 c2) := Lit.cell_new w6_w6 #[.slice A2 18 c2] 23 (0, 0) 0
     have hbn : Below w6_w6.heap.size w6_w6 (w6_w6.alloc (.cells #[.slice A2 18 c2] 23)) := below_alloc (Below.refl _ _) _
     generalize World.alloc w6_w6 (.cells #[.slice A2 18 c2] 23) = w4_w6_w6 at *
     have HCE := Aside0.mk hce
     have hbt : Below w5.heap.size w5 w4_w6_w6 := below_then hHeld hHeld.size hbn
     have HHN := Aside0.mk (below_then HHW.out HHW.out.size hbn)
     have HOE' := Aside0.mk ((hbn.block _ (Array.getElem?_eq_some_iff.1 HOE.out).1).trans HOE.out)
     refine hK.out _ _ hbt (fun hHeld => ?_)
     clear hK K hbt hbn hce
     clear HOE; have HOE := HOE'; clear HOE'
     clear HHW; have HHW := HHN; clear HHN
     refine norm_ (a' := ?_) ?_ ?_
     rotate_left
     ·show Act.put _ (some 39) _ = _
      simp only [Act.put, List.setIfInBounds_toArray, List.set_cons_zero, List.set_cons_succ]
      rfl
     refine one_ (i := 5) (N := some 40) #[true, true, true, true, true, true, true, false] rfl rfl (by kernel_rfl) (by decide) (fun K hK => ?_)
     refine call_ 44 #[.slice A0 n0 d0, .slice (some ⟨w6_w6.heap.size, 0, none⟩) 1 1] (by rfl) rfl (by go_simp) ?_
     refine (HOF.out w4_w6_w6 w6_w6.heap.size hHeld HCE.out).mono ?_
     rintro e w5_w4_w6_w6 ⟨rfl, hbn⟩
     refine ⟨_, rfl, ?_⟩
     have hbt : Below w5.heap.size w5 w5_w4_w6_w6 := below_then hHeld hHeld.size hbn
     have HHN := Aside0.mk (below_then HHW.out HHW.out.size hbn)
     have HCE' := Aside0.mk ((hbn.cell (World.block_lt_of_cell? _ _ HCE.out)).trans HCE.out)
     have HOE' := Aside0.mk ((hbn.block _ (Array.getElem?_eq_some_iff.1 HOE.out).1).trans HOE.out)
     refine hK.out _ _ hbt (fun hHeld => ?_)
     clear hK K hbt hbn
     clear HCE; have HCE := HCE'; clear HCE'
     clear HOE; have HOE := HOE'; clear HOE'
     clear HHW; have HHW := HHN; clear HHN
     refine norm_ (a' := ?_) ?_ ?_
     rotate_left
     ·show Act.put _ (some 40) _ = _
      simp only [Act.put, List.setIfInBounds_toArray, List.set_cons_zero, List.set_cons_succ]
      rfl
     refine norm_ (a' := putAll _ ((fun s : Nat × Nat => [((39 : Tmp), Value.slice (some ⟨s.1, 0, none⟩) 1 1), (40, Value.agg D), (11, Value.pointer (some ⟨s.2, 0, none⟩))]) (w6_w6.heap.size, w6.heap.size))) ?_ (hJ (w6_w6.heap.size, w6.heap.size) w5_w4_w6_w6 ⟨HHW.out, HGE.out, HOE.out⟩)
     simp only [putAll, Act.put, List.setIfInBounds_toArray, List.set_cons_zero, List.set_cons_succ]
end Go.Proofs.YtgljicdpcapgnaaDoor
set_option linter.unusedVariables false
set_option linter.unusedSimpArgs false
namespace Go.Proofs.YtgljicdpcapgnaaDoor
open Go.RowKit Go.Proofs.YtgljicdpcapgnaaDoorW.PrintWords
abbrev Rq := Int × Int × Int × Int × Int × List Int
abbrev kRq : Kd Rq := Kd.pair (Kd.int .u16) (Kd.pair (Kd.int .u16) (Kd.pair (Kd.int .u64) (Kd.pair (Kd.int .u64) (Kd.pair (Kd.int .u32) (Kd.slice 5 (Kd.int .u8))))))
def RqWf (r : Rq) : Prop := (Lit.int .u16 r.1).wf = true ∧ (Lit.int .u16 r.2.1).wf = true ∧ (Lit.int .u64 r.2.2.1).wf = true ∧ (Lit.int .u64 r.2.2.2.1).wf = true ∧ (Lit.int .u32 r.2.2.2.2.1).wf = true ∧ r.2.2.2.2.2.length ≤ maxLen ∧ ∀ x ∈ r.2.2.2.2.2, (Lit.int .u8 x).wf = true
theorem opens_bytes : Opens Tryd.prog 23 (Kd.slice 5 (Kd.int .u8)) (fun xs => xs.length ≤ maxLen ∧ ∀ x ∈ xs, (Lit.int .u8 x).wf = true) := opens_slice Tryd.underlying23 (by kernel_rfl) (opens_int Tryd.underlying5)
set_option maxRecDepth 100000 in
theorem opens_request : Opens Tryd.prog 61 kRq RqWf := by
  intro H enc w base spare held fuel cs x h
  obtain ⟨hl, hf⟩ := struct_fields Tryd.underlying61 h
  obtain ⟨a0, k0, w0⟩ := hf 0 _ rfl (opens_int Tryd.underlying56)
  obtain ⟨a1, k1, w1⟩ := hf 1 _ rfl (opens_int Tryd.underlying56)
  obtain ⟨a2, k2, w2⟩ := hf 2 _ rfl (opens_int Tryd.underlying42)
  obtain ⟨a3, k3, w3⟩ := hf 3 _ rfl (opens_int Tryd.underlying42)
  obtain ⟨a4, k4, w4⟩ := hf 4 _ rfl (opens_int Tryd.underlying33)
  obtain ⟨a5, k5, w5⟩ := hf 5 _ rfl opens_bytes
  have c16 : Tryd.prog.cellsOf 56 = 1 := by kernel_rfl
  have c64 : Tryd.prog.cellsOf 42 = 1 := by kernel_rfl
  have c32 : Tryd.prog.cellsOf 33 = 1 := by kernel_rfl
  have cs1 : Tryd.prog.cellsOf 23 = 1 := by kernel_rfl
  have c6 : Tryd.prog.cellsOf 61 = 6 := by kernel_rfl
  rw [c6] at hl
  change (Kd.int .u16).K w a0 ((cs.drop 0).take (Tryd.prog.cellsOf 56)) at k0
  rw [c16] at k0
  change (Kd.int .u16).K w a1 ((cs.drop 1).take (Tryd.prog.cellsOf 56)) at k1
  rw [c16] at k1
  change (Kd.int .u64).K w a2 ((cs.drop 2).take (Tryd.prog.cellsOf 42)) at k2
  rw [c64] at k2
  change (Kd.int .u64).K w a3 ((cs.drop 3).take (Tryd.prog.cellsOf 42)) at k3
  rw [c64] at k3
  change (Kd.int .u32).K w a4 ((cs.drop 4).take (Tryd.prog.cellsOf 33)) at k4
  rw [c32] at k4
  change (Kd.slice 5 (Kd.int .u8)).K w a5 ((cs.drop 5).take (Tryd.prog.cellsOf 23)) at k5
  rw [cs1] at k5
  refine ⟨(a0, a1, a2, a3, a4, a5), ?_, w0, w1, w2, w3, w4, w5.1, w5.2⟩
  match cs, hl with
  | [y0, y1, y2, y3, y4, y5], _ => exact pairK k0 (pairK k1 (pairK k2 (pairK k3 (pairK k4 k5))))
theorem rq_cells {w : World} {r : Rq} {cs : List Value} (h : kRq.K w r cs) : ∃ A c, cs = [.int .u16 r.1, .int .u16 r.2.1, .int .u64 r.2.2.1, .int .u64 r.2.2.2.1, .int .u32 r.2.2.2.2.1, .slice A r.2.2.2.2.2.length c] ∧ r.2.2.2.2.2.length ≤ c ∧ Kd.C (Kd.int .u8) w A r.2.2.2.2.2.length r.2.2.2.2.2 := by
  obtain ⟨_, _, rfl, rfl, _, _, rfl, rfl, _, _, rfl, rfl, _, _, rfl, rfl, _, _, rfl, rfl, A, c, rfl, hl, hC⟩ := h
  exact ⟨A, c, rfl, hl, hC⟩
end Go.Proofs.YtgljicdpcapgnaaDoor
set_option linter.unusedVariables false
set_option linter.unusedSimpArgs false
namespace Go.Proofs.YtgljicdpcapgnaaDoor
open Go.RowKit Go.Proofs.YtgljicdpcapgnaaDoor.PBase Go.Proofs.YtgljicdpcapgnaaDoorW.PrintWords Go.Proofs.YtgljicdpcapgnaaDoorW.PrintLast Go.Proofs.YtgljicdpcapgnaaDoorW.PrintMore
namespace Ps
abbrev kTk : Kd Tk := Kd.pair (Kd.int .u32) (Kd.pair (Kd.int .u32) (Kd.pair Kd.bool (Kd.int .u64)))
theorem of32 {k : Int} (h : (Lit.int .u32 k).wf = true) : 0 ≤ k ∧ k < 4294967296 := by
  simp [Lit.wf, IntKind.min, IntKind.max, IntKind.signed, IntKind.bits] at h
  omega
theorem of64 {k : Int} (h : (Lit.int .u64 k).wf = true) : 0 ≤ k ∧ k < 18446744073709551616 := by
  simp [Lit.wf, IntKind.min, IntKind.max, IntKind.signed, IntKind.bits] at h
  omega
set_option maxRecDepth 100000 in
theorem opens_token : Opens Tryd.prog 55 kTk TkWf := by
  intro H enc w base spare held fuel cs x h
  obtain ⟨hl, hf⟩ := struct_fields Tryd.underlying55 h
  obtain ⟨a0, k0, w0⟩ := hf 0 _ rfl (opens_int Tryd.underlying33)
  obtain ⟨a1, k1, w1⟩ := hf 1 _ rfl (opens_int Tryd.underlying33)
  obtain ⟨a2, k2, w2⟩ := hf 2 _ rfl (opens_bool Tryd.underlying4)
  obtain ⟨a3, k3, w3⟩ := hf 3 _ rfl (opens_int Tryd.underlying42)
  have c64 : Tryd.prog.cellsOf 42 = 1 := by kernel_rfl
  have c32 : Tryd.prog.cellsOf 33 = 1 := by kernel_rfl
  have cb : Tryd.prog.cellsOf 4 = 1 := by kernel_rfl
  have c4 : Tryd.prog.cellsOf 55 = 4 := by kernel_rfl
  rw [c4] at hl
  change (Kd.int .u32).K w a0 ((cs.drop 0).take (Tryd.prog.cellsOf 33)) at k0
  rw [c32] at k0
  change (Kd.int .u32).K w a1 ((cs.drop 1).take (Tryd.prog.cellsOf 33)) at k1
  rw [c32] at k1
  change Kd.bool.K w a2 ((cs.drop 2).take (Tryd.prog.cellsOf 4)) at k2
  rw [cb] at k2
  change (Kd.int .u64).K w a3 ((cs.drop 3).take (Tryd.prog.cellsOf 42)) at k3
  rw [c64] at k3
  refine ⟨(a0, a1, a2, a3), ?_, of32 w0, of32 w1, of64 w3⟩
  match cs, hl with
  | [y0, y1, y2, y3], _ => exact pairK k0 (pairK k1 (pairK k2 k3))
theorem tk_cells {w : World} {t : Tk} {cs : List Value} (h : kTk.K w t cs) : cs = tkc t := by
  obtain ⟨_, _, rfl, rfl, _, _, rfl, rfl, _, _, rfl, rfl, rfl⟩ := h
  rfl
theorem bytes_of {l : List Int} (h : ∀ x ∈ l, (Lit.int .u8 x).wf = true) : Sh.Bytes l := Sp.bytes_of_wf h
theorem row1 {W : World} {g : Nat} {x : Tn} {A0 A1 : Option Addr} {c0 c1 : Nat} {T : TypeId} (hb : Wk.Blk W g T (tnc x A0 c0 A1 c1)) (l0 : x.f1.length ≤ c0) (g0 : Kd.C (Kd.int .u8) W A0 x.f1.length x.f1) (l1 : x.f4.length ≤ c1) (g1 : Kd.C (Kd.int .u32) W A1 x.f4.length x.f4) : kTn.C W (some ⟨g, 0, none⟩) 1 [x] := by
  refine ⟨rfl, by decide, fun _ => ⟨_, rfl, fun j p hj => ?_⟩⟩
  cases j with
  | zero =>
    obtain rfl : x = p := by simpa using hj
    refine ⟨tnc x A0 c0 A1 c1, rfl, PBase.k58_mk W x l0 g0 l1 g1, fun i u hu => ?_⟩
    have : (⟨g, 0, none⟩ : Addr).add (0 * 5 + i) = ⟨g, i, none⟩ := by rw [Nat.zero_mul, Nat.zero_add, add_plain]
    change W.cell? ((⟨g, 0, none⟩ : Addr).add (0 * 5 + i)) = some u
    rw [this]
    exact hb.at_ i hu
  | succ j => simp at hj
theorem iss_size (k : List Int) (t : Tk) : (iss k t).size = 80 := by
  show (ByteArray.mk (Sp.enc (Sp.bitsOf (sealed k t))).toArray).size = 80
  have : (Sp.enc (Sp.bitsOf (sealed k t))).length = 80 := by rw [Sp.enc_length, Sp.bitsOf_length, sealed_len]
  rw [← this]
  exact List.size_toArray
end Ps
end Go.Proofs.YtgljicdpcapgnaaDoor
namespace Go.Proofs.YtgljicdpcapgnaaDoor
open Go.ChangeShapes Go.WideShapes Go.ChangeAt Go.RowKit
set_option linter.unusedVariables false
theorem own : ownKnob Tryd.prog.godebug = none := by kernel_rfl
theorem laidOut : laidOutB Tryd.prog = true := by kernel_rfl
abbrev keysLaid : List (String × DataW Unit) := [("coaming/sha.keys", Rows.laid_coaming_sha_keys)]
theorem gKeys : Tryd.prog.globalNamed "coaming/sha.keys" = some 0 := by kernel_rfl
theorem tKeys : (Tryd.prog.globals[0]?).map (·.type) = some 157 := by kernel_rfl
theorem door_met (os : Os) (args : Array Value) : laidMetH Tryd.prog keysLaid ((World.doorLaid Tryd.prog 400 os).forCall (fun _ _ => 0) ⟨#[], args, []⟩).memory :=
  laidMetH_of_parts3 (fuel := 8) (laidMet_of_run' 8 (by kernel_rfl) (by kernel_rfl)) (by kernel_rfl) (by kernel_rfl)
theorem laid_at : (Rows.laid_coaming_sha_keys (H := Unit)) = .agg (Sh.keys.map fun k => .lit (.int .u32 k)) := rfl
theorem of_laid {W : World} (h : laidMetH Tryd.prog keysLaid W) : Sh.Ks W := by
  rw [MakeChecks.laidMetH_plain _ _ _ (by kernel_rfl)] at h
  obtain ⟨ps, ⟨g0, t0, cs0, f0, p0, q0, hg0, ht0, hv0, hd0, _, _⟩, _, _⟩ := h
  obtain rfl := Option.some.inj (gKeys.symm.trans hg0)
  obtain rfl := Option.some.inj (tKeys.symm.trans ht0)
  rw [laid_at] at hd0
  obtain ⟨xs, m1, rfl, hx1, hlen, hn3, hel⟩ := DataW.trod_array Tryd.underlying157 hd0
  have c38 : Tryd.prog.cellsOf 33 = 1 := by kernel_rfl
  intro i hi
  have h0 := hel i hi
  rw [c38, Nat.mul_one] at h0
  simp only [Prod.mk.injEq, DataW.agg.injEq] at hx1
  have hix : i < xs.length := by omega
  rw [List.getElem?_eq_getElem hix] at h0
  obtain ⟨k, e1, e2, _⟩ := DataW.trod_int Tryd.underlying33 h0
  have hk : (xs.map (·.1))[i]? = some (.lit (.int .u32 k)) := by rw [List.getElem?_map, List.getElem?_eq_getElem hix, e2]; rfl
  rw [← hx1.1, List.getElem?_map] at hk
  have hki : Sh.keys[i]? = some (Sh.keys.getD i 0) := by
    rw [List.getD_eq_getElem?_getD, List.getElem?_eq_getElem (by exact hi)]; rfl
  rw [hki] at hk
  have hkk : Sh.keys.getD i 0 = k := by simpa using hk
  rw [World.var?_cell hg0 hv0 i, hkk]
  have hc : (cs0.toList.drop i).take 1 = [.int .u32 k] := e1
  have : cs0.toList[i]? = some (.int .u32 k) := by
    have h2 : ((cs0.toList.drop i).take 1)[0]? = some (.int .u32 k) := by rw [hc]; rfl
    rw [List.getElem?_take, if_pos (by decide), List.getElem?_drop, Nat.add_zero] at h2
    exact h2
  simpa using this
def IsRow (k : IntKind) (w : World) (a : Option Addr) (len cap : Nat) (zs : List Int) : Prop :=
  (a = none ∧ len = 0 ∧ cap = 0 ∧ zs = []) ∨
  ∃ x, a = some x ∧ len ≤ cap ∧ cap ≤ maxLen ∧ zs.length = cap ∧ (∀ i, i < zs.length → w.cell? (x.add i) = some (.int k (zs.getD i 0))) ∧ ∀ n ∈ zs, (Lit.int k n).wf = true
open Go.Proofs.YtgljicdpcapgnaaDoorW.PrintWords in
theorem IsRow.reads {W : World} {a : Option Addr} {len cap : Nat} {zs : List Int} (h : IsRow .u8 W a len cap zs) : ∃ l : List Int, l.length = len ∧ l.length ≤ cap ∧ l.length ≤ 9223372036854775807 ∧ Sh.Bytes l ∧ Kd.C (Kd.int .u8) W a l.length l := by
  rcases h with ⟨rfl, rfl, rfl, rfl⟩ | ⟨x, rfl, h1, h2, h3, h4, h5⟩
  · exact ⟨[], rfl, Nat.le_refl _, by simp, (by intro y hy; cases hy), Kd.C_of_reads (d := 0) ⟨rfl, by simp, fun h => absurd h (by simp)⟩⟩
  · have hm : maxLen ≤ 9223372036854775807 := by decide
    have hl : (zs.take len).length = len := by rw [List.length_take]; omega
    refine ⟨zs.take len, hl, by omega, by omega, ?_, ?_⟩
    · intro y hy
      have := h5 y (List.mem_of_mem_take hy)
      simp only [Lit.wf, IntKind.min, IntKind.max, IntKind.signed, IntKind.bits] at this
      simp at this
      omega
    · refine Kd.C_of_reads (d := 0) ⟨rfl, by omega, fun _ => ⟨x, rfl, fun j hj => ?_⟩⟩
      rw [h4 j (by omega)]
      rw [List.getD_eq_getElem?_getD, List.getD_eq_getElem?_getD, List.getElem?_take, if_pos (by omega)]
end Go.Proofs.YtgljicdpcapgnaaDoor
set_option linter.unusedVariables false
set_option linter.unusedSimpArgs false
namespace Go.Proofs.YtgljicdpcapgnaaDoor
open Go.RowKit Go.Proofs.YtgljicdpcapgnaaDoorW.PrintWords Go.Proofs.YtgljicdpcapgnaaDoorW.PrintLast Go.Proofs.YtgljicdpcapgnaaDoorW.PrintMore
namespace Pi
def rqc (x1 x2 x3 x4 x5 : Int) (v : Value) : List Value := [.int .u16 x1, .int .u16 x2, .int .u64 x3, .int .u64 x4, .int .u32 x5, v]
def zrq : List Value := rqc 0 0 0 0 0 (.slice none 0 0)
def zeros : List Value := (List.replicate 16 zrq).flatten ++ [.int .i64 0]
theorem zeros_len : zeros.length = 97 := by decide
theorem zero49 (W : World) : (zeroValue 95).run Tryd.prog W = .ok (.agg zeros.toArray) W := by kernel_rfl
theorem size33 : (Tryd.prog.info? 61).map (·.size) = some 6 := by kernel_rfl
theorem size49 : (Tryd.prog.info? 95).map (·.size) = some 97 := by kernel_rfl
theorem size31 : (Tryd.prog.info? 23).map (·.size) = some 1 := by kernel_rfl
theorem size3 : (Tryd.prog.info? 3).map (·.size) = some 1 := by kernel_rfl
structure Pp (W : World) (base : Nat) (ok : Nat → Prop) (g : Nat) (rs : List Rq) : Prop where mk_ ::
  out : ∃ cs : List Value, Wk.Blk W g 95 cs ∧ base ≤ g ∧ cs.length = 97 ∧ rs.length ≤ 16 ∧ cs[96]? = some (.int .i64 rs.length) ∧ Reps (kRq.M W base ok) 6 rs (cs.take (6 * rs.length))
theorem kRq_E : ∀ q, q ∈ kRq.E → q ≠ 95 := by decide
section
variable {W W' : World} {base : Nat} {ok ok' : Nat → Prop} {g : Nat} {rs : List Rq}
theorem Pp.below (h : Pp W base ok g rs) (hb : Below W.heap.size W W') : Pp W' base ok g rs := by
  obtain ⟨cs, h1, h2, h3, h4, h5, h6⟩ := h.out
  exact ⟨cs, h1.below_ hb, h2, h3, h4, h5, h6.imp_ (fun _ _ hp => Kd.M_below hp hb)⟩
theorem Pp.mono (h : Pp W base ok g rs) (ho : ∀ k, ok k → ok' k) : Pp W base ok' g rs := by
  obtain ⟨cs, h1, h2, h3, h4, h5, h6⟩ := h.out
  exact ⟨cs, h1, h2, h3, h4, h5, h6.imp_ (fun _ _ hp => kRq.M_mono ho hp)⟩
theorem Pp.bound (h : Pp W base ok g rs) : Pp W base (fun k => ok k ∧ base ≤ k ∧ k < W.heap.size) g rs := by
  obtain ⟨cs, h1, h2, h3, h4, h5, h6⟩ := h.out
  exact ⟨cs, h1, h2, h3, h4, h5, h6.imp_ (fun _ _ hp => kRq.M_mono (fun k hk => ⟨hk.1, hk.2.1, hk.2.2.1⟩) (kRq.M_bound hp))⟩
theorem Pp.grown (h : Pp W base ok g rs) {row : Option Nat} (hg : W.grownBy W' row) (hne : some g ≠ row) (ho : ∀ k, ok k → some k ≠ row) : Pp W' base ok g rs := by
  obtain ⟨cs, h1, h2, h3, h4, h5, h6⟩ := h.out
  exact ⟨cs, h1.grown hg hne, h2, h3, h4, h5, h6.imp_ (fun _ _ hp => Kd.M_grown hp hg ho)⟩
theorem Pp.lt (h : Pp W base ok g rs) : g < W.heap.size := by
  obtain ⟨cs, h1, _⟩ := h.out
  exact h1.lt
theorem Pp.cell (h : Pp W base ok g rs) : W.cell? ⟨g, 96, none⟩ = some (.int .i64 rs.length) := by
  obtain ⟨cs, h1, _, _, _, h5, _⟩ := h.out
  exact h1.at_ 96 h5
theorem Pp.le (h : Pp W base ok g rs) : rs.length ≤ 16 := by
  obtain ⟨cs, _, _, _, h4, _⟩ := h.out
  exact h4
end
theorem M_only {w w' : World} {base : Nat} {ok : Nat → Prop} {x : Rq} {cs zs : List Value} {g : Nat} (h : kRq.M w base ok x cs) (hb : Wk.Blk w g 95 zs) (hO : Wk.Only w w' g) : kRq.M w' base ok x cs :=
  kRq.M_mono (fun _ hk => hk.1) (Kd.M_grown (Kd.M_types h hb.out kRq_E) hO.grown (fun k hk he => hk.2 (by injection he)))
theorem M_fresh {w : World} {base B : Nat} {ok : Nat → Prop} {x : Rq} {cs : List Value} (h : kRq.M w B (fun _ => True) x cs) (hb : base ≤ B) (ho : ∀ k, B ≤ k → ok k) : kRq.M w base ok x cs :=
  kRq.M_lower hb (kRq.M_mono (fun k hk => ho k hk.2.1) (kRq.M_bound h))
open Wk (over)
theorem over_len (zs : List Value) (off : Nat) (vs : List Value) (h : off + vs.length ≤ zs.length) : (over zs off vs).length = zs.length := by unfold over; simp; omega
theorem over_hi (zs : List Value) (off : Nat) (vs : List Value) (h : off + vs.length ≤ zs.length) (i : Nat) (hi : off + vs.length ≤ i) : (over zs off vs)[i]? = zs[i]? := by
  unfold over
  rw [List.getElem?_append_right (by simp; omega), List.getElem?_drop]
  congr 1
  simp
  omega
theorem over_take (zs : List Value) (off : Nat) (vs : List Value) (i : Nat) (h : off ≤ zs.length) (hi : i ≤ off) : (over zs off vs).take i = zs.take i := by
  unfold over
  rw [List.append_assoc, List.take_append_of_le_length (by simp; omega), List.take_take, Nat.min_eq_left hi]
theorem over_upto (zs : List Value) (off : Nat) (vs : List Value) (h : off ≤ zs.length) : (over zs off vs).take (off + vs.length) = zs.take off ++ vs := by
  unfold over
  rw [List.take_append_of_le_length (by simp; omega), List.take_of_length_le (by simp; omega)]
theorem over_at (zs : List Value) (off : Nat) (v : Value) (h : off < zs.length) : (over zs off [v])[off]? = some v := by
  unfold over
  rw [List.append_assoc, List.getElem?_append_right (by simp; omega)]
  simp [Nat.min_eq_left (Nat.le_of_lt h)]
theorem rq_M {w : World} {base : Nat} {ok : Nat → Prop} {fl kd ck off len : Int} {data : List Int} {v : Value} (h : Kd.R (Kd.int .u8) 5 w base ok v data) : kRq.M w base ok (fl, kd, ck, off, len, data) (rqc fl kd ck off len v) :=
  ⟨[_], [_, _, _, _, _], rfl, rfl, [_], [_, _, _, _], rfl, rfl, [_], [_, _, _], rfl, rfl, [_], [_, _], rfl, rfl, [_], [_], rfl, rfl, v, rfl, h⟩
theorem rq_Mc {w : World} {base : Nat} {ok : Nat → Prop} {r : Rq} {cs : List Value} (h : kRq.M w base ok r cs) : ∃ v, cs = rqc r.1 r.2.1 r.2.2.1 r.2.2.2.1 r.2.2.2.2.1 v ∧ Kd.R (Kd.int .u8) 5 w base ok v r.2.2.2.2.2 := by
  obtain ⟨_, _, rfl, rfl, _, _, rfl, rfl, _, _, rfl, rfl, _, _, rfl, rfl, _, _, rfl, rfl, v, rfl, hR⟩ := h
  exact ⟨v, rfl, hR⟩
end Pi
set_option maxHeartbeats 1000000 in
set_option maxRecDepth 100000 in
theorem pnew_.calls (ok : Nat → Prop) (w : World) : Calls Tryd.prog 24 #[] w fun e w' => e = .returned (.pointer (some ⟨w.heap.size, 0, none⟩)) ∧ Pi.Pp w' w.heap.size ok w.heap.size [] ∧ Below w.heap.size w w' := by
 obtain ⟨Z, HZ⟩ : ∃ Z : Array Value, Aside0 (Pi.zeros.toArray = Z) := ⟨_, ⟨rfl⟩⟩
 have hz : ∀ W : World, (zeroValue 95).run Tryd.prog W = .ok (.agg Z) W := fun W => by rw [← HZ.out]; exact Pi.zero49 W
 go_enter Tryd.func24, Tryd.ntmps24
 go_wp2_with fail
 go_ret
 refine ⟨rfl, ⟨Pi.zeros, ⟨?_⟩, Nat.le_refl _, Pi.zeros_len, by simp, rfl, Reps.none _ _⟩, (Below.refl _ _).alloc (Nat.le_refl _) _⟩
 rw [HZ.out]
 exact heap_alloc_new w _
theorem full_.calls {W : World} {base : Nat} {ok : Nat → Prop} {g : Nat} {rs : List Rq} (h : Pi.Pp W base ok g rs) : Calls Tryd.prog 69 #[.pointer (some ⟨g, 0, none⟩)] W fun e w' => e = .returned (.bool (decide (rs.length = 16))) ∧ W = w' := by
 have hc := h.cell
 obtain ⟨n, HN⟩ : ∃ n, Aside0 (rs.length = n) := ⟨_, ⟨rfl⟩⟩
 rw [HN.out] at hc ⊢
 clear h
 by_cases hn : n = 16
 ·subst hn
  go_enter Tryd.func69, Tryd.ntmps69
  go_wp2_with fail
  go_ret
  exact ⟨rfl, rfl⟩
 ·have hb : ((n : Int) == 16) = false := by simp; omega
  have HD : Aside0 (decide (n = 16) = false) := ⟨decide_eq_false hn⟩
  clear hn
  go_enter Tryd.func69, Tryd.ntmps69
  go_wp2_with fail
  go_ret
  exact ⟨by rw [HD.out]; rfl, rfl⟩
set_option maxHeartbeats 1000000 in
set_option maxRecDepth 100000 in
theorem clear_.calls {W : World} {base : Nat} {ok : Nat → Prop} {g : Nat} {rs : List Rq} (h : Pi.Pp W base ok g rs) (ok' : Nat → Prop) : Calls Tryd.prog 39 #[.pointer (some ⟨g, 0, none⟩)] W fun e w' => e = .returned (.tuple #[]) ∧ Pi.Pp w' base ok' g [] ∧ Wk.Only W w' g := by
 obtain ⟨cs, h1, h2, h3, _⟩ := h.out
 obtain ⟨Z, HZ⟩ : ∃ Z : List Value, Aside0 (Pi.zeros = Z) := ⟨_, ⟨rfl⟩⟩
 have hz : ∀ W : World, (zeroValue 95).run Tryd.prog W = .ok (.agg Z.toArray) W := fun W => by rw [← HZ.out]; exact Pi.zero49 W
 have HB := Aside0.mk h1
 have HL : Aside0 ((Tryd.prog.info? 95).map (·.size) = some Z.length ∧ Z.length = cs.length ∧ Z.all (·.oneCell') = true) := ⟨by rw [← HZ.out, Pi.zeros_len, h3]; exact ⟨Pi.size49, rfl, by decide⟩⟩
 have H2 := Aside0.mk h2
 clear h1 h h2
 go_enter Tryd.func39, Tryd.ntmps39
 go_wp2_with (refine Wk.store_all rfl rfl 95 (.tmp 4) (.tmp 3) rfl g Z rfl rfl 95 _ HB.out HL.out.1 HL.out.2.1 HL.out.2.2 ?_; intro w3 hX hO; have HX := Aside0.mk hX; have HO := Aside0.mk hO; clear hX hO)
 go_end0
 refine ⟨rfl, ⟨Z, HX.out, H2.out, by rw [← HZ.out]; exact Pi.zeros_len, by simp, by rw [← HZ.out]; rfl, Reps.none _ _⟩, HO.out⟩
set_option maxHeartbeats 1000000 in
set_option maxRecDepth 100000 in
theorem plent_.calls {W : World} {r : Rq} {cs : List Value} (h : kRq.K W r cs) (hl : r.2.2.2.2.2.length < 140737488355328) : Calls Tryd.prog 47 #[.agg cs.toArray] W fun e w' => ∃ cs', e = .returned (.agg cs'.toArray) ∧ kRq.M w' W.heap.size (fun _ => True) r cs' ∧ Below W.heap.size W w' := by
 obtain ⟨A, c, rfl, hlc, hC⟩ := rq_cells h
 obtain ⟨fl, kd, ck, off, len, data⟩ := r
 change data.length ≤ c at hlc
 change data.length < _ at hl
 have HC := Aside0.mk (show Kd.C (Kd.int .u8) W A data.length data from hC)
 clear h hC
 obtain ⟨n, HN⟩ : ∃ n, Aside0 (data.length = n) := ⟨_, ⟨rfl⟩⟩
 rw [HN.out] at hlc hl
 show Calls _ _ #[.agg #[.int .u16 fl, .int .u16 kd, .int .u64 ck, .int .u64 off, .int .u32 len, .slice A data.length c]] _ _
 rw [HN.out]
 have HL := Aside0.mk hl
 clear hl
 go_enter Tryd.func47, Tryd.ntmps47
 go_wp2_with fail
 generalize hWq : World.alloc (World.alloc W _) _ = W0
 have HB0 : Aside0 (Below W.heap.size W W0) := ⟨by rw [← hWq]; exact below_alloc (below_alloc (Below.refl _ _) _) _⟩
 have HX0 : Aside0 (Wk.Blk W0 W.heap.size 61 (Pi.rqc fl kd ck off len (.slice A n c))) := ⟨by rw [← hWq]; exact (Wk.Blk.new W _ (Pi.rqc fl kd ck off len (.slice A n c))).alloc _⟩
 have HY0 : Aside0 (Wk.Blk W0 (W.heap.size + 1) 61 Pi.zrq) := ⟨by rw [← hWq]; exact ⟨heap_alloc2_new W _ _⟩⟩
 clear hWq
 have HF : Aside0 (Calls Tryd.prog 41 #[.slice A n c] W0 fun e w' => ∃ v, e = .returned v ∧ Kd.R (Kd.int .u8) 5 w' W0.heap.size (fun _ => True) v data ∧ Below W0.heap.size W0 w') := ⟨by
  have := clone_.calls A c data data W0 (Kd.C_below HC.out HB0.out) (by rw [HN.out]; exact hlc) (by unfold clone_.f; rw [if_pos (by rw [HN.out]; exact HL.out)])
  rw [HN.out] at this
  exact this⟩
 refine HF.out.mono ?_
 rintro e w5 ⟨v5, rfl, rv, bv⟩
 obtain ⟨A5, c5, rfl⟩ := Kd.R_slice rv
 rw [HN.out] at rv ⊢
 have HV5 := Aside0.mk (Kd.R_lower rv HB0.out.size)
 have HX5 := Aside0.mk (HX0.out.below_ bv)
 have HY5 := Aside0.mk (HY0.out.below_ bv)
 have HB5 := Aside0.mk (below_then HB0.out HB0.out.size bv)
 have HSL := Aside0.mk Pi.size31
 have HSZ := Aside0.mk Pi.size33
 clear rv bv HF HX0 HY0
 go_wp2_with (first
  | (refine Wk.store rfl rfl 23 (.tmp 6) (.tmp 5) rfl W.heap.size 5 (.slice A5 n c5) [.slice A5 n c5] rfl rfl rfl 61 _ HX5.out HSL.out (Nat.le_of_ble_eq_true rfl) rfl ?_; intro w6 hX hO; have HX6 := Aside0.mk (show Wk.Blk w6 W.heap.size 61 (Pi.rqc fl kd ck off len (.slice A5 n c5)) from hX); have HO6 := Aside0.mk hO; have HY6 := Aside0.mk (HY5.out.only hO (Nat.ne_of_gt (Nat.lt_succ_self _))); clear hX hO)
  | refine Wk.load rfl 61 (.tmp 1) rfl (.agg (Pi.rqc fl kd ck off len (.slice A5 n c5)).toArray) (.pointer (some ⟨W.heap.size, 0, none⟩)) rfl (Wk.run_load_blk 61 W.heap.size 0 _ _ HX6.out rfl Tryd.underlying61 rfl HSZ.out) ?_
  | (refine Wk.store_all rfl rfl 61 (.tmp 2) (.tmp 7) rfl (W.heap.size + 1) (Pi.rqc fl kd ck off len (.slice A5 n c5)) rfl rfl 61 _ HY6.out HSZ.out rfl rfl ?_; intro w7 hX hO; have HX := Aside0.mk hX; have HO := Aside0.mk hO; clear hX hO))
 refine bodyPost_ret (Wk.res_c rfl _ (W.heap.size + 1) 61 _ _ rfl HX.out Tryd.underlying61 rfl HSZ.out) rfl ?_
 have hne : ∀ q, q ∈ 5 :: (Kd.int .u8).E → q ≠ 61 := by decide
 have hB6 := Wk.Only.below HB5.out HO6.out (Nat.le_refl _)
 have hR := Wk.R_only (Wk.R_only HV5.out HX5.out hne HO6.out) HY6.out hne HO.out
 exact ⟨_, rfl, Pi.rq_M hR, Wk.Only.below hB6 HO.out (Nat.le_succ _)⟩
end Go.Proofs.YtgljicdpcapgnaaDoor
set_option linter.unusedVariables false
set_option linter.unusedSimpArgs false
namespace Go.Proofs.YtgljicdpcapgnaaDoor
open Go.RowKit Go.Proofs.YtgljicdpcapgnaaDoorW.PrintWords Go.Proofs.YtgljicdpcapgnaaDoorW.PrintLast Go.Proofs.YtgljicdpcapgnaaDoorW.PrintMore
set_option maxHeartbeats 1000000 in
set_option maxRecDepth 100000 in
theorem add_.calls {W : World} {base : Nat} {ok : Nat → Prop} {g : Nat} {rs : List Rq} {r : Rq} {cs : List Value} (h : Pi.Pp W base ok g rs) (hr : kRq.K W r cs) (hl : r.2.2.2.2.2.length < 140737488355328) (hb : base ≤ W.heap.size) (hok : ∀ k, W.heap.size ≤ k → ok k) :
  Calls Tryd.prog 71 #[.pointer (some ⟨g, 0, none⟩), .agg cs.toArray] W fun e w' => e = .returned (.bool (decide (rs.length < 16))) ∧ Pi.Pp w' base ok g (if rs.length < 16 then rs ++ [r] else rs) ∧ W.grownBy w' (some g) := by
 obtain ⟨A, c, rfl, hlc, hC⟩ := rq_cells hr
 obtain ⟨fl, kd, ck, off, len, data⟩ := r
 have HP := Aside0.mk h
 have HR := Aside0.mk hr
 have HL := Aside0.mk hl
 have HBS := Aside0.mk hb
 have HOK := Aside0.mk hok
 show Calls _ _ #[.pointer (some ⟨g, 0, none⟩), .agg #[.int .u16 fl, .int .u16 kd, .int .u64 ck, .int .u64 off, .int .u32 len, .slice A data.length c]] _ _
 obtain ⟨n, HN⟩ : ∃ n, Aside0 (data.length = n) := ⟨_, ⟨rfl⟩⟩
 obtain ⟨m, HM⟩ : ∃ n, Aside0 (rs.length = n) := ⟨_, ⟨rfl⟩⟩
 have hm16 : m ≤ 16 := by rw [← HM.out]; exact h.le
 rw [HN.out, HM.out]
 clear h hr hl hb hok hC hlc
 go_enter Tryd.func71, Tryd.ntmps71
 go_wp2_with fail
 generalize hWq : World.alloc W _ = W1
 have HB1 : Aside0 (Below W.heap.size W W1) := ⟨by rw [← hWq]; exact below_alloc (Below.refl _ _) _⟩
 have HX1 : Aside0 (Wk.Blk W1 W.heap.size 61 (Pi.rqc fl kd ck off len (.slice A n c))) := ⟨by rw [← hWq]; exact Wk.Blk.new W _ (Pi.rqc fl kd ck off len (.slice A n c))⟩
 clear hWq
 have HP1 := Aside0.mk (HP.out.below HB1.out)
 refine (full_.calls HP1.out).mono ?_
 rintro e w' ⟨rfl, rfl⟩
 rw [HM.out]
 by_cases h16 : m = 16
 ·subst h16
  rw [decide_eq_true (rfl : 16 = 16)]
  go_wp2_with fail
  go_ret
  exact ⟨by simp, by simpa using HP1.out, grown_of_below HB1.out _⟩
 ·have hlt : m < 16 := by omega
  have hltI : (m : Int) < 16 := by omega
  rw [decide_eq_false h16]
  have HSZ := Aside0.mk Pi.size33
  have hgl := HP1.out.lt
  have HGL := Aside0.mk hgl
  have hxl := HX1.out.lt
  have HXL := Aside0.mk hxl
  obtain ⟨zs, z1, z2, z3, z4, z5, z6⟩ := HP1.out.out
  rw [HM.out] at z5 z6
  have HZ1 := Aside0.mk z1
  have HZ5 := Aside0.mk (z1.at_ 96 z5)
  have HZ6 := Aside0.mk z6
  have HZR := Aside0.mk (show base ≤ g ∧ zs.length = 97 from ⟨z2, z3⟩)
  clear z1 z2 z3 z4 z5 z6 hgl hxl
  go_wp2_with fail
  refine wp_region_noPanic ?_
  refine Rg.s1 11 (fun w' => Below W1.heap.size W1 w') [10] (Below.refl _ _).drew #[false, false, false, false, false, false, false, false, false, false, false] (fun hHeld => ?_)
  refine Rg.p1 0 (.some 7) ?_
  refine Rg.p1 1 (.some 8) ?_
  refine Rg.p1 2 (.some 9) ?_
  refine Rg.p1 3 (.some 10) ?_
  refine Rg.t1 4 (.some 11) hHeld ?_ (hy := by intro w' hS'; (have c1 := (hS'.cell (p := ⟨g, 96, none⟩) HGL.out).trans HZ5.out; go_simp); first | done | with_reducible rfl)
  refine Rg.t1 5 (.some 12) hHeld ?_ (hy := by intro w' hS'; (have hl := Wk.run_load_blk (P := Tryd.prog) 61 W.heap.size 0 (Pi.rqc fl kd ck off len (.slice A n c)) _ (HX1.out.below_ hS') rfl Tryd.underlying61 rfl HSZ.out; refine (Wk.exec_load 61 (.tmp 3) rfl _ _ rfl hl).trans ?_); first | done | with_reducible rfl)
  refine Rg.p1 7 (.some 14) ?_
  refine Rg.p1 8 (.some 15) ?_
  refine Rg.o1 6 (.some 13) (fun K hK => ?_)
  refine call_ 47 #[.agg (Pi.rqc fl kd ck off len (.slice A n c)).toArray] (by rfl) rfl (by go_simp) ?_
  have hK : kRq.K W1.drew (fl, kd, ck, off, len, data) (Pi.rqc fl kd ck off len (.slice A n c)) := by
   have := kRq.K_below (w1 := W1.drew) (below_drew HB1.out) HR.out
   rw [← HN.out]
   exact this
  refine (plent_.calls hK HL.out).mono ?_
  rintro e w2 ⟨cs', rfl, hM, hb2⟩
  have HM2 := Aside0.mk hM
  have HB2 := Aside0.mk (below_then hHeld hHeld.size hb2)
  clear hM hb2 hK
  refine ⟨_, rfl, ?_⟩
  refine hK.out _ _ HB2.out (fun hHeld => ?_)
  clear hK K
  refine Rg.n1 ?_
  refine Rg.p1 9 (.some 16) ?_
  have HCL : Aside0 (cs'.length = 6 ∧ cs'.all (·.oneCell') = true ∧ (Tryd.prog.info? 61).map (·.size) = some cs'.length ∧ m * 6 + cs'.length ≤ zs.length) := ⟨by
   have h6 : cs'.length = 6 := kRq.K_len (kRq.K_of_M HM2.out)
   exact ⟨h6, List.all_eq_true.2 (kRq.K_one (kRq.K_of_M HM2.out)), by rw [h6]; exact HSZ.out, by rw [h6, HZR.out.2]; omega⟩⟩
  refine Rg.l1 10 none (fun K hK => ?_)
  refine Wk.store_step (by rfl) rfl 61 (.tmp 16) (.tmp 13) rfl g (m * 6) (.agg cs'.toArray) cs' rfl rfl (by simp [Value.cells]) 95 zs (HZ1.out.below_ hHeld) HCL.out.2.2.1 HCL.out.2.2.2 HCL.out.2.1 ?_
  intro w3 hX3 hO3
  have HX3 := Aside0.mk hX3
  have HO3 := Aside0.mk hO3
  clear hX3 hO3
  refine hK.out _ _ ?_
  clear hK K
  refine Rg.d1 ?_
  have hc3 : w3.cell? ⟨g, 96, none⟩ = some (.int .i64 m) := by
   rw [HX3.out.cell, Pi.over_hi zs (m * 6) cs' HCL.out.2.2.2 96 (by rw [HCL.out.1]; omega), ← HZ1.out.cell]
   exact HZ5.out
  have HS3 := Aside0.mk Pi.size3
  have HF3 : Aside0 (96 + 1 ≤ (Wk.over zs (m * 6) cs').length) := ⟨by rw [Pi.over_len _ _ _ HCL.out.2.2.2, HZR.out.2]; omega⟩
  refine NoPanic.normal ?_
  go_wp2_with (refine Wk.store rfl rfl 3 (.tmp 23) (.tmp 21) rfl g 96 (.int .i64 ((m : Int) + 1)) [.int .i64 ((m : Int) + 1)] rfl rfl rfl 95 _ HX3.out HS3.out HF3.out rfl ?_; intro w4 hX hO; have HX4 := Aside0.mk hX; have HO4 := Aside0.mk hO; clear hX hO)
  go_ret
  have h6 := HCL.out.1
  have hzl := HZR.out.2
  have hle := HCL.out.2.2.2
  have hB2 := Aside0.mk (HZ1.out.below_ hHeld)
  refine ⟨rfl, ⟨_, HX4.out, HZR.out.1, by rw [Pi.over_len _ _ _ HF3.out, Pi.over_len _ _ _ hle]; exact hzl, by have := HM.out; simp; omega, ?_, ?_⟩, ?_⟩
  ·rw [Pi.over_at _ _ _ (by have := HF3.out; omega)]
   simp [HM.out]
  ·have e : (Wk.over (Wk.over zs (m * 6) cs') 96 [Value.int .i64 ((m : Int) + 1)]).take (6 * (rs ++ [(fl, kd, ck, off, len, data)]).length) = zs.take (6 * m) ++ cs' := by
    rw [List.length_append, HM.out, Pi.over_take _ _ _ _ (by rw [Pi.over_len _ _ _ hle]; omega) (by simp; omega)]
    have := Pi.over_upto zs (m * 6) cs' (by omega)
    rw [h6] at this
    rw [show 6 * (m + [(fl, kd, ck, off, len, data)].length) = m * 6 + 6 by simp; omega, this, Nat.mul_comm]
   rw [e]
   have hstep : ∀ x c, kRq.M w2 base ok x c → kRq.M w4 base ok x c := fun x c hM => Pi.M_only (Pi.M_only hM hB2.out HO3.out) HX3.out HO4.out
   refine Reps.snoc (HZ6.out.imp_ (fun p c hp => hstep p c (Kd.M_below hp HB2.out))) (hstep _ _ (Pi.M_fresh HM2.out (Nat.le_trans HBS.out HB1.out.size) (fun k hk => HOK.out k (Nat.le_trans HB1.out.size hk)))) h6
  ·exact World.grownBy.trans (grown_of_below (below_then HB1.out HB1.out.size HB2.out) _) (World.grownBy.trans HO3.out.grown HO4.out.grown)
end Go.Proofs.YtgljicdpcapgnaaDoor
set_option linter.unusedVariables false
set_option linter.unusedSimpArgs false
namespace Go.Proofs.YtgljicdpcapgnaaDoor
open Go.RowKit Go.Proofs.YtgljicdpcapgnaaDoorW.PrintWords Go.Proofs.YtgljicdpcapgnaaDoorW.PrintLast Go.Proofs.YtgljicdpcapgnaaDoorW.PrintMore
namespace Pi
theorem info33 : (Tryd.prog.info? 61).map (fun i => (i.zero, i.size, i.bytes)) = some (some (.agg zrq.toArray), 6, 56) := by kernel_rfl
theorem Pp.get {W : World} {base : Nat} {ok : Nat → Prop} {g : Nat} {rs : List Rq} (h : Pp W base ok g rs) (i : Nat) (hi : i < rs.length) : ∃ (zs : List Value) (v : Value), Wk.Blk W g 95 zs ∧ (zs.drop (i * 6)).take 6 = rqc rs[i].1 rs[i].2.1 rs[i].2.2.1 rs[i].2.2.2.1 rs[i].2.2.2.2.1 v ∧ Kd.R (Kd.int .u8) 5 W base ok v rs[i].2.2.2.2.2 := by
  obtain ⟨cs, h1, h2, h3, h4, h5, h6⟩ := h.out
  have hM := h6.2 i rs[i] (List.getElem?_eq_getElem hi)
  rw [List.drop_take, List.take_take, Nat.min_eq_left (by omega)] at hM
  obtain ⟨v, he, hR⟩ := rq_Mc hM
  exact ⟨cs, v, h1, he, hR⟩
theorem K_of_R {w : World} {base : Nat} {ok : Nat → Prop} {fl kd ck off len : Int} {data : List Int} {v : Value} (h : Kd.R (Kd.int .u8) 5 w base ok v data) : kRq.K w (fl, kd, ck, off, len, data) (rqc fl kd ck off len v) := kRq.K_of_M (rq_M h)
end Pi
set_option maxHeartbeats 1000000 in
set_option maxRecDepth 100000 in
theorem all_.calls {W : World} {base : Nat} {ok : Nat → Prop} {g : Nat} {rs : List Rq} (h : Pi.Pp W base ok g rs) (hd : ∀ r ∈ rs, r.2.2.2.2.2.length < 140737488355328) :
  Calls Tryd.prog 31 #[.pointer (some ⟨g, 0, none⟩)] W fun e w' => ∃ v, e = .returned v ∧ kRq.R 61 w' W.heap.size (fun _ => True) v rs ∧ Below W.heap.size W w' := by
 have HP := Aside0.mk h
 have HD := Aside0.mk hd
 have hc := h.cell
 obtain ⟨m, HM⟩ : ∃ n, Aside0 (rs.length = n) := ⟨_, ⟨rfl⟩⟩
 have hm16 : m ≤ 16 := by rw [← HM.out]; exact h.le
 have hm16I : (m : Int) ≤ 16 := by omega
 rw [HM.out] at hc
 clear h hd
 go_enter Tryd.func31, Tryd.ntmps31
 go_wp2_with fail
 clear hc
 go_loopw [3, 9] (fun v i wr => ∃ k : Nat, i = .int .i64 k ∧ k ≤ m ∧ Aside0 (kRq.R 61 wr W.heap.size (fun _ => True) v (rs.take k)) ∧ Aside0 (Below W.heap.size W wr)) (fun _ i _ => m - (intOf i).toNat)
 case atStart => exact ⟨0, rfl, Nat.zero_le _, ⟨Kd.R_nil _ _ _ _ _⟩, ⟨Below.refl _ _⟩⟩
 case round =>
  obtain ⟨k, rfl, hk, HR, HB⟩ := hrel
  by_cases hlt : k < m
  ·have hltI : (k : Int) < m := by omega
   have hltJ : (k : Int) < 16 := by omega
   have hki : k < rs.length := by rw [HM.out]; exact hlt
   obtain ⟨zs, v, z1, z2, zr⟩ := (HP.out.below HB.out).get k hki
   obtain ⟨A, c, rfl⟩ := Kd.R_slice zr
   obtain ⟨r, hr⟩ : ∃ r, rs[k] = r := ⟨_, rfl⟩
   rw [hr] at z2 zr
   have HTK : Aside0 (rs.take (k + 1) = rs.take k ++ [r]) := ⟨by rw [List.take_succ_eq_append_getElem hki, hr]⟩
   have HDR : Aside0 (r.2.2.2.2.2.length < 140737488355328) := ⟨HD.out r (by rw [← hr]; exact List.getElem_mem _)⟩
   obtain ⟨fl, kd, ck, off, len, data⟩ := r
   obtain ⟨n, HN⟩ : ∃ n, Aside0 (data.length = n) := ⟨_, ⟨rfl⟩⟩
   change (zs.drop (k * 6)).take 6 = Pi.rqc fl kd ck off len (.slice A data.length c) at z2
   change Kd.R _ _ _ _ _ (.slice A data.length c) data at zr
   rw [HN.out] at z2 zr
   have HZ1 := Aside0.mk z1
   have HZ2 := Aside0.mk z2
   have HZR := Aside0.mk zr
   have HSZ := Aside0.mk Pi.size33
   clear z1 z2 zr hr hki
   go_wp2_with (refine Wk.load rfl 61 (.tmp 17) rfl (.agg (Pi.rqc fl kd ck off len (.slice A n c)).toArray) (.pointer (some ⟨g, k * 6, none⟩)) rfl (Wk.run_load_blk 61 g (k * 6) _ _ HZ1.out HZ2.out Tryd.underlying61 rfl HSZ.out) ?_)
   have hK : kRq.K wr (fl, kd, ck, off, len, data) (Pi.rqc fl kd ck off len (.slice A n c)) := Pi.K_of_R HZR.out
   refine (plent_.calls hK HDR.out).mono ?_
   rintro e w2 ⟨cs2, rfl, hM, hb2⟩
   obtain ⟨v2, rfl, hR2⟩ := Pi.rq_Mc hM
   obtain ⟨A2, c2, rfl⟩ := Kd.R_slice hR2
   change Kd.R _ _ _ _ _ (.slice A2 data.length c2) data at hR2
   change kRq.M _ _ _ _ (Pi.rqc fl kd ck off len (.slice A2 data.length c2)) at hM
   rw [show ((fl, kd, ck, off, len, data) : Rq).2.2.2.2.2 = data from rfl, HN.out]
   unfold Pi.rqc
   obtain ⟨inner, hown⟩ := Kd.R_own HR.out
   have HM2 := Aside0.mk (kRq.M_lower HB.out.size (Kd.M_new hM hown))
   have HR2 := Aside0.mk (Kd.R_below HR.out hb2)
   have HB2 := Aside0.mk (below_then HB.out HB.out.size hb2)
   have HL2 : Aside0 (((rs.take k).length + 1) * 56 ≤ 140737488355328) := ⟨by rw [List.length_take]; omega⟩
   rw [HN.out] at HM2
   clear hM hb2 hR2 hK hown HZ1 HZ2 HZR
   go_wp2_with (at_builtin; refine Kd.R_append kRq (w0 := W) (W := w2) W.heap.size rfl (.tmp 12) (.tmp 20) 49 61 (.agg Pi.zrq.toArray) 56 rfl Tryd.underlying49 Pi.info33 rfl (by decide) (by omega) u3 (rs.take k) (fl, kd, ck, off, len, data) (Pi.rqc fl kd ck off len (.slice A2 n c2)) (fun _ => True) (fun k => True ∧ some k ≠ u3.ownBlock) rfl rfl HM2.out (fun _ h => h) (fun _ _ => trivial) HR2.out HB2.out HB2.out.size HL2.out ?_; intro v3 w3 hr3 hb3 _ _; have HR3 := Aside0.mk hr3; have HB3 := Aside0.mk hb3; clear hr3 hb3)
   go_roundw
   case rel => exact ⟨k + 1, by go_num, by omega, ⟨by rw [HTK.out]; exact HR3.out⟩, HB3⟩
   case measure => simp [intOf]; omega
  ·obtain rfl : k = m := by omega
   go_wp2_with fail
   go_ret
   refine ⟨_, rfl, ?_, HB.out⟩
   have := HR.out
   rwa [← HM.out, List.take_length] at this
end Go.Proofs.YtgljicdpcapgnaaDoor
set_option linter.unusedVariables false
set_option linter.unusedSimpArgs false
namespace Go.Proofs.YtgljicdpcapgnaaDoor.Wi
open Go.RowKit Go.Proofs.YtgljicdpcapgnaaDoor Go.Proofs.YtgljicdpcapgnaaDoorW.PrintWords Go.Proofs.YtgljicdpcapgnaaDoorW.PrintLast Go.Proofs.YtgljicdpcapgnaaDoorW.PrintMore
def be (v : Int) : Nat → List Int
  | 0 => []
  | n + 1 => (v / 256 ^ n % 256) :: be v n
def packs : List Int → List Int → List Int
  | w :: ws, v :: vs => be v (wd w) ++ packs ws vs
  | _, _ => []
theorem w64 (n : Int) (h0 : -9223372036854775808 ≤ n) (h1 : n ≤ 9223372036854775807) : wrap64 n = n := by unfold wrap64; omega
theorem rd_drop (l : List Int) (i : Nat) (h : i < l.length) : l.drop i = rd l i :: l.drop (i + 1) := by
  rw [List.drop_eq_getElem_cons h]
  simp [rd, List.getD_eq_getElem?_getD, List.getElem?_eq_getElem h]
theorem rd_mem (l : List Int) (i : Nat) (h : i < l.length) : rd l i ∈ l := by
  have : rd l i = l[i] := by simp [rd, List.getD_eq_getElem?_getD, List.getElem?_eq_getElem h]
  rw [this]; exact List.getElem_mem h
theorem width_f (n : Int) : wire_width.f n = some (wd n : Int) := by
  unfold wire_width.f wd
  split
  · rename_i h; subst h; rfl
  · split
    · rename_i h; subst h; rfl
    · split
      · rename_i h; subst h; rfl
      · rfl
theorem shr_be (v : Int) (n : Nat) (h : n ≤ 7) : shr .u64 v (8 * (n : Int)) = v / 256 ^ n := by
  unfold shr
  have e : (8 * (n : Int)).toNat = 8 * n := by omega
  rw [e, Nat.min_eq_left (by show 8 * n ≤ 64; omega), Int.pow_mul]
  rfl
theorem pl1 (x0 x1 : List Int) (i : Nat) (m : Int) (hi : i < x1.length) (hl : x1.length ≤ 1000000) : ∀ (n : Nat), n ≤ 8 → ∀ (K : Nat) (acc : List Int), acc.length + n ≤ 100000000 →
    wire_Pack.l1 (K + n + 1) x0 x1 acc i (8 * (n : Int)) m i = wire_Pack.l0 K x0 x1 (acc ++ be (rd x1 i) n) m (i + 1) := by
  intro n
  induction n with
  | zero =>
    intro _ K acc _
    rw [wire_Pack.l1, if_neg (by omega), be, List.append_nil, w64 _ (by omega) (by omega)]
  | succ n ih =>
    intro hn K acc ha
    rw [wire_Pack.l1, if_pos (by omega), if_pos (by omega), if_pos (by omega)]
    have e : wrap64 (8 * ((n + 1 : Nat) : Int) - 8) = 8 * (n : Int) := by rw [w64 _ (by omega) (by omega)]; omega
    rw [e, if_pos (by omega), if_pos (by omega), shr_be _ _ (by omega)]
    rw [show K + (n + 1) = K + n + 1 by omega, ih (by omega) K _ (by simp; omega), be, List.append_assoc]
    rfl
theorem pl0 (x0 x1 : List Int) (m : Nat) (hm : m = min x0.length x1.length) (h0 : x0.length ≤ 1000000) (h1 : x1.length ≤ 1000000) : ∀ (d i : Nat), i + d = m → ∀ (F : Nat) (acc : List Int), 10 * d + 1 ≤ F → acc.length + 8 * d ≤ 10000000 →
    wire_Pack.l0 F x0 x1 acc m i = some (acc ++ packs (x0.drop i) (x1.drop i)) := by
  intro d
  induction d with
  | zero =>
    intro i e F acc hF _
    obtain ⟨F, rfl⟩ : ∃ G, F = G + 1 := ⟨F - 1, by omega⟩
    rw [wire_Pack.l0, if_neg (by omega)]
    have : packs (x0.drop i) (x1.drop i) = [] := by
      by_cases c : x0.length ≤ i
      · rw [List.drop_eq_nil_of_le c]; rfl
      · rw [show x1.drop i = [] from List.drop_eq_nil_of_le (by omega)]
        cases x0.drop i <;> rfl
    rw [this, List.append_nil]
  | succ d ih =>
    intro i e F acc hF ha
    obtain ⟨F, rfl⟩ : ∃ G, F = G + 1 := ⟨F - 1, by omega⟩
    have hw := wd_range (rd x0 i)
    rw [wire_Pack.l0, if_pos (by omega), if_pos (by omega), if_pos (by omega), width_f, Option.bind_some, w64 _ (by omega) (by omega)]
    have hF' : F = (F - wd (rd x0 i) - 1) + wd (rd x0 i) + 1 := by omega
    have hbl : ∀ v n, (be v n).length = n := by intro v n; induction n with | zero => rfl | succ n ihn => simp [be, ihn]
    rw [hF', pl1 x0 x1 i m (by omega) h1 _ hw.2 _ _ (by omega)]
    have := ih (i + 1) (by omega) (F - wd (rd x0 i) - 1) (acc ++ be (rd x1 i) (wd (rd x0 i))) (by omega) (by rw [List.length_append, hbl]; omega)
    rw [show ((i : Int) + 1) = ((i + 1 : Nat) : Int) by omega, this, rd_drop x0 i (by omega), rd_drop x1 i (by omega), packs, List.append_assoc]
theorem pack_is (x0 x1 : List Int) (h0 : x0.length ≤ 100000) (h1 : x1.length ≤ 100000) (K : Nat) (hK : 10 * x0.length + 1 ≤ K) : wire_Pack.f K x0 x1 = some (packs x0 x1) := by
  unfold wire_Pack.f
  have e : mn (x0.length : Int) (x1.length : Int) = ((min x0.length x1.length : Nat) : Int) := by unfold mn; split <;> omega
  rw [e]
  have := pl0 x0 x1 _ rfl (by omega) (by omega) (min x0.length x1.length) 0 (by omega) K [] (by omega) (by simp; omega)
  simpa using this
theorem take_is (b ws : List Int) (h0 : b.length ≤ 1000000) (h1 : ws.length ≤ 1000000) (hb : Bytes b) : wire_Take.f b ws = some (takes b ws []) := by unfold wire_Take.f; rw [if_pos ⟨by omega, by omega, hb⟩]
theorem bytes_of_wf {l : List Int} (h : ∀ x ∈ l, (Lit.int .u8 x).wf = true) : Bytes l := fun x hx => by
  have := h x hx
  simp only [Lit.wf, IntKind.min, IntKind.max, IntKind.signed, IntKind.bits, Bool.and_eq_true, decide_eq_true_eq] at this
  simp at this
  omega
theorem be_len (v : Int) (n : Nat) : (be v n).length = n := by induction n with | zero => rfl | succ n ihn => simp [be, ihn]
theorem be_bytes (v : Int) (n : Nat) : Bytes (be v n) := by
  induction n with
  | zero => intro x hx; cases hx
  | succ n ih =>
    intro x hx
    rw [be, List.mem_cons] at hx
    rcases hx with rfl | hx
    · omega
    · exact ih x hx
theorem num_app (l r : List Int) : num (l ++ r) = num l * 256 ^ r.length + num r := by
  have key : ∀ (r : List Int) (a : Int), r.foldl (fun n x => n * 256 + x) a = a * 256 ^ r.length + num r := by
    intro r
    induction r with
    | nil => intro a; simp [num]
    | cons x r ih =>
      intro a
      have e : num (x :: r) = x * 256 ^ r.length + num r := by
        show List.foldl _ _ _ = _
        rw [List.foldl_cons, ih, Int.zero_mul, Int.zero_add]
      rw [List.foldl_cons, ih, e, List.length_cons, Int.pow_succ]
      generalize (256 : Int) ^ r.length = p
      rw [Int.add_mul, Int.mul_assoc, Int.mul_comm 256 p]
      omega
  unfold num
  rw [List.foldl_append, key]
  rfl
theorem num_be (v : Int) (hv : 0 ≤ v) (n : Nat) : num (be v n) = v % 256 ^ n := by
  induction n with
  | zero => simp [be, num]
  | succ n ih =>
    rw [be, show (v / 256 ^ n % 256) :: be v n = [v / 256 ^ n % 256] ++ be v n from rfl, num_app, be_len, ih]
    have h1 : num [v / 256 ^ n % 256] = v / 256 ^ n % 256 := by simp [num]
    rw [h1]
    obtain ⟨k, rfl⟩ := Int.eq_ofNat_of_zero_le hv
    have e : ((k % (256 ^ (n + 1)) : Nat) : Int) = ((k / 256 ^ n % 256 * 256 ^ n + k % 256 ^ n : Nat) : Int) := by
      rw [Nat.pow_succ, Nat.mod_mul, Nat.add_comm, Nat.mul_comm]
    simp only [Int.natCast_add, Int.natCast_mul, Int.natCast_emod, Int.natCast_ediv, Int.natCast_pow] at e
    exact e.symm
theorem packs_bytes : ∀ (ws vs : List Int), Bytes (packs ws vs)
  | w :: ws, v :: vs => by
    intro x hx
    rw [packs, List.mem_append] at hx
    exact hx.elim (be_bytes v (wd w) x) (packs_bytes ws vs x)
  | [], _ => fun x hx => by cases hx
  | _ :: _, [] => fun x hx => by cases hx
theorem packs_len : ∀ (ws vs : List Int), (packs ws vs).length ≤ 8 * ws.length
  | w :: ws, v :: vs => by
    have := packs_len ws vs
    have := wd_range w
    rw [packs, List.length_append, be_len, List.length_cons]
    omega
  | [], _ => by simp [packs]
  | _ :: _, [] => by simp [packs]
def cuts : List Int → List Int → List Int
  | w :: ws, v :: vs => v % 256 ^ wd w :: cuts ws vs
  | _, _ => []
theorem takes_packs : ∀ (ws vs more acc : List Int), ws.length ≤ vs.length → (∀ x ∈ vs, 0 ≤ x) → takes (packs ws vs ++ more) ws acc = (acc ++ cuts ws vs, more, true)
  | [], vs, more, acc, _, _ => by simp [takes, packs, cuts]
  | w :: ws, [], more, acc, h, _ => by simp at h
  | w :: ws, v :: vs, more, acc, h, hv => by
    rw [packs, takes, if_neg (by simp [be_len]), List.append_assoc, List.drop_left' (be_len _ _), List.take_left' (be_len _ _), num_be v (hv v (by simp)), takes_packs ws vs more _ (by simpa using h) (fun x hx => hv x (by simp [hx])), cuts]
    simp
end Go.Proofs.YtgljicdpcapgnaaDoor.Wi
set_option linter.unusedVariables false
set_option linter.unusedSimpArgs false
namespace Go.Proofs.YtgljicdpcapgnaaDoor.Wi
open Go.RowKit Go.Proofs.YtgljicdpcapgnaaDoor Go.Proofs.YtgljicdpcapgnaaDoor.PBase Go.Proofs.YtgljicdpcapgnaaDoorW.PrintWords Go.Proofs.YtgljicdpcapgnaaDoorW.PrintLast Go.Proofs.YtgljicdpcapgnaaDoorW.PrintMore
theorem Width_f (n : Int) : coamingref06_Width.f n = some (wd n : Int) := by
  unfold coamingref06_Width.f wd
  split
  · rename_i h; subst h; rfl
  · split
    · rename_i h; subst h; rfl
    · split
      · rename_i h; subst h; rfl
      · rfl
end Go.Proofs.YtgljicdpcapgnaaDoor.Wi
set_option linter.unusedVariables false
set_option linter.unusedSimpArgs false
namespace Go.Proofs.YtgljicdpcapgnaaDoor.Gr
open Go.RowKit Go.Proofs.YtgljicdpcapgnaaDoor Go.Proofs.YtgljicdpcapgnaaDoor.PBase Go.Proofs.YtgljicdpcapgnaaDoorW.PrintWords Go.Proofs.YtgljicdpcapgnaaDoorW.PrintLast Go.Proofs.YtgljicdpcapgnaaDoorW.PrintMore Go.Proofs.YtgljicdpcapgnaaDoor.Wi
theorem takes4 (b : List Int) : takes b [4] [] = if b.length < 4 then ([], [], false) else ([num (b.take 4)], b.drop 4, true) := by
  simp only [takes, show wd 4 = 4 from rfl]
  split <;> rfl
theorem takes2 (b : List Int) : takes b [2] [] = if b.length < 2 then ([], [], false) else ([num (b.take 2)], b.drop 2, true) := by
  simp only [takes, show wd 2 = 2 from rfl]
  split <;> rfl
theorem takes844 (b : List Int) : takes b [8, 4, 4] [] = if b.length < 16 then ([], [], false) else ([num (b.take 8), num ((b.drop 8).take 4), num ((b.drop 12).take 4)], b.drop 16, true) := by
  simp only [takes, show wd 4 = 4 from rfl, show wd 8 = 8 from rfl, List.length_drop, List.drop_drop]
  by_cases h : b.length < 16
  · rw [if_pos h]
    by_cases h1 : b.length < 8
    · rw [if_pos h1]
    · rw [if_neg h1]
      by_cases h2 : b.length - 8 < 4
      · rw [if_pos h2]
      · rw [if_neg h2, if_pos (by omega)]
  · rw [if_neg h, if_neg (by omega), if_neg (by omega), if_neg (by omega)]
    rfl
theorem num_bound (b : List Int) (hb : Bytes b) (n : Nat) (hn : n ≤ 8) : 0 ≤ num (b.take n) ∧ num (b.take n) < 256 ^ n := by
  have h := num_range (b.take n) (hb.take n)
  refine ⟨h.1, Int.lt_of_lt_of_le h.2 ?_⟩
  have : (b.take n).length ≤ n := by rw [List.length_take]; omega
  have h2 : ((256 ^ (b.take n).length : Nat) : Int) ≤ ((256 ^ n : Nat) : Int) := Int.ofNat_le.2 (Nat.pow_le_pow_right (by decide) this)
  rw [Int.natCast_pow, Int.natCast_pow] at h2
  exact h2
def fl (l : List Int) : Bool × Int × Int := if l.length < 4 then (false, 0, 70) else if num (l.take 4) = 1 ∨ num (l.take 4) = 3 then (num (l.take 4) == 3, 4, 0) else (false, 0, 72)
def nx (l : List Int) : Int × List Int × Int × Int :=
  if l.length < 16 then (0, [], 0, 70)
  else if num (l.take 8) ≠ 5280542401877725268 then (0, [], 0, 71)
  else if num ((l.drop 12).take 4) > 1024 then (0, [], 0, 73)
  else if 16 + num ((l.drop 12).take 4) > l.length then (0, [], 0, 70)
  else (num ((l.drop 8).take 4), (l.drop 16).take (num ((l.drop 12).take 4)).toNat, 16 + num ((l.drop 12).take 4), 0)
theorem next_is (l : List Int) (hl : l.length ≤ 1000000) (hb : Bytes l) : greet_Next.f l = some (nx l) := by
  unfold greet_Next.f nx
  have hm : mn (l.length : Int) 16 = ((if l.length < 16 then l.length else 16 : Nat) : Int) := by unfold mn; split <;> split <;> omega
  rw [hm]
  clear hm
  by_cases h : l.length < 16
  · have hl1 : (l.take l.length).length < 16 := by rw [List.length_take]; omega
    rw [if_pos h, if_pos h, if_pos (by omega), if_pos (by omega), Int.toNat_natCast, take_is _ _ (by rw [List.length_take]; omega) (by simp) (hb.take _), Option.bind_some, takes844, if_pos hl1]; rfl
  · have hl2 : ¬ (l.take 16).length < 16 := by rw [List.length_take]; omega
    rw [if_neg h, if_neg h, if_pos (by omega), if_pos (by omega), Int.toNat_natCast, take_is _ _ (by rw [List.length_take]; omega) (by simp) (hb.take _), Option.bind_some, takes844, if_neg hl2]
    have e1 : (l.take 16).take 8 = l.take 8 := by rw [List.take_take]; rfl
    have e2 : ((l.take 16).drop 8).take 4 = (l.drop 8).take 4 := by rw [List.drop_take, List.take_take]; rfl
    have e3 : ((l.take 16).drop 12).take 4 = (l.drop 12).take 4 := by rw [List.drop_take, List.take_take]; rfl
    have b2 := num_bound (l.drop 8) (hb.drop 8) 4 (by decide)
    have b3 := num_bound (l.drop 12) (hb.drop 12) 4 (by decide)
    simp only [e1, e2, e3, rd, show (0 : Int).toNat = 0 from rfl, show (1 : Int).toNat = 1 from rfl, show (2 : Int).toNat = 2 from rfl, List.getD_cons_zero, List.getD_cons_succ, List.length_cons, List.length_nil]
    clear e1 e2 e3
    generalize num (l.take 8) = m1
    generalize num ((l.drop 8).take 4) = m2 at *
    generalize num ((l.drop 12).take 4) = m3 at *
    have p4 : (256 : Int) ^ 4 = 4294967296 := by decide
    rw [p4] at b2 b3
    rw [if_pos trivial, if_pos (by decide)]
    by_cases h1 : m1 = 5280542401877725268
    · rw [if_pos h1, if_neg (show ¬ (m1 ≠ 5280542401877725268) from fun q => q h1), if_pos (by decide)]
      by_cases h2 : m3 > 1024
      · rw [if_pos h2, if_pos h2]
      · have w1 : wrap64 m3 = m3 := w64 _ (by omega) (by omega)
        have w2 : wrap64 (16 + m3) = 16 + m3 := by clear w1; exact w64 _ (by omega) (by omega)
        rw [if_neg h2, if_neg h2, w1, w2]
        clear w1 w2
        by_cases h3 : 16 + m3 > (l.length : Int)
        · rw [if_pos h3, if_pos h3]
        · rw [if_neg h3, if_neg h3, if_pos (by decide), if_pos (by omega), if_pos (by omega)]
          have ec : clone_.f ((l.take (16 + m3).toNat).drop 16) = some ((l.drop 16).take m3.toNat) := by
            unfold clone_.f
            rw [if_pos (by rw [List.length_drop, List.length_take]; omega), List.drop_take]
            congr 2
            omega
          rw [ec, Option.bind_some, Int.emod_eq_of_lt b2.1 b2.2]
    · rw [if_neg h1, if_pos h1]
end Go.Proofs.YtgljicdpcapgnaaDoor.Gr
set_option linter.unusedVariables false
set_option linter.unusedSimpArgs false
namespace Go.Proofs.YtgljicdpcapgnaaDoor.Gr
open Go.RowKit Go.Proofs.YtgljicdpcapgnaaDoor Go.Proofs.YtgljicdpcapgnaaDoor.PBase Go.Proofs.YtgljicdpcapgnaaDoorW.PrintWords Go.Proofs.YtgljicdpcapgnaaDoorW.PrintLast Go.Proofs.YtgljicdpcapgnaaDoorW.PrintMore Go.Proofs.YtgljicdpcapgnaaDoor.Wi
def pairs : List Int → List Int
  | a :: b :: l => (a * 256 + b) :: pairs l
  | _ => []
def ak (l : List Int) : ByteArray × List Int × Int :=
  if l.length < 4 then (⟨#[]⟩, [], 74)
  else if num (l.take 4) > 255 then (⟨#[]⟩, [], 74)
  else if num (l.take 4) > ((l.drop 4).length : Int) then (⟨#[]⟩, [], 74)
  else if ((l.drop 4).drop (num (l.take 4)).toNat).length < 2 then (⟨#[]⟩, [], 74)
  else if ((((l.drop 4).drop (num (l.take 4)).toNat).drop 2).length : Int) ≠ 2 * num (((l.drop 4).drop (num (l.take 4)).toNat).take 2) then (⟨#[]⟩, [], 74)
  else (strOfNums ((l.drop 4).take (num (l.take 4)).toNat), pairs (((l.drop 4).drop (num (l.take 4)).toNat).drop 2), 0)
theorem or_16 (h x : Int) (h0 : 0 ≤ h) (h1 : h ≤ 255) (h2 : 0 ≤ x) (h3 : x ≤ 255) : bits .or .u16 (IntKind.u16.wrap ((IntKind.u16.wrap h) * 256)) (IntKind.u16.wrap x) = h * 256 + x := by
  have e : ∀ n : Int, IntKind.u16.wrap n = n % 65536 := fun n => by simp [IntKind.wrap, IntKind.bits, IntKind.signed]
  rw [e, e, e, Int.emod_eq_of_lt h0 (by omega), Int.emod_eq_of_lt (by omega) (by omega), Int.emod_eq_of_lt h2 (by omega)]
  exact bits_join .u16 16 (by decide) (fun n a b => by rw [e]; omega) 8 _ _ (by omega) (by omega) (by omega) h2 (by omega) (by omega)
theorem pairs_two (l : List Int) (i : Nat) (h : i + 1 < l.length) : pairs (l.drop i) = (rd l i * 256 + rd l ((i + 1 : Nat) : Int)) :: pairs (l.drop (i + 2)) := by
  rw [rd_drop l i (by omega), rd_drop l (i + 1) (by omega), pairs]
theorem pairs_len : ∀ (l : List Int), (pairs l).length ≤ l.length
  | [] => by simp [pairs]
  | [_] => by simp [pairs]
  | a :: b :: l => by have := pairs_len l; simp only [pairs, List.length_cons]; omega
end Go.Proofs.YtgljicdpcapgnaaDoor.Gr
set_option linter.unusedVariables false
set_option linter.unusedSimpArgs false
namespace Go.Proofs.YtgljicdpcapgnaaDoor
open Go.RowKit Go.Proofs.YtgljicdpcapgnaaDoorW.PrintWords
namespace Wi
def rq0 (b : List Int) : Int := num (b.take 4)
def rq1 (b : List Int) : Int := num ((b.drop 4).take 2)
def rq2 (b : List Int) : Int := num ((b.drop 6).take 2)
def rq3 (b : List Int) : Int := num ((b.drop 8).take 8)
def rq4 (b : List Int) : Int := num ((b.drop 16).take 8)
def rq5 (b : List Int) : Int := num ((b.drop 24).take 4)
theorem takes6 (b : List Int) : takes b [4, 2, 2, 8, 8, 4] [] = if b.length < 28 then ([], [], false) else ([rq0 b, rq1 b, rq2 b, rq3 b, rq4 b, rq5 b], b.drop 28, true) := by
  simp only [takes, show wd 4 = 4 from rfl, show wd 8 = 8 from rfl, show wd 2 = 2 from rfl, List.length_drop, List.drop_drop]
  by_cases h : b.length < 28
  · rw [if_pos h]
    by_cases h0 : b.length < 4
    · rw [if_pos h0]
    · rw [if_neg h0]
      by_cases h1 : b.length - 4 < 2
      · rw [if_pos h1]
      · rw [if_neg h1]
        by_cases h2 : b.length - (4 + 2) < 2
        · rw [if_pos h2]
        · rw [if_neg h2]
          by_cases h3 : b.length - (4 + 2 + 2) < 8
          · rw [if_pos h3]
          · rw [if_neg h3]
            by_cases h4 : b.length - (4 + 2 + 2 + 8) < 8
            · rw [if_pos h4]
            · rw [if_neg h4]
              rw [if_pos (by omega)]
  · rw [if_neg h, if_neg (by omega), if_neg (by omega), if_neg (by omega), if_neg (by omega), if_neg (by omega), if_neg (by omega)]
    rfl
theorem num_bnd (b : List Int) (hb : Bytes b) (n : Nat) : 0 ≤ num (b.take n) ∧ num (b.take n) < 256 ^ n := by
  have := num_range (b.take n) (hb.take n)
  refine ⟨this.1, Int.lt_of_lt_of_le this.2 ?_⟩
  have hle : (b.take n).length ≤ n := by rw [List.length_take]; omega
  have h2 : (256 : Nat) ^ (b.take n).length ≤ 256 ^ n := Nat.pow_le_pow_right (by decide) hle
  have h3 : ((256 ^ (b.take n).length : Nat) : Int) ≤ ((256 ^ n : Nat) : Int) := Int.ofNat_le.2 h2
  rwa [Int.natCast_pow, Int.natCast_pow] at h3
theorem rq_bnd (b : List Int) (hb : Bytes b) : (0 ≤ rq0 b ∧ rq0 b < 4294967296) ∧ (0 ≤ rq1 b ∧ rq1 b < 65536) ∧ (0 ≤ rq2 b ∧ rq2 b < 65536) ∧ (0 ≤ rq3 b ∧ rq3 b < 18446744073709551616) ∧ (0 ≤ rq4 b ∧ rq4 b < 18446744073709551616) ∧ (0 ≤ rq5 b ∧ rq5 b < 4294967296) :=
  ⟨num_bnd b hb 4, num_bnd _ (hb.drop 4) 2, num_bnd _ (hb.drop 6) 2, num_bnd _ (hb.drop 8) 8, num_bnd _ (hb.drop 16) 8, num_bnd _ (hb.drop 24) 4⟩
theorem rq_take (b : List Int) : rq0 (b.take 28) = rq0 b ∧ rq1 (b.take 28) = rq1 b ∧ rq2 (b.take 28) = rq2 b ∧ rq3 (b.take 28) = rq3 b ∧ rq4 (b.take 28) = rq4 b ∧ rq5 (b.take 28) = rq5 b := by
  refine ⟨?_, ?_, ?_, ?_, ?_, ?_⟩
  · unfold rq0; rw [List.take_take]; rfl
  · unfold rq1; rw [List.drop_take, List.take_take]; rfl
  · unfold rq2; rw [List.drop_take, List.take_take]; rfl
  · unfold rq3; rw [List.drop_take, List.take_take]; rfl
  · unfold rq4; rw [List.drop_take, List.take_take]; rfl
  · unfold rq5; rw [List.drop_take, List.take_take]; rfl
def nextOf (b : List Int) : Int × Int × Int × Int × Int × List Int × Int × Int :=
  if b.length < 28 then (0, 0, 0, 0, 0, [], 0, 80)
  else if rq0 b ≠ 627086611 then (0, 0, 0, 0, 0, [], 0, 81)
  else if rq2 b = 1 then
    if rq5 b > 65536 then (0, 0, 0, 0, 0, [], 0, 82)
    else if 28 + rq5 b > b.length then (0, 0, 0, 0, 0, [], 0, 80)
    else (rq1 b, rq2 b, rq3 b, rq4 b, rq5 b, (b.drop 28).take (rq5 b).toNat, 28 + rq5 b, 0)
  else (rq1 b, rq2 b, rq3 b, rq4 b, rq5 b, [], 28, 0)
end Wi
def req_Next.f (l0 : List Int) : Option (Int × Int × Int × Int × Int × List Int × Int × Int) := if l0.length ≤ 1099511627776 ∧ ∀ x ∈ l0, 0 ≤ x ∧ x ≤ 255 then some (Wi.nextOf l0) else none
end Go.Proofs.YtgljicdpcapgnaaDoor
set_option linter.unusedVariables false
set_option linter.unusedSimpArgs false
namespace Go.Proofs.YtgljicdpcapgnaaDoor.Cn
open Go.RowKit Go.Proofs.YtgljicdpcapgnaaDoor Go.Proofs.YtgljicdpcapgnaaDoor.PBase Go.Proofs.YtgljicdpcapgnaaDoorW.PrintWords Go.Proofs.YtgljicdpcapgnaaDoorW.PrintLast Go.Proofs.YtgljicdpcapgnaaDoorW.PrintMore
abbrev Ex := Int × Int × Bool
def ex0 : Ex := (0, 0, false)
structure St where
  blk : Int
  kept : List Int
  send : List Int
  st : Int
  ex : Ex
  sh : Bool
  rs : List Rq
def rep (o k : Int) (d : List Int) : List Int := Wi.packs [8, 4, 4, 4] [1100100111001001, o, k, d.length] ++ d
def hello : List Int := Wi.packs [8, 8, 2] [5639144782019643715, 5280542401877725268, 3]
def can (ro : Bool) : Int := if ro then 111 else 109
def info (x : Ex) : List Int := Wi.packs [2, 8, 2] [0, x.2.1, can x.2.2]
def blocks (b : Int) : List Int := Wi.packs [2, 4, 4, 4] [3, 1, b, 65536]
def old (x : Ex) (sh : Bool) : List Int := Wi.packs [8, 2] [x.2.1, can x.2.2] ++ (if sh then [] else List.replicate 124 0)
def served (b : Int) (t : Ps.Tk) : Ex := (t.1, if b = 0 ∨ t.2.2.2 ≤ 18446744073709551615 / b then t.2.2.2 * b else 18446744073709551615, t.2.2.1)
def new (b : Int) : St := ⟨b, [], hello, 1, ex0, false, []⟩
def close (c : St) : St := { c with kept := [], st := 4, rs := [] }
def say (c : St) (o k : Int) (d : List Int) : St := { c with send := c.send ++ rep o k d }
def refused (e : Int) : Int := if e = 74 then 2147483651 else if e = 50 ∨ e = 51 then 2147483654 else 2147483650
def asked (l : List Ps.Tn) (c : St) (k : Int) (d : List Int) : St :=
  if (Gr.ak d).2.2 ≠ 0 then say c k (refused (Gr.ak d).2.2) []
  else if (Ps.check l (Gr.ak d).1).2 ≠ 0 then say c k (refused (Ps.check l (Gr.ak d).1).2) []
  else
    let x := served c.blk (Ps.check l (Gr.ak d).1).1
    let c1 := say c k 3 (info x)
    let c2 := if 3 ∈ (Gr.ak d).2.1 then say c1 k 3 (blocks c.blk) else c1
    let c3 := say c2 k 1 []
    if k = 7 then { c3 with ex := x, st := 3 } else c3
def oldway (l : List Ps.Tn) (c : St) (d : List Int) : St :=
  if (Ps.check l (strOfNums d)).2 ≠ 0 ∨ 255 < d.length then close c
  else { c with ex := served c.blk (Ps.check l (strOfNums d)).1, st := 3, send := c.send ++ old (served c.blk (Ps.check l (strOfNums d)).1) c.sh }
def option (l : List Ps.Tn) (c : St) (k : Int) (d : List Int) : St :=
  if k = 2 then close (say c k 1 [])
  else if k = 3 then say c k (if 0 < d.length then 2147483651 else 1) []
  else if k = 1 then oldway l c d
  else if k = 6 ∨ k = 7 then asked l c k d
  else say c k 2147483649 []
def request (c : St) : Int × Int × St :=
  if c.rs.length = 16 then (0, 80, c)
  else match Wi.nextOf c.kept with
    | (f, k, ck, off, len, data, n, e) => if e ≠ 0 then (0, e, c) else if k = 2 then (n, 0, close c) else (n, 0, { c with rs := c.rs ++ [(f, k, ck, off, len, data)] })
def step (l : List Ps.Tn) (c : St) : Int × Int × St :=
  if c.st = 1 then ((Gr.fl c.kept).2.1, (Gr.fl c.kept).2.2, if (Gr.fl c.kept).2.2 = 0 then { c with sh := (Gr.fl c.kept).1, st := 2 } else c)
  else if c.st = 2 then ((Gr.nx c.kept).2.2.1, (Gr.nx c.kept).2.2.2, if (Gr.nx c.kept).2.2.2 = 0 then option l c (Gr.nx c.kept).1 (Gr.nx c.kept).2.1 else c)
  else if c.st = 3 then request c
  else (0, 80, c)
def rd (l : List Ps.Tn) : Nat → St → St
  | 0, c => c
  | F + 1, c =>
    if (step l c).2.1 = 70 ∨ (step l c).2.1 = 80 then (step l c).2.2
    else if (step l c).2.1 = 0 then (if (step l c).2.2.st = 4 then (step l c).2.2 else rd l F { (step l c).2.2 with kept := (step l c).2.2.kept.drop (step l c).1.toNat })
    else close (step l c).2.2
def read (l : List Ps.Tn) (c : St) : St := rd l (c.kept.length + 1) c
def feed (l : List Ps.Tn) (c : St) (b : List Int) : St :=
  if c.st = 4 then c
  else if 131072 < b.length ∨ 131072 < c.kept.length + b.length then close c
  else read l { c with kept := c.kept ++ b }
def out (c : St) : St := { c with send := [] }
def take (l : List Ps.Tn) (c : St) (k : Int) : St := if k < 0 ∨ (c.rs.length : Int) ≤ k then read l c else read l { c with rs := c.rs.eraseIdx k.toNat }
end Go.Proofs.YtgljicdpcapgnaaDoor.Cn
set_option linter.unusedVariables false
set_option linter.unusedSimpArgs false
namespace Go.Proofs.YtgljicdpcapgnaaDoor
open Go.RowKit Go.Proofs.YtgljicdpcapgnaaDoorW.PrintWords Go.Proofs.YtgljicdpcapgnaaDoorW.PrintLast Go.Proofs.YtgljicdpcapgnaaDoorW.PrintMore
namespace Cn
structure Fr (W W' : World) (ok : Nat → Prop) : Prop where mk_ ::
  os : W'.os = W.os
  tape : W'.tape = W.tape
  output : W'.output = W.output
  size : W.heap.size ≤ W'.heap.size
  block : ∀ k, k < W.heap.size → ¬ ok k → W'.heap[k]? = W.heap[k]?
section
variable {W W' W1 W2 : World} {ok ok' : Nat → Prop} {p tb pp : Nat} {vk vs : Value} {c : St}
theorem Fr.refl (W : World) (ok : Nat → Prop) : Fr W W ok := ⟨rfl, rfl, rfl, Nat.le_refl _, fun _ _ _ => rfl⟩
theorem Fr.trans (h : Fr W W1 ok) (h' : Fr W1 W2 ok) : Fr W W2 ok := ⟨h'.os.trans h.os, h'.tape.trans h.tape, h'.output.trans h.output, Nat.le_trans h.size h'.size, fun k hk hn => (h'.block k (Nat.lt_of_lt_of_le hk h.size) hn).trans (h.block k hk hn)⟩
theorem Fr.of_below (h : Below W.heap.size W W') (ok : Nat → Prop) : Fr W W' ok := ⟨h.os, h.tape, h.output, h.size, fun k hk _ => h.block k hk⟩
theorem Fr.of_grown {row : Option Nat} (h : W.grownBy W' row) (hr : ∀ k, row = some k → ok k) : Fr W W' ok := ⟨h.os, h.tape, h.output, h.size, fun k hk hn => h.block k hk (fun he => hn (hr k he.symm))⟩
theorem Fr.of_only {g : Nat} (h : Wk.Only W W' g) (hg : ok g) : Fr W W' ok := Fr.of_grown h.grown (fun k hk => by cases hk; exact hg)
theorem Fr.mono (h : Fr W W' ok) (ho : ∀ k, ok k → ok' k) : Fr W W' ok' := ⟨h.os, h.tape, h.output, h.size, fun k hk hn => h.block k hk (fun hh => hn (ho k hh))⟩
theorem Fr.below {B : Nat} {w0 : World} (h : Fr W W' ok) (hb : Below B w0 W) (hB : B ≤ W.heap.size) (ho : ∀ k, ok k → B ≤ k) : Below B w0 W' :=
  hb.trans ⟨h.os, h.tape, h.output, h.size, fun k hk => h.block k (Nat.lt_of_lt_of_le hk hB) (fun hh => by have := ho k hh; omega)⟩
def cc (pp tb : Nat) (blk : Int) (vk vs : Value) (st : Int) (ex : Ex) (sh : Bool) : List Value := [.pointer (some ⟨pp, 0, none⟩), .pointer (some ⟨tb, 0, none⟩), .int .i64 blk, vk, vs, .int .u8 st, .int .u32 ex.1, .int .u64 ex.2.1, .bool ex.2.2, .bool sh]
structure Cv (W : World) (ok : Nat → Prop) (p tb pp : Nat) (vk vs : Value) (c : St) : Prop where mk_ ::
  blk : Wk.Blk W p 72 (cc pp tb c.blk vk vs c.st c.ex c.sh)
  okp : ok p
  okq : ok pp
  kept : Kd.R (Kd.int .u8) 5 W 0 (fun k => ok k ∧ some k ≠ vs.ownBlock) vk c.kept
  send : Kd.R (Kd.int .u8) 5 W 0 (fun k => ok k ∧ some k ≠ vk.ownBlock) vs c.send
  pipe : Pi.Pp W 0 (fun k => ok k ∧ some k ≠ vk.ownBlock ∧ some k ≠ vs.ownBlock) pp c.rs
def Cn (W : World) (ok : Nat → Prop) (p tb : Nat) (c : St) : Prop := ∃ pp vk vs, Cv W ok p tb pp vk vs c
theorem ne_conn : ∀ q, q ∈ 5 :: (Kd.int .u8).E → q ≠ 72 := by decide
theorem ne_pipe : ∀ q, q ∈ 5 :: (Kd.int .u8).E → q ≠ 95 := by decide
theorem kRq_conn : ∀ q, q ∈ kRq.E → q ≠ 72 := by decide
theorem Pp_frame {base g : Nat} {rs : List Rq} (h : Pi.Pp W base ok g rs) (hf : ∀ k, k < W.heap.size → (k = g ∨ ok k) → W'.heap[k]? = W.heap[k]?) : Pi.Pp W' base ok g rs := by
  obtain ⟨cs, h1, h2, h3, h4, h5, h6⟩ := h.out
  exact ⟨cs, ⟨(hf g h1.lt (.inl rfl)).trans h1.out⟩, h2, h3, h4, h5, h6.imp_ (fun _ _ hp => Kd.M_step hp (fun k ho hk => hf k hk (.inr ho)))⟩
theorem Pp_only {base g b : Nat} {rs : List Rq} {zs : List Value} (h : Pi.Pp W base ok g rs) (hb : Wk.Blk W b 72 zs) (hO : Wk.Only W W' b) : Pi.Pp W' base ok g rs := by
  obtain ⟨cs, h1, h2, h3, h4, h5, h6⟩ := h.out
  refine ⟨cs, h1.only hO (h1.ne_ hb (by decide)), h2, h3, h4, h5, h6.imp_ (fun _ _ hp => ?_)⟩
  exact kRq.M_mono (fun _ hk => hk.1) (Kd.M_grown (Kd.M_types hp hb.out kRq_conn) hO.grown (fun k hk he => hk.2 (by injection he)))
theorem Cv.frame (h : Cv W ok p tb pp vk vs c) (hf : Fr W W' ok') (hd : ∀ k, ok k → ¬ ok' k) : Cv W' ok p tb pp vk vs c :=
  ⟨⟨(hf.block p h.blk.lt (hd p h.okp)).trans h.blk.out⟩, h.okp, h.okq, Kd.R_step h.kept (fun k ho hk => hf.block k hk (hd k ho.1)), Kd.R_step h.send (fun k ho hk => hf.block k hk (hd k ho.1)),
    Pp_frame h.pipe (fun k hk ho => hf.block k hk (hd k (ho.elim (fun e => e ▸ h.okq) (fun ho => ho.1))))⟩
theorem Cv.below (h : Cv W ok p tb pp vk vs c) (hb : Below W.heap.size W W') : Cv W' ok p tb pp vk vs c := h.frame (Fr.of_below hb (fun _ => False)) (fun _ _ hh => hh)
theorem Cn.frame (h : Cn W ok p tb c) (hf : Fr W W' ok') (hd : ∀ k, ok k → ¬ ok' k) : Cn W' ok p tb c := by
  obtain ⟨pp, vk, vs, h⟩ := h
  exact ⟨pp, vk, vs, h.frame hf hd⟩
theorem Cn.below (h : Cn W ok p tb c) (hb : Below W.heap.size W W') : Cn W' ok p tb c := h.frame (Fr.of_below hb (fun _ => False)) (fun _ _ hh => hh)
theorem Cv.lt (h : Cv W ok p tb pp vk vs c) : p < W.heap.size := h.blk.lt
theorem Cv.bound (h : Cv W ok p tb pp vk vs c) : Cv W (fun k => ok k ∧ k < W.heap.size) p tb pp vk vs c :=
  ⟨h.blk, ⟨h.okp, h.blk.lt⟩, ⟨h.okq, h.pipe.lt⟩, Kd.R_mono (Kd.R_bound h.kept) (fun k hk => ⟨⟨hk.1.1, hk.2.2.1⟩, hk.1.2⟩), Kd.R_mono (Kd.R_bound h.send) (fun k hk => ⟨⟨hk.1.1, hk.2.2.1⟩, hk.1.2⟩), h.pipe.bound.mono (fun k hk => ⟨⟨hk.1.1, hk.2.2⟩, hk.1.2⟩)⟩
theorem Cv.mono (h : Cv W ok p tb pp vk vs c) (ho : ∀ k, ok k → ok' k) : Cv W ok' p tb pp vk vs c :=
  ⟨h.blk, ho p h.okp, ho pp h.okq, Kd.R_mono h.kept (fun k hk => ⟨ho k hk.1, hk.2⟩), Kd.R_mono h.send (fun k hk => ⟨ho k hk.1, hk.2⟩), h.pipe.mono (fun k hk => ⟨ho k hk.1, hk.2⟩)⟩
theorem Cn.bound (h : Cn W ok p tb c) : Cn W (fun k => ok k ∧ k < W.heap.size) p tb c := by
  obtain ⟨pp, vk, vs, h⟩ := h
  exact ⟨pp, vk, vs, h.bound⟩
theorem Cn.mono (h : Cn W ok p tb c) (ho : ∀ k, ok k → ok' k) : Cn W ok' p tb c := by
  obtain ⟨pp, vk, vs, h⟩ := h
  exact ⟨pp, vk, vs, h.mono ho⟩
theorem Cv.turn {c' : St} (h : Cv W ok p tb pp vk vs c) (hO : Wk.Only W W' p) (hX : Wk.Blk W' p 72 (cc pp tb c'.blk vk vs c'.st c'.ex c'.sh)) (e1 : c'.kept = c.kept) (e2 : c'.send = c.send) (e3 : c'.rs = c.rs) : Cv W' ok p tb pp vk vs c' :=
  ⟨hX, h.okp, h.okq, by rw [e1]; exact Wk.R_only h.kept h.blk ne_conn hO, by rw [e2]; exact Wk.R_only h.send h.blk ne_conn hO, by rw [e3]; exact Pp_only h.pipe h.blk hO⟩
theorem Cv.sent {v1 : Value} {s1 : List Int} {c' : St} (h : Cv W ok p tb pp vk vs c) (hR : Kd.R (Kd.int .u8) 5 W1 0 (fun k => ok k ∧ some k ≠ vk.ownBlock) v1 s1) (hg : W.grownBy W1 vs.ownBlock) (hat : ∀ b, v1.ownBlock = some b → vs.ownBlock = some b ∨ W.heap.size ≤ b)
    (hO : Wk.Only W1 W2 p) (hX : Wk.Blk W2 p 72 (cc pp tb c'.blk vk v1 c'.st c'.ex c'.sh)) (e1 : c'.kept = c.kept) (e2 : c'.send = s1) (e3 : c'.rs = c.rs) : Cv W2 ok p tb pp vk v1 c' := by
  have hb1 : Wk.Blk W1 p 72 (cc pp tb c.blk vk vs c.st c.ex c.sh) := h.blk.grown hg (Kd.R_ne h.send h.blk.out (by decide))
  have ne : ∀ k, k < W.heap.size → some k ≠ vs.ownBlock → some k ≠ v1.ownBlock := fun k hk hn he => by
    rcases hat k he.symm with h1 | h1
    · exact hn h1.symm
    · omega
  refine ⟨hX, h.okp, h.okq, ?_, ?_, ?_⟩
  · rw [e1]
    refine Wk.R_only ?_ hb1 ne_conn hO
    exact Kd.R_mono (Kd.R_grown (Kd.R_bound h.kept) hg (fun k hk => hk.1.2)) (fun k hk => ⟨hk.1.1, ne k hk.2.2.1 hk.1.2⟩)
  · rw [e2]
    exact Wk.R_only hR hb1 ne_conn hO
  · rw [e3]
    refine Pp_only ?_ hb1 hO
    obtain ⟨cs, z1, _⟩ := h.pipe.out
    exact (h.pipe.bound.grown hg (Kd.R_ne h.send z1.out (by decide)) (fun k hk => hk.1.2.2)).mono (fun k hk => ⟨hk.1.1, hk.1.2.1, ne k hk.2.2 hk.1.2.2⟩)
theorem Cv.keeps {v1 : Value} {s1 : List Int} {c' : St} (h : Cv W ok p tb pp vk vs c) (hR : Kd.R (Kd.int .u8) 5 W1 0 (fun k => ok k ∧ some k ≠ vs.ownBlock) v1 s1) (hg : W.grownBy W1 vk.ownBlock) (hat : ∀ b, v1.ownBlock = some b → vk.ownBlock = some b ∨ W.heap.size ≤ b)
    (hO : Wk.Only W1 W2 p) (hX : Wk.Blk W2 p 72 (cc pp tb c'.blk v1 vs c'.st c'.ex c'.sh)) (e1 : c'.kept = s1) (e2 : c'.send = c.send) (e3 : c'.rs = c.rs) : Cv W2 ok p tb pp v1 vs c' := by
  have hb1 : Wk.Blk W1 p 72 (cc pp tb c.blk vk vs c.st c.ex c.sh) := h.blk.grown hg (Kd.R_ne h.kept h.blk.out (by decide))
  have ne : ∀ k, k < W.heap.size → some k ≠ vk.ownBlock → some k ≠ v1.ownBlock := fun k hk hn he => by
    rcases hat k he.symm with h1 | h1
    · exact hn h1.symm
    · omega
  refine ⟨hX, h.okp, h.okq, ?_, ?_, ?_⟩
  · rw [e1]
    exact Wk.R_only hR hb1 ne_conn hO
  · rw [e2]
    refine Wk.R_only ?_ hb1 ne_conn hO
    exact Kd.R_mono (Kd.R_grown (Kd.R_bound h.send) hg (fun k hk => hk.1.2)) (fun k hk => ⟨hk.1.1, ne k hk.2.2.1 hk.1.2⟩)
  · rw [e3]
    refine Pp_only ?_ hb1 hO
    obtain ⟨cs, z1, _⟩ := h.pipe.out
    exact (h.pipe.bound.grown hg (Kd.R_ne h.kept z1.out (by decide)) (fun k hk => hk.1.2.1)).mono (fun k hk => ⟨hk.1.1, ne k hk.2.2 hk.1.2.1, hk.1.2.2⟩)
theorem Cv.piped {rs' : List Rq} {c' : St} (h : Cv W ok p tb pp vk vs c) (hP : Pi.Pp W1 0 (fun k => ok k ∧ some k ≠ vk.ownBlock ∧ some k ≠ vs.ownBlock) pp rs') (hg : W.grownBy W1 (some pp)) (e0 : c'.blk = c.blk ∧ c'.st = c.st ∧ c'.ex = c.ex ∧ c'.sh = c.sh) (e1 : c'.kept = c.kept) (e2 : c'.send = c.send) (e3 : c'.rs = rs') : Cv W1 ok p tb pp vk vs c' := by
  obtain ⟨cs, z1, _⟩ := h.pipe.out
  obtain ⟨e4, e5, e6, e7⟩ := e0
  refine ⟨by rw [e4, e5, e6, e7]; exact h.blk.grown hg (fun he => h.blk.ne_ z1 (by decide) (Option.some.inj he)), h.okp, h.okq, ?_, ?_, by rw [e3]; exact hP⟩
  · rw [e1]
    exact Kd.R_mono (Kd.R_grown (Kd.R_types h.kept z1.out ne_pipe) hg (fun k hk he => hk.2 (Option.some.inj he))) (fun k hk => hk.1)
  · rw [e2]
    exact Kd.R_mono (Kd.R_grown (Kd.R_types h.send z1.out ne_pipe) hg (fun k hk he => hk.2 (Option.some.inj he))) (fun k hk => hk.1)
end
end Cn
end Go.Proofs.YtgljicdpcapgnaaDoor
set_option linter.unusedVariables false
set_option linter.unusedSimpArgs false
namespace Go.Proofs.YtgljicdpcapgnaaDoor
open Go.RowKit Go.Proofs.YtgljicdpcapgnaaDoorW.PrintWords Go.Proofs.YtgljicdpcapgnaaDoorW.PrintLast Go.Proofs.YtgljicdpcapgnaaDoorW.PrintMore
namespace Cn
theorem u64_ (x : Int) (h0 : 0 ≤ x) (h1 : x < 18446744073709551616) : IntKind.u64.wrap x = x := Bt.wraps_u64 x h0 (by omega)
theorem packs_len4 (ws vs : List Int) (h : ws.length ≤ 1000) : (Wi.packs ws vs).length ≤ 8000 := by have := Wi.packs_len ws vs; omega
def Made (W : World) (l : List Int) (e' : Ending) (w' : World) : Prop := ∃ A' c', e' = .returned (.slice A' l.length c') ∧ Kd.R (Kd.int .u8) 5 w' W.heap.size (fun _ => True) (.slice A' l.length c') l ∧ Below W.heap.size W w'
theorem made {W : World} {l : List Int} {e' : Ending} {w' : World} : (∃ v : Value, e' = .returned v ∧ Kd.R (Kd.int .u8) 5 w' W.heap.size (fun _ => True) v l ∧ Below W.heap.size W w') → Made W l e' w' := by
  rintro ⟨v, rfl, hR, hB⟩
  obtain ⟨A', c', rfl⟩ := Kd.R_slice hR
  exact ⟨A', c', rfl, hR, hB⟩
theorem pack_ {A B : Option Addr} {n c m d : Nat} {ws vs : List Int} {W : World} (h0 : Kd.C (Kd.int .i64) W A ws.length ws) (hn : ws.length = n) (hc : n ≤ c) (h1 : Kd.C (Kd.int .u64) W B vs.length vs) (hm : vs.length = m) (hd : m ≤ d) (hl : n ≤ 99) (hl2 : m ≤ 99) :
    Calls Tryd.prog 38 #[.slice A n c, .slice B m d] W (Made W (Wi.packs ws vs)) := by
  subst hn; subst hm
  exact (wire_Pack.calls 1000 A c ws B d vs _ W h0 hc h1 hd (Wi.pack_is ws vs (by omega) (by omega) 1000 (by omega))).mono (fun _ _ h => made h)
theorem take_ {A B : Option Addr} {n c m d : Nat} {l ws : List Int} {W : World} (h0 : Kd.C (Kd.int .u8) W A l.length l) (hn : l.length = n) (hc : n ≤ c) (h1 : Kd.C (Kd.int .i64) W B ws.length ws) (hm : ws.length = m) (hd : m ≤ d) (hl : n ≤ 1000000) (hl2 : m ≤ 99) (hb : Wi.Bytes l) :
    Calls Tryd.prog 65 #[.slice A n c, .slice B m d] W fun e w' => ∃ A0 c0 A1 c1, e = .returned (.tuple #[.slice A0 (Wi.takes l ws []).1.length c0, .slice A1 (Wi.takes l ws []).2.1.length c1, .bool (Wi.takes l ws []).2.2]) ∧ Kd.R (Kd.int .u64) 42 w' W.heap.size (fun _ => True) (.slice A0 (Wi.takes l ws []).1.length c0) (Wi.takes l ws []).1 ∧ Kd.R (Kd.int .u8) 5 w' W.heap.size (fun _ => True) (.slice A1 (Wi.takes l ws []).2.1.length c1) (Wi.takes l ws []).2.1 ∧ Below W.heap.size W w' := by
  subst hn; subst hm
  refine (wire_Take.calls A c l B d ws _ _ _ W h0 hc h1 hd (Wi.take_is l ws (by omega) (by omega) hb)).mono ?_
  rintro e w' ⟨v0, v1, rfl, h0, h1, hb⟩
  obtain ⟨A0, c0, rfl⟩ := Kd.R_slice h0
  obtain ⟨A1, c1, rfl⟩ := Kd.R_slice h1
  exact ⟨A0, c0, A1, c1, rfl, h0, h1, hb⟩
theorem first_ {k : IntKind} {e : Nat} {W : World} {base : Nat} {ok : Nat → Prop} {A : Option Addr} {c : Nat} {x : Int} {l : List Int} (h : Kd.R (Kd.int k) e W base ok (.slice A (x :: l).length c) (x :: l)) : ∃ ab, A = some ⟨ab, 0, none⟩ ∧ W.cell? ⟨ab, 0, none⟩ = some (.int k x) := by
  obtain ⟨ab, cap, he, -⟩ := Kd.R_form h (Nat.succ_pos _)
  obtain ⟨rfl, -, -⟩ := Value.slice.inj he
  obtain ⟨ad, h1, h2⟩ := Kd.at_int (Kd.R_reads' h).2.2 0 (Int.le_refl _) (by simp)
  obtain rfl := Option.some.inj h1
  exact ⟨ab, rfl, h2⟩
end Cn
set_option maxHeartbeats 1000000 in
set_option maxRecDepth 100000 in
theorem Cn.hello_ (W : World) : Calls Tryd.prog 25 #[] W (Cn.Made W Cn.hello) := by
 have HB2 : Aside0 (Below W.heap.size W ((W.alloc (.cells #[.int .i64 8, .int .i64 8, .int .i64 2] 3)).alloc (.cells #[.int .u64 5639144782019643715, .int .u64 5280542401877725268, .int .u64 3] 42))) := ⟨below_alloc (below_alloc (Below.refl _ _) _) _⟩
 go_enter Tryd.func25, Tryd.ntmps25
 go_wp2_with fail
 refine (Cn.pack_ (ws := [8, 8, 2]) (vs := [5639144782019643715, 5280542401877725268, 3]) (Kd.C_below (Lit.reads_new W _ 3 _ .i64 [8, 8, 2] rfl (by decide)) (below_alloc (Below.refl _ _) _)) rfl (by decide) (Lit.two_reads W _ 42 .u64 [5639144782019643715, 5280542401877725268, 3] rfl (by decide)) rfl (by decide) (by decide) (by decide)).mono ?_
 rintro e w3 ⟨A3, c3, rfl, hR3, hb3⟩
 have HR3 := Aside0.mk hR3
 have HB3 := Aside0.mk (below_then HB2.out HB2.out.size hb3)
 clear hb3 hR3
 go_wp2_with fail
 go_ret
 exact ⟨A3, c3, rfl, Kd.R_lower HR3.out HB2.out.size, HB3.out⟩
set_option maxHeartbeats 1000000 in
set_option maxRecDepth 100000 in
theorem Cn.blocks_ (W : World) (b : Int) (h0 : 0 ≤ b) (h1 : b < 18446744073709551616) : Calls Tryd.prog 86 #[.int .i64 b] W (Cn.Made W (Cn.blocks b)) := by
 have HB2 : Aside0 (Below W.heap.size W ((W.alloc (.cells #[.int .i64 2, .int .i64 4, .int .i64 4, .int .i64 4] 3)).alloc (.cells #[.int .u64 3, .int .u64 1, .int .u64 b, .int .u64 65536] 42))) := ⟨below_alloc (below_alloc (Below.refl _ _) _) _⟩
 have hb := Cn.u64_ b h0 h1
 go_enter Tryd.func86, Tryd.ntmps86
 go_wp2_with fail
 refine (Cn.pack_ (ws := [2, 4, 4, 4]) (vs := [3, 1, b, 65536]) (Kd.C_below (Lit.reads_new W _ 3 _ .i64 [2, 4, 4, 4] rfl (by decide)) (below_alloc (Below.refl _ _) _)) rfl (by decide) (Lit.two_reads W _ 42 .u64 [3, 1, b, 65536] rfl (by simp)) rfl (Nat.le_of_ble_eq_true rfl) (by decide) (Nat.le_of_ble_eq_true rfl)).mono ?_
 rintro e w3 ⟨A3, c3, rfl, hR3, hb3⟩
 have HR3 := Aside0.mk hR3
 have HB3 := Aside0.mk (below_then HB2.out HB2.out.size hb3)
 clear hb3 hR3
 go_wp2_with fail
 go_ret
 exact ⟨A3, c3, rfl, Kd.R_lower HR3.out HB2.out.size, HB3.out⟩
set_option maxHeartbeats 1000000 in
set_option maxRecDepth 100000 in
theorem Cn.rep_ {A : Option Addr} {n c : Nat} {d : List Int} {W : World} {o k : Int} (ho : 0 ≤ o ∧ o < 4294967296) (hk : 0 ≤ k ∧ k < 4294967296) (h : Kd.C (Kd.int .u8) W A d.length d) (hn : d.length = n) (hc : n ≤ c) (hl : n ≤ 1000000) :
  Calls Tryd.prog 79 #[.int .u32 o, .int .u32 k, .slice A n c] W (Cn.Made W (Cn.rep o k d)) := by
 have HB2 : Aside0 (Below W.heap.size W ((W.alloc (.cells #[.int .i64 8, .int .i64 4, .int .i64 4, .int .i64 4] 3)).alloc (.cells #[.int .u64 1100100111001001, .int .u64 o, .int .u64 k, .int .u64 n] 42))) := ⟨below_alloc (below_alloc (Below.refl _ _) _) _⟩
 have e1 := Cn.u64_ o ho.1 (by omega)
 have e2 := Cn.u64_ k hk.1 (by omega)
 have e3 := Cn.u64_ (n : Int) (by omega) (by omega)
 have HD := Aside0.mk h
 have HN := Aside0.mk hn
 have HL := Aside0.mk hl
 clear ho hk h hn hl
 go_enter Tryd.func79, Tryd.ntmps79
 go_wp2_with fail
 clear e1 e2 e3
 refine (Cn.pack_ (ws := [8, 4, 4, 4]) (vs := [1100100111001001, o, k, (n : Int)]) (Kd.C_below (Lit.reads_new W _ 3 _ .i64 [8, 4, 4, 4] rfl (by decide)) (below_alloc (Below.refl _ _) _)) rfl (by decide) (Lit.two_reads W _ 42 .u64 [1100100111001001, o, k, (n : Int)] rfl (by simp)) rfl (Nat.le_of_ble_eq_true rfl) (by decide) (Nat.le_of_ble_eq_true rfl)).mono ?_
 rintro e w3 ⟨A3, c3, rfl, hR3, hb3⟩
 have HB3 := Aside0.mk (below_then HB2.out HB2.out.size hb3)
 have HR3 := Aside0.mk (Kd.R_lower hR3 HB2.out.size)
 have HC3 : Aside0 (Kd.C (Kd.int .u8) w3 A n d) := ⟨by have := Kd.C_below HD.out HB3.out; rwa [HN.out] at this⟩
 have HPL : Aside0 ((Wi.packs [8, 4, 4, 4] [1100100111001001, o, k, (n : Int)]).length ≤ 8000) := ⟨Cn.packs_len4 _ _ (by decide)⟩
 have HRP : Aside0 (Wi.packs [8, 4, 4, 4] [1100100111001001, o, k, (n : Int)] ++ d = Cn.rep o k d) := ⟨by unfold Cn.rep; rw [HN.out]⟩
 obtain ⟨x, HX⟩ : ∃ x, Aside0 (Wi.packs [8, 4, 4, 4] [1100100111001001, o, k, (n : Int)] = x) := ⟨_, ⟨rfl⟩⟩
 rw [HX.out] at HR3 HPL HRP ⊢
 clear hb3 hR3
 go_wp2_with (at_builtin; refine Kd.R_append_rows (Kd.int .u8) (w0 := W) W.heap.size rfl (.tmp 18) (.tmp 19) 23 5 (.int .u8 0) 1 rfl Tryd.underlying23 Cl.infoByte rfl (by decide) (by decide) (.slice A3 x.length c3) x d A n c (fun _ => True) (fun _ => False) rfl rfl HR3.out HC3.out (fun _ _ h => h) (fun _ h => h.elim) (fun _ _ => trivial) HB3.out HB3.out.size (by have := HPL.out; have := HL.out; omega) ?_; intro v4 w4 hr4 hb4 _ _; obtain ⟨A4, c4, rfl⟩ := Kd.R_slice hr4; have HR4 := Aside0.mk hr4; have HB4 := Aside0.mk hb4; rw [HRP.out] at HR4 ⊢; clear hr4 hb4)
 go_ret
 exact ⟨A4, c4, rfl, HR4.out, HB4.out⟩
set_option maxHeartbeats 1000000 in
set_option maxRecDepth 100000 in
theorem Cn.flags_ {A : Option Addr} {n c : Nat} {l : List Int} {W : World} {s : Bool} {m e : Int} (h : Kd.C (Kd.int .u8) W A l.length l) (hn : l.length = n) (hc : n ≤ c) (hl : n ≤ 1000000) (hb : Sh.Bytes l) (hf : Gr.fl l = (s, m, e)) :
  Calls Tryd.prog 53 #[.slice A n c] W fun e' w' => e' = .returned (.tuple #[.bool s, .int .i64 m, .int .u16 e]) ∧ Below W.heap.size W w' := by
 have HB2 : Aside0 (Below W.heap.size W (W.alloc (.cells #[.int .i64 4] 3))) := ⟨below_alloc (Below.refl _ _) _⟩
 have HD := Aside0.mk h
 have HN := Aside0.mk hn
 have HC := Aside0.mk hc
 have HL := Aside0.mk hl
 have HBY := Aside0.mk hb
 have HF := Aside0.mk hf
 clear h hn hl hb hf hc
 go_enter Tryd.func53, Tryd.ntmps53
 go_wp2_with fail
 refine (Cn.take_ (ws := [4]) (Kd.C_below HD.out HB2.out) HN.out HC.out (Lit.reads_new W _ 3 _ .i64 [4] rfl (by decide)) rfl (by decide) HL.out (by decide) HBY.out).mono ?_
 rintro e w3 ⟨A0, c0, A1, c1, rfl, hR0, hR1, hb3⟩
 have HB3 := Aside0.mk (below_then HB2.out HB2.out.size hb3)
 have ht := Gr.takes4 l
 by_cases h4 : l.length < 4
 ·rw [if_pos h4] at ht
  rw [ht]
  have HE : Aside0 (s = false ∧ m = 0 ∧ e = 70) := ⟨by have := HF.out; unfold Gr.fl at this; rw [if_pos h4] at this; simp only [Prod.mk.injEq] at this; exact ⟨this.1.symm, this.2.1.symm, this.2.2.symm⟩⟩
  clear hb3 hR0 hR1 h4 ht
  go_wp2_with fail
  go_ret3
  obtain ⟨rfl, rfl, rfl⟩ := HE.out
  exact ⟨rfl, HB3.out⟩
 ·rw [if_neg h4] at ht
  rw [ht] at hR0 ⊢
  obtain ⟨x, HX⟩ : ∃ x, Aside0 (Wi.num (l.take 4) = x) := ⟨_, ⟨rfl⟩⟩
  obtain ⟨nr, HNR⟩ : ∃ x, Aside0 ((l.drop 4).length = x) := ⟨_, ⟨rfl⟩⟩
  have hf := HF.out
  unfold Gr.fl at hf
  rw [if_neg h4, HX.out] at hf
  simp only [HX.out, HNR.out] at hR0 ⊢
  obtain ⟨ab, q0⟩ := Cn.first_ hR0
  obtain ⟨rfl, q0⟩ := q0
  clear hb3 hR0 hR1 h4 ht HF
  have HFF := Aside0.mk hf
  clear hf
  by_cases h1 : x = 1
  ·subst h1
   have hf := HFF.out
   rw [if_pos (by exact Or.inl rfl)] at hf
   simp only [Prod.mk.injEq] at hf
   obtain ⟨rfl, rfl, rfl⟩ := hf
   go_wp2_with fail
   go_ret3
   exact ⟨rfl, HB3.out⟩
  by_cases h3 : x = 3
  ·subst h3
   have hf := HFF.out
   rw [if_pos (by exact Or.inr rfl)] at hf
   simp only [Prod.mk.injEq] at hf
   obtain ⟨rfl, rfl, rfl⟩ := hf
   go_wp2_with fail
   go_ret3
   exact ⟨rfl, HB3.out⟩
  have e1 : (x == 1) = false := by simpa using h1
  have e3 : (x == 3) = false := by simpa using h3
  have n1 : (x != 1) = true := by simpa using h1
  have n3 : (x != 3) = true := by simpa using h3
  have hf := HFF.out
  rw [if_neg (fun h => h.elim h1 h3)] at hf
  simp only [Prod.mk.injEq] at hf
  obtain ⟨rfl, rfl, rfl⟩ := hf
  go_wp2_with fail
  go_ret3
  exact ⟨rfl, HB3.out⟩
namespace Cn
theorem sizeOpt : (Tryd.prog.info? 113).map (·.size) = some 2 := by kernel_rfl
theorem byte1 : (Tryd.prog.info? 5).map (·.size) = some 1 := by kernel_rfl
theorem pre_bytes {l : List Int} (h : Wi.Bytes l) (n : Nat) : Wi.Bytes (l.take n) := fun x hx => h x (List.mem_of_mem_take hx)
def oc (k : Int) (v : Value) : List Value := [.int .u32 k, v]
theorem third_ {k : IntKind} {e : Nat} {W : World} {base : Nat} {ok : Nat → Prop} {A : Option Addr} {c : Nat} {x y z : Int} (h : Kd.R (Kd.int k) e W base ok (.slice A 3 c) [x, y, z]) : ∃ ab, A = some ⟨ab, 0, none⟩ ∧ W.cell? ⟨ab, 0, none⟩ = some (.int k x) ∧ W.cell? ⟨ab, 1, none⟩ = some (.int k y) ∧ W.cell? ⟨ab, 2, none⟩ = some (.int k z) := by
  obtain ⟨ab, rfl, h0⟩ := first_ (l := [y, z]) h
  refine ⟨ab, rfl, h0, ?_, ?_⟩
  · obtain ⟨ad, h1, h2⟩ := Kd.at_int (Kd.R_reads' h).2.2 1 (by decide) (by simp)
    obtain rfl := Option.some.inj h1
    exact h2
  · obtain ⟨ad, h1, h2⟩ := Kd.at_int (Kd.R_reads' h).2.2 2 (by decide) (by simp)
    obtain rfl := Option.some.inj h1
    exact h2
end Cn
attribute [local go_sem] min2_int min_two
set_option maxHeartbeats 4000000 in
set_option maxRecDepth 100000 in
theorem Cn.next_ {A : Option Addr} {n c : Nat} {l : List Int} {W : World} {k m e : Int} {d : List Int} (h : Kd.C (Kd.int .u8) W A l.length l) (hn : l.length = n) (hc : n ≤ c) (hl : n ≤ 1000000) (hb : Sh.Bytes l) (hf : Gr.nx l = (k, d, m, e)) :
  Calls Tryd.prog 54 #[.slice A n c] W fun e' w' => ∃ A' c', e' = .returned (.tuple #[.agg #[.int .u32 k, .slice A' d.length c'], .int .i64 m, .int .u16 e]) ∧ Kd.R (Kd.int .u8) 5 w' W.heap.size (fun _ => True) (.slice A' d.length c') d ∧ Below W.heap.size W w' := by
 have HD := Aside0.mk h
 have HN := Aside0.mk hn
 have HC := Aside0.mk hc
 have HL := Aside0.mk hl
 have HBY := Aside0.mk hb
 have HF := Aside0.mk hf
 have HSZ := Aside0.mk Cn.sizeOpt
 have HB2 : Aside0 (Below W.heap.size W ((W.alloc (.cells (Cn.oc 0 (.slice none 0 0)).toArray 113)).alloc (.cells #[.int .i64 8, .int .i64 4, .int .i64 4] 3))) := ⟨below_alloc (below_alloc (Below.refl _ _) _) _⟩
 have HX2 : Aside0 (Wk.Blk ((W.alloc (.cells (Cn.oc 0 (.slice none 0 0)).toArray 113)).alloc (.cells #[.int .i64 8, .int .i64 4, .int .i64 4] 3)) W.heap.size 113 (Cn.oc 0 (.slice none 0 0))) := ⟨(Wk.Blk.new W 113 (Cn.oc 0 (.slice none 0 0))).alloc _⟩
 obtain ⟨mm, HMM⟩ : ∃ mm : Nat, Aside0 ((if (16 : Int) < (n : Int) then (16 : Int) else (n : Int)) = (mm : Int) ∧ mm ≤ n ∧ mm ≤ 16 ∧ (n < 16 ∨ mm = 16)) := by
  by_cases h : (16 : Int) < (n : Int)
  ·exact ⟨16, ⟨if_pos h, by omega, Nat.le_refl _, .inr rfl⟩⟩
  ·exact ⟨n, ⟨if_neg h, Nat.le_refl _, by omega, by omega⟩⟩
 have hmin := HMM.out.1
 have hct := Wk.cut_to_ (P := Tryd.prog) 23 5 .i64 Tryd.underlying23 Cn.byte1 A c l (mm : Int) mm rfl (by rw [hn]; exact HMM.out.2.1) (by rw [hn]; exact hc)
 rw [hn] at hct
 have HTL : Aside0 ((l.take mm).length = mm) := ⟨by rw [List.length_take, hn]; exact Nat.min_eq_left HMM.out.2.1⟩
 have HTC : Aside0 (Kd.C (Kd.int .u8) W A (l.take mm).length (l.take mm)) := ⟨Kd.C_take h (by rw [hn]; exact HMM.out.2.1)⟩
 clear h hn hl hb hf hc
 go_enter Tryd.func54, Tryd.ntmps54
 go_wp2_with fail
 clear hct hmin
 refine (Cn.take_ (ws := [8, 4, 4]) (Kd.C_below HTC.out HB2.out) HTL.out (Nat.le_trans HMM.out.2.1 HC.out) (Lit.two_reads W _ 3 .i64 [8, 4, 4] rfl (by decide)) rfl (by decide) (by have := HMM.out.2.2.1; omega) (by decide) (Cn.pre_bytes HBY.out mm)).mono ?_
 rintro e' w3 ⟨A0, c0, A1, c1, rfl, hR0, hR1, hb3⟩
 have HB3 := Aside0.mk (below_then HB2.out HB2.out.size hb3)
 have HX3 := Aside0.mk (HX2.out.below_ hb3)
 have ht := Gr.takes844 (l.take mm)
 rw [HTL.out] at ht
 by_cases h16 : mm < 16
 ·rw [if_pos h16] at ht
  rw [ht]
  have HE : Aside0 (k = 0 ∧ d = [] ∧ m = 0 ∧ e = 70) := ⟨by
   have := HF.out
   unfold Gr.nx at this
   rw [if_pos (by rw [HN.out]; have := HMM.out.2.2.2; omega)] at this
   simp only [Prod.mk.injEq] at this
   exact ⟨this.1.symm, this.2.1.symm, this.2.2.1.symm, this.2.2.2.symm⟩⟩
  clear hb3 hR0 hR1 h16 ht
  go_wp2_with (refine Wk.store_all rfl rfl 113 (.tmp 2) (.tmp 23) rfl W.heap.size (Cn.oc 0 (.slice none 0 0)) rfl rfl 113 _ HX3.out HSZ.out rfl rfl ?_; intro w4 hX hO; have HX4 := Aside0.mk hX; have HO4 := Aside0.mk hO; clear hX hO)
  refine bodyPost_ret (Wk.res_ctt rfl _ W.heap.size 113 _ _ rfl HX4.out Tryd.underlying113 rfl HSZ.out) rfl ?_
  obtain ⟨rfl, rfl, rfl, rfl⟩ := HE.out
  exact ⟨none, 0, rfl, Kd.R_nil _ _ _ _ _, Wk.Only.below HB3.out HO4.out (Nat.le_refl _)⟩
 obtain rfl : mm = 16 := by have := HMM.out.2.2.1; omega
 have h16n : 16 ≤ n := HMM.out.2.1
 rw [if_neg h16, List.take_take, List.drop_take, List.take_take, List.drop_take, List.take_take, List.drop_take] at ht
 change Wi.takes (l.take 16) [8, 4, 4] [] = ([Wi.num (l.take 8), Wi.num ((l.drop 8).take 4), Wi.num ((l.drop 12).take 4)], (l.drop 16).take 0, true) at ht
 have hf := HF.out
 unfold Gr.nx at hf
 rw [if_neg (by rw [HN.out]; omega)] at hf
 have b2 := Gr.num_bound (l.drop 8) (fun x hx => HBY.out x (List.mem_of_mem_drop hx)) 4 (by decide)
 have b3 := Gr.num_bound (l.drop 12) (fun x hx => HBY.out x (List.mem_of_mem_drop hx)) 4 (by decide)
 have p4 : (256 : Int) ^ 4 = 4294967296 := by decide
 rw [p4] at b2 b3
 simp only [ht] at hR0 ⊢
 generalize Wi.num (l.take 8) = m1 at *
 generalize Wi.num ((l.drop 8).take 4) = m2 at *
 generalize Wi.num ((l.drop 12).take 4) = m3 at *
 obtain ⟨ab, rfl, q0, q1, q2⟩ := Cn.third_ hR0
 have HFF := Aside0.mk hf
 clear hb3 hR0 hR1 h16 ht hf HF p4
 by_cases h1 : m1 = 5280542401877725268
 rotate_left
 ·have HE : Aside0 (k = 0 ∧ d = [] ∧ m = 0 ∧ e = 71) := ⟨by
   have := HFF.out
   rw [if_pos h1] at this
   simp only [Prod.mk.injEq] at this
   exact ⟨this.1.symm, this.2.1.symm, this.2.2.1.symm, this.2.2.2.symm⟩⟩
  have e1 : (m1 != 5280542401877725268) = true := by simpa using h1
  go_wp2_with (refine Wk.store_all rfl rfl 113 (.tmp 2) (.tmp 29) rfl W.heap.size (Cn.oc 0 (.slice none 0 0)) rfl rfl 113 _ HX3.out HSZ.out rfl rfl ?_; intro w4 hX hO; have HX4 := Aside0.mk hX; have HO4 := Aside0.mk hO; clear hX hO)
  refine bodyPost_ret (Wk.res_ctt rfl _ W.heap.size 113 _ _ rfl HX4.out Tryd.underlying113 rfl HSZ.out) rfl ?_
  obtain ⟨rfl, rfl, rfl, rfl⟩ := HE.out
  exact ⟨none, 0, rfl, Kd.R_nil _ _ _ _ _, Wk.Only.below HB3.out HO4.out (Nat.le_refl _)⟩
 subst h1
 by_cases h2 : m3 > 1024
 ·have HE : Aside0 (k = 0 ∧ d = [] ∧ m = 0 ∧ e = 73) := ⟨by
   have := HFF.out
   rw [if_neg (fun h => h rfl), if_pos h2] at this
   simp only [Prod.mk.injEq] at this
   exact ⟨this.1.symm, this.2.1.symm, this.2.2.1.symm, this.2.2.2.symm⟩⟩
  go_wp2_with (refine Wk.store_all rfl rfl 113 (.tmp 2) (.tmp 35) rfl W.heap.size (Cn.oc 0 (.slice none 0 0)) rfl rfl 113 _ HX3.out HSZ.out rfl rfl ?_; intro w4 hX hO; have HX4 := Aside0.mk hX; have HO4 := Aside0.mk hO; clear hX hO)
  refine bodyPost_ret (Wk.res_ctt rfl _ W.heap.size 113 _ _ rfl HX4.out Tryd.underlying113 rfl HSZ.out) rfl ?_
  obtain ⟨rfl, rfl, rfl, rfl⟩ := HE.out
  exact ⟨none, 0, rfl, Kd.R_nil _ _ _ _ _, Wk.Only.below HB3.out HO4.out (Nat.le_refl _)⟩
 have hb30 : 0 ≤ m3 := b3.1
 by_cases h3 : 16 + m3 > (n : Int)
 ·have HE : Aside0 (k = 0 ∧ d = [] ∧ m = 0 ∧ e = 70) := ⟨by
   have := HFF.out
   rw [if_neg (fun h => h rfl), if_neg h2, if_pos (by rw [HN.out]; exact h3)] at this
   simp only [Prod.mk.injEq] at this
   exact ⟨this.1.symm, this.2.1.symm, this.2.2.1.symm, this.2.2.2.symm⟩⟩
  go_wp2_with (refine Wk.store_all rfl rfl 113 (.tmp 2) (.tmp 45) rfl W.heap.size (Cn.oc 0 (.slice none 0 0)) rfl rfl 113 _ HX3.out HSZ.out rfl rfl ?_; intro w4 hX hO; have HX4 := Aside0.mk hX; have HO4 := Aside0.mk hO; clear hX hO)
  refine bodyPost_ret (Wk.res_ctt rfl _ W.heap.size 113 _ _ rfl HX4.out Tryd.underlying113 rfl HSZ.out) rfl ?_
  obtain ⟨rfl, rfl, rfl, rfl⟩ := HE.out
  exact ⟨none, 0, rfl, Kd.R_nil _ _ _ _ _, Wk.Only.below HB3.out HO4.out (Nat.le_refl _)⟩
 have HE : Aside0 (k = m2 ∧ d = (l.drop 16).take m3.toNat ∧ m = 16 + m3 ∧ e = 0) := ⟨by
  have := HFF.out
  rw [if_neg (fun h => h rfl), if_neg h2, if_neg (by rw [HN.out]; exact h3)] at this
  simp only [Prod.mk.injEq] at this
  exact ⟨this.1.symm, this.2.1.symm, this.2.2.1.symm, this.2.2.2.symm⟩⟩
 have h2' : m3 ≤ 1024 := by omega
 have h3' : 16 + m3 ≤ (n : Int) := by omega
 clear h2 h3
 go_wp2_with fail
 obtain ⟨n5, rfl⟩ := Int.eq_ofNat_of_zero_le hb30
 rw [Int.toNat_natCast] at HE
 have hl16 : 16 + n5 ≤ n := by omega
 obtain ⟨A5, hs5, hln5, hC5⟩ := Wk.cut_mid_ (P := Tryd.prog) 23 5 .i64 .i64 Tryd.underlying23 Cn.byte1 .u8 A c l 16 (16 + (n5 : Int)) 16 (16 + n5) rfl rfl (by omega) (by rw [HN.out]; exact hl16) (by rw [HN.out]; exact HC.out)
 rw [HN.out, show 16 + n5 - 16 = n5 from by omega] at hs5
 rw [show 16 + n5 - 16 = n5 from by omega] at hln5 hC5
 have HLN := Aside0.mk hln5
 have HL16 := Aside0.mk hl16
 have HC5 : Aside0 (∀ w', Below w3.heap.size w3 w' → Kd.C (Kd.int .u8) w' A5 n5 ((l.drop 16).take n5)) := ⟨fun w' hb => hC5 w' (Kd.C_below HD.out (below_then HB3.out HB3.out.size hb))⟩
 have e2 : IntKind.u32.wrap m2 = m2 := Bt.wraps_u32 m2 b2.1 (by omega)
 have Q1 := Aside0.mk q1
 clear hln5 hC5 hl16 q0 q1 q2
 refine wp_region_noPanic ?_
 refine Rg.s1 13 (fun w' => Below w3.heap.size w3 w') [10] (Below.refl _ _).drew #[false, false, false, false, false, false, false, false, false, false, false, false, false] (fun hHeld => ?_)
 refine Rg.p1 0 (.some 46) ?_
 refine Rg.p1 1 (.some 47) ?_
 refine Rg.t1 2 (.some 48) hHeld ?_ (hy := by intro w' hS'; (have c1 := (hS'.cell (World.block_lt_of_cell? _ _ Q1.out)).trans Q1.out; go_simp); first | done | with_reducible rfl)
 refine Rg.p1 3 (.some 49) ?_
 refine Rg.p1 4 (.some 50) ?_
 refine Rg.p1 5 (.some 51) ?_
 refine Rg.p1 6 (.some 52) ?_
 refine Rg.p1 9 (.some 55) ?_
 refine Rg.o1 7 (.some 53) (fun K hK => ?_)
 refine call_ 41 #[.slice A5 n5 (c - 16)] (by rfl) rfl (by go_simp) ?_
 have hcl := clone_.calls A5 (c - 16) ((l.drop 16).take n5) _ w3.drew (by rw [HLN.out]; exact HC5.out _ hHeld) (by rw [HLN.out]; have := HL16.out; have := HC.out; omega) (by unfold clone_.f; rw [if_pos (by rw [HLN.out]; have := HL16.out; have := HL.out; omega)])
 rw [HLN.out] at hcl
 refine hcl.mono ?_
 rintro e' w4 ⟨v4, rfl, hR4, hb4⟩
 obtain ⟨A4, c4, rfl⟩ := Kd.R_slice hR4
 rw [HLN.out] at hR4 ⊢
 have HB4 := Aside0.mk (below_then hHeld hHeld.size hb4)
 have HR4 := Aside0.mk hR4
 clear hR4 hb4 hcl
 refine ⟨_, rfl, ?_⟩
 refine hK.out _ _ HB4.out (fun hHeld => ?_)
 clear hK K
 refine Rg.n1 ?_
 refine Rg.p1 8 (.some 54) ?_
 refine Rg.l1 10 none (fun K hK => ?_)
 refine Wk.store_all_step (by rfl) rfl 113 (.tmp 2) (.tmp 54) rfl W.heap.size (Cn.oc m2 (.slice A4 n5 c4)) rfl rfl 113 _ (HX3.out.below_ HB4.out) HSZ.out rfl rfl ?_
 intro w6 hX hO
 have HX6 := Aside0.mk hX
 have HO6 := Aside0.mk hO
 clear hX hO
 refine hK.out _ _ ?_
 clear hK K
 refine Rg.p1 11 (.some 3) ?_
 refine Rg.p1 12 (.some 4) ?_
 refine Rg.d1 ?_
 refine NoPanic.normal ?_
 go_wp2_with fail
 refine bodyPost_ret (Wk.res_ctt rfl _ W.heap.size 113 _ _ rfl HX6.out Tryd.underlying113 rfl HSZ.out) rfl ?_
 obtain ⟨rfl, rfl, rfl, rfl⟩ := HE.out
 rw [HLN.out]
 refine ⟨A4, c4, rfl, ?_, Wk.Only.below (below_then HB3.out HB3.out.size HB4.out) HO6.out (Nat.le_refl _)⟩
 exact Wk.R_only (Kd.R_lower HR4.out HB3.out.size) (HX3.out.below_ HB4.out) (by decide) HO6.out
set_option maxHeartbeats 4000000 in
set_option maxRecDepth 100000 in
theorem Cn.asked_ {A : Option Addr} {n c : Nat} {l : List Int} {W : World} {s : ByteArray} {ws : List Int} {e : Int} (h : Kd.C (Kd.int .u8) W A l.length l) (hn : l.length = n) (hc : n ≤ c) (hl : n ≤ 100000) (hb : Sh.Bytes l) (hf : Gr.ak l = (s, ws, e)) :
  Calls Tryd.prog 82 #[.slice A n c] W fun e' w' => ∃ A' c', e' = .returned (.tuple #[.string s, .slice A' ws.length c', .int .u16 e]) ∧ Kd.R (Kd.int .u16) 56 w' W.heap.size (fun _ => True) (.slice A' ws.length c') ws ∧ Below W.heap.size W w' := by
 have HB2 : Aside0 (Below W.heap.size W (W.alloc (.cells #[.int .i64 4] 3))) := ⟨below_alloc (Below.refl _ _) _⟩
 have HD := Aside0.mk h
 have HN := Aside0.mk hn
 have HC := Aside0.mk hc
 have HL := Aside0.mk hl
 have HBY := Aside0.mk hb
 have HF := Aside0.mk hf
 clear h hn hl hb hf hc
 go_enter Tryd.func82, Tryd.ntmps82
 go_wp2_with fail
 refine (Cn.take_ (ws := [4]) (Kd.C_below HD.out HB2.out) HN.out HC.out (Lit.reads_new W _ 3 _ .i64 [4] rfl (by decide)) rfl (by decide) (by have := HL.out; omega) (by decide) HBY.out).mono ?_
 rintro e' w3 ⟨A0, c0, A1, c1, rfl, hR0, hR1, hb3⟩
 have HB3 := Aside0.mk (below_then HB2.out HB2.out.size hb3)
 have ht := Gr.takes4 l
 have HFF := Aside0.mk HF.out
 unfold Gr.ak at HFF
 by_cases h4 : l.length < 4
 ·rw [if_pos h4] at ht
  rw [ht]
  have HE : Aside0 (s = ⟨#[]⟩ ∧ ws = [] ∧ e = 74) := ⟨by
   have := HFF.out
   rw [if_pos (by exact h4)] at this
   simp only [Prod.mk.injEq] at this
   exact ⟨this.1.symm, this.2.1.symm, this.2.2.symm⟩⟩
  clear hb3 hR0 hR1 h4 ht
  go_wp2_with fail
  go_ret3
  obtain ⟨rfl, rfl, rfl⟩ := HE.out
  exact ⟨none, 0, rfl, Kd.R_nil _ _ _ _ _, HB3.out⟩
 rw [if_neg h4] at ht HFF
 have b4 := Gr.num_bound l HBY.out 4 (by decide)
 have p4 : (256 : Int) ^ 4 = 4294967296 := by decide
 rw [p4] at b4
 obtain ⟨x, HX⟩ : ∃ x, Aside0 (Wi.num (l.take 4) = x) := ⟨_, ⟨rfl⟩⟩
 obtain ⟨r1, HR1⟩ : ∃ r1, Aside0 (l.drop 4 = r1) := ⟨_, ⟨rfl⟩⟩
 obtain ⟨nr, HNR⟩ : ∃ x, Aside0 (r1.length = x) := ⟨_, ⟨rfl⟩⟩
 rw [HX.out] at b4
 rw [HX.out, HR1.out] at HFF ht
 rw [HNR.out] at HFF
 simp only [ht, HNR.out] at hR0 hR1 ⊢
 have HBR : Aside0 (Wi.Bytes r1) := ⟨fun y hy => HBY.out y (List.mem_of_mem_drop (by rw [HR1.out]; exact hy))⟩
 have HNRL : Aside0 (nr ≤ n) := ⟨by rw [← HNR.out, ← HR1.out, List.length_drop, HN.out]; omega⟩
 obtain ⟨ab, rfl, q0⟩ := Cn.first_ hR0
 have hx0 : 0 ≤ x := b4.1
 have hx1 : x < 4294967296 := b4.2
 have HQ0 := Aside0.mk q0
 have HR3 := Aside0.mk (Kd.R_reads' hR1)
 rw [HNR.out] at HR3
 clear hb3 hR0 hR1 ht h4 b4 p4
 by_cases h255 : x > 255
 ·rw [if_pos h255] at HFF
  have HE : Aside0 (s = ⟨#[]⟩ ∧ ws = [] ∧ e = 74) := ⟨by have := HFF.out; simp only [Prod.mk.injEq] at this; exact ⟨this.1.symm, this.2.1.symm, this.2.2.symm⟩⟩
  go_wp2_with fail
  go_ret3
  obtain ⟨rfl, rfl, rfl⟩ := HE.out
  exact ⟨none, 0, rfl, Kd.R_nil _ _ _ _ _, HB3.out⟩
 rw [if_neg h255] at HFF
 by_cases hxn : x > (nr : Int)
 ·rw [if_pos hxn] at HFF
  have HE : Aside0 (s = ⟨#[]⟩ ∧ ws = [] ∧ e = 74) := ⟨by have := HFF.out; simp only [Prod.mk.injEq] at this; exact ⟨this.1.symm, this.2.1.symm, this.2.2.symm⟩⟩
  go_wp2_with fail
  go_ret3
  obtain ⟨rfl, rfl, rfl⟩ := HE.out
  exact ⟨none, 0, rfl, Kd.R_nil _ _ _ _ _, HB3.out⟩
 rw [if_neg hxn] at HFF
 obtain ⟨m, rfl⟩ := Int.eq_ofNat_of_zero_le hx0
 rw [Int.toNat_natCast] at HFF
 have hmn : m ≤ nr := by omega
 have hct := Wk.cut_to_ (P := Tryd.prog) 23 5 .u64 Tryd.underlying23 Cn.byte1 A1 c1 r1 (m : Int) m rfl (by rw [HNR.out]; exact hmn) (by rw [HNR.out]; exact HR3.out.2.1)
 obtain ⟨A2, hcf, hC2⟩ := Wk.cut_from_ (P := Tryd.prog) 23 5 .u64 Tryd.underlying23 Cn.byte1 .u8 A1 c1 r1 (m : Int) m rfl (by rw [HNR.out]; exact hmn) (by rw [HNR.out]; exact HR3.out.2.1)
 rw [HNR.out] at hct hcf hC2
 have HTL : Aside0 ((r1.take m).length = m) := ⟨by rw [List.length_take, HNR.out]; exact Nat.min_eq_left hmn⟩
 have HTC : Aside0 (Kd.C (Kd.int .u8) w3 A1 m (r1.take m)) := ⟨by have := Kd.C_take (m := m) (show Kd.C (Kd.int .u8) w3 A1 r1.length r1 by rw [HNR.out]; exact HR3.out.2.2) (by rw [HNR.out]; exact hmn); rwa [HTL.out] at this⟩
 have HDL : Aside0 ((r1.drop m).length = nr - m) := ⟨by rw [List.length_drop, HNR.out]⟩
 have HDC : Aside0 (Kd.C (Kd.int .u8) w3 A2 (nr - m) (r1.drop m)) := ⟨by have := hC2 w3 HR3.out.2.2; rwa [HDL.out] at this⟩
 have hcv : (convert 23 9 (.slice A1 m c1)).run Tryd.prog w3 = .ok (.string (strOfNums (r1.take m))) w3 := Kd.C_string Tryd.underlying23 Tryd.underlying5 Tryd.underlying9 HTC.out
 have HB4 : Aside0 (Below w3.heap.size w3 (w3.alloc (.cells #[.int .i64 2] 3))) := ⟨below_alloc (Below.refl _ _) _⟩
 have HMN := Aside0.mk hmn
 have h255' : (m : Int) ≤ 255 := by omega
 have hxn' : (m : Int) ≤ (nr : Int) := by omega
 clear hC2 hmn h255 hxn hx0 hx1
 go_wp2_with fail
 clear hct hcf hcv q0 h255' hxn'
 have HBX := Aside0.mk (below_then HB3.out HB3.out.size HB4.out)
 have HBR2 : Aside0 (Wi.Bytes (r1.drop m)) := ⟨fun y hy => HBR.out y (List.mem_of_mem_drop hy)⟩
 refine (Cn.take_ (ws := [2]) (by rw [HDL.out]; exact Kd.C_below HDC.out HB4.out) HDL.out (by have := HR3.out.2.1; omega) (Lit.reads_new w3 _ 3 _ .i64 [2] rfl (by decide)) rfl (by decide) (by have := HNRL.out; have := HL.out; omega) (by decide) HBR2.out).mono ?_
 rintro e' w5 ⟨A5, c5, A6, c6, rfl, hR5, hR6, hb5⟩
 have HB5 := Aside0.mk (below_then HBX.out HBX.out.size hb5)
 have ht := Gr.takes2 (r1.drop m)
 obtain ⟨r2, HR2⟩ : ∃ r2, Aside0 (r1.drop m = r2) := ⟨_, ⟨rfl⟩⟩
 rw [HR2.out] at ht hR5 hR6 HFF HDL HBR2 ⊢
 by_cases h2 : r2.length < 2
 ·rw [if_pos h2] at ht HFF
  rw [ht]
  have HE : Aside0 (s = ⟨#[]⟩ ∧ ws = [] ∧ e = 74) := ⟨by have := HFF.out; simp only [Prod.mk.injEq] at this; exact ⟨this.1.symm, this.2.1.symm, this.2.2.symm⟩⟩
  clear hb5 hR5 hR6 h2 ht
  go_wp2_with fail
  go_ret3
  obtain ⟨rfl, rfl, rfl⟩ := HE.out
  exact ⟨none, 0, rfl, Kd.R_nil _ _ _ _ _, HB5.out⟩
 rw [if_neg h2] at ht HFF
 have b2 := Gr.num_bound r2 HBR2.out 2 (by decide)
 have p2 : (256 : Int) ^ 2 = 65536 := by decide
 rw [p2] at b2
 obtain ⟨y, HY⟩ : ∃ x, Aside0 (Wi.num (r2.take 2) = x) := ⟨_, ⟨rfl⟩⟩
 obtain ⟨r3, HR3'⟩ : ∃ r3, Aside0 (r2.drop 2 = r3) := ⟨_, ⟨rfl⟩⟩
 obtain ⟨nq, HNQ⟩ : ∃ x, Aside0 (r3.length = x) := ⟨_, ⟨rfl⟩⟩
 rw [HY.out] at b2
 rw [HY.out, HR3'.out] at ht HFF
 rw [HNQ.out] at HFF
 simp only [ht, HNQ.out] at hR5 hR6 ⊢
 have HB3R : Aside0 (Wi.Bytes r3) := ⟨fun z hz => HBR2.out z (List.mem_of_mem_drop (by rw [HR3'.out]; exact hz))⟩
 have HNQL : Aside0 (nq ≤ 100000) := ⟨by have e1 := HNQ.out; rw [← HR3'.out, List.length_drop, HDL.out] at e1; have := HNRL.out; have := HL.out; omega⟩
 obtain ⟨ab2, rfl, q0⟩ := Cn.first_ hR5
 have hy0 : 0 ≤ y := b2.1
 have hy1 : y ≤ 65535 := by omega
 have HR6 := Aside0.mk (Kd.R_reads' hR6)
 rw [HNQ.out] at HR6
 clear hb5 hR5 hR6 ht h2 b2 p2
 by_cases hq : (nq : Int) = 2 * y
 rotate_left
 ·rw [if_pos hq] at HFF
  have HE : Aside0 (s = ⟨#[]⟩ ∧ ws = [] ∧ e = 74) := ⟨by have := HFF.out; simp only [Prod.mk.injEq] at this; exact ⟨this.1.symm, this.2.1.symm, this.2.2.symm⟩⟩
  have e1 : ((nq : Int) != 2 * y) = true := by simpa using hq
  go_wp2_with fail
  go_ret3
  obtain ⟨rfl, rfl, rfl⟩ := HE.out
  exact ⟨none, 0, rfl, Kd.R_nil _ _ _ _ _, HB5.out⟩
 rw [if_neg (fun h => h hq)] at HFF
 have HE : Aside0 (s = strOfNums (r1.take m) ∧ ws = Gr.pairs r3 ∧ e = 0) := ⟨by have := HFF.out; simp only [Prod.mk.injEq] at this; exact ⟨this.1.symm, this.2.1.symm, this.2.2.symm⟩⟩
 have e1 : ((nq : Int) != 2 * y) = false := by simpa using hq
 obtain ⟨k, rfl⟩ := Int.eq_ofNat_of_zero_le hy0
 have HNK : Aside0 (nq = 2 * k) := ⟨by omega⟩
 clear hq HFF
 go_wp2_with fail
 clear e1 hy0 hy1 q0
 have HW0 : Aside0 (Kd.R (Kd.int .u16) 56 w5 w5.heap.size (fun _ => True) (.slice none 0 0) ([] : List Int)) := ⟨Kd.R_nil _ _ _ _ _⟩
 have HP0 : Aside0 (([] : List Int) ++ Gr.pairs (r3.drop (2 * 0)) = Gr.pairs r3) := ⟨rfl⟩
 have HL0 : Aside0 (([] : List Int).length = 0) := ⟨rfl⟩
 go_loopw [9, 10] (fun vx ix wr => ∃ (j na ca : Nat) (Aa : Option Addr) (acc : List Int), vx = .slice Aa na ca ∧ ix = .int .i64 (2 * (j : Int) + 1) ∧ j ≤ k ∧ Aside0 (acc.length = j) ∧ Aside0 (na = j) ∧ Aside0 (acc ++ Gr.pairs (r3.drop (2 * j)) = Gr.pairs r3) ∧ Aside0 (Kd.R (Kd.int .u16) 56 wr w5.heap.size (fun _ => True) (.slice Aa na ca) acc) ∧ Aside0 (Below w5.heap.size w5 wr)) (fun _ ix _ => 2 * k + 1 - (intOf ix).toNat)
 case atStart => exact ⟨0, 0, 0, none, [], rfl, rfl, Nat.zero_le _, HL0, ⟨rfl⟩, HP0, HW0, ⟨Below.refl _ _⟩⟩
 case round =>
  clear HW0 HP0 HL0
  obtain ⟨j, na, ca, Aa, acc, rfl, rfl, hj, HAL, HNA, HAP, HRA, HB⟩ := hrel
  have HCR : Aside0 (Kd.C (Kd.int .u8) wr A6 nq r3) := ⟨Kd.C_below HR6.out.2.2 HB.out⟩
  by_cases hjk : j < k
  ·have hlt : 2 * (j : Int) + 1 < (nq : Int) := by have := HNK.out; omega
   have hj5 : (j : Int) ≤ 50000 := by have := HNK.out; have := HNQL.out; omega
   go_wp2_with fail
   obtain ⟨ad, hA6, u0, HU0⟩ : ∃ ad, A6 = some ad ∧ ∃ u : Int, Aside0 (u = Go.Proofs.YtgljicdpcapgnaaDoorW.PrintWords.rd r3 ((2 * j : Nat) : Int) ∧ (0 ≤ u ∧ u ≤ 255) ∧ wr.cell? (ad.add (2 * j)) = some (.int .u8 u)) := by
    obtain ⟨ad, e, hx⟩ := Kd.at_int HCR.out ((2 * j : Nat) : Int) (by omega) (by have := HNK.out; omega)
    rw [Int.toNat_natCast] at hx
    exact ⟨ad, e, _, ⟨rfl, HB3R.out _ (Wi.rd_mem r3 (2 * j) (by rw [HNQ.out]; have := HNK.out; omega)), hx⟩⟩
   obtain ⟨u1, HU1⟩ : ∃ u : Int, Aside0 (u = Go.Proofs.YtgljicdpcapgnaaDoorW.PrintWords.rd r3 ((2 * j + 1 : Nat) : Int) ∧ (0 ≤ u ∧ u ≤ 255) ∧ wr.cell? (ad.add (2 * j + 1)) = some (.int .u8 u)) := by
    obtain ⟨ad', e, hx⟩ := Kd.at_int HCR.out ((2 * j + 1 : Nat) : Int) (by omega) (by have := HNK.out; omega)
    rw [Int.toNat_natCast] at hx
    obtain rfl := Option.some.inj (hA6.symm.trans e)
    exact ⟨_, ⟨rfl, HB3R.out _ (Wi.rd_mem r3 (2 * j + 1) (by rw [HNQ.out]; have := HNK.out; omega)), hx⟩⟩
   subst hA6
   have f1 : IntKind.i64.wrap (2 * (j : Int)) = 2 * (j : Int) := by rw [IntKind.wrap_i64]; omega
   have f2 : (2 * (j : Int)).toNat = 2 * j := by omega
   have f3 : (2 * (j : Int) + 1).toNat = 2 * j + 1 := by omega
   have f4 : 0 ≤ 2 * (j : Int) := by omega
   have f5 : 2 * (j : Int) < (nq : Int) := by omega
   have f6 : 0 ≤ 2 * (j : Int) + 1 := by omega
   refine wp_region_noPanic ?_
   refine Rg.s1 17 (fun w' => Below wr.heap.size wr w') [14, 15] (Below.refl _ _).drew #[false, false, false, false, false, false, false, false, false, false, false, false, false, false, false, false, false] (fun hHeld => ?_)
   refine Rg.p1 0 (.some 70) ?_
   refine Rg.p1 1 (.some 71) ?_
   refine Rg.p1 2 (.some 72) ?_
   refine Rg.p1 3 (.some 73) ?_
   refine Rg.p1 4 (.some 74) ?_
   refine Rg.p1 8 (.some 78) ?_
   refine Rg.p1 9 (.some 79) ?_
   refine Rg.p1 10 (.some 80) ?_
   refine Rg.t1 5 (.some 75) hHeld ?_ (hy := by intro w' hS'; (have c1 := (hS'.cell (World.block_lt_of_cell? _ _ HU0.out.2.2)).trans HU0.out.2.2; go_simp); first | done | with_reducible rfl)
   refine Rg.p1 6 (.some 76) ?_
   refine Rg.p1 7 (.some 77) ?_
   refine Rg.t1 11 (.some 81) hHeld ?_ (hy := by intro w' hS'; (have c1 := (hS'.cell (World.block_lt_of_cell? _ _ HU1.out.2.2)).trans HU1.out.2.2; rw [Addr.add, if_neg (by omega)] at c1; go_simp); first | done | with_reducible rfl)
   refine Rg.p1 12 (.some 82) ?_
   refine Rg.p1 13 (.some 83) ?_
   refine Rg.l1 14 (.some 84) (fun K hK => ?_)
   trace_state
   refine value_ (w1 := wr.drew.alloc (.cells #[.int .u16 (bits .or .u16 (IntKind.u16.wrap ((IntKind.u16.wrap u0) * 256)) (IntKind.u16.wrap u1))] 56)) (v := .slice (some ⟨wr.drew.heap.size, 0, none⟩) 1 1) (by rfl) rfl (by first | (go_simp; done) | (go_simp; rfl)) ?_
   refine hK.out _ _ ?_
   clear hK K
   refine Rg.n1 ?_
   have HBD : Aside0 (Below w5.heap.size w5 wr.drew ∧ w5.heap.size ≤ wr.drew.heap.size) := ⟨HB.out.drew, HB.out.drew.size⟩
   have HRD : Aside0 (Kd.R (Kd.int .u16) 56 wr.drew w5.heap.size (fun _ => True) (.slice Aa na ca) acc) := ⟨Kd.R_below HRA.out (Below.refl _ _).drew⟩
   have HLM : Aside0 ((acc.length + 1) * 2 ≤ 140737488355328) := ⟨by have := HAL.out; omega⟩
   refine Rg.l1 15 (.some 85) (fun K hK => ?_)
   refine Kd.R_append_step (Kd.int .u16) (w0 := w5) (W := wr.drew) w5.heap.size (by rfl) (.tmp 70) (.tmp 84) 149 56 (.int .u16 0) 2 rfl Tryd.underlying149 (by rfl) rfl (by decide) (by omega) (.slice Aa na ca) acc (bits .or .u16 (IntKind.u16.wrap ((IntKind.u16.wrap u0) * 256)) (IntKind.u16.wrap u1)) [.int .u16 (bits .or .u16 (IntKind.u16.wrap ((IntKind.u16.wrap u0) * 256)) (IntKind.u16.wrap u1))] (fun _ => True) (fun _ => False) rfl rfl rfl (fun _ h => h.elim) (fun _ _ => trivial) HRD.out HBD.out.1 HBD.out.2 HLM.out ?_
   intro v1 w6 hr6 hb6 hg6 _
   obtain ⟨A9, c9, rfl⟩ := Kd.R_slice hr6
   have HR9 := Aside0.mk hr6
   have HB9 := Aside0.mk hb6
   have HG9 := Aside0.mk hg6
   clear hr6 hb6 hg6
   refine hK.out _ _ ?_
   clear hK K
   refine Rg.n1 ?_
   refine Rg.p1 16 (.some 9) ?_
   refine Rg.d1 ?_
   refine NoPanic.normal ?_
   have HX : Aside0 (bits .or .u16 (IntKind.u16.wrap ((IntKind.u16.wrap u0) * 256)) (IntKind.u16.wrap u1) = u0 * 256 + u1) := ⟨Gr.or_16 _ _ HU0.out.2.1.1 HU0.out.2.1.2 HU1.out.2.1.1 HU1.out.2.1.2⟩
   rw [HX.out] at HR9
   clear f1 f2 f3 f4 f5 f6
   go_wp2_with fail
   go_roundw
   case rel =>
    refine ⟨j + 1, _, c9, A9, acc ++ [u0 * 256 + u1], rfl, by first | go_num | (push_cast; congr 1; omega), by omega, ⟨by rw [List.length_append, HAL.out]; rfl⟩, ⟨by rw [HAL.out]⟩, ⟨?_⟩, ⟨by have h9 := HR9.out; rw [show (acc ++ [u0 * 256 + u1]).length = acc.length + 1 from by rw [List.length_append]; rfl] at h9; exact h9⟩, HB9⟩
    have e1 := HAP.out
    rw [Gr.pairs_two r3 (2 * j) (by rw [HNQ.out]; have := HNK.out; omega), ← HU0.out.1, ← HU1.out.1] at e1
    rw [List.append_assoc]
    exact e1
   case measure => simp [intOf]; omega
  ·obtain rfl : k = j := by omega
   have hge : ¬ 2 * (k : Int) + 1 < (nq : Int) := by have := HNK.out; omega
   have hj5 : (k : Int) ≤ 50000 := by have := HNK.out; have := HNQL.out; omega
   go_wp2_with fail
   go_ret3
   obtain ⟨rfl, rfl, rfl⟩ := HE.out
   have e1 := HAP.out
   rw [List.drop_of_length_le (by rw [HNQ.out]; have := HNK.out; omega), Gr.pairs, List.append_nil] at e1
   ·subst e1
    obtain rfl : na = (Gr.pairs r3).length := by rw [HNA.out, ← HAL.out]
    exact ⟨Aa, ca, rfl, Kd.R_lower HRA.out HB5.out.size, below_then HB5.out HB5.out.size HB.out⟩
   ·exact fun _ _ _ h => by cases h
end Go.Proofs.YtgljicdpcapgnaaDoor
set_option linter.unusedVariables false
set_option linter.unusedSimpArgs false
namespace Go.Proofs.YtgljicdpcapgnaaDoor
open Go.RowKit Go.Proofs.YtgljicdpcapgnaaDoorW.PrintWords Go.Proofs.YtgljicdpcapgnaaDoorW.PrintLast Go.Proofs.YtgljicdpcapgnaaDoorW.PrintMore
namespace Cn
end Cn
set_option maxHeartbeats 1000000 in
set_option maxRecDepth 100000 in
theorem Cn.canc_ (W : World) (x : Cn.Ex) : Calls Tryd.prog 90 #[.agg #[.int .u32 x.1, .int .u64 x.2.1, .bool x.2.2]] W fun e' w' => e' = .returned (.int .u64 (Cn.can x.2.2)) ∧ Below W.heap.size W w' := by
 obtain ⟨x0, x1, ro⟩ := x
 have HB := Aside0.mk (below_alloc (Below.refl W.heap.size W) (.cells #[.int .u32 x0, .int .u64 x1, .bool ro] 44))
 cases ro with
 | false =>
  go_enter Tryd.func90, Tryd.ntmps90
  go_wp2_with fail
  go_ret
  exact ⟨rfl, HB.out⟩
 | true =>
  go_enter Tryd.func90, Tryd.ntmps90
  go_wp2_with fail
  go_ret
  exact ⟨rfl, HB.out⟩
set_option maxHeartbeats 1000000 in
set_option maxRecDepth 100000 in
theorem Cn.info_ (W : World) (x : Cn.Ex) : Calls Tryd.prog 84 #[.agg #[.int .u32 x.1, .int .u64 x.2.1, .bool x.2.2]] W (Cn.Made W (Cn.info x)) := by
 obtain ⟨x0, x1, ro⟩ := x
 have HSZ : Aside0 ((Tryd.prog.info? 44).map (·.size) = some 3) := ⟨by kernel_rfl⟩
 obtain ⟨wb, HWB⟩ : ∃ wb, Aside0 (W.alloc (.cells #[.int .u32 x0, .int .u64 x1, .bool ro] 44) = wb) := ⟨_, ⟨rfl⟩⟩
 have HBB : Aside0 (Below W.heap.size W wb) := ⟨HWB.out ▸ below_alloc (Below.refl _ _) _⟩
 have HX : Aside0 (Wk.Blk wb W.heap.size 44 [.int .u32 x0, .int .u64 x1, .bool ro]) := ⟨HWB.out ▸ Wk.Blk.new W _ [.int .u32 x0, .int .u64 x1, .bool ro]⟩
 go_enter Tryd.func84, Tryd.ntmps84
 go_wp2_with fail
 rw [HWB.out]
 clear HWB
 refine wp_region_noPanic ?_
 refine Rg.s1 8 (fun w' => Below wb.heap.size wb w') [] (Below.refl _ _).drew #[false, false, false, false, false, false, false, false] (fun hHeld => ?_)
 refine Rg.p1 1 (.some 4) ?_
 refine Rg.t1 2 (.some 5) hHeld ?_ (hy := by intro w' hS'; (have c1 := (HX.out.below_ hS').at_ 1 rfl; go_simp); first | done | with_reducible rfl)
 refine Rg.t1 3 (.some 6) hHeld ?_ (hy := by intro w' hS'; (have hl := Wk.run_load_blk (P := Tryd.prog) 44 W.heap.size 0 [.int .u32 x0, .int .u64 x1, .bool ro] _ (HX.out.below_ hS') rfl Tryd.underlying44 rfl HSZ.out; refine (Wk.exec_load 44 (.tmp 1) rfl _ _ rfl hl).trans ?_); first | done | with_reducible rfl)
 have HH := Aside0.mk hHeld
 generalize hw6 : World.drew _ = w6 at hHeld HH ⊢
 clear hw6
 refine join_ (σ := Nat × Nat) (fuel' := 2) #[true, true, true, true, true, true, false, false] (fun s => [(3, .slice (some ⟨s.1, 0, none⟩) 3 3), (7, .int .u64 (Cn.can ro)), (8, .slice (some ⟨s.2, 0, none⟩) 3 3)]) (fun s w' => Below wb.heap.size wb w' ∧ Kd.C (Kd.int .i64) w' (some ⟨s.1, 0, none⟩) 3 [2, 8, 2] ∧ Kd.C (Kd.int .u64) w' (some ⟨s.2, 0, none⟩) 3 [0, x1, Cn.can ro]) ?_ (fun hJ => ?_)
 rotate_left
 ·refine two_ (i := 0) (j := 4) (Ni := some 3) (Nj := some 7) #[true, true, true, true, false, false, false, false] #[false, true, true, true, true, false, false, false] rfl rfl rfl rfl (by kernel_rfl) (by decide) (by decide) (fun K hK => ?_) (fun K hK => ?_)
  ·refine value_ (w1 := w6.alloc (.cells #[.int .i64 2, .int .i64 8, .int .i64 2] 3)) (v := .slice (some ⟨w6.heap.size, 0, none⟩) 3 3) (by rfl) rfl (by first | (go_simp; done) | (go_simp; rfl)) ?_
   have HC := Aside0.mk (Lit.reads_new w6 #[.int .i64 2, .int .i64 8, .int .i64 2] 3 (0, 0) .i64 [2, 8, 2] rfl (by decide))
   refine hK.out _ _ (below_then hHeld hHeld.size (below_alloc (Below.refl _ _) _)) (fun hHeld => ?_)
   clear hK K
   refine Rg.n1 ?_
   refine Rg.o1 4 (.some 7) (fun K hK => ?_)
   refine call_ 90 #[.agg #[.int .u32 x0, .int .u64 x1, .bool ro]] (by rfl) rfl (by go_simp) ?_
   refine (Cn.canc_ _ (x0, x1, ro)).mono ?_
   rintro e w8 ⟨rfl, hb8⟩
   refine ⟨_, rfl, ?_⟩
   refine hK.out _ _ (below_then hHeld hHeld.size hb8) (fun hHeld => ?_)
   have HC' := Aside0.mk (Kd.C_below HC.out hb8)
   clear hK K
   refine Rg.n1 ?_
   refine Rg.o1 5 (.some 8) (fun K hK => ?_)
   refine value_ (w1 := w8.alloc (.cells #[.int .u64 0, .int .u64 x1, .int .u64 (Cn.can ro)] 42)) (v := .slice (some ⟨w8.heap.size, 0, none⟩) 3 3) (by rfl) rfl (by first | (go_simp; done) | (go_simp; rfl)) ?_
   refine hK.out _ _ (below_then hHeld hHeld.size (below_alloc (Below.refl _ _) _)) (fun hHeld => ?_)
   exact hJ (w6.heap.size, w8.heap.size) _ ⟨hHeld, Kd.C_below HC'.out (below_alloc (Below.refl _ _) _), (Lit.reads_new w8 #[.int .u64 0, .int .u64 x1, .int .u64 (Cn.can ro)] 42 (0, 0) .u64 [0, x1, Cn.can ro] rfl (by simp))⟩
  ·refine call_ 90 #[.agg #[.int .u32 x0, .int .u64 x1, .bool ro]] (by rfl) rfl (by go_simp) ?_
   refine (Cn.canc_ _ (x0, x1, ro)).mono ?_
   rintro e w8 ⟨rfl, hb8⟩
   refine ⟨_, rfl, ?_⟩
   refine hK.out _ _ (below_then hHeld hHeld.size hb8) (fun hHeld => ?_)
   clear hb8
   clear hK K
   refine Rg.n1 ?_
   refine two_ (i := 0) (j := 5) (Ni := some 3) (Nj := some 8) #[true, true, true, true, true, false, false, false] #[false, true, true, true, true, true, false, false] rfl rfl rfl rfl (by kernel_rfl) (by decide) (by decide) (fun K hK => ?_) (fun K hK => ?_)
   ·refine value_ (w1 := w8.alloc (.cells #[.int .i64 2, .int .i64 8, .int .i64 2] 3)) (v := .slice (some ⟨w8.heap.size, 0, none⟩) 3 3) (by rfl) rfl (by first | (go_simp; done) | (go_simp; rfl)) ?_
    have HC := Aside0.mk (Lit.reads_new w8 #[.int .i64 2, .int .i64 8, .int .i64 2] 3 (0, 0) .i64 [2, 8, 2] rfl (by decide))
    refine hK.out _ _ (below_then hHeld hHeld.size (below_alloc (Below.refl _ _) _)) (fun hHeld => ?_)
    generalize hw9 : World.alloc w8 _ = w9 at *
    clear hw9
    clear hK K
    refine Rg.n1 ?_
    refine Rg.o1 5 (.some 8) (fun K hK => ?_)
    refine value_ (w1 := w9.alloc (.cells #[.int .u64 0, .int .u64 x1, .int .u64 (Cn.can ro)] 42)) (v := .slice (some ⟨w9.heap.size, 0, none⟩) 3 3) (by rfl) rfl (by first | (go_simp; done) | (go_simp; rfl)) ?_
    refine hK.out _ _ (below_then hHeld hHeld.size (below_alloc (Below.refl _ _) _)) (fun hHeld => ?_)
    exact hJ (w8.heap.size, w9.heap.size) _ ⟨hHeld, Kd.C_below HC.out (below_alloc (Below.refl _ _) _), (Lit.reads_new w9 #[.int .u64 0, .int .u64 x1, .int .u64 (Cn.can ro)] 42 (0, 0) .u64 [0, x1, Cn.can ro] rfl (by simp))⟩
   ·refine value_ (w1 := w8.alloc (.cells #[.int .u64 0, .int .u64 x1, .int .u64 (Cn.can ro)] 42)) (v := .slice (some ⟨w8.heap.size, 0, none⟩) 3 3) (by rfl) rfl (by first | (go_simp; done) | (go_simp; rfl)) ?_
    have HC := Aside0.mk (Lit.reads_new w8 #[.int .u64 0, .int .u64 x1, .int .u64 (Cn.can ro)] 42 (0, 0) .u64 [0, x1, Cn.can ro] rfl (by simp))
    refine hK.out _ _ (below_then hHeld hHeld.size (below_alloc (Below.refl _ _) _)) (fun hHeld => ?_)
    generalize hw9 : World.alloc w8 _ = w9 at *
    clear hw9
    clear hK K
    refine Rg.n1 ?_
    refine Rg.o1 0 (.some 3) (fun K hK => ?_)
    refine value_ (w1 := w9.alloc (.cells #[.int .i64 2, .int .i64 8, .int .i64 2] 3)) (v := .slice (some ⟨w9.heap.size, 0, none⟩) 3 3) (by rfl) rfl (by first | (go_simp; done) | (go_simp; rfl)) ?_
    refine hK.out _ _ (below_then hHeld hHeld.size (below_alloc (Below.refl _ _) _)) (fun hHeld => ?_)
    exact hJ (w9.heap.size, w8.heap.size) _ ⟨hHeld, (Lit.reads_new w9 #[.int .i64 2, .int .i64 8, .int .i64 2] 3 (0, 0) .i64 [2, 8, 2] rfl (by decide)), Kd.C_below HC.out (below_alloc (Below.refl _ _) _)⟩
 rintro ⟨g, g'⟩ w7 ⟨hHeld, hC7, hC8⟩
 have HC7 := Aside0.mk hC7
 have HC8 := Aside0.mk hC8
 clear hC7 hC8 HH
 refine norm_ (a' := ?_) ?_ ?_
 rotate_left
 ·show Act.put (Act.put (Act.put _ (some 3) _) (some 7) _) (some 8) _ = _
  simp only [Act.put, List.setIfInBounds_toArray, List.set_cons_zero, List.set_cons_succ]
  rfl
 refine Rg.o1 6 (.some 9) (fun K hK => ?_)
 refine call_ 38 #[.slice (some ⟨g, 0, none⟩) 3 3, .slice (some ⟨g', 0, none⟩) 3 3] (by rfl) rfl (by go_simp) ?_
 refine (Cn.pack_ (ws := [2, 8, 2]) (vs := [0, x1, Cn.can ro]) HC7.out rfl (by decide) HC8.out rfl (Nat.le_of_ble_eq_true rfl) (by decide) (Nat.le_of_ble_eq_true rfl)).mono ?_
 rintro e w9 ⟨A9, c9, rfl, hR9, hb9⟩
 refine ⟨_, rfl, ?_⟩
 have HB9 := Aside0.mk (below_then HBB.out HBB.out.size (below_then hHeld hHeld.size hb9))
 have HR9 := Aside0.mk (Kd.R_lower hR9 (Nat.le_trans HBB.out.size hHeld.size))
 refine hK.out _ _ (below_then hHeld hHeld.size hb9) (fun hHeld => ?_)
 clear hK K
 refine Rg.n1 ?_
 refine Rg.p1 7 (.some 2) ?_
 refine Rg.d1 ?_
 refine NoPanic.normal ?_
 go_wp2_with fail
 go_ret
 exact ⟨A9, c9, rfl, HR9.out, HB9.out⟩
set_option maxHeartbeats 1000000 in
set_option maxRecDepth 100000 in
theorem Cn.old_ (W : World) (x : Cn.Ex) (sh : Bool) : Calls Tryd.prog 81 #[.agg #[.int .u32 x.1, .int .u64 x.2.1, .bool x.2.2], .bool sh] W (Cn.Made W (Cn.old x sh)) := by
 obtain ⟨x0, x1, ro⟩ := x
 have HSZ : Aside0 ((Tryd.prog.info? 44).map (·.size) = some 3) := ⟨by kernel_rfl⟩
 obtain ⟨wb, HWB⟩ : ∃ wb, Aside0 (W.alloc (.cells #[.int .u32 x0, .int .u64 x1, .bool ro] 44) = wb) := ⟨_, ⟨rfl⟩⟩
 have HBB : Aside0 (Below W.heap.size W wb) := ⟨HWB.out ▸ below_alloc (Below.refl _ _) _⟩
 have HX : Aside0 (Wk.Blk wb W.heap.size 44 [.int .u32 x0, .int .u64 x1, .bool ro]) := ⟨HWB.out ▸ Wk.Blk.new W _ [.int .u32 x0, .int .u64 x1, .bool ro]⟩
 go_enter Tryd.func81, Tryd.ntmps81
 go_wp2_with fail
 rw [HWB.out]
 clear HWB
 refine wp_region_noPanic ?_
 refine Rg.s1 8 (fun w' => Below wb.heap.size wb w') [] (Below.refl _ _).drew #[false, false, false, false, false, false, false, false] (fun hHeld => ?_)
 refine Rg.p1 1 (.some 7) ?_
 refine Rg.t1 2 (.some 8) hHeld ?_ (hy := by intro w' hS'; (have c1 := (HX.out.below_ hS').at_ 1 rfl; go_simp); first | done | with_reducible rfl)
 refine Rg.t1 3 (.some 9) hHeld ?_ (hy := by intro w' hS'; (have hl := Wk.run_load_blk (P := Tryd.prog) 44 W.heap.size 0 [.int .u32 x0, .int .u64 x1, .bool ro] _ (HX.out.below_ hS') rfl Tryd.underlying44 rfl HSZ.out; refine (Wk.exec_load 44 (.tmp 2) rfl _ _ rfl hl).trans ?_); first | done | with_reducible rfl)
 have HH := Aside0.mk hHeld
 generalize hw6 : World.drew _ = w6 at hHeld HH ⊢
 clear hw6
 refine join_ (σ := Nat × Nat) (fuel' := 2) #[true, true, true, true, true, true, false, false] (fun s => [(6, .slice (some ⟨s.1, 0, none⟩) 2 2), (10, .int .u64 (Cn.can ro)), (11, .slice (some ⟨s.2, 0, none⟩) 2 2)]) (fun s w' => Below wb.heap.size wb w' ∧ Kd.C (Kd.int .i64) w' (some ⟨s.1, 0, none⟩) 2 [8, 2] ∧ Kd.C (Kd.int .u64) w' (some ⟨s.2, 0, none⟩) 2 [x1, Cn.can ro]) ?_ (fun hJ => ?_)
 rotate_left
 ·refine two_ (i := 0) (j := 4) (Ni := some 6) (Nj := some 10) #[true, true, true, true, false, false, false, false] #[false, true, true, true, true, false, false, false] rfl rfl rfl rfl (by kernel_rfl) (by decide) (by decide) (fun K hK => ?_) (fun K hK => ?_)
  ·refine value_ (w1 := w6.alloc (.cells #[.int .i64 8, .int .i64 2] 3)) (v := .slice (some ⟨w6.heap.size, 0, none⟩) 2 2) (by rfl) rfl (by first | (go_simp; done) | (go_simp; rfl)) ?_
   have HC := Aside0.mk (Lit.reads_new w6 #[.int .i64 8, .int .i64 2] 3 (0, 0) .i64 [8, 2] rfl (by decide))
   refine hK.out _ _ (below_then hHeld hHeld.size (below_alloc (Below.refl _ _) _)) (fun hHeld => ?_)
   clear hK K
   refine Rg.n1 ?_
   refine Rg.o1 4 (.some 10) (fun K hK => ?_)
   refine call_ 90 #[.agg #[.int .u32 x0, .int .u64 x1, .bool ro]] (by rfl) rfl (by go_simp) ?_
   refine (Cn.canc_ _ (x0, x1, ro)).mono ?_
   rintro e w8 ⟨rfl, hb8⟩
   refine ⟨_, rfl, ?_⟩
   refine hK.out _ _ (below_then hHeld hHeld.size hb8) (fun hHeld => ?_)
   have HC' := Aside0.mk (Kd.C_below HC.out hb8)
   clear hK K
   refine Rg.n1 ?_
   refine Rg.o1 5 (.some 11) (fun K hK => ?_)
   refine value_ (w1 := w8.alloc (.cells #[.int .u64 x1, .int .u64 (Cn.can ro)] 42)) (v := .slice (some ⟨w8.heap.size, 0, none⟩) 2 2) (by rfl) rfl (by first | (go_simp; done) | (go_simp; rfl)) ?_
   refine hK.out _ _ (below_then hHeld hHeld.size (below_alloc (Below.refl _ _) _)) (fun hHeld => ?_)
   exact hJ (w6.heap.size, w8.heap.size) _ ⟨hHeld, Kd.C_below HC'.out (below_alloc (Below.refl _ _) _), (Lit.reads_new w8 #[.int .u64 x1, .int .u64 (Cn.can ro)] 42 (0, 0) .u64 [x1, Cn.can ro] rfl (by simp))⟩
  ·refine call_ 90 #[.agg #[.int .u32 x0, .int .u64 x1, .bool ro]] (by rfl) rfl (by go_simp) ?_
   refine (Cn.canc_ _ (x0, x1, ro)).mono ?_
   rintro e w8 ⟨rfl, hb8⟩
   refine ⟨_, rfl, ?_⟩
   refine hK.out _ _ (below_then hHeld hHeld.size hb8) (fun hHeld => ?_)
   clear hb8
   clear hK K
   refine Rg.n1 ?_
   refine two_ (i := 0) (j := 5) (Ni := some 6) (Nj := some 11) #[true, true, true, true, true, false, false, false] #[false, true, true, true, true, true, false, false] rfl rfl rfl rfl (by kernel_rfl) (by decide) (by decide) (fun K hK => ?_) (fun K hK => ?_)
   ·refine value_ (w1 := w8.alloc (.cells #[.int .i64 8, .int .i64 2] 3)) (v := .slice (some ⟨w8.heap.size, 0, none⟩) 2 2) (by rfl) rfl (by first | (go_simp; done) | (go_simp; rfl)) ?_
    have HC := Aside0.mk (Lit.reads_new w8 #[.int .i64 8, .int .i64 2] 3 (0, 0) .i64 [8, 2] rfl (by decide))
    refine hK.out _ _ (below_then hHeld hHeld.size (below_alloc (Below.refl _ _) _)) (fun hHeld => ?_)
    generalize hw9 : World.alloc w8 _ = w9 at *
    clear hw9
    clear hK K
    refine Rg.n1 ?_
    refine Rg.o1 5 (.some 11) (fun K hK => ?_)
    refine value_ (w1 := w9.alloc (.cells #[.int .u64 x1, .int .u64 (Cn.can ro)] 42)) (v := .slice (some ⟨w9.heap.size, 0, none⟩) 2 2) (by rfl) rfl (by first | (go_simp; done) | (go_simp; rfl)) ?_
    refine hK.out _ _ (below_then hHeld hHeld.size (below_alloc (Below.refl _ _) _)) (fun hHeld => ?_)
    exact hJ (w8.heap.size, w9.heap.size) _ ⟨hHeld, Kd.C_below HC.out (below_alloc (Below.refl _ _) _), (Lit.reads_new w9 #[.int .u64 x1, .int .u64 (Cn.can ro)] 42 (0, 0) .u64 [x1, Cn.can ro] rfl (by simp))⟩
   ·refine value_ (w1 := w8.alloc (.cells #[.int .u64 x1, .int .u64 (Cn.can ro)] 42)) (v := .slice (some ⟨w8.heap.size, 0, none⟩) 2 2) (by rfl) rfl (by first | (go_simp; done) | (go_simp; rfl)) ?_
    have HC := Aside0.mk (Lit.reads_new w8 #[.int .u64 x1, .int .u64 (Cn.can ro)] 42 (0, 0) .u64 [x1, Cn.can ro] rfl (by simp))
    refine hK.out _ _ (below_then hHeld hHeld.size (below_alloc (Below.refl _ _) _)) (fun hHeld => ?_)
    generalize hw9 : World.alloc w8 _ = w9 at *
    clear hw9
    clear hK K
    refine Rg.n1 ?_
    refine Rg.o1 0 (.some 6) (fun K hK => ?_)
    refine value_ (w1 := w9.alloc (.cells #[.int .i64 8, .int .i64 2] 3)) (v := .slice (some ⟨w9.heap.size, 0, none⟩) 2 2) (by rfl) rfl (by first | (go_simp; done) | (go_simp; rfl)) ?_
    refine hK.out _ _ (below_then hHeld hHeld.size (below_alloc (Below.refl _ _) _)) (fun hHeld => ?_)
    exact hJ (w9.heap.size, w8.heap.size) _ ⟨hHeld, (Lit.reads_new w9 #[.int .i64 8, .int .i64 2] 3 (0, 0) .i64 [8, 2] rfl (by decide)), Kd.C_below HC.out (below_alloc (Below.refl _ _) _)⟩
 rintro ⟨g, g'⟩ w7 ⟨hHeld, hC7, hC8⟩
 have HC7 := Aside0.mk hC7
 have HC8 := Aside0.mk hC8
 clear hC7 hC8 HH
 refine norm_ (a' := ?_) ?_ ?_
 rotate_left
 ·show Act.put (Act.put (Act.put _ (some 6) _) (some 10) _) (some 11) _ = _
  simp only [Act.put, List.setIfInBounds_toArray, List.set_cons_zero, List.set_cons_succ]
  rfl
 refine Rg.o1 6 (.some 12) (fun K hK => ?_)
 refine call_ 38 #[.slice (some ⟨g, 0, none⟩) 2 2, .slice (some ⟨g', 0, none⟩) 2 2] (by rfl) rfl (by go_simp) ?_
 refine (Cn.pack_ (ws := [8, 2]) (vs := [x1, Cn.can ro]) HC7.out rfl (by decide) HC8.out rfl (Nat.le_of_ble_eq_true rfl) (by decide) (Nat.le_of_ble_eq_true rfl)).mono ?_
 rintro e w9 ⟨A9, c9, rfl, hR9, hb9⟩
 refine ⟨_, rfl, ?_⟩
 have HB9 := Aside0.mk (below_then HBB.out HBB.out.size (below_then hHeld hHeld.size hb9))
 have HR9 := Aside0.mk (Kd.R_lower hR9 (Nat.le_trans HBB.out.size hHeld.size))
 refine hK.out _ _ (below_then hHeld hHeld.size hb9) (fun hHeld => ?_)
 clear hK K
 refine Rg.n1 ?_
 refine Rg.p1 7 (.some 5) ?_
 refine Rg.d1 ?_
 refine NoPanic.normal ?_
 have HLN := Aside0.mk (Cn.packs_len4 [8, 2] [x1, Cn.can ro] (by simp))
 have HBW : Aside0 (Below W.heap.size W w9) := HB9
 obtain ⟨ls, HLS⟩ : ∃ ls, Aside0 (Wi.packs [8, 2] [x1, Cn.can ro] = ls) := ⟨_, ⟨rfl⟩⟩
 rw [HLS.out] at HR9 HLN ⊢
 cases sh with
 | true =>
  go_wp2_with fail
  go_ret
  refine Cn.made ⟨_, rfl, ?_, HB9.out⟩
  unfold Cn.old
  rw [if_pos rfl, List.append_nil, HLS.out]
  exact HR9.out
 | false =>
  go_wp2_with (at_builtin; refine Kd.R_append_zeros (Kd.int .u8) (w0 := W) W.heap.size rfl (.tmp 15) (.const (.int .i64 124)) 23 3 5 (.int .u8 0) 1 rfl Tryd.underlying23 Tryd.underlying3 (by rfl) rfl (by decide) (by omega) (.slice A9 ls.length c9) ls 0 (124 : Int) (fun _ => True) rfl rfl rfl (fun _ _ => trivial) HR9.out (by omega) HB9.out HB9.out.size (by have := HLN.out; omega) ?_; intro v3 w11 hr3 hb3 hg3 _; have HR11 := Aside0.mk hr3; have HB11 := Aside0.mk hb3; clear hr3 hb3 hg3)
  go_ret
  refine Cn.made ⟨_, rfl, ?_, HB11.out⟩
  unfold Cn.old
  rw [if_neg (by decide), HLS.out]
  exact HR11.out
end Go.Proofs.YtgljicdpcapgnaaDoor
set_option linter.unusedVariables false
set_option linter.unusedSimpArgs false
namespace Go.Proofs.YtgljicdpcapgnaaDoor
open Go.RowKit Go.Proofs.YtgljicdpcapgnaaDoorW.PrintWords Go.Proofs.YtgljicdpcapgnaaDoorW.PrintLast Go.Proofs.YtgljicdpcapgnaaDoorW.PrintMore
def Wi.rqc (x1 x2 x3 x4 x5 : Int) (v : Value) : List Value := [.int .u16 x1, .int .u16 x2, .int .u64 x3, .int .u64 x4, .int .u32 x5, v]
theorem Wi.six_cells {w : World} {base : Nat} {v : Value} {x0 x1 x2 x3 x4 x5 : Int} (h : Kd.R (Kd.int .u64) 42 w base (fun _ => True) v [x0, x1, x2, x3, x4, x5]) : ∃ g c, v = .slice (some ⟨g, 0, none⟩) 6 c ∧ base ≤ g ∧ g < w.heap.size ∧ 6 ≤ c ∧
    w.cell? ⟨g, 0, none⟩ = some (.int .u64 x0) ∧ w.cell? ⟨g, 1, none⟩ = some (.int .u64 x1) ∧ w.cell? ⟨g, 2, none⟩ = some (.int .u64 x2) ∧ w.cell? ⟨g, 3, none⟩ = some (.int .u64 x3) ∧ w.cell? ⟨g, 4, none⟩ = some (.int .u64 x4) ∧ w.cell? ⟨g, 5, none⟩ = some (.int .u64 x5) := by
  have ho := Kd.own_of_R h
  obtain ⟨g, c, rfl, hb, hl⟩ := ho.form (by simp)
  have hc : ∀ j u, ([.int .u64 x0, .int .u64 x1, .int .u64 x2, .int .u64 x3, .int .u64 x4, .int .u64 x5] : List Value)[j]? = some u → w.cell? ⟨g, j, none⟩ = some u := fun j u hu => by
    have := ho.cells (g := g) rfl j u hu
    rwa [add_plain] at this
  exact ⟨g, c, rfl, hb, hl, own_le ho, hc 0 _ rfl, hc 1 _ rfl, hc 2 _ rfl, hc 3 _ rfl, hc 4 _ rfl, hc 5 _ rfl⟩
theorem Wi.infoByte1 : (Tryd.prog.info? 5).map (·.size) = some 1 := by kernel_rfl
theorem Wi.infoSl : (Tryd.prog.info? 23).map (·.size) = some 1 := by kernel_rfl
theorem Wi.info28 : (Tryd.prog.info? 61).map (·.size) = some 6 := by kernel_rfl
set_option maxHeartbeats 1000000 in
set_option maxRecDepth 100000 in
theorem req_Next.calls (A0 : Option Addr) (c0 : Nat) (l0 : List Int) (r1 : Int) (r2 : Int) (r3 : Int) (r4 : Int) (r5 : Int) (r6 : List Int) (r7 : Int) (r8 : Int) (w : World) (hr0 : Kd.C (Kd.int .u8) w A0 l0.length l0) (hc0 : l0.length ≤ c0) (h : req_Next.f l0 = some (r1, r2, r3, r4, r5, r6, r7, r8)) :
  Calls Tryd.prog 70 #[.slice A0 l0.length c0] w fun e w' => ∃ v5_ : Value, e = .returned (.tuple #[.agg #[.int .u16 r1, .int .u16 r2, .int .u64 r3, .int .u64 r4, .int .u32 r5, v5_], .int .i64 r7, .int .u16 r8]) ∧ Kd.R (Kd.int .u8) 5 w' w.heap.size (fun _ => True) v5_ r6 ∧ Below w.heap.size w w' := by
 unfold req_Next.f at h
 obtain ⟨hlen, hby⟩ : l0.length ≤ 1099511627776 ∧ Wi.Bytes l0 := by
  by_cases hc : l0.length ≤ 1099511627776 ∧ ∀ x ∈ l0, 0 ≤ x ∧ x ≤ 255
  ·exact hc
  ·rw [if_neg hc] at h; cases h
 rw [if_pos ⟨hlen, hby⟩] at h
 have HRES := Aside0.mk (Option.some.inj h)
 have HR0 := Aside0.mk hr0
 have HBY := Aside0.mk hby
 clear h hr0 hby
 obtain ⟨N, HN⟩ : ∃ N, Aside0 (l0.length = N) := ⟨_, ⟨rfl⟩⟩
 rw [HN.out] at hlen hc0 ⊢
 go_enter Tryd.func70, Tryd.ntmps70
 go_wp2_with fail
 generalize hWq : World.alloc w _ = W0
 have HB0 : Aside0 (Below w.heap.size w W0) := ⟨by rw [← hWq]; exact below_alloc (Below.refl _ _) _⟩
 have HZ0 : Aside0 (W0.heap[w.heap.size]? = some (.cells #[.int .u16 0, .int .u16 0, .int .u64 0, .int .u64 0, .int .u32 0, .slice none 0 0] 61 (0, 0))) := ⟨by rw [← hWq]; exact heap_alloc_new w _⟩
 clear hWq
 obtain ⟨m, hmin, hm28, HMN⟩ : ∃ m : Nat, (if 28 < (N : Int) then 28 else (N : Int)) = (m : Int) ∧ m ≤ 28 ∧ Aside0 (m ≤ N ∧ (N < 28 ∨ m = 28)) := by
  by_cases h : 28 < (N : Int)
  ·exact ⟨28, by rw [if_pos h]; rfl, by omega, ⟨by omega⟩⟩
  ·exact ⟨N, by rw [if_neg h], by omega, ⟨by omega⟩⟩
 have hmc : m ≤ c0 := by have := HMN.out; omega
 obtain ⟨ns, ok, HTK⟩ : ∃ (ns : List Int) (ok : Bool), Aside0 (wire_Take.f (l0.take m) [4, 2, 2, 8, 8, 4] = some (ns, [], ok) ∧ (ok = decide (28 ≤ N)) ∧ (28 ≤ N → ns = [Wi.rq0 l0, Wi.rq1 l0, Wi.rq2 l0, Wi.rq3 l0, Wi.rq4 l0, Wi.rq5 l0])) := by
  have hm := HMN.out
  have hN := HN.out
  by_cases h : N < 28
  ·refine ⟨[], false, ⟨?_, by simp; omega, fun h2 => absurd h2 (by omega)⟩⟩
   unfold wire_Take.f
   rw [if_pos ⟨by rw [List.length_take]; omega, by simp, Wi.Bytes.take HBY.out m⟩, Wi.takes6, if_pos (by rw [List.length_take]; omega)]
  ·obtain rfl : m = 28 := by omega
   obtain ⟨e0, e1, e2, e3, e4, e5⟩ := Wi.rq_take l0
   refine ⟨_, true, ⟨?_, by simp; omega, fun _ => rfl⟩⟩
   unfold wire_Take.f
   rw [if_pos ⟨by rw [List.length_take]; omega, by simp, Wi.Bytes.take HBY.out 28⟩, Wi.takes6, if_neg (by rw [List.length_take]; omega), e0, e1, e2, e3, e4, e5, List.drop_of_length_le (by rw [List.length_take]; omega)]
 have HCT : Aside0 (Kd.C (Kd.int .u8) w A0 m (l0.take m) ∧ (l0.take m).length = m) := ⟨by
  have hl : (l0.take m).length = m := by rw [List.length_take, HN.out]; have := HMN.out; omega
  refine ⟨?_, hl⟩
  have := Kd.C_take (m := m) HR0.out (by rw [HN.out]; exact HMN.out.1)
  rwa [hl] at this⟩
 refine wp_region_noPanic ?_
 refine Rg.s1 14 (fun w' => Below W0.heap.size W0 w') [13] (Below.refl _ _).drew #[false, false, false, false, false, false, false, false, false, false, false, false, false, false] (fun hHeld => ?_)
 refine Rg.p1 0 (.some 11) ?_
 refine Rg.p1 1 (.some 12) ?_
 refine Rg.p1 2 (.some 13) ?_
 refine Rg.p1 3 (.some 14) ?_
 refine Rg.p1 4 (.some 15) ?_
 refine Rg.o1 5 (.some 16) (fun K hK => ?_)
 refine call_ 87 #[] (by rfl) rfl (by go_simp) ?_
 refine (PBase.req_form.calls [4, 2, 2, 8, 8, 4] _ rfl).mono ?_
 rintro e w1 ⟨vf, rfl, rf, bf⟩
 obtain ⟨Af, cf, rfl⟩ := Kd.R_slice rf
 have HF := Aside0.mk rf
 have HQ := Aside0.mk (below_then hHeld hHeld.size bf)
 clear rf bf
 refine ⟨_, rfl, ?_⟩
 refine hK.out _ _ HQ.out (fun hHeld => ?_)
 clear hK K
 refine Rg.n1 ?_
 refine Rg.o1 6 (.some 17) (fun K hK => ?_)
 refine call_ 65 #[.slice A0 m c0, .slice Af 6 cf] (by rfl) rfl (by go_simp) ?_
 have HTC := wire_Take.calls A0 c0 (l0.take m) Af cf [4, 2, 2, 8, 8, 4] ns [] ok w1 (by rw [HCT.out.2]; exact Kd.C_below HCT.out.1 (below_then HB0.out HB0.out.size hHeld)) (by rw [HCT.out.2]; exact hmc) (Kd.R_reads' HF.out).2.2 (Kd.R_reads' HF.out).2.1 HTK.out.1
 rw [HCT.out.2] at HTC
 refine HTC.mono ?_
 rintro e w2 ⟨v0, v1, rfl, rv0, rv1, bf⟩
 have HV := Aside0.mk rv0
 have HQ2 := Aside0.mk (below_then hHeld hHeld.size bf)
 clear rv0 rv1 bf HTC
 refine ⟨_, rfl, ?_⟩
 refine hK.out _ _ HQ2.out (fun hHeld => ?_)
 clear hK K
 refine Rg.n1 ?_
 refine Rg.p1 7 (.some 10) ?_
 refine Rg.p1 8 (.some 18) ?_
 refine Rg.p1 9 (.some 19) ?_
 refine Rg.p1 10 (.some 20) ?_
 refine Rg.p1 11 (.some 5) ?_
 refine Rg.p1 12 (.some 6) ?_
 refine Rg.p1 13 (.some 7) ?_
 refine Rg.d1 ?_
 have HB2 : Aside0 (Below w.heap.size w w2) := ⟨below_then HB0.out HB0.out.size hHeld⟩
 have HZ2 : Aside0 (Wk.Blk w2 w.heap.size 61 (Wi.rqc 0 0 0 0 0 (.slice none 0 0))) := ⟨⟨(hHeld.block _ (Array.getElem?_eq_some_iff.1 HZ0.out).1).trans HZ0.out⟩⟩
 have HSZ := Aside0.mk Wi.info28
 clear hHeld
 refine NoPanic.normal ?_
 cases ok
 ·have HR80 : Aside0 (Wi.nextOf l0 = (0, 0, 0, 0, 0, [], 0, 80)) := ⟨by
   have h1 : ¬ 28 ≤ N := of_decide_eq_false HTK.out.2.1.symm
   unfold Wi.nextOf
   rw [if_pos (by rw [HN.out]; omega)]⟩
  rw [HRES.out] at HR80
  obtain ⟨rfl, rfl, rfl, rfl, rfl, rfl, rfl, rfl⟩ : r1 = 0 ∧ r2 = 0 ∧ r3 = 0 ∧ r4 = 0 ∧ r5 = 0 ∧ r6 = [] ∧ r7 = 0 ∧ r8 = 80 := by simpa using HR80.out
  clear HTK HRES HR80 HV
  go_wp2_with (refine Wk.store_all rfl rfl 61 (.tmp 2) (.tmp 24) rfl w.heap.size (Wi.rqc 0 0 0 0 0 (.slice none 0 0)) rfl rfl 61 _ HZ2.out HSZ.out rfl rfl ?_; intro w3 hX hO; have HX := Aside0.mk hX; have HO := Aside0.mk hO; clear hX hO)
  refine bodyPost_ret (Wk.res_ctt rfl _ w.heap.size 61 _ _ rfl HX.out Tryd.underlying61 rfl HSZ.out) rfl ?_
  exact ⟨_, rfl, Kd.R_nil _ _ _ _ _, Wk.Only.below HB2.out HO.out (Nat.le_refl _)⟩
 ·obtain ⟨x0, x1, x2, x3, x4, x5, hns, HX⟩ : ∃ x0 x1 x2 x3 x4 x5, ns = [x0, x1, x2, x3, x4, x5] ∧ Aside0 (Wi.rq0 l0 = x0 ∧ Wi.rq1 l0 = x1 ∧ Wi.rq2 l0 = x2 ∧ Wi.rq3 l0 = x3 ∧ Wi.rq4 l0 = x4 ∧ Wi.rq5 l0 = x5) := ⟨_, _, _, _, _, _, HTK.out.2.2 (of_decide_eq_true HTK.out.2.1.symm), ⟨rfl, rfl, rfl, rfl, rfl, rfl⟩⟩
  have h28 : 28 ≤ N := of_decide_eq_true HTK.out.2.1.symm
  subst hns
  obtain ⟨g, cg, rfl, hgb, hgl, hgc, c0', c1', c2', c3', c4', c5'⟩ := Wi.six_cells HV.out
  have C1 := Aside0.mk c1'
  have C2 := Aside0.mk c2'
  have C3 := Aside0.mk c3'
  have C4 := Aside0.mk c4'
  have C5 := Aside0.mk c5'
  clear c1' c2' c3' c4' c5' HV HTK
  have hbn := Wi.rq_bnd l0 HBY.out
  obtain ⟨e0, e1, e2, e3, e4, e5⟩ := HX.out
  rw [e0, e1, e2, e3, e4, e5] at hbn
  have HXE : Aside0 (Wi.nextOf l0 = if x0 ≠ 627086611 then (0, 0, 0, 0, 0, [], 0, 81)
   else if x2 = 1 then if x5 > 65536 then (0, 0, 0, 0, 0, [], 0, 82) else if 28 + x5 > N then (0, 0, 0, 0, 0, [], 0, 80) else (x1, x2, x3, x4, x5, (l0.drop 28).take x5.toNat, 28 + x5, 0)
   else (x1, x2, x3, x4, x5, [], 28, 0)) := ⟨by unfold Wi.nextOf; rw [if_neg (by rw [HN.out]; omega), e0, e1, e2, e3, e4, e5, HN.out]⟩
  clear e0 e1 e2 e3 e4 e5 HX
  obtain ⟨⟨b00, b01⟩, ⟨b10, b11⟩, ⟨b20, b21⟩, ⟨b30, b31⟩, ⟨b40, b41⟩, ⟨b50, b51⟩⟩ := hbn
  by_cases hx0 : x0 = 627086611
  ·subst hx0
   go_wp2_with fail
   have u1 := IntWalk.u16_in x1 (by omega)
   have u2 := IntWalk.u16_in x2 (by omega)
   have u5 := IntWalk.u32_in x5 (by omega)
   refine wp_region_noPanic ?_
   refine Rg.s1 21 (fun w' => Below w2.heap.size w2 w') [20] (Below.refl _ _).drew #[false, false, false, false, false, false, false, false, false, false, false, false, false, false, false, false, false, false, false, false, false] (fun hHeld => ?_)
   refine Rg.p1 0 (.some 31) ?_
   refine Rg.p1 1 (.some 32) ?_
   refine Rg.t1 2 (.some 33) hHeld ?_ (hy := by intro w' hS'; (have c1 := (hS'.cell (p := ⟨g, 1, none⟩) hgl).trans C1.out; go_simp); first | done | with_reducible rfl)
   refine Rg.p1 3 (.some 34) ?_
   refine Rg.p1 4 (.some 35) ?_
   refine Rg.p1 5 (.some 36) ?_
   refine Rg.t1 6 (.some 37) hHeld ?_ (hy := by intro w' hS'; (have c1 := (hS'.cell (p := ⟨g, 2, none⟩) hgl).trans C2.out; go_simp); first | done | with_reducible rfl)
   refine Rg.p1 7 (.some 38) ?_
   refine Rg.p1 8 (.some 39) ?_
   refine Rg.p1 9 (.some 40) ?_
   refine Rg.t1 10 (.some 41) hHeld ?_ (hy := by intro w' hS'; (have c1 := (hS'.cell (p := ⟨g, 3, none⟩) hgl).trans C3.out; go_simp); first | done | with_reducible rfl)
   refine Rg.p1 11 (.some 42) ?_
   refine Rg.p1 12 (.some 43) ?_
   refine Rg.t1 13 (.some 44) hHeld ?_ (hy := by intro w' hS'; (have c1 := (hS'.cell (p := ⟨g, 4, none⟩) hgl).trans C4.out; go_simp); first | done | with_reducible rfl)
   refine Rg.p1 14 (.some 45) ?_
   refine Rg.p1 15 (.some 46) ?_
   refine Rg.t1 16 (.some 47) hHeld ?_ (hy := by intro w' hS'; (have c1 := (hS'.cell (p := ⟨g, 5, none⟩) hgl).trans C5.out; go_simp); first | done | with_reducible rfl)
   refine Rg.p1 17 (.some 48) ?_
   refine Rg.p1 18 (.some 49) ?_
   refine Rg.o1 19 (.some 8) (fun K hK => ?_)
   refine value_ (w1 := w2.drew.alloc (.cells (Wi.rqc 0 0 0 0 0 (.slice none 0 0)).toArray 61)) (v := .pointer (some ⟨w2.heap.size, 0, none⟩)) (by rfl) rfl (by go_simp; rfl) ?_
   refine hK.out _ _ (hHeld.alloc hHeld.size _) (fun hHeld => ?_)
   clear hK K
   refine Rg.n1 ?_
   refine Rg.l1 20 none (fun K hK => ?_)
   refine Wk.store_all_step (by rfl) rfl 61 (.tmp 8) (.tmp 49) rfl w2.heap.size (Wi.rqc x1 x2 x3 x4 x5 (.slice none 0 0)) rfl rfl 61 _ (Wk.Blk.new w2.drew _ _) HSZ.out rfl rfl ?_
   intro w4 hX4 hO4
   have HX4 := Aside0.mk hX4
   have HO4 := Aside0.mk hO4
   clear hX4 hO4
   refine hK.out _ _ ?_
   clear hK K
   refine Rg.d1 ?_
   clear u1 u2 u5 hHeld
   have HBN := Aside0.mk (Wk.Only.fresh (w := w2.drew) (below_drew HB2.out) HB2.out.size HO4.out)
   have HC5 : Aside0 (w4.cell? ⟨g, 5, none⟩ = some (.int .u64 x5)) := ⟨(HBN.out.2.2.cell (p := ⟨g, 5, none⟩) hgl).trans C5.out⟩
   have HZ4 : Aside0 (Wk.Blk w4 w.heap.size 61 (Wi.rqc 0 0 0 0 0 (.slice none 0 0))) := ⟨HZ2.out.drew.below_ HBN.out.2.2⟩
   have HB4 := Aside0.mk HBN.out.2.1
   have HG2 := Aside0.mk (show w.heap.size < w2.heap.size from HZ2.out.lt)
   have cK : w4.cell? ⟨w2.heap.size, 1, none⟩ = some (.int .u16 x2) := HX4.out.at_ 1 rfl
   obtain ⟨G, hGd⟩ : ∃ G, w2.heap.size = G := ⟨_, rfl⟩
   rw [hGd] at cK HX4 HG2 ⊢
   have HGD := Aside0.mk hGd
   clear hGd HBN HO4 c0' HB2 HZ2 C1 C2 C3 C4 C5
   refine NoPanic.normal ?_
   by_cases hk : x2 = 1
   ·subst hk
    have c5 := HC5.out
    have HRR : Aside0 (_ = _) := ⟨HXE.out⟩
    rw [if_neg (by simp), if_pos rfl, HRES.out] at HRR
    clear HXE HRES
    by_cases hL : 65536 < x5
    ·rw [if_pos hL] at HRR
     obtain ⟨rfl, rfl, rfl, rfl, rfl, rfl, rfl, rfl⟩ : r1 = 0 ∧ r2 = 0 ∧ r3 = 0 ∧ r4 = 0 ∧ r5 = 0 ∧ r6 = [] ∧ r7 = 0 ∧ r8 = 82 := by simpa using HRR.out
     clear HRR
     go_wp2_with (refine Wk.store_all rfl rfl 61 (.tmp 2) (.tmp 57) rfl w.heap.size (Wi.rqc 0 0 0 0 0 (.slice none 0 0)) rfl rfl 61 _ HZ4.out HSZ.out rfl rfl ?_; intro w5 hX hO; have HX := Aside0.mk hX; have HO := Aside0.mk hO; clear hX hO)
     refine bodyPost_ret (Wk.res_ctt rfl _ w.heap.size 61 _ _ rfl HX.out Tryd.underlying61 rfl HSZ.out) rfl ?_
     exact ⟨_, rfl, Kd.R_nil _ _ _ _ _, Wk.Only.below HB4.out HO.out (Nat.le_refl _)⟩
    ·rw [if_neg hL] at HRR
     have hL' : x5 ≤ 65536 := by omega
     by_cases hM : (N : Int) < 28 + x5
     ·rw [if_pos hM] at HRR
      obtain ⟨rfl, rfl, rfl, rfl, rfl, rfl, rfl, rfl⟩ : r1 = 0 ∧ r2 = 0 ∧ r3 = 0 ∧ r4 = 0 ∧ r5 = 0 ∧ r6 = [] ∧ r7 = 0 ∧ r8 = 80 := by simpa using HRR.out
      clear HRR
      go_wp2_with (refine Wk.store_all rfl rfl 61 (.tmp 2) (.tmp 68) rfl w.heap.size (Wi.rqc 0 0 0 0 0 (.slice none 0 0)) rfl rfl 61 _ HZ4.out HSZ.out rfl rfl ?_; intro w5 hX hO; have HX := Aside0.mk hX; have HO := Aside0.mk hO; clear hX hO)
      refine bodyPost_ret (Wk.res_ctt rfl _ w.heap.size 61 _ _ rfl HX.out Tryd.underlying61 rfl HSZ.out) rfl ?_
      exact ⟨_, rfl, Kd.R_nil _ _ _ _ _, Wk.Only.below HB4.out HO.out (Nat.le_refl _)⟩
     ·rw [if_neg hM] at HRR
      obtain ⟨n5, hn5⟩ := Int.eq_ofNat_of_zero_le b50
      have hM' : 28 + x5 ≤ N := by omega
      obtain ⟨rfl, rfl, rfl, rfl, rfl, hr6, rfl, rfl⟩ : r1 = x1 ∧ r2 = 1 ∧ r3 = x3 ∧ r4 = x4 ∧ r5 = x5 ∧ r6 = (l0.drop 28).take n5 ∧ r7 = 28 + x5 ∧ r8 = 0 := by rw [hn5] at HRR ⊢; simpa using HRR.out
      have h28n : 28 + n5 ≤ N := by omega
      have HR6 := Aside0.mk hr6
      clear HRR hr6 hL hM
      obtain ⟨A1, hs1, hln, hC1⟩ := Wk.cut_mid_ (P := Tryd.prog) 23 5 .i64 .i64 Tryd.underlying23 Wi.infoByte1 .u8 A0 c0 l0 28 (28 + r5) 28 (28 + n5) rfl (by rw [hn5]; rfl) (by omega) (by rw [HN.out]; omega) (by rw [HN.out]; exact hc0)
      rw [HN.out] at hs1
      rw [show 28 + n5 - 28 = n5 by omega] at hs1 hln hC1
      have HLN := Aside0.mk hln
      have HCU := Aside0.mk (hC1 w4 (Kd.C_below HR0.out HB4.out))
      have HN5 := Aside0.mk hn5
      have H28 := Aside0.mk h28n
      clear hln hC1 hn5 h28n
      go_wp2_with fail
      have HF : Aside0 (Calls Tryd.prog 41 #[.slice A1 n5 (c0 - 28)] w4 fun e w' => ∃ v, e = .returned v ∧ Kd.R (Kd.int .u8) 5 w' w4.heap.size (fun _ => True) v r6 ∧ Below w4.heap.size w4 w') := ⟨by
       have h28 := H28.out
       have := clone_.calls A1 (c0 - 28) ((l0.drop 28).take n5) r6 w4 (by rw [HLN.out]; exact HCU.out) (by rw [HLN.out]; omega) (by unfold clone_.f; rw [if_pos (by rw [HLN.out]; omega), HR6.out])
       rw [HLN.out] at this
       exact this⟩
      refine HF.out.mono ?_
      rintro e w5 ⟨v5, rfl, rv, bv⟩
      obtain ⟨A5, c5', rfl⟩ := Kd.R_slice rv
      obtain ⟨n6, HN6⟩ : ∃ n, Aside0 (r6.length = n) := ⟨_, ⟨rfl⟩⟩
      rw [HN6.out] at rv ⊢
      have HV5 := Aside0.mk rv
      have HX5 := Aside0.mk (HX4.out.below_ bv)
      have HZ5 := Aside0.mk (HZ4.out.below_ bv)
      have HB5 := Aside0.mk (below_then HB4.out HB4.out.size bv)
      have HSL := Aside0.mk Wi.infoSl
      clear rv bv HF HX4 HZ4 cK c5 hs1
      go_wp2_with (first
       | (refine Wk.store rfl rfl 23 (.tmp 73) (.tmp 72) rfl G 5 (.slice A5 n6 c5') [.slice A5 n6 c5'] rfl rfl rfl 61 _ HX5.out HSL.out (Nat.le_of_ble_eq_true rfl) rfl ?_; intro w6 hX hO; have HX6 := Aside0.mk (show Wk.Blk w6 G 61 (Wi.rqc r1 1 r3 r4 r5 (.slice A5 n6 c5')) from hX); have HO6 := Aside0.mk hO; have HZ6 := Aside0.mk (HZ5.out.only hO (Nat.ne_of_lt HG2.out)); clear hX hO)
       | refine Wk.load rfl 61 (.tmp 8) rfl (.agg (Wi.rqc r1 1 r3 r4 r5 (.slice A5 n6 c5')).toArray) (.pointer (some ⟨G, 0, none⟩)) rfl (Wk.run_load_blk 61 G 0 _ _ HX6.out rfl Tryd.underlying61 rfl HSZ.out) ?_
       | (refine Wk.store_all rfl rfl 61 (.tmp 2) (.tmp 74) rfl w.heap.size (Wi.rqc r1 1 r3 r4 r5 (.slice A5 n6 c5')) rfl rfl 61 _ HZ6.out HSZ.out rfl rfl ?_; intro w7 hX hO; have HX := Aside0.mk hX; have HO := Aside0.mk hO; clear hX hO))
      refine bodyPost_ret (Wk.res_ctt rfl _ w.heap.size 61 _ _ rfl HX.out Tryd.underlying61 rfl HSZ.out) rfl ?_
      have hne : ∀ q, q ∈ 5 :: (Kd.int .u8).E → q ≠ 61 := by decide
      have hB6 := Wk.Only.below HB5.out HO6.out (Nat.le_of_lt HG2.out)
      exact ⟨_, rfl, Kd.R_lower (Wk.R_only (Wk.R_only HV5.out HX5.out hne HO6.out) HZ6.out hne HO.out) HB4.out.size, Wk.Only.below hB6 HO.out (Nat.le_refl _)⟩
   ·have tk : (x2 == 1) = false := by simpa using hk
    have HRR := HXE.out
    rw [if_neg (by simp), if_neg hk, HRES.out] at HRR
    obtain ⟨rfl, rfl, rfl, rfl, rfl, rfl, rfl, rfl⟩ : r1 = x1 ∧ r2 = x2 ∧ r3 = x3 ∧ r4 = x4 ∧ r5 = x5 ∧ r6 = [] ∧ r7 = 28 ∧ r8 = 0 := by simpa using HRR
    clear HRR HXE HRES hk
    go_wp2_with (first
     | refine Wk.load rfl 61 (.tmp 8) rfl (.agg (Wi.rqc r1 r2 r3 r4 r5 (.slice none 0 0)).toArray) (.pointer (some ⟨G, 0, none⟩)) rfl (Wk.run_load_blk 61 G 0 _ _ HX4.out rfl Tryd.underlying61 rfl HSZ.out) ?_
     | (refine Wk.store_all rfl rfl 61 (.tmp 2) (.tmp 74) rfl w.heap.size (Wi.rqc r1 r2 r3 r4 r5 (.slice none 0 0)) rfl rfl 61 _ HZ4.out HSZ.out rfl rfl ?_; intro w5 hX hO; have HX := Aside0.mk hX; have HO := Aside0.mk hO; clear hX hO))
    refine bodyPost_ret (Wk.res_ctt rfl _ w.heap.size 61 _ _ rfl HX.out Tryd.underlying61 rfl HSZ.out) rfl ?_
    exact ⟨_, rfl, Kd.R_nil _ _ _ _ _, Wk.Only.below HB4.out HO.out (Nat.le_refl _)⟩
  ·have hb0 : (x0 != 627086611) = true := by simpa using hx0
   have HR81 := HXE.out
   rw [if_pos hx0, HRES.out] at HR81
   obtain ⟨rfl, rfl, rfl, rfl, rfl, rfl, rfl, rfl⟩ : r1 = 0 ∧ r2 = 0 ∧ r3 = 0 ∧ r4 = 0 ∧ r5 = 0 ∧ r6 = [] ∧ r7 = 0 ∧ r8 = 81 := by simpa using HR81
   clear HRES HR81 HXE hx0
   go_wp2_with (refine Wk.store_all rfl rfl 61 (.tmp 2) (.tmp 30) rfl w.heap.size (Wi.rqc 0 0 0 0 0 (.slice none 0 0)) rfl rfl 61 _ HZ2.out HSZ.out rfl rfl ?_; intro w3 hX hO; have HX := Aside0.mk hX; have HO := Aside0.mk hO; clear hX hO)
   refine bodyPost_ret (Wk.res_ctt rfl _ w.heap.size 61 _ _ rfl HX.out Tryd.underlying61 rfl HSZ.out) rfl ?_
   exact ⟨_, rfl, Kd.R_nil _ _ _ _ _, Wk.Only.below HB2.out HO.out (Nat.le_refl _)⟩
end Go.Proofs.YtgljicdpcapgnaaDoor
set_option linter.unusedVariables false
set_option linter.unusedSimpArgs false
namespace Go.Proofs.YtgljicdpcapgnaaDoor.Wi
open Go.RowKit Go.Proofs.YtgljicdpcapgnaaDoor Go.Proofs.YtgljicdpcapgnaaDoor.PBase Go.Proofs.YtgljicdpcapgnaaDoorW.PrintWords Go.Proofs.YtgljicdpcapgnaaDoorW.PrintLast Go.Proofs.YtgljicdpcapgnaaDoorW.PrintMore
theorem ql1 (x0 x1 : List Int) (i : Nat) (hi : i < x1.length) (hl : x1.length ≤ 1000000) : ∀ (n : Nat), n ≤ 8 → ∀ (K : Nat) (acc : List Int), acc.length + n ≤ 100000000 →
    coamingref06_Pack.l1 (K + n + 1) x0 x1 acc i ((n : Int) - 1) = coamingref06_Pack.l0 K x0 x1 (acc ++ be (rd x1 i) n) (i + 1) := by
  intro n
  induction n with
  | zero =>
    intro _ K acc _
    rw [coamingref06_Pack.l1, if_neg (by omega), be, List.append_nil, w64 _ (by omega) (by omega)]
  | succ n ih =>
    intro hn K acc ha
    rw [coamingref06_Pack.l1, if_pos (by omega), if_pos (by omega), if_pos (by omega)]
    have e : wrap64 (8 * (((n + 1 : Nat) : Int) - 1)) = 8 * (n : Int) := by rw [w64 _ (by omega) (by omega)]; omega
    have e2 : wrap64 (((n + 1 : Nat) : Int) - 1 - 1) = (n : Int) - 1 := by rw [w64 _ (by omega) (by omega)]; omega
    rw [e, e2, Bt.wraps_u64 _ (by omega) (by omega), if_pos (by omega), if_pos (by omega), shr_be _ _ (by omega)]
    rw [show K + (n + 1) = K + n + 1 by omega, ih (by omega) K _ (by simp; omega), be, List.append_assoc]
    rfl
theorem ql0 (x0 x1 : List Int) (m : Nat) (hm : m = min x0.length x1.length) (h0 : x0.length ≤ 1000000) (h1 : x1.length ≤ 1000000) : ∀ (d i : Nat), i + d = m → ∀ (F : Nat) (acc : List Int), 11 * d + 2 ≤ F → acc.length + 8 * d ≤ 10000000 →
    coamingref06_Pack.l0 F x0 x1 acc i = some (acc ++ packs (x0.drop i) (x1.drop i)) := by
  intro d
  induction d with
  | zero =>
    intro i e F acc hF _
    obtain ⟨F, rfl⟩ : ∃ G, F = G + 2 := ⟨F - 2, by omega⟩
    have : packs (x0.drop i) (x1.drop i) = [] := by
      by_cases c : x0.length ≤ i
      · rw [List.drop_eq_nil_of_le c]; rfl
      · rw [show x1.drop i = [] from List.drop_eq_nil_of_le (by omega)]
        cases x0.drop i <;> rfl
    rw [this, List.append_nil, coamingref06_Pack.l0]
    by_cases c : (i : Int) < (x0.length : Int)
    · rw [if_pos c, coamingref06_Pack.j1, if_neg (by simp; omega)]
    · rw [if_neg c, coamingref06_Pack.j1, if_neg (by simp)]
  | succ d ih =>
    intro i e F acc hF ha
    obtain ⟨F, rfl⟩ : ∃ G, F = G + 2 := ⟨F - 2, by omega⟩
    have hw := wd_range (rd x0 i)
    rw [coamingref06_Pack.l0, if_pos (by omega), coamingref06_Pack.j1, if_pos (by simp; omega), if_pos (by omega), if_pos (by omega), Width_f, Option.bind_some, w64 _ (by omega) (by omega)]
    have hF' : F = (F - wd (rd x0 i) - 1) + wd (rd x0 i) + 1 := by omega
    have hbl : ∀ v n, (be v n).length = n := by intro v n; induction n with | zero => rfl | succ n ihn => simp [be, ihn]
    rw [hF', ql1 x0 x1 i (by omega) h1 _ hw.2 _ _ (by omega)]
    have := ih (i + 1) (by omega) (F - wd (rd x0 i) - 1) (acc ++ be (rd x1 i) (wd (rd x0 i))) (by omega) (by rw [List.length_append, hbl]; omega)
    rw [show ((i : Int) + 1) = ((i + 1 : Nat) : Int) by omega, this, rd_drop x0 i (by omega), rd_drop x1 i (by omega), packs, List.append_assoc]
theorem rpack_is (x0 x1 : List Int) (h0 : x0.length ≤ 100000) (h1 : x1.length ≤ 100000) (K : Nat) (hK : 11 * x0.length + 2 ≤ K) : coamingref06_Pack.f K x0 x1 = some (packs x0 x1) := by
  unfold coamingref06_Pack.f
  have := ql0 x0 x1 _ rfl (by omega) (by omega) (min x0.length x1.length) 0 (by omega) K [] (by omega) (by simp; omega)
  simpa using this
end Go.Proofs.YtgljicdpcapgnaaDoor.Wi
set_option linter.unusedVariables false
set_option linter.unusedSimpArgs false
namespace Go.Proofs.YtgljicdpcapgnaaDoor.Wi
open Go.RowKit Go.Proofs.YtgljicdpcapgnaaDoor Go.Proofs.YtgljicdpcapgnaaDoor.PBase Go.Proofs.YtgljicdpcapgnaaDoorW.PrintWords Go.Proofs.YtgljicdpcapgnaaDoorW.PrintLast Go.Proofs.YtgljicdpcapgnaaDoorW.PrintMore
theorem next_is (l : List Int) (h : l.length ≤ 1000000) (hb : Bytes l) : req_Next.f l = some (nextOf l) := by unfold req_Next.f; rw [if_pos ⟨by omega, hb⟩]
def hd (fl kd ck off n : Int) : List Int := packs [4, 2, 2, 8, 8, 4] [627086611, fl, kd, ck, off, n]
def rqb (fl kd ck off len : Int) (data : List Int) : List Int := if kd = 1 then hd fl kd ck off data.length ++ data else hd fl kd ck off len
theorem hd_eq (fl kd ck off n : Int) : hd fl kd ck off n = be 627086611 4 ++ (be fl 2 ++ (be kd 2 ++ (be ck 8 ++ (be off 8 ++ be n 4)))) := by
  simp [hd, packs, show wd 4 = 4 from rfl, show wd 2 = 2 from rfl, show wd 8 = 8 from rfl]
theorem hd_len (fl kd ck off n : Int) : (hd fl kd ck off n).length = 28 := by rw [hd_eq]; simp [be_len]
theorem hd_bytes (fl kd ck off n : Int) : Bytes (hd fl kd ck off n) := packs_bytes _ _
theorem bytes_app {a b : List Int} (ha : Bytes a) (hb : Bytes b) : Bytes (a ++ b) := fun x hx => by
  rcases List.mem_append.1 hx with h | h
  · exact ha x h
  · exact hb x h
theorem rqb_bytes (fl kd ck off len : Int) (data : List Int) (h : Bytes data) : Bytes (rqb fl kd ck off len data) := by
  unfold rqb
  split
  · exact bytes_app (hd_bytes _ _ _ _ _) h
  · exact hd_bytes _ _ _ _ _
theorem rwrite_is (K : Nat) (hK : 1000 ≤ K) (fl kd ck off len : Int) (data : List Int) (h0 : 0 ≤ fl ∧ fl < 65536) (h1 : 0 ≤ kd ∧ kd < 65536) (h2 : 0 ≤ len ∧ len < 4294967296) (hd' : data.length ≤ 100000) : coamingref08_Write.f K fl kd ck off len data = some (rqb fl kd ck off len data) := by
  unfold coamingref08_Write.f rqb
  rw [IntWalk.u64_in fl (by omega), IntWalk.u64_in kd (by omega), IntWalk.u64_in len (by omega), IntWalk.u64_in (data.length : Int) (by omega)]
  by_cases h : kd = 1
  · rw [if_pos h, if_pos h, rpack_is _ _ (by decide) (by simp) K (by simp; omega), Option.bind_some]
    have := hd_len fl kd ck off data.length
    unfold hd at this
    rw [if_pos (by rw [this]; omega)]
    rfl
  · rw [if_neg h, if_neg h, rpack_is _ _ (by decide) (by simp) K (by simp; omega), Option.bind_some]
    rfl
theorem of_wf16 {n : Int} (h : (Lit.int .u16 n).wf = true) : 0 ≤ n ∧ n < 65536 := by
  simp [Lit.wf, IntKind.min, IntKind.max, IntKind.signed, IntKind.bits] at h
  omega
theorem of_wf32' {n : Int} (h : (Lit.int .u32 n).wf = true) : 0 ≤ n ∧ n < 4294967296 := by
  simp [Lit.wf, IntKind.min, IntKind.max, IntKind.signed, IntKind.bits] at h
  omega
theorem of_wf64 {n : Int} (h : (Lit.int .u64 n).wf = true) : 0 ≤ n ∧ n < 18446744073709551616 := by
  simp [Lit.wf, IntKind.min, IntKind.max, IntKind.signed, IntKind.bits] at h
  omega
theorem rq_hd (fl kd ck off n : Int) (more : List Int) (h1 : 0 ≤ fl ∧ fl < 65536) (h2 : 0 ≤ kd ∧ kd < 65536) (h3 : 0 ≤ ck ∧ ck < 18446744073709551616) (h4 : 0 ≤ off ∧ off < 18446744073709551616) (h5 : 0 ≤ n ∧ n < 4294967296) :
    rq0 (hd fl kd ck off n ++ more) = 627086611 ∧ rq1 (hd fl kd ck off n ++ more) = fl ∧ rq2 (hd fl kd ck off n ++ more) = kd ∧ rq3 (hd fl kd ck off n ++ more) = ck ∧ rq4 (hd fl kd ck off n ++ more) = off ∧ rq5 (hd fl kd ck off n ++ more) = n ∧ (hd fl kd ck off n ++ more).drop 28 = more := by
  have e := takes_packs [4, 2, 2, 8, 8, 4] [627086611, fl, kd, ck, off, n] more [] (by simp) (by simp; omega)
  have e2 := takes6 (hd fl kd ck off n ++ more)
  rw [if_neg (by rw [List.length_append, hd_len]; omega)] at e2
  unfold hd at e2 ⊢
  rw [e2] at e
  have e3 : cuts [4, 2, 2, 8, 8, 4] [627086611, fl, kd, ck, off, n] = [627086611, fl, kd, ck, off, n] := by
    simp only [cuts, show wd 4 = 4 from rfl, show wd 2 = 2 from rfl, show wd 8 = 8 from rfl]
    rw [show (627086611 : Int) % 256 ^ 4 = 627086611 by decide, show fl % 256 ^ 2 = fl from Int.emod_eq_of_lt h1.1 (by simpa using h1.2), show kd % 256 ^ 2 = kd from Int.emod_eq_of_lt h2.1 (by simpa using h2.2), show ck % 256 ^ 8 = ck from Int.emod_eq_of_lt h3.1 (by simpa using h3.2), show off % 256 ^ 8 = off from Int.emod_eq_of_lt h4.1 (by simpa using h4.2), show n % 256 ^ 4 = n from Int.emod_eq_of_lt h5.1 (by simpa using h5.2)]
  rw [e3] at e
  simp only [Prod.mk.injEq, List.nil_append, List.cons.injEq, and_true] at e
  obtain ⟨⟨a, b, c, d, e', f⟩, g⟩ := e
  exact ⟨a, b, c, d, e', f, g⟩
end Go.Proofs.YtgljicdpcapgnaaDoor.Wi
set_option linter.unusedVariables false
set_option linter.unusedSimpArgs false
namespace Go.Proofs.YtgljicdpcapgnaaDoor
open Go.RowKit Go.Proofs.YtgljicdpcapgnaaDoor Go.Proofs.YtgljicdpcapgnaaDoor.PBase Go.Proofs.YtgljicdpcapgnaaDoorW.PrintWords Go.Proofs.YtgljicdpcapgnaaDoorW.PrintLast Go.Proofs.YtgljicdpcapgnaaDoorW.PrintMore Go.Proofs.YtgljicdpcapgnaaDoor.Wi
namespace Rw
def rqc (x1 x2 x3 x4 x5 : Int) (v : Value) : List Value := [.int .u16 x1, .int .u16 x2, .int .u64 x3, .int .u64 x4, .int .u32 x5, v]
def zrq : List Value := rqc 0 0 0 0 0 (.slice none 0 0)
theorem size28 : (Tryd.prog.info? 61).map (·.size) = some 6 := by kernel_rfl
theorem infoByte : (Tryd.prog.info? 5).map (fun i => (i.zero, i.size, i.bytes)) = some (some (.int .u8 0), 1, 1) := by kernel_rfl
theorem infoByte1 : (Tryd.prog.info? 5).map (·.size) = some 1 := by kernel_rfl
def bs (r : Rq) : List Int := rqb r.1 r.2.1 r.2.2.1 r.2.2.2.1 r.2.2.2.2.1 r.2.2.2.2.2
def wl (r : Rq) : Int := if r.2.1 = 1 then r.2.2.2.2.2.length else r.2.2.2.2.1
def wd (r : Rq) : List Int := if r.2.1 = 1 then r.2.2.2.2.2 else []
theorem bytes_of {l : List Int} (h : ∀ x ∈ l, (Lit.int .u8 x).wf = true) : Bytes l := fun x hx => by
  have := h x hx
  simp [Lit.wf, IntKind.min, IntKind.max, IntKind.signed, IntKind.bits] at this
  omega
theorem bs_bytes {r : Rq} (h : RqWf r) : Bytes (bs r) := rqb_bytes _ _ _ _ _ _ (bytes_of h.2.2.2.2.2.2)
theorem bs_len (r : Rq) : (bs r).length = if r.2.1 = 1 then 28 + r.2.2.2.2.2.length else 28 := by
  unfold bs rqb
  split
  · rw [List.length_append, hd_len]
  · exact hd_len _ _ _ _ _
theorem next_whole (r : Rq) (h : RqWf r) (hd' : r.2.2.2.2.2.length ≤ 65536) (more : List Int) : nextOf (bs r ++ more) = (r.1, r.2.1, r.2.2.1, r.2.2.2.1, wl r, wd r, ((bs r).length : Int), 0) := by
  obtain ⟨fl, kd, ck, off, len, data⟩ := r
  obtain ⟨h0, h1, h2, h3, h4, _⟩ := h
  change data.length ≤ 65536 at hd'
  have b0 := of_wf16 h0
  have b1 := of_wf16 h1
  have b2 := of_wf64 h2
  have b3 := of_wf64 h3
  have b4 := of_wf32' h4
  unfold nextOf
  have hlen := bs_len (fl, kd, ck, off, len, data)
  by_cases hk : kd = 1
  · have e : bs (fl, kd, ck, off, len, data) ++ more = hd fl kd ck off data.length ++ (data ++ more) := by
      unfold bs rqb
      rw [if_pos hk, List.append_assoc]
    obtain ⟨q0, q1, q2, q3, q4, q5, q6⟩ := rq_hd fl kd ck off data.length (data ++ more) b0 b1 b2 b3 (by omega)
    have hl : (bs (fl, kd, ck, off, len, data)).length = 28 + data.length := by rw [hlen]; exact if_pos hk
    rw [← e] at q0 q1 q2 q3 q4 q5 q6
    rw [if_neg (by rw [List.length_append, hl]; omega), if_neg (by rw [q0]; decide), if_pos (by rw [q2]; exact hk), q5, if_neg (by omega), if_neg (by rw [List.length_append, hl]; omega), q1, q2, q3, q4, q6, Int.toNat_natCast, List.take_left, hl]
    unfold wl wd
    rw [if_pos hk, if_pos hk]
    simp
  · have e : bs (fl, kd, ck, off, len, data) ++ more = hd fl kd ck off len ++ more := by
      unfold bs rqb
      rw [if_neg hk]
    obtain ⟨q0, q1, q2, q3, q4, q5, q6⟩ := rq_hd fl kd ck off len more b0 b1 b2 b3 b4
    have hl : (bs (fl, kd, ck, off, len, data)).length = 28 := by rw [hlen]; exact if_neg hk
    rw [← e] at q0 q1 q2 q3 q4 q5 q6
    rw [if_neg (by rw [List.length_append, hl]; omega), if_neg (by rw [q0]; decide), if_neg (by rw [q2]; exact hk), q1, q2, q3, q4, q5, hl]
    unfold wl wd
    rw [if_neg hk, if_neg hk]
    rfl
end Rw
theorem next_.calls {w : World} {A : Option Addr} {c : Nat} {l : List Int} {r1 r2 r3 r4 r5 r7 r8 : Int} {r6 : List Int} (hC : Kd.C (Kd.int .u8) w A l.length l) (hc : l.length ≤ c) (hl : l.length ≤ 1000000) (hb : Bytes l) (hn : nextOf l = (r1, r2, r3, r4, r5, r6, r7, r8)) : Calls Tryd.prog 70 #[.slice A l.length c] w fun e w' => ∃ A c, e = .returned (.tuple #[.agg (Rw.rqc r1 r2 r3 r4 r5 (.slice A r6.length c)).toArray, .int .i64 r7, .int .u16 r8]) ∧ Kd.R (Kd.int .u8) 5 w' w.heap.size (fun _ => True) (.slice A r6.length c) r6 ∧ Below w.heap.size w w' := by
  refine (req_Next.calls A c l r1 r2 r3 r4 r5 r6 r7 r8 w hC hc (by rw [next_is l hl hb, hn])).mono ?_
  rintro e w' ⟨v, rfl, hR, hb⟩
  obtain ⟨A', c', rfl⟩ := Kd.R_slice hR
  exact ⟨A', c', rfl, hR, hb⟩
end Go.Proofs.YtgljicdpcapgnaaDoor
set_option linter.unusedVariables false
set_option linter.unusedSimpArgs false
namespace Go.Proofs.YtgljicdpcapgnaaDoor
open Go.RowKit Go.Proofs.YtgljicdpcapgnaaDoor.PBase Go.Proofs.YtgljicdpcapgnaaDoorW.PrintWords Go.Proofs.YtgljicdpcapgnaaDoorW.PrintLast Go.Proofs.YtgljicdpcapgnaaDoorW.PrintMore
namespace Cn
theorem reqnext_ {A : Option Addr} {n c : Nat} {l : List Int} {W : World} {f k ck off len m e : Int} {d : List Int} (h : Kd.C (Kd.int .u8) W A l.length l) (hn : l.length = n) (hc : n ≤ c) (hl : n ≤ 1000000) (hb : Sh.Bytes l) (hf : Wi.nextOf l = (f, k, ck, off, len, d, m, e)) :
    Calls Tryd.prog 70 #[.slice A n c] W fun e' w' => ∃ A' c', e' = .returned (.tuple #[.agg #[.int .u16 f, .int .u16 k, .int .u64 ck, .int .u64 off, .int .u32 len, .slice A' d.length c'], .int .i64 m, .int .u16 e]) ∧ Kd.R (Kd.int .u8) 5 w' W.heap.size (fun _ => True) (.slice A' d.length c') d ∧ Below W.heap.size W w' := by
  subst hn
  exact next_.calls h hc hl hb hf
theorem refused_ (W : World) (e : Int) : Calls Tryd.prog 83 #[.int .u16 e] W fun e' w' => e' = .returned (.int .u32 (refused e)) ∧ Below W.heap.size W w' :=
  (conn_refused.calls e (refused e) W (by
    unfold conn_refused.f refused
    by_cases h : e = 74
    · rw [if_pos h, if_pos h]
    · rw [if_neg h, if_neg h]
      by_cases h1 : e = 50
      · rw [if_pos h1, if_pos (Or.inl h1)]
      · rw [if_neg h1]
        by_cases h2 : e = 51
        · rw [if_pos h2, if_pos (Or.inr h2)]
        · rw [if_neg h2, if_neg (fun h => h.elim h1 h2)])).mono (fun _ _ ⟨a, h⟩ => ⟨a, by obtain ⟨m, hm⟩ := h.out; rw [hm]; exact pw_below_drewN (Below.refl _ _) m⟩)
theorem index_l (l : List Int) (x : Int) (hl : l.length ≤ 1000000) : ∀ (d i k : Nat), i + d = l.length → d < k → ∃ r, slices_Index_uint16_uint16.l0 k l x (l.length : Int) i = some r ∧ (0 ≤ r ↔ x ∈ l.drop i)
  | 0, i, k, hi, hk => by
    obtain ⟨k, rfl⟩ : ∃ m, k = m + 1 := ⟨k - 1, by omega⟩
    refine ⟨-1, by rw [slices_Index_uint16_uint16.l0, if_neg (by omega)], ?_⟩
    rw [List.drop_of_length_le (by omega)]
    simp
  | d + 1, i, k, hi, hk => by
    obtain ⟨k, rfl⟩ : ∃ m, k = m + 1 := ⟨k - 1, by omega⟩
    have hlt : i < l.length := by omega
    have e1 : wrap64 ((i : Int) + 1) = ((i + 1 : Nat) : Int) := by unfold wrap64; omega
    obtain ⟨hr, hd⟩ := Ps.rd_drop l i hlt
    rw [slices_Index_uint16_uint16.l0, e1, hr, hd]
    clear e1
    rw [if_pos (by omega), if_pos (by omega), if_pos (by omega)]
    by_cases h : x = l[i]
    · rw [if_pos h]
      exact ⟨_, rfl, by rw [← h]; simp⟩
    · rw [if_neg h]
      obtain ⟨r, h1, h2⟩ := index_l l x hl d (i + 1) k (by omega) (by omega)
      refine ⟨r, h1, h2.trans ?_⟩
      rw [List.mem_cons]
      exact ⟨Or.inr, fun h' => h'.resolve_left h⟩
theorem cont16_ {A : Option Addr} {n c : Nat} {l : List Int} {x : Int} {W : World} (h : Kd.C (Kd.int .u16) W A l.length l) (hn : l.length = n) (hc : n ≤ c) (hl : n ≤ 1000000) {b : Bool} (hb : decide (x ∈ l) = b) :
    Calls Tryd.prog 85 #[.slice A n c, .int .u16 x] W fun e' w' => e' = .returned (.bool b) ∧ Below W.heap.size W w' := by
  subst hn; subst hb
  refine (slices_Contains_uint16_uint16.calls (l.length + 1) A c l x (decide (x ∈ l)) W h hc ?_).mono (fun _ _ ⟨a, h⟩ => ⟨a, by obtain ⟨m, hm⟩ := h.out; rw [hm]; exact pw_below_drewN (Below.refl _ _) m⟩)
  unfold slices_Contains_uint16_uint16.f slices_Index_uint16_uint16.f
  obtain ⟨r, h1, h2⟩ := index_l l x hl l.length 0 (l.length + 1) (by omega) (by omega)
  change slices_Index_uint16_uint16.l0 _ _ _ _ ((0 : Nat) : Int) = _ at h1
  rw [show (0 : Int) = ((0 : Nat) : Int) from rfl, h1, Option.bind_some]
  rw [List.drop_zero] at h2
  congr 1
  rw [decide_eq_decide]
  exact h2
end Cn
end Go.Proofs.YtgljicdpcapgnaaDoor
set_option linter.unusedVariables false
set_option linter.unusedSimpArgs false
namespace Go.Proofs.YtgljicdpcapgnaaDoor
open Go.RowKit Go.Proofs.YtgljicdpcapgnaaDoor.PBase Go.Proofs.YtgljicdpcapgnaaDoorW.PrintWords Go.Proofs.YtgljicdpcapgnaaDoorW.PrintLast Go.Proofs.YtgljicdpcapgnaaDoorW.PrintMore
namespace Cn
theorem size1 : (Tryd.prog.info? 5).map (·.size) = some 1 := by kernel_rfl
theorem sizeB : (Tryd.prog.info? 4).map (·.size) = some 1 := by kernel_rfl
theorem sizeEx : (Tryd.prog.info? 44).map (·.size) = some 3 := by kernel_rfl
theorem infoByte : (Tryd.prog.info? 5).map (fun i => (i.zero, i.size, i.bytes)) = some (some (.int .u8 0), 1, 1) := by kernel_rfl
def exc (x : Ex) : List Value := [.int .u32 x.1, .int .u64 x.2.1, .bool x.2.2]
end Cn
set_option maxHeartbeats 2000000 in
set_option maxRecDepth 100000 in
theorem close_.calls {W : World} {ok : Nat → Prop} {p tb : Nat} {c : Cn.St} (h : Cn.Cn W ok p tb c) : Calls Tryd.prog 26 #[.pointer (some ⟨p, 0, none⟩)] W fun e w' => e = .returned (.tuple #[]) ∧ Cn.Cn w' ok p tb (Cn.close c) ∧ Cn.Fr W w' ok := by
 obtain ⟨pp, vk, vs, hv⟩ := h
 have HV := Aside0.mk hv
 have HS1 := Aside0.mk Cn.size1
 have HS2 := Aside0.mk Pi.size31
 clear hv
 go_enter Tryd.func26, Tryd.ntmps26
 go_wp2_with (first
  | (refine Wk.store rfl rfl 5 (.tmp 5) (.const (.int .u8 4)) rfl p 5 (.int .u8 4) [.int .u8 4] rfl rfl rfl 72 _ HV.out.blk HS1.out (Nat.le_of_ble_eq_true rfl) rfl ?_; intro w1 hX hO; have HO1 := Aside0.mk hO; have HV1 : Aside0 (Cn.Cv w1 ok p tb pp vk vs { c with st := 4 }) := ⟨HV.out.turn hO hX rfl rfl rfl⟩; clear hX hO)
  | (refine Wk.store rfl rfl 23 (.tmp 7) (.const (.slice none 0 0)) rfl p 3 (.slice none 0 0) [.slice none 0 0] rfl rfl rfl 72 _ HV1.out.blk HS2.out (Nat.le_of_ble_eq_true rfl) rfl ?_; intro w2 hX hO; have HO2 := Aside0.mk hO; have HV2 : Aside0 (Cn.Cv w2 ok p tb pp (.slice none 0 0) vs { c with st := 4, kept := [] }) := ⟨HV1.out.keeps (W1 := w1) (Kd.R_nil _ _ _ _ _) (World.grownBy.refl _ _) (fun b hb => by cases hb) hO hX rfl rfl rfl⟩; have k0 := HV2.out.blk.at_ 0 rfl; clear hX hO))
 refine (clear_.calls HV2.out.pipe (fun k => ok k ∧ some k ≠ (Value.slice none 0 0).ownBlock ∧ some k ≠ vs.ownBlock)).mono ?_
 rintro e w3 ⟨rfl, hp3, ho3⟩
 have HV3 : Aside0 (Cn.Cv w3 ok p tb pp (.slice none 0 0) vs (Cn.close c)) := ⟨HV2.out.piped hp3 ho3.grown ⟨rfl, rfl, rfl, rfl⟩ rfl rfl rfl⟩
 have HF : Aside0 (Cn.Fr W w3 ok) := ⟨((Cn.Fr.of_only HO1.out HV.out.okp).trans (Cn.Fr.of_only HO2.out HV.out.okp)).trans (Cn.Fr.of_only ho3 HV.out.okq)⟩
 clear hp3 ho3
 go_wp2_with fail
 go_end0
 exact ⟨rfl, ⟨pp, _, vs, HV3.out⟩, HF.out⟩
set_option maxHeartbeats 1000000 in
set_option maxRecDepth 100000 in
theorem state_.calls {W : World} {ok : Nat → Prop} {p tb : Nat} {c : Cn.St} (h : Cn.Cn W ok p tb c) : Calls Tryd.prog 13 #[.pointer (some ⟨p, 0, none⟩)] W fun e w' => e = .returned (.int .u8 c.st) ∧ Below W.heap.size W w' := by
 obtain ⟨pp, vk, vs, hv⟩ := h
 have k5 := hv.blk.at_ 5 rfl
 have HB : Aside0 (Below W.heap.size W W) := ⟨Below.refl _ _⟩
 clear hv
 go_enter Tryd.func13, Tryd.ntmps13
 go_wp2_with fail
 go_ret
 exact ⟨rfl, HB.out⟩
set_option maxHeartbeats 1000000 in
set_option maxRecDepth 100000 in
theorem export_.calls {W : World} {ok : Nat → Prop} {p tb : Nat} {c : Cn.St} (h : Cn.Cn W ok p tb c) : Calls Tryd.prog 15 #[.pointer (some ⟨p, 0, none⟩)] W fun e w' => e = .returned (.agg (Cn.exc c.ex).toArray) ∧ Below W.heap.size W w' := by
 obtain ⟨pp, vk, vs, hv⟩ := h
 have HV := Aside0.mk hv
 have HSE := Aside0.mk Cn.sizeEx
 have HA : Aside0 (Below W.heap.size W (W.alloc (.cells (Cn.exc Cn.ex0).toArray 44))) := ⟨below_alloc (Below.refl _ _) _⟩
 have HX : Aside0 (Wk.Blk (W.alloc (.cells (Cn.exc Cn.ex0).toArray 44)) W.heap.size 44 (Cn.exc Cn.ex0)) := ⟨Wk.Blk.new W _ (Cn.exc Cn.ex0)⟩
 have HV1 := Aside0.mk (HV.out.below HA.out)
 clear hv
 go_enter Tryd.func15, Tryd.ntmps15
 go_wp2_with (first
  | refine Wk.load rfl 44 (.tmp 5) rfl (.agg (Cn.exc c.ex).toArray) (.pointer (some ⟨p, 6, none⟩)) rfl (Wk.run_load_blk 44 p 6 (Cn.exc c.ex) _ HV1.out.blk rfl Tryd.underlying44 rfl HSE.out) ?_
  | (refine Wk.store_all rfl rfl 44 (.tmp 2) (.tmp 6) rfl W.heap.size (Cn.exc c.ex) rfl rfl 44 _ HX.out HSE.out rfl rfl ?_; intro w2 hX hO; have HX2 := Aside0.mk hX; have HO2 := Aside0.mk hO; clear hX hO))
 refine bodyPost_ret (Wk.res_c rfl _ W.heap.size 44 _ _ rfl HX2.out Tryd.underlying44 rfl HSE.out) rfl ?_
 exact ⟨rfl, Wk.Only.below HA.out HO2.out (Nat.le_refl _)⟩
set_option maxHeartbeats 1000000 in
set_option maxRecDepth 100000 in
theorem waits_.calls {W : World} {ok : Nat → Prop} {p tb : Nat} {c : Cn.St} (h : Cn.Cn W ok p tb c) (hd : ∀ r ∈ c.rs, r.2.2.2.2.2.length < 140737488355328) : Calls Tryd.prog 18 #[.pointer (some ⟨p, 0, none⟩)] W fun e w' => ∃ A n, e = .returned (.slice A c.rs.length n) ∧ kRq.R 61 w' W.heap.size (fun _ => True) (.slice A c.rs.length n) c.rs ∧ Below W.heap.size W w' := by
 obtain ⟨pp, vk, vs, hv⟩ := h
 have HV := Aside0.mk hv
 have HD := Aside0.mk hd
 have k0 := hv.blk.at_ 0 rfl
 clear hv hd
 go_enter Tryd.func18, Tryd.ntmps18
 go_wp2_with fail
 refine (all_.calls HV.out.pipe HD.out).mono ?_
 rintro e w2 ⟨v, rfl, hR, hb⟩
 obtain ⟨A, n, rfl⟩ := Kd.R_slice hR
 have HR := Aside0.mk hR
 have HB := Aside0.mk hb
 clear hR hb
 go_wp2_with fail
 go_ret
 exact ⟨A, n, rfl, HR.out, HB.out⟩
set_option maxHeartbeats 1000000 in
set_option maxRecDepth 100000 in
theorem out_.calls {W : World} {ok : Nat → Prop} {p tb : Nat} {c : Cn.St} (h : Cn.Cn W ok p tb c) : Calls Tryd.prog 12 #[.pointer (some ⟨p, 0, none⟩)] W fun e w' => ∃ A n, e = .returned (.slice A c.send.length n) ∧ Kd.R (Kd.int .u8) 5 w' 0 ok (.slice A c.send.length n) c.send ∧ Cn.Cn w' ok p tb (Cn.out c) ∧ Cn.Fr W w' ok := by
 obtain ⟨pp, vk, vs, hv⟩ := h
 obtain ⟨A, n, rfl⟩ := Kd.R_slice hv.send
 have HV := Aside0.mk hv
 obtain ⟨m, HM⟩ : ∃ m, Aside0 (c.send.length = m) := ⟨_, ⟨rfl⟩⟩
 have k4 := hv.blk.at_ 4 rfl
 rw [HM.out] at k4 ⊢
 have HS2 := Aside0.mk Pi.size31
 clear hv
 go_enter Tryd.func12, Tryd.ntmps12
 go_wp2_with (refine Wk.store rfl rfl 23 (.tmp 10) (.const (.slice none 0 0)) rfl p 4 (.slice none 0 0) [.slice none 0 0] rfl rfl rfl 72 _ HV.out.blk HS2.out (Nat.le_of_ble_eq_true rfl) rfl ?_; intro w2 hX hO; have HO2 := Aside0.mk hO; have HV2 : Aside0 (Cn.Cv w2 ok p tb pp vk (.slice none 0 0) (Cn.out c)) := ⟨HV.out.sent (W1 := W) (Kd.R_nil _ _ _ _ _) (World.grownBy.refl _ _) (fun b hb => by cases hb) hO hX rfl rfl rfl⟩; clear hX hO k4)
 go_ret
 refine ⟨A, n, rfl, ?_, ⟨pp, vk, _, HV2.out⟩, Cn.Fr.of_only HO2.out HV.out.okp⟩
 have := Wk.R_only HV.out.send HV.out.blk Cn.ne_conn HO2.out
 rw [HM.out] at this
 exact Kd.R_mono this (fun k hk => hk.1)
end Go.Proofs.YtgljicdpcapgnaaDoor
set_option linter.unusedVariables false
set_option linter.unusedSimpArgs false
namespace Go.Proofs.YtgljicdpcapgnaaDoor
open Go.RowKit Go.Proofs.YtgljicdpcapgnaaDoor.PBase Go.Proofs.YtgljicdpcapgnaaDoorW.PrintWords Go.Proofs.YtgljicdpcapgnaaDoorW.PrintLast Go.Proofs.YtgljicdpcapgnaaDoorW.PrintMore
namespace Cn
theorem Pp_empty {W : World} {base base' g : Nat} {ok ok' : Nat → Prop} (h : Pi.Pp W base ok g []) (hb : base' ≤ g) : Pi.Pp W base' ok' g [] := by
  obtain ⟨cs, h1, h2, h3, h4, h5, h6⟩ := h.out
  exact ⟨cs, h1, hb, h3, h4, h5, Reps.none _ _⟩
theorem Cv.freshK {W : World} {ok : Nat → Prop} {p tb pp : Nat} {vk vs : Value} {c : St} (h : Cv W ok p tb pp vk vs c) (hf : ∀ k, W.heap.size ≤ k → ok k) : ∀ k, W.heap.size ≤ k → ok k ∧ some k ≠ vk.ownBlock := fun k hk => ⟨hf k hk, fun he => by have := ((Kd.R_bound h.kept).1 k he.symm).2.2.1; omega⟩
theorem Cv.freshS {W : World} {ok : Nat → Prop} {p tb pp : Nat} {vk vs : Value} {c : St} (h : Cv W ok p tb pp vk vs c) (hf : ∀ k, W.heap.size ≤ k → ok k) : ∀ k, W.heap.size ≤ k → ok k ∧ some k ≠ vs.ownBlock := fun k hk => ⟨hf k hk, fun he => by have := ((Kd.R_bound h.send).1 k he.symm).2.2.1; omega⟩
theorem Cv.freshP {W : World} {ok : Nat → Prop} {p tb pp : Nat} {vk vs : Value} {c : St} (h : Cv W ok p tb pp vk vs c) (hf : ∀ k, W.heap.size ≤ k → ok k) : ∀ k, W.heap.size ≤ k → ok k ∧ some k ≠ vk.ownBlock ∧ some k ≠ vs.ownBlock := fun k hk => ⟨hf k hk, (h.freshK hf k hk).2, (h.freshS hf k hk).2⟩
theorem Cv.okS {W : World} {ok : Nat → Prop} {p tb pp : Nat} {vk vs : Value} {c : St} (h : Cv W ok p tb pp vk vs c) : ∀ k, vs.ownBlock = some k → ok k := fun k hk => (h.send.1 k hk).1
theorem hat_of {v v1 : Value} {W : World} (h : v1.ownBlock = v.ownBlock ∨ ∃ b, v1.ownBlock = some b ∧ W.heap.size ≤ b) : ∀ b, v1.ownBlock = some b → v.ownBlock = some b ∨ W.heap.size ≤ b := fun b hb => by
  rcases h with h | ⟨b', h, hl⟩
  · exact .inl (h ▸ hb)
  · rw [h] at hb; cases hb; exact .inr hl
end Cn
set_option maxHeartbeats 2000000 in
set_option maxRecDepth 100000 in
theorem newconn_.calls (W : World) (tb : Nat) (b : Int) : Calls Tryd.prog 10 #[.pointer (some ⟨tb, 0, none⟩), .int .i64 b] W fun e w' => ∃ p, e = .returned (.pointer (some ⟨p, 0, none⟩)) ∧ Cn.Cn w' (fun k => W.heap.size ≤ k) p tb (Cn.new b) ∧ Below W.heap.size W w' := by
 go_enter Tryd.func10, Tryd.ntmps10
 go_wp2_with fail
 refine (pnew_.calls (fun _ => True) W).mono ?_
 rintro e w1 ⟨rfl, hp1, hb1⟩
 have HP1 := Aside0.mk hp1
 have HB1 := Aside0.mk hb1
 have HLT : Aside0 (W.heap.size < w1.heap.size) := ⟨hp1.lt⟩
 clear hp1 hb1
 go_wp2_with fail
 refine (Cn.hello_ w1).mono ?_
 rintro e w2 ⟨A2, c2, rfl, hR2, hb2⟩
 obtain ⟨m, HM⟩ : ∃ m, Aside0 (Cn.hello.length = m) := ⟨_, ⟨rfl⟩⟩
 rw [HM.out] at hR2 ⊢
 have HR2 := Aside0.mk hR2
 have HP2 := Aside0.mk (HP1.out.below hb2)
 have HB2 := Aside0.mk (below_then HB1.out HB1.out.size hb2)
 have HS2 : Aside0 (w1.heap.size ≤ w2.heap.size) := ⟨hb2.size⟩
 clear hR2 hb2 HP1
 have HA : Aside0 (Below w2.heap.size w2 (w2.alloc (.cells (Cn.cc W.heap.size tb b (.slice none 0 0) (.slice A2 m c2) 1 Cn.ex0 false).toArray 72))) := ⟨below_alloc (Below.refl _ _) _⟩
 have HX : Aside0 (Wk.Blk (w2.alloc (.cells (Cn.cc W.heap.size tb b (.slice none 0 0) (.slice A2 m c2) 1 Cn.ex0 false).toArray 72)) w2.heap.size 72 (Cn.cc W.heap.size tb b (.slice none 0 0) (.slice A2 m c2) 1 Cn.ex0 false)) := ⟨Wk.Blk.new w2 _ _⟩
 go_wp2_with fail
 go_ret
 refine ⟨w2.heap.size, rfl, ⟨W.heap.size, _, _, HX.out, ?_, Nat.le_refl _, Kd.R_nil _ _ _ _ _, ?_, ?_⟩, below_then HB2.out HB2.out.size HA.out⟩
 ·exact HB2.out.size
 ·have := Kd.R_bound (Kd.R_below HR2.out HA.out)
  exact Kd.R_lower (Kd.R_mono this (fun k hk => ⟨Nat.le_trans (Nat.le_of_lt HLT.out) hk.2.1, fun he => by cases he⟩)) (Nat.zero_le _)
 ·exact Cn.Pp_empty (HP2.out.below HA.out) (Nat.zero_le _)
set_option maxHeartbeats 4000000 in
set_option maxRecDepth 100000 in
theorem reply_.calls {W : World} {ok : Nat → Prop} {p tb : Nat} {c : Cn.St} (h : Cn.Cn W ok p tb c) (hf : ∀ k, W.heap.size ≤ k → ok k) {Ad A : Option Addr} {nd cd n cp : Nat} {o k : Int} {d : List Int} (ho : 0 ≤ o ∧ o < 4294967296) (hk : 0 ≤ k ∧ k < 4294967296) (hd : Kd.C (Kd.int .u8) W A d.length d) (hn : d.length = n) (hc : n ≤ cp) (hl : n ≤ 1000000) (hs : c.send.length ≤ 10000000000000) :
  Calls Tryd.prog 66 #[.pointer (some ⟨p, 0, none⟩), .agg #[.int .u32 o, .slice Ad nd cd], .int .u32 k, .slice A n cp] W fun e w' => e = .returned (.tuple #[]) ∧ Cn.Cn w' ok p tb (Cn.say c o k d) ∧ Cn.Fr W w' ok := by
 obtain ⟨pp, vk, vs, hv⟩ := h
 have HV := Aside0.mk hv
 have HF := Aside0.mk hf
 have HO := Aside0.mk ho
 have HK := Aside0.mk hk
 have HD := Aside0.mk hd
 have HN := Aside0.mk hn
 have HCP := Aside0.mk (And.intro hc hl)
 have HS := Aside0.mk hs
 have HS2 := Aside0.mk Pi.size31
 clear hv hf ho hk hd hn hc hl hs
 have HB1 : Aside0 (Below W.heap.size W (W.alloc (.cells #[.int .u32 o, .slice Ad nd cd] 113))) := ⟨below_alloc (Below.refl _ _) _⟩
 have HX1 : Aside0 (Wk.Blk (W.alloc (.cells #[.int .u32 o, .slice Ad nd cd] 113)) W.heap.size 113 [.int .u32 o, .slice Ad nd cd]) := ⟨Wk.Blk.new W _ [.int .u32 o, .slice Ad nd cd]⟩
 go_enter Tryd.func66, Tryd.ntmps66
 go_wp2_with fail
 generalize W.alloc (.cells #[.int .u32 o, .slice Ad nd cd] 113) = w1 at *
 have HV1 := Aside0.mk (HV.out.below HB1.out)
 refine wp_region_noPanic ?_
 refine Rg.s1 14 (fun w' => Below w1.heap.size w1 w') [10, 13] (Below.refl _ _).drew #[false, false, false, false, false, false, false, false, false, false, false, false, false, false] (fun hHeld => ?_)
 refine Rg.p1 0 (.some 8) ?_
 refine Rg.p1 1 (.some 9) ?_
 refine Rg.p1 2 (.some 10) ?_
 refine Rg.p1 3 (.some 11) ?_
 refine Rg.t1 4 (.some 12) hHeld ?_ (hy := by intro w' hS'; (have c1 := (HV1.out.below hS').blk.at_ 4 rfl; go_simp); first | done | with_reducible rfl)
 refine Rg.p1 5 (.some 13) ?_
 refine Rg.t1 6 (.some 14) hHeld ?_ (hy := by intro w' hS'; (have c1 := (HX1.out.below_ hS').at_ 0 rfl; go_simp); first | done | with_reducible rfl)
 refine Rg.p1 7 (.some 15) ?_
 refine Rg.p1 8 (.some 16) ?_
 refine Rg.o1 9 (.some 17) (fun K hK => ?_)
 refine call_ 79 #[.int .u32 o, .int .u32 k, .slice A n cp] (by rfl) rfl (by go_simp) ?_
 refine (Cn.rep_ HO.out HK.out (Kd.C_below HD.out (below_then HB1.out HB1.out.size hHeld)) HN.out HCP.out.1 HCP.out.2).mono ?_
 rintro e w2 ⟨A2, c2, rfl, hR2, hb2⟩
 have HR2 := Aside0.mk hR2
 have HB2 := Aside0.mk (below_then hHeld hHeld.size hb2)
 clear hR2 hb2
 refine ⟨_, rfl, ?_⟩
 refine hK.out _ _ HB2.out (fun hHeld => ?_)
 clear hK K
 refine Rg.n1 ?_
 have HV2 := Aside0.mk (HV1.out.below HB2.out)
 have HBW := Aside0.mk (below_then HB1.out HB1.out.size HB2.out)
 have HLR : Aside0 ((Cn.rep o k d).length ≤ 2000000) := ⟨by
  have := Cn.packs_len4 [8, 4, 4, 4] [1100100111001001, o, k, (d.length : Int)] (by simp)
  have := HN.out
  have := HCP.out
  unfold Cn.rep
  rw [List.length_append]
  omega⟩
 have HFS : Aside0 (∀ j, w2.heap.size ≤ j → ok j ∧ some j ≠ vk.ownBlock) := ⟨HV2.out.freshK (fun j hj => HF.out j (Nat.le_trans HBW.out.size hj))⟩
 refine Rg.l1 10 (.some 18) (fun K hK => ?_)
 refine Kd.R_append_rows_step (Kd.int .u8) (w0 := w2) (W := w2) 0 (by rfl) (.tmp 12) (.tmp 17) 23 5 (.int .u8 0) 1 rfl Tryd.underlying23 Cn.infoByte rfl (by decide) (by omega) vs c.send (Cn.rep o k d) A2 _ c2 (fun k => ok k ∧ some k ≠ vk.ownBlock) (fun _ => False) rfl rfl HV2.out.send (Kd.R_reads' HR2.out).2.2 (fun _ _ h => h) (fun _ h => h.elim) HFS.out (Below.refl _ _) (Nat.zero_le _) (by have := HS.out; have := HLR.out; omega) ?_
 intro v3 w3 hr3 _ hg3 hat3
 obtain ⟨A3, c3, hv3⟩ := Kd.R_slice hr3
 obtain ⟨L3, HL3⟩ : ∃ L, Aside0 ((c.send ++ Cn.rep o k d).length = L) := ⟨_, ⟨rfl⟩⟩
 rw [HL3.out] at hv3
 subst hv3
 have HR3 := Aside0.mk hr3
 have HG3 := Aside0.mk hg3
 have HA3 := Aside0.mk (Cn.hat_of hat3)
 have HX3 := Aside0.mk (HV2.out.blk.grown hg3 (Kd.R_ne HV2.out.send HV2.out.blk.out (by decide)))
 clear hr3 hg3 hat3
 refine hK.out _ _ ?_
 clear hK K
 refine Rg.n1 ?_
 refine Rg.p1 11 (.some 19) ?_
 refine Rg.p1 12 (.some 20) ?_
 refine Rg.l1 13 none (fun K hK => ?_)
 refine Wk.store_step (by rfl) rfl 23 (.tmp 20) (.tmp 18) rfl p 4 (.slice A3 L3 c3) [.slice A3 L3 c3] rfl rfl rfl 72 _ HX3.out HS2.out (Nat.le_of_ble_eq_true rfl) rfl ?_
 intro w4 hX hO
 have HO4 := Aside0.mk hO
 have HV4 : Aside0 (Cn.Cv w4 ok p tb pp vk (.slice A3 L3 c3) (Cn.say c o k d)) := ⟨HV2.out.sent HR3.out HG3.out HA3.out hO hX rfl rfl rfl⟩
 clear hX hO
 refine hK.out _ _ ?_
 clear hK K
 refine Rg.d1 ?_
 refine NoPanic.normal ?_
 go_wp2_with fail
 go_end0
 exact ⟨rfl, ⟨pp, _, _, HV4.out⟩, ((Cn.Fr.of_below HBW.out ok).trans (Cn.Fr.of_grown HG3.out HV2.out.okS)).trans (Cn.Fr.of_only HO4.out HV2.out.okp)⟩
end Go.Proofs.YtgljicdpcapgnaaDoor
set_option linter.unusedVariables false
set_option linter.unusedSimpArgs false
namespace Go.Proofs.YtgljicdpcapgnaaDoor
open Go.RowKit Go.Proofs.YtgljicdpcapgnaaDoor.PBase Go.Proofs.YtgljicdpcapgnaaDoorW.PrintWords Go.Proofs.YtgljicdpcapgnaaDoorW.PrintLast Go.Proofs.YtgljicdpcapgnaaDoorW.PrintMore
set_option maxHeartbeats 2000000 in
set_option maxRecDepth 100000 in
theorem served_.calls {W : World} {ok : Nat → Prop} {p tb : Nat} {c : Cn.St} (h : Cn.Cn W ok p tb c) (hb : 0 ≤ c.blk ∧ c.blk ≤ 65535) (t : Ps.Tk) (ht : Ps.TkWf t) :
  Calls Tryd.prog 80 #[.pointer (some ⟨p, 0, none⟩), .agg (Ps.tkc t).toArray] W fun e w' => e = .returned (.agg (Cn.exc (Cn.served c.blk t)).toArray) ∧ Below W.heap.size W w' := by
 obtain ⟨pp, vk, vs, hv⟩ := h
 obtain ⟨ti, se, ro, sz⟩ := t
 have HV := Aside0.mk hv
 have HT := Aside0.mk ht
 obtain ⟨b, HBK⟩ : ∃ b, Aside0 (c.blk = b) := ⟨_, ⟨rfl⟩⟩
 rw [HBK.out] at hb ⊢
 have HBB := Aside0.mk hb
 have HSE := Aside0.mk Cn.sizeEx
 clear hv ht hb
 have HB2 : Aside0 (Below W.heap.size W ((W.alloc (.cells (Ps.tkc (ti, se, ro, sz)).toArray 55)).alloc (.cells #[.int .u32 0, .int .u64 0, .bool false] 44))) := ⟨below_alloc (below_alloc (Below.refl _ _) _) _⟩
 have HX2 : Aside0 (Wk.Blk ((W.alloc (.cells (Ps.tkc (ti, se, ro, sz)).toArray 55)).alloc (.cells #[.int .u32 0, .int .u64 0, .bool false] 44)) W.heap.size 55 (Ps.tkc (ti, se, ro, sz))) := ⟨(Wk.Blk.new W _ (Ps.tkc (ti, se, ro, sz))).alloc _⟩
 have HY2 : Aside0 (Wk.Blk ((W.alloc (.cells (Ps.tkc (ti, se, ro, sz)).toArray 55)).alloc (.cells #[.int .u32 0, .int .u64 0, .bool false] 44)) (W.heap.size + 1) 44 (Cn.exc Cn.ex0)) := ⟨⟨heap_alloc2_new W _ _⟩⟩
 have k2 := (HV.out.below HB2.out).blk.at_ 2 rfl
 rw [HBK.out] at k2
 go_enter Tryd.func80, Tryd.ntmps80
 go_wp2_with fail
 clear k2
 rw [Cn.u64_ b HBB.out.1 (by have := HBB.out; omega)]
 generalize ((W.alloc (.cells (Ps.tkc (ti, se, ro, sz)).toArray 55)).alloc (.cells #[.int .u32 0, .int .u64 0, .bool false] 44)) = w2 at *
 have c0 := HX2.out.at_ 0 rfl
 have c2 := HX2.out.at_ 2 rfl
 have c3 := HX2.out.at_ 3 rfl
 refine wp_region_noPanic ?_
 by_cases h0 : b = 0
 ·subst h0
  refine Rg.s1 10 (fun w' => Below w2.heap.size w2 w') [] (Below.refl _ _).drew #[false, false, false, false, false, false, false, false, false, false] (fun hHeld => ?_)
  refine Rg.p1 0 (.some 12) ?_
  refine Rg.p1 1 (.some 13) ?_
  refine Rg.p1 2 (.some 14) ?_
  refine Rg.u1 3 (.some 15) ?_
  refine Rg.u1 4 (.some 16) ?_
  refine Rg.u1 5 (.some 17) ?_
  refine Rg.u1 6 (.some 18) ?_
  refine Rg.u1 7 (.some 19) ?_
  refine Rg.u1 8 (.some 20) ?_
  refine Rg.p1 9 (.some 21) ?_
  refine Rg.d1 ?_
  refine NoPanic.normal ?_
  have HYD := Aside0.mk HY2.out.drew
  have HBD := Aside0.mk (below_drew HB2.out)
  have d0 := HX2.out.drew.at_ 0 rfl
  have d2 := HX2.out.drew.at_ 2 rfl
  have d3 := HX2.out.drew.at_ 3 rfl
  clear c0 c2 c3
  go_wp2_with (refine Wk.store_all rfl rfl 44 (.tmp 4) (.tmp 31) rfl (W.heap.size + 1) [.int .u32 ti, _, .bool ro] rfl rfl 44 _ HYD.out HSE.out rfl rfl ?_; intro w5 hX hO; have HX5 := Aside0.mk hX; have HO5 := Aside0.mk hO; clear hX hO)
  refine bodyPost_ret (Wk.res_c rfl _ (W.heap.size + 1) 44 _ _ rfl HX5.out Tryd.underlying44 rfl HSE.out) rfl ?_
  refine ⟨?_, Wk.Only.below HBD.out HO5.out (Nat.le_succ _)⟩
  unfold Cn.served
  rw [if_pos (Or.inl rfl)]
  first | rfl | simp [Cn.exc]
 ·have hbz : (b == 0) = false := by simpa using h0
  refine Rg.s1 10 (fun w' => Below w2.heap.size w2 w') [] (Below.refl _ _).drew #[false, false, false, false, false, false, false, false, false, false] (fun hHeld => ?_)
  refine Rg.p1 0 (.some 12) ?_
  refine Rg.p1 1 (.some 13) ?_ (hy := by intro w'; (refine Eq.trans (b := .ok (Next.value (.bool false)) w') (by first | (go_simp; done) | (go_simp; simp_all; done) | (go_simp; omega)) ?_); first | done | with_reducible rfl)
  refine Rg.p1 2 (.some 14) ?_
  refine Rg.p1 3 (.some 15) ?_
  refine Rg.t1 4 (.some 16) hHeld ?_ (hy := by intro w' hS'; (have c1 := (HX2.out.below_ hS').at_ 3 rfl; go_simp); first | done | with_reducible rfl)
  refine Rg.p1 5 (.some 17) ?_
  refine Rg.p1 6 (.some 18) ?_
  refine Rg.p1 7 (.some 19) ?_
  refine Rg.p1 8 (.some 20) ?_
  refine Rg.p1 9 (.some 21) ?_
  refine Rg.d1 ?_
  refine NoPanic.normal ?_
  have HYD := Aside0.mk HY2.out.drew
  have HBD := Aside0.mk (below_drew HB2.out)
  have d0 := HX2.out.drew.at_ 0 rfl
  have d2 := HX2.out.drew.at_ 2 rfl
  have d3 := HX2.out.drew.at_ 3 rfl
  clear c0 c2 c3
  obtain ⟨q0, HQ⟩ : ∃ q : Int, Aside0 (18446744073709551615 / b = q) := ⟨_, ⟨rfl⟩⟩
  have hbp : 0 < b := by have := HBB.out; omega
  have hq0 : 0 ≤ q0 ∧ q0 ≤ 18446744073709551615 := by
   rw [← HQ.out]
   exact ⟨Int.ediv_nonneg (by decide) (by omega), Int.ediv_le_self _ (by decide)⟩
  have hmul : q0 * b ≤ 18446744073709551615 := by rw [← HQ.out]; exact Int.ediv_mul_le _ (by omega)
  have hw : IntKind.u64.wrap (Int.tdiv 18446744073709551615 b) = q0 := by
   rw [Int.tdiv_eq_ediv_of_nonneg (by decide), HQ.out]
   exact Cn.u64_ q0 hq0.1 (by omega)
  rw [hw]
  clear hw
  have HQB := Aside0.mk (And.intro hq0 hmul)
  clear hq0 hmul
  by_cases hsq : sz ≤ q0
  ·have hdd : decide (sz ≤ q0) = true := decide_eq_true hsq
   rw [hdd]
   go_wp2_with (refine Wk.store_all rfl rfl 44 (.tmp 4) (.tmp 31) rfl (W.heap.size + 1) [.int .u32 ti, _, .bool ro] rfl rfl 44 _ HYD.out HSE.out rfl rfl ?_; intro w5 hX hO; have HX5 := Aside0.mk hX; have HO5 := Aside0.mk hO; clear hX hO)
   refine bodyPost_ret (Wk.res_c rfl _ (W.heap.size + 1) 44 _ _ rfl HX5.out Tryd.underlying44 rfl HSE.out) rfl ?_
   refine ⟨?_, Wk.Only.below HBD.out HO5.out (Nat.le_succ _)⟩
   have h1 : sz * b ≤ 18446744073709551615 := Int.le_trans (Int.mul_le_mul_of_nonneg_right hsq (Int.le_of_lt hbp)) HQB.out.2
   have h2 : 0 ≤ sz * b := Int.mul_nonneg HT.out.2.2.1 (Int.le_of_lt hbp)
   unfold Cn.served
   rw [if_pos (Or.inr (by rw [HQ.out]; exact hsq))]
   show Ending.returned (.agg #[.int .u32 ti, .int .u64 (IntKind.u64.wrap (sz * b)), .bool ro]) = _
   rw [Cn.u64_ _ h2 (by omega)]
   rfl
  ·have hdd : decide (sz ≤ q0) = false := decide_eq_false hsq
   rw [hdd]
   go_wp2_with (refine Wk.store_all rfl rfl 44 (.tmp 4) (.tmp 31) rfl (W.heap.size + 1) [.int .u32 ti, _, .bool ro] rfl rfl 44 _ HYD.out HSE.out rfl rfl ?_; intro w5 hX hO; have HX5 := Aside0.mk hX; have HO5 := Aside0.mk hO; clear hX hO)
   refine bodyPost_ret (Wk.res_c rfl _ (W.heap.size + 1) 44 _ _ rfl HX5.out Tryd.underlying44 rfl HSE.out) rfl ?_
   refine ⟨?_, Wk.Only.below HBD.out HO5.out (Nat.le_succ _)⟩
   unfold Cn.served
   rw [if_neg (fun hh => hh.elim h0 (fun h => by rw [HQ.out] at h; change sz ≤ q0 at h; omega))]
   rfl
end Go.Proofs.YtgljicdpcapgnaaDoor
set_option linter.unusedVariables false
set_option linter.unusedSimpArgs false
namespace Go.Proofs.YtgljicdpcapgnaaDoor
open Go.RowKit Go.Proofs.YtgljicdpcapgnaaDoor.PBase Go.Proofs.YtgljicdpcapgnaaDoorW.PrintWords Go.Proofs.YtgljicdpcapgnaaDoorW.PrintLast Go.Proofs.YtgljicdpcapgnaaDoorW.PrintMore
namespace Cn
theorem check_wf (l : List Ps.Tn) (s : ByteArray) : Ps.TkWf (Ps.check l s).1 := by
  have hz : Ps.TkWf Ps.zt := by unfold Ps.TkWf Ps.zt; decide
  have ht : Ps.TkWf (Ps.tok (Ps.got s)) := Ps.tok_wf _ (Ps.got_bytes s)
  unfold Ps.check
  split
  · split
    · exact hz
    · unfold Ps.verdict
      split
      · exact hz
      · split
        · exact hz
        · split
          · exact hz
          · exact ht
  · exact hz
theorem str_size (d : List Int) : (strOfNums d).size = d.length := by simp [strOfNums, ByteArray.size]
end Cn
set_option maxHeartbeats 8000000 in
set_option maxRecDepth 100000 in
theorem oldway_.calls {W : World} {ok : Nat → Prop} {p tb bs : Nat} {c : Cn.St} {l : List Ps.Tn} (h : Cn.Cn W ok p tb c) (hf : ∀ k, W.heap.size ≤ k → ok k) (hb : 0 ≤ c.blk ∧ c.blk ≤ 65535) (hK : Sh.Ks W) (hT : Ps.Tb W bs tb l) (hW : ∀ x ∈ l, Ps.TnWf x) {A : Option Addr} {n cd : Nat} {k : Int} {d : List Int} (hd : Kd.C (Kd.int .u8) W A d.length d) (hn : d.length = n) (hl : n ≤ 1000000) (hs : c.send.length ≤ 10000000000000) :
  Calls Tryd.prog 67 #[.pointer (some ⟨p, 0, none⟩), .agg #[.int .u32 k, .slice A n cd]] W fun e w' => e = .returned (.tuple #[]) ∧ Cn.Cn w' ok p tb (Cn.oldway l c d) ∧ Cn.Fr W w' ok := by
 obtain ⟨pp, vk, vs, hv⟩ := h
 have HV := Aside0.mk hv
 have HF := Aside0.mk hf
 have HBK := Aside0.mk hb
 have HK := Aside0.mk hK
 have HT := Aside0.mk hT
 have HW := Aside0.mk hW
 have HD := Aside0.mk hd
 have HN := Aside0.mk hn
 have HL := Aside0.mk hl
 have HS := Aside0.mk hs
 have HS1 := Aside0.mk Cn.size1
 have HS2 := Aside0.mk Pi.size31
 have HSK := Aside0.mk Ps.sizeTk
 have HSE := Aside0.mk Cn.sizeEx
 clear hv hf hb hK hT hW hd hn hl hs
 have HB1 : Aside0 (Below W.heap.size W (W.alloc (.cells #[.int .u32 k, .slice A n cd] 113))) := ⟨below_alloc (Below.refl _ _) _⟩
 have HX1 : Aside0 (Wk.Blk (W.alloc (.cells #[.int .u32 k, .slice A n cd] 113)) W.heap.size 113 [.int .u32 k, .slice A n cd]) := ⟨Wk.Blk.new W _ [.int .u32 k, .slice A n cd]⟩
 go_enter Tryd.func67, Tryd.ntmps67
 go_wp2_with fail
 generalize W.alloc (.cells #[.int .u32 k, .slice A n cd] 113) = w1 at *
 obtain ⟨g3, HG3⟩ : ∃ g, Aside0 (W.heap.size = g) := ⟨_, ⟨rfl⟩⟩
 have HV1 := Aside0.mk (HV.out.below HB1.out)
 obtain ⟨ti, se, ro, sz, er, HCK⟩ : ∃ ti se ro sz er, Aside0 (Ps.check l (strOfNums d) = ((ti, se, ro, sz), er)) := ⟨_, _, _, _, _, ⟨rfl⟩⟩
 have HTK : Aside0 (Ps.TkWf (ti, se, ro, sz)) := ⟨by have := Cn.check_wf l (strOfNums d); rw [HCK.out] at this; exact this⟩
 have HCH : Aside0 (∀ w', Below w1.heap.size w1 w' → Calls Tryd.prog 29 #[.pointer (some ⟨tb, 0, none⟩), .string (strOfNums d)] w' fun e w2 => e = .returned (.tuple #[.agg #[.int .u32 ti, .int .u32 se, .bool ro, .int .u64 sz], .int .u16 er]) ∧ Below w'.heap.size w' w2) := ⟨fun w' hb' => by
  have hbw := below_then HB1.out HB1.out.size hb'
  refine (check_.calls tb bs l (strOfNums d) w' (HK.out.below hbw) (HT.out.below hbw) (by rw [Cn.str_size, HN.out]; exact HL.out) HW.out).mono ?_
  rintro e w2 ⟨rfl, hb2⟩
  rw [HCK.out]
  exact ⟨rfl, hb2⟩⟩
 rw [HG3.out] at HX1 ⊢
 refine wp_region_noPanic ?_
 refine Rg.s1 14 (fun w' => Below w1.heap.size w1 w') [] (Below.refl _ _).drew #[false, false, false, false, false, false, false, false, false, false, false, false, false, false] (fun hHeld => ?_)
 refine Rg.p1 0 (.some 7) ?_
 refine Rg.p1 1 (.some 8) ?_
 refine Rg.p1 2 (.some 9) ?_
 refine Rg.t1 3 (.some 10) hHeld ?_ (hy := by intro w' hS'; (have c1 := (HV1.out.below hS').blk.at_ 1 rfl; go_simp); first | done | with_reducible rfl)
 refine Rg.p1 4 (.some 11) ?_
 refine Rg.t1 5 (.some 12) hHeld ?_ (hy := by intro w' hS'; (have c1 := (HX1.out.below_ hS').at_ 1 rfl; go_simp); first | done | with_reducible rfl)
 refine Rg.t1 6 (.some 13) hHeld ?_ (hy := by intro w' hS'; (have c1 : (convert 23 9 (.slice A n cd)).run Tryd.prog w' = .ok (.string (strOfNums d)) w' := Kd.C_string Tryd.underlying23 Tryd.underlying5 Tryd.underlying9 (by have := Kd.C_below HD.out (below_then HB1.out HB1.out.size hS'); rw [HN.out] at this; exact this); go_simp); first | done | with_reducible rfl)
 have HWD : Aside0 (w1.heap.size ≤ w1.drew.heap.size) := ⟨Nat.le_refl _⟩
 generalize hwd : w1.drew = wd at *
 refine join_ (σ := Nat) (fuel' := 2) #[true, true, true, true, true, true, true, true, true, true, true, true, false, false] (fun b4 => [(14, (.tuple #[.agg #[.int .u32 ti, .int .u32 se, .bool ro, .int .u64 sz], .int .u16 er])), (6, (.tuple #[.agg #[.int .u32 ti, .int .u32 se, .bool ro, .int .u64 sz], .int .u16 er])), (15, (.agg #[.int .u32 ti, .int .u32 se, .bool ro, .int .u64 sz])), (16, .int .u16 er), (4, .pointer (some ⟨b4, 0, none⟩))]) (fun b4 w' => Below w1.heap.size w1 w' ∧ w1.heap.size ≤ b4 ∧ Wk.Blk w' b4 55 Ps.zt4) ?_ (fun hJ => ?_)
 ·rintro b4 w5 ⟨hB5, hge, hX5⟩
  refine norm_ (a' := ?_) ?_ ?_
  rotate_left
  ·show Act.put (Act.put (Act.put (Act.put (Act.put _ (some 14) _) (some 6) _) (some 15) _) (some 16) _) (some 4) _ = _
   simp only [Act.put, List.setIfInBounds_toArray, List.set_cons_zero, List.set_cons_succ]
   rfl
  change Wk.Blk w5 b4 _ _ at hX5
  change w1.heap.size ≤ b4 at hge
  have HX5 := Aside0.mk hX5
  have HB5 := Aside0.mk hB5
  have HGE := Aside0.mk hge
  clear hX5 hB5 hge
  refine one_ (i := 12) (N := none) #[true, true, true, true, true, true, true, true, true, true, true, true, true, false] rfl rfl (by kernel_rfl) (by decide) (fun K hK => ?_)
  refine Wk.store_all_step (by rfl) rfl 55 (.tmp 4) (.tmp 15) rfl b4 (Ps.tkc (ti, se, ro, sz)) rfl rfl 55 Ps.zt4 HX5.out HSK.out rfl rfl ?_
  intro w6 hX hO
  have HX6 := Aside0.mk hX
  have HB6 := Aside0.mk (Wk.Only.below HB5.out hO HGE.out)
  clear hX hO
  refine hK.out _ _ HB6.out (fun hHeld => ?_)
  clear hK K
  refine pure_ (i := 13) (N := (some 5)) (v := ?_) (a' := ?_) #[true, true, true, true, true, true, true, true, true, true, true, true, true, true] rfl rfl (by kernel_rfl) (fun _ _ _ h => h) (Or.inl ⟨by rfl, ?_⟩) ?_ ?_
  rotate_left
  ·intro w'
   go_simp
   first | done | with_reducible rfl
  rotate_left
  ·simp only [Act.put, List.setIfInBounds_toArray, List.set_cons_zero, List.set_cons_succ]
   rfl
  refine done_ (by kernel_rfl) ?_
  refine NoPanic.normal ?_
  have HBW := Aside0.mk (below_then HB1.out HB1.out.size HB6.out)
  have HV6 := Aside0.mk (HV1.out.below HB6.out)
  have HX16 := Aside0.mk (HX1.out.below_ HB6.out)
  have c1 := HX16.out.at_ 1 rfl
  clear HV1 HX1 HB1 HX5 HB5 HGE HCH hHeld HWD hwd
  by_cases he : er = 0
  ·subst he
   by_cases hn : (n : Int) > 255
   ·skip
    go_wp2_with fail
    refine (close_.calls ⟨pp, vk, vs, HV6.out⟩).mono ?_
    rintro e w7 ⟨rfl, hc7, hf7⟩
    have HC7 := Aside0.mk hc7
    have HF7 := Aside0.mk ((Cn.Fr.of_below HBW.out ok).trans hf7)
    clear hc7 hf7
    go_wp2_with fail
    refine bodyPost_ret (results_none rfl _ _ _) rfl ?_
    refine ⟨rfl, ?_, HF7.out⟩
    unfold Cn.oldway
    rw [HCK.out, if_pos (Or.inr (by rw [HN.out]; omega))]
    exact HC7.out
   ·have HNN : Aside0 (n ≤ 255) := ⟨by omega⟩
    have hrun : (Instr.loadAt 55 (.pointer (some ⟨b4, 0, none⟩))).run Tryd.prog w6 = .ok (.agg #[.int .u32 ti, .int .u32 se, .bool ro, .int .u64 sz]) w6 := Wk.run_load_blk (P := Tryd.prog) 55 b4 0 (Ps.tkc (ti, se, ro, sz)) _ HX6.out rfl Tryd.underlying55 rfl HSK.out
    go_wp2_with (refine Wk.load rfl 55 (.tmp 4) rfl _ (.pointer (some ⟨b4, 0, none⟩)) rfl hrun ?_)
    clear hrun c1
    refine (served_.calls ⟨pp, vk, vs, HV6.out⟩ HBK.out (ti, se, ro, sz) HTK.out).mono ?_
    rintro e w7 ⟨rfl, hb7⟩
    obtain ⟨x, HXE⟩ : ∃ x, Aside0 (Cn.served c.blk (ti, se, ro, sz) = x) := ⟨_, ⟨rfl⟩⟩
    rw [HXE.out]
    have HV7 := Aside0.mk (HV6.out.below hb7)
    have HB7 := Aside0.mk (below_then HBW.out HBW.out.size hb7)
    clear hb7 HV6 HB6 HX6 HX16
    go_wp2_with (first
     | (refine Wk.store rfl rfl 44 (.tmp 33) (.tmp 31) rfl p 6 (.agg (Cn.exc x).toArray) (Cn.exc x) rfl rfl (by simp [Value.cells]) 72 _ HV7.out.blk HSE.out (Nat.le_of_ble_eq_true rfl) rfl ?_; intro w8 hX hO; have HO8 := Aside0.mk hO; have HV8 : Aside0 (Cn.Cv w8 ok p tb pp vk vs { c with ex := x }) := ⟨HV7.out.turn hO hX rfl rfl rfl⟩; clear hX hO)
     | (refine Wk.store rfl rfl 5 (.tmp 35) (.const (.int .u8 3)) rfl p 5 (.int .u8 3) [.int .u8 3] rfl rfl rfl 72 _ HV8.out.blk HS1.out (Nat.le_of_ble_eq_true rfl) rfl ?_; intro w9 hX hO; have HO9 := Aside0.mk hO; have HV9 : Aside0 (Cn.Cv w9 ok p tb pp vk vs { c with ex := x, st := 3 }) := ⟨HV8.out.turn hO hX rfl rfl rfl⟩; clear hX hO))
    have HFW : Aside0 (Cn.Fr W w9 ok ∧ W.heap.size ≤ w9.heap.size) := ⟨((Cn.Fr.of_below HB7.out ok).trans (Cn.Fr.of_only HO8.out HV7.out.okp)).trans (Cn.Fr.of_only HO9.out HV7.out.okp), by have := HB7.out.size; have := HO8.out.size; have := HO9.out.size; omega⟩
    clear HV7 HV8 HO8 HO9 HB7
    refine wp_region_noPanic ?_
    refine Rg.s1 18 (fun w' => Below w9.heap.size w9 w') [14, 17] (Below.refl _ _).drew #[false, false, false, false, false, false, false, false, false, false, false, false, false, false, false, false, false, false] (fun hHeld => ?_)
    refine Rg.p1 0 (.some 36) ?_
    refine Rg.p1 1 (.some 37) ?_
    refine Rg.p1 2 (.some 38) ?_
    refine Rg.p1 3 (.some 39) ?_
    refine Rg.t1 4 (.some 40) hHeld ?_ (hy := by intro w' hS'; (have c1 := (HV9.out.below hS').blk.at_ 4 rfl; go_simp); first | done | with_reducible rfl)
    refine Rg.p1 5 (.some 41) ?_
    refine Rg.p1 6 (.some 42) ?_
    refine Rg.p1 7 (.some 43) ?_
    refine Rg.t1 8 (.some 44) hHeld ?_ (hy := by intro w' hS'; (have hl := Wk.run_load_blk (P := Tryd.prog) 44 p 6 (Cn.exc x) _ (HV9.out.below hS').blk rfl Tryd.underlying44 rfl HSE.out; refine (Wk.exec_load 44 (.tmp 43) rfl _ _ rfl hl).trans ?_); first | done | with_reducible rfl)
    refine Rg.p1 9 (.some 45) ?_
    refine Rg.p1 10 (.some 46) ?_
    refine Rg.p1 11 (.some 47) ?_
    refine Rg.t1 12 (.some 48) hHeld ?_ (hy := by intro w' hS'; (have c1 := (HV9.out.below hS').blk.at_ 9 rfl; go_simp); first | done | with_reducible rfl)
    refine Rg.o1 13 (.some 49) (fun K hK => ?_)
    refine call_ 81 #[.agg (Cn.exc x).toArray, .bool c.sh] (by rfl) rfl (by go_simp) ?_
    refine (Cn.old_ _ x c.sh).mono ?_
    rintro e w10 ⟨A2, c2, rfl, hR2, hb2⟩
    have HR2 := Aside0.mk hR2
    have HB2 := Aside0.mk (below_then hHeld hHeld.size hb2)
    clear hR2 hb2
    refine ⟨_, rfl, ?_⟩
    refine hK.out _ _ HB2.out (fun hHeld => ?_)
    clear hK K
    refine Rg.n1 ?_
    have HV10 := Aside0.mk (HV9.out.below HB2.out)
    have HLR : Aside0 ((Cn.old x c.sh).length ≤ 2000000) := ⟨by
     have := Cn.packs_len4 [8, 2] [x.2.1, Cn.can x.2.2] (by simp)
     unfold Cn.old
     rw [List.length_append]
     split
     ·simp; omega
     ·rw [List.length_replicate]; omega⟩
    have HFS : Aside0 (∀ j, w10.heap.size ≤ j → ok j ∧ some j ≠ vk.ownBlock) := ⟨HV10.out.freshK (fun j hj => HF.out j (Nat.le_trans HFW.out.2 (Nat.le_trans HB2.out.size hj)))⟩
    refine Rg.l1 14 (.some 50) (fun K hK => ?_)
    refine Kd.R_append_rows_step (Kd.int .u8) (w0 := w10) (W := w10) 0 (by rfl) (.tmp 40) (.tmp 49) 23 5 (.int .u8 0) 1 rfl Tryd.underlying23 Cn.infoByte rfl (by decide) (by omega) vs c.send (Cn.old x c.sh) A2 _ c2 (fun k => ok k ∧ some k ≠ vk.ownBlock) (fun _ => False) rfl rfl HV10.out.send (Kd.R_reads' HR2.out).2.2 (fun _ _ h => h) (fun _ h => h.elim) HFS.out (Below.refl _ _) (Nat.zero_le _) (by have := HS.out; have := HLR.out; omega) ?_
    intro v3 w11 hr3 _ hg3 hat3
    obtain ⟨A3, c3, hv3⟩ := Kd.R_slice hr3
    obtain ⟨L3, HL3⟩ : ∃ L, Aside0 ((c.send ++ Cn.old x c.sh).length = L) := ⟨_, ⟨rfl⟩⟩
    rw [HL3.out] at hv3
    subst hv3
    have HR3 := Aside0.mk hr3
    have HG3' := Aside0.mk hg3
    have HA3 := Aside0.mk (Cn.hat_of hat3)
    have HX3 := Aside0.mk (HV10.out.blk.grown hg3 (Kd.R_ne HV10.out.send HV10.out.blk.out (by decide)))
    clear hr3 hg3 hat3
    refine hK.out _ _ ?_
    clear hK K
    refine Rg.n1 ?_
    refine Rg.p1 15 (.some 51) ?_
    refine Rg.p1 16 (.some 52) ?_
    refine Rg.l1 17 none (fun K hK => ?_)
    refine Wk.store_step (by rfl) rfl 23 (.tmp 52) (.tmp 50) rfl p 4 (.slice A3 L3 c3) [.slice A3 L3 c3] rfl rfl rfl 72 _ HX3.out HS2.out (Nat.le_of_ble_eq_true rfl) rfl ?_
    intro w12 hX hO
    have HO12 := Aside0.mk hO
    have HV12 : Aside0 (Cn.Cv w12 ok p tb pp vk (.slice A3 L3 c3) { c with ex := x, st := 3, send := c.send ++ Cn.old x c.sh }) := ⟨HV10.out.sent HR3.out HG3'.out HA3.out hO hX rfl rfl rfl⟩
    clear hX hO
    refine hK.out _ _ ?_
    clear hK K
    refine Rg.d1 ?_
    refine NoPanic.normal ?_
    go_wp2_with fail
    go_end0
    refine ⟨rfl, ?_, ((HFW.out.1.trans (Cn.Fr.of_below HB2.out ok)).trans (Cn.Fr.of_grown HG3'.out HV10.out.okS)).trans (Cn.Fr.of_only HO12.out HV10.out.okp)⟩
    unfold Cn.oldway
    rw [HCK.out, if_neg (by rw [HN.out]; have := HNN.out; omega), HXE.out]
    exact ⟨pp, vk, _, HV12.out⟩
  ·have hneb : (er == 0) = false := by simpa using he
   go_wp2_with fail
   refine (close_.calls ⟨pp, vk, vs, HV6.out⟩).mono ?_
   rintro e w7 ⟨rfl, hc7, hf7⟩
   have HC7 := Aside0.mk hc7
   have HF7 := Aside0.mk ((Cn.Fr.of_below HBW.out ok).trans hf7)
   clear hc7 hf7
   go_wp2_with fail
   refine bodyPost_ret (results_none rfl _ _ _) rfl ?_
   refine ⟨rfl, ?_, HF7.out⟩
   unfold Cn.oldway
   rw [HCK.out, if_pos (Or.inl he)]
   exact HC7.out
 ·refine two_ (i := 7) (j := 11) (Ni := some 14) (Nj := some 4) #[true, true, true, true, true, true, true, true, false, false, false, false, false, false] #[true, true, true, true, true, true, true, false, false, false, false, true, false, false] rfl rfl rfl rfl (by kernel_rfl) (by decide) (by decide) (fun K hK => ?_) (fun K hK => ?_)
  ·refine call_ 29 #[.pointer (some ⟨tb, 0, none⟩), .string (strOfNums d)] (by rfl) rfl (by go_simp) ?_
   refine (HCH.out _ hHeld).mono ?_
   rintro e w7 ⟨rfl, hbn⟩
   refine ⟨_, rfl, ?_⟩
   have hbt : Below w1.heap.size w1 w7 := below_then hHeld hHeld.size hbn
   refine hK.out _ _ hbt (fun hHeld => ?_)
   clear hK K hbt hbn
   refine norm_ (a' := ?_) ?_ ?_
   rotate_left
   ·show Act.put _ (some 14) _ = _
    simp only [Act.put, List.setIfInBounds_toArray, List.set_cons_zero, List.set_cons_succ]
    rfl
   refine pure_ (i := 8) (N := (some 6)) (v := ?_) (a' := ?_) #[true, true, true, true, true, true, true, true, true, false, false, false, false, false] rfl rfl (by kernel_rfl) (fun _ _ _ h => h) (Or.inl ⟨by rfl, ?_⟩) ?_ ?_
   rotate_left
   ·intro w'
    go_simp
    first | done | with_reducible rfl
   rotate_left
   ·simp only [Act.put, List.setIfInBounds_toArray, List.set_cons_zero, List.set_cons_succ]
    rfl
   refine pure_ (i := 9) (N := (some 15)) (v := ?_) (a' := ?_) #[true, true, true, true, true, true, true, true, true, true, false, false, false, false] rfl rfl (by kernel_rfl) (fun _ _ _ h => h) (Or.inl ⟨by rfl, ?_⟩) ?_ ?_
   rotate_left
   ·intro w'
    go_simp
    first | done | with_reducible rfl
   rotate_left
   ·simp only [Act.put, List.setIfInBounds_toArray, List.set_cons_zero, List.set_cons_succ]
    rfl
   refine pure_ (i := 10) (N := (some 16)) (v := ?_) (a' := ?_) #[true, true, true, true, true, true, true, true, true, true, true, false, false, false] rfl rfl (by kernel_rfl) (fun _ _ _ h => h) (Or.inl ⟨by rfl, ?_⟩) ?_ ?_
   rotate_left
   ·intro w'
    go_simp
    first | done | with_reducible rfl
   rotate_left
   ·simp only [Act.put, List.setIfInBounds_toArray, List.set_cons_zero, List.set_cons_succ]
    rfl
   refine one_ (i := 11) (N := some 4) #[true, true, true, true, true, true, true, true, true, true, true, true, false, false] rfl rfl (by kernel_rfl) (by decide) (fun K hK => ?_)
   refine value_ (w1 := w7.alloc (.cells Ps.zt4.toArray 55)) (v := .pointer (some ⟨w7.heap.size, 0, none⟩)) (by rfl) rfl (by first | (go_simp; done) | (go_simp; rfl)) ?_
   have hoe : Wk.Blk (w7.alloc (.cells Ps.zt4.toArray 55)) w7.heap.size 55 Ps.zt4 := Wk.Blk.new w7 _ Ps.zt4
   have hbn : Below w7.heap.size w7 (w7.alloc (.cells Ps.zt4.toArray 55)) := below_alloc (Below.refl _ _) _
   have hbt : Below w1.heap.size w1 (w7.alloc (.cells Ps.zt4.toArray 55)) := below_then hHeld hHeld.size hbn
   generalize World.alloc w7 (.cells Ps.zt4.toArray 55) = w11_7 at *
   have hres : Below w1.heap.size w1 w11_7 ∧ w1.heap.size ≤ w7.heap.size ∧ Wk.Blk w11_7 w7.heap.size 55 Ps.zt4 := ⟨hbt, hHeld.size, hoe⟩
   have HRES := Aside0.mk hres
   refine hK.out _ _ hbt (fun hHeld => ?_)
   clear hK K hbt hbn hoe hres
   refine norm_ (a' := ?_) ?_ ?_
   rotate_left
   ·show Act.put _ (some 4) _ = _
    simp only [Act.put, List.setIfInBounds_toArray, List.set_cons_zero, List.set_cons_succ]
    rfl
   refine norm_ (a' := putAll _ ((fun b4 : Nat => ([(14, (.tuple #[.agg #[.int .u32 ti, .int .u32 se, .bool ro, .int .u64 sz], .int .u16 er])), (6, (.tuple #[.agg #[.int .u32 ti, .int .u32 se, .bool ro, .int .u64 sz], .int .u16 er])), (15, (.agg #[.int .u32 ti, .int .u32 se, .bool ro, .int .u64 sz])), (16, .int .u16 er), (4, .pointer (some ⟨b4, 0, none⟩))] : List (Tmp × Value))) w7.heap.size)) ?_ (hJ w7.heap.size w11_7 HRES.out)
   simp only [putAll, Act.put, List.setIfInBounds_toArray, List.set_cons_zero, List.set_cons_succ]
  ·refine value_ (w1 := wd.alloc (.cells Ps.zt4.toArray 55)) (v := .pointer (some ⟨wd.heap.size, 0, none⟩)) (by rfl) rfl (by first | (go_simp; done) | (go_simp; rfl)) ?_
   have hoe : Wk.Blk (wd.alloc (.cells Ps.zt4.toArray 55)) wd.heap.size 55 Ps.zt4 := Wk.Blk.new wd _ Ps.zt4
   have hbn : Below wd.heap.size wd (wd.alloc (.cells Ps.zt4.toArray 55)) := below_alloc (Below.refl _ _) _
   have hbt : Below w1.heap.size w1 (wd.alloc (.cells Ps.zt4.toArray 55)) := below_then hHeld hHeld.size hbn
   generalize World.alloc wd (.cells Ps.zt4.toArray 55) = w11 at *
   have HOE := Aside0.mk (And.intro (show w1.heap.size ≤ wd.heap.size from HWD.out) hoe)
   refine hK.out _ _ hbt (fun hHeld => ?_)
   clear hK K hbt hbn hoe
   refine norm_ (a' := ?_) ?_ ?_
   rotate_left
   ·show Act.put _ (some 4) _ = _
    simp only [Act.put, List.setIfInBounds_toArray, List.set_cons_zero, List.set_cons_succ]
    rfl
   refine one_ (i := 7) (N := some 14) #[true, true, true, true, true, true, true, true, false, false, false, true, false, false] rfl rfl (by kernel_rfl) (by decide) (fun K hK => ?_)
   refine call_ 29 #[.pointer (some ⟨tb, 0, none⟩), .string (strOfNums d)] (by rfl) rfl (by go_simp) ?_
   refine (HCH.out _ hHeld).mono ?_
   rintro e w7_11 ⟨rfl, hbn⟩
   refine ⟨_, rfl, ?_⟩
   have hbt : Below w1.heap.size w1 w7_11 := below_then hHeld hHeld.size hbn
   have HRES := Aside0.mk (show Below w1.heap.size w1 w7_11 ∧ w1.heap.size ≤ wd.heap.size ∧ Wk.Blk w7_11 wd.heap.size 55 Ps.zt4 from ⟨hbt, HOE.out.1, HOE.out.2.below_ hbn⟩)
   refine hK.out _ _ hbt (fun hHeld => ?_)
   clear hK K hbt hbn
   refine norm_ (a' := ?_) ?_ ?_
   rotate_left
   ·show Act.put _ (some 14) _ = _
    simp only [Act.put, List.setIfInBounds_toArray, List.set_cons_zero, List.set_cons_succ]
    rfl
   refine pure_ (i := 8) (N := (some 6)) (v := ?_) (a' := ?_) #[true, true, true, true, true, true, true, true, true, false, false, true, false, false] rfl rfl (by kernel_rfl) (fun _ _ _ h => h) (Or.inl ⟨by rfl, ?_⟩) ?_ ?_
   rotate_left
   ·intro w'
    go_simp
    first | done | with_reducible rfl
   rotate_left
   ·simp only [Act.put, List.setIfInBounds_toArray, List.set_cons_zero, List.set_cons_succ]
    rfl
   refine pure_ (i := 9) (N := (some 15)) (v := ?_) (a' := ?_) #[true, true, true, true, true, true, true, true, true, true, false, true, false, false] rfl rfl (by kernel_rfl) (fun _ _ _ h => h) (Or.inl ⟨by rfl, ?_⟩) ?_ ?_
   rotate_left
   ·intro w'
    go_simp
    first | done | with_reducible rfl
   rotate_left
   ·simp only [Act.put, List.setIfInBounds_toArray, List.set_cons_zero, List.set_cons_succ]
    rfl
   refine pure_ (i := 10) (N := (some 16)) (v := ?_) (a' := ?_) #[true, true, true, true, true, true, true, true, true, true, true, true, false, false] rfl rfl (by kernel_rfl) (fun _ _ _ h => h) (Or.inl ⟨by rfl, ?_⟩) ?_ ?_
   rotate_left
   ·intro w'
    go_simp
    first | done | with_reducible rfl
   rotate_left
   ·simp only [Act.put, List.setIfInBounds_toArray, List.set_cons_zero, List.set_cons_succ]
    rfl
   refine norm_ (a' := putAll _ ((fun b4 : Nat => ([(14, (.tuple #[.agg #[.int .u32 ti, .int .u32 se, .bool ro, .int .u64 sz], .int .u16 er])), (6, (.tuple #[.agg #[.int .u32 ti, .int .u32 se, .bool ro, .int .u64 sz], .int .u16 er])), (15, (.agg #[.int .u32 ti, .int .u32 se, .bool ro, .int .u64 sz])), (16, .int .u16 er), (4, .pointer (some ⟨b4, 0, none⟩))] : List (Tmp × Value))) wd.heap.size)) ?_ (hJ wd.heap.size w7_11 HRES.out)
   simp only [putAll, Act.put, List.setIfInBounds_toArray, List.set_cons_zero, List.set_cons_succ]
end Go.Proofs.YtgljicdpcapgnaaDoor
