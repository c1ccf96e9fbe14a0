/- What the law's proof stands on, part 7: PassQ, MacS, PassC, PassK, PassRow, PassF, PassH, PassS, PassU, PassV, PassW, PassL6 (laid together by wip/pack.py). -/
import Derived.Test.YtabdnlecpndfjaaDoorRows
import Derived.Test.YtabdnlecpndfjaaDoorCards
import Derived.Test.YtabdnlecpndfjaaDoorTie
import Derived.Test.YtabdnlecpndfjaaDoorXPassChecksP6
import Derived.ProofKit
import Derived.LaidMore
import Derived.OpenShut
import Derived.Stop.Joined
import Derived.SevenTiedAt
import Derived.SizedLaws
set_option linter.unusedVariables false
set_option linter.unusedSimpArgs false
namespace Go.Proofs.YtabdnlecpndfjaaDoor
open Go.RowKit Go.Proofs.YtabdnlecpndfjaaDoor.PBase Go.Proofs.YtabdnlecpndfjaaDoorW.PrintWords Go.Proofs.YtabdnlecpndfjaaDoorW.PrintLast Go.Proofs.YtabdnlecpndfjaaDoorW.PrintMore
namespace Ps
theorem find_mem {l : List Tn} {id : Int} {x : Tn} (h : find l id = some x) : x ∈ l ∧ x.f0 = id := by
  unfold find at h
  exact ⟨List.mem_of_find?_eq_some h, by simpa using List.find?_some h⟩
theorem zn_wf : TnWf zn := ⟨⟨Int.le_refl _, by show (0 : Int) < 4294967296; decide⟩, by show 0 ≤ 1000; decide, by show 0 ≤ 1000; decide, fun x h => by cases h⟩
theorem got_wf {l : List Tn} (hW : ∀ x ∈ l, TnWf x) (id : Int) : TnWf ((find l id).getD zn) := by
  cases h : find l id with
  | none => exact zn_wf
  | some x => exact hW x (find_mem h).1
theorem Tm.looks {W : World} {b : Nat} {l : List Tn} (h : Tm W b l) (id : Int) (h0 : 0 ≤ id) (h1 : id < 4294967296) :
    ∃ A0 c0 A1 c1, (∀ W', Below W.heap.size W W' → (Instr.lookup 69 (.map (some b)) (.int .u32 id) true).run Tryd.prog W' = .ok (.tuple #[.agg (tnc ((find l id).getD zn) A0 c0 A1 c1).toArray, .bool (find l id).isSome]) W') ∧ ((find l id).getD zn).f1.length ≤ c0 ∧ ((find l id).getD zn).f4.length ≤ c1 ∧ Kd.C (Kd.int .u8) W A0 ((find l id).getD zn).f1.length ((find l id).getD zn).f1 ∧ Kd.C (Kd.int .u32) W A1 ((find l id).getD zn).f4.length ((find l id).getD zn).f4 := by
  rcases h.look id h0 h1 with ⟨hf, hr⟩ | ⟨x, A0, c0, A1, c1, hf, hr, l0, l1, g0, g1⟩
  · rw [hf]
    exact ⟨none, 0, none, 0, hr, Nat.le_refl _, Nat.le_refl _, Kd.C_nil _ _, Kd.C_nil _ _⟩
  · rw [hf]
    exact ⟨A0, c0, A1, c1, hr, l0, l1, g0, g1⟩
def TenPost (w : World) (l : List Tn) (id : Int) (e : Ending) (w' : World) : Prop :=
  Below w.heap.size w w' ∧ ∃ A0 c0 A1 c1, e = .returned (.tuple #[.agg (tnc ((find l id).getD zn) A0 c0 A1 c1).toArray, .bool (find l id).isSome]) ∧ ((find l id).getD zn).f1.length ≤ c0 ∧ ((find l id).getD zn).f4.length ≤ c1 ∧
    Kd.R (Kd.int .u8) 5 w' w.heap.size (fun _ => True) (.slice A0 ((find l id).getD zn).f1.length c0) ((find l id).getD zn).f1 ∧ Kd.R (Kd.int .u32) 23 w' w.heap.size (fun _ => True) (.slice A1 ((find l id).getD zn).f4.length c1) ((find l id).getD zn).f4
end Ps
set_option maxHeartbeats 2000000 in
set_option maxRecDepth 100000 in
theorem tenant_.calls (p base : Nat) (l : List Ps.Tn) (id : Int) (w : World) (hT : Ps.Tb w base p l) (h0 : 0 ≤ id) (h1 : id < 4294967296) (hW : ∀ x ∈ l, Ps.TnWf x) :
    Calls Tryd.prog 21 #[.pointer (some ⟨p, 0, none⟩), .int .u32 id] w (Ps.TenPost w l id) := by
  obtain ⟨bm, _, _, hP, hM⟩ := hT
  have HP := Aside0.mk hP
  have HSZ := Aside0.mk Ps.sizeTn
  obtain ⟨A0, d0, A1, d1, hlo, hc0, hc1, g0, g1⟩ := hM.looks id h0 h1
  have hwf := Ps.got_wf hW id
  unfold Ps.TenPost
  obtain ⟨fd, HFD⟩ : ∃ b, Aside0 ((Ps.find l id).isSome = b) := ⟨_, ⟨rfl⟩⟩
  rw [HFD.out] at hlo ⊢
  generalize (Ps.find l id).getD Ps.zn = x at *
  obtain ⟨i, l0, q, s, l1⟩ := x
  obtain ⟨_, hm0, hm1, hby⟩ := hwf
  change l0.length ≤ 1000 at hm0
  change l1.length ≤ 1000 at hm1
  simp only [Ps.tnc] at hlo hc0 hc1 g0 g1 ⊢
  have HG0 := Aside0.mk g0
  have HG1 := Aside0.mk g1
  obtain ⟨n0, HN0⟩ : ∃ n, Aside0 (l0.length = n) := ⟨_, ⟨rfl⟩⟩
  obtain ⟨n1, HN1⟩ : ∃ n, Aside0 (l1.length = n) := ⟨_, ⟨rfl⟩⟩
  rw [HN0.out] at hm0 hc0 hlo ⊢
  rw [HN1.out] at hm1 hc1 hlo ⊢
  have HLO := Aside0.mk hlo
  clear g0 g1 hby hlo hP hM
  go_enter Tryd.func21, Tryd.ntmps21
  have HA : Aside0 (Below w.heap.size w (w.alloc (.cells Ps.z5.toArray 42))) := ⟨below_alloc (Below.refl _ _) _⟩
  have c1 := (HP.out.below_ HA.out).at_ 0 rfl
  have c2 := HLO.out _ HA.out
  go_wp2_with fail
  generalize hWq : World.alloc (World.alloc w _) _ = W2
  have HB2 : Aside0 (Below w.heap.size w W2) := ⟨by rw [← hWq]; exact below_alloc (below_alloc (Below.refl _ _) _) _⟩
  have HX2 : Aside0 (Wk.Blk W2 w.heap.size 42 Ps.z5) := ⟨by rw [← hWq]; exact (Wk.Blk.new w _ Ps.z5).alloc _⟩
  clear hWq c1 c2 HLO HA
  refine (lent_.calls i q s A0 n0 d0 l0 A1 n1 d1 l1 W2 (Kd.C_below HG0.out HB2.out) HN0.out hc0 (by omega) (Kd.C_below HG1.out HB2.out) HN1.out hc1 (by omega)).mono ?_
  rintro e w3 ⟨A2, e2, A3, e3, rfl, he2, he3, hR2, hR3, hb3⟩
  have HR2 := Aside0.mk hR2
  have HR3 := Aside0.mk hR3
  have HX3 := Aside0.mk (HX2.out.below_ hb3)
  have HB3 := Aside0.mk (below_then HB2.out HB2.out.size hb3)
  clear hR2 hR3 hb3 HX2
  go_wp2_with (refine Wk.store_all rfl rfl 42 (.tmp 4) (.tmp 18) rfl w.heap.size (Ps.tv i q s (.slice A2 n0 e2) (.slice A3 n1 e3)) rfl rfl 42 _ HX3.out HSZ.out rfl rfl ?_; intro w4 hX hO; have HX4 := Aside0.mk hX; have HO4 := Aside0.mk hO; clear hX hO)
  refine bodyPost_ret (Wk.res_ct rfl _ w.heap.size 42 _ _ rfl HX4.out Tryd.underlying42 rfl HSZ.out) rfl ?_
  have hne : ∀ q, q ∈ 5 :: (Kd.int .u8).E → q ≠ 42 := by decide
  have hne' : ∀ q, q ∈ 23 :: (Kd.int .u32).E → q ≠ 42 := by decide
  exact ⟨Wk.Only.below HB3.out HO4.out (Nat.le_refl _), A2, e2, A3, e3, rfl, he2, he3, Kd.R_lower (Wk.R_only HR2.out HX3.out hne HO4.out) HB2.out.size, Kd.R_lower (Wk.R_only HR3.out HX3.out hne' HO4.out) HB2.out.size⟩
end Go.Proofs.YtabdnlecpndfjaaDoor
set_option linter.unusedVariables false
set_option linter.unusedSimpArgs false
namespace Go.Proofs.YtabdnlecpndfjaaDoor
open Go.RowKit Go.Proofs.YtabdnlecpndfjaaDoorW.PrintWords
namespace Sh
open PBase
theorem wrap_toNat (x : BitVec 8) : IntKind.u8.wrap (x.toNat : Int) = (x.toNat : Int) := by
  rw [IntKind.wrap_u8]
  have := x.isLt
  omega
theorem ofInt_wrap (x : BitVec 8) : BitVec.ofInt 8 (IntKind.u8.wrap (x.toNat : Int)) = x := by
  rw [wrap_toNat]
  apply BitVec.eq_of_toNat_eq
  rw [BitVec.ofInt_natCast, BitVec.toNat_ofNat]
  exact Nat.mod_eq_of_lt x.isLt
theorem ofInt_inj (a b : Int) (ha : 0 ≤ a ∧ a ≤ 255) (hb : 0 ≤ b ∧ b ≤ 255) (h : BitVec.ofInt 8 a = BitVec.ofInt 8 b) : a = b := by
  obtain ⟨m, rfl⟩ := Int.eq_ofNat_of_zero_le ha.1
  obtain ⟨n, rfl⟩ := Int.eq_ofNat_of_zero_le hb.1
  have := congrArg BitVec.toNat h
  rw [BitVec.ofInt_natCast, BitVec.ofInt_natCast, BitVec.toNat_ofNat, BitVec.toNat_ofNat, Nat.mod_eq_of_lt (by omega), Nat.mod_eq_of_lt (by omega)] at this
  rw [this]
theorem or_xor_zero (x a b : Int) (hx : 0 ≤ x ∧ x ≤ 255) (ha : 0 ≤ a ∧ a ≤ 255) (hb : 0 ≤ b ∧ b ≤ 255) : bits .or .u8 x (bits .xor .u8 a b) = 0 ↔ x = 0 ∧ a = b := by
  have hxor : BitVec.ofInt 8 (bits .xor .u8 a b) = BitVec.ofInt 8 a ^^^ BitVec.ofInt 8 b := ofInt_wrap (BitVec.ofInt 8 a ^^^ BitVec.ofInt 8 b)
  have hor : bits .or .u8 x (bits .xor .u8 a b) = ((BitVec.ofInt 8 x ||| (BitVec.ofInt 8 a ^^^ BitVec.ofInt 8 b)).toNat : Int) := by
    rw [← hxor]
    exact wrap_toNat (BitVec.ofInt 8 x ||| BitVec.ofInt 8 (bits .xor .u8 a b))
  rw [hor]
  constructor
  · intro h
    have h0 : BitVec.ofInt 8 x ||| (BitVec.ofInt 8 a ^^^ BitVec.ofInt 8 b) = 0#8 := by
      apply BitVec.eq_of_toNat_eq
      have : (BitVec.ofInt 8 x ||| (BitVec.ofInt 8 a ^^^ BitVec.ofInt 8 b)).toNat = 0 := by omega
      rw [this]; rfl
    rw [BitVec.or_eq_zero_iff, BitVec.xor_eq_zero_iff] at h0
    refine ⟨ofInt_inj x 0 hx (by omega) (h0.1.trans rfl), ofInt_inj a b ha hb h0.2⟩
  · rintro ⟨rfl, rfl⟩
    rw [BitVec.xor_self]
    rfl
theorem rd_nat' (l : List Int) (i : Nat) : rd l (i : Int) = l.getD i 0 := by simp [rd, List.getD_eq_getElem?_getD]
theorem same_loop (l0 l1 : List Int) (h : l0.length = l1.length) (hm : l0.length ≤ 4611686018427387904) (hb0 : Bytes l0) (hb1 : Bytes l1) : ∀ (d i k : Nat) (x : Int), i + d = l0.length → d < k → (0 ≤ x ∧ x ≤ 255) →
    mac_Same.l0 k l0 l1 x (l0.length : Int) i = some (decide (x = 0 ∧ l0.drop i = l1.drop i))
  | 0, i, k, x, hi, hk, hx => by
    obtain ⟨k, rfl⟩ : ∃ m, k = m + 1 := ⟨k - 1, by omega⟩
    rw [mac_Same.l0, if_neg (by omega), List.drop_of_length_le (by omega), List.drop_of_length_le (by omega)]
    simp [Bool.beq_eq_decide_eq]
  | d + 1, i, k, x, hi, hk, hx => by
    obtain ⟨k, rfl⟩ : ∃ m, k = m + 1 := ⟨k - 1, by omega⟩
    have h0 : i < l0.length := by omega
    have h1 : i < l1.length := by omega
    have e1 : wrap64 ((i : Int) + 1) = ((i + 1 : Nat) : Int) := by unfold wrap64; omega
    rw [mac_Same.l0, e1]
    clear e1
    rw [if_pos (by omega), if_pos (by omega), if_pos (by omega), if_pos (by omega), rd_nat', rd_nat']
    have g0 : l0.getD i 0 = l0[i] := by rw [List.getD_eq_getElem?_getD, List.getElem?_eq_getElem h0]; rfl
    have g1 : l1.getD i 0 = l1[i] := by rw [List.getD_eq_getElem?_getD, List.getElem?_eq_getElem h1]; rfl
    have b0 := hb0 _ (List.getElem_mem h0)
    have b1 := hb1 _ (List.getElem_mem h1)
    rw [same_loop l0 l1 h hm hb0 hb1 d (i + 1) k _ (by omega) (by omega) ⟨bits_lo_u8 _ _ _, bits_hi_u8 _ _ _⟩, g0, g1]
    rw [List.drop_eq_getElem_cons h0, List.drop_eq_getElem_cons h1]
    congr 1
    rw [decide_eq_decide, or_xor_zero x _ _ hx b0 b1, List.cons.injEq, and_assoc]
theorem same_is (l0 l1 : List Int) (hm : l0.length ≤ 4611686018427387904) (hb0 : Bytes l0) (hb1 : Bytes l1) (k : Nat) (hk : l0.length < k) : mac_Same.f k l0 l1 = some (decide (l0 = l1)) := by
  unfold mac_Same.f
  by_cases h : l0.length = l1.length
  · rw [if_pos (by omega)]
    have := same_loop l0 l1 h hm hb0 hb1 l0.length 0 k 0 (by omega) hk (by omega)
    rw [List.drop_zero, List.drop_zero] at this
    refine this.trans ?_
    simp
  · rw [if_neg (by omega)]
    have : l0 ≠ l1 := fun e => h (by rw [e])
    simp [this]
end Sh
theorem same_.calls (A0 : Option Addr) (c0 : Nat) (l0 : List Int) (A1 : Option Addr) (c1 : Nat) (l1 : List Int) (w : World) (hr0 : Kd.C (Kd.int .u8) w A0 l0.length l0) (hc0 : l0.length ≤ c0) (hr1 : Kd.C (Kd.int .u8) w A1 l1.length l1) (hc1 : l1.length ≤ c1)
    (hm : l0.length ≤ 4611686018427387904) (hb0 : Sh.Bytes l0) (hb1 : Sh.Bytes l1) :
    Calls Tryd.prog 35 #[.slice A0 l0.length c0, .slice A1 l1.length c1] w fun e w' => e = .returned (.bool (decide (l0 = l1))) ∧ ∃ m, w' = w.drewN m :=
  (PBase.mac_Same.calls (l0.length + 1) A0 c0 l0 A1 c1 l1 _ w hr0 hc0 hr1 hc1 (Sh.same_is l0 l1 hm hb0 hb1 _ (Nat.lt_succ_self _))).mono fun _ _ ⟨h1, h2⟩ => ⟨h1, h2.out⟩
end Go.Proofs.YtabdnlecpndfjaaDoor
set_option linter.unusedVariables false
set_option linter.unusedSimpArgs false
namespace Go.Proofs.YtabdnlecpndfjaaDoor
open Go.RowKit Go.Proofs.YtabdnlecpndfjaaDoor.PBase Go.Proofs.YtabdnlecpndfjaaDoorW.PrintWords Go.Proofs.YtabdnlecpndfjaaDoorW.PrintLast Go.Proofs.YtabdnlecpndfjaaDoorW.PrintMore
namespace Ps
theorem same1_ {A0 A1 : Option Addr} {n0 n1 c0 c1 : Nat} {l0 l1 : List Int} {w : World} (h0 : Kd.C (Kd.int .u8) w A0 l0.length l0) (hn0 : l0.length = n0) (hc0 : n0 ≤ c0) (h1 : Kd.C (Kd.int .u8) w A1 l1.length l1) (hn1 : l1.length = n1) (hc1 : n1 ≤ c1) (hm : n0 ≤ 4611686018427387904) (hb0 : Sh.Bytes l0) (hb1 : Sh.Bytes l1) {b : Bool} (hb : decide (l0 = l1) = b) :
    Calls Tryd.prog 35 #[.slice A0 n0 c0, .slice A1 n1 c1] w fun e w' => e = .returned (.bool b) ∧ Below w.heap.size w w' := by
  subst hn0; subst hn1; subst hb
  exact (same_.calls A0 c0 l0 A1 c1 l1 w h0 hc0 h1 hc1 hm hb0 hb1).mono (fun _ _ ⟨a, m, hm⟩ => ⟨a, by rw [hm]; exact pw_below_drewN (Below.refl _ _) m⟩)
theorem cont_ {A : Option Addr} {n c : Nat} {l : List Int} {x : Int} {w : World} (h : Kd.C (Kd.int .u32) w A l.length l) (hn : l.length = n) (hc : n ≤ c) (hm : n ≤ 1000000) {b : Bool} (hb : decide (x ∈ l) = b) :
    Calls Tryd.prog 36 #[.slice A n c, .int .u32 x] w fun e w' => e = .returned (.bool b) ∧ Below w.heap.size w w' := by
  subst hn; subst hb
  exact (slices_Contains_uint32_uint32.calls (l.length + 1) A c l x _ w h hc (contains_is l x hm _ (Nat.lt_succ_self _))).mono (fun _ _ ⟨a, h⟩ => ⟨a, by obtain ⟨m, hm⟩ := h.out; rw [hm]; exact pw_below_drewN (Below.refl _ _) m⟩)
theorem token_ {A : Option Addr} {n c : Nat} {l : List Int} {w : World} (h : Kd.C (Kd.int .u8) w A l.length l) (hn : l.length = n) (hc : n ≤ c) (hb : Sh.Bytes l) (h18 : 18 ≤ n) {a b d : Int} {ro : Bool} (ht : tok l = (a, b, ro, d)) :
    Calls Tryd.prog 31 #[.slice A n c] w fun e w' => e = .returned (.agg #[.int .u32 a, .int .u32 b, .bool ro, .int .u64 d]) ∧ Below w.heap.size w w' := by
  subst hn
  exact pass_token.calls 10 A c l a b ro d w h hc ((token_is l hb h18 10 (by decide)).trans (by rw [ht]))
theorem cutTo {A : Option Addr} {n c : Nat} {l : List Int} (hn : l.length = n) (h : 18 ≤ n) (hc : n ≤ c) : ∀ W : World, (Instr.slice 22 (.slice A n c) none (some (.int .i64 18)) none).run Tryd.prog W = .ok (.slice A 18 c) W := by
  subst hn
  exact Wk.cut_to_ 22 5 .i64 Tryd.underlying22 (by kernel_rfl) A c l 18 18 rfl h hc
theorem cutFrom {A : Option Addr} {n c : Nat} {l : List Int} (hn : l.length = n) (h : 18 ≤ n) (hc : n ≤ c) : ∃ A' : Option Addr, (∀ W : World, (Instr.slice 22 (.slice A n c) (some (.int .i64 18)) none none).run Tryd.prog W = .ok (.slice A' (n - 18) (c - 18)) W) ∧
      ∀ W : World, Kd.C (Kd.int .u8) W A l.length l → Kd.C (Kd.int .u8) W A' (l.drop 18).length (l.drop 18) := by
  subst hn
  exact Wk.cut_from_ 22 5 .i64 Tryd.underlying22 (by kernel_rfl) .u8 A c l 18 18 rfl h hc
abbrev zt4 : List Value := [.int .u32 0, .int .u32 0, .bool false, .int .u64 0]
def ChPost (w : World) (l : List Tn) (s : ByteArray) (e : Ending) (w' : World) : Prop :=
  e = .returned (.tuple #[.agg (tkc (check l s).1).toArray, .int .u16 (check l s).2]) ∧ Below w.heap.size w w'
theorem check_form {l : List Tn} {s : ByteArray} (h : ¬ is s = true) : check l s = (zt, 50) := if_neg h
theorem check_none {l : List Tn} {s : ByteArray} (h : is s = true) (hf : find l (tok (got s)).1 = none) : check l s = (zt, 51) := by
  unfold check
  rw [if_pos h, hf]
theorem check_some {l : List Tn} {s : ByteArray} (h : is s = true) {x : Tn} (hf : find l (tok (got s)).1 = some x) : check l s = verdict x (got s) := by
  unfold check
  rw [if_pos h, hf]
end Ps
set_option maxHeartbeats 4000000 in
set_option maxRecDepth 100000 in
theorem check_.calls (p base : Nat) (l : List Ps.Tn) (s : ByteArray) (w : World) (hk : Sh.Ks w) (hT : Ps.Tb w base p l) (hs : s.size ≤ 1000000) (hW : ∀ x ∈ l, Ps.TnWf x) :
    Calls Tryd.prog 16 #[.pointer (some ⟨p, 0, none⟩), .string s] w (Ps.ChPost w l s) := by
  obtain ⟨bm, _, _, hP, hM⟩ := hT
  have HP := Aside0.mk hP
  have HM := Aside0.mk hM
  have HK := Aside0.mk hk
  have HW := Aside0.mk hW
  have HSZ := Aside0.mk Ps.sizeTn
  have HSK := Aside0.mk Ps.sizeTk
  have HZ4 : Aside0 (Below w.heap.size w (w.alloc (.cells Ps.zt4.toArray 26))) := ⟨below_alloc (Below.refl _ _) _⟩
  have HX4 : Aside0 (Wk.Blk (w.alloc (.cells Ps.zt4.toArray 26)) w.heap.size 26 Ps.zt4) := ⟨Wk.Blk.new w _ Ps.zt4⟩
  clear hP hM hk hW
  go_enter Tryd.func16, Tryd.ntmps16
  go_wp2_with fail
  refine (pass_read.calls (s.size + 2) s (Ps.got s) (Ps.is s) _ (Ps.read_is s hs _ (Nat.lt_succ_self _))).mono ?_
  rintro e w2 ⟨v2, rfl, hR2, hb2⟩
  obtain ⟨A2, c2, rfl⟩ := Kd.R_slice hR2
  obtain ⟨m, HMM⟩ : ∃ n, Aside0 ((Ps.got s).length = n) := ⟨_, ⟨rfl⟩⟩
  have HX2 := Aside0.mk (HX4.out.below_ hb2)
  have HB2 := Aside0.mk (below_then HZ4.out HZ4.out.size hb2)
  obtain ⟨hc2, hC2⟩ : (Ps.got s).length ≤ c2 ∧ Kd.C (Kd.int .u8) w2 A2 (Ps.got s).length (Ps.got s) := by
    obtain ⟨A', c', he, h1, h2⟩ := Kd.R_reads hR2
    injection he with e1 e2 e3
    subst e1; subst e3
    exact ⟨h1, h2⟩
  rw [HMM.out] at hc2 ⊢
  have HC2 := Aside0.mk hC2
  obtain ⟨fi, HFI⟩ : ∃ b, Aside0 (Ps.is s = b) := ⟨_, ⟨rfl⟩⟩
  rw [HFI.out]
  clear hR2 hb2 hC2 HZ4 HX4
  cases fi with
  | false =>
    go_wp2_with (refine Wk.store_all rfl rfl 26 (.tmp 4) (.tmp 19) rfl w.heap.size Ps.zt4 rfl rfl 26 _ HX2.out HSK.out rfl rfl ?_; intro wz hX hO; have HXZ := Aside0.mk hX; have HOZ := Aside0.mk hO; clear hX hO)
    refine bodyPost_ret (Wk.res_ct rfl _ w.heap.size 26 _ _ rfl HXZ.out Tryd.underlying26 rfl HSK.out) rfl ?_
    refine ⟨?_, Wk.Only.below HB2.out HOZ.out (Nat.le_refl _)⟩
    rw [Ps.check_form (by rw [HFI.out]; exact Bool.false_ne_true)]
    rfl
  | true =>
    obtain ⟨hfm, hgb, -⟩ := Ps.got_of s HFI.out
    have hm50 : m = 50 := by
      unfold Ps.form at hfm
      rw [decide_eq_true_eq] at hfm
      rw [← HMM.out]
      exact hfm.1
    have HGB := Aside0.mk hgb
    have HM50 := Aside0.mk hm50
    have hwf := Ps.tok_wf _ hgb
    obtain ⟨tk, HTK⟩ : ∃ t, Aside0 (Ps.tok (Ps.got s) = t) := ⟨_, ⟨rfl⟩⟩
    rw [HTK.out] at hwf
    obtain ⟨ti, se, ro, sz⟩ := tk
    have HTW : Aside0 ((0 ≤ ti ∧ ti < 4294967296) ∧ (0 ≤ se ∧ se < 4294967296) ∧ (0 ≤ sz ∧ sz < 18446744073709551616)) := ⟨hwf⟩
    clear hwf
    clear hfm hgb hm50 hs
    go_wp2_with fail
    refine (Ps.token_ HC2.out HMM.out hc2 HGB.out (by rw [HM50.out]; decide) HTK.out).mono ?_
    rintro e w3 ⟨rfl, hb3⟩
    have HB3 := Aside0.mk (below_then HB2.out HB2.out.size hb3)
    have HX3 := Aside0.mk (HX2.out.below_ hb3)
    have HC3 := Aside0.mk (Kd.C_below HC2.out hb3)
    clear hb3 HX2 HC2 HB2
    go_wp2_with fail
    generalize hWq : World.alloc w3 _ = w4
    have HB4 : Aside0 (Below w.heap.size w w4) := ⟨by rw [← hWq]; exact HB3.out.alloc HB3.out.size _⟩
    have HBD : Aside0 (Below w3.heap.size w3 w4) := ⟨by rw [← hWq]; exact below_alloc (Below.refl _ _) _⟩
    have HK4 : Aside0 (Wk.Blk w4 w3.heap.size 26 (Ps.tkc (ti, se, ro, sz))) := ⟨by rw [← hWq]; exact Wk.Blk.new w3 _ (Ps.tkc (ti, se, ro, sz))⟩
    have HX4 := Aside0.mk (HX3.out.below_ HBD.out)
    have HC4 := Aside0.mk (Kd.C_below HC3.out HBD.out)
    have HP4 := Aside0.mk (HP.out.below_ HB4.out)
    obtain ⟨g8, HG8⟩ : ∃ b, Aside0 (w3.heap.size = b) := ⟨_, ⟨rfl⟩⟩
    rw [HG8.out] at HK4 ⊢
    clear hWq HB3 HX3 HC3 HBD HG8 HP
    obtain ⟨A0, d0, A1, d1, hlo, hc0, hc1, g0, g1⟩ := (HM.out.below HB4.out).looks ti HTW.out.1.1 HTW.out.1.2
    obtain ⟨hwf, hwn⟩ : Ps.TnWf ((Ps.find l ti).getD Ps.zn) ∧ ((Ps.find l ti).isSome = true → Ps.find l ti = some ((Ps.find l ti).getD Ps.zn)) := ⟨Ps.got_wf HW.out ti, fun h => by
      obtain ⟨y, hy⟩ := Option.isSome_iff_exists.1 h
      rw [hy]; rfl⟩
    obtain ⟨fd, HFD⟩ : ∃ b, Aside0 ((Ps.find l ti).isSome = b) := ⟨_, ⟨rfl⟩⟩
    obtain ⟨x, HXX⟩ : ∃ x, Aside0 ((Ps.find l ti).getD Ps.zn = x) := ⟨_, ⟨rfl⟩⟩
    rw [HXX.out] at hlo hc0 hc1 g0 g1 hwf hwn
    rw [HFD.out] at hlo hwn
    have HFN := Aside0.mk hwn
    obtain ⟨i, l0, q, sx, l1⟩ := x
    obtain ⟨_, hm0, hm1, hby⟩ := hwf
    change l0.length ≤ 1000 at hm0
    change l1.length ≤ 1000 at hm1
    simp only [Ps.tnc] at hlo hc0 hc1 g0 g1
    have HG0 := Aside0.mk g0
    have HG1 := Aside0.mk g1
    have HBY : Aside0 (Sh.Bytes l0) := ⟨hby⟩
    obtain ⟨n0, HN0⟩ : ∃ n, Aside0 (l0.length = n) := ⟨_, ⟨rfl⟩⟩
    obtain ⟨n1, HN1⟩ : ∃ n, Aside0 (l1.length = n) := ⟨_, ⟨rfl⟩⟩
    rw [HN0.out] at hm0 hc0 hlo
    rw [HN1.out] at hm1 hc1 hlo
    have HLO := Aside0.mk hlo
    clear g0 g1 hby hlo hwn HXX
    refine wp_region_noPanic ?_
    refine start_ (n := 13) (S := (fun w' => Below w4.heap.size w4 w')) (ds := [11]) #[false, false, false, false, false, false, false, false, false, false, false, false, false] (by kernel_rfl) rfl rfl (Below.refl _ _).drew (fun hHeld => ?_)
    refine pure_ (i := 0) (N := (some 23)) (v := ?_) (a' := ?_) #[true, false, false, false, false, false, false, false, false, false, false, false, false] rfl rfl (by kernel_rfl) (fun _ _ _ h => h) (Or.inl ⟨by rfl, ?_⟩) ?_ ?_
    rotate_left
    · intro w'
      go_simp
      with_reducible rfl
    rotate_left
    · simp only [Act.put, List.setIfInBounds_toArray, List.set_cons_zero, List.set_cons_succ]
      rfl
    refine pure_ (i := 1) (N := (some 24)) (v := ?_) (a' := ?_) #[true, true, false, false, false, false, false, false, false, false, false, false, false] rfl rfl (by kernel_rfl) (fun _ _ _ h => h) (Or.inl ⟨by rfl, ?_⟩) ?_ ?_
    rotate_left
    · intro w'
      go_simp
      with_reducible rfl
    rotate_left
    · simp only [Act.put, List.setIfInBounds_toArray, List.set_cons_zero, List.set_cons_succ]
      rfl
    refine pure_ (i := 2) (N := (some 25)) (v := ?_) (a' := ?_) #[true, true, true, false, false, false, false, false, false, false, false, false, false] rfl rfl (by kernel_rfl) (fun _ _ _ h => h) (Or.inl ⟨by rfl, ?_⟩) ?_ ?_
    rotate_left
    · intro w'
      go_simp
      with_reducible rfl
    rotate_left
    · simp only [Act.put, List.setIfInBounds_toArray, List.set_cons_zero, List.set_cons_succ]
      rfl
    refine take_ (i := 3) (N := (some 26)) (v := ?_) (a' := ?_) #[true, true, true, true, false, false, false, false, false, false, false, false, false] rfl rfl (by kernel_rfl) (fun _ _ _ h => h) (Or.inl ⟨by rfl, ?_⟩) hHeld ?_ ?_
    rotate_left
    · intro w' hS'
      (have c1 := (HP4.out.below_ hS').at_ 0 rfl; go_simp)
      with_reducible rfl
    rotate_left
    · simp only [Act.put, List.setIfInBounds_toArray, List.set_cons_zero, List.set_cons_succ]
      rfl
    refine pure_ (i := 4) (N := (some 27)) (v := ?_) (a' := ?_) #[true, true, true, true, true, false, false, false, false, false, false, false, false] rfl rfl (by kernel_rfl) (fun _ _ _ h => h) (Or.inl ⟨by rfl, ?_⟩) ?_ ?_
    rotate_left
    · intro w'
      go_simp
      with_reducible rfl
    rotate_left
    · simp only [Act.put, List.setIfInBounds_toArray, List.set_cons_zero, List.set_cons_succ]
      rfl
    refine take_ (i := 5) (N := (some 28)) (v := ?_) (a' := ?_) #[true, true, true, true, true, true, false, false, false, false, false, false, false] rfl rfl (by kernel_rfl) (fun _ _ _ h => h) (Or.inl ⟨by rfl, ?_⟩) hHeld ?_ ?_
    rotate_left
    · intro w' hS'
      (have c1 := (HK4.out.below_ hS').at_ 0 rfl; go_simp)
      with_reducible rfl
    rotate_left
    · simp only [Act.put, List.setIfInBounds_toArray, List.set_cons_zero, List.set_cons_succ]
      rfl
    refine take_ (i := 6) (N := (some 29)) (v := ?_) (a' := ?_) #[true, true, true, true, true, true, true, false, false, false, false, false, false] rfl rfl (by kernel_rfl) (fun _ _ _ h => h) (Or.inl ⟨by rfl, ?_⟩) hHeld ?_ ?_
    rotate_left
    · intro w' hS'
      (have c1 := HLO.out w' hS'; go_simp)
      with_reducible rfl
    rotate_left
    · simp only [Act.put, List.setIfInBounds_toArray, List.set_cons_zero, List.set_cons_succ]
      rfl
    refine pure_ (i := 7) (N := (some 22)) (v := ?_) (a' := ?_) #[true, true, true, true, true, true, true, true, false, false, false, false, false] rfl rfl (by kernel_rfl) (fun _ _ _ h => h) (Or.inl ⟨by rfl, ?_⟩) ?_ ?_
    rotate_left
    · intro w'
      go_simp
      with_reducible rfl
    rotate_left
    · simp only [Act.put, List.setIfInBounds_toArray, List.set_cons_zero, List.set_cons_succ]
      rfl
    refine pure_ (i := 8) (N := (some 30)) (v := ?_) (a' := ?_) #[true, true, true, true, true, true, true, true, true, false, false, false, false] rfl rfl (by kernel_rfl) (fun _ _ _ h => h) (Or.inl ⟨by rfl, ?_⟩) ?_ ?_
    rotate_left
    · intro w'
      go_simp
      with_reducible rfl
    rotate_left
    · simp only [Act.put, List.setIfInBounds_toArray, List.set_cons_zero, List.set_cons_succ]
      rfl
    refine pure_ (i := 9) (N := (some 31)) (v := ?_) (a' := ?_) #[true, true, true, true, true, true, true, true, true, true, false, false, false] rfl rfl (by kernel_rfl) (fun _ _ _ h => h) (Or.inl ⟨by rfl, ?_⟩) ?_ ?_
    rotate_left
    · intro w'
      go_simp
      with_reducible rfl
    rotate_left
    · simp only [Act.put, List.setIfInBounds_toArray, List.set_cons_zero, List.set_cons_succ]
      rfl
    refine one_ (i := 10) (N := (some 9)) #[true, true, true, true, true, true, true, true, true, true, true, false, false] rfl rfl (by kernel_rfl) (by decide) (fun K hK => ?_)
    refine value_ (w1 := w4.drew.alloc (.cells Ps.z5.toArray 42)) (v := .pointer (some ⟨w4.drew.heap.size, 0, none⟩)) (by rfl) rfl (by go_simp) ?_
    refine hK.out _ _ (hHeld.alloc hHeld.size _) (fun hHeld => ?_)
    clear hK K
    refine norm_ (a' := ?_) ?_ ?_
    rotate_left
    · show Act.put _ (some 9) _ = _
      simp only [Act.put, List.setIfInBounds_toArray, List.set_cons_zero, List.set_cons_succ]
      rfl
    refine last_ (i := 11) (N := none) #[true, true, true, true, true, true, true, true, true, true, true, true, false] rfl rfl (by kernel_rfl) (by decide) (fun K hK => ?_)
    refine Wk.store_all_step (by rfl) rfl 42 (.tmp 9) (.tmp 30) rfl w4.drew.heap.size (Ps.tv i q sx (.slice A0 n0 d0) (.slice A1 n1 d1)) rfl rfl 42 Ps.z5 (Wk.Blk.new w4.drew 42 Ps.z5) HSZ.out rfl rfl ?_
    intro w5 hX hO
    have HX9 := Aside0.mk hX
    have HO5 := Aside0.mk hO
    clear hX hO
    refine hK.out _ _ ?_
    clear hK K
    refine pure_ (i := 12) (N := (some 10)) (v := ?_) (a' := ?_) #[true, true, true, true, true, true, true, true, true, true, true, true, true] rfl rfl (by kernel_rfl) (fun _ _ _ h => h) (Or.inl ⟨by rfl, ?_⟩) ?_ ?_
    rotate_left
    · intro w'
      go_simp
      with_reducible rfl
    rotate_left
    · simp only [Act.put, List.setIfInBounds_toArray, List.set_cons_zero, List.set_cons_succ]
      rfl
    refine done_ (by kernel_rfl) ?_
    refine NoPanic.normal ?_
    have HF5 := Aside0.mk (Wk.Only.fresh (w := w4.drew) HB4.out.drew HB4.out.size HO5.out)
    have HBD : Aside0 (Below w4.heap.size w4 w5) := ⟨Below.trans (Below.refl _ _).drew HF5.out.2.2⟩
    have HB5 : Aside0 (Below w.heap.size w w5) := ⟨HF5.out.2.1⟩
    have HX5 := Aside0.mk (HX4.out.below_ HBD.out)
    have HK5 := Aside0.mk (HK4.out.below_ HBD.out)
    have HC5 := Aside0.mk (Kd.C_below HC4.out HBD.out)
    have HG05 := Aside0.mk (Kd.C_below HG0.out HBD.out)
    have HG15 := Aside0.mk (Kd.C_below HG1.out HBD.out)
    obtain ⟨g9, HG9⟩ : ∃ b, Aside0 (w4.drew.heap.size = b) := ⟨_, ⟨rfl⟩⟩
    rw [HG9.out] at HX9 ⊢
    clear HBD HF5 HO5 HX4 HK4 HC4 HP4 HB4 HG0 HG1 HLO HG9 hHeld HM
    cases fd with
    | false =>
      go_wp2_with (refine Wk.store_all rfl rfl 26 (.tmp 4) (.tmp 34) rfl w.heap.size Ps.zt4 rfl rfl 26 _ HX5.out HSK.out rfl rfl ?_; intro wz hX hO; have HXZ := Aside0.mk hX; have HOZ := Aside0.mk hO; clear hX hO)
      refine bodyPost_ret (Wk.res_ct rfl _ w.heap.size 26 _ _ rfl HXZ.out Tryd.underlying26 rfl HSK.out) rfl ?_
      refine ⟨?_, Wk.Only.below HB5.out HOZ.out (Nat.le_refl _)⟩
      rw [Ps.check_none HFI.out (by rw [HTK.out]; exact Option.isNone_iff_eq_none.1 (by have := HFD.out; rw [Option.isNone_iff_eq_none]; cases h : Ps.find l ti with | none => rfl | some y => rw [h] at this; cases this))]
      rfl
    | true =>
      have HFS : Aside0 (Ps.check l s = Ps.verdict ⟨i, l0, q, sx, l1⟩ (Ps.got s)) := ⟨Ps.check_some HFI.out (by rw [HTK.out]; exact HFN.out rfl)⟩
      clear HFN HFD
      go_wp2_with fail
      have hcut := Ps.cutTo (A := A2) HMM.out (by rw [HM50.out]; decide) hc2
      obtain ⟨A3, hcutf, hcf⟩ := Ps.cutFrom (A := A2) HMM.out (by rw [HM50.out]; decide) hc2
      have HCF : Aside0 (∀ W : World, Kd.C (Kd.int .u8) W A2 (Ps.got s).length (Ps.got s) → Kd.C (Kd.int .u8) W A3 ((Ps.got s).drop 18).length ((Ps.got s).drop 18)) := ⟨hcf⟩
      clear hcf
      obtain ⟨bd, HBD⟩ : ∃ l, Aside0 ((Ps.got s).take 18 = l) := ⟨_, ⟨rfl⟩⟩
      have HBL : Aside0 (bd.length = 18) := ⟨by rw [← HBD.out, List.length_take, HMM.out, HM50.out]; rfl⟩
      have HBB : Aside0 (Sh.Bytes bd) := ⟨by rw [← HBD.out]; exact fun x hx => HGB.out x (List.mem_of_mem_take hx)⟩
      have HCT : Aside0 (∀ W : World, Kd.C (Kd.int .u8) W A2 (Ps.got s).length (Ps.got s) → Kd.C (Kd.int .u8) W A2 bd.length bd) := ⟨fun W h => by
        rw [← HBD.out]
        exact Kd.C_take h (by rw [HMM.out, HM50.out]; decide)⟩
      obtain ⟨D, HDD⟩ : ∃ D, Aside0 (Sh.u8s (Sh.hm l0 bd) = D) := ⟨_, ⟨rfl⟩⟩
      have HIF := Aside0.mk (Sh.tag_info HDD.out)
      have HOF : Aside0 (∀ (W : World) (b : Nat), Below w5.heap.size w5 W → W.cell? ⟨b, 0, none⟩ = some (.slice A2 18 c2) → Calls Tryd.prog 25 #[.slice A0 n0 d0, .slice (some ⟨b, 0, none⟩) 1 1] W fun e w' => e = .returned (.agg D) ∧ Below W.heap.size W w') := ⟨fun W b hb hc =>
        Sh.of1_ (HK.out.below (below_then HB5.out HB5.out.size hb)) (Kd.C_below HG05.out hb) HN0.out hc0 HBY.out (by omega) (HCT.out W (Kd.C_below HC5.out hb)) HBL.out (by have := HM50.out; omega) HBB.out (by decide) hc HDD.out⟩
      refine wp_region_noPanic ?_
      refine start_ (n := 8) (S := (fun w' => Below w5.heap.size w5 w')) (ds := [7]) #[false, false, false, false, false, false, false, false] (by kernel_rfl) rfl rfl (Below.refl _ _).drew (fun hHeld => ?_)
      refine pure_ (i := 0) (N := (some 35)) (v := ?_) (a' := ?_) #[true, false, false, false, false, false, false, false] rfl rfl (by kernel_rfl) (fun _ _ _ h => h) (Or.inl ⟨by rfl, ?_⟩) ?_ ?_
      rotate_left
      · intro w'
        go_simp
        with_reducible rfl
      rotate_left
      · simp only [Act.put, List.setIfInBounds_toArray, List.set_cons_zero, List.set_cons_succ]
        rfl
      refine take_ (i := 1) (N := (some 36)) (v := ?_) (a' := ?_) #[true, true, false, false, false, false, false, false] rfl rfl (by kernel_rfl) (fun _ _ _ h => h) (Or.inl ⟨by rfl, ?_⟩) hHeld ?_ ?_
      rotate_left
      · intro w' hS'
        (have c1 := (HX9.out.below_ hS').at_ 1 rfl; go_simp)
        with_reducible rfl
      rotate_left
      · simp only [Act.put, List.setIfInBounds_toArray, List.set_cons_zero, List.set_cons_succ]
        rfl
      refine pure_ (i := 2) (N := (some 37)) (v := ?_) (a' := ?_) #[true, true, true, false, false, false, false, false] rfl rfl (by kernel_rfl) (fun _ _ _ h => h) (Or.inl ⟨by rfl, ?_⟩) ?_ ?_
      rotate_left
      · intro w'
        go_simp
        with_reducible rfl
      rotate_left
      · simp only [Act.put, List.setIfInBounds_toArray, List.set_cons_zero, List.set_cons_succ]
        rfl
      refine pure_ (i := 3) (N := (some 38)) (v := ?_) (a' := ?_) #[true, true, true, true, false, false, false, false] rfl rfl (by kernel_rfl) (fun _ _ _ h => h) (Or.inl ⟨by rfl, ?_⟩) ?_ ?_
      rotate_left
      · intro w'
        (have h1 := hcut w'; go_simp)
        with_reducible rfl
      rotate_left
      · simp only [Act.put, List.setIfInBounds_toArray, List.set_cons_zero, List.set_cons_succ]
        rfl
      have HH := Aside0.mk hHeld
      generalize w5.drew = w6 at hHeld HH ⊢
      refine join_ (σ := Nat × Nat) (fuel' := 1) #[true, true, true, true, true, true, true, false] (fun s => [(39, .slice (some ⟨s.1, 0, none⟩) 1 1), (40, .agg D), (11, .pointer (some ⟨s.2, 0, none⟩))]) (fun s w' => Below w6.heap.size w6 w' ∧ w6.heap.size ≤ s.2 ∧ w'.heap[s.2]? = some (.cells (Sh.u8s (List.replicate 32 0)) 59 (0, 0))) ?_ (fun hJ => ?_)
      · rintro ⟨b4, b11⟩ w7 ⟨hB7, hge, hO7⟩
        refine norm_ (a' := ?_) ?_ ?_
        rotate_left
        · show Act.put (Act.put (Act.put _ (some 39) _) (some 40) _) (some 11) _ = _
          simp only [Act.put, List.setIfInBounds_toArray, List.set_cons_zero, List.set_cons_succ]
          rfl
        change w7.heap[b11]? = _ at hO7
        change w6.heap.size ≤ b11 at hge
        refine last_ (i := 7) (N := none) #[true, true, true, true, true, true, true, true] rfl rfl (by kernel_rfl) (by decide) (fun K hK => ?_)
        refine skip_ (w1 := w7.setRow b11 D) (by rfl) rfl (Sh.store_exec rfl rfl rfl hO7 HIF.out.1 HIF.out.2.1 HIF.out.2.2) ?_
        have HD8 : Aside0 ((w7.setRow b11 D).heap[b11]? = some (.cells D 59 (0, 0))) := ⟨setRow_heap _ _ _ _ _ _ hO7⟩
        have HB8 : Aside0 (Below w5.heap.size w5 (w7.setRow b11 D)) := ⟨below_then HH.out HH.out.size (below_setRow hB7 hge D)⟩
        generalize w7.setRow b11 D = w8 at HD8 HB8 ⊢
        refine hK.out _ _ ?_
        clear hK K hO7 hge hB7
        refine done_ (by kernel_rfl) ?_
        refine NoPanic.normal ?_
        have HX8 := Aside0.mk (HX5.out.below_ HB8.out)
        have HK8 := Aside0.mk (HK5.out.below_ HB8.out)
        have HX98 := Aside0.mk (HX9.out.below_ HB8.out)
        have HC8 := Aside0.mk (HCF.out _ (Kd.C_below HC5.out HB8.out))
        have HG18 := Aside0.mk (Kd.C_below HG15.out HB8.out)
        have HB58 := Aside0.mk (below_then HB5.out HB5.out.size HB8.out)
        have HT8 := Aside0.mk (Sh.tag_reads HDD.out HD8.out)
        have hsl := Sh.slice_all32 b11
        clear hHeld hcut
        clear HX5 HK5 HX9 HC5 HG15 HB5 HG05 HOF HCT HH HB8 HD8
        go_wp2_with fail
        refine wp_region_noPanic ?_
        refine start_ (n := 6) (S := (fun w' => Below w8.heap.size w8 w')) (ds := []) #[false, false, false, false, false, false] (by kernel_rfl) rfl rfl (Below.refl _ _).drew (fun hHeld => ?_)
        refine pure_ (i := 0) (N := (some 42)) (v := ?_) (a' := ?_) #[true, false, false, false, false, false] rfl rfl (by kernel_rfl) (fun _ _ _ h => h) (Or.inl ⟨by rfl, ?_⟩) ?_ ?_
        rotate_left
        · intro w'
          (have h1 := hsl w'; go_simp)
          with_reducible rfl
        rotate_left
        · simp only [Act.put, List.setIfInBounds_toArray, List.set_cons_zero, List.set_cons_succ]
          rfl
        refine pure_ (i := 1) (N := (some 43)) (v := ?_) (a' := ?_) #[true, true, false, false, false, false] rfl rfl (by kernel_rfl) (fun _ _ _ h => h) (Or.inl ⟨by rfl, ?_⟩) ?_ ?_
        rotate_left
        · intro w'
          go_simp
          with_reducible rfl
        rotate_left
        · simp only [Act.put, List.setIfInBounds_toArray, List.set_cons_zero, List.set_cons_succ]
          rfl
        refine pure_ (i := 2) (N := (some 44)) (v := ?_) (a' := ?_) #[true, true, true, false, false, false] rfl rfl (by kernel_rfl) (fun _ _ _ h => h) (Or.inl ⟨by rfl, ?_⟩) ?_ ?_
        rotate_left
        · intro w'
          (have h1 := hcutf w'; go_simp)
          with_reducible rfl
        rotate_left
        · simp only [Act.put, List.setIfInBounds_toArray, List.set_cons_zero, List.set_cons_succ]
          rfl
        refine one_ (i := 3) (N := (some 45)) #[true, true, true, true, false, false] rfl rfl (by kernel_rfl) (by decide) (fun K hK => ?_)
        refine call_ 35 #[.slice (some ⟨b11, 0, none⟩) 32 32, .slice A3 (m - 18) (c2 - 18)] (by rfl) rfl (by go_simp) ?_
        obtain ⟨sm, HSM⟩ : ∃ b, Aside0 (decide (Sh.hm l0 bd = (Ps.got s).drop 18) = b) := ⟨_, ⟨rfl⟩⟩
        refine (Ps.same1_ (Kd.C_below HT8.out hHeld) (Ps.hm_len _ _) (Nat.le_refl _) (Kd.C_below HC8.out hHeld) (by rw [List.length_drop, HMM.out]) (by omega) (by decide) (Ps.hm_bytes _ _) (fun x hx => HGB.out x (List.mem_of_mem_drop hx)) HSM.out).mono ?_
        rintro e w9 ⟨rfl, hb9⟩
        have HB9 := Aside0.mk (below_then hHeld hHeld.size hb9)
        clear hb9
        refine ⟨_, rfl, ?_⟩
        refine hK.out _ _ HB9.out (fun hHeld => ?_)
        clear hK K
        refine norm_ (a' := ?_) ?_ ?_
        rotate_left
        · show Act.put _ (some 45) _ = _
          simp only [Act.put, List.setIfInBounds_toArray, List.set_cons_zero, List.set_cons_succ]
          rfl
        refine pure_ (i := 4) (N := (some 46)) (v := ?_) (a' := ?_) #[true, true, true, true, true, false] rfl rfl (by kernel_rfl) (fun _ _ _ h => h) (Or.inl ⟨by rfl, ?_⟩) ?_ ?_
        rotate_left
        · intro w'
          go_simp
          with_reducible rfl
        rotate_left
        · simp only [Act.put, List.setIfInBounds_toArray, List.set_cons_zero, List.set_cons_succ]
          rfl
        refine pure_ (i := 5) (N := (some 41)) (v := ?_) (a' := ?_) #[true, true, true, true, true, true] rfl rfl (by kernel_rfl) (fun _ _ _ h => h) (Or.inl ⟨by rfl, ?_⟩) ?_ ?_
        rotate_left
        · intro w'
          go_simp
          with_reducible rfl
        rotate_left
        · simp only [Act.put, List.setIfInBounds_toArray, List.set_cons_zero, List.set_cons_succ]
          rfl
        refine done_ (by kernel_rfl) ?_
        refine NoPanic.normal ?_
        have HX9 := Aside0.mk (HX8.out.below_ HB9.out)
        have HB59 := Aside0.mk (below_then HB58.out HB58.out.size HB9.out)
        have HG19 := Aside0.mk (Kd.C_below HG18.out HB9.out)
        have HK9 := Aside0.mk (HK8.out.below_ HB9.out)
        have HX99 := Aside0.mk (HX98.out.below_ HB9.out)
        clear HX8 HK8 HX98 HC8 HG18 HB58 HT8 hHeld hsl HB9 hcutf
        cases sm with
        | false =>
          go_wp2_with (refine Wk.store_all rfl rfl 26 (.tmp 4) (.tmp 47) rfl w.heap.size Ps.zt4 rfl rfl 26 _ HX9.out HSK.out rfl rfl ?_; intro wz hX hO; have HXZ := Aside0.mk hX; have HOZ := Aside0.mk hO; clear hX hO)
          refine bodyPost_ret (Wk.res_ct rfl _ w.heap.size 26 _ _ rfl HXZ.out Tryd.underlying26 rfl HSK.out) rfl ?_
          refine ⟨?_, Wk.Only.below HB59.out HOZ.out (Nat.le_refl _)⟩
          rw [HFS.out, Ps.verdict, if_pos (by rw [HBD.out]; exact of_decide_eq_false HSM.out)]
          rfl
        | true =>
          have HV1 : Aside0 (Ps.check l s = if (Ps.tok (Ps.got s)).2.1 ∈ l1 then (Ps.zt, 53) else if (Ps.tok (Ps.got s)).2.2.2 = 0 ∨ (Ps.tok (Ps.got s)).2.2.2 > sx then (Ps.zt, 54) else (Ps.tok (Ps.got s), 0)) := ⟨by
            rw [HFS.out, Ps.verdict, if_neg (by rw [HBD.out]; exact fun h => h (of_decide_eq_true HSM.out))]⟩
          have c1 := HX99.out.at_ 4 rfl
          have c2 := HK9.out.at_ 1 rfl
          go_wp2_with fail
          obtain ⟨cn, HCN⟩ : ∃ b, Aside0 (decide (se ∈ l1) = b) := ⟨_, ⟨rfl⟩⟩
          refine (Ps.cont_ HG19.out HN1.out hc1 (by omega) HCN.out).mono ?_
          rintro e w10 ⟨rfl, hb10⟩
          have HX10 := Aside0.mk (HX9.out.below_ hb10)
          have HB10 := Aside0.mk (below_then HB59.out HB59.out.size hb10)
          have HK10 := Aside0.mk (HK9.out.below_ hb10)
          have HX910 := Aside0.mk (HX99.out.below_ hb10)
          clear HX9 HB59 HK9 HX99 HG19 hb10 c1 c2
          have HV2 : Aside0 (Ps.check l s = if se ∈ l1 then (Ps.zt, 53) else if sz = 0 ∨ sz > sx then (Ps.zt, 54) else ((ti, se, ro, sz), 0)) := ⟨by
            have := HV1.out
            rw [HTK.out] at this
            exact this⟩
          cases cn with
          | true =>
            go_wp2_with (refine Wk.store_all rfl rfl 26 (.tmp 4) (.tmp 54) rfl w.heap.size Ps.zt4 rfl rfl 26 _ HX10.out HSK.out rfl rfl ?_; intro wz hX hO; have HXZ := Aside0.mk hX; have HOZ := Aside0.mk hO; clear hX hO)
            refine bodyPost_ret (Wk.res_ct rfl _ w.heap.size 26 _ _ rfl HXZ.out Tryd.underlying26 rfl HSK.out) rfl ?_
            refine ⟨?_, Wk.Only.below HB10.out HOZ.out (Nat.le_refl _)⟩
            rw [HV2.out, if_pos (of_decide_eq_true HCN.out)]
            rfl
          | false =>
            have HV3 : Aside0 (Ps.check l s = if sz = 0 ∨ sz > sx then (Ps.zt, 54) else ((ti, se, ro, sz), 0)) := ⟨by rw [HV2.out, if_neg (of_decide_eq_false HCN.out)]⟩
            have c3 := HK10.out.at_ 3 rfl
            have c4 := HX910.out.at_ 3 rfl
            by_cases hz : sz = 0
            · have hzb : (sz == 0) = true := by simpa using hz
              go_wp2_with (refine Wk.store_all rfl rfl 26 (.tmp 4) (.tmp 64) rfl w.heap.size Ps.zt4 rfl rfl 26 _ HX10.out HSK.out rfl rfl ?_; intro wz hX hO; have HXZ := Aside0.mk hX; have HOZ := Aside0.mk hO; clear hX hO)
              refine bodyPost_ret (Wk.res_ct rfl _ w.heap.size 26 _ _ rfl HXZ.out Tryd.underlying26 rfl HSK.out) rfl ?_
              refine ⟨?_, Wk.Only.below HB10.out HOZ.out (Nat.le_refl _)⟩
              rw [HV3.out, if_pos (.inl hz)]
              rfl
            · have hzb : (sz == 0) = false := by simpa using hz
              by_cases hx : sz > sx
              · have hxb : sx < sz := hx
                go_wp2_with (refine Wk.store_all rfl rfl 26 (.tmp 4) (.tmp 64) rfl w.heap.size Ps.zt4 rfl rfl 26 _ HX10.out HSK.out rfl rfl ?_; intro wz hX hO; have HXZ := Aside0.mk hX; have HOZ := Aside0.mk hO; clear hX hO)
                refine bodyPost_ret (Wk.res_ct rfl _ w.heap.size 26 _ _ rfl HXZ.out Tryd.underlying26 rfl HSK.out) rfl ?_
                refine ⟨?_, Wk.Only.below HB10.out HOZ.out (Nat.le_refl _)⟩
                rw [HV3.out, if_pos (.inr hx)]
                rfl
              · have hrun : (Instr.loadAt 26 (.pointer (some ⟨g8, 0, none⟩))).run Tryd.prog w10 = .ok (.agg (Ps.tkc (ti, se, ro, sz)).toArray) w10 := Wk.run_load_blk (P := Tryd.prog) 26 g8 0 (Ps.tkc (ti, se, ro, sz)) _ HK10.out rfl Tryd.underlying26 rfl HSK.out
                go_wp2_with (first
                  | refine Wk.load rfl 26 (.tmp 8) rfl _ (.pointer (some ⟨g8, 0, none⟩)) rfl hrun ?_
                  | (refine Wk.store_all rfl rfl 26 (.tmp 4) (.tmp 65) rfl w.heap.size (Ps.tkc (ti, se, ro, sz)) rfl rfl 26 _ HX10.out HSK.out rfl rfl ?_; intro wz hX hO; have HXZ := Aside0.mk hX; have HOZ := Aside0.mk hO; clear hX hO))
                refine bodyPost_ret (Wk.res_ct rfl _ w.heap.size 26 _ _ rfl HXZ.out Tryd.underlying26 rfl HSK.out) rfl ?_
                refine ⟨?_, Wk.Only.below HB10.out HOZ.out (Nat.le_refl _)⟩
                rw [HV3.out, if_neg (fun h => h.elim hz (fun h => by omega))]
                rfl
      · have HHW : Aside0 (Below w6.heap.size w6 w6) := ⟨Below.refl _ _⟩
        refine two_ (i := 4) (j := 6) (Ni := some 39) (Nj := some 11) #[true, true, true, true, true, false, false, false] #[true, true, true, true, false, false, true, false] rfl rfl rfl rfl (by kernel_rfl) (by decide) (by decide) (fun K hK => ?_) (fun K hK => ?_)
        · refine value_ (w1 := w6.alloc (.cells #[.slice A2 18 c2] 22)) (v := .slice (some ⟨w6.heap.size, 0, none⟩) 1 1) (by rfl) rfl (by first | (go_simp; done) | (go_simp; rfl)) ?_
          have hce : (w6.alloc (.cells #[.slice A2 18 c2] 22)).cell? ⟨w6.heap.size, 0, none⟩ = some (.slice A2 18 c2) := Lit.cell_new w6 #[.slice A2 18 c2] 22 (0, 0) 0
          have hbn : Below w6.heap.size w6 (w6.alloc (.cells #[.slice A2 18 c2] 22)) := below_alloc (Below.refl _ _) _
          generalize World.alloc w6 (.cells #[.slice A2 18 c2] 22) = w4_w6 at *
          have HCE := Aside0.mk hce
          have hbt : Below w5.heap.size w5 w4_w6 := below_then hHeld hHeld.size hbn
          have HHN := Aside0.mk (below_then HHW.out HHW.out.size hbn)
          refine hK.out _ _ hbt (fun hHeld => ?_)
          clear hK K hbt hbn hce
          clear HHW; have HHW := HHN; clear HHN
          refine norm_ (a' := ?_) ?_ ?_
          rotate_left
          · show Act.put _ (some 39) _ = _
            simp only [Act.put, List.setIfInBounds_toArray, List.set_cons_zero, List.set_cons_succ]
            rfl
          refine two_ (i := 5) (j := 6) (Ni := some 40) (Nj := some 11) #[true, true, true, true, true, true, false, false] #[true, true, true, true, true, false, true, false] rfl rfl rfl rfl (by kernel_rfl) (by decide) (by decide) (fun K hK => ?_) (fun K hK => ?_)
          · refine call_ 25 #[.slice A0 n0 d0, .slice (some ⟨w6.heap.size, 0, none⟩) 1 1] (by rfl) rfl (by go_simp) ?_
            refine (HOF.out w4_w6 w6.heap.size hHeld HCE.out).mono ?_
            rintro e w5_w4_w6 ⟨rfl, hbn⟩
            refine ⟨_, rfl, ?_⟩
            have hbt : Below w5.heap.size w5 w5_w4_w6 := below_then hHeld hHeld.size hbn
            have HHN := Aside0.mk (below_then HHW.out HHW.out.size hbn)
            have HCE' := Aside0.mk ((hbn.cell (World.block_lt_of_cell? _ _ HCE.out)).trans HCE.out)
            refine hK.out _ _ hbt (fun hHeld => ?_)
            clear hK K hbt hbn
            clear HCE; have HCE := HCE'; clear HCE'
            clear HHW; have HHW := HHN; clear HHN
            refine norm_ (a' := ?_) ?_ ?_
            rotate_left
            · show Act.put _ (some 40) _ = _
              simp only [Act.put, List.setIfInBounds_toArray, List.set_cons_zero, List.set_cons_succ]
              rfl
            refine one_ (i := 6) (N := some 11) #[true, true, true, true, true, true, true, false] rfl rfl (by kernel_rfl) (by decide) (fun K hK => ?_)
            refine value_ (w1 := w5_w4_w6.alloc (.cells (Sh.u8s (List.replicate 32 0)) 59)) (v := .pointer (some ⟨w5_w4_w6.heap.size, 0, none⟩)) (by rfl) rfl (by first | (go_simp; done) | (go_simp; rfl)) ?_
            have hoe : (w5_w4_w6.alloc (.cells (Sh.u8s (List.replicate 32 0)) 59)).heap[w5_w4_w6.heap.size]? = some (.cells (Sh.u8s (List.replicate 32 0)) 59 (0, 0)) := heap_alloc_new w5_w4_w6 _
            have hbn : Below w5_w4_w6.heap.size w5_w4_w6 (w5_w4_w6.alloc (.cells (Sh.u8s (List.replicate 32 0)) 59)) := below_alloc (Below.refl _ _) _
            generalize World.alloc w5_w4_w6 (.cells (Sh.u8s (List.replicate 32 0)) 59) = w6_w5_w4_w6 at *
            have HOE := Aside0.mk hoe
            have hbt : Below w5.heap.size w5 w6_w5_w4_w6 := below_then hHeld hHeld.size hbn
            have HHN := Aside0.mk (below_then HHW.out HHW.out.size hbn)
            have HCE' := Aside0.mk ((hbn.cell (World.block_lt_of_cell? _ _ HCE.out)).trans HCE.out)
            have HGE : Aside0 (w6.heap.size ≤ w5_w4_w6.heap.size) := ⟨HHW.out.size⟩
            refine hK.out _ _ hbt (fun hHeld => ?_)
            clear hK K hbt hbn hoe
            clear HCE; have HCE := HCE'; clear HCE'
            clear HHW; have HHW := HHN; clear HHN
            refine norm_ (a' := ?_) ?_ ?_
            rotate_left
            · show Act.put _ (some 11) _ = _
              simp only [Act.put, List.setIfInBounds_toArray, List.set_cons_zero, List.set_cons_succ]
              rfl
            refine norm_ (a' := putAll _ ((fun s : Nat × Nat => [((39 : Tmp), Value.slice (some ⟨s.1, 0, none⟩) 1 1), (40, Value.agg D), (11, Value.pointer (some ⟨s.2, 0, none⟩))]) (w6.heap.size, w5_w4_w6.heap.size))) ?_ (hJ (w6.heap.size, w5_w4_w6.heap.size) w6_w5_w4_w6 ⟨HHW.out, HGE.out, HOE.out⟩)
            simp only [putAll, Act.put, List.setIfInBounds_toArray, List.set_cons_zero, List.set_cons_succ]
          · refine value_ (w1 := w4_w6.alloc (.cells (Sh.u8s (List.replicate 32 0)) 59)) (v := .pointer (some ⟨w4_w6.heap.size, 0, none⟩)) (by rfl) rfl (by first | (go_simp; done) | (go_simp; rfl)) ?_
            have hoe : (w4_w6.alloc (.cells (Sh.u8s (List.replicate 32 0)) 59)).heap[w4_w6.heap.size]? = some (.cells (Sh.u8s (List.replicate 32 0)) 59 (0, 0)) := heap_alloc_new w4_w6 _
            have hbn : Below w4_w6.heap.size w4_w6 (w4_w6.alloc (.cells (Sh.u8s (List.replicate 32 0)) 59)) := below_alloc (Below.refl _ _) _
            generalize World.alloc w4_w6 (.cells (Sh.u8s (List.replicate 32 0)) 59) = w6_w4_w6 at *
            have HOE := Aside0.mk hoe
            have hbt : Below w5.heap.size w5 w6_w4_w6 := below_then hHeld hHeld.size hbn
            have HHN := Aside0.mk (below_then HHW.out HHW.out.size hbn)
            have HCE' := Aside0.mk ((hbn.cell (World.block_lt_of_cell? _ _ HCE.out)).trans HCE.out)
            have HGE : Aside0 (w6.heap.size ≤ w4_w6.heap.size) := ⟨HHW.out.size⟩
            refine hK.out _ _ hbt (fun hHeld => ?_)
            clear hK K hbt hbn hoe
            clear HCE; have HCE := HCE'; clear HCE'
            clear HHW; have HHW := HHN; clear HHN
            refine norm_ (a' := ?_) ?_ ?_
            rotate_left
            · show Act.put _ (some 11) _ = _
              simp only [Act.put, List.setIfInBounds_toArray, List.set_cons_zero, List.set_cons_succ]
              rfl
            refine one_ (i := 5) (N := some 40) #[true, true, true, true, true, true, true, false] rfl rfl (by kernel_rfl) (by decide) (fun K hK => ?_)
            refine call_ 25 #[.slice A0 n0 d0, .slice (some ⟨w6.heap.size, 0, none⟩) 1 1] (by rfl) rfl (by go_simp) ?_
            refine (HOF.out w6_w4_w6 w6.heap.size hHeld HCE.out).mono ?_
            rintro e w5_w6_w4_w6 ⟨rfl, hbn⟩
            refine ⟨_, rfl, ?_⟩
            have hbt : Below w5.heap.size w5 w5_w6_w4_w6 := below_then hHeld hHeld.size hbn
            have HHN := Aside0.mk (below_then HHW.out HHW.out.size hbn)
            have HCE' := Aside0.mk ((hbn.cell (World.block_lt_of_cell? _ _ HCE.out)).trans HCE.out)
            have HOE' := Aside0.mk ((hbn.block _ (Array.getElem?_eq_some_iff.1 HOE.out).1).trans HOE.out)
            refine hK.out _ _ hbt (fun hHeld => ?_)
            clear hK K hbt hbn
            clear HCE; have HCE := HCE'; clear HCE'
            clear HOE; have HOE := HOE'; clear HOE'
            clear HHW; have HHW := HHN; clear HHN
            refine norm_ (a' := ?_) ?_ ?_
            rotate_left
            · show Act.put _ (some 40) _ = _
              simp only [Act.put, List.setIfInBounds_toArray, List.set_cons_zero, List.set_cons_succ]
              rfl
            refine norm_ (a' := putAll _ ((fun s : Nat × Nat => [((39 : Tmp), Value.slice (some ⟨s.1, 0, none⟩) 1 1), (40, Value.agg D), (11, Value.pointer (some ⟨s.2, 0, none⟩))]) (w6.heap.size, w4_w6.heap.size))) ?_ (hJ (w6.heap.size, w4_w6.heap.size) w5_w6_w4_w6 ⟨HHW.out, HGE.out, HOE.out⟩)
            simp only [putAll, Act.put, List.setIfInBounds_toArray, List.set_cons_zero, List.set_cons_succ]
        · refine value_ (w1 := w6.alloc (.cells (Sh.u8s (List.replicate 32 0)) 59)) (v := .pointer (some ⟨w6.heap.size, 0, none⟩)) (by rfl) rfl (by first | (go_simp; done) | (go_simp; rfl)) ?_
          have hoe : (w6.alloc (.cells (Sh.u8s (List.replicate 32 0)) 59)).heap[w6.heap.size]? = some (.cells (Sh.u8s (List.replicate 32 0)) 59 (0, 0)) := heap_alloc_new w6 _
          have hbn : Below w6.heap.size w6 (w6.alloc (.cells (Sh.u8s (List.replicate 32 0)) 59)) := below_alloc (Below.refl _ _) _
          generalize World.alloc w6 (.cells (Sh.u8s (List.replicate 32 0)) 59) = w6_w6 at *
          have HOE := Aside0.mk hoe
          have hbt : Below w5.heap.size w5 w6_w6 := below_then hHeld hHeld.size hbn
          have HHN := Aside0.mk (below_then HHW.out HHW.out.size hbn)
          have HGE : Aside0 (w6.heap.size ≤ w6.heap.size) := ⟨HHW.out.size⟩
          refine hK.out _ _ hbt (fun hHeld => ?_)
          clear hK K hbt hbn hoe
          clear HHW; have HHW := HHN; clear HHN
          refine norm_ (a' := ?_) ?_ ?_
          rotate_left
          · show Act.put _ (some 11) _ = _
            simp only [Act.put, List.setIfInBounds_toArray, List.set_cons_zero, List.set_cons_succ]
            rfl
          refine one_ (i := 4) (N := some 39) #[true, true, true, true, true, false, true, false] rfl rfl (by kernel_rfl) (by decide) (fun K hK => ?_)
          refine value_ (w1 := w6_w6.alloc (.cells #[.slice A2 18 c2] 22)) (v := .slice (some ⟨w6_w6.heap.size, 0, none⟩) 1 1) (by rfl) rfl (by first | (go_simp; done) | (go_simp; rfl)) ?_
          have hce : (w6_w6.alloc (.cells #[.slice A2 18 c2] 22)).cell? ⟨w6_w6.heap.size, 0, none⟩ = some (.slice A2 18 c2) := Lit.cell_new w6_w6 #[.slice A2 18 c2] 22 (0, 0) 0
          have hbn : Below w6_w6.heap.size w6_w6 (w6_w6.alloc (.cells #[.slice A2 18 c2] 22)) := below_alloc (Below.refl _ _) _
          generalize World.alloc w6_w6 (.cells #[.slice A2 18 c2] 22) = w4_w6_w6 at *
          have HCE := Aside0.mk hce
          have hbt : Below w5.heap.size w5 w4_w6_w6 := below_then hHeld hHeld.size hbn
          have HHN := Aside0.mk (below_then HHW.out HHW.out.size hbn)
          have HOE' := Aside0.mk ((hbn.block _ (Array.getElem?_eq_some_iff.1 HOE.out).1).trans HOE.out)
          refine hK.out _ _ hbt (fun hHeld => ?_)
          clear hK K hbt hbn hce
          clear HOE; have HOE := HOE'; clear HOE'
          clear HHW; have HHW := HHN; clear HHN
          refine norm_ (a' := ?_) ?_ ?_
          rotate_left
          · show Act.put _ (some 39) _ = _
            simp only [Act.put, List.setIfInBounds_toArray, List.set_cons_zero, List.set_cons_succ]
            rfl
          refine one_ (i := 5) (N := some 40) #[true, true, true, true, true, true, true, false] rfl rfl (by kernel_rfl) (by decide) (fun K hK => ?_)
          refine call_ 25 #[.slice A0 n0 d0, .slice (some ⟨w6_w6.heap.size, 0, none⟩) 1 1] (by rfl) rfl (by go_simp) ?_
          refine (HOF.out w4_w6_w6 w6_w6.heap.size hHeld HCE.out).mono ?_
          rintro e w5_w4_w6_w6 ⟨rfl, hbn⟩
          refine ⟨_, rfl, ?_⟩
          have hbt : Below w5.heap.size w5 w5_w4_w6_w6 := below_then hHeld hHeld.size hbn
          have HHN := Aside0.mk (below_then HHW.out HHW.out.size hbn)
          have HCE' := Aside0.mk ((hbn.cell (World.block_lt_of_cell? _ _ HCE.out)).trans HCE.out)
          have HOE' := Aside0.mk ((hbn.block _ (Array.getElem?_eq_some_iff.1 HOE.out).1).trans HOE.out)
          refine hK.out _ _ hbt (fun hHeld => ?_)
          clear hK K hbt hbn
          clear HCE; have HCE := HCE'; clear HCE'
          clear HOE; have HOE := HOE'; clear HOE'
          clear HHW; have HHW := HHN; clear HHN
          refine norm_ (a' := ?_) ?_ ?_
          rotate_left
          · show Act.put _ (some 40) _ = _
            simp only [Act.put, List.setIfInBounds_toArray, List.set_cons_zero, List.set_cons_succ]
            rfl
          refine norm_ (a' := putAll _ ((fun s : Nat × Nat => [((39 : Tmp), Value.slice (some ⟨s.1, 0, none⟩) 1 1), (40, Value.agg D), (11, Value.pointer (some ⟨s.2, 0, none⟩))]) (w6_w6.heap.size, w6.heap.size))) ?_ (hJ (w6_w6.heap.size, w6.heap.size) w5_w4_w6_w6 ⟨HHW.out, HGE.out, HOE.out⟩)
          simp only [putAll, Act.put, List.setIfInBounds_toArray, List.set_cons_zero, List.set_cons_succ]
end Go.Proofs.YtabdnlecpndfjaaDoor
set_option linter.unusedVariables false
set_option linter.unusedSimpArgs false
namespace Go.Proofs.YtabdnlecpndfjaaDoor
open Go.RowKit Go.Proofs.YtabdnlecpndfjaaDoor.PBase Go.Proofs.YtabdnlecpndfjaaDoorW.PrintWords Go.Proofs.YtabdnlecpndfjaaDoorW.PrintLast Go.Proofs.YtabdnlecpndfjaaDoorW.PrintMore
theorem opens_bytes : Opens Tryd.prog 22 (Kd.slice 5 (Kd.int .u8)) (fun xs => xs.length ≤ maxLen ∧ ∀ x ∈ xs, (Lit.int .u8 x).wf = true) := opens_slice Tryd.underlying22 (by kernel_rfl) (opens_int Tryd.underlying5)
theorem opens_nums : Opens Tryd.prog 37 (Kd.slice 23 (Kd.int .u32)) (fun xs => xs.length ≤ maxLen ∧ ∀ x ∈ xs, (Lit.int .u32 x).wf = true) := opens_slice Tryd.underlying37 (by kernel_rfl) (opens_int Tryd.underlying23)
namespace Ps
def TnIn (x : Tn) : Prop := (Lit.int .u32 x.f0).wf = true ∧ (x.f1.length ≤ maxLen ∧ ∀ y ∈ x.f1, (Lit.int .u8 y).wf = true) ∧ (Lit.int .u64 x.f2).wf = true ∧ (Lit.int .u64 x.f3).wf = true ∧ x.f4.length ≤ maxLen ∧ ∀ y ∈ x.f4, (Lit.int .u32 y).wf = true
theorem of32 {k : Int} (h : (Lit.int .u32 k).wf = true) : 0 ≤ k ∧ k < 4294967296 := by
  simp [Lit.wf, IntKind.min, IntKind.max, IntKind.signed, IntKind.bits] at h
  omega
set_option maxRecDepth 100000 in
theorem opens_tenant : Opens Tryd.prog 42 kTn TnIn := by
  intro H enc w base spare held fuel cs x h
  obtain ⟨hl, hf⟩ := struct_fields Tryd.underlying42 h
  obtain ⟨a0, k0, w0⟩ := hf 0 _ rfl (opens_int Tryd.underlying23)
  obtain ⟨a1, k1, w1⟩ := hf 1 _ rfl opens_bytes
  obtain ⟨a2, k2, w2⟩ := hf 2 _ rfl (opens_int Tryd.underlying24)
  obtain ⟨a3, k3, w3⟩ := hf 3 _ rfl (opens_int Tryd.underlying24)
  obtain ⟨a4, k4, w4⟩ := hf 4 _ rfl opens_nums
  have c64 : Tryd.prog.cellsOf 24 = 1 := by kernel_rfl
  have c32 : Tryd.prog.cellsOf 23 = 1 := by kernel_rfl
  have cs0 : Tryd.prog.cellsOf 22 = 1 := by kernel_rfl
  have cs1 : Tryd.prog.cellsOf 37 = 1 := by kernel_rfl
  have c5 : Tryd.prog.cellsOf 42 = 5 := by kernel_rfl
  rw [c5] at hl
  change (Kd.int .u32).K w a0 ((cs.drop 0).take (Tryd.prog.cellsOf 23)) at k0
  rw [c32] at k0
  change (Kd.slice 5 (Kd.int .u8)).K w a1 ((cs.drop 1).take (Tryd.prog.cellsOf 22)) at k1
  rw [cs0] at k1
  change (Kd.int .u64).K w a2 ((cs.drop 2).take (Tryd.prog.cellsOf 24)) at k2
  rw [c64] at k2
  change (Kd.int .u64).K w a3 ((cs.drop 3).take (Tryd.prog.cellsOf 24)) at k3
  rw [c64] at k3
  change (Kd.slice 23 (Kd.int .u32)).K w a4 ((cs.drop 4).take (Tryd.prog.cellsOf 37)) at k4
  rw [cs1] at k4
  refine ⟨⟨a0, a1, a2, a3, a4⟩, ?_, w0, w1, w2, w3, w4⟩
  match cs, hl with
  | [y0, y1, y2, y3, y4], _ => exact pairK k0 (pairK k1 (pairK k2 (pairK k3 k4)))
theorem bytes_of {l : List Int} (h : ∀ x ∈ l, (Lit.int .u8 x).wf = true) : Sh.Bytes l := Sp.bytes_of_wf h
theorem row1 {W : World} {g : Nat} {x : Tn} {A0 A1 : Option Addr} {c0 c1 : Nat} {T : TypeId} (hb : Wk.Blk W g T (tnc x A0 c0 A1 c1)) (l0 : x.f1.length ≤ c0) (g0 : Kd.C (Kd.int .u8) W A0 x.f1.length x.f1) (l1 : x.f4.length ≤ c1) (g1 : Kd.C (Kd.int .u32) W A1 x.f4.length x.f4) : kTn.C W (some ⟨g, 0, none⟩) 1 [x] := by
  refine ⟨rfl, by decide, fun _ => ⟨_, rfl, fun j p hj => ?_⟩⟩
  cases j with
  | zero =>
    obtain rfl : x = p := by simpa using hj
    refine ⟨tnc x A0 c0 A1 c1, rfl, PBase.k42_mk W x l0 g0 l1 g1, fun i u hu => ?_⟩
    have : (⟨g, 0, none⟩ : Addr).add (0 * 5 + i) = ⟨g, i, none⟩ := by rw [Nat.zero_mul, Nat.zero_add, add_plain]
    change W.cell? ((⟨g, 0, none⟩ : Addr).add (0 * 5 + i)) = some u
    rw [this]
    exact hb.at_ i hu
  | succ j => simp at hj
theorem conv1 (w : World) (o : Obj) (b : Value) : (convert 22 22 (.slice (some ⟨w.heap.size + 1, 0, none⟩) 1 1)).run Tryd.prog ((w.alloc o).alloc (.cells #[b] 5)) = .ok (.slice (some ⟨w.heap.size + 1, 0, none⟩) 1 1) ((w.alloc o).alloc (.cells #[b] 5 (1, 2))) := by
  have := Lib.run_convert_bytes_const (P := Tryd.prog) (w.alloc o) 22 5 #[b] 1 1 Tryd.underlying22 Tryd.underlying5
  rw [show (#[b] : Array Value).size = 1 from rfl, show (w.alloc o).heap.size = w.heap.size + 1 by show (w.heap.push _).size = _; simp] at this
  exact this
theorem heap3a (h : Array Obj) (a b c : Obj) : (((h.push a).push b).push c)[h.size]? = some a ∧ (((h.push a).push b).push c)[h.size + 1]? = some b ∧ (((h.push a).push b).push c)[h.size + 1 + 1]? = some c := by
  refine ⟨?_, ?_, ?_⟩
  · rw [Array.getElem?_push_lt (by simp; omega), Array.getElem_push_lt (by simp), Array.getElem_push_eq]
  · rw [Array.getElem?_push_lt (by simp), ← Array.getElem?_eq_getElem]
    have := Array.getElem?_push_size (xs := h.push a) (x := b)
    rwa [Array.size_push] at this
  · have := Array.getElem?_push_size (xs := (h.push a).push b) (x := c)
    rwa [Array.size_push, Array.size_push] at this
theorem heap3 (w : World) (a b c : Obj) : (((w.alloc a).alloc b).alloc c).heap[w.heap.size]? = some a ∧ (((w.alloc a).alloc b).alloc c).heap[w.heap.size + 1]? = some b ∧ (((w.alloc a).alloc b).alloc c).heap[w.heap.size + 1 + 1]? = some c ∧ Below w.heap.size w (((w.alloc a).alloc b).alloc c) :=
  ⟨(heap3a w.heap a b c).1, (heap3a w.heap a b c).2.1, (heap3a w.heap a b c).2.2, below_alloc (below_alloc (below_alloc (Below.refl _ _) _) _) _⟩
theorem iss_size (k : List Int) (t : Tk) : (iss k t).size = 80 := by
  show (ByteArray.mk (Sp.enc (Sp.bitsOf (sealed k t))).toArray).size = 80
  have : (Sp.enc (Sp.bitsOf (sealed k t))).length = 80 := by rw [Sp.enc_length, Sp.bitsOf_length, sealed_len]
  rw [← this]
  exact List.size_toArray
abbrev xk : Tk := (1, 2, false, 3)
abbrev xt : Tn := ⟨1, [108], 0, 5, []⟩
theorem body_k : body xk = [1, 0, 0, 0, 1, 0, 0, 0, 2, 0, 0, 0, 0, 0, 0, 0, 3, 0] := by kernel_rfl
theorem hm_k : Sh.hm [107] [1, 0, 0, 0, 1, 0, 0, 0, 2, 0, 0, 0, 0, 0, 0, 0, 3, 0] = [24, 249, 245, 206, 108, 233, 185, 88, 241, 239, 36, 25, 8, 110, 205, 119, 64, 115, 129, 106, 36, 47, 168, 185, 135, 80, 193, 223, 16, 89, 15, 230] := by kernel_rfl
theorem hm_l : Sh.hm [108] [1, 0, 0, 0, 1, 0, 0, 0, 2, 0, 0, 0, 0, 0, 0, 0, 3, 0] = [80, 160, 238, 212, 173, 232, 82, 25, 187, 107, 222, 108, 37, 116, 40, 180, 38, 103, 34, 211, 99, 60, 155, 229, 253, 22, 147, 197, 12, 83, 32, 25] := by kernel_rfl
theorem xk_wf : TkWf xk := by unfold TkWf; decide
theorem check_iss (l : List Tn) (k : List Int) (t : Tk) (h : TkWf t) : check l (iss k t) = match find l t.1 with | none => (zt, 51) | some x => verdict x (sealed k t) := by
  obtain ⟨h1, h2⟩ := got_iss k t
  unfold check
  rw [if_pos h2, h1, show tok (sealed k t) = t from tok_body t _ h]
  cases find l t.1 <;> rfl
theorem known_check : check [xt] (iss [107] xk) = (zt, 52) := by
  rw [check_iss _ _ _ xk_wf]
  show verdict xt (sealed [107] xk) = _
  unfold verdict
  rw [sealed_take, sealed_drop, body_k, hm_k]
  show (if Sh.hm [108] _ ≠ _ then _ else _) = _
  rw [hm_l, if_pos (by decide)]
end Ps
set_option maxHeartbeats 2000000 in
set_option maxRecDepth 100000 in
theorem known_.calls (w : World) (hk : Sh.Ks w) :
    Calls Tryd.prog 10 #[] w fun e w' => e = .returned (.bool true) ∧ Below w.heap.size w w' := by
  have HK := Aside0.mk hk
  clear hk
  have hcv1 := Ps.conv1 w (.cells #[.int .u32 1, .int .u32 2, .bool false, .int .u64 3] 26) (.int .u8 107)
  go_enter Tryd.func10, Tryd.ntmps10
  go_wp2_with fail
  generalize hWq : World.alloc (World.alloc w _) _ = W1
  have HB1 : Aside0 (Below w.heap.size w W1) := ⟨by rw [← hWq]; exact below_alloc (below_alloc (Below.refl _ _) _) _⟩
  have HX1 : Aside0 (Wk.Blk W1 w.heap.size 26 (Ps.tkc Ps.xk)) := ⟨by rw [← hWq]; exact (Wk.Blk.new w _ (Ps.tkc Ps.xk)).alloc _⟩
  have HC1 : Aside0 (Kd.C (Kd.int .u8) W1 (some ⟨w.heap.size + 1, 0, none⟩) 1 [107]) := ⟨by
    have h2 : W1.heap[w.heap.size + 1]? = some (.cells #[.int .u8 107] 5 (1, 2)) := by
      rw [← hWq]
      have := heap_alloc_new (w.alloc (.cells #[.int .u32 1, .int .u32 2, .bool false, .int .u64 3] 26)) (.cells #[.int .u8 107] 5 (1, 2))
      rwa [show (w.alloc (.cells #[.int .u32 1, .int .u32 2, .bool false, .int .u64 3] 26)).heap.size = w.heap.size + 1 by show (w.heap.push _).size = _; simp] at this
    exact Lit.reads_block h2 .u8 [107] rfl (by decide)⟩
  clear hWq hcv1
  obtain ⟨s1, HS1⟩ : ∃ s, Aside0 (Ps.iss [107] (1, 2, false, 3) = s) := ⟨_, ⟨rfl⟩⟩
  have HSS : Aside0 (s1.size = 80) := ⟨by rw [← HS1.out]; exact Ps.iss_size _ _⟩
  refine (issue_.calls (some ⟨w.heap.size + 1, 0, none⟩) 1 1 [107] 1 2 false 3 W1 (HK.out.below HB1.out) HC1.out rfl (Nat.le_refl _) (fun x hx => by rw [List.mem_singleton.1 hx]; decide) (by decide) Ps.xk_wf).mono ?_
  rintro e w2 ⟨rfl, hb2⟩
  rw [HS1.out]
  have HB2 := Aside0.mk (below_then HB1.out HB1.out.size hb2)
  have HX2 := Aside0.mk (HX1.out.below_ hb2)
  clear hb2 HB1 HX1 HC1
  go_wp2_with fail
  refine (pass_Look.calls 200 s1 1 2 false 3 0 w2 (by
    rw [Ps.look_is s1 (by rw [HSS.out]; decide) 200 (by rw [HSS.out]; decide), ← HS1.out, Ps.look_iss _ _ Ps.xk_wf])).mono ?_
  rintro e w3 ⟨rfl, hb3⟩
  have HB3 := Aside0.mk (below_then HB2.out HB2.out.size hb3)
  have HX3 := Aside0.mk (HX2.out.below_ hb3)
  clear hb3 HB2 HX2
  have hcv2 := Ps.conv1 w3 (.cells #[.int .u32 1, .int .u32 2, .bool false, .int .u64 3] 26) (.int .u8 108)
  go_wp2_with fail
  generalize hWq : World.alloc (World.alloc (World.alloc w3 _) _) _ = W4
  obtain ⟨e0, e1, e2, hb4⟩ : W4.heap[w3.heap.size]? = some (.cells #[.int .u32 1, .int .u32 2, .bool false, .int .u64 3] 26 (0, 0)) ∧ W4.heap[w3.heap.size + 1]? = some (.cells #[.int .u8 108] 5 (1, 2)) ∧ W4.heap[w3.heap.size + 1 + 1]? = some (.cells #[.int .u32 1, .slice (some ⟨w3.heap.size + 1, 0, none⟩) 1 1, .int .u64 0, .int .u64 5, .slice none 0 0] 42 (0, 0)) ∧ Below w3.heap.size w3 W4 := by rw [← hWq]; exact Ps.heap3 w3 _ _ _
  have HB4 := Aside0.mk (below_then HB3.out HB3.out.size hb4)
  have HX4 := Aside0.mk (HX3.out.below_ hb4)
  have HY4 : Aside0 (Wk.Blk W4 w3.heap.size 26 (Ps.tkc Ps.xk)) := ⟨⟨e0⟩⟩
  have HR4 : Aside0 (Ps.kTn.C W4 (some ⟨w3.heap.size + 1 + 1, 0, none⟩) 1 [Ps.xt]) := ⟨Ps.row1 (T := 42) (A0 := some ⟨w3.heap.size + 1, 0, none⟩) (c0 := 1) (A1 := none) (c1 := 0) ⟨e2⟩ (Nat.le_refl _) (Lit.reads_block e1 .u8 [108] rfl (by decide)) (Nat.le_refl _) (Kd.C_nil _ _)⟩
  clear hWq hcv2 e0 e1 e2 hb4 HB3 HX3
  have hxw : ∀ x ∈ [Ps.xt], Ps.TnWf x := fun x hx => by
    rw [List.mem_singleton.1 hx]
    exact ⟨⟨by decide, by decide⟩, by decide, by decide, fun y hy => by rw [List.mem_singleton.1 hy]; decide⟩
  have HXW := Aside0.mk hxw
  clear hxw
  refine (new_pass.calls (some ⟨w3.heap.size + 1 + 1, 0, none⟩) 1 1 [Ps.xt] W4 HR4.out rfl HXW.out).mono ?_
  rintro e w5 ⟨hb5, ⟨h, -⟩ | ⟨-, h, -⟩ | ⟨-, -, p, rfl, hTb⟩⟩
  · exact absurd h (by decide)
  · exact absurd h (by decide)
  have HB5 := Aside0.mk (below_then HB4.out HB4.out.size hb5)
  have HX5 := Aside0.mk (HX4.out.below_ hb5)
  have HY5 := Aside0.mk (HY4.out.below_ hb5)
  have HT5 := Aside0.mk hTb
  clear hTb hb5 HB4 HX4 HY4 HR4
  go_wp2_with fail
  refine (check_.calls p W4.heap.size [Ps.xt] s1 w5 (HK.out.below HB5.out) HT5.out (by rw [HSS.out]; decide) HXW.out).mono ?_
  rintro e w6 ⟨rfl, hb6⟩
  have HCK : Aside0 (Ps.check [Ps.xt] s1 = (Ps.zt, 52)) := ⟨by rw [← HS1.out]; exact Ps.known_check⟩
  rw [HCK.out]
  have HB6 := Aside0.mk (below_then HB5.out HB5.out.size hb6)
  have HX6 := Aside0.mk (HX5.out.below_ hb6)
  have HY6 := Aside0.mk (HY5.out.below_ hb6)
  clear hb6 HB5 HX5 HY5 HT5
  generalize hWq : World.alloc w6 (.cells #[.int .u32 0, .int .u32 0, .bool false, .int .u64 0] 26) = w7
  have hb7 : Below w6.heap.size w6 w7 := by rw [← hWq]; exact below_alloc (Below.refl _ _) _
  have HB7 := Aside0.mk (below_then HB6.out HB6.out.size hb7)
  have x0 := (HX6.out.below_ hb7).at_ 0 rfl
  have x1 := (HX6.out.below_ hb7).at_ 1 rfl
  have x2 := (HX6.out.below_ hb7).at_ 2 rfl
  have x3 := (HX6.out.below_ hb7).at_ 3 rfl
  have y0 := (HY6.out.below_ hb7).at_ 0 rfl
  have y1 := (HY6.out.below_ hb7).at_ 1 rfl
  have y2 := (HY6.out.below_ hb7).at_ 2 rfl
  have y3 := (HY6.out.below_ hb7).at_ 3 rfl
  simp only [Ps.zt]
  rw [← hWq] at x0 x1 x2 x3 y0 y1 y2 y3 HB7
  clear hb7 hWq
  go_wp2_with fail
  go_ret
  exact ⟨rfl, HB7.out⟩
end Go.Proofs.YtabdnlecpndfjaaDoor
namespace Go.Proofs.YtabdnlecpndfjaaDoor
open Go.ChangeShapes Go.WideShapes Go.ChangeAt Go.RowKit
set_option linter.unusedVariables false
theorem own : ownKnob Tryd.prog.godebug = none := by kernel_rfl
theorem laidOut : laidOutB Tryd.prog = true := by kernel_rfl
abbrev keysLaid : List (String × DataW Unit) := [("coaming/sha.keys", Rows.laid_coaming_sha_keys)]
theorem gKeys : Tryd.prog.globalNamed "coaming/sha.keys" = some 0 := by kernel_rfl
theorem tKeys : (Tryd.prog.globals[0]?).map (·.type) = some 108 := by kernel_rfl
theorem door_met (os : Os) (args : Array Value) : laidMetH Tryd.prog keysLaid ((World.doorLaid Tryd.prog 400 os).forCall (fun _ _ => 0) ⟨#[], args, []⟩).memory :=
  laidMetH_of_parts3 (fuel := 8) (laidMet_of_run' 8 (by kernel_rfl) (by kernel_rfl)) (by kernel_rfl) (by kernel_rfl)
theorem laid_at : (Rows.laid_coaming_sha_keys (H := Unit)) = .agg (Sh.keys.map fun k => .lit (.int .u32 k)) := rfl
theorem of_laid {W : World} (h : laidMetH Tryd.prog keysLaid W) : Sh.Ks W := by
  rw [MakeChecks.laidMetH_plain _ _ _ (by kernel_rfl)] at h
  obtain ⟨ps, ⟨g0, t0, cs0, f0, p0, q0, hg0, ht0, hv0, hd0, _, _⟩, _, _⟩ := h
  obtain rfl := Option.some.inj (gKeys.symm.trans hg0)
  obtain rfl := Option.some.inj (tKeys.symm.trans ht0)
  rw [laid_at] at hd0
  obtain ⟨xs, m1, rfl, hx1, hlen, hn3, hel⟩ := DataW.trod_array Tryd.underlying108 hd0
  have c38 : Tryd.prog.cellsOf 23 = 1 := by kernel_rfl
  intro i hi
  have h0 := hel i hi
  rw [c38, Nat.mul_one] at h0
  simp only [Prod.mk.injEq, DataW.agg.injEq] at hx1
  have hix : i < xs.length := by omega
  rw [List.getElem?_eq_getElem hix] at h0
  obtain ⟨k, e1, e2, _⟩ := DataW.trod_int Tryd.underlying23 h0
  have hk : (xs.map (·.1))[i]? = some (.lit (.int .u32 k)) := by rw [List.getElem?_map, List.getElem?_eq_getElem hix, e2]; rfl
  rw [← hx1.1, List.getElem?_map] at hk
  have hki : Sh.keys[i]? = some (Sh.keys.getD i 0) := by
    rw [List.getD_eq_getElem?_getD, List.getElem?_eq_getElem (by exact hi)]; rfl
  rw [hki] at hk
  have hkk : Sh.keys.getD i 0 = k := by simpa using hk
  rw [World.var?_cell hg0 hv0 i, hkk]
  have hc : (cs0.toList.drop i).take 1 = [.int .u32 k] := e1
  have : cs0.toList[i]? = some (.int .u32 k) := by
    have h2 : ((cs0.toList.drop i).take 1)[0]? = some (.int .u32 k) := by rw [hc]; rfl
    rw [List.getElem?_take, if_pos (by decide), List.getElem?_drop, Nat.add_zero] at h2
    exact h2
  simpa using this
def IsRow (k : IntKind) (w : World) (a : Option Addr) (len cap : Nat) (zs : List Int) : Prop :=
  (a = none ∧ len = 0 ∧ cap = 0 ∧ zs = []) ∨
  ∃ x, a = some x ∧ len ≤ cap ∧ cap ≤ maxLen ∧ zs.length = cap ∧ (∀ i, i < zs.length → w.cell? (x.add i) = some (.int k (zs.getD i 0))) ∧ ∀ n ∈ zs, (Lit.int k n).wf = true
open Go.Proofs.YtabdnlecpndfjaaDoorW.PrintWords in
theorem IsRow.reads {W : World} {a : Option Addr} {len cap : Nat} {zs : List Int} (h : IsRow .u8 W a len cap zs) : ∃ l : List Int, l.length = len ∧ l.length ≤ cap ∧ l.length ≤ 9223372036854775807 ∧ Sh.Bytes l ∧ Kd.C (Kd.int .u8) W a l.length l := by
  rcases h with ⟨rfl, rfl, rfl, rfl⟩ | ⟨x, rfl, h1, h2, h3, h4, h5⟩
  · exact ⟨[], rfl, Nat.le_refl _, by simp, (by intro y hy; cases hy), Kd.C_of_reads (d := 0) ⟨rfl, by simp, fun h => absurd h (by simp)⟩⟩
  · have hm : maxLen ≤ 9223372036854775807 := by decide
    have hl : (zs.take len).length = len := by rw [List.length_take]; omega
    refine ⟨zs.take len, hl, by omega, by omega, ?_, ?_⟩
    · intro y hy
      have := h5 y (List.mem_of_mem_take hy)
      simp only [Lit.wf, IntKind.min, IntKind.max, IntKind.signed, IntKind.bits] at this
      simp at this
      omega
    · refine Kd.C_of_reads (d := 0) ⟨rfl, by omega, fun _ => ⟨x, rfl, fun j hj => ?_⟩⟩
      rw [h4 j (by omega)]
      rw [List.getD_eq_getElem?_getD, List.getD_eq_getElem?_getD, List.getElem?_take, if_pos (by omega)]
end Go.Proofs.YtabdnlecpndfjaaDoor
set_option linter.unusedVariables false
set_option linter.unusedSimpArgs false
namespace Go.Proofs.YtabdnlecpndfjaaDoor.Ps
open Go.RowKit Go.Proofs.YtabdnlecpndfjaaDoor.PBase Go.Proofs.YtabdnlecpndfjaaDoorW.PrintWords Go.Proofs.YtabdnlecpndfjaaDoorW.PrintLast Go.Proofs.YtabdnlecpndfjaaDoorW.PrintMore
def Dist (l : List Tn) : Prop := l.Pairwise (fun x y => x.f0 ≠ y.f0)
theorem find_none {l : List Tn} {id : Int} : find l id = none ↔ ∀ x ∈ l, x.f0 ≠ id := by
  unfold find
  rw [List.find?_eq_none]
  constructor
  · intro h x hx he
    exact h x hx (by simpa using he)
  · intro h x hx he
    exact h x hx (by simpa using he)
theorem good_iff : ∀ (l acc : List Tn), good acc l = true ↔ (∀ x ∈ l, 0 < x.f1.length) ∧ (∀ x ∈ l, find acc x.f0 = none) ∧ Dist l
  | [], acc => by simp [good, Dist]
  | x :: xs, acc => by
    rw [good]
    simp only [Bool.and_eq_true, Option.isNone_iff_eq_none, decide_eq_true_eq]
    rw [good_iff xs (acc ++ [x])]
    constructor
    · rintro ⟨⟨h1, h2⟩, h3, h4, h5⟩
      have h4' : ∀ y ∈ xs, y.f0 ≠ x.f0 ∧ find acc y.f0 = none := fun y hy => by
        have := h4 y hy
        rw [find_snoc acc x y.f0 h1] at this
        by_cases h : y.f0 = x.f0
        · rw [if_pos h] at this; cases this
        · rw [if_neg h] at this; exact ⟨h, this⟩
      refine ⟨?_, ?_, ?_⟩
      · intro y hy
        rcases List.mem_cons.1 hy with rfl | hy
        · exact h2
        · exact h3 y hy
      · intro y hy
        rcases List.mem_cons.1 hy with rfl | hy
        · exact h1
        · exact (h4' y hy).2
      · exact List.pairwise_cons.2 ⟨fun y hy he => (h4' y hy).1 he.symm, h5⟩
    · rintro ⟨h1, h2, h3⟩
      obtain ⟨h4, h5⟩ := List.pairwise_cons.1 h3
      have hx := h2 x List.mem_cons_self
      refine ⟨⟨hx, h1 x List.mem_cons_self⟩, fun y hy => h1 y (List.mem_cons_of_mem _ hy), fun y hy => ?_, h5⟩
      rw [find_snoc acc x y.f0 hx, if_neg (fun he => h4 y hy he.symm)]
      exact h2 y (List.mem_cons_of_mem _ hy)
theorem good_dist {l : List Tn} : good [] l = true ↔ (∀ x ∈ l, 0 < x.f1.length) ∧ Dist l := by
  rw [good_iff]
  constructor
  · exact fun h => ⟨h.1, h.2.2⟩
  · exact fun h => ⟨h.1, fun _ _ => rfl, h.2⟩
theorem find_of : ∀ {l : List Tn}, Dist l → ∀ {x : Tn}, x ∈ l → find l x.f0 = some x
  | [], _, x, h => by cases h
  | y :: ys, hd, x, h => by
    obtain ⟨h1, h2⟩ := List.pairwise_cons.1 hd
    unfold find
    rcases List.mem_cons.1 h with rfl | h
    · rw [List.find?_cons_of_pos (by simp)]
    · rw [List.find?_cons_of_neg (by simpa using h1 x h)]
      exact find_of h2 h
theorem verdict_cases (y : Tn) (b : List Int) : verdict y b = (zt, 52) ∨ verdict y b = (zt, 53) ∨ verdict y b = (zt, 54) ∨ verdict y b = (tok b, 0) := by
  unfold verdict
  split
  · exact .inl rfl
  · split
    · exact .inr (.inl rfl)
    · split
      · exact .inr (.inr (.inl rfl))
      · exact .inr (.inr (.inr rfl))
theorem verdict_51 (y : Tn) (b : List Int) : (verdict y b).2 ≠ 51 := by
  rcases verdict_cases y b with h | h | h | h <;> simp [h]
theorem apart {l : List Tn} (h : good [] l = true) {x : Tn} (hx : x ∈ l) (s : ByteArray) :
    ((check [x] s).2 = 51 ∧ ((check l s).2 ≠ 0 ∨ (check l s).1.1 ≠ x.f0)) ∨ ((check [x] s).2 ≠ 51 ∧ check [x] s = check l s) := by
  by_cases hi : is s = true
  · by_cases hid : (tok (got s)).1 = x.f0
    · have h1 : find [x] (tok (got s)).1 = some x := by rw [hid]; exact find_of (List.pairwise_singleton _ _) (List.mem_singleton.2 rfl)
      have h2 : find l (tok (got s)).1 = some x := by rw [hid]; exact find_of (good_dist.1 h).2 hx
      rw [check_some hi h1, check_some hi h2]
      exact .inr ⟨verdict_51 _ _, rfl⟩
    · have h1 : find [x] (tok (got s)).1 = none := find_none.2 fun y hy he => hid (by rw [List.mem_singleton.1 hy] at he; exact he.symm)
      rw [check_none hi h1]
      refine .inl ⟨rfl, ?_⟩
      cases h2 : find l (tok (got s)).1 with
      | none => rw [check_none hi h2]; exact .inl (by decide)
      | some y =>
        rw [check_some hi h2]
        rcases verdict_cases y (got s) with h | h | h | h <;> rw [h]
        · exact .inl (by decide)
        · exact .inl (by decide)
        · exact .inl (by decide)
        · exact .inr hid
  · rw [check_form hi, check_form hi]
    exact .inr ⟨by decide, rfl⟩
def few (l : List Tn) : Bool := decide (l.length ≤ 70 ∧ ∀ x ∈ l, x.f1.length ≤ 200 ∧ x.f4.length ≤ 50)
theorem rdT (l : List Tn) (i : Nat) (hi : i < l.length) : PBase.rd_T42 l (i : Int) = l[i] := by
  unfold PBase.rd_T42
  rw [Int.toNat_natCast, List.getD_eq_getElem?_getD, List.getElem?_eq_getElem hi]
  rfl
theorem ten_l (l : List Tn) (hl : l.length ≤ 70) : ∀ (d i k : Nat), i + d = l.length → d < k → coamingref00_Tenants.l0 k l i = some (decide (∀ x ∈ l.drop i, x.f1.length ≤ 200 ∧ x.f4.length ≤ 50))
  | 0, i, k, hi, hk => by
    obtain ⟨k, rfl⟩ : ∃ m, k = m + 1 := ⟨k - 1, by omega⟩
    rw [coamingref00_Tenants.l0, if_neg (by omega), List.drop_of_length_le (by omega)]
    simp
  | d + 1, i, k, hi, hk => by
    obtain ⟨k, rfl⟩ : ∃ m, k = m + 1 := ⟨k - 1, by omega⟩
    have hlt : i < l.length := by omega
    have e1 : wrap64 ((i : Int) + 1) = ((i + 1 : Nat) : Int) := by unfold wrap64; omega
    rw [coamingref00_Tenants.l0, e1, rdT l i hlt, List.drop_eq_getElem_cons hlt]
    clear e1
    rw [if_pos (by omega), if_pos (by omega)]
    by_cases h1 : (l[i].f1.length : Int) > 200
    · rw [if_pos h1]
      congr 1
      exact (decide_eq_false (fun h => by have := (h _ List.mem_cons_self).1; omega)).symm
    · rw [if_neg h1]
      by_cases h2 : (l[i].f4.length : Int) > 50
      · rw [if_pos h2]
        congr 1
        exact (decide_eq_false (fun h => by have := (h _ List.mem_cons_self).2; omega)).symm
      · rw [if_neg h2, ten_l l hl d (i + 1) k (by omega) (by omega)]
        congr 1
        rw [decide_eq_decide]
        constructor
        · intro h x hx
          rcases List.mem_cons.1 hx with rfl | hx
          · exact ⟨by omega, by omega⟩
          · exact h x hx
        · exact fun h x hx => h x (List.mem_cons_of_mem _ hx)
theorem tenants_is (l : List Tn) (k : Nat) (hk : 100 ≤ k) : coamingref00_Tenants.f k l = some (few l) := by
  unfold coamingref00_Tenants.f few
  by_cases h : (l.length : Int) > 70
  · rw [if_pos h]
    congr 1
    exact (decide_eq_false (fun hh => by have := hh.1; omega)).symm
  · rw [if_neg h, show (0 : Int) = ((0 : Nat) : Int) from rfl, ten_l l (by omega) l.length 0 k (by omega) (by omega), List.drop_zero]
    congr 1
    rw [decide_eq_decide]
    exact ⟨fun hh => ⟨by omega, hh⟩, fun hh => hh.2⟩
theorem tenants_ {A : Option Addr} {n c : Nat} {l : List Tn} {w : World} (h : kTn.C w A l.length l) (hn : l.length = n) (hc : n ≤ c) {b : Bool} (hb : few l = b) :
    Calls Tryd.prog 17 #[.slice A n c] w fun e w' => e = .returned (.bool b) ∧ Below w.heap.size w w' := by
  subst hn; subst hb
  exact (coamingref00_Tenants.calls 100 A c l (few l) w h hc (tenants_is l 100 (Nat.le_refl _))).mono (fun _ _ ⟨a, h⟩ => ⟨a, by obtain ⟨m, hm⟩ := h.out; rw [hm]; exact pw_below_drewN (Below.refl _ _) m⟩)
theorem few_wf {l : List Tn} (h : few l = true) (hw : ∀ x ∈ l, TnIn x) : ∀ x ∈ l, TnWf x := fun x hx => by
  unfold few at h
  rw [decide_eq_true_eq] at h
  obtain ⟨h1, h2⟩ := h.2 x hx
  obtain ⟨a, b, _⟩ := hw x hx
  exact ⟨of32 a, by omega, by omega, bytes_of b.2⟩
theorem infoTn : (Tryd.prog.info? 42).map (fun i => (i.zero, i.size, i.bytes)) = some (some (.agg z5.toArray), 5, 72) := by kernel_rfl
end Go.Proofs.YtabdnlecpndfjaaDoor.Ps
set_option linter.unusedVariables false
set_option linter.unusedSimpArgs false
namespace Go.Proofs.YtabdnlecpndfjaaDoor.Ps
open Go.RowKit Go.Proofs.YtabdnlecpndfjaaDoor.PBase Go.Proofs.YtabdnlecpndfjaaDoorW.PrintWords Go.Proofs.YtabdnlecpndfjaaDoorW.PrintLast Go.Proofs.YtabdnlecpndfjaaDoorW.PrintMore
theorem same_l (i : Int) (l0 : List Int) (q s : Int) (l1 : List Int) : ∀ (d n k : Nat), n + d = l1.length → d < k → l1.length ≤ 1000 → coaminglaw05_sameTenant.l0 k n i l0 q s l1 i l0 q s l1 = some true
  | 0, n, k, hn, hk, hl => by
    obtain ⟨k, rfl⟩ : ∃ m, k = m + 1 := ⟨k - 1, by omega⟩
    rw [coaminglaw05_sameTenant.l0, if_neg (by omega)]
  | d + 1, n, k, hn, hk, hl => by
    obtain ⟨k, rfl⟩ : ∃ m, k = m + 1 := ⟨k - 1, by omega⟩
    have e1 : wrap64 ((n : Int) + 1) = ((n + 1 : Nat) : Int) := by unfold wrap64; omega
    rw [coaminglaw05_sameTenant.l0, e1]
    clear e1
    rw [if_pos (by omega), if_pos (by omega), if_pos (by omega), if_pos rfl]
    exact same_l i l0 q s l1 d (n + 1) k (by omega) (by omega) hl
theorem same_is (i : Int) (l0 : List Int) (q s : Int) (l1 : List Int) (hl : l1.length ≤ 1000) : coaminglaw05_sameTenant.f 2000 i l0 q s l1 i l0 q s l1 = some true := by
  unfold coaminglaw05_sameTenant.f
  rw [if_pos rfl, if_pos rfl, if_pos rfl, if_pos rfl, coaminglaw05_sameTenant.j0, if_neg (by simp)]
  exact same_l i l0 q s l1 l1.length 0 1999 (by omega) (by omega) hl
theorem alike_ {i q s : Int} {l0 l1 : List Int} {A0 A1 B0 B1 : Option Addr} {n0 n1 c0 c1 d0 d1 : Nat} {w : World} (hl : n1 ≤ 1000) (hn0 : l0.length = n0) (hn1 : l1.length = n1) (h0 : Kd.C (Kd.int .u8) w A0 l0.length l0) (e0 : n0 ≤ c0) (h1 : Kd.C (Kd.int .u32) w A1 l1.length l1) (e1 : n1 ≤ c1)
    (g0 : Kd.C (Kd.int .u8) w B0 l0.length l0) (f0 : n0 ≤ d0) (g1 : Kd.C (Kd.int .u32) w B1 l1.length l1) (f1 : n1 ≤ d1) :
    Calls Tryd.prog 23 #[.agg #[.int .u32 i, .slice A0 n0 c0, .int .u64 q, .int .u64 s, .slice A1 n1 c1], .agg #[.int .u32 i, .slice B0 n0 d0, .int .u64 q, .int .u64 s, .slice B1 n1 d1]] w fun e w' => e = .returned (.bool true) ∧ Below w.heap.size w w' := by
  subst hn0; subst hn1
  exact coaminglaw05_sameTenant.calls 2000 i A0 c0 l0 q s A1 c1 l1 i B0 d0 l0 q s B1 d1 l1 true w h0 e0 h1 e1 g0 f0 g1 f1 (same_is i l0 q s l1 hl)
theorem row_cells {W : World} {A : Option Addr} {n : Nat} {xs : List Tn} (h : kTn.C W A n xs) (hn : xs.length = n) (k : Nat) (hk : k < xs.length) : ∃ ad A0 c0 A1 c1, A = some ad ∧ xs[k].f1.length ≤ c0 ∧ xs[k].f4.length ≤ c1 ∧ Kd.C (Kd.int .u8) W A0 xs[k].f1.length xs[k].f1 ∧ Kd.C (Kd.int .u32) W A1 xs[k].f4.length xs[k].f4 ∧
    ∀ w', Below W.heap.size W w' → (Instr.loadAt 42 (.pointer (some (ad.add (k * 5))))).run Tryd.prog w' = .ok (.agg (tnc xs[k] A0 c0 A1 c1).toArray) w' ∧ w'.cell? (ad.add (k * 5)) = some (.int .u32 xs[k].f0) ∧ w'.cell? ⟨(ad.add (k * 5)).block, (ad.add (k * 5)).off + 1, none⟩ = some (.slice A0 xs[k].f1.length c0) := by
  obtain ⟨ad, A0, c0, A1, c1, hA, hl, hc, l0, l1, g0, g1⟩ := row_get h k hk hn
  refine ⟨ad, A0, c0, A1, c1, hA, l0, l1, g0, g1, fun w' hb => ⟨hl w' hb, ?_, ?_⟩⟩
  · have := hc 0 _ rfl
    exact (hb.cell (World.block_lt_of_cell? W _ this)).trans this
  · have := hc 1 _ rfl
    rw [add_field _ _ 1 (by omega)] at this
    exact (hb.cell (World.block_lt_of_cell? W _ this)).trans this
end Go.Proofs.YtabdnlecpndfjaaDoor.Ps
set_option linter.unusedVariables false
set_option linter.unusedSimpArgs false
namespace Go.Proofs.YtabdnlecpndfjaaDoor
open Go.RowKit Go.Proofs.YtabdnlecpndfjaaDoor.PBase Go.Proofs.YtabdnlecpndfjaaDoorW.PrintWords Go.Proofs.YtabdnlecpndfjaaDoorW.PrintLast Go.Proofs.YtabdnlecpndfjaaDoorW.PrintMore
namespace Ps
theorem find_at {l : List Tn} {id : Int} {k : Nat} (h : ∀ y ∈ l.take k, y.f0 ≠ id) (hk : k < l.length) (he : l[k].f0 = id) : find l id = some l[k] := by
  obtain ⟨x, hx⟩ : ∃ x, l[k] = x := ⟨_, rfl⟩
  have e : l = l.take k ++ x :: l.drop (k + 1) := by rw [← hx, ← List.drop_eq_getElem_cons hk, List.take_append_drop]
  have h1 : List.find? (fun y : Tn => y.f0 == id) (l.take k) = none := by
    rw [List.find?_eq_none]
    intro y hy hh
    exact h y hy (by simpa using hh)
  rw [hx] at he ⊢
  have h2 : find l id = find (l.take k ++ x :: l.drop (k + 1)) id := by rw [← e]
  rw [h2]
  unfold find
  rw [List.find?_append, h1, Option.none_or, List.find?_cons_of_pos (by simpa using he)]
theorem sizeTr : (Tryd.prog.info? 77).map (·.size) = some 1 := by kernel_rfl
end Ps
set_option maxHeartbeats 4000000 in
set_option maxRecDepth 100000 in
theorem reftenant_.calls (p base : Nat) (l : List Ps.Tn) (id : Int) (w : World) (hT : Ps.Tr w base p l) (hl70 : l.length ≤ 70) (hW : ∀ x ∈ l, Ps.TnWf x) :
    Calls Tryd.prog 22 #[.pointer (some ⟨p, 0, none⟩), .int .u32 id] w (Ps.TenPost w l id) := by
  obtain ⟨A, c, _, hlc, hP, hF⟩ := hT
  have HC := Aside0.mk (Kd.F_now hF)
  have HSZ := Aside0.mk Ps.sizeTn
  have HW := Aside0.mk hW
  obtain ⟨n, HN⟩ : ∃ n, Aside0 (l.length = n) := ⟨_, ⟨rfl⟩⟩
  rw [HN.out] at hlc hl70 hP
  have HP := Aside0.mk hP
  have HLC := Aside0.mk hlc
  clear hF hW hP hlc
  have HA : Aside0 (Below w.heap.size w (w.alloc (.cells Ps.z5.toArray 42))) := ⟨below_alloc (Below.refl _ _) _⟩
  have HX : Aside0 (Wk.Blk (w.alloc (.cells Ps.z5.toArray 42)) w.heap.size 42 Ps.z5) := ⟨Wk.Blk.new w _ Ps.z5⟩
  have H0 : Aside0 (∀ y ∈ l.take 0, y.f0 ≠ id) := ⟨fun y hy => by simp at hy⟩
  go_enter Tryd.func22, Tryd.ntmps22
  go_wp2_with fail
  go_loopw [6] (fun v6 wr => ∃ k : Nat, v6 = .int .i64 k ∧ k ≤ n ∧ Aside0 (∀ y ∈ l.take k, y.f0 ≠ id) ∧ Aside0 (Below w.heap.size w wr) ∧ Aside0 (Wk.Blk wr w.heap.size 42 Ps.z5)) (fun v _ => n - (intOf v).toNat)
  case atStart => exact ⟨0, rfl, Nat.zero_le _, H0, HA, HX⟩
  case round =>
    clear H0 HA HX
    obtain ⟨k, rfl, hk, HNO, HB, HX⟩ := hrel
    have p0 := (HP.out.below_ HB.out).at_ 0 rfl
    by_cases hlt : k < n
    · have hltI : (k : Int) < n := by omega
      have hki : k < l.length := by rw [HN.out]; exact hlt
      obtain ⟨ad, B0, d0, B1, d1, hA, hl0, hl1, hg0, hg1, hrow⟩ := Ps.row_cells HC.out rfl k hki
      subst hA
      have HTK := Aside0.mk (List.take_succ_eq_append_getElem hki)
      have HXM := Aside0.mk (List.getElem_mem hki)
      have HFA : Aside0 (l[k].f0 = id → Ps.find l id = some l[k]) := ⟨fun he => Ps.find_at HNO.out hki he⟩
      obtain ⟨x, HXK⟩ : ∃ x, Aside0 (l[k] = x) := ⟨_, ⟨rfl⟩⟩
      rw [HXK.out] at hrow hl0 hl1 hg0 hg1 HTK HXM HFA
      have hwx := HW.out x HXM.out
      obtain ⟨i, l0, q, s, l1⟩ := x
      obtain ⟨_, hm0, hm1, -⟩ := hwx
      change l0.length ≤ 1000 at hm0
      change l1.length ≤ 1000 at hm1
      obtain ⟨n0, HN0⟩ : ∃ i, Aside0 (l0.length = i) := ⟨_, ⟨rfl⟩⟩
      obtain ⟨n1, HN1⟩ : ∃ i, Aside0 (l1.length = i) := ⟨_, ⟨rfl⟩⟩
      simp only [Ps.tnc] at hrow hl0 hl1
      have HG0 : Aside0 (Kd.C (Kd.int .u8) w B0 l0.length l0) := ⟨hg0⟩
      have HG1 : Aside0 (Kd.C (Kd.int .u32) w B1 l1.length l1) := ⟨hg1⟩
      rw [HN0.out, HN1.out] at hrow
      rw [HN0.out] at hm0 hl0
      rw [HN1.out] at hm1 hl1
      have HROW : Aside0 (∀ w', Below w.heap.size w w' → (Instr.loadAt 42 (.pointer (some (ad.add (k * 5))))).run Tryd.prog w' = .ok (.agg (Ps.tv i q s (.slice B0 n0 d0) (.slice B1 n1 d1)).toArray) w' ∧ w'.cell? (ad.add (k * 5)) = some (.int .u32 i)) := ⟨fun w' hb => ⟨(hrow w' hb).1, (hrow w' hb).2.1⟩⟩
      clear hrow hg0 hg1 HXK
      have cc1 := (HROW.out wr HB.out).2
      by_cases hid : i = id
      · have HFI := Aside0.mk (HFA.out hid)
        have hidb : (i == id) = true := by simpa using hid
        have HRN := Aside0.mk (HROW.out wr HB.out).1
        clear HFA hid HNO
        have HIU := Aside0.mk Cl.infoByte
        have HIV := Aside0.mk Cl32.infoByte
        have HS1 := Aside0.mk Ps.sizeSl
        have HS2 := Aside0.mk Ps.sizeSm
        have HAL : Aside0 ((([] : List Int).length + n0) * 1 ≤ 140737488355328 ∧ (([] : List Int).length + n1) * 4 ≤ 140737488355328) := ⟨by simp only [List.length_nil]; omega⟩
        go_wp2_with (first
          | refine Wk.load rfl 42 (.tmp 34) rfl _ (.pointer (some (ad.add (k * 5)))) rfl HRN.out ?_
          | (refine Wk.store_all rfl rfl 42 (.tmp 7) (.tmp 35) rfl wr.heap.size (Ps.tv i q s (.slice B0 n0 d0) (.slice B1 n1 d1)) rfl rfl 42 Ps.z5 (Wk.Blk.new wr 42 Ps.z5) HSZ.out rfl rfl ?_; intro w1 hX hO; have HF1 := Aside0.mk (Wk.Only.fresh HB.out HB.out.size hO); have HY1 := Aside0.mk hX; have HX1 := Aside0.mk (HX.out.below_ HF1.out.2.2); have HC10 := Aside0.mk (Kd.C_below HG0.out HF1.out.2.1); have HC11 := Aside0.mk (Kd.C_below HG1.out HF1.out.2.1); have k1 := hX.at_ 1 rfl; clear hX hO)
          | (at_builtin; refine Kd.R_append_rows (Kd.int .u8) (w0 := w) (W := w1) w.heap.size rfl (.tmp 36) (.tmp 38) 22 5 (.int .u8 0) 1 rfl Tryd.underlying22 HIU.out rfl (by decide) (by omega) (.slice none 0 0) ([] : List Int) l0 B0 n0 d0 (fun _ => True) (fun _ => False) rfl rfl (Kd.R_nil _ _ _ _ _) (by rw [← HN0.out]; exact HC10.out) (fun _ _ h => h) (fun _ h => h.elim) (fun _ _ => trivial) HF1.out.2.1 HF1.out.2.1.size HAL.out.1 ?_; intro v2 w2 ho hb hg _; rw [List.nil_append] at ho; obtain ⟨A2, e2, rfl⟩ := Kd.R_slice ho; rw [HN0.out] at ho ⊢; have HR2 := Aside0.mk ho; have HB2 := Aside0.mk hb; have hbw : Below w1.heap.size w1 w2 := ⟨hg.os, hg.tape, hg.output, hg.size, fun kk hkk => hg.block kk hkk (by simp [Value.ownBlock])⟩; have HX2 := Aside0.mk (HX1.out.below_ hbw); have HY2 := Aside0.mk (HY1.out.below_ hbw); have HC21 := Aside0.mk (Kd.C_below HC11.out hbw); have k4 := HY2.out.at_ 4 rfl; clear ho hb hg hbw k1)
          | (at_builtin; refine Kd.R_append_rows (Kd.int .u32) (w0 := w) (W := w2) w.heap.size rfl (.tmp 40) (.tmp 42) 37 23 (.int .u32 0) 4 rfl Tryd.underlying37 HIV.out rfl (by decide) (by omega) (.slice none 0 0) ([] : List Int) l1 B1 n1 d1 (fun _ => True) (fun _ => False) rfl rfl (Kd.R_nil _ _ _ _ _) (by rw [← HN1.out]; exact HC21.out) (fun _ _ h => h) (fun _ h => h.elim) (fun _ _ => trivial) HB2.out HB2.out.size HAL.out.2 ?_; intro v3 w3 ho hb hg _; rw [List.nil_append] at ho; obtain ⟨A3, e3, rfl⟩ := Kd.R_slice ho; rw [HN1.out] at ho ⊢; have HR3 := Aside0.mk ho; have HB3 := Aside0.mk hb; have hbw : Below w2.heap.size w2 w3 := ⟨hg.os, hg.tape, hg.output, hg.size, fun kk hkk => hg.block kk hkk (by simp [Value.ownBlock])⟩; have HX3 := Aside0.mk (HX2.out.below_ hbw); have HY3 := Aside0.mk (HY2.out.below_ hbw); have HU3 := Aside0.mk (Kd.R_below HR2.out hbw); clear ho hb hg hbw k4)
          | (refine Wk.store rfl rfl 22 (.tmp 45) (.tmp 44) rfl wr.heap.size 1 (.slice A2 n0 e2) [.slice A2 n0 e2] rfl rfl rfl 42 _ HY3.out HS1.out (Nat.le_of_ble_eq_true rfl) rfl ?_; intro w4 hX hO; have HY4 := Aside0.mk (show Wk.Blk w4 wr.heap.size 42 (Ps.tv i q s (.slice A2 n0 e2) (.slice B1 n1 d1)) from hX); have HO4 := Aside0.mk hO; clear hX hO)
          | (refine Wk.store rfl rfl 37 (.tmp 47) (.tmp 46) rfl wr.heap.size 4 (.slice A3 n1 e3) [.slice A3 n1 e3] rfl rfl rfl 42 _ HY4.out HS2.out (Nat.le_of_ble_eq_true rfl) rfl ?_; intro w5 hX hO; have HY5 := Aside0.mk (show Wk.Blk w5 wr.heap.size 42 (Ps.tv i q s (.slice A2 n0 e2) (.slice A3 n1 e3)) from hX); have HO5 := Aside0.mk hO; have HNE : Aside0 (w.heap.size ≠ wr.heap.size) := ⟨by have := HX.out.lt; omega⟩; have HX5 := Aside0.mk ((HX3.out.only HO4.out HNE.out).only hO HNE.out); clear hX hO)
          | refine Wk.load rfl 42 (.tmp 7) rfl (.agg (Ps.tv i q s (.slice A2 n0 e2) (.slice A3 n1 e3)).toArray) (.pointer (some ⟨wr.heap.size, 0, none⟩)) rfl (Wk.run_load_blk 42 wr.heap.size 0 _ _ HY5.out rfl Tryd.underlying42 rfl HSZ.out) ?_
          | (refine Wk.store_all rfl rfl 42 (.tmp 4) (.tmp 48) rfl w.heap.size (Ps.tv i q s (.slice A2 n0 e2) (.slice A3 n1 e3)) rfl rfl 42 _ HX5.out HSZ.out rfl rfl ?_; intro w6 hX hO; have HX6 := Aside0.mk hX; have HO6 := Aside0.mk hO; clear hX hO))
        refine bodyPost_ret (Wk.res_ct rfl _ w.heap.size 42 _ _ rfl HX6.out Tryd.underlying42 rfl HSZ.out) rfl ?_
        have hne : ∀ q, q ∈ 5 :: (Kd.int .u8).E → q ≠ 42 := by decide
        have hne' : ∀ q, q ∈ 23 :: (Kd.int .u32).E → q ≠ 42 := by decide
        have hb4 := Wk.Only.below HB3.out HO4.out HB.out.size
        have hb5 := Wk.Only.below hb4 HO5.out HB.out.size
        have hR := Wk.R_only (Wk.R_only (Wk.R_only HU3.out HY3.out hne HO4.out) HY4.out hne HO5.out) HX5.out hne HO6.out
        have hR' := Wk.R_only (Wk.R_only (Wk.R_only HR3.out HY3.out hne' HO4.out) HY4.out hne' HO5.out) HX5.out hne' HO6.out
        have c2' : n0 ≤ e2 := (Kd.R_reads' hR).2.1
        have c3' : n1 ≤ e3 := (Kd.R_reads' hR').2.1
        unfold Ps.TenPost
        rw [HFI.out]
        simp only [Option.getD_some, Option.isSome_some]
        refine ⟨Wk.Only.below hb5 HO6.out (Nat.le_refl _), A2, e2, A3, e3, ?_, ?_, ?_, ?_, ?_⟩
        · simp only [Ps.tnc]; rw [HN0.out, HN1.out]; rfl
        · rw [HN0.out]; exact c2'
        · rw [HN1.out]; exact c3'
        · rw [HN0.out]; exact hR
        · rw [HN1.out]; exact hR'
      · have hidb : (i == id) = false := by simpa using hid
        clear HFA
        go_wp2_with fail
        refine ⟨⟨k + 1, by simp, by omega, ⟨?_⟩, HB, HX⟩, by simp [intOf]; omega⟩
        intro y hy
        rw [HTK.out] at hy
        rcases List.mem_append.1 hy with h | h
        · exact HNO.out y h
        · rw [List.mem_singleton.1 h]; exact hid
    · obtain rfl : k = n := by omega
      have HFN : Aside0 (Ps.find l id = none) := ⟨Ps.find_none.2 (by
        have := HNO.out
        rwa [List.take_of_length_le (by rw [HN.out]; exact Nat.le_refl _)] at this)⟩
      go_wp2_with (refine Wk.store_all rfl rfl 42 (.tmp 4) (.tmp 49) rfl w.heap.size Ps.z5 rfl rfl 42 _ HX.out HSZ.out rfl rfl ?_; intro w4 hX hO; have HX4 := Aside0.mk hX; have HO4 := Aside0.mk hO; clear hX hO)
      refine bodyPost_ret (Wk.res_ct rfl _ w.heap.size 42 _ _ rfl HX4.out Tryd.underlying42 rfl HSZ.out) rfl ?_
      unfold Ps.TenPost
      rw [HFN.out]
      exact ⟨Wk.Only.below HB.out HO4.out (Nat.le_refl _), none, 0, none, 0, rfl, Nat.le_refl _, Nat.le_refl _, Kd.R_nil _ _ _ _ _, Kd.R_nil _ _ _ _ _⟩
end Go.Proofs.YtabdnlecpndfjaaDoor
set_option linter.unusedVariables false
set_option linter.unusedSimpArgs false
namespace Go.Proofs.YtabdnlecpndfjaaDoor
open Go.RowKit Go.Proofs.YtabdnlecpndfjaaDoor.PBase Go.Proofs.YtabdnlecpndfjaaDoorW.PrintWords Go.Proofs.YtabdnlecpndfjaaDoorW.PrintLast Go.Proofs.YtabdnlecpndfjaaDoorW.PrintMore
namespace Ps
def Rt (W : World) (base p : Nat) (l : List Tn) : Prop := ∃ A c, base ≤ p ∧ Wk.Blk W p 77 [.slice A l.length c] ∧ Kd.R kTn 42 W base (fun _ => True) (.slice A l.length c) l
theorem Rt.tr {W : World} {base p : Nat} {l : List Tn} (h : Rt W base p l) : Tr W base p l := by
  obtain ⟨A, c, h1, h2, h3⟩ := h
  exact ⟨A, c, h1, (Kd.R_reads' h3).2.1, h2, Kd.F_mono (Kd.R_F (Kd.R_bound h3)) (fun k hk => hk.2.1)⟩
theorem Rt.below {W W' : World} {base p : Nat} {l : List Tn} (h : Rt W base p l) (hb : Below W.heap.size W W') : Rt W' base p l := by
  obtain ⟨A, c, h1, h2, h3⟩ := h
  exact ⟨A, c, h1, h2.below_ hb, Kd.R_below h3 hb⟩
def RNewPost (w : World) (n : Nat) (l : List Tn) (e : Ending) (w' : World) : Prop :=
  Below w.heap.size w w' ∧ ((64 < n ∧ e = .returned (.tuple #[.pointer none, .int .i64 3])) ∨ (n ≤ 64 ∧ good [] l = false ∧ e = .returned (.tuple #[.pointer none, .int .i64 1])) ∨ (n ≤ 64 ∧ good [] l = true ∧ ∃ p, e = .returned (.tuple #[.pointer (some ⟨p, 0, none⟩), .int .i64 0]) ∧ Tr w' w.heap.size p l))
theorem sizeTs : (Tryd.prog.info? 43).map (·.size) = some 1 := by kernel_rfl
theorem kTn_ne : ∀ q, q ∈ 42 :: kTn.E → q ≠ 77 := by decide
end Ps
set_option maxHeartbeats 4000000 in
set_option maxRecDepth 100000 in
theorem refnew_.calls (A : Option Addr) (n c : Nat) (l : List Ps.Tn) (w : World) (hC : Ps.kTn.C w A l.length l) (hn : l.length = n) (hw : ∀ x ∈ l, Ps.TnWf x) :
    Calls Tryd.prog 19 #[.slice A n c] w (Ps.RNewPost w n l) := by
  have HC := Aside0.mk hC
  have HN := Aside0.mk hn
  have HW := Aside0.mk hw
  clear hC hn hw
  have HSZ := Aside0.mk Ps.sizeTn
  have HST := Aside0.mk Ps.sizeTr
  have HTS := Aside0.mk Ps.sizeTs
  go_enter Tryd.func19, Tryd.ntmps19
  by_cases h64 : 64 < n
  · go_wp2_with fail
    go_ret2
    exact ⟨Below.refl _ _, .inl ⟨h64, rfl⟩⟩
  · have h64I : (n : Int) ≤ 64 := by omega
    go_wp2_with fail
    obtain ⟨pt, HPT⟩ : ∃ b, Aside0 (w.heap.size = b) := ⟨_, ⟨rfl⟩⟩
    generalize hWq : World.alloc w _ = W0
    have HB0 : Aside0 (Below w.heap.size w W0) := ⟨by rw [← hWq]; exact below_alloc (Below.refl _ _) _⟩
    have HR0 : Aside0 (Ps.Rt W0 w.heap.size pt []) := ⟨by
      rw [← HPT.out]
      exact ⟨none, 0, Nat.le_refl _, by rw [← hWq]; exact Wk.Blk.new w _ [.slice none 0 0], Kd.R_nil _ _ _ _ _⟩⟩
    clear hWq
    rw [HPT.out]
    go_loopw [5] (fun v wr => ∃ k : Nat, v = .int .i64 k ∧ k ≤ n ∧ Aside0 (Ps.Rt wr w.heap.size pt (l.take k)) ∧ Aside0 (Below w.heap.size w wr) ∧ Aside0 (Ps.good (l.take k) (l.drop k) = Ps.good [] l)) (fun v _ => n - (intOf v).toNat)
    case atStart => exact ⟨0, rfl, Nat.zero_le _, HR0, HB0, ⟨rfl⟩⟩
    case round =>
      clear HR0 HB0
      obtain ⟨k, rfl, hk, HT, HB, HG⟩ := hrel
      by_cases hlt : k < n
      · have hltI : (k : Int) < n := by omega
        have hki : k < l.length := by rw [HN.out]; exact hlt
        obtain ⟨ad, B0, d0, B1, d1, hA, hl0, hl1, hg0, hg1, hrow⟩ := Ps.row_cells HC.out rfl k hki
        subst hA
        have HTK := Aside0.mk (List.take_succ_eq_append_getElem hki)
        have HDK := Aside0.mk (List.drop_eq_getElem_cons hki)
        have hwx := HW.out _ (List.getElem_mem hki)
        obtain ⟨x, HXK⟩ : ∃ x, Aside0 (l[k] = x) := ⟨_, ⟨rfl⟩⟩
        rw [HXK.out] at hrow hl0 hl1 hg0 hg1 HTK HDK hwx
        obtain ⟨i, l0, q, s, l1⟩ := x
        obtain ⟨_, hm0, hm1, -⟩ := hwx
        change l0.length ≤ 1000 at hm0
        change l1.length ≤ 1000 at hm1
        obtain ⟨n0, HN0⟩ : ∃ i, Aside0 (l0.length = i) := ⟨_, ⟨rfl⟩⟩
        obtain ⟨n1, HN1⟩ : ∃ i, Aside0 (l1.length = i) := ⟨_, ⟨rfl⟩⟩
        simp only [Ps.tnc] at hrow hl0 hl1
        have HG0 : Aside0 (Kd.C (Kd.int .u8) w B0 l0.length l0) := ⟨hg0⟩
        have HG1 : Aside0 (Kd.C (Kd.int .u32) w B1 l1.length l1) := ⟨hg1⟩
        rw [HN0.out, HN1.out] at hrow
        rw [HN0.out] at hm0 hl0
        rw [HN1.out] at hm1 hl1
        have HROW : Aside0 (∀ w', Below w.heap.size w w' → (Instr.loadAt 42 (.pointer (some (ad.add (k * 5))))).run Tryd.prog w' = .ok (.agg (Ps.tv i q s (.slice B0 n0 d0) (.slice B1 n1 d1)).toArray) w' ∧ w'.cell? (ad.add (k * 5)) = some (.int .u32 i) ∧ w'.cell? ⟨(ad.add (k * 5)).block, (ad.add (k * 5)).off + 1, none⟩ = some (.slice B0 n0 d0)) := ⟨fun w' hb => hrow w' hb⟩
        have HLK : Aside0 ((l.take k).length = k) := ⟨by rw [List.length_take]; omega⟩
        clear hrow hg0 hg1 HXK
        have cc0 := (HROW.out wr HB.out).2.1
        go_wp2_with fail
        clear cc0
        refine (reftenant_.calls pt w.heap.size (l.take k) i wr HT.out.tr (by rw [HLK.out]; omega) (fun x hx => HW.out x (List.mem_of_mem_take hx))).mono ?_
        rintro e w4 ⟨hb4, Z0, z0, Z1, z1, rfl, -⟩
        generalize (Ps.find (l.take k) i).getD Ps.zn = y
        obtain ⟨yi, yl, yq, ys, ym⟩ := y
        simp only [Ps.tnc]
        generalize yl.length = yn
        generalize ym.length = yz
        have HB4 := Aside0.mk (below_then HB.out HB.out.size hb4)
        have HT4 := Aside0.mk (HT.out.below hb4)
        obtain ⟨fd, HFD⟩ : ∃ b, Aside0 ((Ps.find (l.take k) i).isSome = b) := ⟨_, ⟨rfl⟩⟩
        rw [HFD.out]
        clear hb4 HT HB
        have HB5 : Aside0 (Below w.heap.size w (w4.alloc (.cells #[.int .u32 yi, .slice Z0 yn z0, .int .u64 yq, .int .u64 ys, .slice Z1 yz z1] 42))) := ⟨HB4.out.alloc HB4.out.size _⟩
        have HT5 : Aside0 (Ps.Rt (w4.alloc (.cells #[.int .u32 yi, .slice Z0 yn z0, .int .u64 yq, .int .u64 ys, .slice Z1 yz z1] 42)) w.heap.size pt (l.take k)) := ⟨HT4.out.below (below_alloc (Below.refl _ _) _)⟩
        have cc1 := (HROW.out _ HB5.out).2.2
        cases fd with
        | true =>
          go_wp2_with fail
          go_ret2
          refine ⟨HB5.out, .inr (.inl ⟨by omega, ?_, rfl⟩)⟩
          rw [← HG.out, HDK.out]
          obtain ⟨y, hy⟩ := Option.isSome_iff_exists.1 HFD.out
          exact Ps.good_there _ _ _ hy
        | false =>
          have HFN : Aside0 (Ps.find (l.take k) i = none) := ⟨by
            have := HFD.out
            cases h : Ps.find (l.take k) i with
            | none => rfl
            | some y => rw [h] at this; cases this⟩
          by_cases hz : n0 = 0
          · have hzI : ((n0 : Int) == 0) = true := by simpa using hz
            go_wp2_with fail
            go_ret2
            refine ⟨HB5.out, .inr (.inl ⟨by omega, ?_, rfl⟩)⟩
            rw [← HG.out, HDK.out]
            exact Ps.good_bare _ _ _ (by show l0.length = 0; rw [HN0.out]; exact hz)
          · have hzI : ((n0 : Int) == 0) = false := by simpa using hz
            clear cc1 HB5 HT5
            have HIU := Aside0.mk Cl.infoByte
            have HIV := Aside0.mk Cl32.infoByte
            have HS1 := Aside0.mk Ps.sizeSl
            have HS2 := Aside0.mk Ps.sizeSm
            have HAL : Aside0 ((([] : List Int).length + n0) * 1 ≤ 140737488355328 ∧ (([] : List Int).length + n1) * 4 ≤ 140737488355328) := ⟨by simp only [List.length_nil]; omega⟩
            go_wp2_with (first
              | (refine Wk.store_all rfl rfl 42 (.tmp 6) (.tmp 30) rfl w4.heap.size [.int .u32 yi, .slice Z0 yn z0, .int .u64 yq, .int .u64 ys, .slice Z1 yz z1] rfl rfl 42 Ps.z5 (Wk.Blk.new w4 42 Ps.z5) HSZ.out rfl rfl ?_; intro w6 hX hO; have HF6 := Aside0.mk (Wk.Only.fresh HB4.out HB4.out.size hO); have HT6 := Aside0.mk (HT4.out.below HF6.out.2.2); have cc1 := (HROW.out w6 HF6.out.2.1).2.2; have HRN6 := Aside0.mk (HROW.out w6 HF6.out.2.1).1; clear hX hO)
              | refine Wk.load rfl 42 (.tmp 44) rfl _ (.pointer (some (ad.add (k * 5)))) rfl HRN6.out ?_
              | (refine Wk.store_all rfl rfl 42 (.tmp 8) (.tmp 45) rfl w6.heap.size (Ps.tv i q s (.slice B0 n0 d0) (.slice B1 n1 d1)) rfl rfl 42 Ps.z5 (Wk.Blk.new w6 42 Ps.z5) HSZ.out rfl rfl ?_; intro w1 hX hO; have HF1 := Aside0.mk (Wk.Only.fresh HF6.out.2.1 HF6.out.2.1.size hO); have HY1 := Aside0.mk hX; have HT1 := Aside0.mk (HT6.out.below HF1.out.2.2); have HC10 := Aside0.mk (Kd.C_below HG0.out HF1.out.2.1); have HC11 := Aside0.mk (Kd.C_below HG1.out HF1.out.2.1); have k1 := hX.at_ 1 rfl; obtain ⟨g8, HG8⟩ : ∃ b, Aside0 (w6.heap.size = b) := ⟨_, ⟨rfl⟩⟩; rw [HG8.out] at HY1 k1 ⊢; clear hX hO cc1)
              | (at_builtin; refine Kd.R_append_rows (Kd.int .u8) (w0 := w1) (W := w1) w1.heap.size rfl (.tmp 46) (.tmp 48) 22 5 (.int .u8 0) 1 rfl Tryd.underlying22 HIU.out rfl (by decide) (by omega) (.slice none 0 0) ([] : List Int) l0 B0 n0 d0 (fun _ => True) (fun _ => False) rfl rfl (Kd.R_nil _ _ _ _ _) (by rw [← HN0.out]; exact HC10.out) (fun _ _ h => h) (fun _ h => h.elim) (fun _ _ => trivial) (Below.refl _ _) (Nat.le_refl _) HAL.out.1 ?_; intro v2 w2 ho hb hg _; rw [List.nil_append] at ho; obtain ⟨A2, e2, rfl⟩ := Kd.R_slice ho; rw [HN0.out] at ho ⊢; have HR2 := Aside0.mk ho; have HB2 := Aside0.mk hb; have HY2 := Aside0.mk (HY1.out.below_ hb); have HC21 := Aside0.mk (Kd.C_below HC11.out hb); have k4 := HY2.out.at_ 4 rfl; clear ho hb hg k1)
              | (at_builtin; refine Kd.R_append_rows (Kd.int .u32) (w0 := w1) (W := w2) w1.heap.size rfl (.tmp 50) (.tmp 52) 37 23 (.int .u32 0) 4 rfl Tryd.underlying37 HIV.out rfl (by decide) (by omega) (.slice none 0 0) ([] : List Int) l1 B1 n1 d1 (fun _ => True) (fun _ => False) rfl rfl (Kd.R_nil _ _ _ _ _) (by rw [← HN1.out]; exact HC21.out) (fun _ _ h => h) (fun _ h => h.elim) (fun _ _ => trivial) HB2.out HB2.out.size HAL.out.2 ?_; intro v3 w3 ho hb hg _; rw [List.nil_append] at ho; obtain ⟨A3, e3, rfl⟩ := Kd.R_slice ho; rw [HN1.out] at ho ⊢; have HR3 := Aside0.mk ho; have HB3 := Aside0.mk hb; have hbw : Below w2.heap.size w2 w3 := ⟨hg.os, hg.tape, hg.output, hg.size, fun kk hkk => hg.block kk hkk (by simp [Value.ownBlock])⟩; have HY3 := Aside0.mk (HY2.out.below_ hbw); have HU3 := Aside0.mk (Kd.R_below HR2.out hbw); have HT3 := Aside0.mk (HT1.out.below hb); clear ho hb hg hbw k4)
              | (refine Wk.store rfl rfl 22 (.tmp 55) (.tmp 54) rfl g8 1 (.slice A2 n0 e2) [.slice A2 n0 e2] rfl rfl rfl 42 _ HY3.out HS1.out (Nat.le_of_ble_eq_true rfl) rfl ?_; intro w7 hX hO; have HY7 := Aside0.mk (show Wk.Blk w7 g8 42 (Ps.tv i q s (.slice A2 n0 e2) (.slice B1 n1 d1)) from hX); have HO7 := Aside0.mk hO; clear hX hO)
              | (refine Wk.store rfl rfl 37 (.tmp 57) (.tmp 56) rfl g8 4 (.slice A3 n1 e3) [.slice A3 n1 e3] rfl rfl rfl 42 _ HY7.out HS2.out (Nat.le_of_ble_eq_true rfl) rfl ?_; intro w8 hX hO; have HY8 := Aside0.mk (show Wk.Blk w8 g8 42 (Ps.tv i q s (.slice A2 n0 e2) (.slice A3 n1 e3)) from hX); have HO8 := Aside0.mk hO; clear hX hO))
            obtain ⟨A6, c6, hbp6, hblk6, hR6⟩ := HT6.out
            rw [HLK.out] at hblk6 hR6
            have hb13 := below_then HF1.out.2.2 HF1.out.2.2.size HB3.out
            have HG6 : Aside0 (w6.heap.size ≤ g8 ∧ pt ≠ g8 ∧ w6.heap.size ≤ w1.heap.size ∧ w.heap.size ≤ w6.heap.size) := ⟨by rw [← HG8.out]; exact ⟨Nat.le_refl _, by have := hblk6.lt; omega, HF1.out.2.2.size, HF6.out.2.1.size⟩⟩
            have HPB : Aside0 (Wk.Blk w8 pt 77 [.slice A6 k c6]) := ⟨((hblk6.below_ hb13).only HO7.out HG6.out.2.1).only HO8.out HG6.out.2.1⟩
            have HRR : Aside0 (Kd.R Ps.kTn 42 w8 w.heap.size (fun j => j < w6.heap.size) (.slice A6 k c6) (l.take k)) := ⟨by
              have h1 : Kd.R Ps.kTn 42 w6 w.heap.size (fun j => j < w6.heap.size) (.slice A6 k c6) (l.take k) := Kd.R_mono (Kd.R_bound hR6) (fun j hj => hj.2.2.1)
              have h2 := Kd.R_below h1 hb13
              have hne : ∀ j, j < w6.heap.size → some j ≠ some g8 := fun j hj he => by have := Option.some.inj he; have := HG6.out.1; omega
              exact Kd.R_grown (Kd.R_grown h2 HO7.out.grown hne) HO8.out.grown hne⟩
            have hne : ∀ q, q ∈ 5 :: (Kd.int .u8).E → q ≠ 42 := by decide
            have hne' : ∀ q, q ∈ 23 :: (Kd.int .u32).E → q ≠ 42 := by decide
            have HUU := Aside0.mk (Wk.R_only (Wk.R_only HU3.out HY3.out hne HO7.out) HY7.out hne HO8.out)
            have HVV := Aside0.mk (Wk.R_only (Wk.R_only HR3.out HY3.out hne' HO7.out) HY7.out hne' HO8.out)
            have HB8 : Aside0 (Below w.heap.size w w8) := ⟨by
              have hg : w.heap.size ≤ g8 := Nat.le_trans HF6.out.2.1.size HG6.out.1
              exact Wk.Only.below (Wk.Only.below (below_then HF1.out.2.1 HF1.out.2.1.size HB3.out) HO7.out hg) HO8.out hg⟩
            have HBS : Aside0 (w.heap.size ≤ pt) := ⟨hbp6⟩
            have HLM : Aside0 (((l.take k).length + 1) * 72 ≤ 140737488355328) := ⟨by rw [HLK.out]; omega⟩
            clear hbp6 hblk6 hR6 hb13 hne hne' HT6 HT1 HT3 HT4 HB4 HF6 HF1 HY1 HY2 HY3 HY7 HO7 HO8 HR2 HR3 HU3 HB2 HB3 HC10 HC11 HC21 HRN6
            refine wp_region_noPanic ?_
            refine start_ (n := 11) (S := (fun w' => Below w8.heap.size w8 w')) (ds := [7, 10]) #[false, false, false, false, false, false, false, false, false, false, false] (by kernel_rfl) rfl rfl (Below.refl _ _).drew (fun hHeld => ?_)
            refine pure_ (i := 0) (N := (some 58)) (v := ?_) (a' := ?_) #[true, false, false, false, false, false, false, false, false, false, false] rfl rfl (by kernel_rfl) (fun _ _ _ h => h) (Or.inl ⟨by rfl, ?_⟩) ?_ ?_
            rotate_left
            · intro w'
              go_simp
              first | done | with_reducible rfl
            rotate_left
            · simp only [Act.put, List.setIfInBounds_toArray, List.set_cons_zero, List.set_cons_succ]
              rfl
            refine pure_ (i := 1) (N := (some 59)) (v := ?_) (a' := ?_) #[true, true, false, false, false, false, false, false, false, false, false] rfl rfl (by kernel_rfl) (fun _ _ _ h => h) (Or.inl ⟨by rfl, ?_⟩) ?_ ?_
            rotate_left
            · intro w'
              go_simp
              first | done | with_reducible rfl
            rotate_left
            · simp only [Act.put, List.setIfInBounds_toArray, List.set_cons_zero, List.set_cons_succ]
              rfl
            refine pure_ (i := 2) (N := (some 60)) (v := ?_) (a' := ?_) #[true, true, true, false, false, false, false, false, false, false, false] rfl rfl (by kernel_rfl) (fun _ _ _ h => h) (Or.inl ⟨by rfl, ?_⟩) ?_ ?_
            rotate_left
            · intro w'
              go_simp
              first | done | with_reducible rfl
            rotate_left
            · simp only [Act.put, List.setIfInBounds_toArray, List.set_cons_zero, List.set_cons_succ]
              rfl
            refine pure_ (i := 3) (N := (some 61)) (v := ?_) (a' := ?_) #[true, true, true, true, false, false, false, false, false, false, false] rfl rfl (by kernel_rfl) (fun _ _ _ h => h) (Or.inl ⟨by rfl, ?_⟩) ?_ ?_
            rotate_left
            · intro w'
              go_simp
              first | done | with_reducible rfl
            rotate_left
            · simp only [Act.put, List.setIfInBounds_toArray, List.set_cons_zero, List.set_cons_succ]
              rfl
            refine take_ (i := 4) (N := (some 62)) (v := ?_) (a' := ?_) #[true, true, true, true, true, false, false, false, false, false, false] rfl rfl (by kernel_rfl) (fun _ _ _ h => h) (Or.inl ⟨by rfl, ?_⟩) hHeld ?_ ?_
            rotate_left
            · intro w' hS'
              (have c1 := (HPB.out.below_ hS').at_ 0 rfl; go_simp)
              first | done | with_reducible rfl
            rotate_left
            · simp only [Act.put, List.setIfInBounds_toArray, List.set_cons_zero, List.set_cons_succ]
              rfl
            refine take_ (i := 5) (N := (some 63)) (v := ?_) (a' := ?_) #[true, true, true, true, true, true, false, false, false, false, false] rfl rfl (by kernel_rfl) (fun _ _ _ h => h) (Or.inl ⟨by rfl, ?_⟩) hHeld ?_ ?_
            rotate_left
            · intro w' hS'
              (have hl := Wk.run_load_blk (P := Tryd.prog) 42 g8 0 (Ps.tv i q s (.slice A2 n0 e2) (.slice A3 n1 e3)) _ (HY8.out.below_ hS') rfl Tryd.underlying42 rfl HSZ.out; refine (Wk.exec_load 42 (.tmp 8) rfl _ _ rfl hl).trans ?_)
              first | done | with_reducible rfl
            rotate_left
            · simp only [Act.put, List.setIfInBounds_toArray, List.set_cons_zero, List.set_cons_succ]
              rfl
            refine one_ (i := 6) (N := (some 64)) #[true, true, true, true, true, true, true, false, false, false, false] rfl rfl (by kernel_rfl) (by decide) (fun K hK => ?_)
            refine value_ (w1 := w8.drew.alloc (.cells (Ps.tv i q s (.slice A2 n0 e2) (.slice A3 n1 e3)).toArray 42)) (v := .slice (some ⟨w8.drew.heap.size, 0, none⟩) 1 1) (by rfl) rfl (by first | (go_simp; done) | (go_simp; rfl)) ?_
            refine hK.out _ _ (hHeld.alloc hHeld.size _) (fun hHeld => ?_)
            clear hK K
            refine norm_ (a' := ?_) ?_ ?_
            rotate_left
            · show Act.put _ (some 64) _ = _
              simp only [Act.put, List.setIfInBounds_toArray, List.set_cons_zero, List.set_cons_succ]
              rfl
            have HH9 : Aside0 (Below w8.heap.size w8 w8.drew) := ⟨(Below.refl _ _).drew⟩
            have HRO : Aside0 (Kd.R Ps.kTn 42 w8.drew w.heap.size (fun _ => True) (.slice A6 k c6) (l.take k)) := ⟨Kd.R_mono (Kd.R_below HRR.out HH9.out) (fun _ _ => trivial)⟩
            have HBB : Aside0 (Below w.heap.size w w8.drew ∧ w.heap.size ≤ w8.drew.heap.size) := ⟨below_then HB8.out HB8.out.size HH9.out, (below_then HB8.out HB8.out.size HH9.out).size⟩
            have HOW : Aside0 (∀ j, (Value.slice A6 k c6).ownBlock = some j → j < w6.heap.size) := ⟨fun j hj => HRR.out.1 j hj⟩
            have HMM : Aside0 (Ps.kTn.M w8.drew w.heap.size (fun j => True ∧ some j ≠ (Value.slice A6 k c6).ownBlock) ⟨i, l0, q, s, l1⟩ (Ps.tv i q s (.slice A2 n0 e2) (.slice A3 n1 e3))) := ⟨by
              have hok : ∀ j, w1.heap.size ≤ j → True ∧ some j ≠ (Value.slice A6 k c6).ownBlock := fun j hj => ⟨trivial, fun he => by have := HOW.out j he.symm; have := HG6.out.2.2.1; omega⟩
              have hle : w.heap.size ≤ w1.heap.size := Nat.le_trans HG6.out.2.2.2 HG6.out.2.2.1
              have r2 := Kd.R_lower (Kd.R_mono (Kd.R_bound (Kd.R_below HUU.out HH9.out)) (fun j hj => hok j hj.2.1)) hle
              have r3 := Kd.R_lower (Kd.R_mono (Kd.R_bound (Kd.R_below HVV.out HH9.out)) (fun j hj => hok j hj.2.1)) hle
              exact PBase.k42_mkM w8.drew w.heap.size _ ⟨i, l0, q, s, l1⟩ r2 r3⟩
            refine last_ (i := 7) (N := (some 65)) #[true, true, true, true, true, true, true, true, false, false, false] rfl rfl (by kernel_rfl) (by decide) (fun K hK => ?_)
            refine Kd.R_append_step Ps.kTn (w0 := w) (W := w8.drew) w.heap.size (by rfl) (.tmp 62) (.tmp 64) 43 42 (.agg Ps.z5.toArray) 72 rfl Tryd.underlying43 Ps.infoTn rfl (by decide) (by omega) (.slice A6 k c6) (l.take k) ⟨i, l0, q, s, l1⟩ (Ps.tv i q s (.slice A2 n0 e2) (.slice A3 n1 e3)) (fun _ => True) (fun j => True ∧ some j ≠ (Value.slice A6 k c6).ownBlock) rfl rfl HMM.out (fun _ h => h) (fun _ _ => trivial) HRO.out HBB.out.1 HBB.out.2 HLM.out ?_
            intro v3 w11 hr3 hb3 hg3 _
            obtain ⟨A9, c9, rfl⟩ := Kd.R_slice hr3
            have hL : (l.take k ++ [(⟨i, l0, q, s, l1⟩ : Ps.Tn)]).length = k + 1 := by rw [List.length_append, HLK.out]; rfl
            rw [hL] at hr3 ⊢
            have HR11 := Aside0.mk hr3
            have HB11 := Aside0.mk hb3
            have hpo : some pt ≠ (Value.slice A6 k c6).ownBlock := fun he => Kd.R_ne HRO.out (HPB.out.below_ HH9.out).out (by decide) he
            have HP11 := Aside0.mk ((HPB.out.below_ HH9.out).grown hg3 hpo)
            clear hr3 hb3 hg3 hL hpo
            refine hK.out _ _ ?_
            clear hK K
            refine norm_ (a' := ?_) ?_ ?_
            rotate_left
            · show Act.put _ (some 65) _ = _
              simp only [Act.put, List.setIfInBounds_toArray, List.set_cons_zero, List.set_cons_succ]
              rfl
            refine pure_ (i := 8) (N := (some 66)) (v := ?_) (a' := ?_) #[true, true, true, true, true, true, true, true, true, false, false] rfl rfl (by kernel_rfl) (fun _ _ _ h => h) (Or.inl ⟨by rfl, ?_⟩) ?_ ?_
            rotate_left
            · intro w'
              go_simp
              first | done | with_reducible rfl
            rotate_left
            · simp only [Act.put, List.setIfInBounds_toArray, List.set_cons_zero, List.set_cons_succ]
              rfl
            refine pure_ (i := 9) (N := (some 67)) (v := ?_) (a' := ?_) #[true, true, true, true, true, true, true, true, true, true, false] rfl rfl (by kernel_rfl) (fun _ _ _ h => h) (Or.inl ⟨by rfl, ?_⟩) ?_ ?_
            rotate_left
            · intro w'
              go_simp
              first | done | with_reducible rfl
            rotate_left
            · simp only [Act.put, List.setIfInBounds_toArray, List.set_cons_zero, List.set_cons_succ]
              rfl
            refine last_ (i := 10) (N := none) #[true, true, true, true, true, true, true, true, true, true, true] rfl rfl (by kernel_rfl) (by decide) (fun K hK => ?_)
            refine Wk.store_step (by rfl) rfl 43 (.tmp 67) (.tmp 65) rfl pt 0 (.slice A9 (k + 1) c9) [.slice A9 (k + 1) c9] rfl rfl rfl 77 _ HP11.out HTS.out (Nat.le_refl 1) rfl ?_
            intro w12 hX hO
            have HP12 := Aside0.mk (show Wk.Blk w12 pt 77 [.slice A9 (k + 1) c9] from hX)
            have HO12 := Aside0.mk hO
            clear hX hO
            refine hK.out _ _ ?_
            clear hK K
            refine done_ (by kernel_rfl) ?_
            refine NoPanic.normal ?_
            go_wp2_with fail
            have HLK2 : (l.take (k + 1)).length = k + 1 := by rw [List.length_take]; omega
            refine ⟨⟨k + 1, by simp, by omega, ⟨A9, c9, HBS.out, ?_, ?_⟩, ⟨Wk.Only.below HB11.out HO12.out HBS.out⟩, ⟨?_⟩⟩, by simp [intOf]; omega⟩
            · rw [HLK2]; exact HP12.out
            · rw [HLK2, HTK.out]
              exact Wk.R_only HR11.out HP11.out Ps.kTn_ne HO12.out
            · rw [HTK.out, ← HG.out, HDK.out]
              exact (Ps.good_step _ _ _ HFN.out (by show 0 < l0.length; rw [HN0.out]; omega)).symm
      · obtain rfl : k = n := by omega
        go_wp2_with fail
        go_ret2
        refine ⟨HB.out, .inr (.inr ⟨by omega, ?_, pt, rfl, ?_⟩)⟩
        · rw [← HG.out, List.drop_of_length_le (by rw [HN.out]; exact Nat.le_refl _)]
          rfl
        · have := HT.out.tr
          rwa [List.take_of_length_le (by rw [HN.out]; exact Nat.le_refl _)] at this
end Go.Proofs.YtabdnlecpndfjaaDoor
set_option linter.unusedVariables false
set_option linter.unusedSimpArgs false
namespace Go.Proofs.YtabdnlecpndfjaaDoor
open Go.RowKit Go.Proofs.YtabdnlecpndfjaaDoor.PBase Go.Proofs.YtabdnlecpndfjaaDoorW.PrintWords Go.Proofs.YtabdnlecpndfjaaDoorW.PrintLast Go.Proofs.YtabdnlecpndfjaaDoorW.PrintMore
namespace Ps
def RChPost (w : World) (l : List Tn) (s : ByteArray) (e : Ending) (w' : World) : Prop :=
  e = .returned (.tuple #[.agg (tkc (check l s).1).toArray, .int .i64 (check l s).2]) ∧ Below w.heap.size w w'
theorem str_ne {a b : ByteArray} (h : ¬ a = b) : (a.toList == b.toList) = false := by
  rw [beq_eq_false_iff_ne]
  intro e
  rw [Go.ByteArray.toList_eq, Go.ByteArray.toList_eq] at e
  exact h (by cases a; cases b; exact congrArg ByteArray.mk (Array.toList_inj.1 e))
end Ps
set_option maxHeartbeats 4000000 in
set_option maxRecDepth 100000 in
theorem refcheck_.calls (p base : Nat) (l : List Ps.Tn) (s : ByteArray) (w : World) (hT : Ps.Tr w base p l) (hl70 : l.length ≤ 70) (hs : s.size ≤ 10000) (hW : ∀ x ∈ l, Ps.TnWf x) :
    Calls Tryd.prog 20 #[.pointer (some ⟨p, 0, none⟩), .string s] w (Ps.RChPost w l s) := by
  have HT := Aside0.mk hT
  have HW := Aside0.mk hW
  have HL7 := Aside0.mk hl70
  have HSS := Aside0.mk hs
  have HSZ := Aside0.mk Ps.sizeTn
  have HSK := Aside0.mk Ps.sizeTk
  clear hT hW hl70 hs
  have HA : Aside0 (Below w.heap.size w (w.alloc (.cells Ps.zt4.toArray 26))) := ⟨below_alloc (Below.refl _ _) _⟩
  have HX0 : Aside0 (Wk.Blk (w.alloc (.cells Ps.zt4.toArray 26)) w.heap.size 26 Ps.zt4) := ⟨Wk.Blk.new w _ Ps.zt4⟩
  go_enter Tryd.func20, Tryd.ntmps20
  go_wp2_with fail
  obtain ⟨ti, se, ro, sz, er, HLK⟩ : ∃ ti se ro sz er, Aside0 (Ps.look s = ((ti, se, ro, sz), er)) := ⟨_, _, _, _, _, ⟨rfl⟩⟩
  refine (coamingref05_Look.calls 700000001 s ti se ro sz er _ (by
      rw [Ps.rlook_is s HSS.out _ (by decide), HLK.out])).mono ?_
  rintro e w2 ⟨rfl, hb2⟩
  have HX2 := Aside0.mk (HX0.out.below_ hb2)
  have HB2 := Aside0.mk (below_then HA.out HA.out.size hb2)
  have HT2 := Aside0.mk (HT.out.below HB2.out)
  clear hb2 HA HX0 HT
  have HB3 : Aside0 (Below w2.heap.size w2 (w2.alloc (.cells #[.int .u32 ti, .int .u32 se, .bool ro, .int .u64 sz] 26))) := ⟨below_alloc (Below.refl _ _) _⟩
  have HK3 : Aside0 (Wk.Blk (w2.alloc (.cells #[.int .u32 ti, .int .u32 se, .bool ro, .int .u64 sz] 26)) w2.heap.size 26 (Ps.tkc (ti, se, ro, sz))) := ⟨Wk.Blk.new w2 _ (Ps.tkc (ti, se, ro, sz))⟩
  by_cases hi : Ps.is s = true
  · have HIS := Aside0.mk hi
    obtain ⟨hfm, hgb, -⟩ := Ps.got_of s hi
    have HGB := Aside0.mk hgb
    obtain ⟨HTK, rfl⟩ : Aside0 (Ps.tok (Ps.got s) = (ti, se, ro, sz)) ∧ er = 0 := by
      have := HLK.out
      unfold Ps.look at this
      rw [if_pos hi] at this
      exact ⟨⟨congrArg Prod.fst this⟩, (congrArg Prod.snd this).symm⟩
    have hwf := Ps.tok_wf _ hgb
    rw [HTK.out] at hwf
    have HTW : Aside0 (Ps.TkWf (ti, se, ro, sz)) := ⟨hwf⟩
    clear hfm hgb hi hwf HLK
    have cc0 := HK3.out.at_ 0 rfl
    simp only at cc0
    go_wp2_with fail
    clear cc0
    generalize w2.alloc (.cells #[.int .u32 ti, .int .u32 se, .bool ro, .int .u64 sz] 26) = w3 at *
    have HX3 := Aside0.mk (HX2.out.below_ HB3.out)
    have HB30 := Aside0.mk (below_then HB2.out HB2.out.size HB3.out)
    obtain ⟨g6, HG6⟩ : ∃ b, Aside0 (w2.heap.size = b) := ⟨_, ⟨rfl⟩⟩
    rw [HG6.out] at HK3 ⊢
    refine (reftenant_.calls p base l ti w3 (HT2.out.below HB3.out) HL7.out HW.out).mono ?_
    rintro e w4 ⟨hb4, A0, d0, A1, d1, rfl, hc0, hc1, hr0, hr1⟩
    obtain ⟨hwf, hwn⟩ : Ps.TnWf ((Ps.find l ti).getD Ps.zn) ∧ ((Ps.find l ti).isSome = true → Ps.find l ti = some ((Ps.find l ti).getD Ps.zn)) := ⟨Ps.got_wf HW.out ti, fun h => by
      obtain ⟨y, hy⟩ := Option.isSome_iff_exists.1 h
      rw [hy]; rfl⟩
    obtain ⟨fd, HFD⟩ : ∃ b, Aside0 ((Ps.find l ti).isSome = b) := ⟨_, ⟨rfl⟩⟩
    obtain ⟨x, HXX⟩ : ∃ x, Aside0 ((Ps.find l ti).getD Ps.zn = x) := ⟨_, ⟨rfl⟩⟩
    rw [HFD.out] at hwn ⊢
    rw [HXX.out] at hc0 hc1 hr0 hr1 hwf hwn ⊢
    have HFN := Aside0.mk hwn
    obtain ⟨i, l0, q, sx, l1⟩ := x
    obtain ⟨_, hm0, hm1, hby⟩ := hwf
    change l0.length ≤ 1000 at hm0
    change l1.length ≤ 1000 at hm1
    change l0.length ≤ d0 at hc0
    change l1.length ≤ d1 at hc1
    simp only [Ps.tnc]
    have HBY : Aside0 (Sh.Bytes l0) := ⟨hby⟩
    obtain ⟨n0, HN0⟩ : ∃ n, Aside0 (l0.length = n) := ⟨_, ⟨rfl⟩⟩
    obtain ⟨n1, HN1⟩ : ∃ n, Aside0 (l1.length = n) := ⟨_, ⟨rfl⟩⟩
    rw [HN0.out] at hm0 hc0 hr0 ⊢
    rw [HN1.out] at hm1 hc1 hr1 ⊢
    have HB4 := Aside0.mk (below_then HB30.out HB30.out.size hb4)
    have HX4 := Aside0.mk (HX3.out.below_ hb4)
    have HK4 := Aside0.mk (HK3.out.below_ hb4)
    have HR0 := Aside0.mk hr0
    have HR1 := Aside0.mk hr1
    clear hb4 hr0 hr1 hby hwn HXX HX2 HB2 HT2 HB3 HG6 HX3 HB30 HK3
    have HB5' : Aside0 (Below w4.heap.size w4 (w4.alloc (.cells #[.int .u32 i, .slice A0 n0 d0, .int .u64 q, .int .u64 sx, .slice A1 n1 d1] 42))) := ⟨below_alloc (Below.refl _ _) _⟩
    have HX5 := Aside0.mk (HX4.out.below_ HB5'.out)
    have HB5 := Aside0.mk (below_then HB4.out HB4.out.size HB5'.out)
    cases fd with
    | false =>
      go_wp2_with (refine Wk.store_all rfl rfl 26 (.tmp 4) (.tmp 29) rfl w.heap.size Ps.zt4 rfl rfl 26 _ HX5.out HSK.out rfl rfl ?_; intro wz hX hO; have HXZ := Aside0.mk hX; have HOZ := Aside0.mk hO; clear hX hO)
      refine bodyPost_ret (Wk.res_ct rfl _ w.heap.size 26 _ _ rfl HXZ.out Tryd.underlying26 rfl HSK.out) rfl ?_
      refine ⟨?_, Wk.Only.below HB5.out HOZ.out (Nat.le_refl _)⟩
      rw [Ps.check_none HIS.out (by rw [HTK.out]; have := HFD.out; cases h : Ps.find l ti with | none => rfl | some y => rw [h] at this; cases this)]
      rfl
    | true =>
      have HFS : Aside0 (Ps.check l s = Ps.verdict ⟨i, l0, q, sx, l1⟩ (Ps.got s)) := ⟨Ps.check_some HIS.out (by rw [HTK.out]; exact HFN.out rfl)⟩
      have HYB : Aside0 (Wk.Blk (w4.alloc (.cells #[.int .u32 i, .slice A0 n0 d0, .int .u64 q, .int .u64 sx, .slice A1 n1 d1] 42)) w4.heap.size 42 (Ps.tv i q sx (.slice A0 n0 d0) (.slice A1 n1 d1))) := ⟨Wk.Blk.new w4 _ (Ps.tv i q sx (.slice A0 n0 d0) (.slice A1 n1 d1))⟩
      have HKB := Aside0.mk (HK4.out.below_ HB5'.out)
      have hrun : (Instr.loadAt 26 (.pointer (some ⟨g6, 0, none⟩))).run Tryd.prog (w4.alloc (.cells #[.int .u32 i, .slice A0 n0 d0, .int .u64 q, .int .u64 sx, .slice A1 n1 d1] 42)) = .ok (.agg #[.int .u32 ti, .int .u32 se, .bool ro, .int .u64 sz]) (w4.alloc (.cells #[.int .u32 i, .slice A0 n0 d0, .int .u64 q, .int .u64 sx, .slice A1 n1 d1] 42)) := Wk.run_load_blk (P := Tryd.prog) 26 g6 0 (Ps.tkc (ti, se, ro, sz)) _ HKB.out rfl Tryd.underlying26 rfl HSK.out
      have c1 := HYB.out.at_ 1 rfl
      try simp only at c1
      go_wp2_with (refine Wk.load rfl 26 (.tmp 6) rfl _ (.pointer (some ⟨g6, 0, none⟩)) rfl hrun ?_)
      clear c1 hrun HFN HFD
      generalize w4.alloc (.cells #[.int .u32 i, .slice A0 n0 d0, .int .u64 q, .int .u64 sx, .slice A1 n1 d1] 42) = w5 at *
      obtain ⟨g8, HG8⟩ : ∃ b, Aside0 (w4.heap.size = b) := ⟨_, ⟨rfl⟩⟩
      rw [HG8.out] at HYB ⊢
      have hc05 := (Kd.R_reads' (Kd.R_below HR0.out HB5'.out)).2.2
      have HC15 := Aside0.mk ((Kd.R_reads' (Kd.R_below HR1.out HB5'.out)).2.2)
      obtain ⟨s1, HS1⟩ : ∃ s, Aside0 (Ps.iss l0 (ti, se, ro, sz) = s) := ⟨_, ⟨rfl⟩⟩
      refine (refissue_.calls A0 n0 d0 l0 ti se ro sz w5 hc05 HN0.out hc0 HBY.out (by omega) HTW.out).mono ?_
      rintro e w6 ⟨rfl, hb6⟩
      rw [HS1.out]
      have HB6 := Aside0.mk (below_then HB5.out HB5.out.size hb6)
      have HX6 := Aside0.mk (HX5.out.below_ hb6)
      have HK6 := Aside0.mk (HKB.out.below_ hb6)
      have HY6 := Aside0.mk (HYB.out.below_ hb6)
      have HC16 := Aside0.mk (Kd.C_below HC15.out hb6)
      clear hb6 hc05 HC15 HB5 HX5 HKB HYB HB5' HX4 HK4 HB4 HR0 HR1 HG8
      have HSE : Aside0 (s1 = s ↔ Sh.hm l0 ((Ps.got s).take 18) = (Ps.got s).drop 18) := ⟨by
        have := Ps.same_iss l0 s HIS.out
        rwa [HTK.out, HS1.out] at this⟩
      by_cases hse : s1 = s
      · subst hse
        have HV1 : Aside0 (Ps.check l s1 = if se ∈ l1 then (Ps.zt, 53) else if sz = 0 ∨ sz > sx then (Ps.zt, 54) else ((ti, se, ro, sz), 0)) := ⟨by
          rw [HFS.out, Ps.verdict, if_neg (fun h => h (HSE.out.1 rfl)), HTK.out]⟩
        clear HSE HFS HS1
        go_wp2_with fail
        have H0 : Aside0 (decide (se ∈ l1.take 0) = false) := ⟨by simp⟩
        go_loopw [10] (fun v10 wr => ∃ k : Nat, v10 = .int .i64 k ∧ k ≤ n1 ∧ Aside0 (decide (se ∈ l1.take k) = false) ∧ Aside0 (Below w6.heap.size w6 wr)) (fun v _ => n1 - (intOf v).toNat)
        case atStart => exact ⟨0, rfl, Nat.zero_le _, H0, ⟨Below.refl _ _⟩⟩
        case round =>
          obtain ⟨k, rfl, hk, HRV, HBR⟩ := hrel
          have HXR := Aside0.mk (HX6.out.below_ HBR.out)
          have HKR := Aside0.mk (HK6.out.below_ HBR.out)
          have HYR := Aside0.mk (HY6.out.below_ HBR.out)
          have HB6R := Aside0.mk (below_then HB6.out HB6.out.size HBR.out)
          by_cases hlt : k < n1
          · have hltI : (k : Int) < n1 := by omega
            have hki : k < l1.length := by rw [HN1.out]; exact hlt
            have HTK1 := Aside0.mk (List.take_succ_eq_append_getElem hki)
            obtain ⟨y, HYK⟩ : ∃ y, Aside0 (l1[k] = y) := ⟨_, ⟨rfl⟩⟩
            have HYM : Aside0 (y ∈ l1) := ⟨by rw [← HYK.out]; exact List.getElem_mem hki⟩
            obtain ⟨ad, HAD, HCE⟩ : ∃ ad, Aside0 (A1 = some ad) ∧ Aside0 (wr.cell? (ad.add k) = some (.int .u32 y)) := by
              obtain ⟨ad, e, hx⟩ := Kd.at_int (Kd.C_below HC16.out HBR.out) (k : Int) (by omega) (by rw [HN1.out]; exact hltI)
              rw [Int.toNat_natCast, (Ps.rd_drop l1 k hki).1, HYK.out] at hx
              exact ⟨ad, ⟨e⟩, ⟨hx⟩⟩
            rw [HYK.out] at HTK1
            obtain rfl := HAD.out
            clear HYK hki HAD
            have HLT := Aside0.mk (World.block_lt_of_cell? _ _ HCE.out)
            have c4 := HYR.out.at_ 4 rfl
            try simp only [Ps.tv] at c4
            go_wp2_with fail
            refine wp_region_noPanic ?_
            refine start_ (n := 8) (S := (fun w' => Below wr.heap.size wr w')) (ds := []) #[false, false, false, false, false, false, false, false] (by kernel_rfl) rfl rfl (Below.refl _ _).drew (fun hHeld => ?_)
            refine pure_ (i := 0) (N := (some 44)) (v := ?_) (a' := ?_) #[true, false, false, false, false, false, false, false] rfl rfl (by kernel_rfl) (fun _ _ _ h => h) (Or.inl ⟨by rfl, ?_⟩) ?_ ?_
            rotate_left
            · intro w'
              go_simp
              first | done | with_reducible rfl
            rotate_left
            · simp only [Act.put, List.setIfInBounds_toArray, List.set_cons_zero, List.set_cons_succ]
              rfl
            refine take_ (i := 1) (N := (some 45)) (v := ?_) (a' := ?_) #[true, true, false, false, false, false, false, false] rfl rfl (by kernel_rfl) (fun _ _ _ h => h) (Or.inl ⟨by rfl, ?_⟩) hHeld ?_ ?_
            rotate_left
            · intro w' hS'
              (have c1 := (HYR.out.below_ hS').at_ 4 rfl; go_simp)
              first | done | with_reducible rfl
            rotate_left
            · simp only [Act.put, List.setIfInBounds_toArray, List.set_cons_zero, List.set_cons_succ]
              rfl
            refine pure_ (i := 2) (N := (some 46)) (v := ?_) (a' := ?_) #[true, true, true, false, false, false, false, false] rfl rfl (by kernel_rfl) (fun _ _ _ h => h) (Or.inl ⟨by rfl, ?_⟩) ?_ ?_
            rotate_left
            · intro w'
              go_simp
              first | done | with_reducible rfl
            rotate_left
            · simp only [Act.put, List.setIfInBounds_toArray, List.set_cons_zero, List.set_cons_succ]
              rfl
            refine pure_ (i := 3) (N := (some 47)) (v := ?_) (a' := ?_) #[true, true, true, true, false, false, false, false] rfl rfl (by kernel_rfl) (fun _ _ _ h => h) (Or.inl ⟨by rfl, ?_⟩) ?_ ?_
            rotate_left
            · intro w'
              go_simp
              first | done | with_reducible rfl
            rotate_left
            · simp only [Act.put, List.setIfInBounds_toArray, List.set_cons_zero, List.set_cons_succ]
              rfl
            refine take_ (i := 4) (N := (some 48)) (v := ?_) (a' := ?_) #[true, true, true, true, true, false, false, false] rfl rfl (by kernel_rfl) (fun _ _ _ h => h) (Or.inl ⟨by rfl, ?_⟩) hHeld ?_ ?_
            rotate_left
            · intro w' hS'
              (have c1 := (hS'.cell HLT.out).trans HCE.out; go_simp)
              first | done | with_reducible rfl
            rotate_left
            · simp only [Act.put, List.setIfInBounds_toArray, List.set_cons_zero, List.set_cons_succ]
              rfl
            refine pure_ (i := 5) (N := (some 49)) (v := ?_) (a' := ?_) #[true, true, true, true, true, true, false, false] rfl rfl (by kernel_rfl) (fun _ _ _ h => h) (Or.inl ⟨by rfl, ?_⟩) ?_ ?_
            rotate_left
            · intro w'
              go_simp
              first | done | with_reducible rfl
            rotate_left
            · simp only [Act.put, List.setIfInBounds_toArray, List.set_cons_zero, List.set_cons_succ]
              rfl
            refine take_ (i := 6) (N := (some 50)) (v := ?_) (a' := ?_) #[true, true, true, true, true, true, true, false] rfl rfl (by kernel_rfl) (fun _ _ _ h => h) (Or.inl ⟨by rfl, ?_⟩) hHeld ?_ ?_
            rotate_left
            · intro w' hS'
              (have c1 := (HKR.out.below_ hS').at_ 1 rfl; go_simp)
              first | done | with_reducible rfl
            rotate_left
            · simp only [Act.put, List.setIfInBounds_toArray, List.set_cons_zero, List.set_cons_succ]
              rfl
            refine pure_ (i := 7) (N := (some 51)) (v := ?_) (a' := ?_) #[true, true, true, true, true, true, true, true] rfl rfl (by kernel_rfl) (fun _ _ _ h => h) (Or.inl ⟨by rfl, ?_⟩) ?_ ?_
            rotate_left
            · intro w'
              go_simp
              first | done | with_reducible rfl
            rotate_left
            · simp only [Act.put, List.setIfInBounds_toArray, List.set_cons_zero, List.set_cons_succ]
              rfl
            refine done_ (by kernel_rfl) ?_
            refine NoPanic.normal ?_
            have HXD := Aside0.mk (HXR.out.below_ (Below.refl _ wr).drew)
            have HBD := Aside0.mk (below_then HB6R.out HB6R.out.size (Below.refl _ wr).drew)
            by_cases hy : y = se
            · have hyb : (y == se) = true := by simpa using hy
              go_wp2_with (refine Wk.store_all rfl rfl 26 (.tmp 4) (.tmp 52) rfl w.heap.size Ps.zt4 rfl rfl 26 _ HXD.out HSK.out rfl rfl ?_; intro wz hX hO; have HXZ := Aside0.mk hX; have HOZ := Aside0.mk hO; clear hX hO)
              refine bodyPost_ret (Wk.res_ct rfl _ w.heap.size 26 _ _ rfl HXZ.out Tryd.underlying26 rfl HSK.out) rfl ?_
              refine ⟨?_, Wk.Only.below HBD.out HOZ.out (Nat.le_refl _)⟩
              rw [HV1.out, if_pos (by rw [← hy]; exact HYM.out)]
              rfl
            · have hyb : (y == se) = false := by simpa using hy
              go_wp2_with fail
              refine ⟨⟨k + 1, by simp, by omega, ⟨?_⟩, ⟨HBR.out.drew⟩⟩, by simp [intOf]; omega⟩
              rw [HTK1.out, decide_eq_false_iff_not, List.mem_append, List.mem_singleton]
              exact fun h => h.elim (of_decide_eq_false HRV.out) (fun h => hy h.symm)
          · obtain rfl : k = n1 := by omega
            have HRF : Aside0 (¬ se ∈ l1) := ⟨by have := of_decide_eq_false HRV.out; rwa [List.take_of_length_le (by rw [HN1.out]; exact Nat.le_refl _)] at this⟩
            have HV3 : Aside0 (Ps.check l s1 = if sz = 0 ∨ sz > sx then (Ps.zt, 54) else ((ti, se, ro, sz), 0)) := ⟨by rw [HV1.out, if_neg HRF.out]⟩
            have c3 := HKR.out.at_ 3 rfl
            have c4 := HYR.out.at_ 3 rfl
            have c5 := HYR.out.at_ 4 rfl
            try simp only [Ps.tkc, Ps.tv] at c3 c4 c5
            clear HV1 HRV H0
            by_cases hz : sz = 0
            · have hzb : (sz == 0) = true := by simpa using hz
              go_wp2_with (refine Wk.store_all rfl rfl 26 (.tmp 4) (.tmp 63) rfl w.heap.size Ps.zt4 rfl rfl 26 _ HXR.out HSK.out rfl rfl ?_; intro wz hX hO; have HXZ := Aside0.mk hX; have HOZ := Aside0.mk hO; clear hX hO)
              refine bodyPost_ret (Wk.res_ct rfl _ w.heap.size 26 _ _ rfl HXZ.out Tryd.underlying26 rfl HSK.out) rfl ?_
              refine ⟨?_, Wk.Only.below HB6R.out HOZ.out (Nat.le_refl _)⟩
              rw [HV3.out, if_pos (.inl hz)]
              rfl
            · have hzb : (sz == 0) = false := by simpa using hz
              by_cases hx : sz > sx
              · have hxb : sx < sz := hx
                go_wp2_with (refine Wk.store_all rfl rfl 26 (.tmp 4) (.tmp 63) rfl w.heap.size Ps.zt4 rfl rfl 26 _ HXR.out HSK.out rfl rfl ?_; intro wz hX hO; have HXZ := Aside0.mk hX; have HOZ := Aside0.mk hO; clear hX hO)
                refine bodyPost_ret (Wk.res_ct rfl _ w.heap.size 26 _ _ rfl HXZ.out Tryd.underlying26 rfl HSK.out) rfl ?_
                refine ⟨?_, Wk.Only.below HB6R.out HOZ.out (Nat.le_refl _)⟩
                rw [HV3.out, if_pos (.inr hx)]
                rfl
              · have hrun : (Instr.loadAt 26 (.pointer (some ⟨g6, 0, none⟩))).run Tryd.prog wr = .ok (.agg (Ps.tkc (ti, se, ro, sz)).toArray) wr := Wk.run_load_blk (P := Tryd.prog) 26 g6 0 (Ps.tkc (ti, se, ro, sz)) _ HKR.out rfl Tryd.underlying26 rfl HSK.out
                go_wp2_with (first
                  | refine Wk.load rfl 26 (.tmp 6) rfl _ (.pointer (some ⟨g6, 0, none⟩)) rfl hrun ?_
                  | (refine Wk.store_all rfl rfl 26 (.tmp 4) (.tmp 64) rfl w.heap.size (Ps.tkc (ti, se, ro, sz)) rfl rfl 26 _ HXR.out HSK.out rfl rfl ?_; intro wz hX hO; have HXZ := Aside0.mk hX; have HOZ := Aside0.mk hO; clear hX hO))
                refine bodyPost_ret (Wk.res_ct rfl _ w.heap.size 26 _ _ rfl HXZ.out Tryd.underlying26 rfl HSK.out) rfl ?_
                refine ⟨?_, Wk.Only.below HB6R.out HOZ.out (Nat.le_refl _)⟩
                rw [HV3.out, if_neg (fun h => h.elim hz (fun h => by omega))]
                rfl
      · have hsb : (s1.toList == s.toList) = false := Ps.str_ne hse
        go_wp2_with (refine Wk.store_all rfl rfl 26 (.tmp 4) (.tmp 36) rfl w.heap.size Ps.zt4 rfl rfl 26 _ HX6.out HSK.out rfl rfl ?_; intro wz hX hO; have HXZ := Aside0.mk hX; have HOZ := Aside0.mk hO; clear hX hO)
        refine bodyPost_ret (Wk.res_ct rfl _ w.heap.size 26 _ _ rfl HXZ.out Tryd.underlying26 rfl HSK.out) rfl ?_
        refine ⟨?_, Wk.Only.below HB6.out HOZ.out (Nat.le_refl _)⟩
        rw [HFS.out, Ps.verdict, if_pos (fun h => hse (HSE.out.2 h))]
        rfl
  · obtain ⟨h1, rfl⟩ : (((ti, se, ro, sz) : Ps.Tk) = Ps.zt) ∧ er = 50 := by
      have := HLK.out
      unfold Ps.look at this
      rw [if_neg hi] at this
      exact ⟨(congrArg Prod.fst this).symm, (congrArg Prod.snd this).symm⟩
    have HX3 := Aside0.mk (HX2.out.below_ HB3.out)
    have HB30 := Aside0.mk (below_then HB2.out HB2.out.size HB3.out)
    clear h1
    go_wp2_with (refine Wk.store_all rfl rfl 26 (.tmp 4) (.tmp 18) rfl w.heap.size Ps.zt4 rfl rfl 26 _ HX3.out HSK.out rfl rfl ?_; intro wz hX hO; have HXZ := Aside0.mk hX; have HOZ := Aside0.mk hO; clear hX hO)
    refine bodyPost_ret (Wk.res_ct rfl _ w.heap.size 26 _ _ rfl HXZ.out Tryd.underlying26 rfl HSK.out) rfl ?_
    refine ⟨?_, Wk.Only.below HB30.out HOZ.out (Nat.le_refl _)⟩
    rw [Ps.check_form hi]
    rfl
end Go.Proofs.YtabdnlecpndfjaaDoor
set_option linter.unusedVariables false
set_option linter.unusedSimpArgs false
namespace Go.Proofs.YtabdnlecpndfjaaDoor
open Go.RowKit Go.Proofs.YtabdnlecpndfjaaDoor.PBase Go.Proofs.YtabdnlecpndfjaaDoorW.PrintWords Go.Proofs.YtabdnlecpndfjaaDoorW.PrintLast Go.Proofs.YtabdnlecpndfjaaDoorW.PrintMore
namespace Ps
open Wk (over)
theorem addr0 (b j : Nat) : (⟨b, 0, none⟩ : Addr).add j = ⟨b, j, none⟩ := by unfold Addr.add; split <;> simp_all
theorem over_len (zs : List Value) (off : Nat) (vs : List Value) (h : off + vs.length ≤ zs.length) : (over zs off vs).length = zs.length := by unfold over; simp; omega
theorem over_get (zs : List Value) (off : Nat) (vs : List Value) (h : off + vs.length ≤ zs.length) (i : Nat) : (over zs off vs)[i]? = if i < off then zs[i]? else if i < off + vs.length then vs[i - off]? else zs[i]? := by
  unfold over
  by_cases h1 : i < off
  · rw [if_pos h1, List.append_assoc, List.getElem?_append_left (by simp; omega), List.getElem?_take, if_pos h1]
  · rw [if_neg h1]
    by_cases h2 : i < off + vs.length
    · rw [if_pos h2, List.getElem?_append_left (by simp; omega), List.getElem?_append_right (by simp; omega)]
      simp [Nat.min_eq_left (by omega : off ≤ zs.length)]
    · rw [if_neg h2, List.getElem?_append_right (by simp; omega), List.getElem?_drop]
      congr 1
      simp
      omega
def Num (W : World) (lo hi : Nat) (A : Option Addr) (n : Nat) : Prop := 0 < n → ∃ b cs, A = some ⟨b, 0, none⟩ ∧ lo ≤ b ∧ b < hi ∧ Wk.Blk W b 5 cs ∧ n ≤ cs.length ∧ ∀ j, j < n → ∃ y, cs[j]? = some (.int .u8 y)
theorem num_of_R {W : World} {base : Nat} {ok : Nat → Prop} {A : Option Addr} {n c : Nat} {data : List Int} (h : Kd.R (Kd.int .u8) 5 W base ok (.slice A n c) data) : Num W base W.heap.size A n := by
  obtain rfl : n = data.length := (Kd.R_reads' h).1
  intro hp
  obtain ⟨b, cap, he, hb, hlt, cells, hc⟩ := Kd.R_form h hp
  injection he with he _ _
  subst he
  have hB : Wk.Blk W b 5 cells.toList := ⟨by simpa using hc⟩
  have hC := (Kd.R_reads' h).2.2
  have hat : ∀ j, j < data.length → ∃ y, cells.toList[j]? = some (.int .u8 y) := fun j hj => by
    obtain ⟨ad, c', e, _, hK, hcc⟩ := Kd.C_get hC (0 : Int) (j : Int) (by omega) (by omega)
    obtain rfl := Option.some.inj e
    have hK' : c' = [.int .u8 (data.getD (j : Int).toNat 0)] := by cases hK; rfl
    subst hK'
    have := hcc 0 _ rfl
    rw [Int.toNat_natCast, show (Kd.int .u8).sz = 1 from rfl, Nat.mul_one, Nat.add_zero, addr0] at this
    exact ⟨_, by rw [← hB.cell]; exact this⟩
  refine ⟨b, cells.toList, rfl, hb, hlt, hB, ?_, hat⟩
  obtain ⟨y, hy⟩ := hat (data.length - 1) (by omega)
  have := (List.getElem?_eq_some_iff.1 hy).1
  omega
theorem Num.below {W W' : World} {lo hi n : Nat} {A : Option Addr} (h : Num W lo hi A n) (hb : Below W.heap.size W W') : Num W' lo hi A n := fun hp => by
  obtain ⟨b, cs, rfl, h1, h1', h2, h3, h4⟩ := h hp
  exact ⟨b, cs, rfl, h1, h1', h2.below_ hb, h3, h4⟩
theorem Num.typed {W W' : World} {lo hi n b' : Nat} {t : TypeId} {zs : List Value} {A : Option Addr} (h : Num W lo hi A n) (hb : Wk.Blk W b' t zs) (ht : 5 ≠ t) (hg : Wk.Only W W' b') : Num W' lo hi A n := fun hp => by
  obtain ⟨b, cs, rfl, h1, h1', h2, h3, h4⟩ := h hp
  exact ⟨b, cs, rfl, h1, h1', h2.only hg (h2.ne_ hb ht), h3, h4⟩
theorem Num.put {W W' : World} {lo hi n b k : Nat} {z : Int} {cs : List Value} {A : Option Addr} (h : Num W lo hi A n) (hb : Wk.Blk W b 5 cs) (hk : k < cs.length) (hb' : Wk.Blk W' b 5 (over cs k [.int .u8 z])) (hO : Wk.Only W W' b) : Num W' lo hi A n := fun hp => by
  obtain ⟨b1, cs1, rfl, h1, h1', h2, h3, h4⟩ := h hp
  by_cases he : b1 = b
  · subst he
    have : cs1 = cs := by
      have := h2.out
      rw [hb.out] at this
      injection this with this
      injection this with this _
      simpa using this.symm
    subst this
    refine ⟨b1, _, rfl, h1, h1', hb', by rw [over_len _ _ _ (by simp; omega)]; exact h3, fun j hj => ?_⟩
    rw [over_get _ _ _ (by simp; omega)]
    by_cases hj1 : j < k
    · rw [if_pos hj1]; exact h4 j hj
    · rw [if_neg hj1]
      by_cases hj2 : j < k + ([Value.int .u8 z] : List Value).length
      · rw [if_pos hj2]
        exact ⟨z, by rw [show j - k = 0 by simp at hj2; omega]; rfl⟩
      · rw [if_neg hj2]; exact h4 j hj
  · exact ⟨b1, cs1, rfl, h1, h1', h2.only hO he, h3, h4⟩
def Tws (W : World) (lo hi ab m : Nat) (cells : List Value) : Prop := Wk.Blk W ab 42 cells ∧ m * 5 ≤ cells.length ∧ ∀ i, i < m → ∃ A n c q, cells[i * 5 + 1]? = some (.slice A n c) ∧ cells[i * 5 + 2]? = some (.int .u64 q) ∧ n ≤ 1000 ∧ Num W lo hi A n
theorem tws_of_R {W : World} {base : Nat} {ok : Nat → Prop} {A : Option Addr} {c : Nat} {rs : List Tn} (hw : ∀ x ∈ rs, TnWf x) (h : kTn.R 42 W base ok (.slice A rs.length c) rs) (hp : 0 < rs.length) : ∃ ab cells, A = some ⟨ab, 0, none⟩ ∧ base ≤ ab ∧ ab < W.heap.size ∧ Tws W base W.heap.size ab rs.length cells := by
  obtain ⟨b, cap, he, hb, hlt, cells, hc⟩ := Kd.R_form h hp
  injection he with he _ _
  subst he
  have hB : Wk.Blk W b 42 cells.toList := ⟨by simpa using hc⟩
  obtain ⟨A', cc, he', _, hrd⟩ := OwnRow.reads h.2
  injection he' with he' _ _
  subst he'
  have hat : ∀ i, i < rs.length → (∃ v4, cells.toList[i * 5 + 4]? = some v4) ∧ ∃ A n c q, cells.toList[i * 5 + 1]? = some (.slice A n c) ∧ cells.toList[i * 5 + 2]? = some (.int .u64 q) ∧ n ≤ 1000 ∧ Num W base W.heap.size A n := fun i hi => by
    obtain ⟨ad, cs, e, _, hM, hcc⟩ := ReadsRow.get_ hrd zn (i : Int) (by omega) (by omega)
    obtain rfl := Option.some.inj e
    rw [List.getD_eq_getElem?_getD, Int.toNat_natCast, List.getElem?_eq_getElem hi, Option.getD_some] at hM
    obtain ⟨v1, v4, rfl, hR1, hR4⟩ := PBase.k42_openM hM
    obtain ⟨A5, c5, rfl⟩ := Kd.R_slice hR1
    have hcell : ∀ j u, ([Value.int .u32 rs[i].f0, .slice A5 rs[i].f1.length c5, .int .u64 rs[i].f2, .int .u64 rs[i].f3, v4] : List Value)[j]? = some u → cells.toList[i * 5 + j]? = some u := fun j u hu => by
      have := hcc j u hu
      rw [Int.toNat_natCast, show kTn.sz = 5 from rfl, addr0] at this
      rw [← hB.cell]
      exact this
    exact ⟨⟨v4, hcell 4 _ rfl⟩, A5, _, c5, _, hcell 1 _ rfl, hcell 2 _ rfl, (hw _ (List.getElem_mem hi)).2.1, num_of_R hR1⟩
  refine ⟨b, cells.toList, rfl, hb, hlt, hB, ?_, fun i hi => (hat i hi).2⟩
  obtain ⟨⟨v4, h4⟩, _⟩ := hat (rs.length - 1) (by omega)
  have := (List.getElem?_eq_some_iff.1 h4).1
  omega
theorem Tws.below {W W' : World} {lo hi ab m : Nat} {cells : List Value} (h : Tws W lo hi ab m cells) (hb : Below W.heap.size W W') : Tws W' lo hi ab m cells := by
  obtain ⟨h1, h2, h3⟩ := h
  refine ⟨h1.below_ hb, h2, fun i hi => ?_⟩
  obtain ⟨A, n, c, q, e1, e2, hl, hN⟩ := h3 i hi
  exact ⟨A, n, c, q, e1, e2, hl, hN.below hb⟩
theorem Tws.put {W W' : World} {lo hi ab m b k : Nat} {z : Int} {cells cs : List Value} (h : Tws W lo hi ab m cells) (hb : Wk.Blk W b 5 cs) (hk : k < cs.length) (hb' : Wk.Blk W' b 5 (over cs k [.int .u8 z])) (hO : Wk.Only W W' b) : Tws W' lo hi ab m cells := by
  obtain ⟨h1, h2, h3⟩ := h
  refine ⟨h1.only hO (h1.ne_ hb (by decide)), h2, fun i hi => ?_⟩
  obtain ⟨A, n, c, q, e1, e2, hl, hN⟩ := h3 i hi
  exact ⟨A, n, c, q, e1, e2, hl, hN.put hb hk hb' hO⟩
theorem Tws.quota {W W' : World} {lo hi ab m k : Nat} {z : Int} {cells : List Value} (h : Tws W lo hi ab m cells) (hk : k < m) (hb' : Wk.Blk W' ab 42 (over cells (k * 5 + 2) [.int .u64 z])) (hO : Wk.Only W W' ab) : Tws W' lo hi ab m (over cells (k * 5 + 2) [.int .u64 z]) := by
  obtain ⟨h1, h2, h3⟩ := h
  have h6 : k * 5 + 2 + ([Value.int .u64 z] : List Value).length ≤ cells.length := by simp; omega
  refine ⟨hb', by rw [over_len _ _ _ h6]; exact h2, fun i hi => ?_⟩
  obtain ⟨A, n, c, q, e1, e2, hl, hN⟩ := h3 i hi
  have g1 : (over cells (k * 5 + 2) [.int .u64 z])[i * 5 + 1]? = some (.slice A n c) := by
    rw [over_get _ _ _ h6]
    by_cases hh : i * 5 + 1 < k * 5 + 2
    · rw [if_pos hh]; exact e1
    · rw [if_neg hh, if_neg (by simp; omega)]; exact e1
  by_cases he : i = k
  · subst he
    refine ⟨A, n, c, z, g1, ?_, hl, hN.typed h1 (by decide) hO⟩
    rw [over_get _ _ _ h6, if_neg (by omega), if_pos (by simp), Nat.sub_self]
    rfl
  · refine ⟨A, n, c, q, g1, ?_, hl, hN.typed h1 (by decide) hO⟩
    rw [over_get _ _ _ h6]
    by_cases hh : i * 5 + 2 < k * 5 + 2
    · rw [if_pos hh]; exact e2
    · rw [if_neg hh, if_neg (by simp; omega)]; exact e2
theorem lentB_is (l : List Int) (h : l.length ≤ 1000) : coamingref00_LentBytes.f l = some l := by
  unfold coamingref00_LentBytes.f
  rw [if_pos (by rw [List.length_nil]; omega), List.nil_append]
theorem lentT_l (l : List Tn) (hl : l.length ≤ 70) (hw : ∀ x ∈ l, TnWf x) : ∀ (d i k : Nat), i + d = l.length → d < k → coamingref00_LentTenants.l0 k l (l.take i) i = some l
  | 0, i, k, hi, hk => by
    obtain ⟨k, rfl⟩ : ∃ m, k = m + 1 := ⟨k - 1, by omega⟩
    rw [coamingref00_LentTenants.l0, if_neg (by omega), List.take_of_length_le (by omega)]
  | d + 1, i, k, hi, hk => by
    obtain ⟨k, rfl⟩ : ∃ m, k = m + 1 := ⟨k - 1, by omega⟩
    have hi' : i < l.length := by omega
    have e1 : wrap64 ((i : Int) + 1) = ((i + 1 : Nat) : Int) := by unfold wrap64; omega
    have hx := hw _ (List.getElem_mem hi')
    have hlt : (l.take i).length < 1954687338268 := by rw [List.length_take]; omega
    have h4 : ([] : List Int).length + (l[i]).f4.length < 35184372088832 := by rw [List.length_nil]; have := hx.2.2.1; omega
    have hb := lentB_is (l[i]).f1 hx.2.1
    have ht := List.take_succ_eq_append_getElem hi'
    rw [coamingref00_LentTenants.l0, e1, if_pos (by omega), if_pos (by omega), rdT l i hi']
    rw [hb, Option.bind_some, if_pos h4, if_pos hlt, List.nil_append]
    have := lentT_l l hl hw d (i + 1) k (by omega) (by omega)
    rw [ht] at this
    exact this
theorem lentT_is (l : List Tn) (hl : l.length ≤ 70) (hw : ∀ x ∈ l, TnWf x) : coamingref00_LentTenants.f 100 l = some l := lentT_l l hl hw l.length 0 100 (by omega) (by omega)
theorem lentT_ {A : Option Addr} {n c : Nat} {l : List Tn} {w : World} (h : kTn.C w A l.length l) (hn : l.length = n) (hc : n ≤ c) (hl : n ≤ 70) (hw : ∀ x ∈ l, TnWf x) :
    Calls Tryd.prog 18 #[.slice A n c] w fun e w' => ∃ A' c', e = .returned (.slice A' n c') ∧ kTn.C w' A' l.length l ∧ n ≤ c' ∧ (0 < n → ∃ ab cells, A' = some ⟨ab, 0, none⟩ ∧ w.heap.size ≤ ab ∧ ab < w'.heap.size ∧ Tws w' w.heap.size w'.heap.size ab n cells) ∧ Below w.heap.size w w' := by
  subst hn
  refine (coamingref00_LentTenants.calls 100 A c l l w h hc (lentT_is l hl hw)).mono ?_
  rintro e w' ⟨v, rfl, hS, hb⟩
  have hR := Kd.S_R hS
  obtain ⟨A', c', rfl⟩ := Kd.R_slice hR
  exact ⟨A', c', rfl, (Kd.R_reads' hR).2.2, (Kd.R_reads' hR).2.1, fun hp => tws_of_R hw hR hp, hb⟩
theorem check_code (l : List Tn) (s : ByteArray) : (check l s).2 = 0 ∨ (check l s).2 = 50 ∨ (check l s).2 = 51 ∨ (check l s).2 = 52 ∨ (check l s).2 = 53 ∨ (check l s).2 = 54 := by
  unfold check
  split
  · split
    · exact .inr (.inr (.inl rfl))
    · unfold verdict
      split
      · exact .inr (.inr (.inr (.inl rfl)))
      · split
        · exact .inr (.inr (.inr (.inr (.inl rfl))))
        · split
          · exact .inr (.inr (.inr (.inr (.inr rfl))))
          · exact .inl rfl
  · exact .inr (.inl rfl)
end Ps
namespace Wk
section
variable {P : Program} {ops : Array Oper} {o : Oper} {rest : List Oper} {a : Act} {w : World} {Q : Exit → Act → World → Prop}
theorem load_g (hw : Region.wanted o (yielded ops a.tmps) = true) (t : TypeId) (p : Operand) (ho : o.op = .load t p) (v pv : Value) (hp : a.eval p = pv) (hrun : (Instr.loadAt t pv).run P w = .ok v w)
    (h : wpList P ops Q rest (a.put o.dst v) w) : wpList P ops Q (o :: rest) a w := by
  unfold wpList
  rw [if_pos hw]
  exact .inl (wp_load t p ho v pv hp hrun h)
end
end Wk
end Go.Proofs.YtabdnlecpndfjaaDoor
set_option linter.unusedVariables false
set_option linter.unusedSimpArgs false
namespace Go.Proofs.YtabdnlecpndfjaaDoor
open Go.RowKit Go.Proofs.YtabdnlecpndfjaaDoor.PBase Go.Proofs.YtabdnlecpndfjaaDoorW.PrintWords Go.Proofs.YtabdnlecpndfjaaDoorW.PrintLast Go.Proofs.YtabdnlecpndfjaaDoorW.PrintMore
set_option maxHeartbeats 8000000 in
set_option maxRecDepth 100000 in
theorem passChecks_.calls (x0 : List Ps.Tn) (v0 : Value) (x1 : List ByteArray) (v1 : Value) (x2 : Int) (W : World) (hk : Sh.Ks W) (hK0 : (Kd.slice 42 Ps.kTn).K W x0 [v0]) (hw0 : x0.length ≤ maxLen ∧ ∀ x ∈ x0, Ps.TnIn x) (hK1 : (Kd.slice 9 Kd.string).K W x1 [v1]) (hw1 : x1.length ≤ maxLen ∧ ∀ x ∈ x1, x.size ≤ maxLen) (hw2 : (Lit.int .u32 x2).wf = true) :
    Calls Tryd.prog 8 #[v0, v1, .int .u32 x2] W fun e w' => e = .returned (.bool true) ∧ Below W.heap.size W w' := by
  obtain ⟨A0, c0, he0, hlc, hC⟩ := hK0
  obtain rfl : v0 = .slice A0 x0.length c0 := by simpa using he0
  obtain ⟨A1, c1, he1, hlc1, hC1⟩ := hK1
  obtain rfl : v1 = .slice A1 x1.length c1 := by simpa using he1
  have HK := Aside0.mk hk
  have HC := Aside0.mk hC
  have HC1 := Aside0.mk hC1
  have HI := Aside0.mk hw0.2
  have HID := Aside0.mk (Ps.of32 hw2)
  obtain ⟨n, HN⟩ : ∃ n, Aside0 (x0.length = n) := ⟨_, ⟨rfl⟩⟩
  obtain ⟨m, HM⟩ : ∃ n, Aside0 (x1.length = n) := ⟨_, ⟨rfl⟩⟩
  rw [HN.out] at hlc ⊢
  rw [HM.out] at hlc1 ⊢
  have HLC := Aside0.mk hlc
  clear hw0 hC he0 hk hlc hC1 he1 hlc1 hw1 hw2
  obtain ⟨fw, HFW⟩ : ∃ b, Aside0 (Ps.few x0 = b) := ⟨_, ⟨rfl⟩⟩
  go_enter Tryd.func8, Tryd.ntmps8
  go_wp2_with fail
  refine (Ps.tenants_ HC.out HN.out HLC.out HFW.out).mono ?_
  rintro e w1 ⟨rfl, hb1⟩
  have HB1 := Aside0.mk hb1
  clear hb1
  cases fw with
  | false =>
    go_wp2_with fail
    refine (known_.calls _ (HK.out.below HB1.out)).mono ?_
    rintro e w2 ⟨rfl, hb2⟩
    have HB2 := Aside0.mk (below_then HB1.out HB1.out.size hb2)
    clear hb2
    go_wp2_with fail
    go_ret
    exact ⟨rfl, HB2.out⟩
  | true =>
  by_cases h30 : (m : Int) > 30
  · skip
    go_wp2_with fail
    refine (known_.calls _ (HK.out.below HB1.out)).mono ?_
    rintro e w2 ⟨rfl, hb2⟩
    have HB2 := Aside0.mk (below_then HB1.out HB1.out.size hb2)
    clear hb2
    go_wp2_with fail
    go_ret
    exact ⟨rfl, HB2.out⟩
  have HTW := Aside0.mk (Ps.few_wf HFW.out HI.out)
  have hn70 : n ≤ 70 := by
    have h := HFW.out
    unfold Ps.few at h
    rw [decide_eq_true_eq] at h
    rw [← HN.out]
    exact h.1
  have HLN := Aside0.mk hn70
  have HM30 : Aside0 (m ≤ 30) := ⟨by omega⟩
  clear HI HFW hn70
  go_wp2_with fail
  refine (known_.calls _ (HK.out.below HB1.out)).mono ?_
  rintro e w2 ⟨rfl, hb2⟩
  have HB2 := Aside0.mk (below_then HB1.out HB1.out.size hb2)
  clear hb2 HB1
  go_wp2_with fail
  clear h30
  refine (Ps.lentT_ (Kd.C_below HC.out HB2.out) HN.out HLC.out HLN.out HTW.out).mono ?_
  rintro e w3 ⟨A3, c3, rfl, hC3, hlc3, hTW3, hb3⟩
  have HB3 := Aside0.mk (below_then HB2.out HB2.out.size hb3)
  have HC3 := Aside0.mk hC3
  have HTS := Aside0.mk hTW3
  obtain ⟨lo, HLO⟩ : ∃ b, Aside0 (w2.heap.size = b) := ⟨_, ⟨rfl⟩⟩
  obtain ⟨hi, HHI⟩ : ∃ b, Aside0 (w3.heap.size = b) := ⟨_, ⟨rfl⟩⟩
  have HLW : Aside0 (W.heap.size ≤ lo) := ⟨by rw [← HLO.out]; exact HB2.out.size⟩
  rw [HLO.out, HHI.out] at HTS
  clear hC3 hTW3 hb3 hlc3
  go_wp2_with fail
  refine (new_pass.calls A3 n c3 x0 w3 HC3.out HN.out HTW.out).mono ?_
  intro e w4 hpost
  obtain ⟨tv, er, rfl, hb4, hcase⟩ : ∃ (tv : Value) (er : Int), e = .returned (.tuple #[tv, .int .u16 er]) ∧ Below w3.heap.size w3 w4 ∧ ((64 < n ∧ tv = .pointer none ∧ er = 3) ∨ (n ≤ 64 ∧ Ps.good [] x0 = false ∧ tv = .pointer none ∧ er = 1) ∨ (n ≤ 64 ∧ Ps.good [] x0 = true ∧ er = 0 ∧ ∃ p, tv = .pointer (some ⟨p, 0, none⟩) ∧ Ps.Tb w4 w3.heap.size p x0)) := by
    obtain ⟨hb, ⟨h, rfl⟩ | ⟨h, hg, rfl⟩ | ⟨h, hg, p, rfl, ht⟩⟩ := hpost
    · exact ⟨_, _, rfl, hb, .inl ⟨h, rfl, rfl⟩⟩
    · exact ⟨_, _, rfl, hb, .inr (.inl ⟨h, hg, rfl, rfl⟩)⟩
    · exact ⟨_, _, rfl, hb, .inr (.inr ⟨h, hg, rfl, p, rfl, ht⟩)⟩
  have HB4 := Aside0.mk (below_then HB3.out HB3.out.size hb4)
  have HCS := Aside0.mk hcase
  have HTS4 : Aside0 (0 < n → ∃ ab cells, A3 = some ⟨ab, 0, none⟩ ∧ lo ≤ ab ∧ ab < hi ∧ Ps.Tws w4 lo hi ab n cells) := ⟨fun hp => by
    obtain ⟨ab, cells, h1, h2, h3, h4⟩ := HTS.out hp
    exact ⟨ab, cells, h1, h2, h3, h4.below hb4⟩⟩
  rw [HHI.out] at HCS
  have HH4 : Aside0 (hi ≤ w4.heap.size) := ⟨by rw [← HHI.out]; exact hb4.size⟩
  clear hpost hb4 hcase HTS HC3 HB3 HLO HHI
  go_wp2_with fail
  refine (refnew_.calls A0 n c0 x0 w4 (Kd.C_below HC.out HB4.out) HN.out HTW.out).mono ?_
  intro e w5 hpost
  obtain ⟨rv, fr, rfl, hb5, hcase⟩ : ∃ (rv : Value) (fr : Int), e = .returned (.tuple #[rv, .int .i64 fr]) ∧ Below w4.heap.size w4 w5 ∧ ((tv = .pointer none ∧ er = 3 ∧ fr = 3) ∨ (tv = .pointer none ∧ er = 1 ∧ fr = 1) ∨ (er = 0 ∧ fr = 0 ∧ ∃ p q, tv = .pointer (some ⟨p, 0, none⟩) ∧ rv = .pointer (some ⟨q, 0, none⟩) ∧ Ps.Tb w5 hi p x0 ∧ Ps.Tr w5 w4.heap.size q x0)) := by
    obtain ⟨hb, ⟨h, rfl⟩ | ⟨h, hg, rfl⟩ | ⟨h, hg, p, rfl, ht⟩⟩ := hpost
    · refine ⟨_, _, rfl, hb, .inl ?_⟩
      rcases HCS.out with ⟨_, h1, h2⟩ | ⟨h', _⟩ | ⟨h', _⟩
      · exact ⟨h1, h2, rfl⟩
      · omega
      · omega
    · refine ⟨_, _, rfl, hb, .inr (.inl ?_)⟩
      rcases HCS.out with ⟨h', _⟩ | ⟨_, _, h1, h2⟩ | ⟨_, h', _⟩
      · omega
      · exact ⟨h1, h2, rfl⟩
      · rw [hg] at h'; cases h'
    · refine ⟨_, _, rfl, hb, .inr (.inr ?_)⟩
      rcases HCS.out with ⟨h', _⟩ | ⟨_, h', _⟩ | ⟨_, _, h1, p', h2, h3⟩
      · omega
      · rw [hg] at h'; cases h'
      · exact ⟨h1, rfl, p', p, h2, rfl, h3.below hb, ht⟩
  have HB5 := Aside0.mk (below_then HB4.out HB4.out.size hb5)
  have HTS5 : Aside0 (0 < n → ∃ ab cells, A3 = some ⟨ab, 0, none⟩ ∧ lo ≤ ab ∧ ab < hi ∧ Ps.Tws w5 lo hi ab n cells) := ⟨fun hp => by
    obtain ⟨ab, cells, h1, h2, h3, h4⟩ := HTS4.out hp
    exact ⟨ab, cells, h1, h2, h3, h4.below hb5⟩⟩
  obtain ⟨b4, HB4S⟩ : ∃ b, Aside0 (w4.heap.size = b) := ⟨_, ⟨rfl⟩⟩
  rw [HB4S.out] at hcase HH4
  clear hpost hb5 HCS HTS4 HB4 HB4S
  rcases hcase with ⟨rfl, rfl, rfl⟩ | ⟨rfl, rfl, rfl⟩ | ⟨rfl, rfl, p, q, rfl, rfl, htb, htr⟩
  · go_wp2_with fail
    go_ret
    exact ⟨rfl, HB5.out⟩
  · go_wp2_with fail
    go_ret
    exact ⟨rfl, HB5.out⟩
  have HTB5 := Aside0.mk htb
  have HTR5 := Aside0.mk htr
  have HS5 : Aside0 ((Tryd.prog.info? 5).map (·.size) = some 1) := ⟨by kernel_rfl⟩
  have HS8 : Aside0 ((Tryd.prog.info? 24).map (·.size) = some 1) := ⟨by kernel_rfl⟩
  clear htb htr
  go_wp2_with fail
  go_loopw [13] (fun ix wq => ∃ i : Nat, ix = .int .i64 i ∧ i ≤ n ∧ Aside0 (0 < n → ∃ ab cells, A3 = some ⟨ab, 0, none⟩ ∧ lo ≤ ab ∧ ab < hi ∧ Ps.Tws wq lo hi ab n cells) ∧ Aside0 (Below W.heap.size W wq) ∧ Aside0 (Ps.Tb wq hi p x0) ∧ Aside0 (Ps.Tr wq b4 q x0)) (fun ix _ => n - (intOf ix).toNat)
  case atStart => exact ⟨0, rfl, Nat.zero_le _, HTS5, HB5, HTB5, HTR5⟩
  case round =>
    clear HTS5 HB5 HTB5 HTR5
    obtain ⟨i, rfl, hi', HTS, HB, HTB, HTR⟩ := hrel
    by_cases hli : i < n
    · have hliI : (i : Int) < n := by omega
      have hi70 : (i : Int) < 70 := by have := HLN.out; omega
      obtain ⟨ab, cells, hA, hlo, hab, hT⟩ := HTS.out (by omega)
      subst hA
      obtain ⟨Ai, ni, ci, qq, hce1, hce2, hni, hNum⟩ := hT.2.2 i hli
      have HCE1 := Aside0.mk hce1
      have HCE2 := Aside0.mk hce2
      have HT := Aside0.mk hT
      have HNu := Aside0.mk hNum
      have HLO := Aside0.mk (And.intro hlo hab)
      clear HTS hce1 hce2 hT hNum hlo hab
      go_wp2_with fail
      go_loopw [14] (fun ix wp => ∃ j : Nat, ix = .int .i64 j ∧ j ≤ ni ∧ Aside0 (Ps.Tws wp lo hi ab n cells) ∧ Aside0 (Ps.Num wp lo hi Ai ni) ∧ Aside0 (Below W.heap.size W wp) ∧ Aside0 (Ps.Tb wp hi p x0) ∧ Aside0 (Ps.Tr wp b4 q x0)) (fun ix _ => ni - (intOf ix).toNat)
      case atStart => exact ⟨0, rfl, Nat.zero_le _, HT, HNu, HB, HTB, HTR⟩
      case round =>
        clear HT HNu HB HTB HTR
        obtain ⟨j, rfl, hj, HT, HNu, HB, HTB, HTR⟩ := hrel
        have hcell := HT.out.1.at_ (i * 5 + 1) HCE1.out
        by_cases hlj : j < ni
        · have hljI : (j : Int) < ni := by omega
          obtain ⟨b, cs, hA, hlo, hhi, hblk, hlen, hcont⟩ := HNu.out (by omega)
          subst hA
          obtain ⟨y, hy⟩ := hcont j hlj
          have HY := Aside0.mk hy
          have HBK := Aside0.mk hblk
          have HLB : Aside0 (j + 1 ≤ cs.length ∧ lo ≤ b ∧ b < hi) := ⟨by omega, hlo, hhi⟩
          clear hblk hlo hhi hlen hcont hy
          go_wp2_with fail
          clear hcell
          refine wp_region_noPanic ?_
          refine start_ (n := 17) (S := (fun w' => Below wr.heap.size wr w')) (ds := [16]) #[false, false, false, false, false, false, false, false, false, false, false, false, false, false, false, false, false] (by kernel_rfl) rfl rfl (Below.refl _ _).drew (fun hHeld => ?_)
          refine pure_ (i := 0) (N := (some 77)) (v := ?_) (a' := ?_) #[true, false, false, false, false, false, false, false, false, false, false, false, false, false, false, false, false] rfl rfl (by kernel_rfl) (fun _ _ _ h => h) (Or.inl ⟨by rfl, ?_⟩) ?_ ?_
          rotate_left
          · intro w'
            go_simp
            first | done | with_reducible rfl
          rotate_left
          · simp only [Act.put, List.setIfInBounds_toArray, List.set_cons_zero, List.set_cons_succ]
            rfl
          refine pure_ (i := 1) (N := (some 78)) (v := ?_) (a' := ?_) #[true, true, false, false, false, false, false, false, false, false, false, false, false, false, false, false, false] rfl rfl (by kernel_rfl) (fun _ _ _ h => h) (Or.inl ⟨by rfl, ?_⟩) ?_ ?_
          rotate_left
          · intro w'
            go_simp
            first | done | with_reducible rfl
          rotate_left
          · simp only [Act.put, List.setIfInBounds_toArray, List.set_cons_zero, List.set_cons_succ]
            rfl
          refine pure_ (i := 2) (N := (some 79)) (v := ?_) (a' := ?_) #[true, true, true, false, false, false, false, false, false, false, false, false, false, false, false, false, false] rfl rfl (by kernel_rfl) (fun _ _ _ h => h) (Or.inl ⟨by rfl, ?_⟩) ?_ ?_
          rotate_left
          · intro w'
            go_simp
            first | done | with_reducible rfl
          rotate_left
          · simp only [Act.put, List.setIfInBounds_toArray, List.set_cons_zero, List.set_cons_succ]
            rfl
          refine pure_ (i := 3) (N := (some 80)) (v := ?_) (a' := ?_) #[true, true, true, true, false, false, false, false, false, false, false, false, false, false, false, false, false] rfl rfl (by kernel_rfl) (fun _ _ _ h => h) (Or.inl ⟨by rfl, ?_⟩) ?_ ?_
          rotate_left
          · intro w'
            go_simp
            first | done | with_reducible rfl
          rotate_left
          · simp only [Act.put, List.setIfInBounds_toArray, List.set_cons_zero, List.set_cons_succ]
            rfl
          refine take_ (i := 4) (N := (some 81)) (v := ?_) (a' := ?_) #[true, true, true, true, true, false, false, false, false, false, false, false, false, false, false, false, false] rfl rfl (by kernel_rfl) (fun _ _ _ h => h) (Or.inl ⟨by rfl, ?_⟩) hHeld ?_ ?_
          rotate_left
          · intro w' hS'
            (have c1 := (HT.out.1.below_ hS').at_ (i * 5 + 1) HCE1.out; go_simp)
            first | done | with_reducible rfl
          rotate_left
          · simp only [Act.put, List.setIfInBounds_toArray, List.set_cons_zero, List.set_cons_succ]
            rfl
          refine pure_ (i := 5) (N := (some 82)) (v := ?_) (a' := ?_) #[true, true, true, true, true, true, false, false, false, false, false, false, false, false, false, false, false] rfl rfl (by kernel_rfl) (fun _ _ _ h => h) (Or.inl ⟨by rfl, ?_⟩) ?_ ?_
          rotate_left
          · intro w'
            go_simp
            first | done | with_reducible rfl
          rotate_left
          · simp only [Act.put, List.setIfInBounds_toArray, List.set_cons_zero, List.set_cons_succ]
            rfl
          refine pure_ (i := 6) (N := (some 83)) (v := ?_) (a' := ?_) #[true, true, true, true, true, true, true, false, false, false, false, false, false, false, false, false, false] rfl rfl (by kernel_rfl) (fun _ _ _ h => h) (Or.inl ⟨by rfl, ?_⟩) ?_ ?_
          rotate_left
          · intro w'
            go_simp
            first | done | with_reducible rfl
          rotate_left
          · simp only [Act.put, List.setIfInBounds_toArray, List.set_cons_zero, List.set_cons_succ]
            rfl
          refine pure_ (i := 7) (N := (some 84)) (v := ?_) (a' := ?_) #[true, true, true, true, true, true, true, true, false, false, false, false, false, false, false, false, false] rfl rfl (by kernel_rfl) (fun _ _ _ h => h) (Or.inl ⟨by rfl, ?_⟩) ?_ ?_
          rotate_left
          · intro w'
            go_simp
            first | done | with_reducible rfl
          rotate_left
          · simp only [Act.put, List.setIfInBounds_toArray, List.set_cons_zero, List.set_cons_succ]
            rfl
          refine pure_ (i := 8) (N := (some 85)) (v := ?_) (a' := ?_) #[true, true, true, true, true, true, true, true, true, false, false, false, false, false, false, false, false] rfl rfl (by kernel_rfl) (fun _ _ _ h => h) (Or.inl ⟨by rfl, ?_⟩) ?_ ?_
          rotate_left
          · intro w'
            go_simp
            first | done | with_reducible rfl
          rotate_left
          · simp only [Act.put, List.setIfInBounds_toArray, List.set_cons_zero, List.set_cons_succ]
            rfl
          refine pure_ (i := 9) (N := (some 86)) (v := ?_) (a' := ?_) #[true, true, true, true, true, true, true, true, true, true, false, false, false, false, false, false, false] rfl rfl (by kernel_rfl) (fun _ _ _ h => h) (Or.inl ⟨by rfl, ?_⟩) ?_ ?_
          rotate_left
          · intro w'
            go_simp
            first | done | with_reducible rfl
          rotate_left
          · simp only [Act.put, List.setIfInBounds_toArray, List.set_cons_zero, List.set_cons_succ]
            rfl
          refine take_ (i := 10) (N := (some 87)) (v := ?_) (a' := ?_) #[true, true, true, true, true, true, true, true, true, true, true, false, false, false, false, false, false] rfl rfl (by kernel_rfl) (fun _ _ _ h => h) (Or.inl ⟨by rfl, ?_⟩) hHeld ?_ ?_
          rotate_left
          · intro w' hS'
            (have c1 := (HT.out.1.below_ hS').at_ (i * 5 + 1) HCE1.out; go_simp)
            first | done | with_reducible rfl
          rotate_left
          · simp only [Act.put, List.setIfInBounds_toArray, List.set_cons_zero, List.set_cons_succ]
            rfl
          refine pure_ (i := 11) (N := (some 88)) (v := ?_) (a' := ?_) #[true, true, true, true, true, true, true, true, true, true, true, true, false, false, false, false, false] rfl rfl (by kernel_rfl) (fun _ _ _ h => h) (Or.inl ⟨by rfl, ?_⟩) ?_ ?_
          rotate_left
          · intro w'
            go_simp
            first | done | with_reducible rfl
          rotate_left
          · simp only [Act.put, List.setIfInBounds_toArray, List.set_cons_zero, List.set_cons_succ]
            rfl
          refine pure_ (i := 12) (N := (some 89)) (v := ?_) (a' := ?_) #[true, true, true, true, true, true, true, true, true, true, true, true, true, false, false, false, false] rfl rfl (by kernel_rfl) (fun _ _ _ h => h) (Or.inl ⟨by rfl, ?_⟩) ?_ ?_
          rotate_left
          · intro w'
            go_simp
            first | done | with_reducible rfl
          rotate_left
          · simp only [Act.put, List.setIfInBounds_toArray, List.set_cons_zero, List.set_cons_succ]
            rfl
          refine take_ (i := 13) (N := (some 90)) (v := ?_) (a' := ?_) #[true, true, true, true, true, true, true, true, true, true, true, true, true, true, false, false, false] rfl rfl (by kernel_rfl) (fun _ _ _ h => h) (Or.inl ⟨by rfl, ?_⟩) hHeld ?_ ?_
          rotate_left
          · intro w' hS'
            (have c1 := (HBK.out.below_ hS').at_ j HY.out; go_simp)
            first | done | with_reducible rfl
          rotate_left
          · simp only [Act.put, List.setIfInBounds_toArray, List.set_cons_zero, List.set_cons_succ]
            rfl
          refine pure_ (i := 14) (N := (some 91)) (v := ?_) (a' := ?_) #[true, true, true, true, true, true, true, true, true, true, true, true, true, true, true, false, false] rfl rfl (by kernel_rfl) (fun _ _ _ h => h) (Or.inl ⟨by rfl, ?_⟩) ?_ ?_
          rotate_left
          · intro w'
            go_simp
            first | done | with_reducible rfl
          rotate_left
          · simp only [Act.put, List.setIfInBounds_toArray, List.set_cons_zero, List.set_cons_succ]
            rfl
          refine pure_ (i := 15) (N := (some 92)) (v := ?_) (a' := ?_) #[true, true, true, true, true, true, true, true, true, true, true, true, true, true, true, true, false] rfl rfl (by kernel_rfl) (fun _ _ _ h => h) (Or.inl ⟨by rfl, ?_⟩) ?_ ?_
          rotate_left
          · intro w'
            go_simp
            first | done | with_reducible rfl
          rotate_left
          · simp only [Act.put, List.setIfInBounds_toArray, List.set_cons_zero, List.set_cons_succ]
            rfl
          refine last_ (i := 16) (N := none) #[true, true, true, true, true, true, true, true, true, true, true, true, true, true, true, true, true] rfl rfl (by kernel_rfl) (by decide) (fun K hK => ?_)
          refine Wk.store_step (by rfl) rfl 5 (.tmp 92) (.tmp 91) rfl b j _ [_] rfl rfl rfl 5 cs HBK.out.drew HS5.out HLB.out.1 rfl ?_
          intro w9 hX hO
          have HX9 := Aside0.mk hX
          have HO9 := Aside0.mk hO
          clear hX hO
          refine hK.out _ _ ?_
          clear hK K
          refine done_ (by kernel_rfl) ?_
          refine NoPanic.normal ?_
          have hbd : Below wr.heap.size wr wr.drew := (Below.refl _ _).drew
          have HT9 := Aside0.mk ((HT.out.below hbd).put HBK.out.drew HLB.out.1 HX9.out HO9.out)
          have HN9 := Aside0.mk ((HNu.out.below hbd).put HBK.out.drew HLB.out.1 HX9.out HO9.out)
          have HB9 := Aside0.mk (Wk.Only.below HB.out.drew HO9.out (Nat.le_trans HLW.out HLB.out.2.1))
          have HTB9 := Aside0.mk ((HTB.out.below hbd).kept HO9.out.grown (fun k hk => by cases hk; exact HLB.out.2.2))
          have HTR9 := Aside0.mk ((HTR.out.below hbd).kept HO9.out.grown (fun k hk => by cases hk; exact Nat.lt_of_lt_of_le HLB.out.2.2 HH4.out))
          clear hbd
          go_wp2_with fail
          exact ⟨⟨j + 1, by simp, by omega, HT9, HN9, HB9, HTB9, HTR9⟩, by simp [intOf]; omega⟩
        · obtain rfl : ni = j := by omega
          have HLE : Aside0 (i * 5 + 2 + 1 ≤ cells.length) := ⟨by have := HT.out.2.1; omega⟩
          have HBK := Aside0.mk HT.out.1
          have hq := HT.out.1.at_ (i * 5 + 2) HCE2.out
          go_wp2_with (refine Wk.store rfl rfl 24 (.tmp 102) (.tmp 100) rfl ab (i * 5 + 2) _ [_] rfl rfl rfl 42 cells HBK.out HS8.out HLE.out rfl ?_; intro w9 hX hO; have HX9 := Aside0.mk hX; have HO9 := Aside0.mk hO; clear hX hO hcell hq)
          have HTS9 : Aside0 (0 < n → ∃ ab' cells', some (⟨ab, 0, none⟩ : Addr) = some ⟨ab', 0, none⟩ ∧ lo ≤ ab' ∧ ab' < hi ∧ Ps.Tws w9 lo hi ab' n cells') := ⟨fun _ => ⟨ab, _, rfl, HLO.out.1, HLO.out.2, HT.out.quota hli HX9.out HO9.out⟩⟩
          have HB9 := Aside0.mk (Wk.Only.below HB.out HO9.out (Nat.le_trans HLW.out HLO.out.1))
          have HTB9 := Aside0.mk (HTB.out.kept HO9.out.grown (fun k hk => by cases hk; exact HLO.out.2))
          have HTR9 := Aside0.mk (HTR.out.kept HO9.out.grown (fun k hk => by cases hk; exact Nat.lt_of_lt_of_le HLO.out.2 HH4.out))
          exact ⟨⟨i + 1, by simp, by omega, HTS9, HB9, HTB9, HTR9⟩, by simp [intOf]; omega⟩
    · obtain rfl : n = i := by omega
      clear HTS
      obtain ⟨wX, rfl⟩ : ∃ w : World, w = wr := ⟨_, rfl⟩
      go_wp2_with fail
      go_loopw [15] (fun ix wq => ∃ k : Nat, ix = .int .i64 k ∧ k ≤ m ∧ Aside0 (Below wX.heap.size wX wq)) (fun ix _ => m - (intOf ix).toNat)
      case atStart => exact ⟨0, rfl, Nat.zero_le _, ⟨Below.refl _ _⟩⟩
      case round =>
        obtain ⟨k, rfl, hk, HBR⟩ := hrel
        have HBW := Aside0.mk (below_then HB.out HB.out.size HBR.out)
        by_cases hlk : k < m
        · have hlkI : (k : Int) < m := by omega
          have hk30 : (k : Int) < 30 := by have := HM30.out; omega
          obtain ⟨ad, hA, s, HCE⟩ : ∃ ad, A1 = some ad ∧ ∃ s, Aside0 (∀ w', Below W.heap.size W w' → w'.cell? (ad.add k) = some (.string s)) := by
            obtain ⟨ad, e, hx⟩ := Kd.at_string HC1.out (k : Int) (by omega) (by rw [HM.out]; omega)
            rw [Int.toNat_natCast] at hx
            exact ⟨ad, e, _, ⟨fun w' hb => (hb.cell (World.block_lt_of_cell? _ _ hx)).trans hx⟩⟩
          subst hA
          have cc1 := HCE.out wr HBW.out
          by_cases hs : (s.size : Int) > 400
          · go_wp2_with fail
            go_ret
            exact ⟨rfl, HBW.out⟩
          · have HSS : Aside0 (s.size ≤ 400) := ⟨by omega⟩
            go_wp2_with fail
            clear cc1 hs
            refine (check_.calls p hi x0 s wr (HK.out.below HBW.out) (HTB.out.below HBR.out) (by have := HSS.out; omega) HTW.out).mono ?_
            rintro e w6 ⟨rfl, hb6⟩
            obtain ⟨zi, ze, zo, zs, cr, HCK⟩ : ∃ zi ze zo zs cr, Aside0 (Ps.check x0 s = ((zi, ze, zo, zs), cr)) := ⟨_, _, _, _, _, ⟨rfl⟩⟩
            have hcr : cr = 0 ∨ cr = 50 ∨ cr = 51 ∨ cr = 52 ∨ cr = 53 ∨ cr = 54 := by
              have := Ps.check_code x0 s
              rw [HCK.out] at this
              exact this
            have HCR := Aside0.mk hcr
            rw [HCK.out]
            have HB6 := Aside0.mk (below_then HBR.out HBR.out.size hb6)
            have HA7 : Aside0 (Below w6.heap.size w6 (w6.alloc (.cells #[.int .u32 zi, .int .u32 ze, .bool zo, .int .u64 zs] 26))) := ⟨below_alloc (Below.refl _ _) _⟩
            have HX7 : Aside0 (Wk.Blk (w6.alloc (.cells #[.int .u32 zi, .int .u32 ze, .bool zo, .int .u64 zs] 26)) w6.heap.size 26 (Ps.tkc (zi, ze, zo, zs))) := ⟨Wk.Blk.new w6 _ (Ps.tkc (zi, ze, zo, zs))⟩
            have HB7 := Aside0.mk (below_then HB6.out HB6.out.size HA7.out)
            have cc2 := HCE.out _ (below_then HB.out HB.out.size HB7.out)
            clear hb6 HBR HBW hcr
            go_wp2_with fail
            clear cc2
            generalize w6.alloc (.cells #[.int .u32 zi, .int .u32 ze, .bool zo, .int .u64 zs] 26) = w7 at *
            obtain ⟨g16, HG16⟩ : ∃ b, Aside0 (w6.heap.size = b) := ⟨_, ⟨rfl⟩⟩
            rw [HG16.out] at HX7 ⊢
            refine (refcheck_.calls q b4 x0 s w7 (HTR.out.below HB7.out) (by rw [HN.out]; exact HLN.out) (by have := HSS.out; omega) HTW.out).mono ?_
            rintro e w8 ⟨rfl, hb8⟩
            rw [HCK.out]
            have HB8 := Aside0.mk (below_then HB7.out HB7.out.size hb8)
            have HX8 := Aside0.mk (HX7.out.below_ hb8)
            have HA9 : Aside0 (Below w8.heap.size w8 (w8.alloc (.cells #[.int .u32 zi, .int .u32 ze, .bool zo, .int .u64 zs] 26))) := ⟨below_alloc (Below.refl _ _) _⟩
            have HB9 := Aside0.mk (below_then HB8.out HB8.out.size HA9.out)
            have HSK := Aside0.mk Ps.sizeTk
            have hr16 : (Instr.loadAt 26 (.pointer (some ⟨g16, 0, none⟩))).run Tryd.prog (w8.alloc (.cells #[.int .u32 zi, .int .u32 ze, .bool zo, .int .u64 zs] 26)) = .ok (.agg #[.int .u32 zi, .int .u32 ze, .bool zo, .int .u64 zs]) (w8.alloc (.cells #[.int .u32 zi, .int .u32 ze, .bool zo, .int .u64 zs] 26)) := Wk.run_load_blk (P := Tryd.prog) 26 g16 0 (Ps.tkc (zi, ze, zo, zs)) _ (HX8.out.below_ HA9.out) rfl Tryd.underlying26 rfl HSK.out
            have hr18 : (Instr.loadAt 26 (.pointer (some ⟨w8.heap.size, 0, none⟩))).run Tryd.prog (w8.alloc (.cells #[.int .u32 zi, .int .u32 ze, .bool zo, .int .u64 zs] 26)) = .ok (.agg #[.int .u32 zi, .int .u32 ze, .bool zo, .int .u64 zs]) (w8.alloc (.cells #[.int .u32 zi, .int .u32 ze, .bool zo, .int .u64 zs] 26)) := Wk.run_load_blk (P := Tryd.prog) 26 w8.heap.size 0 (Ps.tkc (zi, ze, zo, zs)) _ (Wk.Blk.new w8 _ (Ps.tkc (zi, ze, zo, zs))) rfl Tryd.underlying26 rfl HSK.out
            clear hb8 HX7 HA7 HB6 HB7 HG16 HX8 HB8 HA9
            have hcr := HCR.out
            clear HCR HCK
            rcases hcr with rfl | rfl | rfl | rfl | rfl | rfl
            · skip
              go_wp2_with (first
                | refine Wk.load rfl 26 (.tmp 16) rfl _ (.pointer (some ⟨g16, 0, none⟩)) rfl hr16 ?_
                | refine Wk.load rfl 26 (.tmp 18) rfl _ (.pointer (some ⟨w8.heap.size, 0, none⟩)) rfl hr18 ?_)
              exact ⟨⟨k + 1, by simp, by omega, HB9⟩, by simp [intOf]; omega⟩
            · skip
              go_wp2_with (first
                | refine Wk.load rfl 26 (.tmp 16) rfl _ (.pointer (some ⟨g16, 0, none⟩)) rfl hr16 ?_
                | refine Wk.load rfl 26 (.tmp 18) rfl _ (.pointer (some ⟨w8.heap.size, 0, none⟩)) rfl hr18 ?_)
              exact ⟨⟨k + 1, by simp, by omega, HB9⟩, by simp [intOf]; omega⟩
            · skip
              go_wp2_with (first
                | refine Wk.load rfl 26 (.tmp 16) rfl _ (.pointer (some ⟨g16, 0, none⟩)) rfl hr16 ?_
                | refine Wk.load rfl 26 (.tmp 18) rfl _ (.pointer (some ⟨w8.heap.size, 0, none⟩)) rfl hr18 ?_)
              exact ⟨⟨k + 1, by simp, by omega, HB9⟩, by simp [intOf]; omega⟩
            · skip
              go_wp2_with (first
                | refine Wk.load rfl 26 (.tmp 16) rfl _ (.pointer (some ⟨g16, 0, none⟩)) rfl hr16 ?_
                | refine Wk.load rfl 26 (.tmp 18) rfl _ (.pointer (some ⟨w8.heap.size, 0, none⟩)) rfl hr18 ?_)
              exact ⟨⟨k + 1, by simp, by omega, HB9⟩, by simp [intOf]; omega⟩
            · skip
              go_wp2_with (first
                | refine Wk.load rfl 26 (.tmp 16) rfl _ (.pointer (some ⟨g16, 0, none⟩)) rfl hr16 ?_
                | refine Wk.load rfl 26 (.tmp 18) rfl _ (.pointer (some ⟨w8.heap.size, 0, none⟩)) rfl hr18 ?_)
              exact ⟨⟨k + 1, by simp, by omega, HB9⟩, by simp [intOf]; omega⟩
            · skip
              go_wp2_with (first
                | refine Wk.load rfl 26 (.tmp 16) rfl _ (.pointer (some ⟨g16, 0, none⟩)) rfl hr16 ?_
                | refine Wk.load rfl 26 (.tmp 18) rfl _ (.pointer (some ⟨w8.heap.size, 0, none⟩)) rfl hr18 ?_)
              exact ⟨⟨k + 1, by simp, by omega, HB9⟩, by simp [intOf]; omega⟩
        · obtain rfl : m = k := by omega
          obtain ⟨wY, rfl⟩ : ∃ w : World, w = wr := ⟨_, rfl⟩
          go_wp2_with fail
          refine (tenant_.calls p hi x0 x2 wY (HTB.out.below HBR.out) HID.out.1 HID.out.2 HTW.out).mono ?_
          rintro e w5 ⟨hb5, A2, e2, A3', e3, rfl, he2, he3, hR2, hR3⟩
          obtain ⟨x, HXX⟩ : ∃ x, Aside0 ((Ps.find x0 x2).getD Ps.zn = x) := ⟨_, ⟨rfl⟩⟩
          obtain ⟨fd, HFD⟩ : ∃ b, Aside0 ((Ps.find x0 x2).isSome = b) := ⟨_, ⟨rfl⟩⟩
          have hwf := Ps.got_wf HTW.out x2
          rw [HXX.out] at he2 he3 hR2 hR3 hwf ⊢
          rw [HFD.out]
          obtain ⟨id, l0, qu, sx, l1⟩ := x
          obtain ⟨_, hm0, hm1, -⟩ := hwf
          change l0.length ≤ 1000 at hm0
          change l1.length ≤ 1000 at hm1
          obtain ⟨n0, HN0⟩ : ∃ i, Aside0 (l0.length = i) := ⟨_, ⟨rfl⟩⟩
          obtain ⟨n1, HN1⟩ : ∃ i, Aside0 (l1.length = i) := ⟨_, ⟨rfl⟩⟩
          simp only [Ps.tnc] at he2 he3 hR2 hR3 ⊢
          rw [HN0.out] at he2 hR2 hm0 ⊢
          rw [HN1.out] at he3 hR3 hm1 ⊢
          have HM1 := Aside0.mk hm1
          have HNu5 := Aside0.mk (Ps.num_of_R hR2)
          have HB5 := Aside0.mk (below_then HBR.out HBR.out.size hb5)
          have HY5 := Aside0.mk hb5
          clear hb5 he2 he3 hR2 hR3 hm1
          go_wp2_with fail
          generalize hWq : World.alloc w5 _ = w6
          have hb6 : Below w5.heap.size w5 w6 := by rw [← hWq]; exact below_alloc (Below.refl _ _) _
          have HX6 : Aside0 (Wk.Blk w6 w5.heap.size 42 (Ps.tv id qu sx (.slice A2 n0 e2) (.slice A3' n1 e3))) := ⟨by rw [← hWq]; exact Wk.Blk.new w5 _ (Ps.tv id qu sx (.slice A2 n0 e2) (.slice A3' n1 e3))⟩
          have HB6 := Aside0.mk (below_then HB5.out HB5.out.size hb6)
          have HY6 := Aside0.mk (below_then HY5.out HY5.out.size hb6)
          have HNu6 := Aside0.mk (HNu5.out.below hb6)
          have HSZ6 : Aside0 (w5.heap.size ≤ w6.heap.size) := ⟨hb6.size⟩
          obtain ⟨g20, HG20⟩ : ∃ b, Aside0 (w5.heap.size = b) := ⟨_, ⟨rfl⟩⟩
          rw [HG20.out] at HX6 HNu6 HSZ6 ⊢
          clear hWq hb6 HB5 HY5 HNu5 HG20
          refine (reftenant_.calls q b4 x0 x2 w6 (HTR.out.below HB6.out) (by rw [HN.out]; exact HLN.out) HTW.out).mono ?_
          rintro e w7 ⟨hb7, A4, e4, A5, e5, rfl, he4, he5, hR4, hR5⟩
          rw [HXX.out] at he4 he5 hR4 hR5 ⊢
          rw [HFD.out]
          simp only [Ps.tnc] at he4 he5 hR4 hR5 ⊢
          rw [HN0.out] at he4 hR4 ⊢
          rw [HN1.out] at he5 hR5 ⊢
          have HE4 := Aside0.mk he4
          have HE5 := Aside0.mk he5
          have HR4 : Aside0 (Kd.R (Kd.int .u8) 5 w7 w6.heap.size (fun k => w6.heap.size ≤ k) (.slice A4 n0 e4) l0) := ⟨Kd.R_mono (Kd.R_bound hR4) (fun k hk => hk.2.1)⟩
          have HR5 : Aside0 (Kd.R (Kd.int .u32) 23 w7 w6.heap.size (fun k => w6.heap.size ≤ k) (.slice A5 n1 e5) l1) := ⟨Kd.R_mono (Kd.R_bound hR5) (fun k hk => hk.2.1)⟩
          have HY7 := Aside0.mk (below_then HY6.out HY6.out.size hb7)
          have HX7 := Aside0.mk (HX6.out.below_ hb7)
          have HNu7 := Aside0.mk (HNu6.out.below hb7)
          clear hb7 he4 he5 hR4 hR5 HB6 HY6 HX6 HNu6
          go_wp2_with fail
          generalize hWq : World.alloc w7 _ = w8
          have hb8 : Below w7.heap.size w7 w8 := by rw [← hWq]; exact below_alloc (Below.refl _ _) _
          have HZ8 : Aside0 (Wk.Blk w8 w7.heap.size 42 (Ps.tv id qu sx (.slice A4 n0 e4) (.slice A5 n1 e5))) := ⟨by rw [← hWq]; exact Wk.Blk.new w7 _ (Ps.tv id qu sx (.slice A4 n0 e4) (.slice A5 n1 e5))⟩
          have HY8 := Aside0.mk (below_then HY7.out HY7.out.size hb8)
          have HX8 := Aside0.mk (HX7.out.below_ hb8)
          have HNu8 := Aside0.mk (HNu7.out.below hb8)
          have HR48 := Aside0.mk (Kd.R_below HR4.out hb8)
          have HR58 := Aside0.mk (Kd.R_below HR5.out hb8)
          obtain ⟨g22, HG22⟩ : ∃ b, Aside0 (w7.heap.size = b) := ⟨_, ⟨rfl⟩⟩
          obtain ⟨b6, HB6S⟩ : ∃ b, Aside0 (w6.heap.size = b) := ⟨_, ⟨rfl⟩⟩
          rw [HG22.out] at HZ8 ⊢
          rw [HB6S.out] at HR48 HR58 HSZ6
          clear hWq hb8 HY7 HX7 HNu7 HR4 HR5 HG22 HB6S
          go_loopw [24] (fun ix wq => ∃ j : Nat, ix = .int .i64 j ∧ j ≤ n0 ∧ Aside0 (Ps.Num wq wY.heap.size g20 A2 n0) ∧ Aside0 (Below wY.heap.size wY wq) ∧ Aside0 (Wk.Blk wq g20 42 (Ps.tv id qu sx (.slice A2 n0 e2) (.slice A3' n1 e3))) ∧ Aside0 (Wk.Blk wq g22 42 (Ps.tv id qu sx (.slice A4 n0 e4) (.slice A5 n1 e5))) ∧ Aside0 (Kd.R (Kd.int .u8) 5 wq b6 (fun k => b6 ≤ k) (.slice A4 n0 e4) l0) ∧ Aside0 (Kd.R (Kd.int .u32) 23 wq b6 (fun k => b6 ≤ k) (.slice A5 n1 e5) l1)) (fun ix _ => n0 - (intOf ix).toNat)
          case atStart => exact ⟨0, rfl, Nat.zero_le _, HNu8, HY8, HX8, HZ8, HR48, HR58⟩
          case round =>
            clear HNu8 HY8 HX8 HZ8 HR48 HR58
            obtain ⟨j, rfl, hj, HNu, HBY, HX, HZ, HR4, HR5⟩ := hrel
            have hcell := HX.out.at_ 1 rfl
            try simp only [Ps.tv] at hcell
            by_cases hlj : j < n0
            · have hljI : (j : Int) < n0 := by omega
              obtain ⟨b, cs, hA, hlo, hhi, hblk, hlen, hcont⟩ := HNu.out (by omega)
              subst hA
              obtain ⟨y, hy⟩ := hcont j hlj
              have HY := Aside0.mk hy
              have HBK := Aside0.mk hblk
              have HLB : Aside0 (j + 1 ≤ cs.length ∧ wY.heap.size ≤ b ∧ b < g20) := ⟨by omega, hlo, hhi⟩
              clear hblk hlo hhi hlen hcont hy
              go_wp2_with fail
              clear hcell
              refine wp_region_noPanic ?_
              refine start_ (n := 11) (S := (fun w' => Below wr.heap.size wr w')) (ds := [10]) #[false, false, false, false, false, false, false, false, false, false, false] (by kernel_rfl) rfl rfl (Below.refl _ _).drew (fun hHeld => ?_)
              refine pure_ (i := 0) (N := (some 161)) (v := ?_) (a' := ?_) #[true, false, false, false, false, false, false, false, false, false, false] rfl rfl (by kernel_rfl) (fun _ _ _ h => h) (Or.inl ⟨by rfl, ?_⟩) ?_ ?_
              rotate_left
              · intro w'
                go_simp
                first | done | with_reducible rfl
              rotate_left
              · simp only [Act.put, List.setIfInBounds_toArray, List.set_cons_zero, List.set_cons_succ]
                rfl
              refine take_ (i := 1) (N := (some 162)) (v := ?_) (a' := ?_) #[true, true, false, false, false, false, false, false, false, false, false] rfl rfl (by kernel_rfl) (fun _ _ _ h => h) (Or.inl ⟨by rfl, ?_⟩) hHeld ?_ ?_
              rotate_left
              · intro w' hS'
                (have c1 := (HX.out.below_ hS').at_ 1 rfl; go_simp)
                first | done | with_reducible rfl
              rotate_left
              · simp only [Act.put, List.setIfInBounds_toArray, List.set_cons_zero, List.set_cons_succ]
                rfl
              refine pure_ (i := 2) (N := (some 163)) (v := ?_) (a' := ?_) #[true, true, true, false, false, false, false, false, false, false, false] rfl rfl (by kernel_rfl) (fun _ _ _ h => h) (Or.inl ⟨by rfl, ?_⟩) ?_ ?_
              rotate_left
              · intro w'
                go_simp
                first | done | with_reducible rfl
              rotate_left
              · simp only [Act.put, List.setIfInBounds_toArray, List.set_cons_zero, List.set_cons_succ]
                rfl
              refine pure_ (i := 3) (N := (some 164)) (v := ?_) (a' := ?_) #[true, true, true, true, false, false, false, false, false, false, false] rfl rfl (by kernel_rfl) (fun _ _ _ h => h) (Or.inl ⟨by rfl, ?_⟩) ?_ ?_
              rotate_left
              · intro w'
                go_simp
                first | done | with_reducible rfl
              rotate_left
              · simp only [Act.put, List.setIfInBounds_toArray, List.set_cons_zero, List.set_cons_succ]
                rfl
              refine take_ (i := 4) (N := (some 165)) (v := ?_) (a' := ?_) #[true, true, true, true, true, false, false, false, false, false, false] rfl rfl (by kernel_rfl) (fun _ _ _ h => h) (Or.inl ⟨by rfl, ?_⟩) hHeld ?_ ?_
              rotate_left
              · intro w' hS'
                (have c1 := (HX.out.below_ hS').at_ 1 rfl; go_simp)
                first | done | with_reducible rfl
              rotate_left
              · simp only [Act.put, List.setIfInBounds_toArray, List.set_cons_zero, List.set_cons_succ]
                rfl
              refine pure_ (i := 5) (N := (some 166)) (v := ?_) (a' := ?_) #[true, true, true, true, true, true, false, false, false, false, false] rfl rfl (by kernel_rfl) (fun _ _ _ h => h) (Or.inl ⟨by rfl, ?_⟩) ?_ ?_
              rotate_left
              · intro w'
                go_simp
                first | done | with_reducible rfl
              rotate_left
              · simp only [Act.put, List.setIfInBounds_toArray, List.set_cons_zero, List.set_cons_succ]
                rfl
              refine pure_ (i := 6) (N := (some 167)) (v := ?_) (a' := ?_) #[true, true, true, true, true, true, true, false, false, false, false] rfl rfl (by kernel_rfl) (fun _ _ _ h => h) (Or.inl ⟨by rfl, ?_⟩) ?_ ?_
              rotate_left
              · intro w'
                go_simp
                first | done | with_reducible rfl
              rotate_left
              · simp only [Act.put, List.setIfInBounds_toArray, List.set_cons_zero, List.set_cons_succ]
                rfl
              refine take_ (i := 7) (N := (some 168)) (v := ?_) (a' := ?_) #[true, true, true, true, true, true, true, true, false, false, false] rfl rfl (by kernel_rfl) (fun _ _ _ h => h) (Or.inl ⟨by rfl, ?_⟩) hHeld ?_ ?_
              rotate_left
              · intro w' hS'
                (have c1 := (HBK.out.below_ hS').at_ j HY.out; go_simp)
                first | done | with_reducible rfl
              rotate_left
              · simp only [Act.put, List.setIfInBounds_toArray, List.set_cons_zero, List.set_cons_succ]
                rfl
              refine pure_ (i := 8) (N := (some 169)) (v := ?_) (a' := ?_) #[true, true, true, true, true, true, true, true, true, false, false] rfl rfl (by kernel_rfl) (fun _ _ _ h => h) (Or.inl ⟨by rfl, ?_⟩) ?_ ?_
              rotate_left
              · intro w'
                go_simp
                first | done | with_reducible rfl
              rotate_left
              · simp only [Act.put, List.setIfInBounds_toArray, List.set_cons_zero, List.set_cons_succ]
                rfl
              refine pure_ (i := 9) (N := (some 170)) (v := ?_) (a' := ?_) #[true, true, true, true, true, true, true, true, true, true, false] rfl rfl (by kernel_rfl) (fun _ _ _ h => h) (Or.inl ⟨by rfl, ?_⟩) ?_ ?_
              rotate_left
              · intro w'
                go_simp
                first | done | with_reducible rfl
              rotate_left
              · simp only [Act.put, List.setIfInBounds_toArray, List.set_cons_zero, List.set_cons_succ]
                rfl
              refine last_ (i := 10) (N := none) #[true, true, true, true, true, true, true, true, true, true, true] rfl rfl (by kernel_rfl) (by decide) (fun K hK => ?_)
              refine Wk.store_step (by rfl) rfl 5 (.tmp 170) (.tmp 169) rfl b j _ [_] rfl rfl rfl 5 cs HBK.out.drew HS5.out HLB.out.1 rfl ?_
              intro w9 hX hO
              have HX9 := Aside0.mk hX
              have HO9 := Aside0.mk hO
              clear hX hO
              refine hK.out _ _ ?_
              clear hK K
              refine done_ (by kernel_rfl) ?_
              refine NoPanic.normal ?_
              have hbd : Below wr.heap.size wr wr.drew := (Below.refl _ _).drew
              have hok : ∀ k, b6 ≤ k → some k ≠ some b := fun k hk he => by injection he with he; have := HLB.out.2.2; have := HSZ6.out; omega
              have HN9 := Aside0.mk ((HNu.out.below hbd).put HBK.out.drew HLB.out.1 HX9.out HO9.out)
              have HB9 := Aside0.mk (Wk.Only.below HBY.out.drew HO9.out HLB.out.2.1)
              have HX19 := Aside0.mk (HX.out.drew.only HO9.out (HX.out.drew.ne_ HBK.out.drew (by decide)))
              have HZ9 := Aside0.mk (HZ.out.drew.only HO9.out (HZ.out.drew.ne_ HBK.out.drew (by decide)))
              have HR49 := Aside0.mk (Kd.R_grown (Kd.R_below HR4.out hbd) HO9.out.grown hok)
              have HR59 := Aside0.mk (Kd.R_grown (Kd.R_below HR5.out hbd) HO9.out.grown hok)
              clear hbd hok
              go_wp2_with fail
              exact ⟨⟨j + 1, by simp, by omega, HN9, HB9, HX19, HZ9, HR49, HR59⟩, by simp [intOf]; omega⟩
            · obtain rfl : n0 = j := by omega
              have HBX := Aside0.mk (below_then HBR.out HBR.out.size HBY.out)
              go_wp2_with fail
              clear hcell
              refine (tenant_.calls p hi x0 x2 wr (HTB.out.below HBX.out) HID.out.1 HID.out.2 HTW.out).mono ?_
              rintro e w10 ⟨hb10, A6, e6, A7, e7, rfl, he6, he7, hR6, hR7⟩
              rw [HXX.out] at he6 he7 hR6 hR7 ⊢
              rw [HFD.out]
              simp only [Ps.tnc] at he6 he7 hR6 hR7 ⊢
              rw [HN0.out] at he6 hR6 ⊢
              rw [HN1.out] at he7 hR7 ⊢
              have HE6 := Aside0.mk he6
              have HE7 := Aside0.mk he7
              have HR6 := Aside0.mk hR6
              have HR7 := Aside0.mk hR7
              have HZ10 := Aside0.mk (HZ.out.below_ hb10)
              have HR410 := Aside0.mk (Kd.R_below HR4.out hb10)
              have HR510 := Aside0.mk (Kd.R_below HR5.out hb10)
              have HBX10 := Aside0.mk (below_then HB.out HB.out.size (below_then HBX.out HBX.out.size hb10))
              have HSZ := Aside0.mk Ps.sizeTn
              have HA11 : Aside0 (Below w10.heap.size w10 (w10.alloc (.cells #[.int .u32 id, .slice A6 n0 e6, .int .u64 qu, .int .u64 sx, .slice A7 n1 e7] 42))) := ⟨below_alloc (Below.refl _ _) _⟩
              have hr25 : (Instr.loadAt 42 (.pointer (some ⟨w10.heap.size, 0, none⟩))).run Tryd.prog (w10.alloc (.cells #[.int .u32 id, .slice A6 n0 e6, .int .u64 qu, .int .u64 sx, .slice A7 n1 e7] 42)) = .ok (.agg #[.int .u32 id, .slice A6 n0 e6, .int .u64 qu, .int .u64 sx, .slice A7 n1 e7]) (w10.alloc (.cells #[.int .u32 id, .slice A6 n0 e6, .int .u64 qu, .int .u64 sx, .slice A7 n1 e7] 42)) := Wk.run_load_blk (P := Tryd.prog) 42 w10.heap.size 0 (Ps.tv id qu sx (.slice A6 n0 e6) (.slice A7 n1 e7)) _ (Wk.Blk.new w10 _ (Ps.tv id qu sx (.slice A6 n0 e6) (.slice A7 n1 e7))) rfl Tryd.underlying42 rfl HSZ.out
              have hr22 : (Instr.loadAt 42 (.pointer (some ⟨g22, 0, none⟩))).run Tryd.prog (w10.alloc (.cells #[.int .u32 id, .slice A6 n0 e6, .int .u64 qu, .int .u64 sx, .slice A7 n1 e7] 42)) = .ok (.agg #[.int .u32 id, .slice A4 n0 e4, .int .u64 qu, .int .u64 sx, .slice A5 n1 e5]) (w10.alloc (.cells #[.int .u32 id, .slice A6 n0 e6, .int .u64 qu, .int .u64 sx, .slice A7 n1 e7] 42)) := Wk.run_load_blk (P := Tryd.prog) 42 g22 0 (Ps.tv id qu sx (.slice A4 n0 e4) (.slice A5 n1 e5)) _ (HZ10.out.below_ HA11.out) rfl Tryd.underlying42 rfl HSZ.out
              clear hb10 he6 he7 hR6 hR7 HB HBR HBW HBX HBY HX HZ HNu HR4 HR5 HTB HTR HXX HFD
              cases fd with
              | false =>
                go_wp2_with (first
                  | refine Wk.load_g (by rfl) 42 (.tmp 25) rfl _ (.pointer (some ⟨w10.heap.size, 0, none⟩)) rfl hr25 ?_
                  | refine Wk.load_g (by rfl) 42 (.tmp 22) rfl _ (.pointer (some ⟨g22, 0, none⟩)) rfl hr22 ?_)
                have r4 := (Kd.R_reads' (Kd.R_below HR410.out HA11.out)).2.2
                have r5 := (Kd.R_reads' (Kd.R_below HR510.out HA11.out)).2.2
                have r6 := (Kd.R_reads' (Kd.R_below HR6.out HA11.out)).2.2
                have r7 := (Kd.R_reads' (Kd.R_below HR7.out HA11.out)).2.2
                refine (Ps.alike_ HM1.out HN0.out HN1.out r6 HE6.out r7 HE7.out r4 HE4.out r5 HE5.out).mono ?_
                rintro e w12 ⟨rfl, hb12⟩
                have HBF := Aside0.mk (below_then HBX10.out HBX10.out.size (below_then HA11.out HA11.out.size hb12))
                clear hb12 r4 r5 r6 r7 hr22 hr25
                go_wp2_with fail
                go_ret
                exact ⟨rfl, HBF.out⟩
              | true =>
                go_wp2_with (first
                  | refine Wk.load_g (by rfl) 42 (.tmp 25) rfl _ (.pointer (some ⟨w10.heap.size, 0, none⟩)) rfl hr25 ?_
                  | refine Wk.load_g (by rfl) 42 (.tmp 22) rfl _ (.pointer (some ⟨g22, 0, none⟩)) rfl hr22 ?_)
                have r4 := (Kd.R_reads' (Kd.R_below HR410.out HA11.out)).2.2
                have r5 := (Kd.R_reads' (Kd.R_below HR510.out HA11.out)).2.2
                have r6 := (Kd.R_reads' (Kd.R_below HR6.out HA11.out)).2.2
                have r7 := (Kd.R_reads' (Kd.R_below HR7.out HA11.out)).2.2
                refine (Ps.alike_ HM1.out HN0.out HN1.out r6 HE6.out r7 HE7.out r4 HE4.out r5 HE5.out).mono ?_
                rintro e w12 ⟨rfl, hb12⟩
                have HBF := Aside0.mk (below_then HBX10.out HBX10.out.size (below_then HA11.out HA11.out.size hb12))
                clear hb12 r4 r5 r6 r7 hr22 hr25
                go_wp2_with fail
                go_ret
                exact ⟨rfl, HBF.out⟩
end Go.Proofs.YtabdnlecpndfjaaDoor
