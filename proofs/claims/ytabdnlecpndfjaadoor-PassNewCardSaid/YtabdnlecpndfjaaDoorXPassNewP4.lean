/- What the law's proof stands on, part 4: PassQ, MacS, PassC, PassK, PassRow, PassF, PassH, PassL5 (laid together by wip/pack.py). -/
import Derived.Test.YtabdnlecpndfjaaDoorRows
import Derived.Test.YtabdnlecpndfjaaDoorCards
import Derived.Test.YtabdnlecpndfjaaDoorTie
import Derived.Test.YtabdnlecpndfjaaDoorXPassNewP3
import Derived.ProofKit
import Derived.LaidMore
import Derived.OpenShut
import Derived.Stop.Joined
import Derived.SevenTiedAt
import Derived.SizedLaws
set_option linter.unusedVariables false
set_option linter.unusedSimpArgs false
namespace Go.Proofs.YtabdnlecpndfjaaDoor
open Go.RowKit Go.Proofs.YtabdnlecpndfjaaDoor.PBase Go.Proofs.YtabdnlecpndfjaaDoorW.PrintWords Go.Proofs.YtabdnlecpndfjaaDoorW.PrintLast Go.Proofs.YtabdnlecpndfjaaDoorW.PrintMore
namespace Ps
theorem find_mem {l : List Tn} {id : Int} {x : Tn} (h : find l id = some x) : x ∈ l ∧ x.f0 = id := by
  unfold find at h
  exact ⟨List.mem_of_find?_eq_some h, by simpa using List.find?_some h⟩
theorem zn_wf : TnWf zn := ⟨⟨Int.le_refl _, by show (0 : Int) < 4294967296; decide⟩, by show 0 ≤ 1000; decide, by show 0 ≤ 1000; decide, fun x h => by cases h⟩
theorem got_wf {l : List Tn} (hW : ∀ x ∈ l, TnWf x) (id : Int) : TnWf ((find l id).getD zn) := by
  cases h : find l id with
  | none => exact zn_wf
  | some x => exact hW x (find_mem h).1
theorem Tm.looks {W : World} {b : Nat} {l : List Tn} (h : Tm W b l) (id : Int) (h0 : 0 ≤ id) (h1 : id < 4294967296) :
    ∃ A0 c0 A1 c1, (∀ W', Below W.heap.size W W' → (Instr.lookup 69 (.map (some b)) (.int .u32 id) true).run Tryd.prog W' = .ok (.tuple #[.agg (tnc ((find l id).getD zn) A0 c0 A1 c1).toArray, .bool (find l id).isSome]) W') ∧ ((find l id).getD zn).f1.length ≤ c0 ∧ ((find l id).getD zn).f4.length ≤ c1 ∧ Kd.C (Kd.int .u8) W A0 ((find l id).getD zn).f1.length ((find l id).getD zn).f1 ∧ Kd.C (Kd.int .u32) W A1 ((find l id).getD zn).f4.length ((find l id).getD zn).f4 := by
  rcases h.look id h0 h1 with ⟨hf, hr⟩ | ⟨x, A0, c0, A1, c1, hf, hr, l0, l1, g0, g1⟩
  · rw [hf]
    exact ⟨none, 0, none, 0, hr, Nat.le_refl _, Nat.le_refl _, Kd.C_nil _ _, Kd.C_nil _ _⟩
  · rw [hf]
    exact ⟨A0, c0, A1, c1, hr, l0, l1, g0, g1⟩
def TenPost (w : World) (l : List Tn) (id : Int) (e : Ending) (w' : World) : Prop :=
  Below w.heap.size w w' ∧ ∃ A0 c0 A1 c1, e = .returned (.tuple #[.agg (tnc ((find l id).getD zn) A0 c0 A1 c1).toArray, .bool (find l id).isSome]) ∧ ((find l id).getD zn).f1.length ≤ c0 ∧ ((find l id).getD zn).f4.length ≤ c1 ∧
    Kd.R (Kd.int .u8) 5 w' w.heap.size (fun _ => True) (.slice A0 ((find l id).getD zn).f1.length c0) ((find l id).getD zn).f1 ∧ Kd.R (Kd.int .u32) 23 w' w.heap.size (fun _ => True) (.slice A1 ((find l id).getD zn).f4.length c1) ((find l id).getD zn).f4
end Ps
set_option maxHeartbeats 2000000 in
set_option maxRecDepth 100000 in
theorem tenant_.calls (p base : Nat) (l : List Ps.Tn) (id : Int) (w : World) (hT : Ps.Tb w base p l) (h0 : 0 ≤ id) (h1 : id < 4294967296) (hW : ∀ x ∈ l, Ps.TnWf x) :
    Calls Tryd.prog 21 #[.pointer (some ⟨p, 0, none⟩), .int .u32 id] w (Ps.TenPost w l id) := by
  obtain ⟨bm, _, _, hP, hM⟩ := hT
  have HP := Aside0.mk hP
  have HSZ := Aside0.mk Ps.sizeTn
  obtain ⟨A0, d0, A1, d1, hlo, hc0, hc1, g0, g1⟩ := hM.looks id h0 h1
  have hwf := Ps.got_wf hW id
  unfold Ps.TenPost
  obtain ⟨fd, HFD⟩ : ∃ b, Aside0 ((Ps.find l id).isSome = b) := ⟨_, ⟨rfl⟩⟩
  rw [HFD.out] at hlo ⊢
  generalize (Ps.find l id).getD Ps.zn = x at *
  obtain ⟨i, l0, q, s, l1⟩ := x
  obtain ⟨_, hm0, hm1, hby⟩ := hwf
  change l0.length ≤ 1000 at hm0
  change l1.length ≤ 1000 at hm1
  simp only [Ps.tnc] at hlo hc0 hc1 g0 g1 ⊢
  have HG0 := Aside0.mk g0
  have HG1 := Aside0.mk g1
  obtain ⟨n0, HN0⟩ : ∃ n, Aside0 (l0.length = n) := ⟨_, ⟨rfl⟩⟩
  obtain ⟨n1, HN1⟩ : ∃ n, Aside0 (l1.length = n) := ⟨_, ⟨rfl⟩⟩
  rw [HN0.out] at hm0 hc0 hlo ⊢
  rw [HN1.out] at hm1 hc1 hlo ⊢
  have HLO := Aside0.mk hlo
  clear g0 g1 hby hlo hP hM
  go_enter Tryd.func21, Tryd.ntmps21
  have HA : Aside0 (Below w.heap.size w (w.alloc (.cells Ps.z5.toArray 42))) := ⟨below_alloc (Below.refl _ _) _⟩
  have c1 := (HP.out.below_ HA.out).at_ 0 rfl
  have c2 := HLO.out _ HA.out
  go_wp2_with fail
  generalize hWq : World.alloc (World.alloc w _) _ = W2
  have HB2 : Aside0 (Below w.heap.size w W2) := ⟨by rw [← hWq]; exact below_alloc (below_alloc (Below.refl _ _) _) _⟩
  have HX2 : Aside0 (Wk.Blk W2 w.heap.size 42 Ps.z5) := ⟨by rw [← hWq]; exact (Wk.Blk.new w _ Ps.z5).alloc _⟩
  clear hWq c1 c2 HLO HA
  refine (lent_.calls i q s A0 n0 d0 l0 A1 n1 d1 l1 W2 (Kd.C_below HG0.out HB2.out) HN0.out hc0 (by omega) (Kd.C_below HG1.out HB2.out) HN1.out hc1 (by omega)).mono ?_
  rintro e w3 ⟨A2, e2, A3, e3, rfl, he2, he3, hR2, hR3, hb3⟩
  have HR2 := Aside0.mk hR2
  have HR3 := Aside0.mk hR3
  have HX3 := Aside0.mk (HX2.out.below_ hb3)
  have HB3 := Aside0.mk (below_then HB2.out HB2.out.size hb3)
  clear hR2 hR3 hb3 HX2
  go_wp2_with (refine Wk.store_all rfl rfl 42 (.tmp 4) (.tmp 18) rfl w.heap.size (Ps.tv i q s (.slice A2 n0 e2) (.slice A3 n1 e3)) rfl rfl 42 _ HX3.out HSZ.out rfl rfl ?_; intro w4 hX hO; have HX4 := Aside0.mk hX; have HO4 := Aside0.mk hO; clear hX hO)
  refine bodyPost_ret (Wk.res_ct rfl _ w.heap.size 42 _ _ rfl HX4.out Tryd.underlying42 rfl HSZ.out) rfl ?_
  have hne : ∀ q, q ∈ 5 :: (Kd.int .u8).E → q ≠ 42 := by decide
  have hne' : ∀ q, q ∈ 23 :: (Kd.int .u32).E → q ≠ 42 := by decide
  exact ⟨Wk.Only.below HB3.out HO4.out (Nat.le_refl _), A2, e2, A3, e3, rfl, he2, he3, Kd.R_lower (Wk.R_only HR2.out HX3.out hne HO4.out) HB2.out.size, Kd.R_lower (Wk.R_only HR3.out HX3.out hne' HO4.out) HB2.out.size⟩
end Go.Proofs.YtabdnlecpndfjaaDoor
set_option linter.unusedVariables false
set_option linter.unusedSimpArgs false
namespace Go.Proofs.YtabdnlecpndfjaaDoor
open Go.RowKit Go.Proofs.YtabdnlecpndfjaaDoorW.PrintWords
namespace Sh
open PBase
theorem wrap_toNat (x : BitVec 8) : IntKind.u8.wrap (x.toNat : Int) = (x.toNat : Int) := by
  rw [IntKind.wrap_u8]
  have := x.isLt
  omega
theorem ofInt_wrap (x : BitVec 8) : BitVec.ofInt 8 (IntKind.u8.wrap (x.toNat : Int)) = x := by
  rw [wrap_toNat]
  apply BitVec.eq_of_toNat_eq
  rw [BitVec.ofInt_natCast, BitVec.toNat_ofNat]
  exact Nat.mod_eq_of_lt x.isLt
theorem ofInt_inj (a b : Int) (ha : 0 ≤ a ∧ a ≤ 255) (hb : 0 ≤ b ∧ b ≤ 255) (h : BitVec.ofInt 8 a = BitVec.ofInt 8 b) : a = b := by
  obtain ⟨m, rfl⟩ := Int.eq_ofNat_of_zero_le ha.1
  obtain ⟨n, rfl⟩ := Int.eq_ofNat_of_zero_le hb.1
  have := congrArg BitVec.toNat h
  rw [BitVec.ofInt_natCast, BitVec.ofInt_natCast, BitVec.toNat_ofNat, BitVec.toNat_ofNat, Nat.mod_eq_of_lt (by omega), Nat.mod_eq_of_lt (by omega)] at this
  rw [this]
theorem or_xor_zero (x a b : Int) (hx : 0 ≤ x ∧ x ≤ 255) (ha : 0 ≤ a ∧ a ≤ 255) (hb : 0 ≤ b ∧ b ≤ 255) : bits .or .u8 x (bits .xor .u8 a b) = 0 ↔ x = 0 ∧ a = b := by
  have hxor : BitVec.ofInt 8 (bits .xor .u8 a b) = BitVec.ofInt 8 a ^^^ BitVec.ofInt 8 b := ofInt_wrap (BitVec.ofInt 8 a ^^^ BitVec.ofInt 8 b)
  have hor : bits .or .u8 x (bits .xor .u8 a b) = ((BitVec.ofInt 8 x ||| (BitVec.ofInt 8 a ^^^ BitVec.ofInt 8 b)).toNat : Int) := by
    rw [← hxor]
    exact wrap_toNat (BitVec.ofInt 8 x ||| BitVec.ofInt 8 (bits .xor .u8 a b))
  rw [hor]
  constructor
  · intro h
    have h0 : BitVec.ofInt 8 x ||| (BitVec.ofInt 8 a ^^^ BitVec.ofInt 8 b) = 0#8 := by
      apply BitVec.eq_of_toNat_eq
      have : (BitVec.ofInt 8 x ||| (BitVec.ofInt 8 a ^^^ BitVec.ofInt 8 b)).toNat = 0 := by omega
      rw [this]; rfl
    rw [BitVec.or_eq_zero_iff, BitVec.xor_eq_zero_iff] at h0
    refine ⟨ofInt_inj x 0 hx (by omega) (h0.1.trans rfl), ofInt_inj a b ha hb h0.2⟩
  · rintro ⟨rfl, rfl⟩
    rw [BitVec.xor_self]
    rfl
theorem rd_nat' (l : List Int) (i : Nat) : rd l (i : Int) = l.getD i 0 := by simp [rd, List.getD_eq_getElem?_getD]
theorem same_loop (l0 l1 : List Int) (h : l0.length = l1.length) (hm : l0.length ≤ 4611686018427387904) (hb0 : Bytes l0) (hb1 : Bytes l1) : ∀ (d i k : Nat) (x : Int), i + d = l0.length → d < k → (0 ≤ x ∧ x ≤ 255) →
    mac_Same.l0 k l0 l1 x (l0.length : Int) i = some (decide (x = 0 ∧ l0.drop i = l1.drop i))
  | 0, i, k, x, hi, hk, hx => by
    obtain ⟨k, rfl⟩ : ∃ m, k = m + 1 := ⟨k - 1, by omega⟩
    rw [mac_Same.l0, if_neg (by omega), List.drop_of_length_le (by omega), List.drop_of_length_le (by omega)]
    simp [Bool.beq_eq_decide_eq]
  | d + 1, i, k, x, hi, hk, hx => by
    obtain ⟨k, rfl⟩ : ∃ m, k = m + 1 := ⟨k - 1, by omega⟩
    have h0 : i < l0.length := by omega
    have h1 : i < l1.length := by omega
    have e1 : wrap64 ((i : Int) + 1) = ((i + 1 : Nat) : Int) := by unfold wrap64; omega
    rw [mac_Same.l0, e1]
    clear e1
    rw [if_pos (by omega), if_pos (by omega), if_pos (by omega), if_pos (by omega), rd_nat', rd_nat']
    have g0 : l0.getD i 0 = l0[i] := by rw [List.getD_eq_getElem?_getD, List.getElem?_eq_getElem h0]; rfl
    have g1 : l1.getD i 0 = l1[i] := by rw [List.getD_eq_getElem?_getD, List.getElem?_eq_getElem h1]; rfl
    have b0 := hb0 _ (List.getElem_mem h0)
    have b1 := hb1 _ (List.getElem_mem h1)
    rw [same_loop l0 l1 h hm hb0 hb1 d (i + 1) k _ (by omega) (by omega) ⟨bits_lo_u8 _ _ _, bits_hi_u8 _ _ _⟩, g0, g1]
    rw [List.drop_eq_getElem_cons h0, List.drop_eq_getElem_cons h1]
    congr 1
    rw [decide_eq_decide, or_xor_zero x _ _ hx b0 b1, List.cons.injEq, and_assoc]
theorem same_is (l0 l1 : List Int) (hm : l0.length ≤ 4611686018427387904) (hb0 : Bytes l0) (hb1 : Bytes l1) (k : Nat) (hk : l0.length < k) : mac_Same.f k l0 l1 = some (decide (l0 = l1)) := by
  unfold mac_Same.f
  by_cases h : l0.length = l1.length
  · rw [if_pos (by omega)]
    have := same_loop l0 l1 h hm hb0 hb1 l0.length 0 k 0 (by omega) hk (by omega)
    rw [List.drop_zero, List.drop_zero] at this
    refine this.trans ?_
    simp
  · rw [if_neg (by omega)]
    have : l0 ≠ l1 := fun e => h (by rw [e])
    simp [this]
end Sh
theorem same_.calls (A0 : Option Addr) (c0 : Nat) (l0 : List Int) (A1 : Option Addr) (c1 : Nat) (l1 : List Int) (w : World) (hr0 : Kd.C (Kd.int .u8) w A0 l0.length l0) (hc0 : l0.length ≤ c0) (hr1 : Kd.C (Kd.int .u8) w A1 l1.length l1) (hc1 : l1.length ≤ c1)
    (hm : l0.length ≤ 4611686018427387904) (hb0 : Sh.Bytes l0) (hb1 : Sh.Bytes l1) :
    Calls Tryd.prog 35 #[.slice A0 l0.length c0, .slice A1 l1.length c1] w fun e w' => e = .returned (.bool (decide (l0 = l1))) ∧ ∃ m, w' = w.drewN m :=
  (PBase.mac_Same.calls (l0.length + 1) A0 c0 l0 A1 c1 l1 _ w hr0 hc0 hr1 hc1 (Sh.same_is l0 l1 hm hb0 hb1 _ (Nat.lt_succ_self _))).mono fun _ _ ⟨h1, h2⟩ => ⟨h1, h2.out⟩
end Go.Proofs.YtabdnlecpndfjaaDoor
set_option linter.unusedVariables false
set_option linter.unusedSimpArgs false
namespace Go.Proofs.YtabdnlecpndfjaaDoor
open Go.RowKit Go.Proofs.YtabdnlecpndfjaaDoor.PBase Go.Proofs.YtabdnlecpndfjaaDoorW.PrintWords Go.Proofs.YtabdnlecpndfjaaDoorW.PrintLast Go.Proofs.YtabdnlecpndfjaaDoorW.PrintMore
namespace Ps
theorem same1_ {A0 A1 : Option Addr} {n0 n1 c0 c1 : Nat} {l0 l1 : List Int} {w : World} (h0 : Kd.C (Kd.int .u8) w A0 l0.length l0) (hn0 : l0.length = n0) (hc0 : n0 ≤ c0) (h1 : Kd.C (Kd.int .u8) w A1 l1.length l1) (hn1 : l1.length = n1) (hc1 : n1 ≤ c1) (hm : n0 ≤ 4611686018427387904) (hb0 : Sh.Bytes l0) (hb1 : Sh.Bytes l1) {b : Bool} (hb : decide (l0 = l1) = b) :
    Calls Tryd.prog 35 #[.slice A0 n0 c0, .slice A1 n1 c1] w fun e w' => e = .returned (.bool b) ∧ Below w.heap.size w w' := by
  subst hn0; subst hn1; subst hb
  exact (same_.calls A0 c0 l0 A1 c1 l1 w h0 hc0 h1 hc1 hm hb0 hb1).mono (fun _ _ ⟨a, m, hm⟩ => ⟨a, by rw [hm]; exact pw_below_drewN (Below.refl _ _) m⟩)
theorem cont_ {A : Option Addr} {n c : Nat} {l : List Int} {x : Int} {w : World} (h : Kd.C (Kd.int .u32) w A l.length l) (hn : l.length = n) (hc : n ≤ c) (hm : n ≤ 1000000) {b : Bool} (hb : decide (x ∈ l) = b) :
    Calls Tryd.prog 36 #[.slice A n c, .int .u32 x] w fun e w' => e = .returned (.bool b) ∧ Below w.heap.size w w' := by
  subst hn; subst hb
  exact (slices_Contains_uint32_uint32.calls (l.length + 1) A c l x _ w h hc (contains_is l x hm _ (Nat.lt_succ_self _))).mono (fun _ _ ⟨a, h⟩ => ⟨a, by obtain ⟨m, hm⟩ := h.out; rw [hm]; exact pw_below_drewN (Below.refl _ _) m⟩)
theorem token_ {A : Option Addr} {n c : Nat} {l : List Int} {w : World} (h : Kd.C (Kd.int .u8) w A l.length l) (hn : l.length = n) (hc : n ≤ c) (hb : Sh.Bytes l) (h18 : 18 ≤ n) {a b d : Int} {ro : Bool} (ht : tok l = (a, b, ro, d)) :
    Calls Tryd.prog 31 #[.slice A n c] w fun e w' => e = .returned (.agg #[.int .u32 a, .int .u32 b, .bool ro, .int .u64 d]) ∧ Below w.heap.size w w' := by
  subst hn
  exact pass_token.calls 10 A c l a b ro d w h hc ((token_is l hb h18 10 (by decide)).trans (by rw [ht]))
theorem cutTo {A : Option Addr} {n c : Nat} {l : List Int} (hn : l.length = n) (h : 18 ≤ n) (hc : n ≤ c) : ∀ W : World, (Instr.slice 22 (.slice A n c) none (some (.int .i64 18)) none).run Tryd.prog W = .ok (.slice A 18 c) W := by
  subst hn
  exact Wk.cut_to_ 22 5 .i64 Tryd.underlying22 (by kernel_rfl) A c l 18 18 rfl h hc
theorem cutFrom {A : Option Addr} {n c : Nat} {l : List Int} (hn : l.length = n) (h : 18 ≤ n) (hc : n ≤ c) : ∃ A' : Option Addr, (∀ W : World, (Instr.slice 22 (.slice A n c) (some (.int .i64 18)) none none).run Tryd.prog W = .ok (.slice A' (n - 18) (c - 18)) W) ∧
      ∀ W : World, Kd.C (Kd.int .u8) W A l.length l → Kd.C (Kd.int .u8) W A' (l.drop 18).length (l.drop 18) := by
  subst hn
  exact Wk.cut_from_ 22 5 .i64 Tryd.underlying22 (by kernel_rfl) .u8 A c l 18 18 rfl h hc
abbrev zt4 : List Value := [.int .u32 0, .int .u32 0, .bool false, .int .u64 0]
def ChPost (w : World) (l : List Tn) (s : ByteArray) (e : Ending) (w' : World) : Prop :=
  e = .returned (.tuple #[.agg (tkc (check l s).1).toArray, .int .u16 (check l s).2]) ∧ Below w.heap.size w w'
theorem check_form {l : List Tn} {s : ByteArray} (h : ¬ is s = true) : check l s = (zt, 50) := if_neg h
theorem check_none {l : List Tn} {s : ByteArray} (h : is s = true) (hf : find l (tok (got s)).1 = none) : check l s = (zt, 51) := by
  unfold check
  rw [if_pos h, hf]
theorem check_some {l : List Tn} {s : ByteArray} (h : is s = true) {x : Tn} (hf : find l (tok (got s)).1 = some x) : check l s = verdict x (got s) := by
  unfold check
  rw [if_pos h, hf]
end Ps
set_option maxHeartbeats 4000000 in
set_option maxRecDepth 100000 in
theorem check_.calls (p base : Nat) (l : List Ps.Tn) (s : ByteArray) (w : World) (hk : Sh.Ks w) (hT : Ps.Tb w base p l) (hs : s.size ≤ 1000000) (hW : ∀ x ∈ l, Ps.TnWf x) :
    Calls Tryd.prog 16 #[.pointer (some ⟨p, 0, none⟩), .string s] w (Ps.ChPost w l s) := by
  obtain ⟨bm, _, _, hP, hM⟩ := hT
  have HP := Aside0.mk hP
  have HM := Aside0.mk hM
  have HK := Aside0.mk hk
  have HW := Aside0.mk hW
  have HSZ := Aside0.mk Ps.sizeTn
  have HSK := Aside0.mk Ps.sizeTk
  have HZ4 : Aside0 (Below w.heap.size w (w.alloc (.cells Ps.zt4.toArray 26))) := ⟨below_alloc (Below.refl _ _) _⟩
  have HX4 : Aside0 (Wk.Blk (w.alloc (.cells Ps.zt4.toArray 26)) w.heap.size 26 Ps.zt4) := ⟨Wk.Blk.new w _ Ps.zt4⟩
  clear hP hM hk hW
  go_enter Tryd.func16, Tryd.ntmps16
  go_wp2_with fail
  refine (pass_read.calls (s.size + 2) s (Ps.got s) (Ps.is s) _ (Ps.read_is s hs _ (Nat.lt_succ_self _))).mono ?_
  rintro e w2 ⟨v2, rfl, hR2, hb2⟩
  obtain ⟨A2, c2, rfl⟩ := Kd.R_slice hR2
  obtain ⟨m, HMM⟩ : ∃ n, Aside0 ((Ps.got s).length = n) := ⟨_, ⟨rfl⟩⟩
  have HX2 := Aside0.mk (HX4.out.below_ hb2)
  have HB2 := Aside0.mk (below_then HZ4.out HZ4.out.size hb2)
  obtain ⟨hc2, hC2⟩ : (Ps.got s).length ≤ c2 ∧ Kd.C (Kd.int .u8) w2 A2 (Ps.got s).length (Ps.got s) := by
    obtain ⟨A', c', he, h1, h2⟩ := Kd.R_reads hR2
    injection he with e1 e2 e3
    subst e1; subst e3
    exact ⟨h1, h2⟩
  rw [HMM.out] at hc2 ⊢
  have HC2 := Aside0.mk hC2
  obtain ⟨fi, HFI⟩ : ∃ b, Aside0 (Ps.is s = b) := ⟨_, ⟨rfl⟩⟩
  rw [HFI.out]
  clear hR2 hb2 hC2 HZ4 HX4
  cases fi with
  | false =>
    go_wp2_with (refine Wk.store_all rfl rfl 26 (.tmp 4) (.tmp 19) rfl w.heap.size Ps.zt4 rfl rfl 26 _ HX2.out HSK.out rfl rfl ?_; intro wz hX hO; have HXZ := Aside0.mk hX; have HOZ := Aside0.mk hO; clear hX hO)
    refine bodyPost_ret (Wk.res_ct rfl _ w.heap.size 26 _ _ rfl HXZ.out Tryd.underlying26 rfl HSK.out) rfl ?_
    refine ⟨?_, Wk.Only.below HB2.out HOZ.out (Nat.le_refl _)⟩
    rw [Ps.check_form (by rw [HFI.out]; exact Bool.false_ne_true)]
    rfl
  | true =>
    obtain ⟨hfm, hgb, -⟩ := Ps.got_of s HFI.out
    have hm50 : m = 50 := by
      unfold Ps.form at hfm
      rw [decide_eq_true_eq] at hfm
      rw [← HMM.out]
      exact hfm.1
    have HGB := Aside0.mk hgb
    have HM50 := Aside0.mk hm50
    have hwf := Ps.tok_wf _ hgb
    obtain ⟨tk, HTK⟩ : ∃ t, Aside0 (Ps.tok (Ps.got s) = t) := ⟨_, ⟨rfl⟩⟩
    rw [HTK.out] at hwf
    obtain ⟨ti, se, ro, sz⟩ := tk
    have HTW : Aside0 ((0 ≤ ti ∧ ti < 4294967296) ∧ (0 ≤ se ∧ se < 4294967296) ∧ (0 ≤ sz ∧ sz < 18446744073709551616)) := ⟨hwf⟩
    clear hwf
    clear hfm hgb hm50 hs
    go_wp2_with fail
    refine (Ps.token_ HC2.out HMM.out hc2 HGB.out (by rw [HM50.out]; decide) HTK.out).mono ?_
    rintro e w3 ⟨rfl, hb3⟩
    have HB3 := Aside0.mk (below_then HB2.out HB2.out.size hb3)
    have HX3 := Aside0.mk (HX2.out.below_ hb3)
    have HC3 := Aside0.mk (Kd.C_below HC2.out hb3)
    clear hb3 HX2 HC2 HB2
    go_wp2_with fail
    generalize hWq : World.alloc w3 _ = w4
    have HB4 : Aside0 (Below w.heap.size w w4) := ⟨by rw [← hWq]; exact HB3.out.alloc HB3.out.size _⟩
    have HBD : Aside0 (Below w3.heap.size w3 w4) := ⟨by rw [← hWq]; exact below_alloc (Below.refl _ _) _⟩
    have HK4 : Aside0 (Wk.Blk w4 w3.heap.size 26 (Ps.tkc (ti, se, ro, sz))) := ⟨by rw [← hWq]; exact Wk.Blk.new w3 _ (Ps.tkc (ti, se, ro, sz))⟩
    have HX4 := Aside0.mk (HX3.out.below_ HBD.out)
    have HC4 := Aside0.mk (Kd.C_below HC3.out HBD.out)
    have HP4 := Aside0.mk (HP.out.below_ HB4.out)
    obtain ⟨g8, HG8⟩ : ∃ b, Aside0 (w3.heap.size = b) := ⟨_, ⟨rfl⟩⟩
    rw [HG8.out] at HK4 ⊢
    clear hWq HB3 HX3 HC3 HBD HG8 HP
    obtain ⟨A0, d0, A1, d1, hlo, hc0, hc1, g0, g1⟩ := (HM.out.below HB4.out).looks ti HTW.out.1.1 HTW.out.1.2
    obtain ⟨hwf, hwn⟩ : Ps.TnWf ((Ps.find l ti).getD Ps.zn) ∧ ((Ps.find l ti).isSome = true → Ps.find l ti = some ((Ps.find l ti).getD Ps.zn)) := ⟨Ps.got_wf HW.out ti, fun h => by
      obtain ⟨y, hy⟩ := Option.isSome_iff_exists.1 h
      rw [hy]; rfl⟩
    obtain ⟨fd, HFD⟩ : ∃ b, Aside0 ((Ps.find l ti).isSome = b) := ⟨_, ⟨rfl⟩⟩
    obtain ⟨x, HXX⟩ : ∃ x, Aside0 ((Ps.find l ti).getD Ps.zn = x) := ⟨_, ⟨rfl⟩⟩
    rw [HXX.out] at hlo hc0 hc1 g0 g1 hwf hwn
    rw [HFD.out] at hlo hwn
    have HFN := Aside0.mk hwn
    obtain ⟨i, l0, q, sx, l1⟩ := x
    obtain ⟨_, hm0, hm1, hby⟩ := hwf
    change l0.length ≤ 1000 at hm0
    change l1.length ≤ 1000 at hm1
    simp only [Ps.tnc] at hlo hc0 hc1 g0 g1
    have HG0 := Aside0.mk g0
    have HG1 := Aside0.mk g1
    have HBY : Aside0 (Sh.Bytes l0) := ⟨hby⟩
    obtain ⟨n0, HN0⟩ : ∃ n, Aside0 (l0.length = n) := ⟨_, ⟨rfl⟩⟩
    obtain ⟨n1, HN1⟩ : ∃ n, Aside0 (l1.length = n) := ⟨_, ⟨rfl⟩⟩
    rw [HN0.out] at hm0 hc0 hlo
    rw [HN1.out] at hm1 hc1 hlo
    have HLO := Aside0.mk hlo
    clear g0 g1 hby hlo hwn HXX
    refine wp_region_noPanic ?_
    refine start_ (n := 13) (S := (fun w' => Below w4.heap.size w4 w')) (ds := [11]) #[false, false, false, false, false, false, false, false, false, false, false, false, false] (by kernel_rfl) rfl rfl (Below.refl _ _).drew (fun hHeld => ?_)
    refine pure_ (i := 0) (N := (some 23)) (v := ?_) (a' := ?_) #[true, false, false, false, false, false, false, false, false, false, false, false, false] rfl rfl (by kernel_rfl) (fun _ _ _ h => h) (Or.inl ⟨by rfl, ?_⟩) ?_ ?_
    rotate_left
    · intro w'
      go_simp
      with_reducible rfl
    rotate_left
    · simp only [Act.put, List.setIfInBounds_toArray, List.set_cons_zero, List.set_cons_succ]
      rfl
    refine pure_ (i := 1) (N := (some 24)) (v := ?_) (a' := ?_) #[true, true, false, false, false, false, false, false, false, false, false, false, false] rfl rfl (by kernel_rfl) (fun _ _ _ h => h) (Or.inl ⟨by rfl, ?_⟩) ?_ ?_
    rotate_left
    · intro w'
      go_simp
      with_reducible rfl
    rotate_left
    · simp only [Act.put, List.setIfInBounds_toArray, List.set_cons_zero, List.set_cons_succ]
      rfl
    refine pure_ (i := 2) (N := (some 25)) (v := ?_) (a' := ?_) #[true, true, true, false, false, false, false, false, false, false, false, false, false] rfl rfl (by kernel_rfl) (fun _ _ _ h => h) (Or.inl ⟨by rfl, ?_⟩) ?_ ?_
    rotate_left
    · intro w'
      go_simp
      with_reducible rfl
    rotate_left
    · simp only [Act.put, List.setIfInBounds_toArray, List.set_cons_zero, List.set_cons_succ]
      rfl
    refine take_ (i := 3) (N := (some 26)) (v := ?_) (a' := ?_) #[true, true, true, true, false, false, false, false, false, false, false, false, false] rfl rfl (by kernel_rfl) (fun _ _ _ h => h) (Or.inl ⟨by rfl, ?_⟩) hHeld ?_ ?_
    rotate_left
    · intro w' hS'
      (have c1 := (HP4.out.below_ hS').at_ 0 rfl; go_simp)
      with_reducible rfl
    rotate_left
    · simp only [Act.put, List.setIfInBounds_toArray, List.set_cons_zero, List.set_cons_succ]
      rfl
    refine pure_ (i := 4) (N := (some 27)) (v := ?_) (a' := ?_) #[true, true, true, true, true, false, false, false, false, false, false, false, false] rfl rfl (by kernel_rfl) (fun _ _ _ h => h) (Or.inl ⟨by rfl, ?_⟩) ?_ ?_
    rotate_left
    · intro w'
      go_simp
      with_reducible rfl
    rotate_left
    · simp only [Act.put, List.setIfInBounds_toArray, List.set_cons_zero, List.set_cons_succ]
      rfl
    refine take_ (i := 5) (N := (some 28)) (v := ?_) (a' := ?_) #[true, true, true, true, true, true, false, false, false, false, false, false, false] rfl rfl (by kernel_rfl) (fun _ _ _ h => h) (Or.inl ⟨by rfl, ?_⟩) hHeld ?_ ?_
    rotate_left
    · intro w' hS'
      (have c1 := (HK4.out.below_ hS').at_ 0 rfl; go_simp)
      with_reducible rfl
    rotate_left
    · simp only [Act.put, List.setIfInBounds_toArray, List.set_cons_zero, List.set_cons_succ]
      rfl
    refine take_ (i := 6) (N := (some 29)) (v := ?_) (a' := ?_) #[true, true, true, true, true, true, true, false, false, false, false, false, false] rfl rfl (by kernel_rfl) (fun _ _ _ h => h) (Or.inl ⟨by rfl, ?_⟩) hHeld ?_ ?_
    rotate_left
    · intro w' hS'
      (have c1 := HLO.out w' hS'; go_simp)
      with_reducible rfl
    rotate_left
    · simp only [Act.put, List.setIfInBounds_toArray, List.set_cons_zero, List.set_cons_succ]
      rfl
    refine pure_ (i := 7) (N := (some 22)) (v := ?_) (a' := ?_) #[true, true, true, true, true, true, true, true, false, false, false, false, false] rfl rfl (by kernel_rfl) (fun _ _ _ h => h) (Or.inl ⟨by rfl, ?_⟩) ?_ ?_
    rotate_left
    · intro w'
      go_simp
      with_reducible rfl
    rotate_left
    · simp only [Act.put, List.setIfInBounds_toArray, List.set_cons_zero, List.set_cons_succ]
      rfl
    refine pure_ (i := 8) (N := (some 30)) (v := ?_) (a' := ?_) #[true, true, true, true, true, true, true, true, true, false, false, false, false] rfl rfl (by kernel_rfl) (fun _ _ _ h => h) (Or.inl ⟨by rfl, ?_⟩) ?_ ?_
    rotate_left
    · intro w'
      go_simp
      with_reducible rfl
    rotate_left
    · simp only [Act.put, List.setIfInBounds_toArray, List.set_cons_zero, List.set_cons_succ]
      rfl
    refine pure_ (i := 9) (N := (some 31)) (v := ?_) (a' := ?_) #[true, true, true, true, true, true, true, true, true, true, false, false, false] rfl rfl (by kernel_rfl) (fun _ _ _ h => h) (Or.inl ⟨by rfl, ?_⟩) ?_ ?_
    rotate_left
    · intro w'
      go_simp
      with_reducible rfl
    rotate_left
    · simp only [Act.put, List.setIfInBounds_toArray, List.set_cons_zero, List.set_cons_succ]
      rfl
    refine one_ (i := 10) (N := (some 9)) #[true, true, true, true, true, true, true, true, true, true, true, false, false] rfl rfl (by kernel_rfl) (by decide) (fun K hK => ?_)
    refine value_ (w1 := w4.drew.alloc (.cells Ps.z5.toArray 42)) (v := .pointer (some ⟨w4.drew.heap.size, 0, none⟩)) (by rfl) rfl (by go_simp) ?_
    refine hK.out _ _ (hHeld.alloc hHeld.size _) (fun hHeld => ?_)
    clear hK K
    refine norm_ (a' := ?_) ?_ ?_
    rotate_left
    · show Act.put _ (some 9) _ = _
      simp only [Act.put, List.setIfInBounds_toArray, List.set_cons_zero, List.set_cons_succ]
      rfl
    refine last_ (i := 11) (N := none) #[true, true, true, true, true, true, true, true, true, true, true, true, false] rfl rfl (by kernel_rfl) (by decide) (fun K hK => ?_)
    refine Wk.store_all_step (by rfl) rfl 42 (.tmp 9) (.tmp 30) rfl w4.drew.heap.size (Ps.tv i q sx (.slice A0 n0 d0) (.slice A1 n1 d1)) rfl rfl 42 Ps.z5 (Wk.Blk.new w4.drew 42 Ps.z5) HSZ.out rfl rfl ?_
    intro w5 hX hO
    have HX9 := Aside0.mk hX
    have HO5 := Aside0.mk hO
    clear hX hO
    refine hK.out _ _ ?_
    clear hK K
    refine pure_ (i := 12) (N := (some 10)) (v := ?_) (a' := ?_) #[true, true, true, true, true, true, true, true, true, true, true, true, true] rfl rfl (by kernel_rfl) (fun _ _ _ h => h) (Or.inl ⟨by rfl, ?_⟩) ?_ ?_
    rotate_left
    · intro w'
      go_simp
      with_reducible rfl
    rotate_left
    · simp only [Act.put, List.setIfInBounds_toArray, List.set_cons_zero, List.set_cons_succ]
      rfl
    refine done_ (by kernel_rfl) ?_
    refine NoPanic.normal ?_
    have HF5 := Aside0.mk (Wk.Only.fresh (w := w4.drew) HB4.out.drew HB4.out.size HO5.out)
    have HBD : Aside0 (Below w4.heap.size w4 w5) := ⟨Below.trans (Below.refl _ _).drew HF5.out.2.2⟩
    have HB5 : Aside0 (Below w.heap.size w w5) := ⟨HF5.out.2.1⟩
    have HX5 := Aside0.mk (HX4.out.below_ HBD.out)
    have HK5 := Aside0.mk (HK4.out.below_ HBD.out)
    have HC5 := Aside0.mk (Kd.C_below HC4.out HBD.out)
    have HG05 := Aside0.mk (Kd.C_below HG0.out HBD.out)
    have HG15 := Aside0.mk (Kd.C_below HG1.out HBD.out)
    obtain ⟨g9, HG9⟩ : ∃ b, Aside0 (w4.drew.heap.size = b) := ⟨_, ⟨rfl⟩⟩
    rw [HG9.out] at HX9 ⊢
    clear HBD HF5 HO5 HX4 HK4 HC4 HP4 HB4 HG0 HG1 HLO HG9 hHeld HM
    cases fd with
    | false =>
      go_wp2_with (refine Wk.store_all rfl rfl 26 (.tmp 4) (.tmp 34) rfl w.heap.size Ps.zt4 rfl rfl 26 _ HX5.out HSK.out rfl rfl ?_; intro wz hX hO; have HXZ := Aside0.mk hX; have HOZ := Aside0.mk hO; clear hX hO)
      refine bodyPost_ret (Wk.res_ct rfl _ w.heap.size 26 _ _ rfl HXZ.out Tryd.underlying26 rfl HSK.out) rfl ?_
      refine ⟨?_, Wk.Only.below HB5.out HOZ.out (Nat.le_refl _)⟩
      rw [Ps.check_none HFI.out (by rw [HTK.out]; exact Option.isNone_iff_eq_none.1 (by have := HFD.out; rw [Option.isNone_iff_eq_none]; cases h : Ps.find l ti with | none => rfl | some y => rw [h] at this; cases this))]
      rfl
    | true =>
      have HFS : Aside0 (Ps.check l s = Ps.verdict ⟨i, l0, q, sx, l1⟩ (Ps.got s)) := ⟨Ps.check_some HFI.out (by rw [HTK.out]; exact HFN.out rfl)⟩
      clear HFN HFD
      go_wp2_with fail
      have hcut := Ps.cutTo (A := A2) HMM.out (by rw [HM50.out]; decide) hc2
      obtain ⟨A3, hcutf, hcf⟩ := Ps.cutFrom (A := A2) HMM.out (by rw [HM50.out]; decide) hc2
      have HCF : Aside0 (∀ W : World, Kd.C (Kd.int .u8) W A2 (Ps.got s).length (Ps.got s) → Kd.C (Kd.int .u8) W A3 ((Ps.got s).drop 18).length ((Ps.got s).drop 18)) := ⟨hcf⟩
      clear hcf
      obtain ⟨bd, HBD⟩ : ∃ l, Aside0 ((Ps.got s).take 18 = l) := ⟨_, ⟨rfl⟩⟩
      have HBL : Aside0 (bd.length = 18) := ⟨by rw [← HBD.out, List.length_take, HMM.out, HM50.out]; rfl⟩
      have HBB : Aside0 (Sh.Bytes bd) := ⟨by rw [← HBD.out]; exact fun x hx => HGB.out x (List.mem_of_mem_take hx)⟩
      have HCT : Aside0 (∀ W : World, Kd.C (Kd.int .u8) W A2 (Ps.got s).length (Ps.got s) → Kd.C (Kd.int .u8) W A2 bd.length bd) := ⟨fun W h => by
        rw [← HBD.out]
        exact Kd.C_take h (by rw [HMM.out, HM50.out]; decide)⟩
      obtain ⟨D, HDD⟩ : ∃ D, Aside0 (Sh.u8s (Sh.hm l0 bd) = D) := ⟨_, ⟨rfl⟩⟩
      have HIF := Aside0.mk (Sh.tag_info HDD.out)
      have HOF : Aside0 (∀ (W : World) (b : Nat), Below w5.heap.size w5 W → W.cell? ⟨b, 0, none⟩ = some (.slice A2 18 c2) → Calls Tryd.prog 25 #[.slice A0 n0 d0, .slice (some ⟨b, 0, none⟩) 1 1] W fun e w' => e = .returned (.agg D) ∧ Below W.heap.size W w') := ⟨fun W b hb hc =>
        Sh.of1_ (HK.out.below (below_then HB5.out HB5.out.size hb)) (Kd.C_below HG05.out hb) HN0.out hc0 HBY.out (by omega) (HCT.out W (Kd.C_below HC5.out hb)) HBL.out (by have := HM50.out; omega) HBB.out (by decide) hc HDD.out⟩
      refine wp_region_noPanic ?_
      refine start_ (n := 8) (S := (fun w' => Below w5.heap.size w5 w')) (ds := [7]) #[false, false, false, false, false, false, false, false] (by kernel_rfl) rfl rfl (Below.refl _ _).drew (fun hHeld => ?_)
      refine pure_ (i := 0) (N := (some 35)) (v := ?_) (a' := ?_) #[true, false, false, false, false, false, false, false] rfl rfl (by kernel_rfl) (fun _ _ _ h => h) (Or.inl ⟨by rfl, ?_⟩) ?_ ?_
      rotate_left
      · intro w'
        go_simp
        with_reducible rfl
      rotate_left
      · simp only [Act.put, List.setIfInBounds_toArray, List.set_cons_zero, List.set_cons_succ]
        rfl
      refine take_ (i := 1) (N := (some 36)) (v := ?_) (a' := ?_) #[true, true, false, false, false, false, false, false] rfl rfl (by kernel_rfl) (fun _ _ _ h => h) (Or.inl ⟨by rfl, ?_⟩) hHeld ?_ ?_
      rotate_left
      · intro w' hS'
        (have c1 := (HX9.out.below_ hS').at_ 1 rfl; go_simp)
        with_reducible rfl
      rotate_left
      · simp only [Act.put, List.setIfInBounds_toArray, List.set_cons_zero, List.set_cons_succ]
        rfl
      refine pure_ (i := 2) (N := (some 37)) (v := ?_) (a' := ?_) #[true, true, true, false, false, false, false, false] rfl rfl (by kernel_rfl) (fun _ _ _ h => h) (Or.inl ⟨by rfl, ?_⟩) ?_ ?_
      rotate_left
      · intro w'
        go_simp
        with_reducible rfl
      rotate_left
      · simp only [Act.put, List.setIfInBounds_toArray, List.set_cons_zero, List.set_cons_succ]
        rfl
      refine pure_ (i := 3) (N := (some 38)) (v := ?_) (a' := ?_) #[true, true, true, true, false, false, false, false] rfl rfl (by kernel_rfl) (fun _ _ _ h => h) (Or.inl ⟨by rfl, ?_⟩) ?_ ?_
      rotate_left
      · intro w'
        (have h1 := hcut w'; go_simp)
        with_reducible rfl
      rotate_left
      · simp only [Act.put, List.setIfInBounds_toArray, List.set_cons_zero, List.set_cons_succ]
        rfl
      have HH := Aside0.mk hHeld
      generalize w5.drew = w6 at hHeld HH ⊢
      refine join_ (σ := Nat × Nat) (fuel' := 1) #[true, true, true, true, true, true, true, false] (fun s => [(39, .slice (some ⟨s.1, 0, none⟩) 1 1), (40, .agg D), (11, .pointer (some ⟨s.2, 0, none⟩))]) (fun s w' => Below w6.heap.size w6 w' ∧ w6.heap.size ≤ s.2 ∧ w'.heap[s.2]? = some (.cells (Sh.u8s (List.replicate 32 0)) 59 (0, 0))) ?_ (fun hJ => ?_)
      · rintro ⟨b4, b11⟩ w7 ⟨hB7, hge, hO7⟩
        refine norm_ (a' := ?_) ?_ ?_
        rotate_left
        · show Act.put (Act.put (Act.put _ (some 39) _) (some 40) _) (some 11) _ = _
          simp only [Act.put, List.setIfInBounds_toArray, List.set_cons_zero, List.set_cons_succ]
          rfl
        change w7.heap[b11]? = _ at hO7
        change w6.heap.size ≤ b11 at hge
        refine last_ (i := 7) (N := none) #[true, true, true, true, true, true, true, true] rfl rfl (by kernel_rfl) (by decide) (fun K hK => ?_)
        refine skip_ (w1 := w7.setRow b11 D) (by rfl) rfl (Sh.store_exec rfl rfl rfl hO7 HIF.out.1 HIF.out.2.1 HIF.out.2.2) ?_
        have HD8 : Aside0 ((w7.setRow b11 D).heap[b11]? = some (.cells D 59 (0, 0))) := ⟨setRow_heap _ _ _ _ _ _ hO7⟩
        have HB8 : Aside0 (Below w5.heap.size w5 (w7.setRow b11 D)) := ⟨below_then HH.out HH.out.size (below_setRow hB7 hge D)⟩
        generalize w7.setRow b11 D = w8 at HD8 HB8 ⊢
        refine hK.out _ _ ?_
        clear hK K hO7 hge hB7
        refine done_ (by kernel_rfl) ?_
        refine NoPanic.normal ?_
        have HX8 := Aside0.mk (HX5.out.below_ HB8.out)
        have HK8 := Aside0.mk (HK5.out.below_ HB8.out)
        have HX98 := Aside0.mk (HX9.out.below_ HB8.out)
        have HC8 := Aside0.mk (HCF.out _ (Kd.C_below HC5.out HB8.out))
        have HG18 := Aside0.mk (Kd.C_below HG15.out HB8.out)
        have HB58 := Aside0.mk (below_then HB5.out HB5.out.size HB8.out)
        have HT8 := Aside0.mk (Sh.tag_reads HDD.out HD8.out)
        have hsl := Sh.slice_all32 b11
        clear hHeld hcut
        clear HX5 HK5 HX9 HC5 HG15 HB5 HG05 HOF HCT HH HB8 HD8
        go_wp2_with fail
        refine wp_region_noPanic ?_
        refine start_ (n := 6) (S := (fun w' => Below w8.heap.size w8 w')) (ds := []) #[false, false, false, false, false, false] (by kernel_rfl) rfl rfl (Below.refl _ _).drew (fun hHeld => ?_)
        refine pure_ (i := 0) (N := (some 42)) (v := ?_) (a' := ?_) #[true, false, false, false, false, false] rfl rfl (by kernel_rfl) (fun _ _ _ h => h) (Or.inl ⟨by rfl, ?_⟩) ?_ ?_
        rotate_left
        · intro w'
          (have h1 := hsl w'; go_simp)
          with_reducible rfl
        rotate_left
        · simp only [Act.put, List.setIfInBounds_toArray, List.set_cons_zero, List.set_cons_succ]
          rfl
        refine pure_ (i := 1) (N := (some 43)) (v := ?_) (a' := ?_) #[true, true, false, false, false, false] rfl rfl (by kernel_rfl) (fun _ _ _ h => h) (Or.inl ⟨by rfl, ?_⟩) ?_ ?_
        rotate_left
        · intro w'
          go_simp
          with_reducible rfl
        rotate_left
        · simp only [Act.put, List.setIfInBounds_toArray, List.set_cons_zero, List.set_cons_succ]
          rfl
        refine pure_ (i := 2) (N := (some 44)) (v := ?_) (a' := ?_) #[true, true, true, false, false, false] rfl rfl (by kernel_rfl) (fun _ _ _ h => h) (Or.inl ⟨by rfl, ?_⟩) ?_ ?_
        rotate_left
        · intro w'
          (have h1 := hcutf w'; go_simp)
          with_reducible rfl
        rotate_left
        · simp only [Act.put, List.setIfInBounds_toArray, List.set_cons_zero, List.set_cons_succ]
          rfl
        refine one_ (i := 3) (N := (some 45)) #[true, true, true, true, false, false] rfl rfl (by kernel_rfl) (by decide) (fun K hK => ?_)
        refine call_ 35 #[.slice (some ⟨b11, 0, none⟩) 32 32, .slice A3 (m - 18) (c2 - 18)] (by rfl) rfl (by go_simp) ?_
        obtain ⟨sm, HSM⟩ : ∃ b, Aside0 (decide (Sh.hm l0 bd = (Ps.got s).drop 18) = b) := ⟨_, ⟨rfl⟩⟩
        refine (Ps.same1_ (Kd.C_below HT8.out hHeld) (Ps.hm_len _ _) (Nat.le_refl _) (Kd.C_below HC8.out hHeld) (by rw [List.length_drop, HMM.out]) (by omega) (by decide) (Ps.hm_bytes _ _) (fun x hx => HGB.out x (List.mem_of_mem_drop hx)) HSM.out).mono ?_
        rintro e w9 ⟨rfl, hb9⟩
        have HB9 := Aside0.mk (below_then hHeld hHeld.size hb9)
        clear hb9
        refine ⟨_, rfl, ?_⟩
        refine hK.out _ _ HB9.out (fun hHeld => ?_)
        clear hK K
        refine norm_ (a' := ?_) ?_ ?_
        rotate_left
        · show Act.put _ (some 45) _ = _
          simp only [Act.put, List.setIfInBounds_toArray, List.set_cons_zero, List.set_cons_succ]
          rfl
        refine pure_ (i := 4) (N := (some 46)) (v := ?_) (a' := ?_) #[true, true, true, true, true, false] rfl rfl (by kernel_rfl) (fun _ _ _ h => h) (Or.inl ⟨by rfl, ?_⟩) ?_ ?_
        rotate_left
        · intro w'
          go_simp
          with_reducible rfl
        rotate_left
        · simp only [Act.put, List.setIfInBounds_toArray, List.set_cons_zero, List.set_cons_succ]
          rfl
        refine pure_ (i := 5) (N := (some 41)) (v := ?_) (a' := ?_) #[true, true, true, true, true, true] rfl rfl (by kernel_rfl) (fun _ _ _ h => h) (Or.inl ⟨by rfl, ?_⟩) ?_ ?_
        rotate_left
        · intro w'
          go_simp
          with_reducible rfl
        rotate_left
        · simp only [Act.put, List.setIfInBounds_toArray, List.set_cons_zero, List.set_cons_succ]
          rfl
        refine done_ (by kernel_rfl) ?_
        refine NoPanic.normal ?_
        have HX9 := Aside0.mk (HX8.out.below_ HB9.out)
        have HB59 := Aside0.mk (below_then HB58.out HB58.out.size HB9.out)
        have HG19 := Aside0.mk (Kd.C_below HG18.out HB9.out)
        have HK9 := Aside0.mk (HK8.out.below_ HB9.out)
        have HX99 := Aside0.mk (HX98.out.below_ HB9.out)
        clear HX8 HK8 HX98 HC8 HG18 HB58 HT8 hHeld hsl HB9 hcutf
        cases sm with
        | false =>
          go_wp2_with (refine Wk.store_all rfl rfl 26 (.tmp 4) (.tmp 47) rfl w.heap.size Ps.zt4 rfl rfl 26 _ HX9.out HSK.out rfl rfl ?_; intro wz hX hO; have HXZ := Aside0.mk hX; have HOZ := Aside0.mk hO; clear hX hO)
          refine bodyPost_ret (Wk.res_ct rfl _ w.heap.size 26 _ _ rfl HXZ.out Tryd.underlying26 rfl HSK.out) rfl ?_
          refine ⟨?_, Wk.Only.below HB59.out HOZ.out (Nat.le_refl _)⟩
          rw [HFS.out, Ps.verdict, if_pos (by rw [HBD.out]; exact of_decide_eq_false HSM.out)]
          rfl
        | true =>
          have HV1 : Aside0 (Ps.check l s = if (Ps.tok (Ps.got s)).2.1 ∈ l1 then (Ps.zt, 53) else if (Ps.tok (Ps.got s)).2.2.2 = 0 ∨ (Ps.tok (Ps.got s)).2.2.2 > sx then (Ps.zt, 54) else (Ps.tok (Ps.got s), 0)) := ⟨by
            rw [HFS.out, Ps.verdict, if_neg (by rw [HBD.out]; exact fun h => h (of_decide_eq_true HSM.out))]⟩
          have c1 := HX99.out.at_ 4 rfl
          have c2 := HK9.out.at_ 1 rfl
          go_wp2_with fail
          obtain ⟨cn, HCN⟩ : ∃ b, Aside0 (decide (se ∈ l1) = b) := ⟨_, ⟨rfl⟩⟩
          refine (Ps.cont_ HG19.out HN1.out hc1 (by omega) HCN.out).mono ?_
          rintro e w10 ⟨rfl, hb10⟩
          have HX10 := Aside0.mk (HX9.out.below_ hb10)
          have HB10 := Aside0.mk (below_then HB59.out HB59.out.size hb10)
          have HK10 := Aside0.mk (HK9.out.below_ hb10)
          have HX910 := Aside0.mk (HX99.out.below_ hb10)
          clear HX9 HB59 HK9 HX99 HG19 hb10 c1 c2
          have HV2 : Aside0 (Ps.check l s = if se ∈ l1 then (Ps.zt, 53) else if sz = 0 ∨ sz > sx then (Ps.zt, 54) else ((ti, se, ro, sz), 0)) := ⟨by
            have := HV1.out
            rw [HTK.out] at this
            exact this⟩
          cases cn with
          | true =>
            go_wp2_with (refine Wk.store_all rfl rfl 26 (.tmp 4) (.tmp 54) rfl w.heap.size Ps.zt4 rfl rfl 26 _ HX10.out HSK.out rfl rfl ?_; intro wz hX hO; have HXZ := Aside0.mk hX; have HOZ := Aside0.mk hO; clear hX hO)
            refine bodyPost_ret (Wk.res_ct rfl _ w.heap.size 26 _ _ rfl HXZ.out Tryd.underlying26 rfl HSK.out) rfl ?_
            refine ⟨?_, Wk.Only.below HB10.out HOZ.out (Nat.le_refl _)⟩
            rw [HV2.out, if_pos (of_decide_eq_true HCN.out)]
            rfl
          | false =>
            have HV3 : Aside0 (Ps.check l s = if sz = 0 ∨ sz > sx then (Ps.zt, 54) else ((ti, se, ro, sz), 0)) := ⟨by rw [HV2.out, if_neg (of_decide_eq_false HCN.out)]⟩
            have c3 := HK10.out.at_ 3 rfl
            have c4 := HX910.out.at_ 3 rfl
            by_cases hz : sz = 0
            · have hzb : (sz == 0) = true := by simpa using hz
              go_wp2_with (refine Wk.store_all rfl rfl 26 (.tmp 4) (.tmp 64) rfl w.heap.size Ps.zt4 rfl rfl 26 _ HX10.out HSK.out rfl rfl ?_; intro wz hX hO; have HXZ := Aside0.mk hX; have HOZ := Aside0.mk hO; clear hX hO)
              refine bodyPost_ret (Wk.res_ct rfl _ w.heap.size 26 _ _ rfl HXZ.out Tryd.underlying26 rfl HSK.out) rfl ?_
              refine ⟨?_, Wk.Only.below HB10.out HOZ.out (Nat.le_refl _)⟩
              rw [HV3.out, if_pos (.inl hz)]
              rfl
            · have hzb : (sz == 0) = false := by simpa using hz
              by_cases hx : sz > sx
              · have hxb : sx < sz := hx
                go_wp2_with (refine Wk.store_all rfl rfl 26 (.tmp 4) (.tmp 64) rfl w.heap.size Ps.zt4 rfl rfl 26 _ HX10.out HSK.out rfl rfl ?_; intro wz hX hO; have HXZ := Aside0.mk hX; have HOZ := Aside0.mk hO; clear hX hO)
                refine bodyPost_ret (Wk.res_ct rfl _ w.heap.size 26 _ _ rfl HXZ.out Tryd.underlying26 rfl HSK.out) rfl ?_
                refine ⟨?_, Wk.Only.below HB10.out HOZ.out (Nat.le_refl _)⟩
                rw [HV3.out, if_pos (.inr hx)]
                rfl
              · have hrun : (Instr.loadAt 26 (.pointer (some ⟨g8, 0, none⟩))).run Tryd.prog w10 = .ok (.agg (Ps.tkc (ti, se, ro, sz)).toArray) w10 := Wk.run_load_blk (P := Tryd.prog) 26 g8 0 (Ps.tkc (ti, se, ro, sz)) _ HK10.out rfl Tryd.underlying26 rfl HSK.out
                go_wp2_with (first
                  | refine Wk.load rfl 26 (.tmp 8) rfl _ (.pointer (some ⟨g8, 0, none⟩)) rfl hrun ?_
                  | (refine Wk.store_all rfl rfl 26 (.tmp 4) (.tmp 65) rfl w.heap.size (Ps.tkc (ti, se, ro, sz)) rfl rfl 26 _ HX10.out HSK.out rfl rfl ?_; intro wz hX hO; have HXZ := Aside0.mk hX; have HOZ := Aside0.mk hO; clear hX hO))
                refine bodyPost_ret (Wk.res_ct rfl _ w.heap.size 26 _ _ rfl HXZ.out Tryd.underlying26 rfl HSK.out) rfl ?_
                refine ⟨?_, Wk.Only.below HB10.out HOZ.out (Nat.le_refl _)⟩
                rw [HV3.out, if_neg (fun h => h.elim hz (fun h => by omega))]
                rfl
      · have HHW : Aside0 (Below w6.heap.size w6 w6) := ⟨Below.refl _ _⟩
        refine two_ (i := 4) (j := 6) (Ni := some 39) (Nj := some 11) #[true, true, true, true, true, false, false, false] #[true, true, true, true, false, false, true, false] rfl rfl rfl rfl (by kernel_rfl) (by decide) (by decide) (fun K hK => ?_) (fun K hK => ?_)
        · refine value_ (w1 := w6.alloc (.cells #[.slice A2 18 c2] 22)) (v := .slice (some ⟨w6.heap.size, 0, none⟩) 1 1) (by rfl) rfl (by first | (go_simp; done) | (go_simp; rfl)) ?_
          have hce : (w6.alloc (.cells #[.slice A2 18 c2] 22)).cell? ⟨w6.heap.size, 0, none⟩ = some (.slice A2 18 c2) := Lit.cell_new w6 #[.slice A2 18 c2] 22 (0, 0) 0
          have hbn : Below w6.heap.size w6 (w6.alloc (.cells #[.slice A2 18 c2] 22)) := below_alloc (Below.refl _ _) _
          generalize World.alloc w6 (.cells #[.slice A2 18 c2] 22) = w4_w6 at *
          have HCE := Aside0.mk hce
          have hbt : Below w5.heap.size w5 w4_w6 := below_then hHeld hHeld.size hbn
          have HHN := Aside0.mk (below_then HHW.out HHW.out.size hbn)
          refine hK.out _ _ hbt (fun hHeld => ?_)
          clear hK K hbt hbn hce
          clear HHW; have HHW := HHN; clear HHN
          refine norm_ (a' := ?_) ?_ ?_
          rotate_left
          · show Act.put _ (some 39) _ = _
            simp only [Act.put, List.setIfInBounds_toArray, List.set_cons_zero, List.set_cons_succ]
            rfl
          refine two_ (i := 5) (j := 6) (Ni := some 40) (Nj := some 11) #[true, true, true, true, true, true, false, false] #[true, true, true, true, true, false, true, false] rfl rfl rfl rfl (by kernel_rfl) (by decide) (by decide) (fun K hK => ?_) (fun K hK => ?_)
          · refine call_ 25 #[.slice A0 n0 d0, .slice (some ⟨w6.heap.size, 0, none⟩) 1 1] (by rfl) rfl (by go_simp) ?_
            refine (HOF.out w4_w6 w6.heap.size hHeld HCE.out).mono ?_
            rintro e w5_w4_w6 ⟨rfl, hbn⟩
            refine ⟨_, rfl, ?_⟩
            have hbt : Below w5.heap.size w5 w5_w4_w6 := below_then hHeld hHeld.size hbn
            have HHN := Aside0.mk (below_then HHW.out HHW.out.size hbn)
            have HCE' := Aside0.mk ((hbn.cell (World.block_lt_of_cell? _ _ HCE.out)).trans HCE.out)
            refine hK.out _ _ hbt (fun hHeld => ?_)
            clear hK K hbt hbn
            clear HCE; have HCE := HCE'; clear HCE'
            clear HHW; have HHW := HHN; clear HHN
            refine norm_ (a' := ?_) ?_ ?_
            rotate_left
            · show Act.put _ (some 40) _ = _
              simp only [Act.put, List.setIfInBounds_toArray, List.set_cons_zero, List.set_cons_succ]
              rfl
            refine one_ (i := 6) (N := some 11) #[true, true, true, true, true, true, true, false] rfl rfl (by kernel_rfl) (by decide) (fun K hK => ?_)
            refine value_ (w1 := w5_w4_w6.alloc (.cells (Sh.u8s (List.replicate 32 0)) 59)) (v := .pointer (some ⟨w5_w4_w6.heap.size, 0, none⟩)) (by rfl) rfl (by first | (go_simp; done) | (go_simp; rfl)) ?_
            have hoe : (w5_w4_w6.alloc (.cells (Sh.u8s (List.replicate 32 0)) 59)).heap[w5_w4_w6.heap.size]? = some (.cells (Sh.u8s (List.replicate 32 0)) 59 (0, 0)) := heap_alloc_new w5_w4_w6 _
            have hbn : Below w5_w4_w6.heap.size w5_w4_w6 (w5_w4_w6.alloc (.cells (Sh.u8s (List.replicate 32 0)) 59)) := below_alloc (Below.refl _ _) _
            generalize World.alloc w5_w4_w6 (.cells (Sh.u8s (List.replicate 32 0)) 59) = w6_w5_w4_w6 at *
            have HOE := Aside0.mk hoe
            have hbt : Below w5.heap.size w5 w6_w5_w4_w6 := below_then hHeld hHeld.size hbn
            have HHN := Aside0.mk (below_then HHW.out HHW.out.size hbn)
            have HCE' := Aside0.mk ((hbn.cell (World.block_lt_of_cell? _ _ HCE.out)).trans HCE.out)
            have HGE : Aside0 (w6.heap.size ≤ w5_w4_w6.heap.size) := ⟨HHW.out.size⟩
            refine hK.out _ _ hbt (fun hHeld => ?_)
            clear hK K hbt hbn hoe
            clear HCE; have HCE := HCE'; clear HCE'
            clear HHW; have HHW := HHN; clear HHN
            refine norm_ (a' := ?_) ?_ ?_
            rotate_left
            · show Act.put _ (some 11) _ = _
              simp only [Act.put, List.setIfInBounds_toArray, List.set_cons_zero, List.set_cons_succ]
              rfl
            refine norm_ (a' := putAll _ ((fun s : Nat × Nat => [((39 : Tmp), Value.slice (some ⟨s.1, 0, none⟩) 1 1), (40, Value.agg D), (11, Value.pointer (some ⟨s.2, 0, none⟩))]) (w6.heap.size, w5_w4_w6.heap.size))) ?_ (hJ (w6.heap.size, w5_w4_w6.heap.size) w6_w5_w4_w6 ⟨HHW.out, HGE.out, HOE.out⟩)
            simp only [putAll, Act.put, List.setIfInBounds_toArray, List.set_cons_zero, List.set_cons_succ]
          · refine value_ (w1 := w4_w6.alloc (.cells (Sh.u8s (List.replicate 32 0)) 59)) (v := .pointer (some ⟨w4_w6.heap.size, 0, none⟩)) (by rfl) rfl (by first | (go_simp; done) | (go_simp; rfl)) ?_
            have hoe : (w4_w6.alloc (.cells (Sh.u8s (List.replicate 32 0)) 59)).heap[w4_w6.heap.size]? = some (.cells (Sh.u8s (List.replicate 32 0)) 59 (0, 0)) := heap_alloc_new w4_w6 _
            have hbn : Below w4_w6.heap.size w4_w6 (w4_w6.alloc (.cells (Sh.u8s (List.replicate 32 0)) 59)) := below_alloc (Below.refl _ _) _
            generalize World.alloc w4_w6 (.cells (Sh.u8s (List.replicate 32 0)) 59) = w6_w4_w6 at *
            have HOE := Aside0.mk hoe
            have hbt : Below w5.heap.size w5 w6_w4_w6 := below_then hHeld hHeld.size hbn
            have HHN := Aside0.mk (below_then HHW.out HHW.out.size hbn)
            have HCE' := Aside0.mk ((hbn.cell (World.block_lt_of_cell? _ _ HCE.out)).trans HCE.out)
            have HGE : Aside0 (w6.heap.size ≤ w4_w6.heap.size) := ⟨HHW.out.size⟩
            refine hK.out _ _ hbt (fun hHeld => ?_)
            clear hK K hbt hbn hoe
            clear HCE; have HCE := HCE'; clear HCE'
            clear HHW; have HHW := HHN; clear HHN
            refine norm_ (a' := ?_) ?_ ?_
            rotate_left
            · show Act.put _ (some 11) _ = _
              simp only [Act.put, List.setIfInBounds_toArray, List.set_cons_zero, List.set_cons_succ]
              rfl
            refine one_ (i := 5) (N := some 40) #[true, true, true, true, true, true, true, false] rfl rfl (by kernel_rfl) (by decide) (fun K hK => ?_)
            refine call_ 25 #[.slice A0 n0 d0, .slice (some ⟨w6.heap.size, 0, none⟩) 1 1] (by rfl) rfl (by go_simp) ?_
            refine (HOF.out w6_w4_w6 w6.heap.size hHeld HCE.out).mono ?_
            rintro e w5_w6_w4_w6 ⟨rfl, hbn⟩
            refine ⟨_, rfl, ?_⟩
            have hbt : Below w5.heap.size w5 w5_w6_w4_w6 := below_then hHeld hHeld.size hbn
            have HHN := Aside0.mk (below_then HHW.out HHW.out.size hbn)
            have HCE' := Aside0.mk ((hbn.cell (World.block_lt_of_cell? _ _ HCE.out)).trans HCE.out)
            have HOE' := Aside0.mk ((hbn.block _ (Array.getElem?_eq_some_iff.1 HOE.out).1).trans HOE.out)
            refine hK.out _ _ hbt (fun hHeld => ?_)
            clear hK K hbt hbn
            clear HCE; have HCE := HCE'; clear HCE'
            clear HOE; have HOE := HOE'; clear HOE'
            clear HHW; have HHW := HHN; clear HHN
            refine norm_ (a' := ?_) ?_ ?_
            rotate_left
            · show Act.put _ (some 40) _ = _
              simp only [Act.put, List.setIfInBounds_toArray, List.set_cons_zero, List.set_cons_succ]
              rfl
            refine norm_ (a' := putAll _ ((fun s : Nat × Nat => [((39 : Tmp), Value.slice (some ⟨s.1, 0, none⟩) 1 1), (40, Value.agg D), (11, Value.pointer (some ⟨s.2, 0, none⟩))]) (w6.heap.size, w4_w6.heap.size))) ?_ (hJ (w6.heap.size, w4_w6.heap.size) w5_w6_w4_w6 ⟨HHW.out, HGE.out, HOE.out⟩)
            simp only [putAll, Act.put, List.setIfInBounds_toArray, List.set_cons_zero, List.set_cons_succ]
        · refine value_ (w1 := w6.alloc (.cells (Sh.u8s (List.replicate 32 0)) 59)) (v := .pointer (some ⟨w6.heap.size, 0, none⟩)) (by rfl) rfl (by first | (go_simp; done) | (go_simp; rfl)) ?_
          have hoe : (w6.alloc (.cells (Sh.u8s (List.replicate 32 0)) 59)).heap[w6.heap.size]? = some (.cells (Sh.u8s (List.replicate 32 0)) 59 (0, 0)) := heap_alloc_new w6 _
          have hbn : Below w6.heap.size w6 (w6.alloc (.cells (Sh.u8s (List.replicate 32 0)) 59)) := below_alloc (Below.refl _ _) _
          generalize World.alloc w6 (.cells (Sh.u8s (List.replicate 32 0)) 59) = w6_w6 at *
          have HOE := Aside0.mk hoe
          have hbt : Below w5.heap.size w5 w6_w6 := below_then hHeld hHeld.size hbn
          have HHN := Aside0.mk (below_then HHW.out HHW.out.size hbn)
          have HGE : Aside0 (w6.heap.size ≤ w6.heap.size) := ⟨HHW.out.size⟩
          refine hK.out _ _ hbt (fun hHeld => ?_)
          clear hK K hbt hbn hoe
          clear HHW; have HHW := HHN; clear HHN
          refine norm_ (a' := ?_) ?_ ?_
          rotate_left
          · show Act.put _ (some 11) _ = _
            simp only [Act.put, List.setIfInBounds_toArray, List.set_cons_zero, List.set_cons_succ]
            rfl
          refine one_ (i := 4) (N := some 39) #[true, true, true, true, true, false, true, false] rfl rfl (by kernel_rfl) (by decide) (fun K hK => ?_)
          refine value_ (w1 := w6_w6.alloc (.cells #[.slice A2 18 c2] 22)) (v := .slice (some ⟨w6_w6.heap.size, 0, none⟩) 1 1) (by rfl) rfl (by first | (go_simp; done) | (go_simp; rfl)) ?_
          have hce : (w6_w6.alloc (.cells #[.slice A2 18 c2] 22)).cell? ⟨w6_w6.heap.size, 0, none⟩ = some (.slice A2 18 c2) := Lit.cell_new w6_w6 #[.slice A2 18 c2] 22 (0, 0) 0
          have hbn : Below w6_w6.heap.size w6_w6 (w6_w6.alloc (.cells #[.slice A2 18 c2] 22)) := below_alloc (Below.refl _ _) _
          generalize World.alloc w6_w6 (.cells #[.slice A2 18 c2] 22) = w4_w6_w6 at *
          have HCE := Aside0.mk hce
          have hbt : Below w5.heap.size w5 w4_w6_w6 := below_then hHeld hHeld.size hbn
          have HHN := Aside0.mk (below_then HHW.out HHW.out.size hbn)
          have HOE' := Aside0.mk ((hbn.block _ (Array.getElem?_eq_some_iff.1 HOE.out).1).trans HOE.out)
          refine hK.out _ _ hbt (fun hHeld => ?_)
          clear hK K hbt hbn hce
          clear HOE; have HOE := HOE'; clear HOE'
          clear HHW; have HHW := HHN; clear HHN
          refine norm_ (a' := ?_) ?_ ?_
          rotate_left
          · show Act.put _ (some 39) _ = _
            simp only [Act.put, List.setIfInBounds_toArray, List.set_cons_zero, List.set_cons_succ]
            rfl
          refine one_ (i := 5) (N := some 40) #[true, true, true, true, true, true, true, false] rfl rfl (by kernel_rfl) (by decide) (fun K hK => ?_)
          refine call_ 25 #[.slice A0 n0 d0, .slice (some ⟨w6_w6.heap.size, 0, none⟩) 1 1] (by rfl) rfl (by go_simp) ?_
          refine (HOF.out w4_w6_w6 w6_w6.heap.size hHeld HCE.out).mono ?_
          rintro e w5_w4_w6_w6 ⟨rfl, hbn⟩
          refine ⟨_, rfl, ?_⟩
          have hbt : Below w5.heap.size w5 w5_w4_w6_w6 := below_then hHeld hHeld.size hbn
          have HHN := Aside0.mk (below_then HHW.out HHW.out.size hbn)
          have HCE' := Aside0.mk ((hbn.cell (World.block_lt_of_cell? _ _ HCE.out)).trans HCE.out)
          have HOE' := Aside0.mk ((hbn.block _ (Array.getElem?_eq_some_iff.1 HOE.out).1).trans HOE.out)
          refine hK.out _ _ hbt (fun hHeld => ?_)
          clear hK K hbt hbn
          clear HCE; have HCE := HCE'; clear HCE'
          clear HOE; have HOE := HOE'; clear HOE'
          clear HHW; have HHW := HHN; clear HHN
          refine norm_ (a' := ?_) ?_ ?_
          rotate_left
          · show Act.put _ (some 40) _ = _
            simp only [Act.put, List.setIfInBounds_toArray, List.set_cons_zero, List.set_cons_succ]
            rfl
          refine norm_ (a' := putAll _ ((fun s : Nat × Nat => [((39 : Tmp), Value.slice (some ⟨s.1, 0, none⟩) 1 1), (40, Value.agg D), (11, Value.pointer (some ⟨s.2, 0, none⟩))]) (w6_w6.heap.size, w6.heap.size))) ?_ (hJ (w6_w6.heap.size, w6.heap.size) w5_w4_w6_w6 ⟨HHW.out, HGE.out, HOE.out⟩)
          simp only [putAll, Act.put, List.setIfInBounds_toArray, List.set_cons_zero, List.set_cons_succ]
end Go.Proofs.YtabdnlecpndfjaaDoor
set_option linter.unusedVariables false
set_option linter.unusedSimpArgs false
namespace Go.Proofs.YtabdnlecpndfjaaDoor
open Go.RowKit Go.Proofs.YtabdnlecpndfjaaDoor.PBase Go.Proofs.YtabdnlecpndfjaaDoorW.PrintWords Go.Proofs.YtabdnlecpndfjaaDoorW.PrintLast Go.Proofs.YtabdnlecpndfjaaDoorW.PrintMore
theorem opens_bytes : Opens Tryd.prog 22 (Kd.slice 5 (Kd.int .u8)) (fun xs => xs.length ≤ maxLen ∧ ∀ x ∈ xs, (Lit.int .u8 x).wf = true) := opens_slice Tryd.underlying22 (by kernel_rfl) (opens_int Tryd.underlying5)
theorem opens_nums : Opens Tryd.prog 37 (Kd.slice 23 (Kd.int .u32)) (fun xs => xs.length ≤ maxLen ∧ ∀ x ∈ xs, (Lit.int .u32 x).wf = true) := opens_slice Tryd.underlying37 (by kernel_rfl) (opens_int Tryd.underlying23)
namespace Ps
def TnIn (x : Tn) : Prop := (Lit.int .u32 x.f0).wf = true ∧ (x.f1.length ≤ maxLen ∧ ∀ y ∈ x.f1, (Lit.int .u8 y).wf = true) ∧ (Lit.int .u64 x.f2).wf = true ∧ (Lit.int .u64 x.f3).wf = true ∧ x.f4.length ≤ maxLen ∧ ∀ y ∈ x.f4, (Lit.int .u32 y).wf = true
theorem of32 {k : Int} (h : (Lit.int .u32 k).wf = true) : 0 ≤ k ∧ k < 4294967296 := by
  simp [Lit.wf, IntKind.min, IntKind.max, IntKind.signed, IntKind.bits] at h
  omega
set_option maxRecDepth 100000 in
theorem opens_tenant : Opens Tryd.prog 42 kTn TnIn := by
  intro H enc w base spare held fuel cs x h
  obtain ⟨hl, hf⟩ := struct_fields Tryd.underlying42 h
  obtain ⟨a0, k0, w0⟩ := hf 0 _ rfl (opens_int Tryd.underlying23)
  obtain ⟨a1, k1, w1⟩ := hf 1 _ rfl opens_bytes
  obtain ⟨a2, k2, w2⟩ := hf 2 _ rfl (opens_int Tryd.underlying24)
  obtain ⟨a3, k3, w3⟩ := hf 3 _ rfl (opens_int Tryd.underlying24)
  obtain ⟨a4, k4, w4⟩ := hf 4 _ rfl opens_nums
  have c64 : Tryd.prog.cellsOf 24 = 1 := by kernel_rfl
  have c32 : Tryd.prog.cellsOf 23 = 1 := by kernel_rfl
  have cs0 : Tryd.prog.cellsOf 22 = 1 := by kernel_rfl
  have cs1 : Tryd.prog.cellsOf 37 = 1 := by kernel_rfl
  have c5 : Tryd.prog.cellsOf 42 = 5 := by kernel_rfl
  rw [c5] at hl
  change (Kd.int .u32).K w a0 ((cs.drop 0).take (Tryd.prog.cellsOf 23)) at k0
  rw [c32] at k0
  change (Kd.slice 5 (Kd.int .u8)).K w a1 ((cs.drop 1).take (Tryd.prog.cellsOf 22)) at k1
  rw [cs0] at k1
  change (Kd.int .u64).K w a2 ((cs.drop 2).take (Tryd.prog.cellsOf 24)) at k2
  rw [c64] at k2
  change (Kd.int .u64).K w a3 ((cs.drop 3).take (Tryd.prog.cellsOf 24)) at k3
  rw [c64] at k3
  change (Kd.slice 23 (Kd.int .u32)).K w a4 ((cs.drop 4).take (Tryd.prog.cellsOf 37)) at k4
  rw [cs1] at k4
  refine ⟨⟨a0, a1, a2, a3, a4⟩, ?_, w0, w1, w2, w3, w4⟩
  match cs, hl with
  | [y0, y1, y2, y3, y4], _ => exact pairK k0 (pairK k1 (pairK k2 (pairK k3 k4)))
theorem bytes_of {l : List Int} (h : ∀ x ∈ l, (Lit.int .u8 x).wf = true) : Sh.Bytes l := Sp.bytes_of_wf h
theorem row1 {W : World} {g : Nat} {x : Tn} {A0 A1 : Option Addr} {c0 c1 : Nat} {T : TypeId} (hb : Wk.Blk W g T (tnc x A0 c0 A1 c1)) (l0 : x.f1.length ≤ c0) (g0 : Kd.C (Kd.int .u8) W A0 x.f1.length x.f1) (l1 : x.f4.length ≤ c1) (g1 : Kd.C (Kd.int .u32) W A1 x.f4.length x.f4) : kTn.C W (some ⟨g, 0, none⟩) 1 [x] := by
  refine ⟨rfl, by decide, fun _ => ⟨_, rfl, fun j p hj => ?_⟩⟩
  cases j with
  | zero =>
    obtain rfl : x = p := by simpa using hj
    refine ⟨tnc x A0 c0 A1 c1, rfl, PBase.k42_mk W x l0 g0 l1 g1, fun i u hu => ?_⟩
    have : (⟨g, 0, none⟩ : Addr).add (0 * 5 + i) = ⟨g, i, none⟩ := by rw [Nat.zero_mul, Nat.zero_add, add_plain]
    change W.cell? ((⟨g, 0, none⟩ : Addr).add (0 * 5 + i)) = some u
    rw [this]
    exact hb.at_ i hu
  | succ j => simp at hj
theorem conv1 (w : World) (o : Obj) (b : Value) : (convert 22 22 (.slice (some ⟨w.heap.size + 1, 0, none⟩) 1 1)).run Tryd.prog ((w.alloc o).alloc (.cells #[b] 5)) = .ok (.slice (some ⟨w.heap.size + 1, 0, none⟩) 1 1) ((w.alloc o).alloc (.cells #[b] 5 (1, 2))) := by
  have := Lib.run_convert_bytes_const (P := Tryd.prog) (w.alloc o) 22 5 #[b] 1 1 Tryd.underlying22 Tryd.underlying5
  rw [show (#[b] : Array Value).size = 1 from rfl, show (w.alloc o).heap.size = w.heap.size + 1 by show (w.heap.push _).size = _; simp] at this
  exact this
theorem heap3a (h : Array Obj) (a b c : Obj) : (((h.push a).push b).push c)[h.size]? = some a ∧ (((h.push a).push b).push c)[h.size + 1]? = some b ∧ (((h.push a).push b).push c)[h.size + 1 + 1]? = some c := by
  refine ⟨?_, ?_, ?_⟩
  · rw [Array.getElem?_push_lt (by simp; omega), Array.getElem_push_lt (by simp), Array.getElem_push_eq]
  · rw [Array.getElem?_push_lt (by simp), ← Array.getElem?_eq_getElem]
    have := Array.getElem?_push_size (xs := h.push a) (x := b)
    rwa [Array.size_push] at this
  · have := Array.getElem?_push_size (xs := (h.push a).push b) (x := c)
    rwa [Array.size_push, Array.size_push] at this
theorem heap3 (w : World) (a b c : Obj) : (((w.alloc a).alloc b).alloc c).heap[w.heap.size]? = some a ∧ (((w.alloc a).alloc b).alloc c).heap[w.heap.size + 1]? = some b ∧ (((w.alloc a).alloc b).alloc c).heap[w.heap.size + 1 + 1]? = some c ∧ Below w.heap.size w (((w.alloc a).alloc b).alloc c) :=
  ⟨(heap3a w.heap a b c).1, (heap3a w.heap a b c).2.1, (heap3a w.heap a b c).2.2, below_alloc (below_alloc (below_alloc (Below.refl _ _) _) _) _⟩
theorem iss_size (k : List Int) (t : Tk) : (iss k t).size = 80 := by
  show (ByteArray.mk (Sp.enc (Sp.bitsOf (sealed k t))).toArray).size = 80
  have : (Sp.enc (Sp.bitsOf (sealed k t))).length = 80 := by rw [Sp.enc_length, Sp.bitsOf_length, sealed_len]
  rw [← this]
  exact List.size_toArray
abbrev xk : Tk := (1, 2, false, 3)
abbrev xt : Tn := ⟨1, [108], 0, 5, []⟩
theorem body_k : body xk = [1, 0, 0, 0, 1, 0, 0, 0, 2, 0, 0, 0, 0, 0, 0, 0, 3, 0] := by kernel_rfl
theorem hm_k : Sh.hm [107] [1, 0, 0, 0, 1, 0, 0, 0, 2, 0, 0, 0, 0, 0, 0, 0, 3, 0] = [24, 249, 245, 206, 108, 233, 185, 88, 241, 239, 36, 25, 8, 110, 205, 119, 64, 115, 129, 106, 36, 47, 168, 185, 135, 80, 193, 223, 16, 89, 15, 230] := by kernel_rfl
theorem hm_l : Sh.hm [108] [1, 0, 0, 0, 1, 0, 0, 0, 2, 0, 0, 0, 0, 0, 0, 0, 3, 0] = [80, 160, 238, 212, 173, 232, 82, 25, 187, 107, 222, 108, 37, 116, 40, 180, 38, 103, 34, 211, 99, 60, 155, 229, 253, 22, 147, 197, 12, 83, 32, 25] := by kernel_rfl
theorem xk_wf : TkWf xk := by unfold TkWf; decide
theorem check_iss (l : List Tn) (k : List Int) (t : Tk) (h : TkWf t) : check l (iss k t) = match find l t.1 with | none => (zt, 51) | some x => verdict x (sealed k t) := by
  obtain ⟨h1, h2⟩ := got_iss k t
  unfold check
  rw [if_pos h2, h1, show tok (sealed k t) = t from tok_body t _ h]
  cases find l t.1 <;> rfl
theorem known_check : check [xt] (iss [107] xk) = (zt, 52) := by
  rw [check_iss _ _ _ xk_wf]
  show verdict xt (sealed [107] xk) = _
  unfold verdict
  rw [sealed_take, sealed_drop, body_k, hm_k]
  show (if Sh.hm [108] _ ≠ _ then _ else _) = _
  rw [hm_l, if_pos (by decide)]
end Ps
set_option maxHeartbeats 2000000 in
set_option maxRecDepth 100000 in
theorem known_.calls (w : World) (hk : Sh.Ks w) :
    Calls Tryd.prog 10 #[] w fun e w' => e = .returned (.bool true) ∧ Below w.heap.size w w' := by
  have HK := Aside0.mk hk
  clear hk
  have hcv1 := Ps.conv1 w (.cells #[.int .u32 1, .int .u32 2, .bool false, .int .u64 3] 26) (.int .u8 107)
  go_enter Tryd.func10, Tryd.ntmps10
  go_wp2_with fail
  generalize hWq : World.alloc (World.alloc w _) _ = W1
  have HB1 : Aside0 (Below w.heap.size w W1) := ⟨by rw [← hWq]; exact below_alloc (below_alloc (Below.refl _ _) _) _⟩
  have HX1 : Aside0 (Wk.Blk W1 w.heap.size 26 (Ps.tkc Ps.xk)) := ⟨by rw [← hWq]; exact (Wk.Blk.new w _ (Ps.tkc Ps.xk)).alloc _⟩
  have HC1 : Aside0 (Kd.C (Kd.int .u8) W1 (some ⟨w.heap.size + 1, 0, none⟩) 1 [107]) := ⟨by
    have h2 : W1.heap[w.heap.size + 1]? = some (.cells #[.int .u8 107] 5 (1, 2)) := by
      rw [← hWq]
      have := heap_alloc_new (w.alloc (.cells #[.int .u32 1, .int .u32 2, .bool false, .int .u64 3] 26)) (.cells #[.int .u8 107] 5 (1, 2))
      rwa [show (w.alloc (.cells #[.int .u32 1, .int .u32 2, .bool false, .int .u64 3] 26)).heap.size = w.heap.size + 1 by show (w.heap.push _).size = _; simp] at this
    exact Lit.reads_block h2 .u8 [107] rfl (by decide)⟩
  clear hWq hcv1
  obtain ⟨s1, HS1⟩ : ∃ s, Aside0 (Ps.iss [107] (1, 2, false, 3) = s) := ⟨_, ⟨rfl⟩⟩
  have HSS : Aside0 (s1.size = 80) := ⟨by rw [← HS1.out]; exact Ps.iss_size _ _⟩
  refine (issue_.calls (some ⟨w.heap.size + 1, 0, none⟩) 1 1 [107] 1 2 false 3 W1 (HK.out.below HB1.out) HC1.out rfl (Nat.le_refl _) (fun x hx => by rw [List.mem_singleton.1 hx]; decide) (by decide) Ps.xk_wf).mono ?_
  rintro e w2 ⟨rfl, hb2⟩
  rw [HS1.out]
  have HB2 := Aside0.mk (below_then HB1.out HB1.out.size hb2)
  have HX2 := Aside0.mk (HX1.out.below_ hb2)
  clear hb2 HB1 HX1 HC1
  go_wp2_with fail
  refine (pass_Look.calls 200 s1 1 2 false 3 0 w2 (by
    rw [Ps.look_is s1 (by rw [HSS.out]; decide) 200 (by rw [HSS.out]; decide), ← HS1.out, Ps.look_iss _ _ Ps.xk_wf])).mono ?_
  rintro e w3 ⟨rfl, hb3⟩
  have HB3 := Aside0.mk (below_then HB2.out HB2.out.size hb3)
  have HX3 := Aside0.mk (HX2.out.below_ hb3)
  clear hb3 HB2 HX2
  have hcv2 := Ps.conv1 w3 (.cells #[.int .u32 1, .int .u32 2, .bool false, .int .u64 3] 26) (.int .u8 108)
  go_wp2_with fail
  generalize hWq : World.alloc (World.alloc (World.alloc w3 _) _) _ = W4
  obtain ⟨e0, e1, e2, hb4⟩ : W4.heap[w3.heap.size]? = some (.cells #[.int .u32 1, .int .u32 2, .bool false, .int .u64 3] 26 (0, 0)) ∧ W4.heap[w3.heap.size + 1]? = some (.cells #[.int .u8 108] 5 (1, 2)) ∧ W4.heap[w3.heap.size + 1 + 1]? = some (.cells #[.int .u32 1, .slice (some ⟨w3.heap.size + 1, 0, none⟩) 1 1, .int .u64 0, .int .u64 5, .slice none 0 0] 42 (0, 0)) ∧ Below w3.heap.size w3 W4 := by rw [← hWq]; exact Ps.heap3 w3 _ _ _
  have HB4 := Aside0.mk (below_then HB3.out HB3.out.size hb4)
  have HX4 := Aside0.mk (HX3.out.below_ hb4)
  have HY4 : Aside0 (Wk.Blk W4 w3.heap.size 26 (Ps.tkc Ps.xk)) := ⟨⟨e0⟩⟩
  have HR4 : Aside0 (Ps.kTn.C W4 (some ⟨w3.heap.size + 1 + 1, 0, none⟩) 1 [Ps.xt]) := ⟨Ps.row1 (T := 42) (A0 := some ⟨w3.heap.size + 1, 0, none⟩) (c0 := 1) (A1 := none) (c1 := 0) ⟨e2⟩ (Nat.le_refl _) (Lit.reads_block e1 .u8 [108] rfl (by decide)) (Nat.le_refl _) (Kd.C_nil _ _)⟩
  clear hWq hcv2 e0 e1 e2 hb4 HB3 HX3
  have hxw : ∀ x ∈ [Ps.xt], Ps.TnWf x := fun x hx => by
    rw [List.mem_singleton.1 hx]
    exact ⟨⟨by decide, by decide⟩, by decide, by decide, fun y hy => by rw [List.mem_singleton.1 hy]; decide⟩
  have HXW := Aside0.mk hxw
  clear hxw
  refine (new_pass.calls (some ⟨w3.heap.size + 1 + 1, 0, none⟩) 1 1 [Ps.xt] W4 HR4.out rfl HXW.out).mono ?_
  rintro e w5 ⟨hb5, ⟨h, -⟩ | ⟨-, h, -⟩ | ⟨-, -, p, rfl, hTb⟩⟩
  · exact absurd h (by decide)
  · exact absurd h (by decide)
  have HB5 := Aside0.mk (below_then HB4.out HB4.out.size hb5)
  have HX5 := Aside0.mk (HX4.out.below_ hb5)
  have HY5 := Aside0.mk (HY4.out.below_ hb5)
  have HT5 := Aside0.mk hTb
  clear hTb hb5 HB4 HX4 HY4 HR4
  go_wp2_with fail
  refine (check_.calls p W4.heap.size [Ps.xt] s1 w5 (HK.out.below HB5.out) HT5.out (by rw [HSS.out]; decide) HXW.out).mono ?_
  rintro e w6 ⟨rfl, hb6⟩
  have HCK : Aside0 (Ps.check [Ps.xt] s1 = (Ps.zt, 52)) := ⟨by rw [← HS1.out]; exact Ps.known_check⟩
  rw [HCK.out]
  have HB6 := Aside0.mk (below_then HB5.out HB5.out.size hb6)
  have HX6 := Aside0.mk (HX5.out.below_ hb6)
  have HY6 := Aside0.mk (HY5.out.below_ hb6)
  clear hb6 HB5 HX5 HY5 HT5
  generalize hWq : World.alloc w6 (.cells #[.int .u32 0, .int .u32 0, .bool false, .int .u64 0] 26) = w7
  have hb7 : Below w6.heap.size w6 w7 := by rw [← hWq]; exact below_alloc (Below.refl _ _) _
  have HB7 := Aside0.mk (below_then HB6.out HB6.out.size hb7)
  have x0 := (HX6.out.below_ hb7).at_ 0 rfl
  have x1 := (HX6.out.below_ hb7).at_ 1 rfl
  have x2 := (HX6.out.below_ hb7).at_ 2 rfl
  have x3 := (HX6.out.below_ hb7).at_ 3 rfl
  have y0 := (HY6.out.below_ hb7).at_ 0 rfl
  have y1 := (HY6.out.below_ hb7).at_ 1 rfl
  have y2 := (HY6.out.below_ hb7).at_ 2 rfl
  have y3 := (HY6.out.below_ hb7).at_ 3 rfl
  simp only [Ps.zt]
  rw [← hWq] at x0 x1 x2 x3 y0 y1 y2 y3 HB7
  clear hb7 hWq
  go_wp2_with fail
  go_ret
  exact ⟨rfl, HB7.out⟩
end Go.Proofs.YtabdnlecpndfjaaDoor
namespace Go.Proofs.YtabdnlecpndfjaaDoor
open Go.ChangeShapes Go.WideShapes Go.ChangeAt Go.RowKit
set_option linter.unusedVariables false
theorem own : ownKnob Tryd.prog.godebug = none := by kernel_rfl
theorem laidOut : laidOutB Tryd.prog = true := by kernel_rfl
abbrev keysLaid : List (String × DataW Unit) := [("coaming/sha.keys", Rows.laid_coaming_sha_keys)]
theorem gKeys : Tryd.prog.globalNamed "coaming/sha.keys" = some 0 := by kernel_rfl
theorem tKeys : (Tryd.prog.globals[0]?).map (·.type) = some 108 := by kernel_rfl
theorem door_met (os : Os) (args : Array Value) : laidMetH Tryd.prog keysLaid ((World.doorLaid Tryd.prog 400 os).forCall (fun _ _ => 0) ⟨#[], args, []⟩).memory :=
  laidMetH_of_parts3 (fuel := 8) (laidMet_of_run' 8 (by kernel_rfl) (by kernel_rfl)) (by kernel_rfl) (by kernel_rfl)
theorem laid_at : (Rows.laid_coaming_sha_keys (H := Unit)) = .agg (Sh.keys.map fun k => .lit (.int .u32 k)) := rfl
theorem of_laid {W : World} (h : laidMetH Tryd.prog keysLaid W) : Sh.Ks W := by
  rw [MakeChecks.laidMetH_plain _ _ _ (by kernel_rfl)] at h
  obtain ⟨ps, ⟨g0, t0, cs0, f0, p0, q0, hg0, ht0, hv0, hd0, _, _⟩, _, _⟩ := h
  obtain rfl := Option.some.inj (gKeys.symm.trans hg0)
  obtain rfl := Option.some.inj (tKeys.symm.trans ht0)
  rw [laid_at] at hd0
  obtain ⟨xs, m1, rfl, hx1, hlen, hn3, hel⟩ := DataW.trod_array Tryd.underlying108 hd0
  have c38 : Tryd.prog.cellsOf 23 = 1 := by kernel_rfl
  intro i hi
  have h0 := hel i hi
  rw [c38, Nat.mul_one] at h0
  simp only [Prod.mk.injEq, DataW.agg.injEq] at hx1
  have hix : i < xs.length := by omega
  rw [List.getElem?_eq_getElem hix] at h0
  obtain ⟨k, e1, e2, _⟩ := DataW.trod_int Tryd.underlying23 h0
  have hk : (xs.map (·.1))[i]? = some (.lit (.int .u32 k)) := by rw [List.getElem?_map, List.getElem?_eq_getElem hix, e2]; rfl
  rw [← hx1.1, List.getElem?_map] at hk
  have hki : Sh.keys[i]? = some (Sh.keys.getD i 0) := by
    rw [List.getD_eq_getElem?_getD, List.getElem?_eq_getElem (by exact hi)]; rfl
  rw [hki] at hk
  have hkk : Sh.keys.getD i 0 = k := by simpa using hk
  rw [World.var?_cell hg0 hv0 i, hkk]
  have hc : (cs0.toList.drop i).take 1 = [.int .u32 k] := e1
  have : cs0.toList[i]? = some (.int .u32 k) := by
    have h2 : ((cs0.toList.drop i).take 1)[0]? = some (.int .u32 k) := by rw [hc]; rfl
    rw [List.getElem?_take, if_pos (by decide), List.getElem?_drop, Nat.add_zero] at h2
    exact h2
  simpa using this
def IsRow (k : IntKind) (w : World) (a : Option Addr) (len cap : Nat) (zs : List Int) : Prop :=
  (a = none ∧ len = 0 ∧ cap = 0 ∧ zs = []) ∨
  ∃ x, a = some x ∧ len ≤ cap ∧ cap ≤ maxLen ∧ zs.length = cap ∧ (∀ i, i < zs.length → w.cell? (x.add i) = some (.int k (zs.getD i 0))) ∧ ∀ n ∈ zs, (Lit.int k n).wf = true
open Go.Proofs.YtabdnlecpndfjaaDoorW.PrintWords in
theorem IsRow.reads {W : World} {a : Option Addr} {len cap : Nat} {zs : List Int} (h : IsRow .u8 W a len cap zs) : ∃ l : List Int, l.length = len ∧ l.length ≤ cap ∧ l.length ≤ 9223372036854775807 ∧ Sh.Bytes l ∧ Kd.C (Kd.int .u8) W a l.length l := by
  rcases h with ⟨rfl, rfl, rfl, rfl⟩ | ⟨x, rfl, h1, h2, h3, h4, h5⟩
  · exact ⟨[], rfl, Nat.le_refl _, by simp, (by intro y hy; cases hy), Kd.C_of_reads (d := 0) ⟨rfl, by simp, fun h => absurd h (by simp)⟩⟩
  · have hm : maxLen ≤ 9223372036854775807 := by decide
    have hl : (zs.take len).length = len := by rw [List.length_take]; omega
    refine ⟨zs.take len, hl, by omega, by omega, ?_, ?_⟩
    · intro y hy
      have := h5 y (List.mem_of_mem_take hy)
      simp only [Lit.wf, IntKind.min, IntKind.max, IntKind.signed, IntKind.bits] at this
      simp at this
      omega
    · refine Kd.C_of_reads (d := 0) ⟨rfl, by omega, fun _ => ⟨x, rfl, fun j hj => ?_⟩⟩
      rw [h4 j (by omega)]
      rw [List.getD_eq_getElem?_getD, List.getD_eq_getElem?_getD, List.getElem?_take, if_pos (by omega)]
end Go.Proofs.YtabdnlecpndfjaaDoor
set_option linter.unusedVariables false
set_option linter.unusedSimpArgs false
namespace Go.Proofs.YtabdnlecpndfjaaDoor.Ps
open Go.RowKit Go.Proofs.YtabdnlecpndfjaaDoor.PBase Go.Proofs.YtabdnlecpndfjaaDoorW.PrintWords Go.Proofs.YtabdnlecpndfjaaDoorW.PrintLast Go.Proofs.YtabdnlecpndfjaaDoorW.PrintMore
def Dist (l : List Tn) : Prop := l.Pairwise (fun x y => x.f0 ≠ y.f0)
theorem find_none {l : List Tn} {id : Int} : find l id = none ↔ ∀ x ∈ l, x.f0 ≠ id := by
  unfold find
  rw [List.find?_eq_none]
  constructor
  · intro h x hx he
    exact h x hx (by simpa using he)
  · intro h x hx he
    exact h x hx (by simpa using he)
theorem good_iff : ∀ (l acc : List Tn), good acc l = true ↔ (∀ x ∈ l, 0 < x.f1.length) ∧ (∀ x ∈ l, find acc x.f0 = none) ∧ Dist l
  | [], acc => by simp [good, Dist]
  | x :: xs, acc => by
    rw [good]
    simp only [Bool.and_eq_true, Option.isNone_iff_eq_none, decide_eq_true_eq]
    rw [good_iff xs (acc ++ [x])]
    constructor
    · rintro ⟨⟨h1, h2⟩, h3, h4, h5⟩
      have h4' : ∀ y ∈ xs, y.f0 ≠ x.f0 ∧ find acc y.f0 = none := fun y hy => by
        have := h4 y hy
        rw [find_snoc acc x y.f0 h1] at this
        by_cases h : y.f0 = x.f0
        · rw [if_pos h] at this; cases this
        · rw [if_neg h] at this; exact ⟨h, this⟩
      refine ⟨?_, ?_, ?_⟩
      · intro y hy
        rcases List.mem_cons.1 hy with rfl | hy
        · exact h2
        · exact h3 y hy
      · intro y hy
        rcases List.mem_cons.1 hy with rfl | hy
        · exact h1
        · exact (h4' y hy).2
      · exact List.pairwise_cons.2 ⟨fun y hy he => (h4' y hy).1 he.symm, h5⟩
    · rintro ⟨h1, h2, h3⟩
      obtain ⟨h4, h5⟩ := List.pairwise_cons.1 h3
      have hx := h2 x List.mem_cons_self
      refine ⟨⟨hx, h1 x List.mem_cons_self⟩, fun y hy => h1 y (List.mem_cons_of_mem _ hy), fun y hy => ?_, h5⟩
      rw [find_snoc acc x y.f0 hx, if_neg (fun he => h4 y hy he.symm)]
      exact h2 y (List.mem_cons_of_mem _ hy)
theorem good_dist {l : List Tn} : good [] l = true ↔ (∀ x ∈ l, 0 < x.f1.length) ∧ Dist l := by
  rw [good_iff]
  constructor
  · exact fun h => ⟨h.1, h.2.2⟩
  · exact fun h => ⟨h.1, fun _ _ => rfl, h.2⟩
theorem find_of : ∀ {l : List Tn}, Dist l → ∀ {x : Tn}, x ∈ l → find l x.f0 = some x
  | [], _, x, h => by cases h
  | y :: ys, hd, x, h => by
    obtain ⟨h1, h2⟩ := List.pairwise_cons.1 hd
    unfold find
    rcases List.mem_cons.1 h with rfl | h
    · rw [List.find?_cons_of_pos (by simp)]
    · rw [List.find?_cons_of_neg (by simpa using h1 x h)]
      exact find_of h2 h
theorem verdict_cases (y : Tn) (b : List Int) : verdict y b = (zt, 52) ∨ verdict y b = (zt, 53) ∨ verdict y b = (zt, 54) ∨ verdict y b = (tok b, 0) := by
  unfold verdict
  split
  · exact .inl rfl
  · split
    · exact .inr (.inl rfl)
    · split
      · exact .inr (.inr (.inl rfl))
      · exact .inr (.inr (.inr rfl))
theorem verdict_51 (y : Tn) (b : List Int) : (verdict y b).2 ≠ 51 := by
  rcases verdict_cases y b with h | h | h | h <;> simp [h]
theorem apart {l : List Tn} (h : good [] l = true) {x : Tn} (hx : x ∈ l) (s : ByteArray) :
    ((check [x] s).2 = 51 ∧ ((check l s).2 ≠ 0 ∨ (check l s).1.1 ≠ x.f0)) ∨ ((check [x] s).2 ≠ 51 ∧ check [x] s = check l s) := by
  by_cases hi : is s = true
  · by_cases hid : (tok (got s)).1 = x.f0
    · have h1 : find [x] (tok (got s)).1 = some x := by rw [hid]; exact find_of (List.pairwise_singleton _ _) (List.mem_singleton.2 rfl)
      have h2 : find l (tok (got s)).1 = some x := by rw [hid]; exact find_of (good_dist.1 h).2 hx
      rw [check_some hi h1, check_some hi h2]
      exact .inr ⟨verdict_51 _ _, rfl⟩
    · have h1 : find [x] (tok (got s)).1 = none := find_none.2 fun y hy he => hid (by rw [List.mem_singleton.1 hy] at he; exact he.symm)
      rw [check_none hi h1]
      refine .inl ⟨rfl, ?_⟩
      cases h2 : find l (tok (got s)).1 with
      | none => rw [check_none hi h2]; exact .inl (by decide)
      | some y =>
        rw [check_some hi h2]
        rcases verdict_cases y (got s) with h | h | h | h <;> rw [h]
        · exact .inl (by decide)
        · exact .inl (by decide)
        · exact .inl (by decide)
        · exact .inr hid
  · rw [check_form hi, check_form hi]
    exact .inr ⟨by decide, rfl⟩
def few (l : List Tn) : Bool := decide (l.length ≤ 70 ∧ ∀ x ∈ l, x.f1.length ≤ 200 ∧ x.f4.length ≤ 50)
theorem rdT (l : List Tn) (i : Nat) (hi : i < l.length) : PBase.rd_T42 l (i : Int) = l[i] := by
  unfold PBase.rd_T42
  rw [Int.toNat_natCast, List.getD_eq_getElem?_getD, List.getElem?_eq_getElem hi]
  rfl
theorem ten_l (l : List Tn) (hl : l.length ≤ 70) : ∀ (d i k : Nat), i + d = l.length → d < k → coamingref00_Tenants.l0 k l i = some (decide (∀ x ∈ l.drop i, x.f1.length ≤ 200 ∧ x.f4.length ≤ 50))
  | 0, i, k, hi, hk => by
    obtain ⟨k, rfl⟩ : ∃ m, k = m + 1 := ⟨k - 1, by omega⟩
    rw [coamingref00_Tenants.l0, if_neg (by omega), List.drop_of_length_le (by omega)]
    simp
  | d + 1, i, k, hi, hk => by
    obtain ⟨k, rfl⟩ : ∃ m, k = m + 1 := ⟨k - 1, by omega⟩
    have hlt : i < l.length := by omega
    have e1 : wrap64 ((i : Int) + 1) = ((i + 1 : Nat) : Int) := by unfold wrap64; omega
    rw [coamingref00_Tenants.l0, e1, rdT l i hlt, List.drop_eq_getElem_cons hlt]
    clear e1
    rw [if_pos (by omega), if_pos (by omega)]
    by_cases h1 : (l[i].f1.length : Int) > 200
    · rw [if_pos h1]
      congr 1
      exact (decide_eq_false (fun h => by have := (h _ List.mem_cons_self).1; omega)).symm
    · rw [if_neg h1]
      by_cases h2 : (l[i].f4.length : Int) > 50
      · rw [if_pos h2]
        congr 1
        exact (decide_eq_false (fun h => by have := (h _ List.mem_cons_self).2; omega)).symm
      · rw [if_neg h2, ten_l l hl d (i + 1) k (by omega) (by omega)]
        congr 1
        rw [decide_eq_decide]
        constructor
        · intro h x hx
          rcases List.mem_cons.1 hx with rfl | hx
          · exact ⟨by omega, by omega⟩
          · exact h x hx
        · exact fun h x hx => h x (List.mem_cons_of_mem _ hx)
theorem tenants_is (l : List Tn) (k : Nat) (hk : 100 ≤ k) : coamingref00_Tenants.f k l = some (few l) := by
  unfold coamingref00_Tenants.f few
  by_cases h : (l.length : Int) > 70
  · rw [if_pos h]
    congr 1
    exact (decide_eq_false (fun hh => by have := hh.1; omega)).symm
  · rw [if_neg h, show (0 : Int) = ((0 : Nat) : Int) from rfl, ten_l l (by omega) l.length 0 k (by omega) (by omega), List.drop_zero]
    congr 1
    rw [decide_eq_decide]
    exact ⟨fun hh => ⟨by omega, hh⟩, fun hh => hh.2⟩
theorem tenants_ {A : Option Addr} {n c : Nat} {l : List Tn} {w : World} (h : kTn.C w A l.length l) (hn : l.length = n) (hc : n ≤ c) {b : Bool} (hb : few l = b) :
    Calls Tryd.prog 17 #[.slice A n c] w fun e w' => e = .returned (.bool b) ∧ Below w.heap.size w w' := by
  subst hn; subst hb
  exact (coamingref00_Tenants.calls 100 A c l (few l) w h hc (tenants_is l 100 (Nat.le_refl _))).mono (fun _ _ ⟨a, h⟩ => ⟨a, by obtain ⟨m, hm⟩ := h.out; rw [hm]; exact pw_below_drewN (Below.refl _ _) m⟩)
theorem few_wf {l : List Tn} (h : few l = true) (hw : ∀ x ∈ l, TnIn x) : ∀ x ∈ l, TnWf x := fun x hx => by
  unfold few at h
  rw [decide_eq_true_eq] at h
  obtain ⟨h1, h2⟩ := h.2 x hx
  obtain ⟨a, b, _⟩ := hw x hx
  exact ⟨of32 a, by omega, by omega, bytes_of b.2⟩
end Go.Proofs.YtabdnlecpndfjaaDoor.Ps
set_option linter.unusedVariables false
set_option linter.unusedSimpArgs false
namespace Go.Proofs.YtabdnlecpndfjaaDoor.Ps
open Go.RowKit Go.Proofs.YtabdnlecpndfjaaDoor.PBase Go.Proofs.YtabdnlecpndfjaaDoorW.PrintWords Go.Proofs.YtabdnlecpndfjaaDoorW.PrintLast Go.Proofs.YtabdnlecpndfjaaDoorW.PrintMore
theorem same_l (i : Int) (l0 : List Int) (q s : Int) (l1 : List Int) : ∀ (d n k : Nat), n + d = l1.length → d < k → l1.length ≤ 1000 → coaminglaw05_sameTenant.l0 k n i l0 q s l1 i l0 q s l1 = some true
  | 0, n, k, hn, hk, hl => by
    obtain ⟨k, rfl⟩ : ∃ m, k = m + 1 := ⟨k - 1, by omega⟩
    rw [coaminglaw05_sameTenant.l0, if_neg (by omega)]
  | d + 1, n, k, hn, hk, hl => by
    obtain ⟨k, rfl⟩ : ∃ m, k = m + 1 := ⟨k - 1, by omega⟩
    have e1 : wrap64 ((n : Int) + 1) = ((n + 1 : Nat) : Int) := by unfold wrap64; omega
    rw [coaminglaw05_sameTenant.l0, e1]
    clear e1
    rw [if_pos (by omega), if_pos (by omega), if_pos (by omega), if_pos rfl]
    exact same_l i l0 q s l1 d (n + 1) k (by omega) (by omega) hl
theorem same_is (i : Int) (l0 : List Int) (q s : Int) (l1 : List Int) (hl : l1.length ≤ 1000) : coaminglaw05_sameTenant.f 2000 i l0 q s l1 i l0 q s l1 = some true := by
  unfold coaminglaw05_sameTenant.f
  rw [if_pos rfl, if_pos rfl, if_pos rfl, if_pos rfl, coaminglaw05_sameTenant.j0, if_neg (by simp)]
  exact same_l i l0 q s l1 l1.length 0 1999 (by omega) (by omega) hl
theorem alike_ {i q s : Int} {l0 l1 : List Int} {A0 A1 B0 B1 : Option Addr} {n0 n1 c0 c1 d0 d1 : Nat} {w : World} (hl : n1 ≤ 1000) (hn0 : l0.length = n0) (hn1 : l1.length = n1) (h0 : Kd.C (Kd.int .u8) w A0 l0.length l0) (e0 : n0 ≤ c0) (h1 : Kd.C (Kd.int .u32) w A1 l1.length l1) (e1 : n1 ≤ c1)
    (g0 : Kd.C (Kd.int .u8) w B0 l0.length l0) (f0 : n0 ≤ d0) (g1 : Kd.C (Kd.int .u32) w B1 l1.length l1) (f1 : n1 ≤ d1) :
    Calls Tryd.prog 23 #[.agg #[.int .u32 i, .slice A0 n0 c0, .int .u64 q, .int .u64 s, .slice A1 n1 c1], .agg #[.int .u32 i, .slice B0 n0 d0, .int .u64 q, .int .u64 s, .slice B1 n1 d1]] w fun e w' => e = .returned (.bool true) ∧ Below w.heap.size w w' := by
  subst hn0; subst hn1
  exact coaminglaw05_sameTenant.calls 2000 i A0 c0 l0 q s A1 c1 l1 i B0 d0 l0 q s B1 d1 l1 true w h0 e0 h1 e1 g0 f0 g1 f1 (same_is i l0 q s l1 hl)
theorem good_snoc : ∀ (l acc : List Tn) (x : Tn), good acc (l ++ [x]) = (good acc l && ((find (acc ++ l) x.f0).isNone && decide (0 < x.f1.length)))
  | [], acc, x => by rw [List.nil_append, good, good, good, List.append_nil]; simp
  | y :: l, acc, x => by
    rw [List.cons_append, good, good_snoc l (acc ++ [y]) x, good, List.append_assoc]
    simp only [List.singleton_append, Bool.and_assoc]
theorem find_any (l : List Tn) (id : Int) : (find l id).isNone = !(l.any fun y => id == y.f0) := by
  cases h : find l id with
  | none =>
    have h1 := find_none.1 h
    have : (l.any fun y => id == y.f0) = false := by
      rw [List.any_eq_false]
      intro x hx he
      exact h1 x hx (by have := eq_of_beq he; exact this.symm)
    rw [this]; rfl
  | some x =>
    obtain ⟨h1, h2⟩ := find_mem h
    have : (l.any fun y => id == y.f0) = true := List.any_eq_true.2 ⟨x, h1, by rw [h2]; simp⟩
    rw [this]; rfl
theorem bad_next (l : List Tn) (x : Tn) : ((!(good [] l) || decide (x.f1.length = 0)) || l.any fun y => x.f0 == y.f0) = !(good [] (l ++ [x])) := by
  rw [good_snoc, List.nil_append, find_any]
  have e : decide (0 < x.f1.length) = !decide (x.f1.length = 0) := by
    rcases Nat.eq_zero_or_pos x.f1.length with h | h
    · rw [h]; rfl
    · rw [decide_eq_true h, decide_eq_false (by omega)]; rfl
  rw [e]
  cases good [] l <;> cases decide (x.f1.length = 0) <;> cases (l.any fun y => x.f0 == y.f0) <;> rfl
theorem row_cells {W : World} {A : Option Addr} {n : Nat} {xs : List Tn} (h : kTn.C W A n xs) (hn : xs.length = n) (k : Nat) (hk : k < xs.length) : ∃ ad A0 c0 A1 c1, A = some ad ∧ xs[k].f1.length ≤ c0 ∧ xs[k].f4.length ≤ c1 ∧ Kd.C (Kd.int .u8) W A0 xs[k].f1.length xs[k].f1 ∧ Kd.C (Kd.int .u32) W A1 xs[k].f4.length xs[k].f4 ∧
    ∀ w', Below W.heap.size W w' → (Instr.loadAt 42 (.pointer (some (ad.add (k * 5))))).run Tryd.prog w' = .ok (.agg (tnc xs[k] A0 c0 A1 c1).toArray) w' ∧ w'.cell? (ad.add (k * 5)) = some (.int .u32 xs[k].f0) ∧ w'.cell? ⟨(ad.add (k * 5)).block, (ad.add (k * 5)).off + 1, none⟩ = some (.slice A0 xs[k].f1.length c0) := by
  obtain ⟨ad, A0, c0, A1, c1, hA, hl, hc, l0, l1, g0, g1⟩ := row_get h k hk hn
  refine ⟨ad, A0, c0, A1, c1, hA, l0, l1, g0, g1, fun w' hb => ⟨hl w' hb, ?_, ?_⟩⟩
  · have := hc 0 _ rfl
    exact (hb.cell (World.block_lt_of_cell? W _ this)).trans this
  · have := hc 1 _ rfl
    rw [add_field _ _ 1 (by omega)] at this
    exact (hb.cell (World.block_lt_of_cell? W _ this)).trans this
end Go.Proofs.YtabdnlecpndfjaaDoor.Ps
set_option linter.unusedVariables false
set_option linter.unusedSimpArgs false
namespace Go.Proofs.YtabdnlecpndfjaaDoor
open Go.RowKit Go.Proofs.YtabdnlecpndfjaaDoor.PBase Go.Proofs.YtabdnlecpndfjaaDoorW.PrintWords Go.Proofs.YtabdnlecpndfjaaDoorW.PrintLast Go.Proofs.YtabdnlecpndfjaaDoorW.PrintMore
set_option maxHeartbeats 4000000 in
set_option maxRecDepth 100000 in
theorem passNew_.calls (x0 : List Ps.Tn) (v0 : Value) (W : World) (hk : Sh.Ks W) (hK0 : (Kd.slice 42 Ps.kTn).K W x0 [v0]) (hw0 : x0.length ≤ maxLen ∧ ∀ x ∈ x0, Ps.TnIn x) :
    Calls Tryd.prog 9 #[v0] W fun e w' => e = .returned (.bool true) ∧ Below W.heap.size W w' := by
  obtain ⟨A0, c0, he0, hlc, hC⟩ := hK0
  obtain rfl : v0 = .slice A0 x0.length c0 := by simpa using he0
  have HK := Aside0.mk hk
  have HC := Aside0.mk hC
  have HI := Aside0.mk hw0.2
  obtain ⟨n, HN⟩ : ∃ n, Aside0 (x0.length = n) := ⟨_, ⟨rfl⟩⟩
  rw [HN.out] at hlc ⊢
  have HLC := Aside0.mk hlc
  clear hw0 hC he0 hk hlc
  obtain ⟨fw, HFW⟩ : ∃ b, Aside0 (Ps.few x0 = b) := ⟨_, ⟨rfl⟩⟩
  go_enter Tryd.func9, Tryd.ntmps9
  go_wp2_with fail
  refine (Ps.tenants_ HC.out HN.out HLC.out HFW.out).mono ?_
  rintro e w1 ⟨rfl, hb1⟩
  have HB1 := Aside0.mk hb1
  clear hb1
  cases fw with
  | false =>
    go_wp2_with fail
    refine (known_.calls _ (HK.out.below HB1.out)).mono ?_
    rintro e w2 ⟨rfl, hb2⟩
    have HB2 := Aside0.mk (below_then HB1.out HB1.out.size hb2)
    clear hb2
    go_wp2_with fail
    go_ret
    exact ⟨rfl, HB2.out⟩
  | true =>
  have HTW := Aside0.mk (Ps.few_wf HFW.out HI.out)
  have hn70 : n ≤ 70 := by
    have h := HFW.out
    unfold Ps.few at h
    rw [decide_eq_true_eq] at h
    rw [← HN.out]
    exact h.1
  have HLN := Aside0.mk hn70
  clear HI HFW hn70
  go_wp2_with fail
  refine (known_.calls _ (HK.out.below HB1.out)).mono ?_
  rintro e w2 ⟨rfl, hb2⟩
  have HB2 := Aside0.mk (below_then HB1.out HB1.out.size hb2)
  clear hb2 HB1
  go_wp2_with fail
  refine (new_pass.calls A0 n c0 x0 w2 (Kd.C_below HC.out HB2.out) HN.out HTW.out).mono ?_
  intro e w3 hpost
  obtain ⟨tv, er, rfl, hb3, hcase⟩ : ∃ (tv : Value) (er : Int), e = .returned (.tuple #[tv, .int .u16 er]) ∧ Below w2.heap.size w2 w3 ∧ ((64 < n ∧ tv = .pointer none ∧ er = 3) ∨ (n ≤ 64 ∧ Ps.good [] x0 = false ∧ tv = .pointer none ∧ er = 1) ∨ (n ≤ 64 ∧ Ps.good [] x0 = true ∧ er = 0 ∧ ∃ p, tv = .pointer (some ⟨p, 0, none⟩) ∧ Ps.Tb w3 w2.heap.size p x0)) := by
    obtain ⟨hb, ⟨h, rfl⟩ | ⟨h, hg, rfl⟩ | ⟨h, hg, p, rfl, ht⟩⟩ := hpost
    · exact ⟨_, _, rfl, hb, .inl ⟨h, rfl, rfl⟩⟩
    · exact ⟨_, _, rfl, hb, .inr (.inl ⟨h, hg, rfl, rfl⟩)⟩
    · exact ⟨_, _, rfl, hb, .inr (.inr ⟨h, hg, rfl, p, rfl, ht⟩)⟩
  have HB3 := Aside0.mk (below_then HB2.out HB2.out.size hb3)
  clear hpost hb3
  by_cases h64 : 64 < n
  · obtain ⟨rfl, rfl⟩ : tv = .pointer none ∧ er = 3 := by
      rcases hcase with ⟨_, h1, h2⟩ | ⟨h, _⟩ | ⟨h, _⟩
      · exact ⟨h1, h2⟩
      · omega
      · omega
    have h64I : (64 : Int) < n := by omega
    clear hcase
    go_wp2_with fail
    go_ret
    exact ⟨rfl, HB3.out⟩
  · have h64I : ¬ (64 : Int) < n := by omega
    have HCS := Aside0.mk hcase
    clear hcase
    go_wp2_with fail
    have H0 : Aside0 ((!(Ps.good [] (x0.take 0))) = false) := ⟨rfl⟩
    go_loopw [6, 7] (fun v6 v7 wr => ∃ (k : Nat) (bv : Bool), v7 = .int .i64 k ∧ v6 = .bool bv ∧ k ≤ n ∧ Aside0 ((!(Ps.good [] (x0.take k))) = bv) ∧ Aside0 (Below w3.heap.size w3 wr)) (fun _ v _ => n - (intOf v).toNat)
    case atStart => exact ⟨0, false, rfl, rfl, Nat.zero_le _, H0, ⟨Below.refl _ _⟩⟩
    case round =>
      clear H0
      obtain ⟨k, bv, rfl, rfl, hk, HBV, HBR⟩ := hrel
      by_cases hlt : k < n
      · have hltI : (k : Int) < n := by omega
        have hki : k < x0.length := by rw [HN.out]; exact hlt
        obtain ⟨ad, B0, d0, B1, d1, hA, hl0, hl1, -, -, hrow⟩ := Ps.row_cells HC.out rfl k hki
        subst hA
        have HTK := Aside0.mk (List.take_succ_eq_append_getElem hki)
        have hxm := List.getElem_mem hki
        obtain ⟨x, HXK⟩ : ∃ x, Aside0 (x0[k] = x) := ⟨_, ⟨rfl⟩⟩
        rw [HXK.out] at hrow hl0 hl1 HTK hxm
        obtain ⟨id, HID⟩ : ∃ i, Aside0 (x.f0 = i) := ⟨_, ⟨rfl⟩⟩
        obtain ⟨kl, HKL⟩ : ∃ i, Aside0 (x.f1.length = i) := ⟨_, ⟨rfl⟩⟩
        have hkl : kl ≤ 1000 := by rw [← HKL.out]; exact (HTW.out x hxm).2.1
        rw [HKL.out, HID.out] at hrow
        have HROW : Aside0 (∀ w', Below w3.heap.size w3 w' → w'.cell? (ad.add (k * 5)) = some (.int .u32 id) ∧ w'.cell? ⟨(ad.add (k * 5)).block, (ad.add (k * 5)).off + 1, none⟩ = some (.slice B0 kl d0)) := ⟨fun w' hb => (hrow w' (below_then HB3.out HB3.out.size hb)).2⟩
        clear hrow hl0 hl1 hxm HXK
        have cc1 := (HROW.out wr HBR.out).2
        obtain ⟨b1, HB1⟩ : ∃ b, Aside0 ((bv || decide (x.f1.length = 0)) = b) := ⟨_, ⟨rfl⟩⟩
        have HE1 : Aside0 ((bv = true → b1 = true) ∧ (bv = false → ((kl : Int) == 0) = b1)) := ⟨by
          rw [← HB1.out, HKL.out]
          refine ⟨fun h => by rw [h]; rfl, fun h => ?_⟩
          rw [h, Bool.false_or, Bool.eq_iff_iff]
          simp⟩
        clear hkl
        have hk70 : (k : Int) < 70 := by have := HLN.out; omega
        cases bv with
        | true =>
          have hb1 := HE1.out.1 rfl
          subst hb1
          go_wp2_with fail
          clear cc1
          obtain ⟨wq, rfl⟩ : ∃ q : World, q = wr := ⟨_, rfl⟩
          have HI0 : Aside0 ((true || (x0.take 0).any (fun y => x.f0 == y.f0)) = true) := ⟨by simp⟩
          go_loopw [6, 8] (fun v6 v8 wr => ∃ (j : Nat) (cv : Bool), v8 = .int .i64 j ∧ v6 = .bool cv ∧ j ≤ k ∧ Aside0 ((true || (x0.take j).any (fun y => x.f0 == y.f0)) = cv) ∧ Aside0 (Below w3.heap.size w3 wr)) (fun _ v _ => k - (intOf v).toNat)
          case atStart => exact ⟨0, true, rfl, rfl, Nat.zero_le _, HI0, HBR⟩
          case round =>
            clear HI0 HBR
            obtain ⟨j, cv, rfl, rfl, hj, HCV, HBR⟩ := hrel
            by_cases hjk : j < k
            · have hjkI : (j : Int) < k := by omega
              have hjnI : (j : Int) < n := by omega
              have hji : j < x0.length := by rw [HN.out]; omega
              obtain ⟨ad', _, _, _, _, hA', _, _, _, _, hrow'⟩ := Ps.row_cells HC.out rfl j hji
              obtain rfl : ad = ad' := Option.some.inj hA'
              have HTJ := Aside0.mk (List.take_succ_eq_append_getElem hji)
              obtain ⟨jd, HJD⟩ : ∃ i, Aside0 (x0[j].f0 = i) := ⟨_, ⟨rfl⟩⟩
              rw [HJD.out] at hrow'
              have HROJ : Aside0 (∀ w', Below w3.heap.size w3 w' → w'.cell? (ad.add (j * 5)) = some (.int .u32 jd)) := ⟨fun w' hb => (hrow' w' (below_then HB3.out HB3.out.size hb)).2.1⟩
              have HNX : Aside0 (((true || (x0.take (j + 1)).any (fun y => x.f0 == y.f0)) = (cv || (id == jd)))) := ⟨by
                rw [HTJ.out, List.any_append, ← Bool.or_assoc, HCV.out, ← HID.out, ← HJD.out]
                simp⟩
              clear hrow' hA' HTJ HJD
              cases cv with
              | true =>
                go_wp2_with fail
                refine wp_region_noPanic ?_
                refine start_ (n := 15) (S := (fun w' => Below wr.heap.size wr w')) (ds := []) #[false, false, false, false, false, false, false, false, false, false, false, false, false, false, false] (by kernel_rfl) rfl rfl (Below.refl _ _).drew (fun hHeld => ?_)
                refine pure_ (i := 0) (N := (some 56)) (v := ?_) (a' := ?_) #[true, false, false, false, false, false, false, false, false, false, false, false, false, false, false] rfl rfl (by kernel_rfl) (fun _ _ _ h => h) (Or.inl ⟨by rfl, ?_⟩) ?_ ?_
                rotate_left
                · intro w'
                  go_simp
                  first | done | with_reducible rfl
                rotate_left
                · simp only [Act.put, List.setIfInBounds_toArray, List.set_cons_zero, List.set_cons_succ]
                  rfl
                refine pure_ (i := 1) (N := (some 57)) (v := ?_) (a' := ?_) #[true, true, false, false, false, false, false, false, false, false, false, false, false, false, false] rfl rfl (by kernel_rfl) (fun _ _ _ h => h) (Or.inl ⟨by rfl, ?_⟩) ?_ ?_
                rotate_left
                · intro w'
                  go_simp
                  first | done | with_reducible rfl
                rotate_left
                · simp only [Act.put, List.setIfInBounds_toArray, List.set_cons_zero, List.set_cons_succ]
                  rfl
                refine pure_ (i := 2) (N := (some 58)) (v := undef) (a' := ?_) #[true, true, true, false, false, false, false, false, false, false, false, false, false, false, false] rfl rfl (by kernel_rfl) (fun _ _ _ h => h) (Or.inr ⟨by rfl, rfl⟩) ?_ ?_
                rotate_left
                · simp only [Act.put, List.setIfInBounds_toArray, List.set_cons_zero, List.set_cons_succ]
                  rfl
                refine pure_ (i := 3) (N := (some 59)) (v := undef) (a' := ?_) #[true, true, true, true, false, false, false, false, false, false, false, false, false, false, false] rfl rfl (by kernel_rfl) (fun _ _ _ h => h) (Or.inr ⟨by rfl, rfl⟩) ?_ ?_
                rotate_left
                · simp only [Act.put, List.setIfInBounds_toArray, List.set_cons_zero, List.set_cons_succ]
                  rfl
                refine pure_ (i := 4) (N := (some 60)) (v := undef) (a' := ?_) #[true, true, true, true, true, false, false, false, false, false, false, false, false, false, false] rfl rfl (by kernel_rfl) (fun _ _ _ h => h) (Or.inr ⟨by rfl, rfl⟩) ?_ ?_
                rotate_left
                · simp only [Act.put, List.setIfInBounds_toArray, List.set_cons_zero, List.set_cons_succ]
                  rfl
                refine pure_ (i := 5) (N := (some 61)) (v := undef) (a' := ?_) #[true, true, true, true, true, true, false, false, false, false, false, false, false, false, false] rfl rfl (by kernel_rfl) (fun _ _ _ h => h) (Or.inr ⟨by rfl, rfl⟩) ?_ ?_
                rotate_left
                · simp only [Act.put, List.setIfInBounds_toArray, List.set_cons_zero, List.set_cons_succ]
                  rfl
                refine pure_ (i := 6) (N := (some 62)) (v := undef) (a' := ?_) #[true, true, true, true, true, true, true, false, false, false, false, false, false, false, false] rfl rfl (by kernel_rfl) (fun _ _ _ h => h) (Or.inr ⟨by rfl, rfl⟩) ?_ ?_
                rotate_left
                · simp only [Act.put, List.setIfInBounds_toArray, List.set_cons_zero, List.set_cons_succ]
                  rfl
                refine pure_ (i := 7) (N := (some 63)) (v := undef) (a' := ?_) #[true, true, true, true, true, true, true, true, false, false, false, false, false, false, false] rfl rfl (by kernel_rfl) (fun _ _ _ h => h) (Or.inr ⟨by rfl, rfl⟩) ?_ ?_
                rotate_left
                · simp only [Act.put, List.setIfInBounds_toArray, List.set_cons_zero, List.set_cons_succ]
                  rfl
                refine pure_ (i := 8) (N := (some 64)) (v := undef) (a' := ?_) #[true, true, true, true, true, true, true, true, true, false, false, false, false, false, false] rfl rfl (by kernel_rfl) (fun _ _ _ h => h) (Or.inr ⟨by rfl, rfl⟩) ?_ ?_
                rotate_left
                · simp only [Act.put, List.setIfInBounds_toArray, List.set_cons_zero, List.set_cons_succ]
                  rfl
                refine pure_ (i := 9) (N := (some 65)) (v := undef) (a' := ?_) #[true, true, true, true, true, true, true, true, true, true, false, false, false, false, false] rfl rfl (by kernel_rfl) (fun _ _ _ h => h) (Or.inr ⟨by rfl, rfl⟩) ?_ ?_
                rotate_left
                · simp only [Act.put, List.setIfInBounds_toArray, List.set_cons_zero, List.set_cons_succ]
                  rfl
                refine pure_ (i := 10) (N := (some 66)) (v := undef) (a' := ?_) #[true, true, true, true, true, true, true, true, true, true, true, false, false, false, false] rfl rfl (by kernel_rfl) (fun _ _ _ h => h) (Or.inr ⟨by rfl, rfl⟩) ?_ ?_
                rotate_left
                · simp only [Act.put, List.setIfInBounds_toArray, List.set_cons_zero, List.set_cons_succ]
                  rfl
                refine pure_ (i := 11) (N := (some 67)) (v := undef) (a' := ?_) #[true, true, true, true, true, true, true, true, true, true, true, true, false, false, false] rfl rfl (by kernel_rfl) (fun _ _ _ h => h) (Or.inr ⟨by rfl, rfl⟩) ?_ ?_
                rotate_left
                · simp only [Act.put, List.setIfInBounds_toArray, List.set_cons_zero, List.set_cons_succ]
                  rfl
                refine pure_ (i := 12) (N := (some 68)) (v := undef) (a' := ?_) #[true, true, true, true, true, true, true, true, true, true, true, true, true, false, false] rfl rfl (by kernel_rfl) (fun _ _ _ h => h) (Or.inr ⟨by rfl, rfl⟩) ?_ ?_
                rotate_left
                · simp only [Act.put, List.setIfInBounds_toArray, List.set_cons_zero, List.set_cons_succ]
                  rfl
                refine pure_ (i := 13) (N := (some 69)) (v := ?_) (a' := ?_) #[true, true, true, true, true, true, true, true, true, true, true, true, true, true, false] rfl rfl (by kernel_rfl) (fun _ _ _ h => h) (Or.inl ⟨by rfl, ?_⟩) ?_ ?_
                rotate_left
                · intro w'
                  go_simp
                  first | done | with_reducible rfl
                rotate_left
                · simp only [Act.put, List.setIfInBounds_toArray, List.set_cons_zero, List.set_cons_succ]
                  rfl
                refine pure_ (i := 14) (N := (some 6)) (v := ?_) (a' := ?_) #[true, true, true, true, true, true, true, true, true, true, true, true, true, true, true] rfl rfl (by kernel_rfl) (fun _ _ _ h => h) (Or.inl ⟨by rfl, ?_⟩) ?_ ?_
                rotate_left
                · intro w'
                  go_simp
                  first | done | with_reducible rfl
                rotate_left
                · simp only [Act.put, List.setIfInBounds_toArray, List.set_cons_zero, List.set_cons_succ]
                  rfl
                refine done_ (by kernel_rfl) ?_
                refine NoPanic.normal ?_
                go_wp2_with fail
                refine ⟨⟨j + 1, true, by simp, rfl, by omega, ⟨by rw [HNX.out]; rfl⟩, ⟨HBR.out.drew⟩⟩, by simp [intOf]; omega⟩
              | false =>
                go_wp2_with fail
                refine wp_region_noPanic ?_
                refine start_ (n := 15) (S := (fun w' => Below wr.heap.size wr w')) (ds := []) #[false, false, false, false, false, false, false, false, false, false, false, false, false, false, false] (by kernel_rfl) rfl rfl (Below.refl _ _).drew (fun hHeld => ?_)
                refine pure_ (i := 0) (N := (some 56)) (v := ?_) (a' := ?_) #[true, false, false, false, false, false, false, false, false, false, false, false, false, false, false] rfl rfl (by kernel_rfl) (fun _ _ _ h => h) (Or.inl ⟨by rfl, ?_⟩) ?_ ?_
                rotate_left
                · intro w'
                  go_simp
                  first | done | with_reducible rfl
                rotate_left
                · simp only [Act.put, List.setIfInBounds_toArray, List.set_cons_zero, List.set_cons_succ]
                  rfl
                refine pure_ (i := 1) (N := (some 57)) (v := ?_) (a' := ?_) #[true, true, false, false, false, false, false, false, false, false, false, false, false, false, false] rfl rfl (by kernel_rfl) (fun _ _ _ h => h) (Or.inl ⟨by rfl, ?_⟩) ?_ ?_
                rotate_left
                · intro w'
                  go_simp
                  first | done | with_reducible rfl
                rotate_left
                · simp only [Act.put, List.setIfInBounds_toArray, List.set_cons_zero, List.set_cons_succ]
                  rfl
                refine pure_ (i := 2) (N := (some 58)) (v := ?_) (a' := ?_) #[true, true, true, false, false, false, false, false, false, false, false, false, false, false, false] rfl rfl (by kernel_rfl) (fun _ _ _ h => h) (Or.inl ⟨by rfl, ?_⟩) ?_ ?_
                rotate_left
                · intro w'
                  go_simp
                  first | done | with_reducible rfl
                rotate_left
                · simp only [Act.put, List.setIfInBounds_toArray, List.set_cons_zero, List.set_cons_succ]
                  rfl
                refine pure_ (i := 3) (N := (some 59)) (v := ?_) (a' := ?_) #[true, true, true, true, false, false, false, false, false, false, false, false, false, false, false] rfl rfl (by kernel_rfl) (fun _ _ _ h => h) (Or.inl ⟨by rfl, ?_⟩) ?_ ?_
                rotate_left
                · intro w'
                  go_simp
                  first | done | with_reducible rfl
                rotate_left
                · simp only [Act.put, List.setIfInBounds_toArray, List.set_cons_zero, List.set_cons_succ]
                  rfl
                refine pure_ (i := 4) (N := (some 60)) (v := ?_) (a' := ?_) #[true, true, true, true, true, false, false, false, false, false, false, false, false, false, false] rfl rfl (by kernel_rfl) (fun _ _ _ h => h) (Or.inl ⟨by rfl, ?_⟩) ?_ ?_
                rotate_left
                · intro w'
                  go_simp
                  first | done | with_reducible rfl
                rotate_left
                · simp only [Act.put, List.setIfInBounds_toArray, List.set_cons_zero, List.set_cons_succ]
                  rfl
                refine pure_ (i := 5) (N := (some 61)) (v := ?_) (a' := ?_) #[true, true, true, true, true, true, false, false, false, false, false, false, false, false, false] rfl rfl (by kernel_rfl) (fun _ _ _ h => h) (Or.inl ⟨by rfl, ?_⟩) ?_ ?_
                rotate_left
                · intro w'
                  go_simp
                  first | done | with_reducible rfl
                rotate_left
                · simp only [Act.put, List.setIfInBounds_toArray, List.set_cons_zero, List.set_cons_succ]
                  rfl
                refine take_ (i := 6) (N := (some 62)) (v := ?_) (a' := ?_) #[true, true, true, true, true, true, true, false, false, false, false, false, false, false, false] rfl rfl (by kernel_rfl) (fun _ _ _ h => h) (Or.inl ⟨by rfl, ?_⟩) hHeld ?_ ?_
                rotate_left
                · intro w' hS'
                  (have c1 := (HROW.out w' (HBR.out.trans (hS'.mono HBR.out.size))).1; go_simp)
                  first | done | with_reducible rfl
                rotate_left
                · simp only [Act.put, List.setIfInBounds_toArray, List.set_cons_zero, List.set_cons_succ]
                  rfl
                refine pure_ (i := 7) (N := (some 63)) (v := ?_) (a' := ?_) #[true, true, true, true, true, true, true, true, false, false, false, false, false, false, false] rfl rfl (by kernel_rfl) (fun _ _ _ h => h) (Or.inl ⟨by rfl, ?_⟩) ?_ ?_
                rotate_left
                · intro w'
                  go_simp
                  first | done | with_reducible rfl
                rotate_left
                · simp only [Act.put, List.setIfInBounds_toArray, List.set_cons_zero, List.set_cons_succ]
                  rfl
                refine pure_ (i := 8) (N := (some 64)) (v := ?_) (a' := ?_) #[true, true, true, true, true, true, true, true, true, false, false, false, false, false, false] rfl rfl (by kernel_rfl) (fun _ _ _ h => h) (Or.inl ⟨by rfl, ?_⟩) ?_ ?_
                rotate_left
                · intro w'
                  go_simp
                  first | done | with_reducible rfl
                rotate_left
                · simp only [Act.put, List.setIfInBounds_toArray, List.set_cons_zero, List.set_cons_succ]
                  rfl
                refine pure_ (i := 9) (N := (some 65)) (v := ?_) (a' := ?_) #[true, true, true, true, true, true, true, true, true, true, false, false, false, false, false] rfl rfl (by kernel_rfl) (fun _ _ _ h => h) (Or.inl ⟨by rfl, ?_⟩) ?_ ?_
                rotate_left
                · intro w'
                  go_simp
                  first | done | with_reducible rfl
                rotate_left
                · simp only [Act.put, List.setIfInBounds_toArray, List.set_cons_zero, List.set_cons_succ]
                  rfl
                refine pure_ (i := 10) (N := (some 66)) (v := ?_) (a' := ?_) #[true, true, true, true, true, true, true, true, true, true, true, false, false, false, false] rfl rfl (by kernel_rfl) (fun _ _ _ h => h) (Or.inl ⟨by rfl, ?_⟩) ?_ ?_
                rotate_left
                · intro w'
                  go_simp
                  first | done | with_reducible rfl
                rotate_left
                · simp only [Act.put, List.setIfInBounds_toArray, List.set_cons_zero, List.set_cons_succ]
                  rfl
                refine take_ (i := 11) (N := (some 67)) (v := ?_) (a' := ?_) #[true, true, true, true, true, true, true, true, true, true, true, true, false, false, false] rfl rfl (by kernel_rfl) (fun _ _ _ h => h) (Or.inl ⟨by rfl, ?_⟩) hHeld ?_ ?_
                rotate_left
                · intro w' hS'
                  (have c1 := HROJ.out w' (HBR.out.trans (hS'.mono HBR.out.size)); go_simp)
                  first | done | with_reducible rfl
                rotate_left
                · simp only [Act.put, List.setIfInBounds_toArray, List.set_cons_zero, List.set_cons_succ]
                  rfl
                refine pure_ (i := 12) (N := (some 68)) (v := ?_) (a' := ?_) #[true, true, true, true, true, true, true, true, true, true, true, true, true, false, false] rfl rfl (by kernel_rfl) (fun _ _ _ h => h) (Or.inl ⟨by rfl, ?_⟩) ?_ ?_
                rotate_left
                · intro w'
                  go_simp
                  first | done | with_reducible rfl
                rotate_left
                · simp only [Act.put, List.setIfInBounds_toArray, List.set_cons_zero, List.set_cons_succ]
                  rfl
                refine pure_ (i := 13) (N := (some 69)) (v := ?_) (a' := ?_) #[true, true, true, true, true, true, true, true, true, true, true, true, true, true, false] rfl rfl (by kernel_rfl) (fun _ _ _ h => h) (Or.inl ⟨by rfl, ?_⟩) ?_ ?_
                rotate_left
                · intro w'
                  go_simp
                  first | done | with_reducible rfl
                rotate_left
                · simp only [Act.put, List.setIfInBounds_toArray, List.set_cons_zero, List.set_cons_succ]
                  rfl
                refine pure_ (i := 14) (N := (some 6)) (v := ?_) (a' := ?_) #[true, true, true, true, true, true, true, true, true, true, true, true, true, true, true] rfl rfl (by kernel_rfl) (fun _ _ _ h => h) (Or.inl ⟨by rfl, ?_⟩) ?_ ?_
                rotate_left
                · intro w'
                  go_simp
                  first | done | with_reducible rfl
                rotate_left
                · simp only [Act.put, List.setIfInBounds_toArray, List.set_cons_zero, List.set_cons_succ]
                  rfl
                refine done_ (by kernel_rfl) ?_
                refine NoPanic.normal ?_
                go_wp2_with fail
                refine ⟨⟨j + 1, id == jd, by simp, by simp, by omega, ⟨by rw [HNX.out, Bool.false_or]⟩, ⟨HBR.out.drew⟩⟩, by simp [intOf]; omega⟩
            · obtain rfl : j = k := by omega
              go_wp2_with fail
              refine ⟨⟨j + 1, cv, by simp, rfl, by omega, ⟨?_⟩, HBR⟩, by simp [intOf]; omega⟩
              rw [← HCV.out, HTK.out, ← Ps.bad_next]
              congr 1
              rw [HBV.out]
              exact HB1.out
        | false =>
          have hb1 := HE1.out.2 rfl
          go_wp2_with fail
          clear hb1
          clear cc1
          obtain ⟨wq, rfl⟩ : ∃ q : World, q = wr := ⟨_, rfl⟩
          have HI0 : Aside0 ((b1 || (x0.take 0).any (fun y => x.f0 == y.f0)) = b1) := ⟨by simp⟩
          go_loopw [6, 8] (fun v6 v8 wr => ∃ (j : Nat) (cv : Bool), v8 = .int .i64 j ∧ v6 = .bool cv ∧ j ≤ k ∧ Aside0 ((b1 || (x0.take j).any (fun y => x.f0 == y.f0)) = cv) ∧ Aside0 (Below w3.heap.size w3 wr)) (fun _ v _ => k - (intOf v).toNat)
          case atStart => exact ⟨0, b1, rfl, rfl, Nat.zero_le _, HI0, HBR⟩
          case round =>
            clear HI0 HBR
            obtain ⟨j, cv, rfl, rfl, hj, HCV, HBR⟩ := hrel
            by_cases hjk : j < k
            · have hjkI : (j : Int) < k := by omega
              have hjnI : (j : Int) < n := by omega
              have hji : j < x0.length := by rw [HN.out]; omega
              obtain ⟨ad', _, _, _, _, hA', _, _, _, _, hrow'⟩ := Ps.row_cells HC.out rfl j hji
              obtain rfl : ad = ad' := Option.some.inj hA'
              have HTJ := Aside0.mk (List.take_succ_eq_append_getElem hji)
              obtain ⟨jd, HJD⟩ : ∃ i, Aside0 (x0[j].f0 = i) := ⟨_, ⟨rfl⟩⟩
              rw [HJD.out] at hrow'
              have HROJ : Aside0 (∀ w', Below w3.heap.size w3 w' → w'.cell? (ad.add (j * 5)) = some (.int .u32 jd)) := ⟨fun w' hb => (hrow' w' (below_then HB3.out HB3.out.size hb)).2.1⟩
              have HNX : Aside0 (((b1 || (x0.take (j + 1)).any (fun y => x.f0 == y.f0)) = (cv || (id == jd)))) := ⟨by
                rw [HTJ.out, List.any_append, ← Bool.or_assoc, HCV.out, ← HID.out, ← HJD.out]
                simp⟩
              clear hrow' hA' HTJ HJD
              cases cv with
              | true =>
                go_wp2_with fail
                refine wp_region_noPanic ?_
                refine start_ (n := 15) (S := (fun w' => Below wr.heap.size wr w')) (ds := []) #[false, false, false, false, false, false, false, false, false, false, false, false, false, false, false] (by kernel_rfl) rfl rfl (Below.refl _ _).drew (fun hHeld => ?_)
                refine pure_ (i := 0) (N := (some 56)) (v := ?_) (a' := ?_) #[true, false, false, false, false, false, false, false, false, false, false, false, false, false, false] rfl rfl (by kernel_rfl) (fun _ _ _ h => h) (Or.inl ⟨by rfl, ?_⟩) ?_ ?_
                rotate_left
                · intro w'
                  go_simp
                  first | done | with_reducible rfl
                rotate_left
                · simp only [Act.put, List.setIfInBounds_toArray, List.set_cons_zero, List.set_cons_succ]
                  rfl
                refine pure_ (i := 1) (N := (some 57)) (v := ?_) (a' := ?_) #[true, true, false, false, false, false, false, false, false, false, false, false, false, false, false] rfl rfl (by kernel_rfl) (fun _ _ _ h => h) (Or.inl ⟨by rfl, ?_⟩) ?_ ?_
                rotate_left
                · intro w'
                  go_simp
                  first | done | with_reducible rfl
                rotate_left
                · simp only [Act.put, List.setIfInBounds_toArray, List.set_cons_zero, List.set_cons_succ]
                  rfl
                refine pure_ (i := 2) (N := (some 58)) (v := undef) (a' := ?_) #[true, true, true, false, false, false, false, false, false, false, false, false, false, false, false] rfl rfl (by kernel_rfl) (fun _ _ _ h => h) (Or.inr ⟨by rfl, rfl⟩) ?_ ?_
                rotate_left
                · simp only [Act.put, List.setIfInBounds_toArray, List.set_cons_zero, List.set_cons_succ]
                  rfl
                refine pure_ (i := 3) (N := (some 59)) (v := undef) (a' := ?_) #[true, true, true, true, false, false, false, false, false, false, false, false, false, false, false] rfl rfl (by kernel_rfl) (fun _ _ _ h => h) (Or.inr ⟨by rfl, rfl⟩) ?_ ?_
                rotate_left
                · simp only [Act.put, List.setIfInBounds_toArray, List.set_cons_zero, List.set_cons_succ]
                  rfl
                refine pure_ (i := 4) (N := (some 60)) (v := undef) (a' := ?_) #[true, true, true, true, true, false, false, false, false, false, false, false, false, false, false] rfl rfl (by kernel_rfl) (fun _ _ _ h => h) (Or.inr ⟨by rfl, rfl⟩) ?_ ?_
                rotate_left
                · simp only [Act.put, List.setIfInBounds_toArray, List.set_cons_zero, List.set_cons_succ]
                  rfl
                refine pure_ (i := 5) (N := (some 61)) (v := undef) (a' := ?_) #[true, true, true, true, true, true, false, false, false, false, false, false, false, false, false] rfl rfl (by kernel_rfl) (fun _ _ _ h => h) (Or.inr ⟨by rfl, rfl⟩) ?_ ?_
                rotate_left
                · simp only [Act.put, List.setIfInBounds_toArray, List.set_cons_zero, List.set_cons_succ]
                  rfl
                refine pure_ (i := 6) (N := (some 62)) (v := undef) (a' := ?_) #[true, true, true, true, true, true, true, false, false, false, false, false, false, false, false] rfl rfl (by kernel_rfl) (fun _ _ _ h => h) (Or.inr ⟨by rfl, rfl⟩) ?_ ?_
                rotate_left
                · simp only [Act.put, List.setIfInBounds_toArray, List.set_cons_zero, List.set_cons_succ]
                  rfl
                refine pure_ (i := 7) (N := (some 63)) (v := undef) (a' := ?_) #[true, true, true, true, true, true, true, true, false, false, false, false, false, false, false] rfl rfl (by kernel_rfl) (fun _ _ _ h => h) (Or.inr ⟨by rfl, rfl⟩) ?_ ?_
                rotate_left
                · simp only [Act.put, List.setIfInBounds_toArray, List.set_cons_zero, List.set_cons_succ]
                  rfl
                refine pure_ (i := 8) (N := (some 64)) (v := undef) (a' := ?_) #[true, true, true, true, true, true, true, true, true, false, false, false, false, false, false] rfl rfl (by kernel_rfl) (fun _ _ _ h => h) (Or.inr ⟨by rfl, rfl⟩) ?_ ?_
                rotate_left
                · simp only [Act.put, List.setIfInBounds_toArray, List.set_cons_zero, List.set_cons_succ]
                  rfl
                refine pure_ (i := 9) (N := (some 65)) (v := undef) (a' := ?_) #[true, true, true, true, true, true, true, true, true, true, false, false, false, false, false] rfl rfl (by kernel_rfl) (fun _ _ _ h => h) (Or.inr ⟨by rfl, rfl⟩) ?_ ?_
                rotate_left
                · simp only [Act.put, List.setIfInBounds_toArray, List.set_cons_zero, List.set_cons_succ]
                  rfl
                refine pure_ (i := 10) (N := (some 66)) (v := undef) (a' := ?_) #[true, true, true, true, true, true, true, true, true, true, true, false, false, false, false] rfl rfl (by kernel_rfl) (fun _ _ _ h => h) (Or.inr ⟨by rfl, rfl⟩) ?_ ?_
                rotate_left
                · simp only [Act.put, List.setIfInBounds_toArray, List.set_cons_zero, List.set_cons_succ]
                  rfl
                refine pure_ (i := 11) (N := (some 67)) (v := undef) (a' := ?_) #[true, true, true, true, true, true, true, true, true, true, true, true, false, false, false] rfl rfl (by kernel_rfl) (fun _ _ _ h => h) (Or.inr ⟨by rfl, rfl⟩) ?_ ?_
                rotate_left
                · simp only [Act.put, List.setIfInBounds_toArray, List.set_cons_zero, List.set_cons_succ]
                  rfl
                refine pure_ (i := 12) (N := (some 68)) (v := undef) (a' := ?_) #[true, true, true, true, true, true, true, true, true, true, true, true, true, false, false] rfl rfl (by kernel_rfl) (fun _ _ _ h => h) (Or.inr ⟨by rfl, rfl⟩) ?_ ?_
                rotate_left
                · simp only [Act.put, List.setIfInBounds_toArray, List.set_cons_zero, List.set_cons_succ]
                  rfl
                refine pure_ (i := 13) (N := (some 69)) (v := ?_) (a' := ?_) #[true, true, true, true, true, true, true, true, true, true, true, true, true, true, false] rfl rfl (by kernel_rfl) (fun _ _ _ h => h) (Or.inl ⟨by rfl, ?_⟩) ?_ ?_
                rotate_left
                · intro w'
                  go_simp
                  first | done | with_reducible rfl
                rotate_left
                · simp only [Act.put, List.setIfInBounds_toArray, List.set_cons_zero, List.set_cons_succ]
                  rfl
                refine pure_ (i := 14) (N := (some 6)) (v := ?_) (a' := ?_) #[true, true, true, true, true, true, true, true, true, true, true, true, true, true, true] rfl rfl (by kernel_rfl) (fun _ _ _ h => h) (Or.inl ⟨by rfl, ?_⟩) ?_ ?_
                rotate_left
                · intro w'
                  go_simp
                  first | done | with_reducible rfl
                rotate_left
                · simp only [Act.put, List.setIfInBounds_toArray, List.set_cons_zero, List.set_cons_succ]
                  rfl
                refine done_ (by kernel_rfl) ?_
                refine NoPanic.normal ?_
                go_wp2_with fail
                refine ⟨⟨j + 1, true, by simp, rfl, by omega, ⟨by rw [HNX.out]; rfl⟩, ⟨HBR.out.drew⟩⟩, by simp [intOf]; omega⟩
              | false =>
                go_wp2_with fail
                refine wp_region_noPanic ?_
                refine start_ (n := 15) (S := (fun w' => Below wr.heap.size wr w')) (ds := []) #[false, false, false, false, false, false, false, false, false, false, false, false, false, false, false] (by kernel_rfl) rfl rfl (Below.refl _ _).drew (fun hHeld => ?_)
                refine pure_ (i := 0) (N := (some 56)) (v := ?_) (a' := ?_) #[true, false, false, false, false, false, false, false, false, false, false, false, false, false, false] rfl rfl (by kernel_rfl) (fun _ _ _ h => h) (Or.inl ⟨by rfl, ?_⟩) ?_ ?_
                rotate_left
                · intro w'
                  go_simp
                  first | done | with_reducible rfl
                rotate_left
                · simp only [Act.put, List.setIfInBounds_toArray, List.set_cons_zero, List.set_cons_succ]
                  rfl
                refine pure_ (i := 1) (N := (some 57)) (v := ?_) (a' := ?_) #[true, true, false, false, false, false, false, false, false, false, false, false, false, false, false] rfl rfl (by kernel_rfl) (fun _ _ _ h => h) (Or.inl ⟨by rfl, ?_⟩) ?_ ?_
                rotate_left
                · intro w'
                  go_simp
                  first | done | with_reducible rfl
                rotate_left
                · simp only [Act.put, List.setIfInBounds_toArray, List.set_cons_zero, List.set_cons_succ]
                  rfl
                refine pure_ (i := 2) (N := (some 58)) (v := ?_) (a' := ?_) #[true, true, true, false, false, false, false, false, false, false, false, false, false, false, false] rfl rfl (by kernel_rfl) (fun _ _ _ h => h) (Or.inl ⟨by rfl, ?_⟩) ?_ ?_
                rotate_left
                · intro w'
                  go_simp
                  first | done | with_reducible rfl
                rotate_left
                · simp only [Act.put, List.setIfInBounds_toArray, List.set_cons_zero, List.set_cons_succ]
                  rfl
                refine pure_ (i := 3) (N := (some 59)) (v := ?_) (a' := ?_) #[true, true, true, true, false, false, false, false, false, false, false, false, false, false, false] rfl rfl (by kernel_rfl) (fun _ _ _ h => h) (Or.inl ⟨by rfl, ?_⟩) ?_ ?_
                rotate_left
                · intro w'
                  go_simp
                  first | done | with_reducible rfl
                rotate_left
                · simp only [Act.put, List.setIfInBounds_toArray, List.set_cons_zero, List.set_cons_succ]
                  rfl
                refine pure_ (i := 4) (N := (some 60)) (v := ?_) (a' := ?_) #[true, true, true, true, true, false, false, false, false, false, false, false, false, false, false] rfl rfl (by kernel_rfl) (fun _ _ _ h => h) (Or.inl ⟨by rfl, ?_⟩) ?_ ?_
                rotate_left
                · intro w'
                  go_simp
                  first | done | with_reducible rfl
                rotate_left
                · simp only [Act.put, List.setIfInBounds_toArray, List.set_cons_zero, List.set_cons_succ]
                  rfl
                refine pure_ (i := 5) (N := (some 61)) (v := ?_) (a' := ?_) #[true, true, true, true, true, true, false, false, false, false, false, false, false, false, false] rfl rfl (by kernel_rfl) (fun _ _ _ h => h) (Or.inl ⟨by rfl, ?_⟩) ?_ ?_
                rotate_left
                · intro w'
                  go_simp
                  first | done | with_reducible rfl
                rotate_left
                · simp only [Act.put, List.setIfInBounds_toArray, List.set_cons_zero, List.set_cons_succ]
                  rfl
                refine take_ (i := 6) (N := (some 62)) (v := ?_) (a' := ?_) #[true, true, true, true, true, true, true, false, false, false, false, false, false, false, false] rfl rfl (by kernel_rfl) (fun _ _ _ h => h) (Or.inl ⟨by rfl, ?_⟩) hHeld ?_ ?_
                rotate_left
                · intro w' hS'
                  (have c1 := (HROW.out w' (HBR.out.trans (hS'.mono HBR.out.size))).1; go_simp)
                  first | done | with_reducible rfl
                rotate_left
                · simp only [Act.put, List.setIfInBounds_toArray, List.set_cons_zero, List.set_cons_succ]
                  rfl
                refine pure_ (i := 7) (N := (some 63)) (v := ?_) (a' := ?_) #[true, true, true, true, true, true, true, true, false, false, false, false, false, false, false] rfl rfl (by kernel_rfl) (fun _ _ _ h => h) (Or.inl ⟨by rfl, ?_⟩) ?_ ?_
                rotate_left
                · intro w'
                  go_simp
                  first | done | with_reducible rfl
                rotate_left
                · simp only [Act.put, List.setIfInBounds_toArray, List.set_cons_zero, List.set_cons_succ]
                  rfl
                refine pure_ (i := 8) (N := (some 64)) (v := ?_) (a' := ?_) #[true, true, true, true, true, true, true, true, true, false, false, false, false, false, false] rfl rfl (by kernel_rfl) (fun _ _ _ h => h) (Or.inl ⟨by rfl, ?_⟩) ?_ ?_
                rotate_left
                · intro w'
                  go_simp
                  first | done | with_reducible rfl
                rotate_left
                · simp only [Act.put, List.setIfInBounds_toArray, List.set_cons_zero, List.set_cons_succ]
                  rfl
                refine pure_ (i := 9) (N := (some 65)) (v := ?_) (a' := ?_) #[true, true, true, true, true, true, true, true, true, true, false, false, false, false, false] rfl rfl (by kernel_rfl) (fun _ _ _ h => h) (Or.inl ⟨by rfl, ?_⟩) ?_ ?_
                rotate_left
                · intro w'
                  go_simp
                  first | done | with_reducible rfl
                rotate_left
                · simp only [Act.put, List.setIfInBounds_toArray, List.set_cons_zero, List.set_cons_succ]
                  rfl
                refine pure_ (i := 10) (N := (some 66)) (v := ?_) (a' := ?_) #[true, true, true, true, true, true, true, true, true, true, true, false, false, false, false] rfl rfl (by kernel_rfl) (fun _ _ _ h => h) (Or.inl ⟨by rfl, ?_⟩) ?_ ?_
                rotate_left
                · intro w'
                  go_simp
                  first | done | with_reducible rfl
                rotate_left
                · simp only [Act.put, List.setIfInBounds_toArray, List.set_cons_zero, List.set_cons_succ]
                  rfl
                refine take_ (i := 11) (N := (some 67)) (v := ?_) (a' := ?_) #[true, true, true, true, true, true, true, true, true, true, true, true, false, false, false] rfl rfl (by kernel_rfl) (fun _ _ _ h => h) (Or.inl ⟨by rfl, ?_⟩) hHeld ?_ ?_
                rotate_left
                · intro w' hS'
                  (have c1 := HROJ.out w' (HBR.out.trans (hS'.mono HBR.out.size)); go_simp)
                  first | done | with_reducible rfl
                rotate_left
                · simp only [Act.put, List.setIfInBounds_toArray, List.set_cons_zero, List.set_cons_succ]
                  rfl
                refine pure_ (i := 12) (N := (some 68)) (v := ?_) (a' := ?_) #[true, true, true, true, true, true, true, true, true, true, true, true, true, false, false] rfl rfl (by kernel_rfl) (fun _ _ _ h => h) (Or.inl ⟨by rfl, ?_⟩) ?_ ?_
                rotate_left
                · intro w'
                  go_simp
                  first | done | with_reducible rfl
                rotate_left
                · simp only [Act.put, List.setIfInBounds_toArray, List.set_cons_zero, List.set_cons_succ]
                  rfl
                refine pure_ (i := 13) (N := (some 69)) (v := ?_) (a' := ?_) #[true, true, true, true, true, true, true, true, true, true, true, true, true, true, false] rfl rfl (by kernel_rfl) (fun _ _ _ h => h) (Or.inl ⟨by rfl, ?_⟩) ?_ ?_
                rotate_left
                · intro w'
                  go_simp
                  first | done | with_reducible rfl
                rotate_left
                · simp only [Act.put, List.setIfInBounds_toArray, List.set_cons_zero, List.set_cons_succ]
                  rfl
                refine pure_ (i := 14) (N := (some 6)) (v := ?_) (a' := ?_) #[true, true, true, true, true, true, true, true, true, true, true, true, true, true, true] rfl rfl (by kernel_rfl) (fun _ _ _ h => h) (Or.inl ⟨by rfl, ?_⟩) ?_ ?_
                rotate_left
                · intro w'
                  go_simp
                  first | done | with_reducible rfl
                rotate_left
                · simp only [Act.put, List.setIfInBounds_toArray, List.set_cons_zero, List.set_cons_succ]
                  rfl
                refine done_ (by kernel_rfl) ?_
                refine NoPanic.normal ?_
                go_wp2_with fail
                refine ⟨⟨j + 1, id == jd, by simp, by simp, by omega, ⟨by rw [HNX.out, Bool.false_or]⟩, ⟨HBR.out.drew⟩⟩, by simp [intOf]; omega⟩
            · obtain rfl : j = k := by omega
              go_wp2_with fail
              refine ⟨⟨j + 1, cv, by simp, rfl, by omega, ⟨?_⟩, HBR⟩, by simp [intOf]; omega⟩
              rw [← HCV.out, HTK.out, ← Ps.bad_next]
              congr 1
              rw [HBV.out]
              exact HB1.out
      · obtain rfl : k = n := by omega
        have HGB : Aside0 ((!(Ps.good [] x0)) = bv) := ⟨by have := HBV.out; rwa [List.take_of_length_le (by rw [HN.out]; exact Nat.le_refl _)] at this⟩
        clear HBV
        cases bv with
        | true =>
          obtain ⟨rfl, rfl⟩ : tv = .pointer none ∧ er = 1 := by
            have hg : Ps.good [] x0 = false := by have := HGB.out; cases h : Ps.good [] x0 with | false => rfl | true => rw [h] at this; cases this
            rcases HCS.out with ⟨h, _⟩ | ⟨_, _, h1, h2⟩ | ⟨_, h, _⟩
            · omega
            · exact ⟨h1, h2⟩
            · rw [hg] at h; cases h
          have HBF := Aside0.mk (HB3.out.trans (HBR.out.mono HB3.out.size))
          go_wp2_with fail
          go_ret
          exact ⟨rfl, HBF.out⟩
        | false =>
          have HGD : Aside0 (Ps.good [] x0 = true) := ⟨by have := HGB.out; cases h : Ps.good [] x0 with | true => rfl | false => rw [h] at this; cases this⟩
          obtain ⟨p, rfl, rfl, HTB⟩ : ∃ p, tv = .pointer (some ⟨p, 0, none⟩) ∧ er = 0 ∧ Aside0 (Ps.Tb w3 w2.heap.size p x0) := by
            rcases HCS.out with ⟨h, _⟩ | ⟨_, h, _⟩ | ⟨_, _, he, p, hp, ht⟩
            · omega
            · rw [HGD.out] at h; cases h
            · exact ⟨p, hp, he, ⟨ht⟩⟩
          have HT := Aside0.mk (HTB.out.below HBR.out)
          have HBF := Aside0.mk (HB3.out.trans (HBR.out.mono HB3.out.size))
          clear HCS HTB HBR HB3 HGB
          obtain ⟨wq, rfl⟩ : ∃ q : World, q = wr := ⟨_, rfl⟩
          go_wp2_with fail
          go_loopw [9] (fun v9 wr => ∃ i : Nat, v9 = .int .i64 i ∧ i ≤ k ∧ Aside0 (Below wq.heap.size wq wr)) (fun v _ => k - (intOf v).toNat)
          case atStart => exact ⟨0, rfl, Nat.zero_le _, ⟨Below.refl _ _⟩⟩
          case round =>
            obtain ⟨i, rfl, hi, HBR⟩ := hrel
            by_cases hlt : i < k
            · have hltI : (i : Int) < k := by omega
              have hki : i < x0.length := by rw [HN.out]; exact hlt
              obtain ⟨ad, B0, d0, B1, d1, hA, hl0, hl1, hg0, hg1, hrow⟩ := Ps.row_cells HC.out rfl i hki
              subst hA
              have hxm := List.getElem_mem hki
              obtain ⟨x, HXK⟩ : ∃ x, Aside0 (x0[i] = x) := ⟨_, ⟨rfl⟩⟩
              rw [HXK.out] at hrow hl0 hl1 hg0 hg1 hxm
              have HFD : Aside0 ((Ps.find x0 x.f0).getD Ps.zn = x ∧ (Ps.find x0 x.f0).isSome = true) := ⟨by
                rw [Ps.find_of (Ps.good_dist.1 HGD.out).2 hxm]
                exact ⟨rfl, rfl⟩⟩
              have hwx := HTW.out x hxm
              obtain ⟨id, l0, q, s, l1⟩ := x
              obtain ⟨hidr, hm0, hm1, -⟩ := hwx
              have HIDR := Aside0.mk hidr
              obtain ⟨n0, HN0⟩ : ∃ i, Aside0 (l0.length = i) := ⟨_, ⟨rfl⟩⟩
              obtain ⟨n1, HN1⟩ : ∃ i, Aside0 (l1.length = i) := ⟨_, ⟨rfl⟩⟩
              have HL0 := Aside0.mk hl0
              have HL1 := Aside0.mk hl1
              have HM1 := Aside0.mk hm1
              have HG0 := Aside0.mk hg0
              have HG1 := Aside0.mk hg1
              simp only [Ps.tnc] at hrow
              rw [HN0.out, HN1.out] at hrow
              have HROW : Aside0 (∀ w', Below wq.heap.size wq w' → (Instr.loadAt 42 (.pointer (some (ad.add (i * 5))))).run Tryd.prog w' = .ok (.agg (Ps.tv id q s (.slice B0 n0 d0) (.slice B1 n1 d1)).toArray) w' ∧ w'.cell? (ad.add (i * 5)) = some (.int .u32 id)) := ⟨fun w' hb => ⟨(hrow w' (below_then HBF.out HBF.out.size hb)).1, (hrow w' (below_then HBF.out HBF.out.size hb)).2.1⟩⟩
              clear hrow hl0 hl1 hg0 hg1 hxm HXK hidr hm0 hm1
              have cc1 := (HROW.out wr HBR.out).2
              have hi70 : (i : Int) < 70 := by have := HLN.out; omega
              go_wp2_with fail
              clear cc1
              refine (tenant_.calls p w2.heap.size x0 id wr (HT.out.below HBR.out) HIDR.out.1 HIDR.out.2 HTW.out).mono ?_
              rintro e w5 ⟨hb5, A2, e2, A3, e3, rfl, he2, he3, hR2, hR3⟩
              rw [HFD.out.1] at he2 he3 hR2 hR3 ⊢
              rw [HFD.out.2]
              simp only [Ps.tnc] at he2 he3 hR2 hR3 ⊢
              rw [HN0.out] at he2 hR2 ⊢
              rw [HN1.out] at he3 hR3 ⊢
              have HE2 := Aside0.mk he2
              have HE3 := Aside0.mk he3
              have HB5 := Aside0.mk (below_then HBR.out HBR.out.size hb5)
              have HR2 := Aside0.mk hR2
              have HR3 := Aside0.mk hR3
              clear hb5 he2 he3 hR2 hR3
              go_wp2_with fail
              generalize hWq : World.alloc w5 _ = w6
              have hb6 : Below w5.heap.size w5 w6 := by rw [← hWq]; exact below_alloc (Below.refl _ _) _
              have HX6 : Aside0 (Wk.Blk w6 w5.heap.size 42 (Ps.tv id q s (.slice A2 n0 e2) (.slice A3 n1 e3))) := ⟨by rw [← hWq]; exact Wk.Blk.new w5 _ (Ps.tv id q s (.slice A2 n0 e2) (.slice A3 n1 e3))⟩
              have HB6 := Aside0.mk (below_then HB5.out HB5.out.size hb6)
              have HR26 := Aside0.mk (Kd.R_below HR2.out hb6)
              have HR36 := Aside0.mk (Kd.R_below HR3.out hb6)
              obtain ⟨g10, HG10⟩ : ∃ b, Aside0 (w5.heap.size = b) := ⟨_, ⟨rfl⟩⟩
              rw [HG10.out] at HX6 ⊢
              clear hWq hb6 HB5 HR2 HR3 HG10
              have HSZ := Aside0.mk Ps.sizeTn
              refine wp_region_noPanic ?_
              refine start_ (n := 11) (S := (fun w' => Below w6.heap.size w6 w')) (ds := []) #[false, false, false, false, false, false, false, false, false, false, false] (by kernel_rfl) rfl rfl (Below.refl _ _).drew (fun hHeld => ?_)
              refine pure_ (i := 0) (N := (some 97)) (v := ?_) (a' := ?_) #[true, false, false, false, false, false, false, false, false, false, false] rfl rfl (by kernel_rfl) (fun _ _ _ h => h) (Or.inl ⟨by rfl, ?_⟩) ?_ ?_
              rotate_left
              · intro w'
                go_simp
                first | done | with_reducible rfl
              rotate_left
              · simp only [Act.put, List.setIfInBounds_toArray, List.set_cons_zero, List.set_cons_succ]
                rfl
              refine pure_ (i := 1) (N := (some 98)) (v := ?_) (a' := ?_) #[true, true, false, false, false, false, false, false, false, false, false] rfl rfl (by kernel_rfl) (fun _ _ _ h => h) (Or.inl ⟨by rfl, ?_⟩) ?_ ?_
              rotate_left
              · intro w'
                go_simp
                first | done | with_reducible rfl
              rotate_left
              · simp only [Act.put, List.setIfInBounds_toArray, List.set_cons_zero, List.set_cons_succ]
                rfl
              refine pure_ (i := 2) (N := (some 99)) (v := ?_) (a' := ?_) #[true, true, true, false, false, false, false, false, false, false, false] rfl rfl (by kernel_rfl) (fun _ _ _ h => h) (Or.inl ⟨by rfl, ?_⟩) ?_ ?_
              rotate_left
              · intro w'
                go_simp
                first | done | with_reducible rfl
              rotate_left
              · simp only [Act.put, List.setIfInBounds_toArray, List.set_cons_zero, List.set_cons_succ]
                rfl
              refine take_ (i := 3) (N := (some 100)) (v := ?_) (a' := ?_) #[true, true, true, true, false, false, false, false, false, false, false] rfl rfl (by kernel_rfl) (fun _ _ _ h => h) (Or.inl ⟨by rfl, ?_⟩) hHeld ?_ ?_
              rotate_left
              · intro w' hS'
                (have hl := Wk.run_load_blk (P := Tryd.prog) 42 g10 0 (Ps.tv id q s (.slice A2 n0 e2) (.slice A3 n1 e3)) _ (HX6.out.below_ hS') rfl Tryd.underlying42 rfl HSZ.out; refine (Wk.exec_load 42 (.tmp 10) rfl _ _ rfl hl).trans ?_)
                first | done | with_reducible rfl
              rotate_left
              · simp only [Act.put, List.setIfInBounds_toArray, List.set_cons_zero, List.set_cons_succ]
                rfl
              refine pure_ (i := 4) (N := (some 101)) (v := ?_) (a' := ?_) #[true, true, true, true, true, false, false, false, false, false, false] rfl rfl (by kernel_rfl) (fun _ _ _ h => h) (Or.inl ⟨by rfl, ?_⟩) ?_ ?_
              rotate_left
              · intro w'
                go_simp
                first | done | with_reducible rfl
              rotate_left
              · simp only [Act.put, List.setIfInBounds_toArray, List.set_cons_zero, List.set_cons_succ]
                rfl
              refine pure_ (i := 5) (N := (some 102)) (v := ?_) (a' := ?_) #[true, true, true, true, true, true, false, false, false, false, false] rfl rfl (by kernel_rfl) (fun _ _ _ h => h) (Or.inl ⟨by rfl, ?_⟩) ?_ ?_
              rotate_left
              · intro w'
                go_simp
                first | done | with_reducible rfl
              rotate_left
              · simp only [Act.put, List.setIfInBounds_toArray, List.set_cons_zero, List.set_cons_succ]
                rfl
              refine pure_ (i := 6) (N := (some 103)) (v := ?_) (a' := ?_) #[true, true, true, true, true, true, true, false, false, false, false] rfl rfl (by kernel_rfl) (fun _ _ _ h => h) (Or.inl ⟨by rfl, ?_⟩) ?_ ?_
              rotate_left
              · intro w'
                go_simp
                first | done | with_reducible rfl
              rotate_left
              · simp only [Act.put, List.setIfInBounds_toArray, List.set_cons_zero, List.set_cons_succ]
                rfl
              refine take_ (i := 7) (N := (some 104)) (v := ?_) (a' := ?_) #[true, true, true, true, true, true, true, true, false, false, false] rfl rfl (by kernel_rfl) (fun _ _ _ h => h) (Or.inl ⟨by rfl, ?_⟩) hHeld ?_ ?_
              rotate_left
              · intro w' hS'
                (have hl := (HROW.out w' (below_then HB6.out HB6.out.size hS')).1; refine (Wk.exec_load 42 (.tmp 103) rfl _ _ rfl hl).trans ?_)
                first | done | with_reducible rfl
              rotate_left
              · simp only [Act.put, List.setIfInBounds_toArray, List.set_cons_zero, List.set_cons_succ]
                rfl
              refine one_ (i := 8) (N := (some 105)) #[true, true, true, true, true, true, true, true, true, false, false] rfl rfl (by kernel_rfl) (by decide) (fun K hK => ?_)
              refine call_ 23 #[.agg #[.int .u32 id, .slice A2 n0 e2, .int .u64 q, .int .u64 s, .slice A3 n1 e3], .agg #[.int .u32 id, .slice B0 n0 d0, .int .u64 q, .int .u64 s, .slice B1 n1 d1]] (by rfl) rfl (by go_simp) ?_
              have hbw := below_then HB6.out HB6.out.size hHeld
              have hbW := below_then HBF.out HBF.out.size hbw
              have r2 := (Kd.R_reads' (Kd.R_below HR26.out hHeld)).2.2
              have r3 := (Kd.R_reads' (Kd.R_below HR36.out hHeld)).2.2
              refine (Ps.alike_ (by have := HM1.out; rw [← HN1.out]; exact this) HN0.out HN1.out r2 HE2.out r3 HE3.out (Kd.C_below HG0.out hbW) (by rw [← HN0.out]; exact HL0.out) (Kd.C_below HG1.out hbW) (by rw [← HN1.out]; exact HL1.out)).mono ?_
              rintro e w7 ⟨rfl, hb7⟩
              have HB7 := Aside0.mk (below_then HB6.out HB6.out.size (below_then hHeld hHeld.size hb7))
              have HH7 := Aside0.mk (below_then hHeld hHeld.size hb7)
              clear hb7 hbw hbW r2 r3
              refine ⟨_, rfl, ?_⟩
              refine hK.out _ _ HH7.out (fun hHeld => ?_)
              clear hK K
              refine norm_ (a' := ?_) ?_ ?_
              rotate_left
              · show Act.put _ (some 105) _ = _
                simp only [Act.put, List.setIfInBounds_toArray, List.set_cons_zero, List.set_cons_succ]
                rfl
              refine pure_ (i := 9) (N := (some 106)) (v := ?_) (a' := ?_) #[true, true, true, true, true, true, true, true, true, true, false] rfl rfl (by kernel_rfl) (fun _ _ _ h => h) (Or.inl ⟨by rfl, ?_⟩) ?_ ?_
              rotate_left
              · intro w'
                go_simp
                first | done | with_reducible rfl
              rotate_left
              · simp only [Act.put, List.setIfInBounds_toArray, List.set_cons_zero, List.set_cons_succ]
                rfl
              refine pure_ (i := 10) (N := (some 107)) (v := ?_) (a' := ?_) #[true, true, true, true, true, true, true, true, true, true, true] rfl rfl (by kernel_rfl) (fun _ _ _ h => h) (Or.inl ⟨by rfl, ?_⟩) ?_ ?_
              rotate_left
              · intro w'
                go_simp
                first | done | with_reducible rfl
              rotate_left
              · simp only [Act.put, List.setIfInBounds_toArray, List.set_cons_zero, List.set_cons_succ]
                rfl
              refine done_ (by kernel_rfl) ?_
              refine NoPanic.normal ?_
              go_wp2_with fail
              refine ⟨⟨i + 1, by simp, by omega, HB7⟩, by simp [intOf]; omega⟩
            · obtain rfl : i = k := by omega
              have HBE := Aside0.mk (HBF.out.trans (HBR.out.mono HBF.out.size))
              go_wp2_with fail
              go_ret
              exact ⟨rfl, HBE.out⟩
end Go.Proofs.YtabdnlecpndfjaaDoor
