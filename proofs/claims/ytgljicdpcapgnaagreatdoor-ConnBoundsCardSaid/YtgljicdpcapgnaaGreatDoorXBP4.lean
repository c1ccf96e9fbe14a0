/- What the law's proof stands on, part 4: MacS, PassTk, PassC, OpenR, PassK, PassRow, PipeW, PipeA, PipeL, PipeT, PipeR, WireN, WireT, WireK, WireP, WireM1, WireM2, GreetM, GreetA, ReqM, ConnM, ConnV, GreetW, GreetX (laid together by wip/pack.py). -/
import Derived.Test.YtgljicdpcapgnaaGreatDoorProg
import Derived.Test.YtgljicdpcapgnaaGreatDoorRows
import Derived.Test.YtgljicdpcapgnaaGreatDoorCards
import Derived.Test.YtgljicdpcapgnaaGreatDoorTie
import Derived.Test.YtgljicdpcapgnaaGreatDoorXBP3
import Derived.ProofKit
import Derived.LaidMore
import Derived.OpenShut
import Derived.Stop.Joined
import Derived.SevenTiedAt
import Derived.SizedLaws
import Derived.Laws.EntriesVeiled
import Derived.WalkLawsBesides
import Derived.Recover
import Derived.Deep.DeepFit
set_option linter.unusedVariables false
set_option linter.unusedSimpArgs false
set_option maxRecDepth 100000
set_option maxHeartbeats 8000000
namespace Go.Proofs.YtgljicdpcapgnaaGreatDoor
open Go.RowKit Go.Proofs.YtgljicdpcapgnaaGreatDoorW.PrintWords
namespace Sh
open PBase
theorem wrap_toNat (x : BitVec 8) : IntKind.u8.wrap (x.toNat : Int) = (x.toNat : Int) := by
  rw [IntKind.wrap_u8]
  have := x.isLt
  omega
theorem ofInt_wrap (x : BitVec 8) : BitVec.ofInt 8 (IntKind.u8.wrap (x.toNat : Int)) = x := by
  rw [wrap_toNat]
  apply BitVec.eq_of_toNat_eq
  rw [BitVec.ofInt_natCast, BitVec.toNat_ofNat]
  exact Nat.mod_eq_of_lt x.isLt
theorem ofInt_inj (a b : Int) (ha : 0 ≤ a ∧ a ≤ 255) (hb : 0 ≤ b ∧ b ≤ 255) (h : BitVec.ofInt 8 a = BitVec.ofInt 8 b) : a = b := by
  obtain ⟨m, rfl⟩ := Int.eq_ofNat_of_zero_le ha.1
  obtain ⟨n, rfl⟩ := Int.eq_ofNat_of_zero_le hb.1
  have := congrArg BitVec.toNat h
  rw [BitVec.ofInt_natCast, BitVec.ofInt_natCast, BitVec.toNat_ofNat, BitVec.toNat_ofNat, Nat.mod_eq_of_lt (by omega), Nat.mod_eq_of_lt (by omega)] at this
  rw [this]
theorem or_xor_zero (x a b : Int) (hx : 0 ≤ x ∧ x ≤ 255) (ha : 0 ≤ a ∧ a ≤ 255) (hb : 0 ≤ b ∧ b ≤ 255) : bits .or .u8 x (bits .xor .u8 a b) = 0 ↔ x = 0 ∧ a = b := by
  have hxor : BitVec.ofInt 8 (bits .xor .u8 a b) = BitVec.ofInt 8 a ^^^ BitVec.ofInt 8 b := ofInt_wrap (BitVec.ofInt 8 a ^^^ BitVec.ofInt 8 b)
  have hor : bits .or .u8 x (bits .xor .u8 a b) = ((BitVec.ofInt 8 x ||| (BitVec.ofInt 8 a ^^^ BitVec.ofInt 8 b)).toNat : Int) := by
    rw [← hxor]
    exact wrap_toNat (BitVec.ofInt 8 x ||| BitVec.ofInt 8 (bits .xor .u8 a b))
  rw [hor]
  constructor
  · intro h
    have h0 : BitVec.ofInt 8 x ||| (BitVec.ofInt 8 a ^^^ BitVec.ofInt 8 b) = 0#8 := by
      apply BitVec.eq_of_toNat_eq
      have : (BitVec.ofInt 8 x ||| (BitVec.ofInt 8 a ^^^ BitVec.ofInt 8 b)).toNat = 0 := by omega
      rw [this]; rfl
    rw [BitVec.or_eq_zero_iff, BitVec.xor_eq_zero_iff] at h0
    refine ⟨ofInt_inj x 0 hx (by omega) (h0.1.trans rfl), ofInt_inj a b ha hb h0.2⟩
  · rintro ⟨rfl, rfl⟩
    rw [BitVec.xor_self]
    rfl
theorem rd_nat' (l : List Int) (i : Nat) : rd l (i : Int) = l.getD i 0 := by simp [rd, List.getD_eq_getElem?_getD]
theorem same_loop (l0 l1 : List Int) (h : l0.length = l1.length) (hm : l0.length ≤ 4611686018427387904) (hb0 : Bytes l0) (hb1 : Bytes l1) : ∀ (d i k : Nat) (x : Int), i + d = l0.length → d < k → (0 ≤ x ∧ x ≤ 255) →
    mac_Same.l0 k l0 l1 x (l0.length : Int) i = some (decide (x = 0 ∧ l0.drop i = l1.drop i))
  | 0, i, k, x, hi, hk, hx => by
    obtain ⟨k, rfl⟩ : ∃ m, k = m + 1 := ⟨k - 1, by omega⟩
    rw [mac_Same.l0, if_neg (by omega), List.drop_of_length_le (by omega), List.drop_of_length_le (by omega)]
    simp [Bool.beq_eq_decide_eq]
  | d + 1, i, k, x, hi, hk, hx => by
    obtain ⟨k, rfl⟩ : ∃ m, k = m + 1 := ⟨k - 1, by omega⟩
    have h0 : i < l0.length := by omega
    have h1 : i < l1.length := by omega
    have e1 : wrap64 ((i : Int) + 1) = ((i + 1 : Nat) : Int) := by unfold wrap64; omega
    rw [mac_Same.l0, e1]
    clear e1
    rw [if_pos (by omega), if_pos (by omega), if_pos (by omega), if_pos (by omega), rd_nat', rd_nat']
    have g0 : l0.getD i 0 = l0[i] := by rw [List.getD_eq_getElem?_getD, List.getElem?_eq_getElem h0]; rfl
    have g1 : l1.getD i 0 = l1[i] := by rw [List.getD_eq_getElem?_getD, List.getElem?_eq_getElem h1]; rfl
    have b0 := hb0 _ (List.getElem_mem h0)
    have b1 := hb1 _ (List.getElem_mem h1)
    rw [same_loop l0 l1 h hm hb0 hb1 d (i + 1) k _ (by omega) (by omega) ⟨bits_lo_u8 _ _ _, bits_hi_u8 _ _ _⟩, g0, g1]
    rw [List.drop_eq_getElem_cons h0, List.drop_eq_getElem_cons h1]
    congr 1
    rw [decide_eq_decide, or_xor_zero x _ _ hx b0 b1, List.cons.injEq, and_assoc]
theorem same_is (l0 l1 : List Int) (hm : l0.length ≤ 4611686018427387904) (hb0 : Bytes l0) (hb1 : Bytes l1) (k : Nat) (hk : l0.length < k) : mac_Same.f k l0 l1 = some (decide (l0 = l1)) := by
  unfold mac_Same.f
  by_cases h : l0.length = l1.length
  · rw [if_pos (by omega)]
    have := same_loop l0 l1 h hm hb0 hb1 l0.length 0 k 0 (by omega) hk (by omega)
    rw [List.drop_zero, List.drop_zero] at this
    refine this.trans ?_
    simp
  · rw [if_neg (by omega)]
    have : l0 ≠ l1 := fun e => h (by rw [e])
    simp [this]
end Sh
theorem same_.calls (A0 : Option Addr) (c0 : Nat) (l0 : List Int) (A1 : Option Addr) (c1 : Nat) (l1 : List Int) (w : World) (hr0 : Kd.C (Kd.int .u8) w A0 l0.length l0) (hc0 : l0.length ≤ c0) (hr1 : Kd.C (Kd.int .u8) w A1 l1.length l1) (hc1 : l1.length ≤ c1)
    (hm : l0.length ≤ 4611686018427387904) (hb0 : Sh.Bytes l0) (hb1 : Sh.Bytes l1) :
    Calls Tryz.prog 105 #[.slice A0 l0.length c0, .slice A1 l1.length c1] w fun e w' => e = .returned (.bool (decide (l0 = l1))) ∧ ∃ m, w' = w.drewN m :=
  (PBase.mac_Same.calls (l0.length + 1) A0 c0 l0 A1 c1 l1 _ w hr0 hc0 hr1 hc1 (Sh.same_is l0 l1 hm hb0 hb1 _ (Nat.lt_succ_self _))).mono fun _ _ ⟨h1, h2⟩ => ⟨h1, h2.out⟩
end Go.Proofs.YtgljicdpcapgnaaGreatDoor
namespace Go.Proofs.YtgljicdpcapgnaaGreatDoor
open Go.RowKit Go.Proofs.YtgljicdpcapgnaaGreatDoorW.PrintWords Go.Proofs.YtgljicdpcapgnaaGreatDoorW.PrintLast Go.Proofs.YtgljicdpcapgnaaGreatDoorW.PrintMore
namespace Ps
theorem num_ {A : Option Addr} {n c : Nat} {l : List Int} {w : World} (h : Kd.C (Kd.int .u8) w A n l) (hn : l.length = n) (hc : n ≤ c) (hb : Sh.Bytes l) (h8 : n ≤ 8) : Calls Tryz.prog 115 #[.slice A n c] w fun e w' => e = .returned (.int .u64 (num l)) ∧ ∃ m, w' = w.drewN m := by
  subst hn
  exact (PBase.pass_number.calls 10 A c l _ w h hc (number_is l hb h8 10 (by decide))).mono fun _ _ ⟨he, hd⟩ => ⟨he, hd.out⟩
theorem rnum_ {A : Option Addr} {n c : Nat} {l : List Int} {w : World} (h : Kd.C (Kd.int .u8) w A n l) (hn : l.length = n) (hc : n ≤ c) (hb : Sh.Bytes l) (h8 : n ≤ 8) : Calls Tryz.prog 110 #[.slice A n c] w fun e w' => e = .returned (.int .u64 (num l)) ∧ ∃ m, w' = w.drewN m := by
  subst hn
  exact (PBase.coamingref05_number.calls 10 A c l _ w h hc (rnumber_is l hb h8 10 (by decide))).mono fun _ _ ⟨he, hd⟩ => ⟨he, hd.out⟩
theorem sizeTk_ : (Tryz.prog.info? 122).map (·.size) = some 4 := by kernel_rfl
abbrev tk0 : List Value := [.int .u32 0, .int .u32 0, .bool false, .int .u64 0]
end Ps
theorem ptoken_.calls {A : Option Addr} {n c : Nat} {l : List Int} {w : World} (h : Kd.C (Kd.int .u8) w A n l) (hn : l.length = n) (hc : n ≤ c) (hb : Sh.Bytes l) (h18 : 18 ≤ n) {a b d : Int} {ro : Bool} (ht : Ps.tok l = (a, b, ro, d)) :
  Calls Tryz.prog 103 #[.slice A n c] w fun e w' => e = .returned (.agg #[.int .u32 a, .int .u32 b, .bool ro, .int .u64 d]) ∧ Below w.heap.size w w' := by
 have HN := az hn
 have HBY := az hb
 have HT := az ht
 have HSK := az Ps.sizeTk_
 have HB1 : Aside0 (Below w.heap.size w (w.alloc (.cells Ps.tk0.toArray 122))) := ⟨below_alloc (Below.refl _ _) _⟩
 have HX1 : Aside0 (Wk.Blk (w.alloc (.cells Ps.tk0.toArray 122)) w.heap.size 122 Ps.tk0) := ⟨Wk.Blk.new w _ Ps.tk0⟩
 have HC := az (Kd.C_below h HB1.out)
 clear h hn hb ht
 go_enter Tryz.func103, Tryz.ntmps103
 go_upto_region 1 with fail
 generalize hWq : w.alloc (.cells Ps.tk0.toArray 122) = W1 at *
 clear hWq
 obtain ⟨x1, N1⟩ : ∃ x, Aside0 (Ps.num ((l.drop 1).take 4) = x) := ⟨_, ⟨rfl⟩⟩
 obtain ⟨x2, N2⟩ : ∃ x, Aside0 (Ps.num ((l.drop 5).take 4) = x) := ⟨_, ⟨rfl⟩⟩
 obtain ⟨x3, N3⟩ : ∃ x, Aside0 (Ps.num ((l.drop 9).take 8) = x) := ⟨_, ⟨rfl⟩⟩
 obtain ⟨x17, N17⟩ : ∃ x, Aside0 (l.getD 17 0 = x) := ⟨_, ⟨rfl⟩⟩
 obtain ⟨fl, NF⟩ : ∃ b, Aside0 ((x17 == 1) = b) := ⟨_, ⟨rfl⟩⟩
 have HTK : Aside0 (Ps.tok l = (x1, x2, fl, x3)) := ⟨by unfold Ps.tok; rw [N1.out, N2.out, N3.out, N17.out, NF.out]⟩
 obtain ⟨e1, e2⟩ : IntKind.u32.wrap x1 = x1 ∧ IntKind.u32.wrap x2 = x2 := by
  have := Ps.tok_wf l HBY.out
  rw [HTK.out] at this
  exact ⟨Bt.wraps_u32 _ this.1.1 this.1.2, Bt.wraps_u32 _ this.2.1.1 this.2.1.2⟩
 have e3 := NF.out
 obtain ⟨A1, hA1⟩ : ∃ A', (if c = 1 then A else A.map (·.add 1)) = A' := ⟨_, rfl⟩
 have C1 : Aside0 (∀ w', Below W1.heap.size W1 w' → Kd.C (Kd.int .u8) w' A1 4 ((l.drop 1).take 4)) := ⟨fun w' hb => by have := Sh.C_cut (c := c) (at_ := 1) (m := 4) (Kd.C_below HC.out hb) (by omega) (by decide) (by omega); rwa [hA1] at this⟩
 have q1 : ∀ W : World, (Instr.slice 35 (.slice A n c) (some (.int .i64 1)) (some (.int .i64 5)) none).run Tryz.prog W = .ok (.slice A1 4 (c - 1)) W := fun W => by have := Sh.cut2_run W A n c 1 5 (by omega) (by omega); rwa [hA1] at this
 have L1 : Aside0 (((l.drop 1).take 4).length = 4) := ⟨by rw [List.length_take, List.length_drop, HN.out]; omega⟩
 have Y1 := az (Ps.part_bytes l HBY.out 1 4)
 clear hA1
 obtain ⟨A2, hA2⟩ : ∃ A', (if c = 5 then A else A.map (·.add 5)) = A' := ⟨_, rfl⟩
 have C2 : Aside0 (∀ w', Below W1.heap.size W1 w' → Kd.C (Kd.int .u8) w' A2 4 ((l.drop 5).take 4)) := ⟨fun w' hb => by have := Sh.C_cut (c := c) (at_ := 5) (m := 4) (Kd.C_below HC.out hb) (by omega) (by decide) (by omega); rwa [hA2] at this⟩
 have q2 : ∀ W : World, (Instr.slice 35 (.slice A n c) (some (.int .i64 5)) (some (.int .i64 9)) none).run Tryz.prog W = .ok (.slice A2 4 (c - 5)) W := fun W => by have := Sh.cut2_run W A n c 5 9 (by omega) (by omega); rwa [hA2] at this
 have L2 : Aside0 (((l.drop 5).take 4).length = 4) := ⟨by rw [List.length_take, List.length_drop, HN.out]; omega⟩
 have Y2 := az (Ps.part_bytes l HBY.out 5 4)
 clear hA2
 obtain ⟨A3, hA3⟩ : ∃ A', (if c = 9 then A else A.map (·.add 9)) = A' := ⟨_, rfl⟩
 have C3 : Aside0 (∀ w', Below W1.heap.size W1 w' → Kd.C (Kd.int .u8) w' A3 8 ((l.drop 9).take 8)) := ⟨fun w' hb => by have := Sh.C_cut (c := c) (at_ := 9) (m := 8) (Kd.C_below HC.out hb) (by omega) (by decide) (by omega); rwa [hA3] at this⟩
 have q3 : ∀ W : World, (Instr.slice 35 (.slice A n c) (some (.int .i64 9)) (some (.int .i64 17)) none).run Tryz.prog W = .ok (.slice A3 8 (c - 9)) W := fun W => by have := Sh.cut2_run W A n c 9 17 (by omega) (by omega); rwa [hA3] at this
 have L3 : Aside0 (((l.drop 9).take 8).length = 8) := ⟨by rw [List.length_take, List.length_drop, HN.out]; omega⟩
 have Y3 := az (Ps.part_bytes l HBY.out 9 8)
 clear hA3
 obtain ⟨ad, hA, -⟩ := Kd.at_int HC.out 0 (by decide) (by omega)
 subst hA
 have h17 : (17 : Int) < n := by omega
 have Q17 : Aside0 (W1.cell? ⟨ad.block, ad.off + 17, none⟩ = some (.int .u8 x17)) := ⟨by
  obtain ⟨ad', e, hcs⟩ := Kd.at_int HC.out (17 : Nat) (by omega) (by omega)
  obtain rfl := Option.some.inj e
  rw [Ps.rd_nat, Int.toNat_natCast, N17.out] at hcs
  exact hcs⟩
 refine wp_region_noPanic ?_
 refine Rg.s1 17 (fun w' => Below W1.heap.size W1 w') [16] (Below.refl _ _).drew #[false, false, false, false, false, false, false, false, false, false, false, false, false, false, false, false, false] (fun hHeld => ?_)
 refine Rg.p1 0 (.some 3) ?_
 refine Rg.p1 1 (.some 4) ?_
 refine Rg.p1 4 (.some 7) ?_
 refine Rg.p1 5 (.some 8) ?_
 refine Rg.p1 8 (.some 11) ?_
 refine Rg.p1 9 (.some 12) ?_
 refine Rg.p1 11 (.some 14) ?_
 refine Rg.p1 12 (.some 15) ?_
 refine Rg.t1 13 (.some 16) hHeld ?_ (hy := by intro w' hS'; (have c1 := (hS'.cell (World.block_lt_of_cell? _ _ Q17.out)).trans Q17.out; go_simp); first | done | with_reducible rfl)
 refine Rg.p1 14 (.some 17) ?_
 refine Rg.o1 2 (.some 5) (fun K hK => ?_)
 refine call_ 115 #[.slice A1 4 (c - 1)] (by rfl) rfl (by go_simp) ?_
 refine (Ps.num_ (C1.out _ hHeld) L1.out (by omega) Y1.out (by decide)).mono ?_
 rintro e w' ⟨rfl, m1, rfl⟩
 rw [N1.out]
 refine ⟨_, rfl, ?_⟩
 refine hK.out _ _ (pw_below_drewN hHeld m1) (fun hHeld => ?_)
 clear hK K
 refine Rg.n1 ?_
 refine Rg.p1 3 (.some 6) ?_
 refine Rg.o1 6 (.some 9) (fun K hK => ?_)
 refine call_ 115 #[.slice A2 4 (c - 5)] (by rfl) rfl (by go_simp) ?_
 refine (Ps.num_ (C2.out _ hHeld) L2.out (by omega) Y2.out (by decide)).mono ?_
 rintro e w' ⟨rfl, m2, rfl⟩
 rw [N2.out]
 refine ⟨_, rfl, ?_⟩
 refine hK.out _ _ (pw_below_drewN hHeld m2) (fun hHeld => ?_)
 clear hK K
 refine Rg.n1 ?_
 refine Rg.p1 7 (.some 10) ?_
 refine Rg.o1 10 (.some 13) (fun K hK => ?_)
 refine call_ 115 #[.slice A3 8 (c - 9)] (by rfl) rfl (by go_simp) ?_
 refine (Ps.num_ (C3.out _ hHeld) L3.out (by omega) Y3.out (by decide)).mono ?_
 rintro e w' ⟨rfl, m3, rfl⟩
 rw [N3.out]
 refine ⟨_, rfl, ?_⟩
 refine hK.out _ _ (pw_below_drewN hHeld m3) (fun hHeld => ?_)
 clear hK K
 refine Rg.n1 ?_
 refine Rg.p1 15 (.some 18) ?_
 refine Rg.l1 16 none (fun K hK => ?_)
 have HBk := az (below_then HB1.out HB1.out.size hHeld)
 refine Wk.store_all_step (by rfl) rfl 122 (.tmp 2) (.tmp 18) rfl w.heap.size [.int .u32 x1, .int .u32 x2, .bool fl, .int .u64 x3] rfl rfl 122 _ (HX1.out.below_ hHeld) HSK.out rfl rfl ?_
 intro w6 hX hO
 have HX6 := az hX
 have HB6 := az (Wk.Only.below HBk.out hO (Nat.le_refl _))
 clear hX hO
 refine hK.out _ _ ?_
 clear hK K
 refine Rg.d1 ?_
 refine NoPanic.normal ?_
 go_wp2_with fail
 refine bodyPost_ret (Wk.res_c rfl _ w.heap.size 122 _ _ rfl HX6.out Tryz.underlying122 rfl HSK.out) rfl ?_
 have := HTK.out.symm.trans HT.out
 simp only [Prod.mk.injEq] at this
 obtain ⟨rfl, rfl, rfl, rfl⟩ := this
 exact ⟨rfl, HB6.out⟩
namespace Ps
theorem look_no {s : ByteArray} {l : List Int} {e0 : Int} (hr : Sp.readOf (Sp.bs s) = (l, e0)) (h : ¬ (e0 = 0 ∧ l.length = 50 ∧ l.getD 0 0 = 1 ∧ l.getD 17 0 ≤ 1)) : look s = (zt, 50) := by
  unfold look is got form
  rw [hr, if_neg]
  simp only [Bool.and_eq_true, decide_eq_true_eq]
  exact h
theorem look_yes {s : ByteArray} {l : List Int} {e0 : Int} (hr : Sp.readOf (Sp.bs s) = (l, e0)) (h : e0 = 0 ∧ l.length = 50 ∧ l.getD 0 0 = 1 ∧ l.getD 17 0 ≤ 1) : look s = (tok l, 0) := by
  unfold look is got form
  rw [hr, if_pos]
  simp only [Bool.and_eq_true, decide_eq_true_eq]
  exact h
end Ps
theorem rlook_.calls (s : ByteArray) (w : World) (hs : s.size ≤ 10000) {ti se sz er : Int} {ro : Bool} (hl : Ps.look s = ((ti, se, ro, sz), er)) :
  Calls Tryz.prog 99 #[.string s] w fun e w' => e = .returned (.tuple #[.agg #[.int .u32 ti, .int .u32 se, .bool ro, .int .u64 sz], .int .i64 er]) ∧ Below w.heap.size w w' := by
 have HLK := az hl
 have HS := az hs
 have HSK := az Ps.sizeTk_
 have HB0 : Aside0 (Below w.heap.size w (w.alloc (.cells Ps.tk0.toArray 122))) := ⟨below_alloc (Below.refl _ _) _⟩
 have HX0 : Aside0 (Wk.Blk (w.alloc (.cells Ps.tk0.toArray 122)) w.heap.size 122 Ps.tk0) := ⟨Wk.Blk.new w _ Ps.tk0⟩
 obtain ⟨l, e0, HR⟩ : ∃ l e0, Aside0 (Sp.readOf (Sp.bs s) = (l, e0)) := ⟨_, _, ⟨rfl⟩⟩
 have HBY : Aside0 (Sh.Bytes l) := ⟨by have := Ps.got_bytes s; unfold Ps.got at this; rwa [HR.out] at this⟩
 clear hl hs
 go_enter Tryz.func99, Tryz.ntmps99
 go_wp2_with fail
 refine (PBase.coamingref04_Read.calls 700001 s l e0 _ ((Sp.refRead_is s HS.out _ (by decide)).trans (congrArg some HR.out))).mono ?_
 rintro e W1 ⟨v4, rfl, hR, hb⟩
 obtain ⟨A, c, rfl⟩ := Kd.R_slice hR
 obtain ⟨-, hc, hC⟩ := Kd.R_reads' hR
 have HX1 := az (HX0.out.below_ hb)
 have HB1 := az (below_then HB0.out HB0.out.size hb)
 obtain ⟨n, HN⟩ : ∃ n, Aside0 (l.length = n) := ⟨_, ⟨rfl⟩⟩
 rw [HN.out] at hc hC ⊢
 have HC := az hC
 clear hC hb hR HX0 HB0
 by_cases h0 : e0 = 0
 ·have HE0 := az h0
  have b0 : (e0 != 0) = false := bne_eq_false_iff_eq.mpr h0
  clear h0
  by_cases h5 : n = 50
  ·have HN5 := az h5
   have b5 : ((n : Int) != 50) = false := bne_eq_false_iff_eq.mpr (by omega)
   have p0 : (0 : Int) < n := by omega
   have h18 : 18 ≤ n := by omega
   clear h5
   obtain ⟨x1, N1⟩ : ∃ x, Aside0 (Ps.num ((l.drop 1).take 4) = x) := ⟨_, ⟨rfl⟩⟩
   obtain ⟨x2, N2⟩ : ∃ x, Aside0 (Ps.num ((l.drop 5).take 4) = x) := ⟨_, ⟨rfl⟩⟩
   obtain ⟨x3, N3⟩ : ∃ x, Aside0 (Ps.num ((l.drop 9).take 8) = x) := ⟨_, ⟨rfl⟩⟩
   obtain ⟨x17, N17⟩ : ∃ x, Aside0 (l.getD 17 0 = x) := ⟨_, ⟨rfl⟩⟩
   obtain ⟨fl, NF⟩ : ∃ b, Aside0 ((x17 == 1) = b) := ⟨_, ⟨rfl⟩⟩
   have HTK : Aside0 (Ps.tok l = (x1, x2, fl, x3)) := ⟨by unfold Ps.tok; rw [N1.out, N2.out, N3.out, N17.out, NF.out]⟩
   obtain ⟨e1, e2⟩ : IntKind.u32.wrap x1 = x1 ∧ IntKind.u32.wrap x2 = x2 := by
    have := Ps.tok_wf l HBY.out
    rw [HTK.out] at this
    exact ⟨Bt.wraps_u32 _ this.1.1 this.1.2, Bt.wraps_u32 _ this.2.1.1 this.2.1.2⟩
   have e3 := NF.out
   obtain ⟨A1, hA1⟩ : ∃ A', (if c = 1 then A else A.map (·.add 1)) = A' := ⟨_, rfl⟩
   have C1 : Aside0 (∀ w', Below W1.heap.size W1 w' → Kd.C (Kd.int .u8) w' A1 4 ((l.drop 1).take 4)) := ⟨fun w' hb => by have := Sh.C_cut (c := c) (at_ := 1) (m := 4) (Kd.C_below HC.out hb) (by omega) (by decide) (by omega); rwa [hA1] at this⟩
   have q1 : ∀ W : World, (Instr.slice 35 (.slice A n c) (some (.int .i64 1)) (some (.int .i64 5)) none).run Tryz.prog W = .ok (.slice A1 4 (c - 1)) W := fun W => by have := Sh.cut2_run W A n c 1 5 (by omega) (by omega); rwa [hA1] at this
   have L1 : Aside0 (((l.drop 1).take 4).length = 4) := ⟨by rw [List.length_take, List.length_drop, HN.out]; omega⟩
   have Y1 := az (Ps.part_bytes l HBY.out 1 4)
   clear hA1
   obtain ⟨A2, hA2⟩ : ∃ A', (if c = 5 then A else A.map (·.add 5)) = A' := ⟨_, rfl⟩
   have C2 : Aside0 (∀ w', Below W1.heap.size W1 w' → Kd.C (Kd.int .u8) w' A2 4 ((l.drop 5).take 4)) := ⟨fun w' hb => by have := Sh.C_cut (c := c) (at_ := 5) (m := 4) (Kd.C_below HC.out hb) (by omega) (by decide) (by omega); rwa [hA2] at this⟩
   have q2 : ∀ W : World, (Instr.slice 35 (.slice A n c) (some (.int .i64 5)) (some (.int .i64 9)) none).run Tryz.prog W = .ok (.slice A2 4 (c - 5)) W := fun W => by have := Sh.cut2_run W A n c 5 9 (by omega) (by omega); rwa [hA2] at this
   have L2 : Aside0 (((l.drop 5).take 4).length = 4) := ⟨by rw [List.length_take, List.length_drop, HN.out]; omega⟩
   have Y2 := az (Ps.part_bytes l HBY.out 5 4)
   clear hA2
   obtain ⟨A3, hA3⟩ : ∃ A', (if c = 9 then A else A.map (·.add 9)) = A' := ⟨_, rfl⟩
   have C3 : Aside0 (∀ w', Below W1.heap.size W1 w' → Kd.C (Kd.int .u8) w' A3 8 ((l.drop 9).take 8)) := ⟨fun w' hb => by have := Sh.C_cut (c := c) (at_ := 9) (m := 8) (Kd.C_below HC.out hb) (by omega) (by decide) (by omega); rwa [hA3] at this⟩
   have q3 : ∀ W : World, (Instr.slice 35 (.slice A n c) (some (.int .i64 9)) (some (.int .i64 17)) none).run Tryz.prog W = .ok (.slice A3 8 (c - 9)) W := fun W => by have := Sh.cut2_run W A n c 9 17 (by omega) (by omega); rwa [hA3] at this
   have L3 : Aside0 (((l.drop 9).take 8).length = 8) := ⟨by rw [List.length_take, List.length_drop, HN.out]; omega⟩
   have Y3 := az (Ps.part_bytes l HBY.out 9 8)
   clear hA3
   obtain ⟨ad, hA, -⟩ := Kd.at_int HC.out 0 (by decide) (by omega)
   subst hA
   have h17 : (17 : Int) < n := by omega
   have Q17 : Aside0 (W1.cell? ⟨ad.block, ad.off + 17, none⟩ = some (.int .u8 x17)) := ⟨by
    obtain ⟨ad', e, hcs⟩ := Kd.at_int HC.out (17 : Nat) (by omega) (by omega)
    obtain rfl := Option.some.inj e
    rw [Ps.rd_nat, Int.toNat_natCast, N17.out] at hcs
    exact hcs⟩
   obtain ⟨x0, N0⟩ : ∃ x, Aside0 (l.getD 0 0 = x) := ⟨_, ⟨rfl⟩⟩
   have Q0 : W1.cell? ad = some (.int .u8 x0) := by
    obtain ⟨ad', e, hcs⟩ := Kd.at_int HC.out (0 : Nat) (by omega) (by omega)
    obtain rfl := Option.some.inj e
    rw [Ps.rd_nat, Int.toNat_natCast, N0.out, Go.Addr.add_zero'] at hcs
    exact hcs
   have Q17' := Q17.out
   by_cases h1 : x0 = 1
   ·have H1 := az h1
    have b1 : (x0 != 1) = false := bne_eq_false_iff_eq.mpr h1
    clear h1
    by_cases h7 : x17 ≤ 1
    ·have H7 := az h7
     have b7 : decide (x17 > 1) = false := decide_eq_false (by omega)
     have h7' : ¬ 1 < x17 := by omega
     have HYES := az ((Ps.look_yes HR.out ⟨HE0.out, HN.out.trans HN5.out, N0.out.trans H1.out, by rw [N17.out]; exact h7⟩).symm.trans HLK.out)
     clear h7
     go_upto_region 4 with fail
     clear b0 b5 b1 b7 h7' Q0 Q17'
     refine wp_region_noPanic ?_
     refine Rg.s1 18 (fun w' => Below W1.heap.size W1 w') [16] (Below.refl _ _).drew #[false, false, false, false, false, false, false, false, false, false, false, false, false, false, false, false, false, false] (fun hHeld => ?_)
     refine Rg.p1 0 (.some 31) ?_
     refine Rg.p1 1 (.some 32) ?_
     refine Rg.p1 4 (.some 35) ?_
     refine Rg.p1 5 (.some 36) ?_
     refine Rg.p1 8 (.some 39) ?_
     refine Rg.p1 9 (.some 40) ?_
     refine Rg.p1 11 (.some 42) ?_
     refine Rg.p1 12 (.some 43) ?_
     refine Rg.t1 13 (.some 44) hHeld ?_ (hy := by intro w' hS'; (have c1 := (hS'.cell (World.block_lt_of_cell? _ _ Q17.out)).trans Q17.out; go_simp); first | done | with_reducible rfl)
     refine Rg.p1 14 (.some 45) ?_
     refine Rg.o1 2 (.some 33) (fun K hK => ?_)
     refine call_ 110 #[.slice A1 4 (c - 1)] (by rfl) rfl (by go_simp) ?_
     refine (Ps.rnum_ (C1.out _ hHeld) L1.out (by omega) Y1.out (by decide)).mono ?_
     rintro e w' ⟨rfl, m1, rfl⟩
     rw [N1.out]
     refine ⟨_, rfl, ?_⟩
     refine hK.out _ _ (pw_below_drewN hHeld m1) (fun hHeld => ?_)
     clear hK K
     refine Rg.n1 ?_
     refine Rg.p1 3 (.some 34) ?_
     refine Rg.o1 6 (.some 37) (fun K hK => ?_)
     refine call_ 110 #[.slice A2 4 (c - 5)] (by rfl) rfl (by go_simp) ?_
     refine (Ps.rnum_ (C2.out _ hHeld) L2.out (by omega) Y2.out (by decide)).mono ?_
     rintro e w' ⟨rfl, m2, rfl⟩
     rw [N2.out]
     refine ⟨_, rfl, ?_⟩
     refine hK.out _ _ (pw_below_drewN hHeld m2) (fun hHeld => ?_)
     clear hK K
     refine Rg.n1 ?_
     refine Rg.p1 7 (.some 38) ?_
     refine Rg.o1 10 (.some 41) (fun K hK => ?_)
     refine call_ 110 #[.slice A3 8 (c - 9)] (by rfl) rfl (by go_simp) ?_
     refine (Ps.rnum_ (C3.out _ hHeld) L3.out (by omega) Y3.out (by decide)).mono ?_
     rintro e w' ⟨rfl, m3, rfl⟩
     rw [N3.out]
     refine ⟨_, rfl, ?_⟩
     refine hK.out _ _ (pw_below_drewN hHeld m3) (fun hHeld => ?_)
     clear hK K
     refine Rg.n1 ?_
     refine Rg.p1 15 (.some 46) ?_
     refine Rg.l1 16 none (fun K hK => ?_)
     have HBk := az (below_then HB1.out HB1.out.size hHeld)
     refine Wk.store_all_step (by rfl) rfl 122 (.tmp 2) (.tmp 46) rfl w.heap.size [.int .u32 x1, .int .u32 x2, .bool fl, .int .u64 x3] rfl rfl 122 _ (HX1.out.below_ hHeld) HSK.out rfl rfl ?_
     intro w6 hX hO
     have HX6 := az hX
     have HB6 := az (Wk.Only.below HBk.out hO (Nat.le_refl _))
     clear hX hO
     refine hK.out _ _ ?_
     clear hK K
     refine Rg.p1 17 (.some 3) ?_
     refine Rg.d1 ?_
     refine NoPanic.normal ?_
     go_wp2_with fail
     refine bodyPost_ret (Wk.res_ct rfl _ w.heap.size 122 _ _ rfl HX6.out Tryz.underlying122 rfl HSK.out) rfl ?_
     have := HYES.out
     rw [HTK.out] at this
     simp only [Prod.mk.injEq] at this
     obtain ⟨⟨rfl, rfl, rfl, rfl⟩, rfl⟩ := this
     exact ⟨rfl, HB6.out⟩
    ·have b7 : decide (x17 > 1) = true := decide_eq_true (by omega)
     have h7' : 1 < x17 := by omega
     have H7 := az h7
     clear h7
     have hno := az ((Ps.look_no HR.out (fun h => H7.out (by rw [← N17.out]; exact h.2.2.2))).symm.trans HLK.out)
     go_wp2_with (refine Wk.store_all rfl rfl 122 (.tmp 2) (.tmp 30) rfl w.heap.size Ps.tk0 rfl rfl 122 _ HX1.out HSK.out rfl rfl ?_; intro wz hX hO; have HXZ := az hX; have HOZ := az hO; clear hX hO)
     refine bodyPost_ret (Wk.res_ct rfl _ w.heap.size 122 _ _ rfl HXZ.out Tryz.underlying122 rfl HSK.out) rfl ?_
     have := hno.out
     simp only [Ps.zt, Prod.mk.injEq] at this
     obtain ⟨⟨rfl, rfl, rfl, rfl⟩, rfl⟩ := this
     exact ⟨rfl, Wk.Only.below HB1.out HOZ.out (Nat.le_refl _)⟩
   ·have b1 : (x0 != 1) = true := bne_iff_ne.mpr h1
    have H1 := az h1
    clear h1
    have hno := az ((Ps.look_no HR.out (fun h => H1.out (by rw [← N0.out]; exact h.2.2.1))).symm.trans HLK.out)
    go_wp2_with (refine Wk.store_all rfl rfl 122 (.tmp 2) (.tmp 30) rfl w.heap.size Ps.tk0 rfl rfl 122 _ HX1.out HSK.out rfl rfl ?_; intro wz hX hO; have HXZ := az hX; have HOZ := az hO; clear hX hO)
    refine bodyPost_ret (Wk.res_ct rfl _ w.heap.size 122 _ _ rfl HXZ.out Tryz.underlying122 rfl HSK.out) rfl ?_
    have := hno.out
    simp only [Ps.zt, Prod.mk.injEq] at this
    obtain ⟨⟨rfl, rfl, rfl, rfl⟩, rfl⟩ := this
    exact ⟨rfl, Wk.Only.below HB1.out HOZ.out (Nat.le_refl _)⟩
  ·have b5 : ((n : Int) != 50) = true := bne_iff_ne.mpr (by omega)
   have H5 := az h5
   clear h5
   have hno := az ((Ps.look_no HR.out (fun h => H5.out (by rw [← HN.out]; exact h.2.1))).symm.trans HLK.out)
   go_wp2_with (refine Wk.store_all rfl rfl 122 (.tmp 2) (.tmp 30) rfl w.heap.size Ps.tk0 rfl rfl 122 _ HX1.out HSK.out rfl rfl ?_; intro wz hX hO; have HXZ := az hX; have HOZ := az hO; clear hX hO)
   refine bodyPost_ret (Wk.res_ct rfl _ w.heap.size 122 _ _ rfl HXZ.out Tryz.underlying122 rfl HSK.out) rfl ?_
   have := hno.out
   simp only [Ps.zt, Prod.mk.injEq] at this
   obtain ⟨⟨rfl, rfl, rfl, rfl⟩, rfl⟩ := this
   exact ⟨rfl, Wk.Only.below HB1.out HOZ.out (Nat.le_refl _)⟩
 ·have b0 : (e0 != 0) = true := bne_iff_ne.mpr h0
  have H0 := az h0
  clear h0
  have hno := az ((Ps.look_no HR.out (fun h => H0.out h.1)).symm.trans HLK.out)
  go_wp2_with (refine Wk.store_all rfl rfl 122 (.tmp 2) (.tmp 30) rfl w.heap.size Ps.tk0 rfl rfl 122 _ HX1.out HSK.out rfl rfl ?_; intro wz hX hO; have HXZ := az hX; have HOZ := az hO; clear hX hO)
  refine bodyPost_ret (Wk.res_ct rfl _ w.heap.size 122 _ _ rfl HXZ.out Tryz.underlying122 rfl HSK.out) rfl ?_
  have := hno.out
  simp only [Ps.zt, Prod.mk.injEq] at this
  obtain ⟨⟨rfl, rfl, rfl, rfl⟩, rfl⟩ := this
  exact ⟨rfl, Wk.Only.below HB1.out HOZ.out (Nat.le_refl _)⟩
end Go.Proofs.YtgljicdpcapgnaaGreatDoor
namespace Go.Proofs.YtgljicdpcapgnaaGreatDoor
open Go.RowKit Go.Proofs.YtgljicdpcapgnaaGreatDoor.PBase Go.Proofs.YtgljicdpcapgnaaGreatDoorW.PrintWords Go.Proofs.YtgljicdpcapgnaaGreatDoorW.PrintLast Go.Proofs.YtgljicdpcapgnaaGreatDoorW.PrintMore
namespace Ps
theorem same1_ {A0 A1 : Option Addr} {n0 n1 c0 c1 : Nat} {l0 l1 : List Int} {w : World} (h0 : Kd.C (Kd.int .u8) w A0 l0.length l0) (hn0 : l0.length = n0) (hc0 : n0 ≤ c0) (h1 : Kd.C (Kd.int .u8) w A1 l1.length l1) (hn1 : l1.length = n1) (hc1 : n1 ≤ c1) (hm : n0 ≤ 4611686018427387904) (hb0 : Sh.Bytes l0) (hb1 : Sh.Bytes l1) {b : Bool} (hb : decide (l0 = l1) = b) :
    Calls Tryz.prog 105 #[.slice A0 n0 c0, .slice A1 n1 c1] w fun e w' => e = .returned (.bool b) ∧ Below w.heap.size w w' := by
  subst hn0; subst hn1; subst hb
  exact (same_.calls A0 c0 l0 A1 c1 l1 w h0 hc0 h1 hc1 hm hb0 hb1).mono (fun _ _ ⟨a, m, hm⟩ => ⟨a, by rw [hm]; exact pw_below_drewN (Below.refl _ _) m⟩)
theorem cont_ {A : Option Addr} {n c : Nat} {l : List Int} {x : Int} {w : World} (h : Kd.C (Kd.int .u32) w A l.length l) (hn : l.length = n) (hc : n ≤ c) (hm : n ≤ 1000000) {b : Bool} (hb : decide (x ∈ l) = b) :
    Calls Tryz.prog 106 #[.slice A n c, .int .u32 x] w fun e w' => e = .returned (.bool b) ∧ Below w.heap.size w w' := by
  subst hn; subst hb
  exact (slices_Contains_uint32_uint32.calls (l.length + 1) A c l x _ w h hc (contains_is l x hm _ (Nat.lt_succ_self _))).mono (fun _ _ ⟨a, h⟩ => ⟨a, by obtain ⟨m, hm⟩ := h.out; rw [hm]; exact pw_below_drewN (Below.refl _ _) m⟩)
theorem token_ {A : Option Addr} {n c : Nat} {l : List Int} {w : World} (h : Kd.C (Kd.int .u8) w A l.length l) (hn : l.length = n) (hc : n ≤ c) (hb : Sh.Bytes l) (h18 : 18 ≤ n) {a b d : Int} {ro : Bool} (ht : tok l = (a, b, ro, d)) :
    Calls Tryz.prog 103 #[.slice A n c] w fun e w' => e = .returned (.agg #[.int .u32 a, .int .u32 b, .bool ro, .int .u64 d]) ∧ Below w.heap.size w w' := by
  subst hn
  exact ptoken_.calls h rfl hc hb h18 ht
theorem cutTo {A : Option Addr} {n c : Nat} {l : List Int} (hn : l.length = n) (h : 18 ≤ n) (hc : n ≤ c) : ∀ W : World, (Instr.slice 35 (.slice A n c) none (some (.int .i64 18)) none).run Tryz.prog W = .ok (.slice A 18 c) W := by
  subst hn
  exact Wk.cut_to_ 35 5 .i64 Tryz.underlying35 (by kernel_rfl) A c l 18 18 rfl h hc
theorem cutFrom {A : Option Addr} {n c : Nat} {l : List Int} (hn : l.length = n) (h : 18 ≤ n) (hc : n ≤ c) : ∃ A' : Option Addr, (∀ W : World, (Instr.slice 35 (.slice A n c) (some (.int .i64 18)) none none).run Tryz.prog W = .ok (.slice A' (n - 18) (c - 18)) W) ∧
      ∀ W : World, Kd.C (Kd.int .u8) W A l.length l → Kd.C (Kd.int .u8) W A' (l.drop 18).length (l.drop 18) := by
  subst hn
  exact Wk.cut_from_ 35 5 .i64 Tryz.underlying35 (by kernel_rfl) .u8 A c l 18 18 rfl h hc
abbrev zt4 : List Value := [.int .u32 0, .int .u32 0, .bool false, .int .u64 0]
def ChPost (w : World) (l : List Tn) (s : ByteArray) (e : Ending) (w' : World) : Prop :=
  e = .returned (.tuple #[.agg (tkc (check l s).1).toArray, .int .u16 (check l s).2]) ∧ Below w.heap.size w w'
theorem check_form {l : List Tn} {s : ByteArray} (h : ¬ is s = true) : check l s = (zt, 50) := if_neg h
theorem check_none {l : List Tn} {s : ByteArray} (h : is s = true) (hf : find l (tok (got s)).1 = none) : check l s = (zt, 51) := by
  unfold check
  rw [if_pos h, hf]
theorem check_some {l : List Tn} {s : ByteArray} (h : is s = true) {x : Tn} (hf : find l (tok (got s)).1 = some x) : check l s = verdict x (got s) := by
  unfold check
  rw [if_pos h, hf]
end Ps
theorem check_.calls (p base : Nat) (l : List Ps.Tn) (s : ByteArray) (w : World) (hk : Sh.Ks w) (hT : Ps.Tb w base p l) (hs : s.size ≤ 1000000) (hW : ∀ x ∈ l, Ps.TnWf x) :
  Calls Tryz.prog 86 #[.pointer (some ⟨p, 0, none⟩), .string s] w (Ps.ChPost w l s) := by
 obtain ⟨bm, _, _, hP, hM⟩ := hT
 have HP := az hP
 have HM := az hM
 have HK := az hk
 have HW := az hW
 have HSZ := az Ps.sizeTn
 have HSK := az Ps.sizeTk
 have HZ4 : Aside0 (Below w.heap.size w (w.alloc (.cells Ps.zt4.toArray 122))) := ⟨below_alloc (Below.refl _ _) _⟩
 have HX4 : Aside0 (Wk.Blk (w.alloc (.cells Ps.zt4.toArray 122)) w.heap.size 122 Ps.zt4) := ⟨Wk.Blk.new w _ Ps.zt4⟩
 clear hP hM hk hW
 go_enter Tryz.func86, Tryz.ntmps86
 go_wp2_with fail
 refine (pass_read.calls (s.size + 2) s (Ps.got s) (Ps.is s) _ (Ps.read_is s hs _ (Nat.lt_succ_self _))).mono ?_
 rintro e w2 ⟨v2, rfl, hR2, hb2⟩
 obtain ⟨A2, c2, rfl⟩ := Kd.R_slice hR2
 obtain ⟨m, HMM⟩ : ∃ n, Aside0 ((Ps.got s).length = n) := ⟨_, ⟨rfl⟩⟩
 have HX2 := az (HX4.out.below_ hb2)
 have HB2 := az (below_then HZ4.out HZ4.out.size hb2)
 obtain ⟨hc2, hC2⟩ : (Ps.got s).length ≤ c2 ∧ Kd.C (Kd.int .u8) w2 A2 (Ps.got s).length (Ps.got s) := by
  obtain ⟨A', c', he, h1, h2⟩ := Kd.R_reads hR2
  injection he with e1 e2 e3
  subst e1; subst e3
  exact ⟨h1, h2⟩
 rw [HMM.out] at hc2 ⊢
 have HC2 := az hC2
 obtain ⟨fi, HFI⟩ : ∃ b, Aside0 (Ps.is s = b) := ⟨_, ⟨rfl⟩⟩
 rw [HFI.out]
 clear hR2 hb2 hC2 HZ4 HX4
 cases fi with
 | false =>
  go_wp2_with (refine Wk.store_all rfl rfl 122 (.tmp 4) (.tmp 19) rfl w.heap.size Ps.zt4 rfl rfl 122 _ HX2.out HSK.out rfl rfl ?_; intro wz hX hO; have HXZ := az hX; have HOZ := az hO; clear hX hO)
  refine bodyPost_ret (Wk.res_ct rfl _ w.heap.size 122 _ _ rfl HXZ.out Tryz.underlying122 rfl HSK.out) rfl ?_
  refine ⟨?_, Wk.Only.below HB2.out HOZ.out (Nat.le_refl _)⟩
  rw [Ps.check_form (by rw [HFI.out]; exact Bool.false_ne_true)]
  rfl
 | true =>
  obtain ⟨hfm, hgb, -⟩ := Ps.got_of s HFI.out
  have hm50 : m = 50 := by
   unfold Ps.form at hfm
   rw [decide_eq_true_eq] at hfm
   rw [← HMM.out]
   exact hfm.1
  have HGB := az hgb
  have HM50 := az hm50
  have hwf := Ps.tok_wf _ hgb
  obtain ⟨tk, HTK⟩ : ∃ t, Aside0 (Ps.tok (Ps.got s) = t) := ⟨_, ⟨rfl⟩⟩
  rw [HTK.out] at hwf
  obtain ⟨ti, se, ro, sz⟩ := tk
  have HTW : Aside0 ((0 ≤ ti ∧ ti < 4294967296) ∧ (0 ≤ se ∧ se < 4294967296) ∧ (0 ≤ sz ∧ sz < 18446744073709551616)) := ⟨hwf⟩
  clear hwf
  clear hfm hgb hm50 hs
  go_wp2_with fail
  refine (Ps.token_ HC2.out HMM.out hc2 HGB.out (by rw [HM50.out]; decide) HTK.out).mono ?_
  rintro e w3 ⟨rfl, hb3⟩
  have HB3 := az (below_then HB2.out HB2.out.size hb3)
  have HX3 := az (HX2.out.below_ hb3)
  have HC3 := az (Kd.C_below HC2.out hb3)
  clear hb3 HX2 HC2 HB2
  go_wp2_with fail
  generalize hWq : World.alloc w3 _ = w4
  have HB4 : Aside0 (Below w.heap.size w w4) := ⟨by rw [← hWq]; exact HB3.out.alloc HB3.out.size _⟩
  have HBD : Aside0 (Below w3.heap.size w3 w4) := ⟨by rw [← hWq]; exact below_alloc (Below.refl _ _) _⟩
  have HK4 : Aside0 (Wk.Blk w4 w3.heap.size 122 (Ps.tkc (ti, se, ro, sz))) := ⟨by rw [← hWq]; exact Wk.Blk.new w3 _ (Ps.tkc (ti, se, ro, sz))⟩
  have HX4 := az (HX3.out.below_ HBD.out)
  have HC4 := az (Kd.C_below HC3.out HBD.out)
  have HP4 := az (HP.out.below_ HB4.out)
  obtain ⟨g8, HG8⟩ : ∃ b, Aside0 (w3.heap.size = b) := ⟨_, ⟨rfl⟩⟩
  rw [HG8.out] at HK4 ⊢
  clear hWq HB3 HX3 HC3 HBD HG8 HP
  obtain ⟨A0, d0, A1, d1, hlo, hc0, hc1, g0, g1⟩ := (HM.out.below HB4.out).looks ti HTW.out.1.1 HTW.out.1.2
  obtain ⟨hwf, hwn⟩ : Ps.TnWf ((Ps.find l ti).getD Ps.zn) ∧ ((Ps.find l ti).isSome = true → Ps.find l ti = some ((Ps.find l ti).getD Ps.zn)) := ⟨Ps.got_wf HW.out ti, fun h => by
   obtain ⟨y, hy⟩ := Option.isSome_iff_exists.1 h
   rw [hy]; rfl⟩
  obtain ⟨fd, HFD⟩ : ∃ b, Aside0 ((Ps.find l ti).isSome = b) := ⟨_, ⟨rfl⟩⟩
  obtain ⟨x, HXX⟩ : ∃ x, Aside0 ((Ps.find l ti).getD Ps.zn = x) := ⟨_, ⟨rfl⟩⟩
  rw [HXX.out] at hlo hc0 hc1 g0 g1 hwf hwn
  rw [HFD.out] at hlo hwn
  have HFN := az hwn
  obtain ⟨i, l0, q, sx, l1⟩ := x
  obtain ⟨_, hm0, hm1, hby⟩ := hwf
  change l0.length ≤ 1000 at hm0
  change l1.length ≤ 1000 at hm1
  simp only [Ps.tnc] at hlo hc0 hc1 g0 g1
  have HG0 := az g0
  have HG1 := az g1
  have HBY : Aside0 (Sh.Bytes l0) := ⟨hby⟩
  obtain ⟨n0, HN0⟩ : ∃ n, Aside0 (l0.length = n) := ⟨_, ⟨rfl⟩⟩
  obtain ⟨n1, HN1⟩ : ∃ n, Aside0 (l1.length = n) := ⟨_, ⟨rfl⟩⟩
  rw [HN0.out] at hm0 hc0 hlo
  rw [HN1.out] at hm1 hc1 hlo
  have HLO := az hlo
  clear g0 g1 hby hlo hwn HXX
  refine wp_region_noPanic ?_
  refine Rg.s1 13 (fun w' => Below w4.heap.size w4 w') [11] (Below.refl _ _).drew #[false, false, false, false, false, false, false, false, false, false, false, false, false] (fun hHeld => ?_)
  refine Rg.p1 0 (.some 23) ?_
  refine Rg.p1 1 (.some 24) ?_
  refine Rg.p1 2 (.some 25) ?_
  refine Rg.t1 3 (.some 26) hHeld ?_ (hy := by intro w' hS'; (have c1 := (HP4.out.below_ hS').at_ 0 rfl; go_simp); first | done | with_reducible rfl)
  refine Rg.p1 4 (.some 27) ?_
  refine Rg.t1 5 (.some 28) hHeld ?_ (hy := by intro w' hS'; (have c1 := (HK4.out.below_ hS').at_ 0 rfl; go_simp); first | done | with_reducible rfl)
  refine Rg.t1 6 (.some 29) hHeld ?_ (hy := by intro w' hS'; (have c1 := HLO.out w' hS'; go_simp); first | done | with_reducible rfl)
  refine Rg.p1 7 (.some 22) ?_
  refine Rg.p1 8 (.some 30) ?_
  refine Rg.p1 9 (.some 31) ?_
  refine Rg.o1 10 (.some 9) (fun K hK => ?_)
  refine value_ (w1 := w4.drew.alloc (.cells Ps.z5.toArray 74)) (v := .pointer (some ⟨w4.drew.heap.size, 0, none⟩)) (by rfl) rfl (by go_simp) ?_
  refine hK.out _ _ (hHeld.alloc hHeld.size _) (fun hHeld => ?_)
  clear hK K
  refine Rg.n1 ?_
  refine Rg.l1 11 none (fun K hK => ?_)
  refine Wk.store_all_step (by rfl) rfl 74 (.tmp 9) (.tmp 30) rfl w4.drew.heap.size (Ps.tv i q sx (.slice A0 n0 d0) (.slice A1 n1 d1)) rfl rfl 74 Ps.z5 (Wk.Blk.new w4.drew 74 Ps.z5) HSZ.out rfl rfl ?_
  intro w5 hX hO
  have HX9 := az hX
  have HO5 := az hO
  clear hX hO
  refine hK.out _ _ ?_
  clear hK K
  refine Rg.p1 12 (.some 10) ?_
  refine Rg.d1 ?_
  refine NoPanic.normal ?_
  have HF5 := az (Wk.Only.fresh (w := w4.drew) HB4.out.drew HB4.out.size HO5.out)
  have HBD : Aside0 (Below w4.heap.size w4 w5) := ⟨Below.trans (Below.refl _ _).drew HF5.out.2.2⟩
  have HB5 : Aside0 (Below w.heap.size w w5) := ⟨HF5.out.2.1⟩
  have HX5 := az (HX4.out.below_ HBD.out)
  have HK5 := az (HK4.out.below_ HBD.out)
  have HC5 := az (Kd.C_below HC4.out HBD.out)
  have HG05 := az (Kd.C_below HG0.out HBD.out)
  have HG15 := az (Kd.C_below HG1.out HBD.out)
  obtain ⟨g9, HG9⟩ : ∃ b, Aside0 (w4.drew.heap.size = b) := ⟨_, ⟨rfl⟩⟩
  rw [HG9.out] at HX9 ⊢
  clear HBD HF5 HO5 HX4 HK4 HC4 HP4 HB4 HG0 HG1 HLO HG9 hHeld HM
  cases fd with
  | false =>
   go_wp2_with (refine Wk.store_all rfl rfl 122 (.tmp 4) (.tmp 34) rfl w.heap.size Ps.zt4 rfl rfl 122 _ HX5.out HSK.out rfl rfl ?_; intro wz hX hO; have HXZ := az hX; have HOZ := az hO; clear hX hO)
   refine bodyPost_ret (Wk.res_ct rfl _ w.heap.size 122 _ _ rfl HXZ.out Tryz.underlying122 rfl HSK.out) rfl ?_
   refine ⟨?_, Wk.Only.below HB5.out HOZ.out (Nat.le_refl _)⟩
   rw [Ps.check_none HFI.out (by rw [HTK.out]; exact Option.isNone_iff_eq_none.1 (by have := HFD.out; rw [Option.isNone_iff_eq_none]; cases h : Ps.find l ti with | none => rfl | some y => rw [h] at this; cases this))]
   rfl
  | true =>
   have HFS : Aside0 (Ps.check l s = Ps.verdict ⟨i, l0, q, sx, l1⟩ (Ps.got s)) := ⟨Ps.check_some HFI.out (by rw [HTK.out]; exact HFN.out rfl)⟩
   clear HFN HFD
   go_wp2_with fail
   have hcut := Ps.cutTo (A := A2) HMM.out (by rw [HM50.out]; decide) hc2
   obtain ⟨A3, hcutf, hcf⟩ := Ps.cutFrom (A := A2) HMM.out (by rw [HM50.out]; decide) hc2
   have HCF : Aside0 (∀ W : World, Kd.C (Kd.int .u8) W A2 (Ps.got s).length (Ps.got s) → Kd.C (Kd.int .u8) W A3 ((Ps.got s).drop 18).length ((Ps.got s).drop 18)) := ⟨hcf⟩
   clear hcf
   obtain ⟨bd, HBD⟩ : ∃ l, Aside0 ((Ps.got s).take 18 = l) := ⟨_, ⟨rfl⟩⟩
   have HBL : Aside0 (bd.length = 18) := ⟨by rw [← HBD.out, List.length_take, HMM.out, HM50.out]; rfl⟩
   have HBB : Aside0 (Sh.Bytes bd) := ⟨by rw [← HBD.out]; exact fun x hx => HGB.out x (List.mem_of_mem_take hx)⟩
   have HCT : Aside0 (∀ W : World, Kd.C (Kd.int .u8) W A2 (Ps.got s).length (Ps.got s) → Kd.C (Kd.int .u8) W A2 bd.length bd) := ⟨fun W h => by
    rw [← HBD.out]
    exact Kd.C_take h (by rw [HMM.out, HM50.out]; decide)⟩
   obtain ⟨D, HDD⟩ : ∃ D, Aside0 (Sh.u8s (Sh.hm l0 bd) = D) := ⟨_, ⟨rfl⟩⟩
   have HIF := az (Sh.tag_info HDD.out)
   have HOF : Aside0 (∀ (W : World) (b : Nat), Below w5.heap.size w5 W → W.cell? ⟨b, 0, none⟩ = some (.slice A2 18 c2) → Calls Tryz.prog 104 #[.slice A0 n0 d0, .slice (some ⟨b, 0, none⟩) 1 1] W fun e w' => e = .returned (.agg D) ∧ Below W.heap.size W w') := ⟨fun W b hb hc =>
    Sh.of1_ (HK.out.below (below_then HB5.out HB5.out.size hb)) (Kd.C_below HG05.out hb) HN0.out hc0 HBY.out (by omega) (HCT.out W (Kd.C_below HC5.out hb)) HBL.out (by have := HM50.out; omega) HBB.out (by decide) hc HDD.out⟩
   refine wp_region_noPanic ?_
   refine Rg.s1 8 (fun w' => Below w5.heap.size w5 w') [7] (Below.refl _ _).drew #[false, false, false, false, false, false, false, false] (fun hHeld => ?_)
   refine Rg.p1 0 (.some 35) ?_
   refine Rg.t1 1 (.some 36) hHeld ?_ (hy := by intro w' hS'; (have c1 := (HX9.out.below_ hS').at_ 1 rfl; go_simp); first | done | with_reducible rfl)
   refine Rg.p1 2 (.some 37) ?_
   refine Rg.p1 3 (.some 38) ?_ (hy := by intro w'; (have h1 := hcut w'; go_simp); first | done | with_reducible rfl)
   have HH := az hHeld
   generalize w5.drew = w6 at hHeld HH ⊢
   refine join_ (σ := Nat × Nat) (fuel' := 1) #[true, true, true, true, true, true, true, false] (fun s => [(39, .slice (some ⟨s.1, 0, none⟩) 1 1), (40, .agg D), (11, .pointer (some ⟨s.2, 0, none⟩))]) (fun s w' => Below w6.heap.size w6 w' ∧ w6.heap.size ≤ s.2 ∧ w'.heap[s.2]? = some (.cells (Sh.u8s (List.replicate 32 0)) 152 (0, 0))) ?_ (fun hJ => ?_)
   ·rintro ⟨b4, b11⟩ w7 ⟨hB7, hge, hO7⟩
    refine norm_ (a' := ?_) ?_ ?_
    rotate_left
    ·show Act.put (Act.put (Act.put _ (some 39) _) (some 40) _) (some 11) _ = _
     simp only [Act.put, List.setIfInBounds_toArray, List.set_cons_zero, List.set_cons_succ]
     rfl
    change w7.heap[b11]? = _ at hO7
    change w6.heap.size ≤ b11 at hge
    refine last_ (i := 7) (N := none) #[true, true, true, true, true, true, true, true] rfl rfl (by kernel_rfl) (by decide) (fun K hK => ?_)
    refine skip_ (w1 := w7.setRow b11 D) (by rfl) rfl (Sh.store_exec rfl rfl rfl hO7 HIF.out.1 HIF.out.2.1 HIF.out.2.2) ?_
    have HD8 : Aside0 ((w7.setRow b11 D).heap[b11]? = some (.cells D 152 (0, 0))) := ⟨setRow_heap _ _ _ _ _ _ hO7⟩
    have HB8 : Aside0 (Below w5.heap.size w5 (w7.setRow b11 D)) := ⟨below_then HH.out HH.out.size (below_setRow hB7 hge D)⟩
    generalize w7.setRow b11 D = w8 at HD8 HB8 ⊢
    refine hK.out _ _ ?_
    clear hK K hO7 hge hB7
    refine done_ (by kernel_rfl) ?_
    refine NoPanic.normal ?_
    have HX8 := az (HX5.out.below_ HB8.out)
    have HK8 := az (HK5.out.below_ HB8.out)
    have HX98 := az (HX9.out.below_ HB8.out)
    have HC8 := az (HCF.out _ (Kd.C_below HC5.out HB8.out))
    have HG18 := az (Kd.C_below HG15.out HB8.out)
    have HB58 := az (below_then HB5.out HB5.out.size HB8.out)
    have HT8 := az (Sh.tag_reads HDD.out HD8.out)
    have hsl := Sh.slice_all32 b11
    clear hHeld hcut
    clear HX5 HK5 HX9 HC5 HG15 HB5 HG05 HOF HCT HH HB8 HD8
    go_wp2_with fail
    refine wp_region_noPanic ?_
    refine Rg.s1 6 (fun w' => Below w8.heap.size w8 w') [] (Below.refl _ _).drew #[false, false, false, false, false, false] (fun hHeld => ?_)
    refine Rg.p1 0 (.some 42) ?_ (hy := by intro w'; (have h1 := hsl w'; go_simp); first | done | with_reducible rfl)
    refine Rg.p1 1 (.some 43) ?_
    refine Rg.p1 2 (.some 44) ?_ (hy := by intro w'; (have h1 := hcutf w'; go_simp); first | done | with_reducible rfl)
    refine Rg.o1 3 (.some 45) (fun K hK => ?_)
    refine call_ 105 #[.slice (some ⟨b11, 0, none⟩) 32 32, .slice A3 (m - 18) (c2 - 18)] (by rfl) rfl (by go_simp) ?_
    obtain ⟨sm, HSM⟩ : ∃ b, Aside0 (decide (Sh.hm l0 bd = (Ps.got s).drop 18) = b) := ⟨_, ⟨rfl⟩⟩
    refine (Ps.same1_ (Kd.C_below HT8.out hHeld) (Ps.hm_len _ _) (Nat.le_refl _) (Kd.C_below HC8.out hHeld) (by rw [List.length_drop, HMM.out]) (by omega) (by decide) (Ps.hm_bytes _ _) (fun x hx => HGB.out x (List.mem_of_mem_drop hx)) HSM.out).mono ?_
    rintro e w9 ⟨rfl, hb9⟩
    have HB9 := az (below_then hHeld hHeld.size hb9)
    clear hb9
    refine ⟨_, rfl, ?_⟩
    refine hK.out _ _ HB9.out (fun hHeld => ?_)
    clear hK K
    refine Rg.n1 ?_
    refine Rg.p1 4 (.some 46) ?_
    refine Rg.p1 5 (.some 41) ?_
    refine Rg.d1 ?_
    refine NoPanic.normal ?_
    have HX9 := az (HX8.out.below_ HB9.out)
    have HB59 := az (below_then HB58.out HB58.out.size HB9.out)
    have HG19 := az (Kd.C_below HG18.out HB9.out)
    have HK9 := az (HK8.out.below_ HB9.out)
    have HX99 := az (HX98.out.below_ HB9.out)
    clear HX8 HK8 HX98 HC8 HG18 HB58 HT8 hHeld hsl HB9 hcutf
    cases sm with
    | false =>
     go_wp2_with (refine Wk.store_all rfl rfl 122 (.tmp 4) (.tmp 47) rfl w.heap.size Ps.zt4 rfl rfl 122 _ HX9.out HSK.out rfl rfl ?_; intro wz hX hO; have HXZ := az hX; have HOZ := az hO; clear hX hO)
     refine bodyPost_ret (Wk.res_ct rfl _ w.heap.size 122 _ _ rfl HXZ.out Tryz.underlying122 rfl HSK.out) rfl ?_
     refine ⟨?_, Wk.Only.below HB59.out HOZ.out (Nat.le_refl _)⟩
     rw [HFS.out, Ps.verdict, if_pos (by rw [HBD.out]; exact of_decide_eq_false HSM.out)]
     rfl
    | true =>
     have HV1 : Aside0 (Ps.check l s = if (Ps.tok (Ps.got s)).2.1 ∈ l1 then (Ps.zt, 53) else if (Ps.tok (Ps.got s)).2.2.2 = 0 ∨ (Ps.tok (Ps.got s)).2.2.2 > sx then (Ps.zt, 54) else (Ps.tok (Ps.got s), 0)) := ⟨by
      rw [HFS.out, Ps.verdict, if_neg (by rw [HBD.out]; exact fun h => h (of_decide_eq_true HSM.out))]⟩
     have c1 := HX99.out.at_ 4 rfl
     have c2 := HK9.out.at_ 1 rfl
     go_wp2_with fail
     obtain ⟨cn, HCN⟩ : ∃ b, Aside0 (decide (se ∈ l1) = b) := ⟨_, ⟨rfl⟩⟩
     refine (Ps.cont_ HG19.out HN1.out hc1 (by omega) HCN.out).mono ?_
     rintro e w10 ⟨rfl, hb10⟩
     have HX10 := az (HX9.out.below_ hb10)
     have HB10 := az (below_then HB59.out HB59.out.size hb10)
     have HK10 := az (HK9.out.below_ hb10)
     have HX910 := az (HX99.out.below_ hb10)
     clear HX9 HB59 HK9 HX99 HG19 hb10 c1 c2
     have HV2 : Aside0 (Ps.check l s = if se ∈ l1 then (Ps.zt, 53) else if sz = 0 ∨ sz > sx then (Ps.zt, 54) else ((ti, se, ro, sz), 0)) := ⟨by
      have := HV1.out
      rw [HTK.out] at this
      exact this⟩
     cases cn with
     | true =>
      go_wp2_with (refine Wk.store_all rfl rfl 122 (.tmp 4) (.tmp 54) rfl w.heap.size Ps.zt4 rfl rfl 122 _ HX10.out HSK.out rfl rfl ?_; intro wz hX hO; have HXZ := az hX; have HOZ := az hO; clear hX hO)
      refine bodyPost_ret (Wk.res_ct rfl _ w.heap.size 122 _ _ rfl HXZ.out Tryz.underlying122 rfl HSK.out) rfl ?_
      refine ⟨?_, Wk.Only.below HB10.out HOZ.out (Nat.le_refl _)⟩
      rw [HV2.out, if_pos (of_decide_eq_true HCN.out)]
      rfl
     | false =>
      have HV3 : Aside0 (Ps.check l s = if sz = 0 ∨ sz > sx then (Ps.zt, 54) else ((ti, se, ro, sz), 0)) := ⟨by rw [HV2.out, if_neg (of_decide_eq_false HCN.out)]⟩
      have c3 := HK10.out.at_ 3 rfl
      have c4 := HX910.out.at_ 3 rfl
      by_cases hz : sz = 0
      ·have hzb : (sz == 0) = true := by simpa using hz
       go_wp2_with (refine Wk.store_all rfl rfl 122 (.tmp 4) (.tmp 64) rfl w.heap.size Ps.zt4 rfl rfl 122 _ HX10.out HSK.out rfl rfl ?_; intro wz hX hO; have HXZ := az hX; have HOZ := az hO; clear hX hO)
       refine bodyPost_ret (Wk.res_ct rfl _ w.heap.size 122 _ _ rfl HXZ.out Tryz.underlying122 rfl HSK.out) rfl ?_
       refine ⟨?_, Wk.Only.below HB10.out HOZ.out (Nat.le_refl _)⟩
       rw [HV3.out, if_pos (.inl hz)]
       rfl
      ·have hzb : (sz == 0) = false := by simpa using hz
       by_cases hx : sz > sx
       ·have hxb : sx < sz := hx
        go_wp2_with (refine Wk.store_all rfl rfl 122 (.tmp 4) (.tmp 64) rfl w.heap.size Ps.zt4 rfl rfl 122 _ HX10.out HSK.out rfl rfl ?_; intro wz hX hO; have HXZ := az hX; have HOZ := az hO; clear hX hO)
        refine bodyPost_ret (Wk.res_ct rfl _ w.heap.size 122 _ _ rfl HXZ.out Tryz.underlying122 rfl HSK.out) rfl ?_
        refine ⟨?_, Wk.Only.below HB10.out HOZ.out (Nat.le_refl _)⟩
        rw [HV3.out, if_pos (.inr hx)]
        rfl
       ·have hrun : (Instr.loadAt 122 (.pointer (some ⟨g8, 0, none⟩))).run Tryz.prog w10 = .ok (.agg (Ps.tkc (ti, se, ro, sz)).toArray) w10 := Wk.run_load_blk (P := Tryz.prog) 122 g8 0 (Ps.tkc (ti, se, ro, sz)) _ HK10.out rfl Tryz.underlying122 rfl HSK.out
        go_wp2_with (first
         | refine Wk.load rfl 122 (.tmp 8) rfl _ (.pointer (some ⟨g8, 0, none⟩)) rfl hrun ?_
         | (refine Wk.store_all rfl rfl 122 (.tmp 4) (.tmp 65) rfl w.heap.size (Ps.tkc (ti, se, ro, sz)) rfl rfl 122 _ HX10.out HSK.out rfl rfl ?_; intro wz hX hO; have HXZ := az hX; have HOZ := az hO; clear hX hO))
        refine bodyPost_ret (Wk.res_ct rfl _ w.heap.size 122 _ _ rfl HXZ.out Tryz.underlying122 rfl HSK.out) rfl ?_
        refine ⟨?_, Wk.Only.below HB10.out HOZ.out (Nat.le_refl _)⟩
        rw [HV3.out, if_neg (fun h => h.elim hz (fun h => by omega))]
        rfl
   ·have HHW : Aside0 (Below w6.heap.size w6 w6) := ⟨Below.refl _ _⟩
    refine two_ (i := 4) (j := 6) (Ni := some 39) (Nj := some 11) #[true, true, true, true, true, false, false, false] #[true, true, true, true, false, false, true, false] rfl rfl rfl rfl (by kernel_rfl) (by decide) (by decide) (fun K hK => ?_) (fun K hK => ?_)
    ·refine value_ (w1 := w6.alloc (.cells #[.slice A2 18 c2] 35)) (v := .slice (some ⟨w6.heap.size, 0, none⟩) 1 1) (by rfl) rfl (by first | (go_simp; done) | (go_simp; rfl)) ?_
     have hce : (w6.alloc (.cells #[.slice A2 18 c2] 35)).cell? ⟨w6.heap.size, 0, none⟩ = some (.slice A2 18 c2) := Lit.cell_new w6 #[.slice A2 18 c2] 35 (0, 0) 0
     have hbn : Below w6.heap.size w6 (w6.alloc (.cells #[.slice A2 18 c2] 35)) := below_alloc (Below.refl _ _) _
     generalize World.alloc w6 (.cells #[.slice A2 18 c2] 35) = w4_w6 at *
     have HCE := az hce
     have hbt : Below w5.heap.size w5 w4_w6 := below_then hHeld hHeld.size hbn
     have HHN := az (below_then HHW.out HHW.out.size hbn)
     refine hK.out _ _ hbt (fun hHeld => ?_)
     clear hK K hbt hbn hce
     clear HHW; have HHW := HHN; clear HHN
     refine norm_ (a' := ?_) ?_ ?_
     rotate_left
     ·show Act.put _ (some 39) _ = _
      simp only [Act.put, List.setIfInBounds_toArray, List.set_cons_zero, List.set_cons_succ]
      rfl
     refine two_ (i := 5) (j := 6) (Ni := some 40) (Nj := some 11) #[true, true, true, true, true, true, false, false] #[true, true, true, true, true, false, true, false] rfl rfl rfl rfl (by kernel_rfl) (by decide) (by decide) (fun K hK => ?_) (fun K hK => ?_)
     ·refine call_ 104 #[.slice A0 n0 d0, .slice (some ⟨w6.heap.size, 0, none⟩) 1 1] (by rfl) rfl (by go_simp) ?_
      refine (HOF.out w4_w6 w6.heap.size hHeld HCE.out).mono ?_
      rintro e w5_w4_w6 ⟨rfl, hbn⟩
      refine ⟨_, rfl, ?_⟩
      have hbt : Below w5.heap.size w5 w5_w4_w6 := below_then hHeld hHeld.size hbn
      have HHN := az (below_then HHW.out HHW.out.size hbn)
      have HCE' := az ((hbn.cell (World.block_lt_of_cell? _ _ HCE.out)).trans HCE.out)
      refine hK.out _ _ hbt (fun hHeld => ?_)
      clear hK K hbt hbn
      clear HCE; have HCE := HCE'; clear HCE'
      clear HHW; have HHW := HHN; clear HHN
      refine norm_ (a' := ?_) ?_ ?_
      rotate_left
      ·show Act.put _ (some 40) _ = _
       simp only [Act.put, List.setIfInBounds_toArray, List.set_cons_zero, List.set_cons_succ]
       rfl
      refine one_ (i := 6) (N := some 11) #[true, true, true, true, true, true, true, false] rfl rfl (by kernel_rfl) (by decide) (fun K hK => ?_)
      refine value_ (w1 := w5_w4_w6.alloc (.cells (Sh.u8s (List.replicate 32 0)) 152)) (v := .pointer (some ⟨w5_w4_w6.heap.size, 0, none⟩)) (by rfl) rfl (by first | (go_simp; done) | (go_simp; rfl)) ?_
      have hoe : (w5_w4_w6.alloc (.cells (Sh.u8s (List.replicate 32 0)) 152)).heap[w5_w4_w6.heap.size]? = some (.cells (Sh.u8s (List.replicate 32 0)) 152 (0, 0)) := heap_alloc_new w5_w4_w6 _
      have hbn : Below w5_w4_w6.heap.size w5_w4_w6 (w5_w4_w6.alloc (.cells (Sh.u8s (List.replicate 32 0)) 152)) := below_alloc (Below.refl _ _) _
      generalize World.alloc w5_w4_w6 (.cells (Sh.u8s (List.replicate 32 0)) 152) = w6_w5_w4_w6 at *
      have HOE := az hoe
      have hbt : Below w5.heap.size w5 w6_w5_w4_w6 := below_then hHeld hHeld.size hbn
      have HHN := az (below_then HHW.out HHW.out.size hbn)
      have HCE' := az ((hbn.cell (World.block_lt_of_cell? _ _ HCE.out)).trans HCE.out)
      have HGE : Aside0 (w6.heap.size ≤ w5_w4_w6.heap.size) := ⟨HHW.out.size⟩
      refine hK.out _ _ hbt (fun hHeld => ?_)
      clear hK K hbt hbn hoe
      clear HCE; have HCE := HCE'; clear HCE'
      clear HHW; have HHW := HHN; clear HHN
      refine norm_ (a' := ?_) ?_ ?_
      rotate_left
      ·show Act.put _ (some 11) _ = _
       simp only [Act.put, List.setIfInBounds_toArray, List.set_cons_zero, List.set_cons_succ]
       rfl
      refine norm_ (a' := putAll _ ((fun s : Nat × Nat => [((39 : Tmp), Value.slice (some ⟨s.1, 0, none⟩) 1 1), (40, Value.agg D), (11, Value.pointer (some ⟨s.2, 0, none⟩))]) (w6.heap.size, w5_w4_w6.heap.size))) ?_ (hJ (w6.heap.size, w5_w4_w6.heap.size) w6_w5_w4_w6 ⟨HHW.out, HGE.out, HOE.out⟩)
      simp only [putAll, Act.put, List.setIfInBounds_toArray, List.set_cons_zero, List.set_cons_succ]
     ·refine value_ (w1 := w4_w6.alloc (.cells (Sh.u8s (List.replicate 32 0)) 152)) (v := .pointer (some ⟨w4_w6.heap.size, 0, none⟩)) (by rfl) rfl (by first | (go_simp; done) | (go_simp; rfl)) ?_
      have hoe : (w4_w6.alloc (.cells (Sh.u8s (List.replicate 32 0)) 152)).heap[w4_w6.heap.size]? = some (.cells (Sh.u8s (List.replicate 32 0)) 152 (0, 0)) := heap_alloc_new w4_w6 _
      have hbn : Below w4_w6.heap.size w4_w6 (w4_w6.alloc (.cells (Sh.u8s (List.replicate 32 0)) 152)) := below_alloc (Below.refl _ _) _
      generalize World.alloc w4_w6 (.cells (Sh.u8s (List.replicate 32 0)) 152) = w6_w4_w6 at *
      have HOE := az hoe
      have hbt : Below w5.heap.size w5 w6_w4_w6 := below_then hHeld hHeld.size hbn
      have HHN := az (below_then HHW.out HHW.out.size hbn)
      have HCE' := az ((hbn.cell (World.block_lt_of_cell? _ _ HCE.out)).trans HCE.out)
      have HGE : Aside0 (w6.heap.size ≤ w4_w6.heap.size) := ⟨HHW.out.size⟩
      refine hK.out _ _ hbt (fun hHeld => ?_)
      clear hK K hbt hbn hoe
      clear HCE; have HCE := HCE'; clear HCE'
      clear HHW; have HHW := HHN; clear HHN
      refine norm_ (a' := ?_) ?_ ?_
      rotate_left
      ·show Act.put _ (some 11) _ = _
       simp only [Act.put, List.setIfInBounds_toArray, List.set_cons_zero, List.set_cons_succ]
       rfl
      refine one_ (i := 5) (N := some 40) #[true, true, true, true, true, true, true, false] rfl rfl (by kernel_rfl) (by decide) (fun K hK => ?_)
      refine call_ 104 #[.slice A0 n0 d0, .slice (some ⟨w6.heap.size, 0, none⟩) 1 1] (by rfl) rfl (by go_simp) ?_
      refine (HOF.out w6_w4_w6 w6.heap.size hHeld HCE.out).mono ?_
      rintro e w5_w6_w4_w6 ⟨rfl, hbn⟩
      refine ⟨_, rfl, ?_⟩
      have hbt : Below w5.heap.size w5 w5_w6_w4_w6 := below_then hHeld hHeld.size hbn
      have HHN := az (below_then HHW.out HHW.out.size hbn)
      have HCE' := az ((hbn.cell (World.block_lt_of_cell? _ _ HCE.out)).trans HCE.out)
      have HOE' := az ((hbn.block _ (Array.getElem?_eq_some_iff.1 HOE.out).1).trans HOE.out)
      refine hK.out _ _ hbt (fun hHeld => ?_)
      clear hK K hbt hbn
      clear HCE; have HCE := HCE'; clear HCE'
      clear HOE; have HOE := HOE'; clear HOE'
      clear HHW; have HHW := HHN; clear HHN
      refine norm_ (a' := ?_) ?_ ?_
      rotate_left
      ·show Act.put _ (some 40) _ = _
       simp only [Act.put, List.setIfInBounds_toArray, List.set_cons_zero, List.set_cons_succ]
       rfl
      refine norm_ (a' := putAll _ ((fun s : Nat × Nat => [((39 : Tmp), Value.slice (some ⟨s.1, 0, none⟩) 1 1), (40, Value.agg D), (11, Value.pointer (some ⟨s.2, 0, none⟩))]) (w6.heap.size, w4_w6.heap.size))) ?_ (hJ (w6.heap.size, w4_w6.heap.size) w5_w6_w4_w6 ⟨HHW.out, HGE.out, HOE.out⟩)
      simp only [putAll, Act.put, List.setIfInBounds_toArray, List.set_cons_zero, List.set_cons_succ]
    ·refine value_ (w1 := w6.alloc (.cells (Sh.u8s (List.replicate 32 0)) 152)) (v := .pointer (some ⟨w6.heap.size, 0, none⟩)) (by rfl) rfl (by first | (go_simp; done) | (go_simp; rfl)) ?_
     have hoe : (w6.alloc (.cells (Sh.u8s (List.replicate 32 0)) 152)).heap[w6.heap.size]? = some (.cells (Sh.u8s (List.replicate 32 0)) 152 (0, 0)) := heap_alloc_new w6 _
     have hbn : Below w6.heap.size w6 (w6.alloc (.cells (Sh.u8s (List.replicate 32 0)) 152)) := below_alloc (Below.refl _ _) _
     generalize World.alloc w6 (.cells (Sh.u8s (List.replicate 32 0)) 152) = w6_w6 at *
     have HOE := az hoe
     have hbt : Below w5.heap.size w5 w6_w6 := below_then hHeld hHeld.size hbn
     have HHN := az (below_then HHW.out HHW.out.size hbn)
     have HGE : Aside0 (w6.heap.size ≤ w6.heap.size) := ⟨HHW.out.size⟩
     refine hK.out _ _ hbt (fun hHeld => ?_)
     clear hK K hbt hbn hoe
     clear HHW; have HHW := HHN; clear HHN
     refine norm_ (a' := ?_) ?_ ?_
     rotate_left
     ·show Act.put _ (some 11) _ = _
      simp only [Act.put, List.setIfInBounds_toArray, List.set_cons_zero, List.set_cons_succ]
      rfl
     refine one_ (i := 4) (N := some 39) #[true, true, true, true, true, false, true, false] rfl rfl (by kernel_rfl) (by decide) (fun K hK => ?_)
     refine value_ (w1 := w6_w6.alloc (.cells #[.slice A2 18 c2] 35)) (v := .slice (some ⟨w6_w6.heap.size, 0, none⟩) 1 1) (by rfl) rfl (by first | (go_simp; done) | (go_simp; rfl)) ?_
     have hce : (w6_w6.alloc (.cells #[.slice A2 18 c2] 35)).cell? ⟨w6_w6.heap.size, 0, none⟩ = some (.slice A2 18 c2) := Lit.cell_new w6_w6 #[.slice A2 18 c2] 35 (0, 0) 0
     have hbn : Below w6_w6.heap.size w6_w6 (w6_w6.alloc (.cells #[.slice A2 18 c2] 35)) := below_alloc (Below.refl _ _) _
     generalize World.alloc w6_w6 (.cells #[.slice A2 18 c2] 35) = w4_w6_w6 at *
     have HCE := az hce
     have hbt : Below w5.heap.size w5 w4_w6_w6 := below_then hHeld hHeld.size hbn
     have HHN := az (below_then HHW.out HHW.out.size hbn)
     have HOE' := az ((hbn.block _ (Array.getElem?_eq_some_iff.1 HOE.out).1).trans HOE.out)
     refine hK.out _ _ hbt (fun hHeld => ?_)
     clear hK K hbt hbn hce
     clear HOE; have HOE := HOE'; clear HOE'
     clear HHW; have HHW := HHN; clear HHN
     refine norm_ (a' := ?_) ?_ ?_
     rotate_left
     ·show Act.put _ (some 39) _ = _
      simp only [Act.put, List.setIfInBounds_toArray, List.set_cons_zero, List.set_cons_succ]
      rfl
     refine one_ (i := 5) (N := some 40) #[true, true, true, true, true, true, true, false] rfl rfl (by kernel_rfl) (by decide) (fun K hK => ?_)
     refine call_ 104 #[.slice A0 n0 d0, .slice (some ⟨w6_w6.heap.size, 0, none⟩) 1 1] (by rfl) rfl (by go_simp) ?_
     refine (HOF.out w4_w6_w6 w6_w6.heap.size hHeld HCE.out).mono ?_
     rintro e w5_w4_w6_w6 ⟨rfl, hbn⟩
     refine ⟨_, rfl, ?_⟩
     have hbt : Below w5.heap.size w5 w5_w4_w6_w6 := below_then hHeld hHeld.size hbn
     have HHN := az (below_then HHW.out HHW.out.size hbn)
     have HCE' := az ((hbn.cell (World.block_lt_of_cell? _ _ HCE.out)).trans HCE.out)
     have HOE' := az ((hbn.block _ (Array.getElem?_eq_some_iff.1 HOE.out).1).trans HOE.out)
     refine hK.out _ _ hbt (fun hHeld => ?_)
     clear hK K hbt hbn
     clear HCE; have HCE := HCE'; clear HCE'
     clear HOE; have HOE := HOE'; clear HOE'
     clear HHW; have HHW := HHN; clear HHN
     refine norm_ (a' := ?_) ?_ ?_
     rotate_left
     ·show Act.put _ (some 40) _ = _
      simp only [Act.put, List.setIfInBounds_toArray, List.set_cons_zero, List.set_cons_succ]
      rfl
     refine norm_ (a' := putAll _ ((fun s : Nat × Nat => [((39 : Tmp), Value.slice (some ⟨s.1, 0, none⟩) 1 1), (40, Value.agg D), (11, Value.pointer (some ⟨s.2, 0, none⟩))]) (w6_w6.heap.size, w6.heap.size))) ?_ (hJ (w6_w6.heap.size, w6.heap.size) w5_w4_w6_w6 ⟨HHW.out, HGE.out, HOE.out⟩)
     simp only [putAll, Act.put, List.setIfInBounds_toArray, List.set_cons_zero, List.set_cons_succ]
end Go.Proofs.YtgljicdpcapgnaaGreatDoor
namespace Go.Proofs.YtgljicdpcapgnaaGreatDoor
open Go.RowKit Go.Proofs.YtgljicdpcapgnaaGreatDoorW.PrintWords
abbrev Rq := Int × Int × Int × Int × Int × List Int
abbrev kRq : Kd Rq := Kd.pair (Kd.int .u16) (Kd.pair (Kd.int .u16) (Kd.pair (Kd.int .u64) (Kd.pair (Kd.int .u64) (Kd.pair (Kd.int .u32) (Kd.slice 5 (Kd.int .u8))))))
theorem opens_bytes : Opens Tryz.prog 35 (Kd.slice 5 (Kd.int .u8)) (fun xs => xs.length ≤ maxLen ∧ ∀ x ∈ xs, (Lit.int .u8 x).wf = true) := opens_slice Tryz.underlying35 (by kernel_rfl) (opens_int Tryz.underlying5)
theorem rq_cells {w : World} {r : Rq} {cs : List Value} (h : kRq.K w r cs) : ∃ A c, cs = [.int .u16 r.1, .int .u16 r.2.1, .int .u64 r.2.2.1, .int .u64 r.2.2.2.1, .int .u32 r.2.2.2.2.1, .slice A r.2.2.2.2.2.length c] ∧ r.2.2.2.2.2.length ≤ c ∧ Kd.C (Kd.int .u8) w A r.2.2.2.2.2.length r.2.2.2.2.2 := by
  obtain ⟨_, _, rfl, rfl, _, _, rfl, rfl, _, _, rfl, rfl, _, _, rfl, rfl, _, _, rfl, rfl, A, c, rfl, hl, hC⟩ := h
  exact ⟨A, c, rfl, hl, hC⟩
end Go.Proofs.YtgljicdpcapgnaaGreatDoor
namespace Go.Proofs.YtgljicdpcapgnaaGreatDoor
open Go.RowKit Go.Proofs.YtgljicdpcapgnaaGreatDoor.PBase Go.Proofs.YtgljicdpcapgnaaGreatDoorW.PrintWords Go.Proofs.YtgljicdpcapgnaaGreatDoorW.PrintLast Go.Proofs.YtgljicdpcapgnaaGreatDoorW.PrintMore
theorem opens_nums : Opens Tryz.prog 72 (Kd.slice 36 (Kd.int .u32)) (fun xs => xs.length ≤ maxLen ∧ ∀ x ∈ xs, (Lit.int .u32 x).wf = true) := opens_slice Tryz.underlying72 (by kernel_rfl) (opens_int Tryz.underlying36)
namespace Ps
def TnIn (x : Tn) : Prop := (Lit.int .u32 x.f0).wf = true ∧ (x.f1.length ≤ maxLen ∧ ∀ y ∈ x.f1, (Lit.int .u8 y).wf = true) ∧ (Lit.int .u64 x.f2).wf = true ∧ (Lit.int .u64 x.f3).wf = true ∧ x.f4.length ≤ maxLen ∧ ∀ y ∈ x.f4, (Lit.int .u32 y).wf = true
theorem of32 {k : Int} (h : (Lit.int .u32 k).wf = true) : 0 ≤ k ∧ k < 4294967296 := by
  simp [Lit.wf, IntKind.min, IntKind.max, IntKind.signed, IntKind.bits] at h
  omega
theorem opens_tenant : Opens Tryz.prog 74 kTn TnIn := by
  intro H enc w base spare held fuel cs x h
  obtain ⟨hl, hf⟩ := struct_fields Tryz.underlying74 h
  obtain ⟨a0, k0, w0⟩ := hf 0 _ rfl (opens_int Tryz.underlying36)
  obtain ⟨a1, k1, w1⟩ := hf 1 _ rfl opens_bytes
  obtain ⟨a2, k2, w2⟩ := hf 2 _ rfl (opens_int Tryz.underlying45)
  obtain ⟨a3, k3, w3⟩ := hf 3 _ rfl (opens_int Tryz.underlying45)
  obtain ⟨a4, k4, w4⟩ := hf 4 _ rfl opens_nums
  have c64 : Tryz.prog.cellsOf 45 = 1 := by kernel_rfl
  have c32 : Tryz.prog.cellsOf 36 = 1 := by kernel_rfl
  have cs0 : Tryz.prog.cellsOf 35 = 1 := by kernel_rfl
  have cs1 : Tryz.prog.cellsOf 72 = 1 := by kernel_rfl
  have c5 : Tryz.prog.cellsOf 74 = 5 := by kernel_rfl
  rw [c5] at hl
  change (Kd.int .u32).K w a0 ((cs.drop 0).take (Tryz.prog.cellsOf 36)) at k0
  rw [c32] at k0
  change (Kd.slice 5 (Kd.int .u8)).K w a1 ((cs.drop 1).take (Tryz.prog.cellsOf 35)) at k1
  rw [cs0] at k1
  change (Kd.int .u64).K w a2 ((cs.drop 2).take (Tryz.prog.cellsOf 45)) at k2
  rw [c64] at k2
  change (Kd.int .u64).K w a3 ((cs.drop 3).take (Tryz.prog.cellsOf 45)) at k3
  rw [c64] at k3
  change (Kd.slice 36 (Kd.int .u32)).K w a4 ((cs.drop 4).take (Tryz.prog.cellsOf 72)) at k4
  rw [cs1] at k4
  refine ⟨⟨a0, a1, a2, a3, a4⟩, ?_, w0, w1, w2, w3, w4⟩
  match cs, hl with
  | [y0, y1, y2, y3, y4], _ => exact pairK k0 (pairK k1 (pairK k2 (pairK k3 k4)))
theorem bytes_of {l : List Int} (h : ∀ x ∈ l, (Lit.int .u8 x).wf = true) : Sh.Bytes l := Sp.bytes_of_wf h
end Ps
end Go.Proofs.YtgljicdpcapgnaaGreatDoor
namespace Go.Proofs.YtgljicdpcapgnaaGreatDoor
open Go.ChangeShapes Go.WideShapes Go.ChangeAt Go.RowKit
theorem own : ownKnob Tryz.prog.godebug = none := by kernel_rfl
theorem laidOut : laidOutB Tryz.prog = true := by kernel_rfl
abbrev keysLaid : List (String × DataW Unit) := [("coaming/sha.keys", Rows.laid_coaming_sha_keys)]
theorem gKeys : Tryz.prog.globalNamed "coaming/sha.keys" = some 0 := by kernel_rfl
theorem tKeys : (Tryz.prog.globals[0]?).map (·.type) = some 180 := by kernel_rfl
theorem door_met (os : Os) (args : Array Value) : laidMetH Tryz.prog keysLaid ((World.doorLaid Tryz.prog 400 os).forCall (fun _ _ => 0) ⟨#[], args, []⟩).memory :=
  laidMetH_of_parts3 (fuel := 8) (laidMet_of_run' 8 (by kernel_rfl) (by kernel_rfl)) (by kernel_rfl) (by kernel_rfl)
theorem laid_at : (Rows.laid_coaming_sha_keys (H := Unit)) = .agg (Sh.keys.map fun k => .lit (.int .u32 k)) := rfl
theorem of_laid {W : World} (h : laidMetH Tryz.prog keysLaid W) : Sh.Ks W := by
  rw [MakeChecks.laidMetH_plain _ _ _ (by kernel_rfl)] at h
  obtain ⟨ps, ⟨g0, t0, cs0, f0, p0, q0, hg0, ht0, hv0, hd0, _, _⟩, _, _⟩ := h
  obtain rfl := Option.some.inj (gKeys.symm.trans hg0)
  obtain rfl := Option.some.inj (tKeys.symm.trans ht0)
  rw [laid_at] at hd0
  obtain ⟨xs, m1, rfl, hx1, hlen, hn3, hel⟩ := DataW.trod_array Tryz.underlying180 hd0
  have c38 : Tryz.prog.cellsOf 36 = 1 := by kernel_rfl
  intro i hi
  have h0 := hel i hi
  rw [c38, Nat.mul_one] at h0
  simp only [Prod.mk.injEq, DataW.agg.injEq] at hx1
  have hix : i < xs.length := by omega
  rw [List.getElem?_eq_getElem hix] at h0
  obtain ⟨k, e1, e2, _⟩ := DataW.trod_int Tryz.underlying36 h0
  have hk : (xs.map (·.1))[i]? = some (.lit (.int .u32 k)) := by rw [List.getElem?_map, List.getElem?_eq_getElem hix, e2]; rfl
  rw [← hx1.1, List.getElem?_map] at hk
  have hki : Sh.keys[i]? = some (Sh.keys.getD i 0) := by
    rw [List.getD_eq_getElem?_getD, List.getElem?_eq_getElem (by exact hi)]; rfl
  rw [hki] at hk
  have hkk : Sh.keys.getD i 0 = k := by simpa using hk
  rw [World.var?_cell hg0 hv0 i, hkk]
  have hc : (cs0.toList.drop i).take 1 = [.int .u32 k] := e1
  have : cs0.toList[i]? = some (.int .u32 k) := by
    have h2 : ((cs0.toList.drop i).take 1)[0]? = some (.int .u32 k) := by rw [hc]; rfl
    rw [List.getElem?_take, if_pos (by decide), List.getElem?_drop, Nat.add_zero] at h2
    exact h2
  simpa using this
end Go.Proofs.YtgljicdpcapgnaaGreatDoor
namespace Go.Proofs.YtgljicdpcapgnaaGreatDoor
open Go.RowKit Go.Proofs.YtgljicdpcapgnaaGreatDoorW.PrintWords Go.Proofs.YtgljicdpcapgnaaGreatDoorW.PrintLast Go.Proofs.YtgljicdpcapgnaaGreatDoorW.PrintMore
namespace Pi
def rqc (x1 x2 x3 x4 x5 : Int) (v : Value) : List Value := [.int .u16 x1, .int .u16 x2, .int .u64 x3, .int .u64 x4, .int .u32 x5, v]
def zrq : List Value := rqc 0 0 0 0 0 (.slice none 0 0)
def zeros : List Value := (List.replicate 16 zrq).flatten ++ [.int .i64 0]
theorem zeros_len : zeros.length = 97 := by decide
theorem zero49 (W : World) : (zeroValue 85).run Tryz.prog W = .ok (.agg zeros.toArray) W := by kernel_rfl
theorem size33 : (Tryz.prog.info? 67).map (·.size) = some 6 := by kernel_rfl
theorem size49 : (Tryz.prog.info? 85).map (·.size) = some 97 := by kernel_rfl
theorem size31 : (Tryz.prog.info? 35).map (·.size) = some 1 := by kernel_rfl
theorem size22 : (Tryz.prog.info? 39).map (·.size) = some 1 := by kernel_rfl
theorem size3 : (Tryz.prog.info? 3).map (·.size) = some 1 := by kernel_rfl
structure Pp (W : World) (base : Nat) (ok : Nat → Prop) (g : Nat) (rs : List Rq) : Prop where mk_ ::
  out : ∃ cs : List Value, Wk.Blk W g 85 cs ∧ base ≤ g ∧ cs.length = 97 ∧ rs.length ≤ 16 ∧ cs[96]? = some (.int .i64 rs.length) ∧ Reps (kRq.M W base ok) 6 rs (cs.take (6 * rs.length))
theorem kRq_E : ∀ q, q ∈ kRq.E → q ≠ 85 := by decide
section
variable {W W' : World} {base : Nat} {ok ok' : Nat → Prop} {g : Nat} {rs : List Rq}
theorem Pp.below (h : Pp W base ok g rs) (hb : Below W.heap.size W W') : Pp W' base ok g rs := by
  obtain ⟨cs, h1, h2, h3, h4, h5, h6⟩ := h.out
  exact ⟨cs, h1.below_ hb, h2, h3, h4, h5, h6.imp_ (fun _ _ hp => Kd.M_below hp hb)⟩
theorem Pp.mono (h : Pp W base ok g rs) (ho : ∀ k, ok k → ok' k) : Pp W base ok' g rs := by
  obtain ⟨cs, h1, h2, h3, h4, h5, h6⟩ := h.out
  exact ⟨cs, h1, h2, h3, h4, h5, h6.imp_ (fun _ _ hp => kRq.M_mono ho hp)⟩
theorem Pp.bound (h : Pp W base ok g rs) : Pp W base (fun k => ok k ∧ base ≤ k ∧ k < W.heap.size) g rs := by
  obtain ⟨cs, h1, h2, h3, h4, h5, h6⟩ := h.out
  exact ⟨cs, h1, h2, h3, h4, h5, h6.imp_ (fun _ _ hp => kRq.M_mono (fun k hk => ⟨hk.1, hk.2.1, hk.2.2.1⟩) (kRq.M_bound hp))⟩
theorem Pp.grown (h : Pp W base ok g rs) {row : Option Nat} (hg : W.grownBy W' row) (hne : some g ≠ row) (ho : ∀ k, ok k → some k ≠ row) : Pp W' base ok g rs := by
  obtain ⟨cs, h1, h2, h3, h4, h5, h6⟩ := h.out
  exact ⟨cs, h1.grown hg hne, h2, h3, h4, h5, h6.imp_ (fun _ _ hp => Kd.M_grown hp hg ho)⟩
theorem Pp.lt (h : Pp W base ok g rs) : g < W.heap.size := by
  obtain ⟨cs, h1, _⟩ := h.out
  exact h1.lt
theorem Pp.cell (h : Pp W base ok g rs) : W.cell? ⟨g, 96, none⟩ = some (.int .i64 rs.length) := by
  obtain ⟨cs, h1, _, _, _, h5, _⟩ := h.out
  exact h1.at_ 96 h5
theorem Pp.le (h : Pp W base ok g rs) : rs.length ≤ 16 := by
  obtain ⟨cs, _, _, _, h4, _⟩ := h.out
  exact h4
end
theorem M_only {w w' : World} {base : Nat} {ok : Nat → Prop} {x : Rq} {cs zs : List Value} {g : Nat} (h : kRq.M w base ok x cs) (hb : Wk.Blk w g 85 zs) (hO : Wk.Only w w' g) : kRq.M w' base ok x cs :=
  kRq.M_mono (fun _ hk => hk.1) (Kd.M_grown (Kd.M_types h hb.out kRq_E) hO.grown (fun k hk he => hk.2 (by injection he)))
theorem M_fresh {w : World} {base B : Nat} {ok : Nat → Prop} {x : Rq} {cs : List Value} (h : kRq.M w B (fun _ => True) x cs) (hb : base ≤ B) (ho : ∀ k, B ≤ k → ok k) : kRq.M w base ok x cs :=
  kRq.M_lower hb (kRq.M_mono (fun k hk => ho k hk.2.1) (kRq.M_bound h))
open Wk (over)
theorem over_len (zs : List Value) (off : Nat) (vs : List Value) (h : off + vs.length ≤ zs.length) : (over zs off vs).length = zs.length := by unfold over; simp; omega
theorem over_hi (zs : List Value) (off : Nat) (vs : List Value) (h : off + vs.length ≤ zs.length) (i : Nat) (hi : off + vs.length ≤ i) : (over zs off vs)[i]? = zs[i]? := by
  unfold over
  rw [List.getElem?_append_right (by simp; omega), List.getElem?_drop]
  congr 1
  simp
  omega
theorem over_take (zs : List Value) (off : Nat) (vs : List Value) (i : Nat) (h : off ≤ zs.length) (hi : i ≤ off) : (over zs off vs).take i = zs.take i := by
  unfold over
  rw [List.append_assoc, List.take_append_of_le_length (by simp; omega), List.take_take, Nat.min_eq_left hi]
theorem over_upto (zs : List Value) (off : Nat) (vs : List Value) (h : off ≤ zs.length) : (over zs off vs).take (off + vs.length) = zs.take off ++ vs := by
  unfold over
  rw [List.take_append_of_le_length (by simp; omega), List.take_of_length_le (by simp; omega)]
theorem over_at (zs : List Value) (off : Nat) (v : Value) (h : off < zs.length) : (over zs off [v])[off]? = some v := by
  unfold over
  rw [List.append_assoc, List.getElem?_append_right (by simp; omega)]
  simp [Nat.min_eq_left (Nat.le_of_lt h)]
theorem rq_M {w : World} {base : Nat} {ok : Nat → Prop} {fl kd ck off len : Int} {data : List Int} {v : Value} (h : Kd.R (Kd.int .u8) 5 w base ok v data) : kRq.M w base ok (fl, kd, ck, off, len, data) (rqc fl kd ck off len v) :=
  ⟨[_], [_, _, _, _, _], rfl, rfl, [_], [_, _, _, _], rfl, rfl, [_], [_, _, _], rfl, rfl, [_], [_, _], rfl, rfl, [_], [_], rfl, rfl, v, rfl, h⟩
theorem rq_Mc {w : World} {base : Nat} {ok : Nat → Prop} {r : Rq} {cs : List Value} (h : kRq.M w base ok r cs) : ∃ v, cs = rqc r.1 r.2.1 r.2.2.1 r.2.2.2.1 r.2.2.2.2.1 v ∧ Kd.R (Kd.int .u8) 5 w base ok v r.2.2.2.2.2 := by
  obtain ⟨_, _, rfl, rfl, _, _, rfl, rfl, _, _, rfl, rfl, _, _, rfl, rfl, _, _, rfl, rfl, v, rfl, hR⟩ := h
  exact ⟨v, rfl, hR⟩
end Pi
theorem pnew_.calls (ok : Nat → Prop) (w : World) : Calls Tryz.prog 26 #[] w fun e w' => e = .returned (.pointer (some ⟨w.heap.size, 0, none⟩)) ∧ Pi.Pp w' w.heap.size ok w.heap.size [] ∧ Below w.heap.size w w' := by
 obtain ⟨Z, HZ⟩ : ∃ Z : Array Value, Aside0 (Pi.zeros.toArray = Z) := ⟨_, ⟨rfl⟩⟩
 have hz : ∀ W : World, (zeroValue 85).run Tryz.prog W = .ok (.agg Z) W := fun W => by rw [← HZ.out]; exact Pi.zero49 W
 go_enter Tryz.func26, Tryz.ntmps26
 go_wp2_with fail
 go_ret
 refine ⟨rfl, ⟨Pi.zeros, ⟨?_⟩, Nat.le_refl _, Pi.zeros_len, by simp, rfl, Reps.none _ _⟩, (Below.refl _ _).alloc (Nat.le_refl _) _⟩
 rw [HZ.out]
 exact heap_alloc_new w _
theorem full_.calls {W : World} {base : Nat} {ok : Nat → Prop} {g : Nat} {rs : List Rq} (h : Pi.Pp W base ok g rs) : Calls Tryz.prog 74 #[.pointer (some ⟨g, 0, none⟩)] W fun e w' => e = .returned (.bool (decide (rs.length = 16))) ∧ W = w' := by
 have hc := h.cell
 obtain ⟨n, HN⟩ : ∃ n, Aside0 (rs.length = n) := ⟨_, ⟨rfl⟩⟩
 rw [HN.out] at hc ⊢
 clear h
 by_cases hn : n = 16
 ·subst hn
  go_enter Tryz.func74, Tryz.ntmps74
  go_wp2_with fail
  go_ret
  exact ⟨rfl, rfl⟩
 ·have hb : ((n : Int) == 16) = false := by simp; omega
  have HD : Aside0 (decide (n = 16) = false) := ⟨decide_eq_false hn⟩
  clear hn
  go_enter Tryz.func74, Tryz.ntmps74
  go_wp2_with fail
  go_ret
  exact ⟨by rw [HD.out]; rfl, rfl⟩
theorem clear_.calls {W : World} {base : Nat} {ok : Nat → Prop} {g : Nat} {rs : List Rq} (h : Pi.Pp W base ok g rs) (ok' : Nat → Prop) : Calls Tryz.prog 38 #[.pointer (some ⟨g, 0, none⟩)] W fun e w' => e = .returned (.tuple #[]) ∧ Pi.Pp w' base ok' g [] ∧ Wk.Only W w' g := by
 obtain ⟨cs, h1, h2, h3, _⟩ := h.out
 obtain ⟨Z, HZ⟩ : ∃ Z : List Value, Aside0 (Pi.zeros = Z) := ⟨_, ⟨rfl⟩⟩
 have hz : ∀ W : World, (zeroValue 85).run Tryz.prog W = .ok (.agg Z.toArray) W := fun W => by rw [← HZ.out]; exact Pi.zero49 W
 have HB := az h1
 have HL : Aside0 ((Tryz.prog.info? 85).map (·.size) = some Z.length ∧ Z.length = cs.length ∧ Z.all (·.oneCell') = true) := ⟨by rw [← HZ.out, Pi.zeros_len, h3]; exact ⟨Pi.size49, rfl, by decide⟩⟩
 have H2 := az h2
 clear h1 h h2
 go_enter Tryz.func38, Tryz.ntmps38
 go_wp2_with (refine Wk.store_all rfl rfl 85 (.tmp 4) (.tmp 3) rfl g Z rfl rfl 85 _ HB.out HL.out.1 HL.out.2.1 HL.out.2.2 ?_; intro w3 hX hO; have HX := az hX; have HO := az hO; clear hX hO)
 go_end0
 refine ⟨rfl, ⟨Z, HX.out, H2.out, by rw [← HZ.out]; exact Pi.zeros_len, by simp, by rw [← HZ.out]; rfl, Reps.none _ _⟩, HO.out⟩
theorem plent_.calls {W : World} {r : Rq} {cs : List Value} (h : kRq.K W r cs) (hl : r.2.2.2.2.2.length < 140737488355328) : Calls Tryz.prog 51 #[.agg cs.toArray] W fun e w' => ∃ cs', e = .returned (.agg cs'.toArray) ∧ kRq.M w' W.heap.size (fun _ => True) r cs' ∧ Below W.heap.size W w' := by
 obtain ⟨A, c, rfl, hlc, hC⟩ := rq_cells h
 obtain ⟨fl, kd, ck, off, len, data⟩ := r
 change data.length ≤ c at hlc
 change data.length < _ at hl
 have HC := az (show Kd.C (Kd.int .u8) W A data.length data from hC)
 clear h hC
 obtain ⟨n, HN⟩ : ∃ n, Aside0 (data.length = n) := ⟨_, ⟨rfl⟩⟩
 rw [HN.out] at hlc hl
 show Calls _ _ #[.agg #[.int .u16 fl, .int .u16 kd, .int .u64 ck, .int .u64 off, .int .u32 len, .slice A data.length c]] _ _
 rw [HN.out]
 have HL := az hl
 clear hl
 go_enter Tryz.func51, Tryz.ntmps51
 go_wp2_with fail
 generalize hWq : World.alloc (World.alloc W _) _ = W0
 have HB0 : Aside0 (Below W.heap.size W W0) := ⟨by rw [← hWq]; exact below_alloc (below_alloc (Below.refl _ _) _) _⟩
 have HX0 : Aside0 (Wk.Blk W0 W.heap.size 67 (Pi.rqc fl kd ck off len (.slice A n c))) := ⟨by rw [← hWq]; exact (Wk.Blk.new W _ (Pi.rqc fl kd ck off len (.slice A n c))).alloc _⟩
 have HY0 : Aside0 (Wk.Blk W0 (W.heap.size + 1) 67 Pi.zrq) := ⟨by rw [← hWq]; exact ⟨heap_alloc2_new W _ _⟩⟩
 clear hWq
 have HF : Aside0 (Calls Tryz.prog 53 #[.slice A n c] W0 fun e w' => ∃ v, e = .returned v ∧ Kd.R (Kd.int .u8) 5 w' W0.heap.size (fun _ => True) v data ∧ Below W0.heap.size W0 w') := ⟨by
  have := clone_.calls A c data data W0 (Kd.C_below HC.out HB0.out) (by rw [HN.out]; exact hlc) (by unfold clone_.f; rw [if_pos (by rw [HN.out]; exact HL.out)])
  rw [HN.out] at this
  exact this⟩
 refine HF.out.mono ?_
 rintro e w5 ⟨v5, rfl, rv, bv⟩
 obtain ⟨A5, c5, rfl⟩ := Kd.R_slice rv
 rw [HN.out] at rv ⊢
 have HV5 := az (Kd.R_lower rv HB0.out.size)
 have HX5 := az (HX0.out.below_ bv)
 have HY5 := az (HY0.out.below_ bv)
 have HB5 := az (below_then HB0.out HB0.out.size bv)
 have HSL := az Pi.size31
 have HSZ := az Pi.size33
 clear rv bv HF HX0 HY0
 go_wp2_with (first
  | (refine Wk.store rfl rfl 35 (.tmp 6) (.tmp 5) rfl W.heap.size 5 (.slice A5 n c5) [.slice A5 n c5] rfl rfl rfl 67 _ HX5.out HSL.out (Nat.le_of_ble_eq_true rfl) rfl ?_; intro w6 hX hO; have HX6 := az (show Wk.Blk w6 W.heap.size 67 (Pi.rqc fl kd ck off len (.slice A5 n c5)) from hX); have HO6 := az hO; have HY6 := az (HY5.out.only hO (Nat.ne_of_gt (Nat.lt_succ_self _))); clear hX hO)
  | refine Wk.load rfl 67 (.tmp 1) rfl (.agg (Pi.rqc fl kd ck off len (.slice A5 n c5)).toArray) (.pointer (some ⟨W.heap.size, 0, none⟩)) rfl (Wk.run_load_blk 67 W.heap.size 0 _ _ HX6.out rfl Tryz.underlying67 rfl HSZ.out) ?_
  | (refine Wk.store_all rfl rfl 67 (.tmp 2) (.tmp 7) rfl (W.heap.size + 1) (Pi.rqc fl kd ck off len (.slice A5 n c5)) rfl rfl 67 _ HY6.out HSZ.out rfl rfl ?_; intro w7 hX hO; have HX := az hX; have HO := az hO; clear hX hO))
 refine bodyPost_ret (Wk.res_c rfl _ (W.heap.size + 1) 67 _ _ rfl HX.out Tryz.underlying67 rfl HSZ.out) rfl ?_
 have hne : ∀ q, q ∈ 5 :: (Kd.int .u8).E → q ≠ 67 := by decide
 have hB6 := Wk.Only.below HB5.out HO6.out (Nat.le_refl _)
 have hR := Wk.R_only (Wk.R_only HV5.out HX5.out hne HO6.out) HY6.out hne HO.out
 exact ⟨_, rfl, Pi.rq_M hR, Wk.Only.below hB6 HO.out (Nat.le_succ _)⟩
theorem add_.calls {W : World} {base : Nat} {ok : Nat → Prop} {g : Nat} {rs : List Rq} {r : Rq} {cs : List Value} (h : Pi.Pp W base ok g rs) (hr : kRq.K W r cs) (hl : r.2.2.2.2.2.length < 140737488355328) (hb : base ≤ W.heap.size) (hok : ∀ k, W.heap.size ≤ k → ok k) :
  Calls Tryz.prog 76 #[.pointer (some ⟨g, 0, none⟩), .agg cs.toArray] W fun e w' => e = .returned (.bool (decide (rs.length < 16))) ∧ Pi.Pp w' base ok g (if rs.length < 16 then rs ++ [r] else rs) ∧ W.grownBy w' (some g) := by
 obtain ⟨A, c, rfl, hlc, hC⟩ := rq_cells hr
 obtain ⟨fl, kd, ck, off, len, data⟩ := r
 have HP := az h
 have HR := az hr
 have HL := az hl
 have HBS := az hb
 have HOK := az hok
 show Calls _ _ #[.pointer (some ⟨g, 0, none⟩), .agg #[.int .u16 fl, .int .u16 kd, .int .u64 ck, .int .u64 off, .int .u32 len, .slice A data.length c]] _ _
 obtain ⟨n, HN⟩ : ∃ n, Aside0 (data.length = n) := ⟨_, ⟨rfl⟩⟩
 obtain ⟨m, HM⟩ : ∃ n, Aside0 (rs.length = n) := ⟨_, ⟨rfl⟩⟩
 have hm16 : m ≤ 16 := by rw [← HM.out]; exact h.le
 rw [HN.out, HM.out]
 clear h hr hl hb hok hC hlc
 go_enter Tryz.func76, Tryz.ntmps76
 go_wp2_with fail
 generalize hWq : World.alloc W _ = W1
 have HB1 : Aside0 (Below W.heap.size W W1) := ⟨by rw [← hWq]; exact below_alloc (Below.refl _ _) _⟩
 have HX1 : Aside0 (Wk.Blk W1 W.heap.size 67 (Pi.rqc fl kd ck off len (.slice A n c))) := ⟨by rw [← hWq]; exact Wk.Blk.new W _ (Pi.rqc fl kd ck off len (.slice A n c))⟩
 clear hWq
 have HP1 := az (HP.out.below HB1.out)
 refine (full_.calls HP1.out).mono ?_
 rintro e w' ⟨rfl, rfl⟩
 rw [HM.out]
 by_cases h16 : m = 16
 ·subst h16
  rw [decide_eq_true (rfl : 16 = 16)]
  go_wp2_with fail
  go_ret
  exact ⟨by simp, by simpa using HP1.out, grown_of_below HB1.out _⟩
 ·have hlt : m < 16 := by omega
  have hltI : (m : Int) < 16 := by omega
  rw [decide_eq_false h16]
  have HSZ := az Pi.size33
  have hgl := HP1.out.lt
  have HGL := az hgl
  have hxl := HX1.out.lt
  have HXL := az hxl
  obtain ⟨zs, z1, z2, z3, z4, z5, z6⟩ := HP1.out.out
  rw [HM.out] at z5 z6
  have HZ1 := az z1
  have HZ5 := az (z1.at_ 96 z5)
  have HZ6 := az z6
  have HZR := az (show base ≤ g ∧ zs.length = 97 from ⟨z2, z3⟩)
  clear z1 z2 z3 z4 z5 z6 hgl hxl
  go_wp2_with fail
  refine wp_region_noPanic ?_
  refine Rg.s1 11 (fun w' => Below W1.heap.size W1 w') [10] (Below.refl _ _).drew #[false, false, false, false, false, false, false, false, false, false, false] (fun hHeld => ?_)
  refine Rg.p1 0 (.some 7) ?_
  refine Rg.p1 1 (.some 8) ?_
  refine Rg.p1 2 (.some 9) ?_
  refine Rg.p1 3 (.some 10) ?_
  refine Rg.t1 4 (.some 11) hHeld ?_ (hy := by intro w' hS'; (have c1 := (hS'.cell (p := ⟨g, 96, none⟩) HGL.out).trans HZ5.out; go_simp); first | done | with_reducible rfl)
  refine Rg.t1 5 (.some 12) hHeld ?_ (hy := by intro w' hS'; (have hl := Wk.run_load_blk (P := Tryz.prog) 67 W.heap.size 0 (Pi.rqc fl kd ck off len (.slice A n c)) _ (HX1.out.below_ hS') rfl Tryz.underlying67 rfl HSZ.out; refine (Wk.exec_load 67 (.tmp 3) rfl _ _ rfl hl).trans ?_); first | done | with_reducible rfl)
  refine Rg.p1 7 (.some 14) ?_
  refine Rg.p1 8 (.some 15) ?_
  refine Rg.o1 6 (.some 13) (fun K hK => ?_)
  refine call_ 51 #[.agg (Pi.rqc fl kd ck off len (.slice A n c)).toArray] (by rfl) rfl (by go_simp) ?_
  have hK : kRq.K W1.drew (fl, kd, ck, off, len, data) (Pi.rqc fl kd ck off len (.slice A n c)) := by
   have := kRq.K_below (w1 := W1.drew) (below_drew HB1.out) HR.out
   rw [← HN.out]
   exact this
  refine (plent_.calls hK HL.out).mono ?_
  rintro e w2 ⟨cs', rfl, hM, hb2⟩
  have HM2 := az hM
  have HB2 := az (below_then hHeld hHeld.size hb2)
  clear hM hb2 hK
  refine ⟨_, rfl, ?_⟩
  refine hK.out _ _ HB2.out (fun hHeld => ?_)
  clear hK K
  refine Rg.n1 ?_
  refine Rg.p1 9 (.some 16) ?_
  have HCL : Aside0 (cs'.length = 6 ∧ cs'.all (·.oneCell') = true ∧ (Tryz.prog.info? 67).map (·.size) = some cs'.length ∧ m * 6 + cs'.length ≤ zs.length) := ⟨by
   have h6 : cs'.length = 6 := kRq.K_len (kRq.K_of_M HM2.out)
   exact ⟨h6, List.all_eq_true.2 (kRq.K_one (kRq.K_of_M HM2.out)), by rw [h6]; exact HSZ.out, by rw [h6, HZR.out.2]; omega⟩⟩
  refine Rg.l1 10 none (fun K hK => ?_)
  refine Wk.store_step (by rfl) rfl 67 (.tmp 16) (.tmp 13) rfl g (m * 6) (.agg cs'.toArray) cs' rfl rfl (by simp [Value.cells]) 85 zs (HZ1.out.below_ hHeld) HCL.out.2.2.1 HCL.out.2.2.2 HCL.out.2.1 ?_
  intro w3 hX3 hO3
  have HX3 := az hX3
  have HO3 := az hO3
  clear hX3 hO3
  refine hK.out _ _ ?_
  clear hK K
  refine Rg.d1 ?_
  have hc3 : w3.cell? ⟨g, 96, none⟩ = some (.int .i64 m) := by
   rw [HX3.out.cell, Pi.over_hi zs (m * 6) cs' HCL.out.2.2.2 96 (by rw [HCL.out.1]; omega), ← HZ1.out.cell]
   exact HZ5.out
  have HS3 := az Pi.size3
  have HF3 : Aside0 (96 + 1 ≤ (Wk.over zs (m * 6) cs').length) := ⟨by rw [Pi.over_len _ _ _ HCL.out.2.2.2, HZR.out.2]; omega⟩
  refine NoPanic.normal ?_
  go_wp2_with (refine Wk.store rfl rfl 3 (.tmp 23) (.tmp 21) rfl g 96 (.int .i64 ((m : Int) + 1)) [.int .i64 ((m : Int) + 1)] rfl rfl rfl 85 _ HX3.out HS3.out HF3.out rfl ?_; intro w4 hX hO; have HX4 := az hX; have HO4 := az hO; clear hX hO)
  go_ret
  have h6 := HCL.out.1
  have hzl := HZR.out.2
  have hle := HCL.out.2.2.2
  have hB2 := az (HZ1.out.below_ hHeld)
  refine ⟨rfl, ⟨_, HX4.out, HZR.out.1, by rw [Pi.over_len _ _ _ HF3.out, Pi.over_len _ _ _ hle]; exact hzl, by have := HM.out; simp; omega, ?_, ?_⟩, ?_⟩
  ·rw [Pi.over_at _ _ _ (by have := HF3.out; omega)]
   simp [HM.out]
  ·have e : (Wk.over (Wk.over zs (m * 6) cs') 96 [Value.int .i64 ((m : Int) + 1)]).take (6 * (rs ++ [(fl, kd, ck, off, len, data)]).length) = zs.take (6 * m) ++ cs' := by
    rw [List.length_append, HM.out, Pi.over_take _ _ _ _ (by rw [Pi.over_len _ _ _ hle]; omega) (by simp; omega)]
    have := Pi.over_upto zs (m * 6) cs' (by omega)
    rw [h6] at this
    rw [show 6 * (m + [(fl, kd, ck, off, len, data)].length) = m * 6 + 6 by simp; omega, this, Nat.mul_comm]
   rw [e]
   have hstep : ∀ x c, kRq.M w2 base ok x c → kRq.M w4 base ok x c := fun x c hM => Pi.M_only (Pi.M_only hM hB2.out HO3.out) HX3.out HO4.out
   refine Reps.snoc (HZ6.out.imp_ (fun p c hp => hstep p c (Kd.M_below hp HB2.out))) (hstep _ _ (Pi.M_fresh HM2.out (Nat.le_trans HBS.out HB1.out.size) (fun k hk => HOK.out k (Nat.le_trans HB1.out.size hk)))) h6
  ·exact World.grownBy.trans (grown_of_below (below_then HB1.out HB1.out.size HB2.out) _) (World.grownBy.trans HO3.out.grown HO4.out.grown)
namespace Pi
theorem info33 : (Tryz.prog.info? 67).map (fun i => (i.zero, i.size, i.bytes)) = some (some (.agg zrq.toArray), 6, 56) := by kernel_rfl
theorem Pp.get {W : World} {base : Nat} {ok : Nat → Prop} {g : Nat} {rs : List Rq} (h : Pp W base ok g rs) (i : Nat) (hi : i < rs.length) : ∃ (zs : List Value) (v : Value), Wk.Blk W g 85 zs ∧ (zs.drop (i * 6)).take 6 = rqc rs[i].1 rs[i].2.1 rs[i].2.2.1 rs[i].2.2.2.1 rs[i].2.2.2.2.1 v ∧ Kd.R (Kd.int .u8) 5 W base ok v rs[i].2.2.2.2.2 := by
  obtain ⟨cs, h1, h2, h3, h4, h5, h6⟩ := h.out
  have hM := h6.2 i rs[i] (List.getElem?_eq_getElem hi)
  rw [List.drop_take, List.take_take, Nat.min_eq_left (by omega)] at hM
  obtain ⟨v, he, hR⟩ := rq_Mc hM
  exact ⟨cs, v, h1, he, hR⟩
theorem K_of_R {w : World} {base : Nat} {ok : Nat → Prop} {fl kd ck off len : Int} {data : List Int} {v : Value} (h : Kd.R (Kd.int .u8) 5 w base ok v data) : kRq.K w (fl, kd, ck, off, len, data) (rqc fl kd ck off len v) := kRq.K_of_M (rq_M h)
end Pi
theorem all_.calls {W : World} {base : Nat} {ok : Nat → Prop} {g : Nat} {rs : List Rq} (h : Pi.Pp W base ok g rs) (hd : ∀ r ∈ rs, r.2.2.2.2.2.length < 140737488355328) :
  Calls Tryz.prog 37 #[.pointer (some ⟨g, 0, none⟩)] W fun e w' => ∃ v, e = .returned v ∧ kRq.R 67 w' W.heap.size (fun _ => True) v rs ∧ Below W.heap.size W w' := by
 have HP := az h
 have HD := az hd
 have hc := h.cell
 obtain ⟨m, HM⟩ : ∃ n, Aside0 (rs.length = n) := ⟨_, ⟨rfl⟩⟩
 have hm16 : m ≤ 16 := by rw [← HM.out]; exact h.le
 have hm16I : (m : Int) ≤ 16 := by omega
 rw [HM.out] at hc
 clear h hd
 go_enter Tryz.func37, Tryz.ntmps37
 go_wp2_with fail
 clear hc
 go_loopw [3, 9] (fun v i wr => ∃ k : Nat, i = .int .i64 k ∧ k ≤ m ∧ Aside0 (kRq.R 67 wr W.heap.size (fun _ => True) v (rs.take k)) ∧ Aside0 (Below W.heap.size W wr)) (fun _ i _ => m - (intOf i).toNat)
 case atStart => exact ⟨0, rfl, Nat.zero_le _, ⟨Kd.R_nil _ _ _ _ _⟩, ⟨Below.refl _ _⟩⟩
 case round =>
  obtain ⟨k, rfl, hk, HR, HB⟩ := hrel
  by_cases hlt : k < m
  ·have hltI : (k : Int) < m := by omega
   have hltJ : (k : Int) < 16 := by omega
   have hki : k < rs.length := by rw [HM.out]; exact hlt
   obtain ⟨zs, v, z1, z2, zr⟩ := (HP.out.below HB.out).get k hki
   obtain ⟨A, c, rfl⟩ := Kd.R_slice zr
   obtain ⟨r, hr⟩ : ∃ r, rs[k] = r := ⟨_, rfl⟩
   rw [hr] at z2 zr
   have HTK : Aside0 (rs.take (k + 1) = rs.take k ++ [r]) := ⟨by rw [List.take_succ_eq_append_getElem hki, hr]⟩
   have HDR : Aside0 (r.2.2.2.2.2.length < 140737488355328) := ⟨HD.out r (by rw [← hr]; exact List.getElem_mem _)⟩
   obtain ⟨fl, kd, ck, off, len, data⟩ := r
   obtain ⟨n, HN⟩ : ∃ n, Aside0 (data.length = n) := ⟨_, ⟨rfl⟩⟩
   change (zs.drop (k * 6)).take 6 = Pi.rqc fl kd ck off len (.slice A data.length c) at z2
   change Kd.R _ _ _ _ _ (.slice A data.length c) data at zr
   rw [HN.out] at z2 zr
   have HZ1 := az z1
   have HZ2 := az z2
   have HZR := az zr
   have HSZ := az Pi.size33
   clear z1 z2 zr hr hki
   go_wp2_with (refine Wk.load rfl 67 (.tmp 17) rfl (.agg (Pi.rqc fl kd ck off len (.slice A n c)).toArray) (.pointer (some ⟨g, k * 6, none⟩)) rfl (Wk.run_load_blk 67 g (k * 6) _ _ HZ1.out HZ2.out Tryz.underlying67 rfl HSZ.out) ?_)
   have hK : kRq.K wr (fl, kd, ck, off, len, data) (Pi.rqc fl kd ck off len (.slice A n c)) := Pi.K_of_R HZR.out
   refine (plent_.calls hK HDR.out).mono ?_
   rintro e w2 ⟨cs2, rfl, hM, hb2⟩
   obtain ⟨v2, rfl, hR2⟩ := Pi.rq_Mc hM
   obtain ⟨A2, c2, rfl⟩ := Kd.R_slice hR2
   change Kd.R _ _ _ _ _ (.slice A2 data.length c2) data at hR2
   change kRq.M _ _ _ _ (Pi.rqc fl kd ck off len (.slice A2 data.length c2)) at hM
   rw [show ((fl, kd, ck, off, len, data) : Rq).2.2.2.2.2 = data from rfl, HN.out]
   unfold Pi.rqc
   obtain ⟨inner, hown⟩ := Kd.R_own HR.out
   have HM2 := az (kRq.M_lower HB.out.size (Kd.M_new hM hown))
   have HR2 := az (Kd.R_below HR.out hb2)
   have HB2 := az (below_then HB.out HB.out.size hb2)
   have HL2 : Aside0 (((rs.take k).length + 1) * 56 ≤ 140737488355328) := ⟨by rw [List.length_take]; omega⟩
   rw [HN.out] at HM2
   clear hM hb2 hR2 hK hown HZ1 HZ2 HZR
   go_wp2_with (at_builtin; refine Kd.R_append kRq (w0 := W) (W := w2) W.heap.size rfl (.tmp 12) (.tmp 20) 39 67 (.agg Pi.zrq.toArray) 56 rfl Tryz.underlying39 Pi.info33 rfl (by decide) (by omega) u3 (rs.take k) (fl, kd, ck, off, len, data) (Pi.rqc fl kd ck off len (.slice A2 n c2)) (fun _ => True) (fun k => True ∧ some k ≠ u3.ownBlock) rfl rfl HM2.out (fun _ h => h) (fun _ _ => trivial) HR2.out HB2.out HB2.out.size HL2.out ?_; intro v3 w3 hr3 hb3 _ _; have HR3 := az hr3; have HB3 := az hb3; clear hr3 hb3)
   go_roundw
   case rel => exact ⟨k + 1, by go_num, by omega, ⟨by rw [HTK.out]; exact HR3.out⟩, HB3⟩
   case measure => simp [intOf]; omega
  ·obtain rfl : k = m := by omega
   go_wp2_with fail
   go_ret
   refine ⟨_, rfl, ?_, HB.out⟩
   have := HR.out
   rwa [← HM.out, List.take_length] at this
namespace Pi
theorem reps_all {α : Type} {R : α → List Value → Prop} {size : Nat} {ps : List α} {cs : List Value} (h : Reps R size ps cs) (hs0 : 0 < size) (hR : ∀ p c, R p c → ∀ u ∈ c, u.oneCell' = true) : ∀ u ∈ cs, u.oneCell' = true := by
  intro u hu
  obtain ⟨q, hq, rfl⟩ := List.mem_iff_getElem.1 hu
  have hql : q / size < ps.length := by
    rw [Nat.div_lt_iff_lt_mul hs0, ← h.1]
    exact hq
  refine hR _ _ (h.2 (q / size) _ (List.getElem?_eq_getElem hql)) _ ?_
  rw [List.mem_iff_getElem?]
  refine ⟨q % size, ?_⟩
  rw [List.getElem?_take, if_pos (Nat.mod_lt _ hs0), List.getElem?_drop, Nat.mul_comm, Nat.div_add_mod, List.getElem?_eq_getElem hq]
theorem slice_run (g lo hi : Nat) (lo' hi' : Int) (e1 : lo' = lo) (e2 : hi' = hi) (h1 : lo ≤ hi) (h2 : hi ≤ 16) :
    ∃ d : Addr, (∀ W : World, (Instr.sliceAt 83 (.pointer (some ⟨g, 0, none⟩)) (some (.int .i64 lo')) (some (.int .i64 hi')) none).run Tryz.prog W = .ok (.slice (some d) (hi - lo) (16 - lo)) W) ∧ (lo < 16 → d = ⟨g, lo * 6, none⟩) := by
  subst e1; subst e2
  obtain ⟨i, hi1, hsz⟩ := Option.map_eq_some_iff.1 size33
  refine ⟨if 16 = lo then ⟨g, 0, none⟩ else (⟨g, 0, none⟩ : Addr).add (lo * 6), fun W => ?_, fun h => ?_⟩
  · have b1 : (0 : Int) ≤ hi ∧ (hi : Int) ≤ ((16 : Nat) : Int) := by omega
    have b2 : (0 : Int) ≤ lo ∧ (lo : Int) ≤ (hi : Int) := by omega
    have c1 := h1
    have c2 := h2
    simp [Instr.sliceAt, run_underlying Tryz.underlying83, Instr.sureAddr, Instr.sliceBounds, Instr.sliceBound, asIntOf, asInt, b1, b2, sizeOf, typeInfo, hi1, hsz, Result.andThen, c1, c2]
  · rw [if_neg (by omega), add_plain]
theorem copy_run {W : World} {g : Nat} {zs : List Value} (hb : Wk.Blk W g 85 zs) (ty : TypeId) (d s : Addr) (n o o2 dl dc sl sc : Nat) (seg : List Value) (hn : Nat.min sl dl = n) (hd : d = ⟨g, o, none⟩) (hs : 0 < n → s = ⟨g, o2, none⟩) (hseg : (zs.drop o2).take (n * 6) = seg) (hl : seg.length = n * 6) (hfit : o + n * 6 ≤ zs.length) (h1 : ∀ u ∈ seg, u.oneCell' = true) :
    (Builtin.copy_ #[39, 39] ty #[.slice (some d) dl dc, .slice (some s) sl sc]).run Tryz.prog W = .ok (.int .i64 n) (W.setCells g o seg) := by
  obtain ⟨i, hi, hsz⟩ := Option.map_eq_some_iff.1 size33
  subst hd
  have hld : (loadCells s (n * 6)).run Tryz.prog W = .ok seg.toArray W := by
    rcases Nat.eq_zero_or_pos n with h0 | h0
    · subst h0
      have : seg = [] := List.eq_nil_of_length_eq_zero (by omega)
      subst this
      rfl
    · rw [hs h0, ← hl]
      refine run_loadCells_list (P := Tryz.prog) W ⟨g, o2, none⟩ seg (fun j v hv => ?_)
      have hadd : (⟨g, o2, none⟩ : Addr).add j = ⟨g, o2 + j, none⟩ := by unfold Addr.add; split <;> simp_all
      rw [hadd, hb.cell]
      rw [← hseg] at hv
      have hj : j < n * 6 := by
        rcases Nat.lt_or_ge j (n * 6) with h | h
        · exact h
        · rw [List.getElem?_take, if_neg (by omega)] at hv; cases hv
      rw [List.getElem?_take, if_pos hj, List.getElem?_drop] at hv
      exact hv
  have hst := run_storeCells_cells (P := Tryz.prog) g o seg 0 W (fun j hj => by rw [Nat.add_zero, hb.cell, List.getElem?_eq_getElem (by omega)]; rfl) (fun j _ => by rw [Nat.add_zero]; exact hb.frozen _) h1
  rw [Nat.add_zero] at hst
  simp [Builtin.copy_, run_underlying Tryz.underlying39, Builtin.lenOf, Builtin.firstCells, sizeOf, typeInfo, hi, hsz, hn, hld, hst, goInt]
end Pi
theorem take_no {W : World} {base : Nat} {ok : Nat → Prop} {g : Nat} {rs : List Rq} (h : Pi.Pp W base ok g rs) (k : Int) (hk : k < 0 ∨ (rs.length : Int) ≤ k) :
  Calls Tryz.prog 45 #[.pointer (some ⟨g, 0, none⟩), .int .i64 k] W fun e w' => e = .returned (.tuple #[.agg Pi.zrq.toArray, .bool false]) ∧ Below W.heap.size W w' := by
 have HP := az h
 have hc := h.cell
 obtain ⟨m, HM⟩ : ∃ n, Aside0 (rs.length = n) := ⟨_, ⟨rfl⟩⟩
 rw [HM.out] at hc hk
 have HSZ := az Pi.size33
 clear h
 rcases hk with hk | hk
 ·skip
  go_enter Tryz.func45, Tryz.ntmps45
  have hc1 : (W.alloc (.cells #[.int .u16 0, .int .u16 0, .int .u64 0, .int .u64 0, .int .u32 0, .slice none 0 0] 67)).cell? ⟨g, 96, none⟩ = some (.int .i64 m) := by rw [World.cell?_alloc_lt _ _ _ HP.out.lt]; exact hc
  have HX := az (Wk.Blk.new W 67 Pi.zrq)
  go_wp2_with (refine Wk.store_all rfl rfl 67 (.tmp 4) (.tmp 17) rfl W.heap.size Pi.zrq rfl rfl 67 _ HX.out HSZ.out rfl rfl ?_; intro w3 hX hO; have HX3 := az hX; have HO3 := az hO; clear hX hO)
  refine bodyPost_ret (Wk.res_ct rfl _ W.heap.size 67 _ _ rfl HX3.out Tryz.underlying67 rfl HSZ.out) rfl ?_
  exact ⟨rfl, Wk.Only.below ((Below.refl _ _).alloc (Nat.le_refl _) _) HO3.out (Nat.le_refl _)⟩
 ·have hk0 : 0 ≤ k := by omega
  go_enter Tryz.func45, Tryz.ntmps45
  have hc1 : (W.alloc (.cells #[.int .u16 0, .int .u16 0, .int .u64 0, .int .u64 0, .int .u32 0, .slice none 0 0] 67)).cell? ⟨g, 96, none⟩ = some (.int .i64 m) := by rw [World.cell?_alloc_lt _ _ _ HP.out.lt]; exact hc
  have HX := az (Wk.Blk.new W 67 Pi.zrq)
  go_wp2_with (refine Wk.store_all rfl rfl 67 (.tmp 4) (.tmp 17) rfl W.heap.size Pi.zrq rfl rfl 67 _ HX.out HSZ.out rfl rfl ?_; intro w3 hX hO; have HX3 := az hX; have HO3 := az hO; clear hX hO)
  refine bodyPost_ret (Wk.res_ct rfl _ W.heap.size 67 _ _ rfl HX3.out Tryz.underlying67 rfl HSZ.out) rfl ?_
  exact ⟨rfl, Wk.Only.below ((Below.refl _ _).alloc (Nat.le_refl _) _) HO3.out (Nat.le_refl _)⟩
theorem take_yes {W : World} {base : Nat} {ok : Nat → Prop} {g : Nat} {rs : List Rq} (h : Pi.Pp W base ok g rs) (i : Nat) (hi : i < rs.length) :
  Calls Tryz.prog 45 #[.pointer (some ⟨g, 0, none⟩), .int .i64 i] W fun e w' => ∃ cs, e = .returned (.tuple #[.agg cs.toArray, .bool true]) ∧ kRq.M w' base ok rs[i] cs ∧ Pi.Pp w' base ok g (rs.eraseIdx i) ∧ W.grownBy w' (some g) := by
 have HP := az h
 have hc := h.cell
 obtain ⟨zs, h1, h2, h3, h4, h5, h6⟩ := h.out
 obtain ⟨r, HRI⟩ : ∃ r, Aside0 (rs[i] = r) := ⟨_, ⟨rfl⟩⟩
 obtain ⟨fl, kd, ck, off, len, data⟩ := r
 obtain ⟨v, hv, hR⟩ : ∃ v, (zs.drop (i * 6)).take 6 = Pi.rqc fl kd ck off len v ∧ Kd.R (Kd.int .u8) 5 W base ok v data := by
  have hM := h6.2 i rs[i] (List.getElem?_eq_getElem hi)
  rw [List.drop_take, List.take_take, Nat.min_eq_left (by omega), HRI.out] at hM
  exact Pi.rq_Mc hM
 obtain ⟨A, c, rfl⟩ := Kd.R_slice hR
 obtain ⟨n, HN⟩ : ∃ n, Aside0 (data.length = n) := ⟨_, ⟨rfl⟩⟩
 obtain ⟨m, HM⟩ : ∃ n, Aside0 (rs.length = n) := ⟨_, ⟨rfl⟩⟩
 rw [HRI.out]
 rw [HN.out] at hv hR
 rw [HM.out] at hc h4 h5 h6 hi
 have HZ := az h1
 have HZB := az (show base ≤ g ∧ zs.length = 97 from ⟨h2, h3⟩)
 have HZR := az h6
 have HV := az hv
 have HRR := az hR
 have HSZ := az Pi.size33
 have hiI : (i : Int) < m := by omega
 have hi16 : (i : Int) < 16 := by omega
 have hm16 : (m : Int) ≤ 16 := by omega
 have hcz : zs[96]? = some (.int .i64 m) := h5
 have HC := az hcz
 clear h h1 h2 h3 h5 h6 hv hR hcz
 go_enter Tryz.func45, Tryz.ntmps45
 have hc1 : (W.alloc (.cells #[.int .u16 0, .int .u16 0, .int .u64 0, .int .u64 0, .int .u32 0, .slice none 0 0] 67)).cell? ⟨g, 96, none⟩ = some (.int .i64 m) := by rw [World.cell?_alloc_lt _ _ _ HP.out.lt]; exact hc
 have HX := az (Wk.Blk.new W 67 Pi.zrq)
 have HZ1 := az (HZ.out.alloc (.cells #[.int .u16 0, .int .u16 0, .int .u64 0, .int .u64 0, .int .u32 0, .slice none 0 0] 67))
 clear hc
 go_wp2_with (first
  | refine Wk.load rfl 67 (.tmp 22) rfl (.agg (Pi.rqc fl kd ck off len (.slice A n c)).toArray) (.pointer (some ⟨g, i * 6, none⟩)) rfl (Wk.run_load_blk 67 g (i * 6) _ _ HZ1.out HV.out Tryz.underlying67 rfl HSZ.out) ?_
  | (refine Wk.store_all rfl rfl 67 (.tmp 6) (.tmp 23) rfl (W.heap.size + 1) (Pi.rqc fl kd ck off len (.slice A n c)) rfl rfl 67 Pi.zrq ⟨heap_alloc2_new W _ _⟩ HSZ.out rfl rfl ?_; intro w3 hX hO; have HY3 := az hX; have HO3 := az hO; clear hX hO))
 have HB3 : Aside0 (Below W.heap.size W w3) := ⟨Wk.Only.below (((Below.refl _ _).alloc (Nat.le_refl _) _).alloc (by simp) _) HO3.out (Nat.le_succ _)⟩
 have HX3 : Aside0 (Wk.Blk w3 W.heap.size 67 Pi.zrq) := ⟨(HX.out.alloc _).only HO3.out (Nat.ne_of_lt (Nat.lt_succ_self _))⟩
 have HZ3 := az (HZ.out.below_ HB3.out)
 have HC3 := az (HZ3.out.at_ 96 HC.out)
 have HGL := az HZ3.out.lt
 clear hc1 HX HZ1 HO3
 obtain ⟨d1, hs1, hd1⟩ := Pi.slice_run g i m (i : Int) (m : Int) rfl rfl (by omega) h4
 obtain ⟨d2, hs2, hd2⟩ := Pi.slice_run g (i + 1) m ((i : Int) + 1) (m : Int) (by simp) rfl (by omega) h4
 obtain ⟨k1, hk1⟩ : ∃ k, 16 - i = k := ⟨_, rfl⟩
 obtain ⟨k2, hk2⟩ : ∃ k, 16 - (i + 1) = k := ⟨_, rfl⟩
 obtain ⟨q1, hq1⟩ : ∃ k, m - i = k := ⟨_, rfl⟩
 obtain ⟨q2, hq2⟩ : ∃ k, m - (i + 1) = k := ⟨_, rfl⟩
 rw [hk1, hq1] at hs1
 rw [hk2, hq2] at hs2
 have HQ : Aside0 (m - (i + 1) = q2 ∧ Nat.min q2 q1 = q2) := ⟨hq2, Nat.min_eq_left (by omega)⟩
 clear hk1 hk2 hq1 hq2
 have HD1 := az (hd1 (by omega))
 have HD2 := az hd2
 obtain ⟨seg, HSG⟩ : ∃ seg, Aside0 ((zs.drop ((i + 1) * 6)).take ((m - (i + 1)) * 6) = seg) := ⟨_, ⟨rfl⟩⟩
 have HSL : Aside0 (seg.length = (m - (i + 1)) * 6 ∧ i * 6 + seg.length ≤ zs.length ∧ (∀ u ∈ seg, u.oneCell' = true) ∧ i * 6 + seg.length = (m - 1) * 6) := ⟨by
  have hz := HZB.out.2
  have hl : seg.length = (m - (i + 1)) * 6 := by rw [← HSG.out, List.length_take, List.length_drop, hz]; omega
  have hone := Pi.reps_all HZR.out (by decide) (fun p c hp => kRq.K_one (kRq.K_of_M hp))
  refine ⟨hl, by omega, fun u hu => hone u ?_, by omega⟩
  rw [← HSG.out] at hu
  have e : (zs.drop ((i + 1) * 6)).take ((m - (i + 1)) * 6) = (zs.take (6 * m)).drop ((i + 1) * 6) := by
   rw [List.drop_take]; congr 1; omega
  rw [e] at hu
  exact List.mem_of_mem_drop hu⟩
 clear hd1 hd2
 have u1 := IntWalk.i64_in ((i : Int) + 1) (by omega)
 refine wp_region_noPanic ?_
 refine Rg.s1 20 (fun w' => Below w3.heap.size w3 w') [19] (Below.refl _ _).drew #[false, false, false, false, false, false, false, false, false, false, false, false, false, false, false, false, false, false, false, false] (fun hHeld => ?_)
 refine Rg.p1 0 (.some 24) ?_
 refine Rg.p1 1 (.some 25) ?_
 refine Rg.p1 2 (.some 26) ?_
 refine Rg.p1 3 (.some 27) ?_
 refine Rg.p1 4 (.some 28) ?_
 refine Rg.p1 5 (.some 29) ?_
 refine Rg.p1 6 (.some 30) ?_
 refine Rg.t1 7 (.some 31) hHeld ?_ (hy := by intro w' hS'; (have c1 := (hS'.cell (p := ⟨g, 96, none⟩) HGL.out).trans HC3.out; go_simp); first | done | with_reducible rfl)
 refine Rg.p1 8 (.some 32) ?_
 refine Rg.p1 9 (.some 33) ?_
 refine Rg.p1 10 (.some 34) ?_
 refine Rg.p1 11 (.some 35) ?_
 refine Rg.p1 12 (.some 36) ?_
 refine Rg.p1 13 (.some 37) ?_
 refine Rg.p1 14 (.some 38) ?_
 refine Rg.p1 15 (.some 39) ?_
 refine Rg.p1 16 (.some 40) ?_
 refine Rg.t1 17 (.some 41) hHeld ?_ (hy := by intro w' hS'; (have c1 := (hS'.cell (p := ⟨g, 96, none⟩) HGL.out).trans HC3.out; go_simp); first | done | with_reducible rfl)
 refine Rg.p1 18 (.some 42) ?_
 refine Rg.l1 19 (.some 43) (fun K hK => ?_)
 have hcr := Pi.copy_run (W := w3.drew) HZ3.out.drew 3 d1 d2 q2 (i * 6) ((i + 1) * 6) q1 k1 q2 k2 seg HQ.out.2 HD1.out (fun h => HD2.out (by have := HQ.out.1; omega)) (by rw [← HQ.out.1]; exact HSG.out) (by rw [← HQ.out.1]; exact HSL.out.1) (by rw [← HQ.out.1, ← HSL.out.1]; exact HSL.out.2.1) HSL.out.2.2.1
 refine value_ (w1 := w3.drew.setCells g (i * 6) seg) (v := .int .i64 (q2 : Int)) (by rfl) rfl (by simp [execOp, resolve, invoke, builtin, Act.eval, hcr, Result.andThen]) ?_
 clear hcr
 refine hK.out _ _ ?_
 clear hK K
 refine Rg.n1 ?_
 refine Rg.d1 ?_
 clear u1 hs1 hs2
 have HO4 : Aside0 (Wk.Only w3 (w3.drew.setCells g (i * 6) seg) g) := ⟨by
  have := Wk.only_setCells w3.drew g (i * 6) seg
  exact ⟨this.os, this.tape, this.output, this.size, this.block⟩⟩
 have HZ4 : Aside0 (Wk.Blk (w3.drew.setCells g (i * 6) seg) g 85 (Wk.over zs (i * 6) seg)) := ⟨Wk.blk_setCells HZ3.out.drew (i * 6) seg HSL.out.2.1⟩
 generalize World.setCells w3.drew _ _ _ = w4 at *
 obtain ⟨z4, HZE4⟩ : ∃ z, Aside0 (Wk.over zs (i * 6) seg = z) := ⟨_, ⟨rfl⟩⟩
 rw [HZE4.out] at HZ4
 have HL4 : Aside0 (z4.length = 97 ∧ z4[96]? = some (.int .i64 m) ∧ 96 + 1 ≤ z4.length) := ⟨by
  have h1 : z4.length = 97 := by rw [← HZE4.out, Pi.over_len _ _ _ HSL.out.2.1]; exact HZB.out.2
  exact ⟨h1, by rw [← HZE4.out, Pi.over_hi _ _ _ HSL.out.2.1 96 (by have := HSL.out.2.2.2; omega)]; exact HC.out, by omega⟩⟩
 have hc4 : w4.cell? ⟨g, 96, none⟩ = some (.int .i64 m) := HZ4.out.at_ 96 HL4.out.2.1
 have HS3 := az Pi.size3
 have hm0 : (0 : Int) ≤ (m : Int) - 1 := by omega
 have HNE : Aside0 (W.heap.size ≠ g ∧ W.heap.size + 1 ≠ g) := ⟨by have := HP.out.lt; omega⟩
 have HX4 := az (HX3.out.only HO4.out HNE.out.1)
 have HY4 := az (HY3.out.only HO4.out HNE.out.2)
 refine NoPanic.normal ?_
 go_wp2_with (refine Wk.store rfl rfl 3 (.tmp 50) (.tmp 48) rfl g 96 (.int .i64 ((m : Int) - 1)) [.int .i64 ((m : Int) - 1)] rfl rfl rfl 85 _ HZ4.out HS3.out HL4.out.2.2 rfl ?_; intro w5 hX hO; have HZ5 := az hX; have HO5 := az hO; clear hX hO)
 obtain ⟨z5, HZE5⟩ : ∃ z, Aside0 (Wk.over z4 96 [.int .i64 ((m : Int) - 1)] = z) := ⟨_, ⟨rfl⟩⟩
 rw [HZE5.out] at HZ5
 have HL5 : Aside0 (z5.length = 97 ∧ z5[96]? = some (.int .i64 ((m : Int) - 1)) ∧ (m - 1) * 6 + 6 ≤ z5.length) := ⟨by
  have h1 : z5.length = 97 := by rw [← HZE5.out, Pi.over_len _ _ _ HL4.out.2.2]; exact HL4.out.1
  exact ⟨h1, by rw [← HZE5.out]; exact Pi.over_at _ _ _ (by have := HL4.out.1; omega), by omega⟩⟩
 have HC5 := az (HZ5.out.at_ 96 HL5.out.2.1)
 have HX5 := az (HX4.out.only HO5.out HNE.out.1)
 have HY5 := az (HY4.out.only HO5.out HNE.out.2)
 have HG5 := az HZ5.out.lt
 clear hc4
 obtain ⟨m1, HM1⟩ : ∃ m1 : Nat, Aside0 ((m : Int) - 1 = m1 ∧ m1 + 1 = m ∧ m1 < 16) := ⟨m - 1, ⟨by omega, by omega, by omega⟩⟩
 rw [HM1.out.1] at HC5 ⊢
 have hm1 : (m1 : Int) < 16 := by have := HM1.out.2.2; omega
 refine wp_region_noPanic ?_
 refine Rg.s1 10 (fun w' => Below w5.heap.size w5 w') [9] (Below.refl _ _).drew #[false, false, false, false, false, false, false, false, false, false] (fun hHeld => ?_)
 refine Rg.p1 0 (.some 51) ?_
 refine Rg.p1 1 (.some 52) ?_
 refine Rg.p1 2 (.some 53) ?_
 refine Rg.p1 3 (.some 54) ?_
 refine Rg.t1 4 (.some 55) hHeld ?_ (hy := by intro w' hS'; (have c1 := (hS'.cell (p := ⟨g, 96, none⟩) HG5.out).trans HC5.out; go_simp); first | done | with_reducible rfl)
 refine Rg.p1 5 (.some 56) ?_
 refine Rg.p1 6 (.some 57) ?_
 refine Rg.p1 7 (.some 58) ?_
 refine Rg.p1 8 (.some 59) ?_
 refine Rg.l1 9 none (fun K hK => ?_)
 refine Wk.store_step (by rfl) rfl 67 (.tmp 59) (.tmp 56) rfl g (m1 * 6) (.agg Pi.zrq.toArray) Pi.zrq rfl rfl rfl 85 z5 HZ5.out.drew HSZ.out (by have := HM1.out; have := HL5.out.1; rw [show Pi.zrq.length = 6 from rfl]; omega) rfl ?_
 intro w6 hX6 hO6
 have HZ6 := az hX6
 have HO6 : Aside0 (Wk.Only w5 w6 g) := ⟨⟨hO6.os, hO6.tape, hO6.output, hO6.size, hO6.block⟩⟩
 clear hX6 hO6
 refine hK.out _ _ ?_
 clear hK K
 refine Rg.d1 ?_
 have HX6 := az (HX5.out.only HO6.out HNE.out.1)
 have HY6 := az (HY5.out.only HO6.out HNE.out.2)
 refine NoPanic.normal ?_
 go_wp2_with (first
  | refine Wk.load rfl 67 (.tmp 6) rfl (.agg (Pi.rqc fl kd ck off len (.slice A n c)).toArray) (.pointer (some ⟨W.heap.size + 1, 0, none⟩)) rfl (Wk.run_load_blk 67 (W.heap.size + 1) 0 _ _ HY6.out rfl Tryz.underlying67 rfl HSZ.out) ?_
  | (refine Wk.store_all rfl rfl 67 (.tmp 4) (.tmp 60) rfl W.heap.size (Pi.rqc fl kd ck off len (.slice A n c)) rfl rfl 67 Pi.zrq HX6.out HSZ.out rfl rfl ?_; intro w7 hX hO; have HX7 := az hX; have HO7 := az hO; clear hX hO))
 refine bodyPost_ret (Wk.res_ct rfl _ W.heap.size 67 _ _ rfl HX7.out Tryz.underlying67 rfl HSZ.out) rfl ?_
 have hne : ∀ q, q ∈ 5 :: (Kd.int .u8).E → q ≠ 85 := by decide
 have hne2 : ∀ q, q ∈ 5 :: (Kd.int .u8).E → q ≠ 67 := by decide
 have hne3 : ∀ q, q ∈ kRq.E → q ≠ 67 := by decide
 have hR := Wk.R_only (Wk.R_only (Wk.R_only (Wk.R_only (Kd.R_below HRR.out HB3.out) HZ3.out hne HO4.out) HZ4.out hne HO5.out) HZ5.out hne HO6.out) HX6.out hne2 HO7.out
 have hstep : ∀ x c, kRq.M W base ok x c → kRq.M w7 base ok x c := fun x c hM =>
  kRq.M_mono (fun _ hk => hk.1) (Kd.M_grown (Kd.M_types (Pi.M_only (Pi.M_only (Pi.M_only (Kd.M_below hM HB3.out) HZ3.out HO4.out) HZ4.out HO5.out) HZ5.out HO6.out) HX6.out.out hne3) HO7.out.grown (fun k hk he => hk.2 (by injection he)))
 have hm := HM1.out
 have h5 := HL5.out
 have h4' := HL4.out
 have hsl := HSL.out
 have hzl := HZB.out.2
 have hg6 : W.grownBy w6 (some g) := World.grownBy.trans (grown_of_below HB3.out _) (World.grownBy.trans HO4.out.grown (World.grownBy.trans HO5.out.grown HO6.out.grown))
 have hel : (rs.eraseIdx i).length = m1 := by rw [List.length_eraseIdx_of_lt (by rw [HM.out]; exact hi), HM.out]; omega
 refine ⟨_, rfl, Pi.rq_M hR, ⟨_, HZ6.out.only HO7.out (Ne.symm HNE.out.1), HZB.out.1, ?_, by omega, ?_, ?_⟩, ⟨HO7.out.os.trans hg6.os, HO7.out.tape.trans hg6.tape, HO7.out.output.trans hg6.output, by rw [HO7.out.size]; exact hg6.size, fun k hk hkn => (HO7.out.block k (by omega)).trans (hg6.block k hk hkn)⟩⟩
 ·rw [Pi.over_len _ _ _ (by rw [show Pi.zrq.length = 6 from rfl]; omega)]; exact h5.1
 ·rw [Pi.over_hi _ _ _ (by rw [show Pi.zrq.length = 6 from rfl]; omega) 96 (by rw [show Pi.zrq.length = 6 from rfl]; omega), h5.2.1, hel, hm.1]
 ·have e : (Wk.over z5 (m1 * 6) Pi.zrq).take (6 * (rs.eraseIdx i).length) = zs.take (i * 6) ++ seg := by
   rw [hel, Pi.over_take _ _ _ _ (by omega) (by omega), ← HZE5.out, Pi.over_take _ _ _ _ (by omega) (by omega), ← HZE4.out]
   have := Pi.over_upto zs (i * 6) seg (by omega)
   rw [hsl.2.2.2] at this
   rw [show 6 * m1 = (m - 1) * 6 by omega, this]
  rw [e, List.eraseIdx_eq_take_drop_succ]
  have hr := HZR.out
  have r1 := Kd.reps_take (m := i) hr (by rw [HM.out]; omega)
  have r2 := Kd.reps_drop (m := i + 1) hr
  rw [List.take_take, Nat.min_eq_left (by omega)] at r1
  have e2 : (zs.take (6 * m)).drop ((i + 1) * 6) = seg := by
   rw [List.drop_take, ← HSG.out]
   congr 1
   omega
  rw [e2] at r2
  exact (Kd.reps_append r1 r2).imp_ hstep
namespace Pi
structure Rf (W : World) (base : Nat) (ok : Nat → Prop) (g : Nat) (rs : List Rq) : Prop where mk_ ::
  out : ∃ v : Value, Wk.Blk W g 91 [v] ∧ base ≤ g ∧ rs.length ≤ 16 ∧ kRq.R 67 W base ok v rs
theorem kRq_ne : ∀ q, q ∈ 67 :: kRq.E → q ≠ 91 := by decide
section
variable {W W' : World} {base : Nat} {ok ok' : Nat → Prop} {g : Nat} {rs : List Rq}
theorem Rf.below (h : Rf W base ok g rs) (hb : Below W.heap.size W W') : Rf W' base ok g rs := by
  obtain ⟨v, h1, h2, h3, h4⟩ := h.out
  exact ⟨v, h1.below_ hb, h2, h3, Kd.R_below h4 hb⟩
theorem Rf.lt (h : Rf W base ok g rs) : g < W.heap.size := by
  obtain ⟨v, h1, _⟩ := h.out
  exact h1.lt
theorem Rf.le (h : Rf W base ok g rs) : rs.length ≤ 16 := by
  obtain ⟨v, h1, h2, h3, h4⟩ := h.out
  exact h3
theorem Rf.cell (h : Rf W base ok g rs) : ∃ A c, W.cell? ⟨g, 0, none⟩ = some (.slice A rs.length c) ∧ rs.length ≤ c ∧ kRq.C W A rs.length rs ∧ Wk.Blk W g 91 [.slice A rs.length c] ∧ kRq.R 67 W base ok (.slice A rs.length c) rs := by
  obtain ⟨v, h1, h2, h3, h4⟩ := h.out
  obtain ⟨A, c, rfl, hl, hC⟩ := Kd.R_reads h4
  exact ⟨A, c, h1.at_ 0 rfl, hl, hC, h1, h4⟩
end
structure Ty (W W' : World) (base : Nat) (ts : List TypeId) : Prop where
  bel : Below base W W'
  keep : ∀ (k : Nat) (cs : Array Value) (t : TypeId), W.heap[k]? = some (.cells cs t (0, 0)) → t ∉ ts → W'.heap[k]? = W.heap[k]?
theorem Pp.ty {W W' : World} {base b : Nat} {ok : Nat → Prop} {g : Nat} {rs : List Rq} {ts : List TypeId} (h : Pp W base ok g rs) (hT : Ty W W' b ts) (h49 : 85 ∉ ts) (h5 : 5 ∉ ts) : Pp W' base ok g rs := by
  obtain ⟨cs, h1, h2, h3, h4, h5', h6⟩ := h.out
  refine ⟨cs, ⟨(hT.keep _ _ _ h1.out h49).trans h1.out⟩, h2, h3, h4, h5', h6.imp_ (fun p c hp => ?_)⟩
  refine kRq.M_mono (fun _ hk => hk.1) (kRq.M_move (fun k hk => ?_) (kRq.M_bound hp))
  obtain ⟨_, _, _, q, hq, cells, hc⟩ := hk
  refine hT.keep _ _ _ hc ?_
  have : q = 5 := by
    have hE : kRq.E = [5] := by decide
    rw [hE] at hq
    exact List.mem_singleton.1 hq
  rw [this]
  exact h5
theorem R_ty {W W' : World} {base b : Nat} {ok : Nat → Prop} {v : Value} {xs : List Int} {ts : List TypeId} (h : Kd.R (Kd.int .u8) 5 W base ok v xs) (hT : Ty W W' b ts) (h5 : 5 ∉ ts) : Kd.R (Kd.int .u8) 5 W' base ok v xs := by
  refine Kd.R_mono (Kd.R_move (Kd.R_bound h) (fun k hk => ?_)) (fun _ hk => hk.1)
  obtain ⟨_, _, _, q, hq, cells, hc⟩ := hk
  refine hT.keep _ _ _ hc ?_
  have hE : 5 :: (Kd.int .u8).E = [5] := by decide
  rw [hE] at hq
  rw [List.mem_singleton.1 hq]
  exact h5
end Pi
theorem rnew_.calls (ok : Nat → Prop) (w : World) : Calls Tryz.prog 29 #[] w fun e w' => e = .returned (.pointer (some ⟨w.heap.size, 0, none⟩)) ∧ Pi.Rf w' w.heap.size ok w.heap.size [] ∧ Below w.heap.size w w' := by
 go_enter Tryz.func29, Tryz.ntmps29
 go_wp2_with fail
 go_ret
 exact ⟨rfl, ⟨.slice none 0 0, ⟨heap_alloc_new w _⟩, Nat.le_refl _, by simp, Kd.R_nil _ _ _ _ _⟩, (Below.refl _ _).alloc (Nat.le_refl _) _⟩
theorem rfull_.calls {W : World} {base : Nat} {ok : Nat → Prop} {g : Nat} {rs : List Rq} (h : Pi.Rf W base ok g rs) : Calls Tryz.prog 67 #[.pointer (some ⟨g, 0, none⟩)] W fun e w' => e = .returned (.bool (decide (rs.length = 16))) ∧ W = w' := by
 obtain ⟨A, c, hc, _⟩ := h.cell
 have hle := h.le
 obtain ⟨n, HN⟩ : ∃ n, Aside0 (rs.length = n) := ⟨_, ⟨rfl⟩⟩
 rw [HN.out] at hc hle ⊢
 clear h
 by_cases hn : n = 16
 ·subst hn
  go_enter Tryz.func67, Tryz.ntmps67
  go_wp2_with fail
  go_ret
  exact ⟨rfl, rfl⟩
 ·have hb : ¬ (16 : Int) ≤ n := by omega
  have HD : Aside0 (decide (n = 16) = false) := ⟨decide_eq_false hn⟩
  clear hn hle
  go_enter Tryz.func67, Tryz.ntmps67
  go_wp2_with fail
  go_ret
  exact ⟨by rw [HD.out]; simp, rfl⟩
theorem rclear_.calls {W : World} {base : Nat} {ok : Nat → Prop} {g : Nat} {rs : List Rq} (h : Pi.Rf W base ok g rs) (ok' : Nat → Prop) : Calls Tryz.prog 50 #[.pointer (some ⟨g, 0, none⟩)] W fun e w' => e = .returned (.tuple #[]) ∧ Pi.Rf w' base ok' g [] ∧ Wk.Only W w' g := by
 obtain ⟨v, h1, h2, h3, h4⟩ := h.out
 have HB := az h1
 have H2 := az h2
 have HSZ := az Pi.size22
 clear h1 h h2
 go_enter Tryz.func50, Tryz.ntmps50
 go_wp2_with (refine Wk.store rfl rfl 39 (.tmp 4) (.const (.slice none 0 0)) rfl g 0 (.slice none 0 0) [.slice none 0 0] rfl rfl rfl 91 _ HB.out HSZ.out (Nat.le_refl 1) rfl ?_; intro w3 hX hO; have HX := az (show Wk.Blk w3 g 91 [.slice none 0 0] from hX); have HO := az hO; clear hX hO)
 go_end0
 exact ⟨rfl, ⟨.slice none 0 0, HX.out, H2.out, by simp, Kd.R_nil _ _ _ _ _⟩, HO.out⟩
theorem rlent_.calls {W : World} {r : Rq} {cs : List Value} (h : kRq.K W r cs) (hl : r.2.2.2.2.2.length < 140737488355328) : Calls Tryz.prog 54 #[.agg cs.toArray] W fun e w' => ∃ cs', e = .returned (.agg cs'.toArray) ∧ kRq.M w' W.heap.size (fun _ => True) r cs' ∧ Below W.heap.size W w' := by
 obtain ⟨A, c, rfl, hlc, hC⟩ := rq_cells h
 obtain ⟨fl, kd, ck, off, len, data⟩ := r
 change data.length ≤ c at hlc
 change data.length < _ at hl
 have HC := az (show Kd.C (Kd.int .u8) W A data.length data from hC)
 clear h hC
 obtain ⟨n, HN⟩ : ∃ n, Aside0 (data.length = n) := ⟨_, ⟨rfl⟩⟩
 rw [HN.out] at hlc hl HC
 show Calls _ _ #[.agg #[.int .u16 fl, .int .u16 kd, .int .u64 ck, .int .u64 off, .int .u32 len, .slice A data.length c]] _ _
 rw [HN.out]
 have HL : Aside0 ((([] : List Int).length + n) * 1 ≤ 140737488355328) := ⟨by simp; omega⟩
 clear hl
 go_enter Tryz.func54, Tryz.ntmps54
 generalize hWq : World.alloc W (.cells #[.int .u16 fl, .int .u16 kd, .int .u64 ck, .int .u64 off, .int .u32 len, .slice A n c] 67) = W1
 obtain ⟨W0, hW0⟩ : ∃ W0, W0 = W1.alloc (.cells #[.int .u16 0, .int .u16 0, .int .u64 0, .int .u64 0, .int .u32 0, .slice none 0 0] 67) := ⟨_, rfl⟩
 subst hWq
 have HB0 : Aside0 (Below W.heap.size W W0) := ⟨by rw [hW0]; exact below_alloc (below_alloc (Below.refl _ _) _) _⟩
 have HX0 : Aside0 (Wk.Blk W0 W.heap.size 67 (Pi.rqc fl kd ck off len (.slice A n c))) := ⟨by rw [hW0]; exact (Wk.Blk.new W _ (Pi.rqc fl kd ck off len (.slice A n c))).alloc _⟩
 have HY0 : Aside0 (Wk.Blk W0 (W.heap.size + 1) 67 Pi.zrq) := ⟨by rw [hW0]; exact ⟨heap_alloc2_new W _ _⟩⟩
 have HSL := az Pi.size31
 have HSZ := az Pi.size33
 have HA0 : Aside0 (Kd.R (Kd.int .u8) 5 W0 W.heap.size (fun _ => True) (.slice none 0 0) ([] : List Int)) := ⟨Kd.R_nil _ _ _ _ _⟩
 have HCU := az (Kd.C_below HC.out HB0.out)
 have HW0 := az hW0
 clear hW0 HC
 go_wp2_with (first
  | (at_builtin; refine Wk.cast_ HW0.out.symm ?_; refine Kd.R_append_rows (Kd.int .u8) (w0 := W) W.heap.size rfl (.tmp 4) (.tmp 6) 35 5 (.int .u8 0) 1 rfl Tryz.underlying35 Cl.infoByte rfl (by decide) (by omega) (.slice none 0 0) ([] : List Int) data A n c (fun _ => True) (fun _ => False) rfl rfl HA0.out HCU.out (fun _ _ h => h) (fun _ h => h.elim) (fun _ _ => trivial) HB0.out HB0.out.size HL.out ?_; intro v5 w5 ho hb hg _; rw [List.nil_append] at ho; obtain ⟨A5, c5, rfl⟩ := Kd.R_slice ho; rw [HN.out] at *; have HV5 := az ho; have HB5 := az hb; have HX5 := az (HX0.out.grown hg (by simp [Value.ownBlock])); have HY5 := az (HY0.out.grown hg (by simp [Value.ownBlock])); clear ho hb hg)
  | (refine Wk.store rfl rfl 35 (.tmp 9) (.tmp 8) rfl W.heap.size 5 (.slice A5 n c5) [.slice A5 n c5] rfl rfl rfl 67 _ HX5.out HSL.out (Nat.le_of_ble_eq_true rfl) rfl ?_; intro w6 hX hO; have HX6 := az (show Wk.Blk w6 W.heap.size 67 (Pi.rqc fl kd ck off len (.slice A5 n c5)) from hX); have HO6 := az hO; have HY6 := az (HY5.out.only hO (Nat.ne_of_gt (Nat.lt_succ_self _))); clear hX hO)
  | refine Wk.load rfl 67 (.tmp 1) rfl (.agg (Pi.rqc fl kd ck off len (.slice A5 n c5)).toArray) (.pointer (some ⟨W.heap.size, 0, none⟩)) rfl (Wk.run_load_blk 67 W.heap.size 0 _ _ HX6.out rfl Tryz.underlying67 rfl HSZ.out) ?_
  | (refine Wk.store_all rfl rfl 67 (.tmp 2) (.tmp 10) rfl (W.heap.size + 1) (Pi.rqc fl kd ck off len (.slice A5 n c5)) rfl rfl 67 _ HY6.out HSZ.out rfl rfl ?_; intro w7 hX hO; have HX := az hX; have HO := az hO; clear hX hO))
 refine bodyPost_ret (Wk.res_c rfl _ (W.heap.size + 1) 67 _ _ rfl HX.out Tryz.underlying67 rfl HSZ.out) rfl ?_
 have hne : ∀ q, q ∈ 5 :: (Kd.int .u8).E → q ≠ 67 := by decide
 have hB6 := Wk.Only.below HB5.out HO6.out (Nat.le_refl _)
 have hR := Wk.R_only (Wk.R_only HV5.out HX5.out hne HO6.out) HY6.out hne HO.out
 exact ⟨_, rfl, Pi.rq_M hR, Wk.Only.below hB6 HO.out (Nat.le_succ _)⟩
end Go.Proofs.YtgljicdpcapgnaaGreatDoor
namespace Go.Proofs.YtgljicdpcapgnaaGreatDoor
open Go.RowKit Go.Proofs.YtgljicdpcapgnaaGreatDoorW.PrintWords Go.Proofs.YtgljicdpcapgnaaGreatDoorW.PrintLast
namespace Wi
def Cuts (A : Option Addr) (bs : List Int) (A' : Option Addr) (n : Nat) : Prop := ∀ W : World, Kd.C (Kd.int .u8) W A bs.length bs → Kd.C (Kd.int .u8) W A' (bs.drop n).length (bs.drop n)
def wd (n : Int) : Nat := if n = 1 then 1 else if n = 2 then 2 else if n = 4 then 4 else 8
def num (bs : List Int) : Int := bs.foldl (fun n x => n * 256 + x) 0
def Bytes (l : List Int) : Prop := ∀ x ∈ l, 0 ≤ x ∧ x ≤ 255
theorem Bytes.take {l : List Int} (h : Bytes l) (n : Nat) : Bytes (l.take n) := fun x hx => h x (List.mem_of_mem_take hx)
theorem Bytes.drop {l : List Int} (h : Bytes l) (n : Nat) : Bytes (l.drop n) := fun x hx => h x (List.mem_of_mem_drop hx)
theorem num_snoc (l : List Int) (x : Int) : num (l ++ [x]) = num l * 256 + x := by simp [num]
theorem num_range (l : List Int) : Bytes l → 0 ≤ num l ∧ num l < 256 ^ l.length := by
  have key : ∀ (l r : List Int), Bytes (l ++ r) → 0 ≤ num l → num l < 256 ^ l.length → 0 ≤ num (l ++ r) ∧ num (l ++ r) < 256 ^ (l ++ r).length := by
    intro l r
    induction r generalizing l with
    | nil => intro _ h0 h1; rw [List.append_nil]; exact ⟨h0, h1⟩
    | cons x r ih =>
      intro hb h0 h1
      have hx := hb x (by simp)
      have := ih (l ++ [x]) (by rw [List.append_assoc]; exact hb) (by rw [num_snoc]; omega) (by rw [num_snoc, List.length_append, List.length_singleton, Int.pow_succ]; omega)
      rw [List.append_assoc] at this
      exact this
  intro h
  have := key [] l h (by simp [num]) (by simp [num])
  simpa using this
theorem pow256 : ∀ m, m < 8 → (256 : Int) ^ m ≤ 72057594037927936 := by decide
theorem take_snoc (l : List Int) (i : Nat) (h : i < l.length) : l.take (i + 1) = l.take i ++ [rd l i] := by
  rw [List.take_succ_eq_append_getElem h]
  simp [rd, List.getD_eq_getElem?_getD, List.getElem?_eq_getElem h]
theorem infoByte' : ∃ i, Tryz.prog.info? 5 = some i ∧ i.size = 1 := by
  obtain ⟨i, hi, _, h, _⟩ := info_parts Cl.infoByte
  exact ⟨i, hi, h⟩
end Wi
theorem Wi.number_short (g : Nat) (A : Option Addr) (c : Nat) (bs : List Int) (n : Nat) (hn : n ≤ 8) (w : World) (hg : w.heap[g]? = some (.cells #[.slice A bs.length c] 129 (0, 0))) (hl : bs.length < n) :
  Calls Tryz.prog 84 #[.pointer (some ⟨g, 0, none⟩), .int .i64 n] w fun e w' => (∃ u pv, e = .panicked [{ v := .iface u pv, recovered := false }]) ∧ w' = w := by
 have hc : w.cell? ⟨g, 0, none⟩ = some (.slice A bs.length c) := by unfold World.cell?; rw [hg]; rfl
 clear hg
 go_enter Tryz.func84, Tryz.ntmps84
 go_wp2_with fail
 exact ⟨rfl, ⟨_, _, rfl⟩, rfl⟩
theorem Wi.number_long (g : Nat) (A : Option Addr) (c : Nat) (bs : List Int) (n : Nat) (hn : n ≤ 8) (hn1 : 1 ≤ n) (w : World) (hg : w.heap[g]? = some (.cells #[.slice A bs.length c] 129 (0, 0))) (hl : n ≤ bs.length) (hC : Kd.C (Kd.int .u8) w A bs.length bs) (hcap : bs.length ≤ c) (hb : Wi.Bytes bs) :
  Calls Tryz.prog 84 #[.pointer (some ⟨g, 0, none⟩), .int .i64 n] w fun e w' => e = .returned (.int .u64 (Wi.num (bs.take n))) ∧ ∃ A' c', w' = w.setCell ⟨g, 0, none⟩ (.slice A' (bs.drop n).length c') ∧ (bs.drop n).length ≤ c' ∧ Wi.Cuts A bs A' n := by
 have hc : w.cell? ⟨g, 0, none⟩ = some (.slice A bs.length c) := by unfold World.cell?; rw [hg]; rfl
 have hfz : w.frozen? ⟨g, 0, none⟩ = false := by unfold World.frozen?; rw [hg]; simp
 obtain ⟨ti, hti, htz⟩ := Wi.infoByte'
 obtain ⟨A', hs, hr, hcl⟩ := print_drop_of (P := Tryz.prog) (Value.int .u8) 0 35 5 .i64 Tryz.underlying35 hti htz A c bs n (by omega) (by omega) hcap
 rw [Int.toNat_natCast] at hr hcl
 have hs' : ∀ W : World, (Instr.slice 35 (.slice A bs.length c) (some (.int .i64 (n : Int))) none none).run Tryz.prog W = .ok (.slice A' (bs.drop n).length (c - n)) W := fun W => by have := hs W; rw [Int.toNat_natCast] at this; exact this
 obtain ⟨dl, HDL⟩ : ∃ dl, Aside0 ((bs.drop n).length = dl) := ⟨_, ⟨rfl⟩⟩
 rw [HDL.out] at hs'
 have HC' : Aside0 (Wi.Cuts A bs A' n) := ⟨fun W h => Kd.C_of_reads (h1 := fun _ => rfl) (hr W (Kd.reads_of_C h))⟩
 have HCL := az hcl
 have HCC := az hC
 have HBB := az hb
 clear hg hr hcl hs hti htz hC hb
 go_enter Tryz.func84, Tryz.ntmps84
 go_wp2_with fail
 go_loop [4, 6, 30] (fun v4 v6 v30 => ∃ (i : Nat) (m : Int), v30 = .int .i64 i ∧ v4 = .int .u64 m ∧ i ≤ n ∧ 0 ≤ m ∧ Aside0 (m < 256 ^ i) ∧ Aside0 (m = Wi.num (bs.take i))) (fun _ _ i => n - (intOf i).toNat)
 case atStart => exact ⟨0, 0, rfl, rfl, Nat.zero_le _, Int.le_refl _, ⟨by simp⟩, ⟨by simp [Wi.num]⟩⟩
 case round =>
  obtain ⟨i, m, rfl, rfl, hi, hm0, HM1, HM⟩ := hrel
  by_cases hlt : i < n
  ·obtain ⟨ad, e, hx⟩ := Kd.at_int HCC.out i (by omega) (by omega)
   cases e
   have hx' : w.cell? (ad.add i) = some (.int .u8 (rd bs i)) := by simpa using hx
   have hrg : 0 ≤ rd bs ↑i ∧ rd bs ↑i ≤ 255 := by
    have : rd bs ↑i = bs[i] := by simp [rd, List.getD_eq_getElem?_getD, List.getElem?_eq_getElem (show i < bs.length by omega)]
    rw [this]; exact HBB.out _ (List.getElem_mem _)
   clear hx
   have HS := az (Wi.take_snoc bs i (by omega))
   obtain ⟨x, HX⟩ : ∃ x, Aside0 (rd bs ↑i = x) := ⟨_, ⟨rfl⟩⟩
   rw [HX.out] at hx' hrg HS
   obtain ⟨hx0, hx1⟩ := hrg
   have hmb : m < 72057594037927936 := by have := HM1.out; have := Wi.pow256 i (by omega); omega
   have ho := Bt.or_256 m x hm0 hmb hx0 hx1
   go_wp2_with fail
   go_round
   case rel => exact ⟨i + 1, m * 256 + x, by go_num, rfl, by omega, by clear ho; omega, ⟨by have := HM1.out; rw [Int.pow_succ]; clear ho; omega⟩, ⟨by rw [HS.out, Wi.num_snoc, ← HM.out]⟩⟩
   case measure => simp [intOf]; omega
  ·obtain rfl : i = n := by omega
   go_wp2_with fail
   go_ret
   have hd : dl = bs.length - i := by rw [← HDL.out, List.length_drop]
   have hcl := HCL.out
   rw [List.length_drop] at hcl
   refine ⟨by rw [HM.out]; rfl, A', c - i, ?_, by omega, HC'.out⟩
   rw [hd]
namespace Wi
def takes : List Int → List Int → List Int → List Int × List Int × Bool
  | b, [], acc => (acc, b, true)
  | b, w :: ws, acc => if b.length < wd w then ([], [], false) else takes (b.drop (wd w)) ws (acc ++ [num (b.take (wd w))])
theorem info64 : (Tryz.prog.info? 45).map (fun i => (i.zero, i.size, i.bytes)) = some (some (.int .u64 0), 1, 8) := by kernel_rfl
theorem width_is (n : Int) (w : World) : Calls Tryz.prog 56 #[.int .i64 n] w fun e w' => e = .returned (.int .i64 (wd n)) ∧ w = w' := by
 by_cases h1 : n = 1
 ·subst h1
  go_enter Tryz.func56, Tryz.ntmps56
  go_wp2
  go_ret
  exact ⟨rfl, rfl⟩
 by_cases h2 : n = 2
 ·subst h2
  go_enter Tryz.func56, Tryz.ntmps56
  go_wp2
  go_ret
  exact ⟨rfl, rfl⟩
 by_cases h4 : n = 4
 ·subst h4
  go_enter Tryz.func56, Tryz.ntmps56
  go_wp2
  go_ret
  exact ⟨rfl, rfl⟩
 have b1 : (n == 1) = false := beq_eq_false_iff_ne.mpr h1
 have b2 : (n == 2) = false := beq_eq_false_iff_ne.mpr h2
 have b4 : (n == 4) = false := beq_eq_false_iff_ne.mpr h4
 have hw : Aside0 (wd n = 8) := ⟨by unfold wd; rw [if_neg h1, if_neg h2, if_neg h4]⟩
 clear h1 h2 h4
 go_enter Tryz.func56, Tryz.ntmps56
 go_wp2
 go_ret
 exact ⟨by rw [hw.out]; rfl, rfl⟩
theorem catch_panicking (p0 p1 p2 : Addr) (x0 x1 x2 : Value) (u : TypeId) (pv : Value) (older : List PanicEntry) (w : World)
    (h0 : w.cell? p0 = some x0) (z0 : w.frozen? p0 = false) (h1 : (w.setCell p0 (.slice none 0 0)).cell? p1 = some x1) (z1 : (w.setCell p0 (.slice none 0 0)).frozen? p1 = false)
    (h2 : ((w.setCell p0 (.slice none 0 0)).setCell p1 (.slice none 0 0)).cell? p2 = some x2) (z2 : ((w.setCell p0 (.slice none 0 0)).setCell p1 (.slice none 0 0)).frozen? p2 = false) :
    CallsD Tryz.prog 83 #[.pointer (some p0), .pointer (some p1), .pointer (some p2)] (.panicking ({ v := .iface u pv, recovered := false } :: older)) w fun e u' w' =>
      e = .returned (.tuple #[]) ∧ u' = .panicking ({ v := .iface u pv, recovered := true } :: older) ∧ w' = ((w.setCell p0 (.slice none 0 0)).setCell p1 (.slice none 0 0)).setCell p2 (.bool false) := by
  refine callsD_of_wpS Tryz.func83 rfl fun c₀ cs hu => ?_
  apply wpS_seq
  apply wpS_region
  simp [wpOpsS, go_sem, recoverD, hu, Tryz.ntmps83, Exit.thenS]
  apply wpS_seq
  apply wpS_region
  simp [wpOpsS, go_sem, Exit.thenS]
  refine wpS_cond (t := true) (by simp [Act.eval, Array.replicate]) ?_
  simp only [if_true]
  apply wpS_region
  simp [wpOpsS, go_sem, h0, z0, h1, z1, h2, z2, bodyPostS, results, Tryz.results83]
theorem catch_idle (p0 p1 p2 : Addr) (w : World) :
    CallsD Tryz.prog 83 #[.pointer (some p0), .pointer (some p1), .pointer (some p2)] .returning w fun e u' w' => e = .returned (.tuple #[]) ∧ u' = .returning ∧ w' = w := by
  refine callsD_of_wpS Tryz.func83 rfl fun c₀ cs hu => ?_
  apply wpS_seq
  apply wpS_region
  simp [wpOpsS, go_sem, recoverD, hu, Tryz.ntmps83, Exit.thenS]
  apply wpS_seq
  apply wpS_region
  simp [wpOpsS, go_sem, Exit.thenS]
  refine wpS_cond (t := false) (by simp [Act.eval, Array.replicate]) ?_
  simp only [Bool.false_eq_true, if_false]
  refine wpS_of_wp (wp_skip ?_)
  cases c₀
  simp_all [bodyPostS, results, Tryz.results83]
end Wi
namespace Wi
section
variable {P : Program} {ops : Array Oper}
theorem callp_ {oi : Oper} {N : Option Tmp} {a : Act} {w : World} {K : Act → World → Prop} {Q : Exit → Act → World → Prop} (f : FuncId) (args : Array Value) (hw : Region.wanted oi (yielded ops a.tmps) = true) (hN : oi.dst = N) (hrun : (execOp a.eval oi).run P w = .ok (.enter f args) w)
    (h : Calls P f args w fun e w' => (∃ v, e = .returned v ∧ K (a.put N v) w') ∨ ∃ c, e = .panicked c ∧ Q (.panic c) a w') : if Region.wanted oi (yielded ops a.tmps) = true then Oper.wp P oi a w K Q else K (a.put N undef) w := by
  rw [if_pos hw]
  subst hN
  unfold Oper.wp
  rw [hrun, Oper.upon_enter]
  refine h.mono fun e w'' hh => ?_
  rcases hh with ⟨v, rfl, hk⟩ | ⟨c, rfl, hk⟩
  · exact hk
  · exact hk
end
def Pk (p0 p1 p2 : Value) (D : List Deferred) (W : World) : Exit → Act → World → Prop
  | .panic c, a, w' => (∃ u pv, c = [{ v := .iface u pv, recovered := false }]) ∧ a.tmps[4]? = some p0 ∧ a.tmps[5]? = some p1 ∧ a.tmps[6]? = some p2 ∧ a.defers = D ∧ w' = W
  | _, _, _ => False
theorem Pk.put {p0 p1 p2 : Value} {D : List Deferred} {W : World} {c : List PanicEntry} {a : Act} {w : World} {d : Nat} {v : Value} (hd : 6 < d) (h : Pk p0 p1 p2 D W (.panic c) (a.put (some d) v) w) : Pk p0 p1 p2 D W (.panic c) a w := by
  obtain ⟨h1, h2, h3, h4, h5, h6⟩ := h
  simp only [Act.put, Array.getElem?_setIfInBounds] at h2 h3 h4 h5
  rw [if_neg (by omega)] at h2 h3 h4
  exact ⟨h1, h2, h3, h4, h5, h6⟩
structure Own (w : World) (v : Value) (acc : List Int) (A : Option Addr) (c : Nat) (rest : List Int) (wr : World) : Prop where
  b0 : wr.heap[w.heap.size]? = some (.cells #[v] 89 (0, 0))
  b1 : wr.heap[w.heap.size + 1]? = some (.cells #[.slice none 0 0] 35 (0, 0))
  b2 : wr.heap[w.heap.size + 1 + 1]? = some (.cells #[.bool false] 4 (0, 0))
  b3 : wr.heap[w.heap.size + 1 + 1 + 1]? = some (.cells #[.slice A rest.length c] 129 (0, 0))
  r : Kd.R (Kd.int .u64) 45 wr w.heap.size (fun k => w.heap.size + 1 + 1 + 1 < k) v acc
  reads : Kd.C (Kd.int .u8) w A rest.length rest
  cap : rest.length ≤ c
  below : Below w.heap.size w wr
theorem cell0 {w : World} {b : Nat} {v : Value} {t : TypeId} (h : w.heap[b]? = some (.cells #[v] t (0, 0))) : w.cell? ⟨b, 0, none⟩ = some v := by unfold World.cell?; rw [h]; rfl
theorem frozen0 {w : World} {b : Nat} {v : Value} {t : TypeId} (h : w.heap[b]? = some (.cells #[v] t (0, 0))) : w.frozen? ⟨b, 0, none⟩ = false := by unfold World.frozen?; rw [h]; simp
theorem block_set {w : World} {b : Nat} {v u : Value} {t : TypeId} (h : w.heap[b]? = some (.cells #[v] t (0, 0))) : (w.setCell ⟨b, 0, none⟩ u).heap[b]? = some (.cells #[u] t (0, 0)) := by
  rw [heap_setCell_same w b 0 #[v] t u h]
  rfl
theorem Own.step {w : World} {v : Value} {acc : List Int} {A : Option Addr} {c : Nat} {rest : List Int} {wr : World} (h : Own w v acc A c rest wr) {wn : World} (hb : ∀ k, k < wr.heap.size → wn.heap[k]? = wr.heap[k]?) (hB : Below w.heap.size w wn) : Own w v acc A c rest wn := by
  have lt : ∀ {k : Nat} {o : Obj}, wr.heap[k]? = some o → k < wr.heap.size := fun e => (Array.getElem?_eq_some_iff.1 e).1
  exact ⟨(hb _ (lt h.b0)).trans h.b0, (hb _ (lt h.b1)).trans h.b1, (hb _ (lt h.b2)).trans h.b2, (hb _ (lt h.b3)).trans h.b3, Kd.R_step h.r (fun k _ hk => hb k hk), h.reads, h.cap, hB⟩
theorem Own.drew {w : World} {v : Value} {acc : List Int} {A : Option Addr} {c : Nat} {rest : List Int} {wr : World} (h : Own w v acc A c rest wr) : Own w v acc A c rest wr.drew := h.step (fun _ _ => rfl) (below_drew h.below)
theorem Own.cut {w : World} {v : Value} {acc : List Int} {A A' : Option Addr} {c c' n : Nat} {rest : List Int} {wr : World} (h : Own w v acc A c rest wr) (hc : Cuts A rest A' n) (h1 : (rest.drop n).length ≤ c') :
    Own w v acc A' c' (rest.drop n) (wr.setCell ⟨w.heap.size + 1 + 1 + 1, 0, none⟩ (.slice A' (rest.drop n).length c')) :=
  ⟨(Below.heap_setCell _ _ _ _ (by show w.heap.size ≠ w.heap.size + 1 + 1 + 1; omega)).trans h.b0, (Below.heap_setCell _ _ _ _ (by show w.heap.size + 1 ≠ w.heap.size + 1 + 1 + 1; omega)).trans h.b1, (Below.heap_setCell _ _ _ _ (by show w.heap.size + 1 + 1 ≠ w.heap.size + 1 + 1 + 1; omega)).trans h.b2, block_set h.b3,
    Kd.R_far (p := ⟨w.heap.size + 1 + 1 + 1, 0, none⟩) h.r (fun k hk => by show k ≠ w.heap.size + 1 + 1 + 1; omega) _, hc _ h.reads, h1, h.below.setCell (p := ⟨w.heap.size + 1 + 1 + 1, 0, none⟩) (by show w.heap.size ≤ w.heap.size + 1 + 1 + 1; omega) _⟩
theorem Own.app {w : World} {v v1 : Value} {acc acc' : List Int} {A : Option Addr} {c : Nat} {rest : List Int} {W w2 : World} (h : Own w v acc A c rest W) (hr : Kd.R (Kd.int .u64) 45 w2 w.heap.size (fun k => w.heap.size + 1 + 1 + 1 < k) v1 acc') (hb : Below w.heap.size w w2) (hg : W.grownBy w2 v.ownBlock) :
    Own w v1 acc' A c rest (w2.setCell ⟨w.heap.size, 0, none⟩ v1) ∧ w2.heap[w.heap.size]? = some (.cells #[v] 89 (0, 0)) := by
  have lt : ∀ {k : Nat} {o : Obj}, W.heap[k]? = some o → k < W.heap.size := fun e => (Array.getElem?_eq_some_iff.1 e).1
  have ne : ∀ k, k ≤ w.heap.size + 1 + 1 + 1 → some k ≠ v.ownBlock := fun k hk e => by have := h.r.1 k e.symm; omega
  have g0 := (hg.block _ (lt h.b0) (ne _ (by omega))).trans h.b0
  have g1 := (hg.block _ (lt h.b1) (ne _ (by omega))).trans h.b1
  have g2 := (hg.block _ (lt h.b2) (ne _ (by omega))).trans h.b2
  have g3 := (hg.block _ (lt h.b3) (ne _ (by omega))).trans h.b3
  exact ⟨⟨block_set g0, (Below.heap_setCell _ _ _ _ (by show w.heap.size + 1 ≠ w.heap.size; omega)).trans g1, (Below.heap_setCell _ _ _ _ (by show w.heap.size + 1 + 1 ≠ w.heap.size; omega)).trans g2, (Below.heap_setCell _ _ _ _ (by show w.heap.size + 1 + 1 + 1 ≠ w.heap.size; omega)).trans g3,
    Kd.R_far (p := ⟨w.heap.size, 0, none⟩) hr (fun k hk => by show k ≠ w.heap.size; omega) _, h.reads, h.cap, hb.setCell (p := ⟨w.heap.size, 0, none⟩) (Nat.le_refl _) _⟩, g0⟩
theorem four (h : Array Obj) (a b c d : Obj) : ((((h.push a).push b).push c).push d)[h.size]? = some a ∧ ((((h.push a).push b).push c).push d)[h.size + 1]? = some b ∧ ((((h.push a).push b).push c).push d)[h.size + 1 + 1]? = some c ∧ ((((h.push a).push b).push c).push d)[h.size + 1 + 1 + 1]? = some d := by
  refine ⟨?_, ?_, ?_, ?_⟩ <;> simp only [Array.getElem?_push, Array.size_push, if_true] <;> (repeat (first | rw [if_neg (by omega)] | rw [if_pos (by omega)]))
theorem wd_range (n : Int) : 1 ≤ wd n ∧ wd n ≤ 8 := by unfold wd; split <;> (try split) <;> (try split) <;> omega
end Wi
def wire_Take.f (l0 l1 : List Int) : Option (List Int × List Int × Bool) := if l0.length ≤ 1099511627776 ∧ l1.length ≤ 1099511627776 ∧ ∀ x ∈ l0, 0 ≤ x ∧ x ≤ 255 then some (Wi.takes l0 l1 []) else none
theorem wire_Take.calls (A0 : Option Addr) (c0 : Nat) (l0 : List Int) (A1 : Option Addr) (c1 : Nat) (l1 : List Int) (r1 : List Int) (r2 : List Int) (r3 : Bool) (w : World) (hr0 : Kd.C (Kd.int .u8) w A0 l0.length l0) (hc0 : l0.length ≤ c0) (hr1 : Kd.C (Kd.int .i64) w A1 l1.length l1) (hc1 : l1.length ≤ c1) (h : wire_Take.f l0 l1 = some (r1, r2, r3)) :
    Calls Tryz.prog 70 #[.slice A0 l0.length c0, .slice A1 l1.length c1] w fun e w' => ∃ v0_ v1_ : Value, e = .returned (.tuple #[v0_, v1_, .bool r3]) ∧ Kd.R (Kd.int .u64) 45 w' w.heap.size (fun _ => True) v0_ r1 ∧ Kd.R (Kd.int .u8) 5 w' w.heap.size (fun _ => True) v1_ r2 ∧ Below w.heap.size w w' := by
  have hmf : ∀ (fn : Fn) (first cap : Array Value) (w : World), (Instr.makeFunc fn first cap).run Tryz.prog w = .ok (.func fn first cap) w := fun _ _ _ _ => rfl
  have HR0 := az hr0
  have HR1 := az hr1
  clear hr0 hr1
  have HF := az h
  clear h
  go_enter_defers Tryz.func70, Tryz.ntmps70
  go_wp2_with fail
  have hbytes : ∀ x ∈ l0, 0 ≤ x ∧ x ≤ 255 := by
    have h := HF.out
    unfold wire_Take.f at h
    split at h
    · rename_i hc; exact hc.2.2
    · cases h
  have hlen0 : l0.length ≤ 1099511627776 := by
    have h := HF.out
    unfold wire_Take.f at h
    split at h
    · rename_i hc; exact hc.1
    · cases h
  have hlen1 : l1.length ≤ 1099511627776 := by
    have h := HF.out
    unfold wire_Take.f at h
    split at h
    · rename_i hc; exact hc.2.1
    · cases h
  have HT : Aside0 (Wi.takes l0 l1 [] = (r1, r2, r3)) := ⟨by
    have h := HF.out
    unfold wire_Take.f at h
    rw [if_pos ⟨hlen0, hlen1, hbytes⟩] at h
    exact Option.some.inj h⟩
  have HY := az hbytes
  clear hbytes HF
  go_loopw [16] (fun v16 wr => ∃ (k : Nat) (v : Value) (acc : List Int) (A : Option Addr) (c : Nat) (rest : List Int), v16 = .int .i64 k ∧ k ≤ l1.length ∧ Aside0 (Wi.takes rest (l1.drop k) acc = (r1, r2, r3)) ∧ Aside0 (Wi.Bytes rest) ∧ Aside0 (acc.length = k) ∧ Aside0 (rest.length ≤ l0.length) ∧ Aside0 (Wi.Own w v acc A c rest wr)) (fun i _ => l1.length - (intOf i).toNat)
  case atStart =>
    refine ⟨0, .slice none 0 0, [], A0, c0, l0, rfl, by omega, ⟨HT.out⟩, ⟨HY.out⟩, ⟨rfl⟩, ⟨Nat.le_refl _⟩, ⟨?_⟩⟩
    refine ⟨?_, ?_, ?_, ?_, Kd.R_nil _ _ _ _ _, HR0.out, hc0, ?_⟩
    · exact (Wi.four w.heap _ _ _ _).1
    · exact (Wi.four w.heap _ _ _ _).2.1
    · exact (Wi.four w.heap _ _ _ _).2.2.1
    · exact (Wi.four w.heap _ _ _ _).2.2.2
    · exact below_alloc (below_alloc (below_alloc (below_alloc (Below.refl _ _) _) _) _) _
  case round =>
    obtain ⟨k, v, acc, A, c, rest, rfl, hk, HA, HBy, HAL, HRL, HO⟩ := hrel
    by_cases hlt : k < l1.length
    · obtain ⟨ad, e, hx⟩ := Kd.at_int HR1.out k (by omega) (by omega)
      cases e
      have hx' : wr.cell? (ad.add k) = some (.int .i64 (rd l1 k)) := by simpa using (HO.out.below.cell (World.block_lt_of_cell? w _ hx)).trans hx
      clear hx
      obtain ⟨x, HX⟩ : ∃ x, Aside0 (rd l1 ↑k = x) := ⟨_, ⟨rfl⟩⟩
      rw [HX.out] at hx'
      have HD : Aside0 (l1.drop k = x :: l1.drop (k + 1)) := ⟨by rw [← HX.out, List.drop_eq_getElem_cons hlt]; simp [rd, List.getD_eq_getElem?_getD, List.getElem?_eq_getElem hlt]⟩
      go_wp2_with fail
      by_cases hs : Wi.wd x ≤ rest.length
      · refine wp_region_noPanic ?_
        have hwd := Wi.wd_range x
        obtain ⟨Av, cv, hvv⟩ := Kd.R_slice HO.out.r
        subst hvv
        refine Rg.s1 8 (fun w' => w'.cell? ⟨w.heap.size, 0, none⟩ = some (.slice Av acc.length cv)) [7] (Wi.cell0 HO.out.drew.b0) #[false, false, false, false, false, false, false, false] (fun hHeld => ?_)
        refine Rg.p1 1 (.some 21) ?_
        refine Rg.p1 2 (.some 22) ?_
        refine Rg.t1 0 (.some 20) hHeld ?_ (hy := by intro w' hS'; go_simp; first | done | with_reducible rfl)
        refine Rg.o1 3 (.some 23) (fun K hK => ?_)
        refine call_ 56 #[.int .i64 x] (by rfl) rfl (by go_simp) ?_
        refine (Wi.width_is x _).mono ?_
        rintro e w' ⟨rfl, rfl⟩
        refine ⟨_, rfl, ?_⟩
        refine hK.out _ _ hHeld (fun hHeld => ?_)
        clear hK K
        refine Rg.n1 ?_
        refine Rg.o1 4 (.some 24) (fun K hK => ?_)
        refine call_ 84 #[.pointer (some ⟨w.heap.size + 1 + 1 + 1, 0, none⟩), .int .i64 (Wi.wd x)] (by rfl) rfl (by go_simp) ?_
        refine (Wi.number_long _ A c rest (Wi.wd x) hwd.2 hwd.1 _ HO.out.drew.b3 hs (Kd.C_below HO.out.reads HO.out.drew.below) HO.out.cap HBy.out).mono ?_
        rintro e w' ⟨rfl, A', c', rfl, hc1, hcut⟩
        have HO1 := az (HO.out.drew.cut hcut hc1)
        refine ⟨_, rfl, ?_⟩
        refine hK.out _ _ (Wi.cell0 HO1.out.b0) (fun hHeld => ?_)
        clear hK K
        refine Rg.n1 ?_
        refine Rg.o1 5 (.some 25) (fun K hK => ?_)
        refine value_ (w1 := (World.setCell wr.drew ⟨w.heap.size + 1 + 1 + 1, 0, none⟩ (.slice A' (rest.drop (Wi.wd x)).length c')).alloc (.cells #[.int .u64 (Wi.num (rest.take (Wi.wd x)))] 45)) (v := .slice (some ⟨(World.setCell wr.drew ⟨w.heap.size + 1 + 1 + 1, 0, none⟩ (.slice A' (rest.drop (Wi.wd x)).length c')).heap.size, 0, none⟩) 1 1) (by rfl) rfl (by go_simp) ?_
        have HO2 := az (HO1.out.step (wn := (World.setCell wr.drew ⟨w.heap.size + 1 + 1 + 1, 0, none⟩ (.slice A' (rest.drop (Wi.wd x)).length c')).alloc (.cells #[.int .u64 (Wi.num (rest.take (Wi.wd x)))] 45)) (fun k hk => Below.heap_alloc _ _ _ hk) (HO1.out.below.alloc HO1.out.below.size _))
        refine hK.out _ _ (Wi.cell0 HO2.out.b0) (fun hHeld => ?_)
        clear hK K
        refine Rg.n1 ?_
        generalize (World.setCell wr.drew ⟨w.heap.size + 1 + 1 + 1, 0, none⟩ (.slice A' (rest.drop (Wi.wd x)).length c')) = w1 at *
        refine Rg.o1 6 (.some 26) (fun K hK => ?_)
        refine Kd.R_append_step (Kd.int .u64) (w0 := w) (W := w1) w.heap.size (by rfl) (.tmp 20) (.tmp 25) 89 45 (.int .u64 0) 8 rfl Tryz.underlying89 Wi.info64 rfl (by decide) (by omega) (.slice Av acc.length cv) acc (Wi.num (rest.take (Wi.wd x))) [.int .u64 (Wi.num (rest.take (Wi.wd x)))] (fun k => w.heap.size + 1 + 1 + 1 < k) (fun _ => False) rfl rfl rfl (fun _ h => h.elim) ?hfresh HO1.out.r HO1.out.below HO1.out.below.size ?hl ?_
        case hfresh => intro k hk; have := (Array.getElem?_eq_some_iff.1 HO1.out.b3).1; omega
        case hl => have := HAL.out; omega
        intro v1 w2 hr2 hb2 hg2 _
        have HP := az (HO1.out.app hr2 hb2 hg2)
        obtain ⟨Av1, cv1, hv1⟩ := Kd.R_slice hr2
        subst hv1
        clear hr2 hb2 hg2
        refine hK.out _ _ (Wi.cell0 HP.out.2) (fun hHeld => ?_)
        clear hK K
        refine Rg.n1 ?_
        refine Rg.l1 7 none (fun K hK => ?_)
        have hc0' := Wi.cell0 HP.out.2
        have hf0' := Wi.frozen0 HP.out.2
        refine skip_ (w1 := w2.setCell ⟨w.heap.size, 0, none⟩ (.slice Av1 (acc ++ [Wi.num (rest.take (Wi.wd x))]).length cv1)) (by rfl) rfl (by go_simp) ?_
        clear hc0' hf0'
        refine hK.out _ _ ?_
        clear hK K
        refine Rg.d1 ?_
        have HQ := az HP.out.1
        clear hHeld HP HO1 HO2
        refine NoPanic.normal ?_
        go_wp2_with fail
        go_roundw
        case rel =>
          refine ⟨k + 1, .slice Av1 (acc ++ [Wi.num (rest.take (Wi.wd x))]).length cv1, acc ++ [Wi.num (rest.take (Wi.wd x))], A', c', rest.drop (Wi.wd x), by go_num, by omega, ⟨?_⟩, ⟨HBy.out.drop _⟩, ⟨?_⟩, ⟨?_⟩, ⟨by simpa using HQ.out⟩⟩
          · rw [← HA.out, HD.out, Wi.takes, if_neg (by omega)]
          · rw [List.length_append, HAL.out]; rfl
          · have := HRL.out; rw [List.length_drop]; omega
        case measure => simp [intOf]; omega
      · refine Code.wp_mono (Q := Wi.Pk (.pointer (some ⟨w.heap.size, 0, none⟩)) (.pointer (some ⟨w.heap.size + 1, 0, none⟩)) (.pointer (some ⟨w.heap.size + 1 + 1, 0, none⟩)) [{ target := .fn (.func 83) #[.pointer (some ⟨w.heap.size, 0, none⟩), .pointer (some ⟨w.heap.size + 1, 0, none⟩), .pointer (some ⟨w.heap.size + 1 + 1, 0, none⟩)], args := #[] }] wr.drew) ?hq ?_
        case hq =>
          intro e a' w' hp
          cases e with
          | panic ch =>
            obtain ⟨⟨u, pv, rfl⟩, p4, p5, p6, pd, rfl⟩ := hp
            have HZ : Aside0 (r1 = [] ∧ r2 = [] ∧ r3 = false) := ⟨by
              have h := HA.out
              rw [HD.out, Wi.takes, if_pos (by omega)] at h
              cases h
              exact ⟨rfl, rfl, rfl⟩⟩
            obtain ⟨e1, e2, e3⟩ := HZ.out
            subst e1; subst e2; subst e3
            have HW := az HO.out.drew
            have c0 := Wi.cell0 HW.out.b0
            have z0 := Wi.frozen0 HW.out.b0
            have k1 := Eq.trans (Below.heap_setCell wr.drew ⟨w.heap.size, 0, none⟩ (.slice none 0 0) (w.heap.size + 1) (by show w.heap.size + 1 ≠ w.heap.size; omega)) HW.out.b1
            have k2 := Eq.trans (Below.heap_setCell wr.drew ⟨w.heap.size, 0, none⟩ (.slice none 0 0) (w.heap.size + 1 + 1) (by show w.heap.size + 1 + 1 ≠ w.heap.size; omega)) HW.out.b2
            have k2' := Eq.trans (Below.heap_setCell (wr.drew.setCell ⟨w.heap.size, 0, none⟩ (.slice none 0 0)) ⟨w.heap.size + 1, 0, none⟩ (.slice none 0 0) (w.heap.size + 1 + 1) (by show w.heap.size + 1 + 1 ≠ w.heap.size + 1; omega)) k2
            have k0 := Wi.block_set (u := .slice none 0 0) HW.out.b0
            show Leaves _ _ a'.tmps _ a'.defers (.panicking _) _
            rw [pd]
            clear HA HR0 HR1 HT HBy HAL HRL
            refine leaves_cons (f := 83) (args := #[.pointer (some ⟨w.heap.size, 0, none⟩), .pointer (some ⟨w.heap.size + 1, 0, none⟩), .pointer (some ⟨w.heap.size + 1 + 1, 0, none⟩)]) (by simp) (by simp [go_sem]) ?_
            refine (Wi.catch_panicking ⟨w.heap.size, 0, none⟩ ⟨w.heap.size + 1, 0, none⟩ ⟨w.heap.size + 1 + 1, 0, none⟩ _ _ _ u pv [] _ c0 z0 (Wi.cell0 k1) (Wi.frozen0 k1) (Wi.cell0 k2') (Wi.frozen0 k2')).mono ?_
            rintro e' u' w' ⟨rfl, rfl, rfl⟩
            have m1 := Wi.block_set (u := .slice none 0 0) k1
            have m0 := Eq.trans (Below.heap_setCell (wr.drew.setCell ⟨w.heap.size, 0, none⟩ (.slice none 0 0)) ⟨w.heap.size + 1, 0, none⟩ (.slice none 0 0) (w.heap.size) (by show w.heap.size ≠ w.heap.size + 1; omega)) k0
            have n0 := Eq.trans (Below.heap_setCell ((wr.drew.setCell ⟨w.heap.size, 0, none⟩ (.slice none 0 0)).setCell ⟨w.heap.size + 1, 0, none⟩ (.slice none 0 0)) ⟨w.heap.size + 1 + 1, 0, none⟩ (.bool false) (w.heap.size) (by show w.heap.size ≠ w.heap.size + 1 + 1; omega)) m0
            have n1 := Eq.trans (Below.heap_setCell ((wr.drew.setCell ⟨w.heap.size, 0, none⟩ (.slice none 0 0)).setCell ⟨w.heap.size + 1, 0, none⟩ (.slice none 0 0)) ⟨w.heap.size + 1 + 1, 0, none⟩ (.bool false) (w.heap.size + 1) (by show w.heap.size + 1 ≠ w.heap.size + 1 + 1; omega)) m1
            have n2 := Wi.block_set (u := .bool false) k2'
            have d0 := Wi.cell0 n0
            have d1 := Wi.cell0 n1
            have d2 := Wi.cell0 n2
            clear c0 z0 k1 k2 k2' k0 m1 m0 n0 n1 n2
            have hB := ((HW.out.below.setCell (p := ⟨w.heap.size, 0, none⟩) (Nat.le_refl _) (.slice none 0 0)).setCell (p := ⟨w.heap.size + 1, 0, none⟩) (by show w.heap.size ≤ w.heap.size + 1; omega) (.slice none 0 0)).setCell (p := ⟨w.heap.size + 1 + 1, 0, none⟩) (by show w.heap.size ≤ w.heap.size + 1 + 1; omega) (.bool false)
            generalize ((wr.drew.setCell ⟨w.heap.size, 0, none⟩ (.slice none 0 0)).setCell ⟨w.heap.size + 1, 0, none⟩ (.slice none 0 0)).setCell ⟨w.heap.size + 1 + 1, 0, none⟩ (.bool false) = WW at d0 d1 d2 hB ⊢
            refine ⟨.tuple #[.slice none 0 0, .slice none 0 0, .bool false], by simp [results, Tryz.results70, go_sem, Act.eval, p4, p5, p6, d0, d1, d2], ?_⟩
            refine ⟨_, _, rfl, Kd.R_nil _ _ _ _ _, Kd.R_nil _ _ _ _ _, ?_⟩
            exact hB
          | normal => exact hp.elim
          | ret => exact hp.elim
          | exit _ => exact hp.elim
          | goto _ => exact hp.elim
          | outgrown => exact hp.elim
        have hwd := Wi.wd_range x
        obtain ⟨Av, cv, hvv⟩ := Kd.R_slice HO.out.r
        subst hvv
        refine Rg.s1 8 (fun w' => w'.cell? ⟨w.heap.size, 0, none⟩ = some (.slice Av acc.length cv)) [7] (Wi.cell0 HO.out.drew.b0) #[false, false, false, false, false, false, false, false] (fun hHeld => ?_)
        refine Rg.p1 1 (.some 21) ?_ (hQ := by exact (fun _ _ _ h => Wi.Pk.put (by decide) h))
        refine Rg.p1 2 (.some 22) ?_ (hQ := by exact (fun _ _ _ h => Wi.Pk.put (by decide) h))
        refine Rg.t1 0 (.some 20) hHeld ?_ (hy := by intro w' hS'; go_simp; first | done | with_reducible rfl) (hQ := by exact (fun _ _ _ h => Wi.Pk.put (by decide) h))
        refine Rg.o1 3 (.some 23) (fun K hK => ?_)
        refine call_ 56 #[.int .i64 x] (by rfl) rfl (by go_simp) ?_
        refine (Wi.width_is x _).mono ?_
        rintro e w' ⟨rfl, rfl⟩
        refine ⟨_, rfl, ?_⟩
        refine hK.out _ _ hHeld (fun hHeld => ?_)
        clear hK K
        refine Rg.n1 ?_
        refine one_ (i := 4) (N := (some 24)) #[true, true, true, true, true, false, false, false] rfl rfl (by kernel_rfl) (by decide) (fun K hK => ?_)
        refine Wi.callp_ 84 #[.pointer (some ⟨w.heap.size + 1 + 1 + 1, 0, none⟩), .int .i64 (Wi.wd x)] (by rfl) rfl (by go_simp) ?_
        refine (Wi.number_short _ A c rest (Wi.wd x) hwd.2 _ HO.out.drew.b3 (by omega)).mono ?_
        rintro e w' ⟨⟨u, pv, rfl⟩, rfl⟩
        exact .inr ⟨_, rfl, ⟨u, pv, rfl⟩, rfl, rfl, rfl, rfl, rfl⟩
    · go_wp2_with fail
      refine wp_region_noPanic ?_
      obtain ⟨Av, cv, hvv⟩ := Kd.R_slice HO.out.r
      subst hvv
      refine Rg.s1 9 (fun w' => w'.cell? ⟨w.heap.size, 0, none⟩ = some (.slice Av acc.length cv) ∧ w'.cell? ⟨w.heap.size + 1 + 1 + 1, 0, none⟩ = some (.slice A rest.length c)) [6, 7, 8] (⟨Wi.cell0 HO.out.drew.b0, Wi.cell0 HO.out.drew.b3⟩) #[false, false, false, false, false, false, false, false, false] (fun hHeld => ?_)
      refine Rg.t1 0 (.some 28) hHeld ?_ (hy := by intro w' hS'; (obtain ⟨hS0, _⟩ := hS'; go_simp); first | done | with_reducible rfl)
      refine Rg.p1 1 (.some 29) ?_
      refine Rg.p1 2 (.some 30) ?_
      refine Rg.p1 3 (.some 31) ?_
      refine Rg.t1 4 (.some 32) hHeld ?_ (hy := by intro w' hS'; (obtain ⟨_, hS1⟩ := hS'; go_simp); first | done | with_reducible rfl)
      refine Rg.o1 5 (.some 33) (fun K hK => ?_)
      refine call_ 53 #[.slice A rest.length c] (by rfl) rfl (by go_simp) ?_
      refine (clone_.calls A c rest rest _ (Kd.C_below HO.out.reads HO.out.drew.below) HO.out.cap (by unfold clone_.f; rw [if_pos (by have := HRL.out; omega)])).mono ?_
      rintro e w1 ⟨v1, rfl, hr1, hb1⟩
      have HO1 := az (HO.out.drew.step (fun k hk => hb1.block k hk) (below_then HO.out.drew.below HO.out.drew.below.size hb1))
      have HR1' := az hr1
      have HB1 := az hb1
      obtain ⟨Av1, cv1, hv1⟩ := Kd.R_slice hr1
      subst hv1
      clear hr1 hb1
      refine ⟨_, rfl, ?_⟩
      refine hK.out _ _ ⟨Wi.cell0 HO1.out.b0, Wi.cell0 HO1.out.b3⟩ (fun hHeld => ?_)
      clear hK K
      refine Rg.n1 ?_
      have b0 := HO1.out.b0
      have b1 := HO1.out.b1
      have b2 := HO1.out.b2
      refine Rg.l1 6 none (fun K hK => ?_)
      have hc0' := Wi.cell0 b0
      have hf0' := Wi.frozen0 b0
      refine skip_ (w1 := w1.setCell ⟨w.heap.size, 0, none⟩ (.slice Av acc.length cv)) (by rfl) rfl (by go_simp) ?_
      clear hc0' hf0'
      refine hK.out _ _ ?_
      clear hK K
      have k0 := Wi.block_set (u := .slice Av acc.length cv) b0
      have k1 := Eq.trans (Below.heap_setCell w1 ⟨w.heap.size, 0, none⟩ (.slice Av acc.length cv) (w.heap.size + 1) (by show w.heap.size + 1 ≠ w.heap.size; omega)) b1
      have k2 := Eq.trans (Below.heap_setCell w1 ⟨w.heap.size, 0, none⟩ (.slice Av acc.length cv) (w.heap.size + 1 + 1) (by show w.heap.size + 1 + 1 ≠ w.heap.size; omega)) b2
      clear b0 b1 b2
      refine Rg.l1 7 none (fun K hK => ?_)
      have hc0' := Wi.cell0 k1
      have hf0' := Wi.frozen0 k1
      refine skip_ (w1 := (w1.setCell ⟨w.heap.size, 0, none⟩ (.slice Av acc.length cv)).setCell ⟨w.heap.size + 1, 0, none⟩ (.slice Av1 rest.length cv1)) (by rfl) rfl (by go_simp) ?_
      clear hc0' hf0'
      refine hK.out _ _ ?_
      clear hK K
      have m1 := Wi.block_set (u := .slice Av1 rest.length cv1) k1
      have m0 := Eq.trans (Below.heap_setCell (w1.setCell ⟨w.heap.size, 0, none⟩ (.slice Av acc.length cv)) ⟨w.heap.size + 1, 0, none⟩ (.slice Av1 rest.length cv1) (w.heap.size) (by show w.heap.size ≠ w.heap.size + 1; omega)) k0
      have m2 := Eq.trans (Below.heap_setCell (w1.setCell ⟨w.heap.size, 0, none⟩ (.slice Av acc.length cv)) ⟨w.heap.size + 1, 0, none⟩ (.slice Av1 rest.length cv1) (w.heap.size + 1 + 1) (by show w.heap.size + 1 + 1 ≠ w.heap.size + 1; omega)) k2
      clear k0 k1 k2
      refine Rg.l1 8 none (fun K hK => ?_)
      have hc0' := Wi.cell0 m2
      have hf0' := Wi.frozen0 m2
      refine skip_ (w1 := ((w1.setCell ⟨w.heap.size, 0, none⟩ (.slice Av acc.length cv)).setCell ⟨w.heap.size + 1, 0, none⟩ (.slice Av1 rest.length cv1)).setCell ⟨w.heap.size + 1 + 1, 0, none⟩ (.bool true)) (by rfl) rfl (by go_simp) ?_
      clear hc0' hf0'
      refine hK.out _ _ ?_
      clear hK K
      have n0 := Eq.trans (Below.heap_setCell ((w1.setCell ⟨w.heap.size, 0, none⟩ (.slice Av acc.length cv)).setCell ⟨w.heap.size + 1, 0, none⟩ (.slice Av1 rest.length cv1)) ⟨w.heap.size + 1 + 1, 0, none⟩ (.bool true) (w.heap.size) (by show w.heap.size ≠ w.heap.size + 1 + 1; omega)) m0
      have n1 := Eq.trans (Below.heap_setCell ((w1.setCell ⟨w.heap.size, 0, none⟩ (.slice Av acc.length cv)).setCell ⟨w.heap.size + 1, 0, none⟩ (.slice Av1 rest.length cv1)) ⟨w.heap.size + 1 + 1, 0, none⟩ (.bool true) (w.heap.size + 1) (by show w.heap.size + 1 ≠ w.heap.size + 1 + 1; omega)) m1
      have n2 := Wi.block_set (u := .bool true) m2
      have d0 := Wi.cell0 n0
      have d1 := Wi.cell0 n1
      have d2 := Wi.cell0 n2
      clear m0 m1 m2 n0 n1 n2
      refine Rg.d1 ?_
      refine NoPanic.normal ?_
      have HRR : Aside0 (r1 = acc ∧ r2 = rest ∧ r3 = true) := ⟨by
        have h := HA.out
        rw [List.drop_eq_nil_of_le (by omega), Wi.takes] at h
        cases h
        exact ⟨rfl, rfl, rfl⟩⟩
      obtain ⟨e1, e2, e3⟩ := HRR.out
      subst e1; subst e2; subst e3
      clear HA HT HR0 HR1 HBy HAL HRL
      have hR1 : Kd.R (Kd.int .u64) 45 (((w1.setCell ⟨w.heap.size, 0, none⟩ (.slice Av r1.length cv)).setCell ⟨w.heap.size + 1, 0, none⟩ (.slice Av1 r2.length cv1)).setCell ⟨w.heap.size + 1 + 1, 0, none⟩ (.bool true)) w.heap.size (fun _ => True) (.slice Av r1.length cv) r1 := Kd.R_mono (Kd.R_far (p := ⟨w.heap.size + 1 + 1, 0, none⟩) (Kd.R_far (p := ⟨w.heap.size + 1, 0, none⟩) (Kd.R_far (p := ⟨w.heap.size, 0, none⟩) HO1.out.r (fun k hk => by show k ≠ w.heap.size; omega) _) (fun k hk => by show k ≠ w.heap.size + 1; omega) _) (fun k hk => by show k ≠ w.heap.size + 1 + 1; omega) _) (fun _ _ => trivial)
      have hl3 : w.heap.size + 1 + 1 + 1 < wr.drew.heap.size := (Array.getElem?_eq_some_iff.1 HO.out.drew.b3).1
      have hR2 : Kd.R (Kd.int .u8) 5 (((w1.setCell ⟨w.heap.size, 0, none⟩ (.slice Av r1.length cv)).setCell ⟨w.heap.size + 1, 0, none⟩ (.slice Av1 r2.length cv1)).setCell ⟨w.heap.size + 1 + 1, 0, none⟩ (.bool true)) w.heap.size (fun _ => True) (.slice Av1 r2.length cv1) r2 := Kd.R_lower (Kd.R_mono (Kd.R_far (p := ⟨w.heap.size + 1 + 1, 0, none⟩) (Kd.R_far (p := ⟨w.heap.size + 1, 0, none⟩) (Kd.R_far (p := ⟨w.heap.size, 0, none⟩) (Kd.R_bound HR1'.out) (fun k hk => by have := hk.2.1; show k ≠ w.heap.size; omega) _) (fun k hk => by have := hk.2.1; show k ≠ w.heap.size + 1; omega) _) (fun k hk => by have := hk.2.1; show k ≠ w.heap.size + 1 + 1; omega) _) (fun _ _ => trivial)) (by omega)
      have hB := ((HO1.out.below.setCell (p := ⟨w.heap.size, 0, none⟩) (Nat.le_refl _) (.slice Av r1.length cv)).setCell (p := ⟨w.heap.size + 1, 0, none⟩) (by show w.heap.size ≤ w.heap.size + 1; omega) (.slice Av1 r2.length cv1)).setCell (p := ⟨w.heap.size + 1 + 1, 0, none⟩) (by show w.heap.size ≤ w.heap.size + 1 + 1; omega) (.bool true)
      clear HO1 HB1 HR1' hHeld HO
      generalize ((w1.setCell ⟨w.heap.size, 0, none⟩ (.slice Av r1.length cv)).setCell ⟨w.heap.size + 1, 0, none⟩ (.slice Av1 r2.length cv1)).setCell ⟨w.heap.size + 1 + 1, 0, none⟩ (.bool true) = WW at d0 d1 d2 hB hR1 hR2 ⊢
      have HX1 := az hR1
      have HX2 := az hR2
      have HX3 := az hB
      clear hR1 hR2 hB
      go_wp2_with fail
      refine leaves_cons (f := 83) (args := #[.pointer (some ⟨w.heap.size, 0, none⟩), .pointer (some ⟨w.heap.size + 1, 0, none⟩), .pointer (some ⟨w.heap.size + 1 + 1, 0, none⟩)]) (by simp) (by simp [go_sem]) ?_
      refine (Wi.catch_idle ⟨w.heap.size, 0, none⟩ ⟨w.heap.size + 1, 0, none⟩ ⟨w.heap.size + 1 + 1, 0, none⟩ _).mono ?_
      rintro e' u' w' ⟨rfl, rfl, rfl⟩
      refine ⟨.tuple #[.slice Av r1.length cv, .slice Av1 r2.length cv1, .bool true], by simp [results, Tryz.results70, go_sem, Act.eval, d0, d1, d2], ?_⟩
      exact ⟨_, _, rfl, HX1.out, HX2.out, HX3.out⟩
end Go.Proofs.YtgljicdpcapgnaaGreatDoor
namespace Go.Proofs.YtgljicdpcapgnaaGreatDoor
open Go.RowKit Go.Proofs.YtgljicdpcapgnaaGreatDoorW.PrintWords Go.Proofs.YtgljicdpcapgnaaGreatDoorW.PrintLast Go.Proofs.YtgljicdpcapgnaaGreatDoorW.PrintMore
attribute [local go_sem] max2_int min2_int max_two min_two max_three min_three max_four min_four
def wire_width.f (a0 : Int) : Option (Int) := if a0 = 1 then (some a0) else (if a0 = 2 then (some a0) else (if a0 = 4 then (some a0) else (some 8)))
theorem wire_width.calls (a0 : Int) (r : Int) (w : World) (h : wire_width.f a0 = some r) :
  Calls Tryz.prog 56 #[.int .i64 a0] w fun e w' => e = .returned (.int .i64 r) ∧ Drawn0 w w' := by
 have H : (if a0 = 1 then (some a0) else (if a0 = 2 then (some a0) else (if a0 = 4 then (some a0) else (some 8)))) = some r := h
 clear h
 by_cases c2 : a0 = 1
 ·rw [if_pos c2] at H
  have c2b0 : (a0 == 1) = true := beq_iff_eq.mpr c2
  have c2b1 : (a0 != 1) = false := bne_eq_false_iff_eq.mpr c2
  clear c2
  obtain rfl := Option.some.inj H
  go_enter Tryz.func56, Tryz.ntmps56
  go_wp2
  go_ret
  exact ⟨by first | rfl | (simp; done) | (simp [*]; done), by repeat (first | exact Drawn0.refl _ | apply Drawn0.step)⟩
 ·rw [if_neg c2] at H
  have c2b0 : (a0 == 1) = false := beq_eq_false_iff_ne.mpr c2
  have c2b1 : (a0 != 1) = true := bne_iff_ne.mpr c2
  by_cases c3 : a0 = 2
  ·rw [if_pos c3] at H
   have c3b0 : (a0 == 2) = true := beq_iff_eq.mpr c3
   have c3b1 : (a0 != 2) = false := bne_eq_false_iff_eq.mpr c3
   clear c3
   obtain rfl := Option.some.inj H
   go_enter Tryz.func56, Tryz.ntmps56
   go_wp2
   go_ret
   exact ⟨by first | rfl | (simp; done) | (simp [*]; done), by repeat (first | exact Drawn0.refl _ | apply Drawn0.step)⟩
  ·rw [if_neg c3] at H
   have c3b0 : (a0 == 2) = false := beq_eq_false_iff_ne.mpr c3
   have c3b1 : (a0 != 2) = true := bne_iff_ne.mpr c3
   by_cases c4 : a0 = 4
   ·rw [if_pos c4] at H
    have c4b0 : (a0 == 4) = true := beq_iff_eq.mpr c4
    have c4b1 : (a0 != 4) = false := bne_eq_false_iff_eq.mpr c4
    clear c4
    obtain rfl := Option.some.inj H
    go_enter Tryz.func56, Tryz.ntmps56
    go_wp2
    go_ret
    exact ⟨by first | rfl | (simp; done) | (simp [*]; done), by repeat (first | exact Drawn0.refl _ | apply Drawn0.step)⟩
   ·rw [if_neg c4] at H
    have c4b0 : (a0 == 4) = false := beq_eq_false_iff_ne.mpr c4
    have c4b1 : (a0 != 4) = true := bne_iff_ne.mpr c4
    obtain rfl := Option.some.inj H
    go_enter Tryz.func56, Tryz.ntmps56
    go_wp2
    go_ret
    exact ⟨by first | rfl | (simp; done) | (simp [*]; done), by repeat (first | exact Drawn0.refl _ | apply Drawn0.step)⟩
mutual
def wire_Pack.l0 : Nat → List Int → List Int → List Int → Int → Int → Option (List Int)
  | 0, _, _, _, _, _ => none
  | k + 1, x0, x1, x5, x12, x13 => if x13 < x12 then (if 0 ≤ x13 then (if x13 < (x0.length : Int) then ((wire_width.f (rd x0 x13)).bind fun t102 => (wire_Pack.l1 k x0 x1 x5 x13 (wrap64 (8 * t102)) x12 x13)) else (none)) else (none)) else (some x5)
def wire_Pack.l1 : Nat → List Int → List Int → List Int → Int → Int → Int → Int → Option (List Int)
  | 0, _, _, _, _, _, _, _ => none
  | k + 1, x0, x1, x5, x6, x7, x12, x13 => if x7 > 0 then (if 0 ≤ x6 then (if x6 < (x1.length : Int) then (if 0 ≤ (wrap64 (x7 - 8)) then (if x5.length < 140737488355328 then (wire_Pack.l1 k x0 x1 (x5 ++ [(shr .u64 (rd x1 x6) (wrap64 (x7 - 8))) % 256]) x6 (wrap64 (x7 - 8)) x12 x13) else (none)) else (none)) else (none)) else (none)) else (wire_Pack.l0 k x0 x1 x5 x12 (wrap64 (x13 + 1)))
end
def wire_Pack.f (k : Nat) (l0 : List Int) (l1 : List Int) : Option (List Int) := wire_Pack.l0 k l0 l1 ([] : List Int) (mn (l0.length : Int) (l1.length : Int)) 0
theorem wire_Pack.calls (k : Nat) (A0 : Option Addr) (c0 : Nat) (l0 : List Int) (A1 : Option Addr) (c1 : Nat) (l1 : List Int) (r : List Int) (w : World) (hr0 : Kd.C (Kd.int .i64) w A0 l0.length l0) (hc0 : l0.length ≤ c0) (hr1 : Kd.C (Kd.int .u64) w A1 l1.length l1) (hc1 : l1.length ≤ c1) (h : wire_Pack.f k l0 l1 = some r) :
    Calls Tryz.prog 43 #[.slice A0 l0.length c0, .slice A1 l1.length c1] w fun e w' => ∃ v0_ : Value, e = .returned (v0_) ∧ Kd.R (Kd.int .u8) 5 w' w.heap.size (fun _ => True) v0_ r ∧ Below w.heap.size w w' := by
  have HR0 := az hr0
  have HC0 := az hc0
  clear hr0 hc0
  have HR1 := az hr1
  have HC1 := az hc1
  clear hr1 hc1
  have HB := az (Below.refl w.heap.size w)
  have H : (wire_Pack.l0 k l0 l1 ([] : List Int) (mn (l0.length : Int) (l1.length : Int)) 0) = some r := h
  clear h
  obtain ⟨ji3, hji3⟩ : ∃ j_ : Int, (mn (l0.length : Int) (l1.length : Int)) = j_ := ⟨_, rfl⟩
  replace H : (wire_Pack.l0 k l0 l1 ([] : List Int) ji3 0) = some r := by first | (rw [hji3] at H; exact H) | (simp only [hji3] at H ⊢; exact H)
  (try (have hji3l : 0 ≤ ji3 := by (rw [← hji3]; unfold mn; (repeat' split) <;> omega)))
  (try (have hji3m : 0 ≤ ji3 := by omega))
  have hji3_ : (if (l1.length : Int) < (l0.length : Int) then (l1.length : Int) else (l0.length : Int)) = ji3 := hji3
  have H' := az H
  clear H
  go_enter Tryz.func43, Tryz.ntmps43
  go_wp2
  all_goals
    first
      | (have emn : (l0.length : Int) = ji3 := by rw [← hji3]; unfold mn; rw [if_neg (by omega)])
      | (have emn : (l1.length : Int) = ji3 := by rw [← hji3]; unfold mn; rw [if_pos (by omega)])
    rw [emn]
    clear emn
    clear hji3_
    rename_i hKK
    have HKK := az hKK
    clear hKK
    clear h
    go_loopg [5, 13] k (fun kq v5 v13 w' => ∃ (x5_1 : List Int) (x13_1 : Int), v13 = .int .i64 x13_1 ∧ Aside0 (wire_Pack.l0 kq l0 l1 x5_1 ji3 x13_1 = some r) ∧ Aside0 (kq ≤ k) ∧ Aside0 (Kd.R (Kd.int .u8) 5 w' w.heap.size (fun _ => True) v5 x5_1) ∧ Aside0 (Below w.heap.size w w'))
    case atStart => exact ⟨(([] : List Int)), (0), (by first | rfl | (simp; done) | (simp [*]; done)), H', ⟨Nat.le_refl _⟩, ⟨by first | exact Kd.R_nil _ _ _ _ _ | exact Kd.N_nil _ _ _ _ _ | exact Kd.V_nil _ _ _ _ _ | exact Kd.Q_nil _ _ _ _ _ | exact Kd.S_nil _ _ _ _ _⟩, ⟨by repeat (first | (with_reducible first | exact HB.out | apply below_alloc | apply pw_below_drewN | apply below_drew1) | exact HB.out)⟩⟩
    case round =>
      clear H'
      try clear c1
      try clear p2
      obtain ⟨x5_1, x13_1, rfl, HA, HK1, HO_5, HB⟩ := hrel
      cases gk with
      | zero => exact absurd HA.out (by simp [wire_Pack.l0])
      | succ k1 =>
        have H := HA.out
        clear HA
        simp only [wire_Pack.l0] at H
        by_cases c4 : x13_1 < ji3
        · rw [if_pos c4] at H
          have c4b0 : decide (x13_1 < ji3) = true := decide_eq_true c4
          clear c4
          by_cases c5 : 0 ≤ x13_1
          · rw [if_pos c5] at H
            have c5b0 : decide (0 ≤ x13_1) = true := decide_eq_true c5
            clear c5
            by_cases c6 : x13_1 < (l0.length : Int)
            · rw [if_pos c6] at H
              have c6b0 : decide (x13_1 < (l0.length : Int)) = true := decide_eq_true c6
              clear c6
              replace H := Option.bind_eq_some_iff.mp H
              obtain ⟨t102, A70, H⟩ := H
              replace H : (wire_Pack.l1 k1 l0 l1 x5_1 x13_1 (wrap64 (8 * t102)) ji3 x13_1) = some r := H
              have A7 := az A70
              clear A70
              have H' := az H
              clear H
              have p101 : 0 ≤ (x13_1 : Int) := of_decide_eq_true (by first | (with_reducible assumption) | assumption)
              have q101 : x13_1 < (l0.length : Int) := of_decide_eq_true (by first | (with_reducible assumption) | assumption)
              obtain ⟨ad101, e101, hx101_0⟩ := Kd.at_int HR0.out x13_1 p101 q101
              cases e101
              replace hx101_0 := (HB.out.cell (World.block_lt_of_cell? w _ hx101_0)).trans hx101_0
              replace p101 := eq_true p101
              replace q101 := eq_true q101
              go_wp2_with (first | ((with_reducible refine gate_callee (f := 56) rfl ?_); refine goesL_ (some 20) rfl rfl Tryz.func56 (by kernel_rfl) rfl #[.int .i64 (rd l0 x13_1)] rfl (by (try simp only [List.map_toArray, List.map_cons, List.map_nil]); first | done | rfl | (simp only [List.length_drop, List.length_take]; rfl)) ?_; (with_reducible refine (wire_width.calls (rd l0 x13_1) t102 _ A7.out).mono ?_); rintro e w' ⟨rfl, ⟨nd, rfl⟩⟩; refine ⟨_, rfl, ?_⟩))
              go_loopg [5, 7] k1 (fun kq v5 v7 w' => ∃ (x5_2 : List Int) (x7_2 : Int), v7 = .int .i64 x7_2 ∧ Aside0 (wire_Pack.l1 kq l0 l1 x5_2 x13_1 x7_2 ji3 x13_1 = some r) ∧ Aside0 (kq ≤ k1) ∧ Aside0 (Kd.R (Kd.int .u8) 5 w' w.heap.size (fun _ => True) v5 x5_2) ∧ Aside0 (Below w.heap.size w w'))
              case atStart => exact ⟨(x5_1), (wrap64 (8 * t102)), (by first | rfl | (simp; done) | (simp [*]; done)), H', ⟨Nat.le_refl _⟩, ⟨by (with_reducible repeat (first | apply Kd.R_alloc | apply Kd.R_drewN | apply Kd.R_drew)); exact HO_5.out⟩, ⟨by repeat (first | (with_reducible first | exact HB.out | apply below_alloc | apply pw_below_drewN | apply below_drew1) | exact HB.out)⟩⟩
              case round =>
                clear H'
                try clear c1
                try clear p1
                try clear q1
                try clear hx1
                try clear p2
                try clear c4
                try clear c4b0
                try clear c5
                try clear c5b0
                try clear c6
                try clear c6b0
                try clear p6
                try clear hx101_0
                try clear p101
                try clear p2
                try clear q101
                obtain ⟨x5_2, x7_2, rfl, HA, HK2, HO_5, HB⟩ := hrel
                cases gk with
                | zero => exact absurd HA.out (by simp [wire_Pack.l1])
                | succ k2 =>
                  have H := HA.out
                  clear HA
                  simp only [wire_Pack.l1] at H
                  by_cases c8 : x7_2 > 0
                  · rw [if_pos c8] at H
                    have c8b0 : decide (0 < x7_2) = true := decide_eq_true c8
                    clear c8
                    by_cases c9 : 0 ≤ x13_1
                    · rw [if_pos c9] at H
                      have c9b0 : decide (0 ≤ x13_1) = true := decide_eq_true c9
                      clear c9
                      by_cases c10 : x13_1 < (l1.length : Int)
                      · rw [if_pos c10] at H
                        have c10b0 : decide (x13_1 < (l1.length : Int)) = true := decide_eq_true c10
                        clear c10
                        obtain ⟨ji11, hji11⟩ : ∃ j_ : Int, (wrap64 (x7_2 - 8)) = j_ := ⟨_, rfl⟩
                        replace H : (if 0 ≤ (ji11) then (if x5_2.length < 140737488355328 then (wire_Pack.l1 k2 l0 l1 (x5_2 ++ [(shr .u64 (rd l1 x13_1) (ji11)) % 256]) x13_1 ji11 ji3 x13_1) else (none)) else (none)) = some r := by first | (rw [hji11] at H; exact H) | (simp only [hji11] at H ⊢; exact H)
                        have hji11w : (IntKind.i64.wrap (x7_2 - 8)) = ji11 := (i64_w _).trans hji11
                        by_cases c12 : 0 ≤ (ji11)
                        · rw [if_pos c12] at H
                          have c12b0 := eq_true c12
                          have c12b1 : decide (0 ≤ (ji11)) = true := decide_eq_true c12
                          clear c12
                          obtain ⟨ji13, hji13⟩ : ∃ j_ : Int, (shr .u64 (rd l1 x13_1) (ji11)) = j_ := ⟨_, rfl⟩
                          replace H : (if x5_2.length < 140737488355328 then (wire_Pack.l1 k2 l0 l1 (x5_2 ++ [(ji13) % 256]) x13_1 ji11 ji3 x13_1) else (none)) = some r := by first | (rw [hji13] at H; exact H) | (simp only [hji13] at H ⊢; exact H)
                          have hji13_ : ((rd l1 x13_1) / 2 ^ min (ji11).toNat 64) = ji13 := hji13
                          have hji13z : (ji11) ≤ 64 → ((rd l1 x13_1) / 2 ^ (ji11).toNat) = ji13 := shr_small hji13
                          by_cases c14 : x5_2.length < 140737488355328
                          · rw [if_pos c14] at H
                            have LMc14 := az c14
                            clear c14
                            obtain ⟨y104, hy104⟩ : ∃ y_ : List Int, y_ = (x5_2 ++ [(ji13) % 256]) := ⟨_, rfl⟩
                            replace H : (wire_Pack.l1 k2 l0 l1 y104 x13_1 ji11 ji3 x13_1) = some r := by first | (rw [hy104]; with_reducible exact H) | (have H2_ := (Option.bind_some _ _).symm.trans H; rw [hy104]; with_reducible exact H2_) | (have H2_ := (Option.bind_some _ _).symm.trans H; with_reducible exact H2_) | with_reducible exact H | (rw [hy104]; exact H) | exact H
                            have Ny104 := az hy104
                            clear hy104
                            have H' := az H
                            clear H
                            have p103 : 0 ≤ (x13_1 : Int) := of_decide_eq_true (by first | (with_reducible assumption) | assumption)
                            have q103 : x13_1 < (l1.length : Int) := of_decide_eq_true (by first | (with_reducible assumption) | assumption)
                            obtain ⟨ad103, e103, hx103_0⟩ := Kd.at_int HR1.out x13_1 p103 q103
                            cases e103
                            replace hx103_0 := (HB.out.cell (World.block_lt_of_cell? w _ hx103_0)).trans hx103_0
                            replace p103 := eq_true p103
                            replace q103 := eq_true q103
                            go_wp2_with (first | ((with_reducible refine gate_builtin (b := .append) (xs := #[.tmp 26, .tmp 34]) rfl ?_); at_builtin; refine Kd.R_append (Kd.int .u8) (w0 := w) w.heap.size rfl (.tmp 26) (.tmp 34) 35 5 (.int .u8 0) 1 rfl Tryz.underlying35 Cl.infoByte rfl (by decide) (by omega) u5 x5_2 ((ji13) % 256) [.int .u8 ((ji13) % 256)] (fun _ => True) (fun _ => False) rfl rfl ?aP (fun _ hk => hk.elim) ?aF ?aO ?aB ?aS ?aL ?_; (case aP => exact rfl); (case aB => exact (by repeat (first | (with_reducible first | exact HB.out | apply below_alloc | apply pw_below_drewN | apply below_drew1) | exact HB.out))); (case aF => exact (fun _ _ => trivial)); (case aO => exact (by (with_reducible repeat (first | apply Kd.R_alloc | apply Kd.R_drewN | apply Kd.R_drew)); exact HO_5.out)); (case aS => exact (below_size (by repeat (first | (with_reducible first | exact HB.out | apply below_alloc | apply pw_below_drewN | apply below_drew1) | exact HB.out)))); (case aL => have := LMc14.out; omega); intro v105 w15 ho hb hg hat; rw [← Ny104.out] at ho; have n0_ := az (hb); have n1_ := az (ho); clear HB; clear HO_5; have HB := n0_; have HO106 := n1_; clear n0_ n1_; clear ho hb hg hat))
                            go_roundg k2
                            case measure => have := HK1.out; have := HK2.out; omega
                            case rel => exact ⟨(y104), (ji11), (by first | rfl | (simp; done) | (simp only [← hji11] <;> (first | rfl | simp)) | (simp [*]; done)), H', ⟨by have := HK1.out; have := HK2.out; omega⟩, ⟨by (with_reducible repeat (first | apply Kd.R_alloc | apply Kd.R_drewN | apply Kd.R_drew)); exact HO106.out⟩, ⟨by repeat (first | (with_reducible first | exact HB.out | apply below_alloc | apply pw_below_drewN | apply below_drew1) | exact HB.out)⟩⟩
                          · rw [if_neg c14] at H
                            exact absurd H (by simp)
                        · rw [if_neg c12] at H
                          exact absurd H (by simp)
                      · rw [if_neg c10] at H
                        exact absurd H (by simp)
                    · rw [if_neg c9] at H
                      exact absurd H (by simp)
                  · rw [if_neg c8] at H
                    have c8b0 : decide (0 < x7_2) = false := decide_eq_false c8
                    clear c8
                    have H' := az H
                    clear H
                    go_wp2
                    go_roundg k2
                    case measure => have := HK1.out; have := HK2.out; omega
                    case rel => exact ⟨(x5_2), (wrap64 (x13_1 + 1)), (by first | rfl | (simp; done) | (simp [*]; done)), H', ⟨by have := HK1.out; have := HK2.out; omega⟩, ⟨by (with_reducible repeat (first | apply Kd.R_alloc | apply Kd.R_drewN | apply Kd.R_drew)); exact HO_5.out⟩, ⟨by repeat (first | (with_reducible first | exact HB.out | apply below_alloc | apply pw_below_drewN | apply below_drew1) | exact HB.out)⟩⟩
            · rw [if_neg c6] at H
              exact absurd H (by simp)
          · rw [if_neg c5] at H
            exact absurd H (by simp)
        · rw [if_neg c4] at H
          have c4b0 : decide (x13_1 < ji3) = false := decide_eq_false c4
          clear c4
          obtain rfl := Option.some.inj H
          go_wp2
          refine HKK.out _ _ ?_
          go_wp2
          go_ret
          exact ⟨_, by first | rfl | (simp [errW_none, errW_some] <;> rfl) | (simp only [← hji3]; first | rfl | (simp [errW_none, errW_some] <;> rfl)) | (simp [*, errW_none, errW_some] <;> rfl), by (with_reducible repeat (first | apply Kd.R_alloc | apply Kd.R_drewN | apply Kd.R_drew)); exact HO_5.out, by repeat (first | (with_reducible first | exact HB.out | apply below_alloc | apply pw_below_drewN | apply below_drew1) | exact HB.out)⟩
end Go.Proofs.YtgljicdpcapgnaaGreatDoor
namespace Go.Proofs.YtgljicdpcapgnaaGreatDoor.Wi
open Go.RowKit Go.Proofs.YtgljicdpcapgnaaGreatDoor Go.Proofs.YtgljicdpcapgnaaGreatDoorW.PrintWords Go.Proofs.YtgljicdpcapgnaaGreatDoorW.PrintLast Go.Proofs.YtgljicdpcapgnaaGreatDoorW.PrintMore
def be (v : Int) : Nat → List Int
  | 0 => []
  | n + 1 => (v / 256 ^ n % 256) :: be v n
def packs : List Int → List Int → List Int
  | w :: ws, v :: vs => be v (wd w) ++ packs ws vs
  | _, _ => []
theorem w64 (n : Int) (h0 : -9223372036854775808 ≤ n) (h1 : n ≤ 9223372036854775807) : wrap64 n = n := by unfold wrap64; omega
theorem rd_drop (l : List Int) (i : Nat) (h : i < l.length) : l.drop i = rd l i :: l.drop (i + 1) := by
  rw [List.drop_eq_getElem_cons h]
  simp [rd, List.getD_eq_getElem?_getD, List.getElem?_eq_getElem h]
theorem rd_mem (l : List Int) (i : Nat) (h : i < l.length) : rd l i ∈ l := by
  have : rd l i = l[i] := by simp [rd, List.getD_eq_getElem?_getD, List.getElem?_eq_getElem h]
  rw [this]; exact List.getElem_mem h
theorem width_f (n : Int) : wire_width.f n = some (wd n : Int) := by
  unfold wire_width.f wd
  split
  · rename_i h; subst h; rfl
  · split
    · rename_i h; subst h; rfl
    · split
      · rename_i h; subst h; rfl
      · rfl
theorem shr_be (v : Int) (n : Nat) (h : n ≤ 7) : shr .u64 v (8 * (n : Int)) = v / 256 ^ n := by
  unfold shr
  have e : (8 * (n : Int)).toNat = 8 * n := by omega
  rw [e, Nat.min_eq_left (by show 8 * n ≤ 64; omega), Int.pow_mul]
  rfl
theorem pl1 (x0 x1 : List Int) (i : Nat) (m : Int) (hi : i < x1.length) (hl : x1.length ≤ 1000000) : ∀ (n : Nat), n ≤ 8 → ∀ (K : Nat) (acc : List Int), acc.length + n ≤ 100000000 →
    wire_Pack.l1 (K + n + 1) x0 x1 acc i (8 * (n : Int)) m i = wire_Pack.l0 K x0 x1 (acc ++ be (rd x1 i) n) m (i + 1) := by
  intro n
  induction n with
  | zero =>
    intro _ K acc _
    rw [wire_Pack.l1, if_neg (by omega), be, List.append_nil, w64 _ (by omega) (by omega)]
  | succ n ih =>
    intro hn K acc ha
    rw [wire_Pack.l1, if_pos (by omega), if_pos (by omega), if_pos (by omega)]
    have e : wrap64 (8 * ((n + 1 : Nat) : Int) - 8) = 8 * (n : Int) := by rw [w64 _ (by omega) (by omega)]; omega
    rw [e, if_pos (by omega), if_pos (by omega), shr_be _ _ (by omega)]
    rw [show K + (n + 1) = K + n + 1 by omega, ih (by omega) K _ (by simp; omega), be, List.append_assoc]
    rfl
theorem pl0 (x0 x1 : List Int) (m : Nat) (hm : m = min x0.length x1.length) (h0 : x0.length ≤ 1000000) (h1 : x1.length ≤ 1000000) : ∀ (d i : Nat), i + d = m → ∀ (F : Nat) (acc : List Int), 10 * d + 1 ≤ F → acc.length + 8 * d ≤ 10000000 →
    wire_Pack.l0 F x0 x1 acc m i = some (acc ++ packs (x0.drop i) (x1.drop i)) := by
  intro d
  induction d with
  | zero =>
    intro i e F acc hF _
    obtain ⟨F, rfl⟩ : ∃ G, F = G + 1 := ⟨F - 1, by omega⟩
    rw [wire_Pack.l0, if_neg (by omega)]
    have : packs (x0.drop i) (x1.drop i) = [] := by
      by_cases c : x0.length ≤ i
      · rw [List.drop_eq_nil_of_le c]; rfl
      · rw [show x1.drop i = [] from List.drop_eq_nil_of_le (by omega)]
        cases x0.drop i <;> rfl
    rw [this, List.append_nil]
  | succ d ih =>
    intro i e F acc hF ha
    obtain ⟨F, rfl⟩ : ∃ G, F = G + 1 := ⟨F - 1, by omega⟩
    have hw := wd_range (rd x0 i)
    rw [wire_Pack.l0, if_pos (by omega), if_pos (by omega), if_pos (by omega), width_f, Option.bind_some, w64 _ (by omega) (by omega)]
    have hF' : F = (F - wd (rd x0 i) - 1) + wd (rd x0 i) + 1 := by omega
    have hbl : ∀ v n, (be v n).length = n := by intro v n; induction n with | zero => rfl | succ n ihn => simp [be, ihn]
    rw [hF', pl1 x0 x1 i m (by omega) h1 _ hw.2 _ _ (by omega)]
    have := ih (i + 1) (by omega) (F - wd (rd x0 i) - 1) (acc ++ be (rd x1 i) (wd (rd x0 i))) (by omega) (by rw [List.length_append, hbl]; omega)
    rw [show ((i : Int) + 1) = ((i + 1 : Nat) : Int) by omega, this, rd_drop x0 i (by omega), rd_drop x1 i (by omega), packs, List.append_assoc]
theorem pack_is (x0 x1 : List Int) (h0 : x0.length ≤ 100000) (h1 : x1.length ≤ 100000) (K : Nat) (hK : 10 * x0.length + 1 ≤ K) : wire_Pack.f K x0 x1 = some (packs x0 x1) := by
  unfold wire_Pack.f
  have e : mn (x0.length : Int) (x1.length : Int) = ((min x0.length x1.length : Nat) : Int) := by unfold mn; split <;> omega
  rw [e]
  have := pl0 x0 x1 _ rfl (by omega) (by omega) (min x0.length x1.length) 0 (by omega) K [] (by omega) (by simp; omega)
  simpa using this
theorem take_is (b ws : List Int) (h0 : b.length ≤ 1000000) (h1 : ws.length ≤ 1000000) (hb : Bytes b) : wire_Take.f b ws = some (takes b ws []) := by unfold wire_Take.f; rw [if_pos ⟨by omega, by omega, hb⟩]
theorem be_len (v : Int) (n : Nat) : (be v n).length = n := by induction n with | zero => rfl | succ n ihn => simp [be, ihn]
theorem packs_len : ∀ (ws vs : List Int), (packs ws vs).length ≤ 8 * ws.length
  | w :: ws, v :: vs => by
    have := packs_len ws vs
    have := wd_range w
    rw [packs, List.length_append, be_len, List.length_cons]
    omega
  | [], _ => by simp [packs]
  | _ :: _, [] => by simp [packs]
end Go.Proofs.YtgljicdpcapgnaaGreatDoor.Wi
namespace Go.Proofs.YtgljicdpcapgnaaGreatDoor.Wi
open Go.RowKit Go.Proofs.YtgljicdpcapgnaaGreatDoor Go.Proofs.YtgljicdpcapgnaaGreatDoor.PBase Go.Proofs.YtgljicdpcapgnaaGreatDoorW.PrintWords Go.Proofs.YtgljicdpcapgnaaGreatDoorW.PrintLast Go.Proofs.YtgljicdpcapgnaaGreatDoorW.PrintMore
theorem Width_f (n : Int) : coamingref06_Width.f n = some (wd n : Int) := by
  unfold coamingref06_Width.f wd
  split
  · rename_i h; subst h; rfl
  · split
    · rename_i h; subst h; rfl
    · split
      · rename_i h; subst h; rfl
      · rfl
theorem tl1 (x0 x1 acc : List Int) (hb : Bytes x0) (a i w : Nat) (hw : w ≤ 8) (ha : a + w ≤ x0.length) (h0 : x0.length ≤ 1000000) (h1 : x1.length ≤ 1000000) (hi : i < x1.length) (hacc : acc.length ≤ 1000000) : ∀ (d j : Nat), j + d = w → ∀ (K : Nat),
    coamingref06_Take.l1 (K + d + 1) x0 x1 acc a i w (num ((x0.drop a).take j)) j = coamingref06_Take.l0 K x0 x1 (acc ++ [num ((x0.drop a).take w)]) (a + w : Nat) (i + 1 : Nat) := by
  intro d
  induction d with
  | zero =>
    intro j e K
    obtain rfl : j = w := by omega
    rw [coamingref06_Take.l1, if_neg (by omega), if_pos (by omega), w64 _ (by omega) (by omega), w64 _ (by omega) (by omega)]
    rfl
  | succ d ih =>
    intro j e K
    have hn := num_range ((x0.drop a).take j) ((hb.drop a).take j)
    have hlj : ((x0.drop a).take j).length = j := by rw [List.length_take, List.length_drop]; omega
    rw [hlj] at hn
    have hp := Int.lt_of_lt_of_le hn.2 (pow256 j (by omega))
    have hn0 := hn.1
    clear hn
    have hx := hb _ (rd_mem x0 (a + j) (by omega))
    generalize hm : num ((x0.drop a).take j) = m at *
    have g1 : 0 ≤ m * 256 := by omega
    have g2 : m * 256 < 2 ^ 64 := by omega
    have g3 : rd x0 ((a + j : Nat) : Int) < 2 ^ 64 := by omega
    have e1 : wrap64 ((a : Int) + (j : Int)) = ((a + j : Nat) : Int) := by rw [w64 _ (by omega) (by omega)]; omega
    have e2 : wrap64 ((j : Int) + 1) = ((j + 1 : Nat) : Int) := by clear e1; rw [w64 _ (by omega) (by omega)]; omega
    rw [coamingref06_Take.l1, if_pos (by clear e1 e2; omega), e1, e2, if_pos (by clear e1 e2; omega), if_pos (by clear e1 e2; omega)]
    clear e1 e2
    rw [Bt.wraps_u64 (m * 256) g1 g2, Bt.wraps_u64 _ hx.1 g3, Bt.or_256 m _ hn0 hp hx.1 hx.2]
    have hs : num ((x0.drop a).take (j + 1)) = m * 256 + rd x0 ((a + j : Nat) : Int) := by
      rw [take_snoc _ j (by rw [List.length_drop]; omega), num_snoc, hm]
      congr 1
      simp only [rd, List.getD_eq_getElem?_getD, List.getElem?_drop, Int.toNat_natCast]
    rw [← hs]
    exact ih (j + 1) (by omega) K
theorem tl0 (x0 x1 : List Int) (hb : Bytes x0) (h0 : x0.length ≤ 1000000) (h1 : x1.length ≤ 1000000) : ∀ (d i : Nat), i + d = x1.length → ∀ (F a : Nat) (acc : List Int), 10 * d + 1 ≤ F → a ≤ x0.length → acc.length = i →
    coamingref06_Take.l0 F x0 x1 acc a i = some (takes (x0.drop a) (x1.drop i) acc) := by
  intro d
  induction d with
  | zero =>
    intro i e F a acc hF ha hacc
    obtain ⟨F, rfl⟩ : ∃ G, F = G + 1 := ⟨F - 1, by omega⟩
    rw [coamingref06_Take.l0, if_neg (by omega), if_pos (by omega), if_pos (by omega), if_pos (by simp; omega), show x1.drop i = [] from List.drop_eq_nil_of_le (by omega), takes]
    rfl
  | succ d ih =>
    intro i e F a acc hF ha hacc
    obtain ⟨F, rfl⟩ : ∃ G, F = G + 1 := ⟨F - 1, by omega⟩
    have hw := wd_range (rd x1 i)
    rw [coamingref06_Take.l0, if_pos (by omega), if_pos (by omega), Width_f, Option.bind_some, w64 _ (by omega) (by omega), rd_drop x1 i (by omega), takes]
    by_cases c : (wd (rd x1 i) : Int) > (x0.length : Int) - (a : Int)
    · rw [if_pos c, if_pos (by rw [List.length_drop]; omega)]
    · rw [if_neg c, if_neg (by rw [List.length_drop]; omega)]
      have hF' : F = (F - wd (rd x1 i) - 1) + wd (rd x1 i) + 1 := by omega
      have := tl1 x0 x1 acc hb a i (wd (rd x1 i)) hw.2 (by omega) h0 h1 (by omega) (by omega) (wd (rd x1 i)) 0 (by omega) (F - wd (rd x1 i) - 1)
      rw [← hF'] at this
      refine this.trans ?_
      rw [ih (i + 1) (by omega) _ _ _ (by omega) (by omega) (by simp; omega), List.drop_drop]
theorem rtake_is (x0 x1 : List Int) (hb : Bytes x0) (h0 : x0.length ≤ 1000000) (h1 : x1.length ≤ 1000000) (K : Nat) (hK : 10 * x1.length + 1 ≤ K) : coamingref06_Take.f K x0 x1 = some (takes x0 x1 []) := by
  unfold coamingref06_Take.f
  exact tl0 x0 x1 hb h0 h1 x1.length 0 (by omega) K 0 [] hK (by omega) rfl
end Go.Proofs.YtgljicdpcapgnaaGreatDoor.Wi
namespace Go.Proofs.YtgljicdpcapgnaaGreatDoor.Gr
open Go.RowKit Go.Proofs.YtgljicdpcapgnaaGreatDoor Go.Proofs.YtgljicdpcapgnaaGreatDoor.PBase Go.Proofs.YtgljicdpcapgnaaGreatDoorW.PrintWords Go.Proofs.YtgljicdpcapgnaaGreatDoorW.PrintLast Go.Proofs.YtgljicdpcapgnaaGreatDoorW.PrintMore Go.Proofs.YtgljicdpcapgnaaGreatDoor.Wi
theorem takes4 (b : List Int) : takes b [4] [] = if b.length < 4 then ([], [], false) else ([num (b.take 4)], b.drop 4, true) := by
  simp only [takes, show wd 4 = 4 from rfl]
  split <;> rfl
theorem takes2 (b : List Int) : takes b [2] [] = if b.length < 2 then ([], [], false) else ([num (b.take 2)], b.drop 2, true) := by
  simp only [takes, show wd 2 = 2 from rfl]
  split <;> rfl
theorem takes844 (b : List Int) : takes b [8, 4, 4] [] = if b.length < 16 then ([], [], false) else ([num (b.take 8), num ((b.drop 8).take 4), num ((b.drop 12).take 4)], b.drop 16, true) := by
  simp only [takes, show wd 4 = 4 from rfl, show wd 8 = 8 from rfl, List.length_drop, List.drop_drop]
  by_cases h : b.length < 16
  · rw [if_pos h]
    by_cases h1 : b.length < 8
    · rw [if_pos h1]
    · rw [if_neg h1]
      by_cases h2 : b.length - 8 < 4
      · rw [if_pos h2]
      · rw [if_neg h2, if_pos (by omega)]
  · rw [if_neg h, if_neg (by omega), if_neg (by omega), if_neg (by omega)]
    rfl
theorem num_bound (b : List Int) (hb : Bytes b) (n : Nat) (hn : n ≤ 8) : 0 ≤ num (b.take n) ∧ num (b.take n) < 256 ^ n := by
  have h := num_range (b.take n) (hb.take n)
  refine ⟨h.1, Int.lt_of_lt_of_le h.2 ?_⟩
  have : (b.take n).length ≤ n := by rw [List.length_take]; omega
  have h2 : ((256 ^ (b.take n).length : Nat) : Int) ≤ ((256 ^ n : Nat) : Int) := Int.ofNat_le.2 (Nat.pow_le_pow_right (by decide) this)
  rw [Int.natCast_pow, Int.natCast_pow] at h2
  exact h2
def fl (l : List Int) : Bool × Int × Int := if l.length < 4 then (false, 0, 70) else if num (l.take 4) = 1 ∨ num (l.take 4) = 3 then (num (l.take 4) == 3, 4, 0) else (false, 0, 72)
def nx (l : List Int) : Int × List Int × Int × Int :=
  if l.length < 16 then (0, [], 0, 70)
  else if num (l.take 8) ≠ 5280542401877725268 then (0, [], 0, 71)
  else if num ((l.drop 12).take 4) > 1024 then (0, [], 0, 73)
  else if 16 + num ((l.drop 12).take 4) > l.length then (0, [], 0, 70)
  else (num ((l.drop 8).take 4), (l.drop 16).take (num ((l.drop 12).take 4)).toNat, 16 + num ((l.drop 12).take 4), 0)
def pairs : List Int → List Int
  | a :: b :: l => (a * 256 + b) :: pairs l
  | _ => []
def ak (l : List Int) : ByteArray × List Int × Int :=
  if l.length < 4 then (⟨#[]⟩, [], 74)
  else if num (l.take 4) > 255 then (⟨#[]⟩, [], 74)
  else if num (l.take 4) > ((l.drop 4).length : Int) then (⟨#[]⟩, [], 74)
  else if ((l.drop 4).drop (num (l.take 4)).toNat).length < 2 then (⟨#[]⟩, [], 74)
  else if ((((l.drop 4).drop (num (l.take 4)).toNat).drop 2).length : Int) ≠ 2 * num (((l.drop 4).drop (num (l.take 4)).toNat).take 2) then (⟨#[]⟩, [], 74)
  else (strOfNums ((l.drop 4).take (num (l.take 4)).toNat), pairs (((l.drop 4).drop (num (l.take 4)).toNat).drop 2), 0)
theorem or_16 (h x : Int) (h0 : 0 ≤ h) (h1 : h ≤ 255) (h2 : 0 ≤ x) (h3 : x ≤ 255) : bits .or .u16 (IntKind.u16.wrap ((IntKind.u16.wrap h) * 256)) (IntKind.u16.wrap x) = h * 256 + x := by
  have e : ∀ n : Int, IntKind.u16.wrap n = n % 65536 := fun n => by simp [IntKind.wrap, IntKind.bits, IntKind.signed]
  rw [e, e, e, Int.emod_eq_of_lt h0 (by omega), Int.emod_eq_of_lt (by omega) (by omega), Int.emod_eq_of_lt h2 (by omega)]
  exact bits_join .u16 16 (by decide) (fun n a b => by rw [e]; omega) 8 _ _ (by omega) (by omega) (by omega) h2 (by omega) (by omega)
theorem pairs_two (l : List Int) (i : Nat) (h : i + 1 < l.length) : pairs (l.drop i) = (rd l i * 256 + rd l ((i + 1 : Nat) : Int)) :: pairs (l.drop (i + 2)) := by
  rw [rd_drop l i (by omega), rd_drop l (i + 1) (by omega), pairs]
end Go.Proofs.YtgljicdpcapgnaaGreatDoor.Gr
namespace Go.Proofs.YtgljicdpcapgnaaGreatDoor
open Go.RowKit Go.Proofs.YtgljicdpcapgnaaGreatDoorW.PrintWords
namespace Wi
def rq0 (b : List Int) : Int := num (b.take 4)
def rq1 (b : List Int) : Int := num ((b.drop 4).take 2)
def rq2 (b : List Int) : Int := num ((b.drop 6).take 2)
def rq3 (b : List Int) : Int := num ((b.drop 8).take 8)
def rq4 (b : List Int) : Int := num ((b.drop 16).take 8)
def rq5 (b : List Int) : Int := num ((b.drop 24).take 4)
theorem takes6 (b : List Int) : takes b [4, 2, 2, 8, 8, 4] [] = if b.length < 28 then ([], [], false) else ([rq0 b, rq1 b, rq2 b, rq3 b, rq4 b, rq5 b], b.drop 28, true) := by
  simp only [takes, show wd 4 = 4 from rfl, show wd 8 = 8 from rfl, show wd 2 = 2 from rfl, List.length_drop, List.drop_drop]
  by_cases h : b.length < 28
  · rw [if_pos h]
    by_cases h0 : b.length < 4
    · rw [if_pos h0]
    · rw [if_neg h0]
      by_cases h1 : b.length - 4 < 2
      · rw [if_pos h1]
      · rw [if_neg h1]
        by_cases h2 : b.length - (4 + 2) < 2
        · rw [if_pos h2]
        · rw [if_neg h2]
          by_cases h3 : b.length - (4 + 2 + 2) < 8
          · rw [if_pos h3]
          · rw [if_neg h3]
            by_cases h4 : b.length - (4 + 2 + 2 + 8) < 8
            · rw [if_pos h4]
            · rw [if_neg h4]
              rw [if_pos (by omega)]
  · rw [if_neg h, if_neg (by omega), if_neg (by omega), if_neg (by omega), if_neg (by omega), if_neg (by omega), if_neg (by omega)]
    rfl
theorem num_bnd (b : List Int) (hb : Bytes b) (n : Nat) : 0 ≤ num (b.take n) ∧ num (b.take n) < 256 ^ n := by
  have := num_range (b.take n) (hb.take n)
  refine ⟨this.1, Int.lt_of_lt_of_le this.2 ?_⟩
  have hle : (b.take n).length ≤ n := by rw [List.length_take]; omega
  have h2 : (256 : Nat) ^ (b.take n).length ≤ 256 ^ n := Nat.pow_le_pow_right (by decide) hle
  have h3 : ((256 ^ (b.take n).length : Nat) : Int) ≤ ((256 ^ n : Nat) : Int) := Int.ofNat_le.2 h2
  rwa [Int.natCast_pow, Int.natCast_pow] at h3
theorem rq_bnd (b : List Int) (hb : Bytes b) : (0 ≤ rq0 b ∧ rq0 b < 4294967296) ∧ (0 ≤ rq1 b ∧ rq1 b < 65536) ∧ (0 ≤ rq2 b ∧ rq2 b < 65536) ∧ (0 ≤ rq3 b ∧ rq3 b < 18446744073709551616) ∧ (0 ≤ rq4 b ∧ rq4 b < 18446744073709551616) ∧ (0 ≤ rq5 b ∧ rq5 b < 4294967296) :=
  ⟨num_bnd b hb 4, num_bnd _ (hb.drop 4) 2, num_bnd _ (hb.drop 6) 2, num_bnd _ (hb.drop 8) 8, num_bnd _ (hb.drop 16) 8, num_bnd _ (hb.drop 24) 4⟩
theorem rq_take (b : List Int) : rq0 (b.take 28) = rq0 b ∧ rq1 (b.take 28) = rq1 b ∧ rq2 (b.take 28) = rq2 b ∧ rq3 (b.take 28) = rq3 b ∧ rq4 (b.take 28) = rq4 b ∧ rq5 (b.take 28) = rq5 b := by
  refine ⟨?_, ?_, ?_, ?_, ?_, ?_⟩
  · unfold rq0; rw [List.take_take]; rfl
  · unfold rq1; rw [List.drop_take, List.take_take]; rfl
  · unfold rq2; rw [List.drop_take, List.take_take]; rfl
  · unfold rq3; rw [List.drop_take, List.take_take]; rfl
  · unfold rq4; rw [List.drop_take, List.take_take]; rfl
  · unfold rq5; rw [List.drop_take, List.take_take]; rfl
def nextOf (b : List Int) : Int × Int × Int × Int × Int × List Int × Int × Int :=
  if b.length < 28 then (0, 0, 0, 0, 0, [], 0, 80)
  else if rq0 b ≠ 627086611 then (0, 0, 0, 0, 0, [], 0, 81)
  else if rq2 b = 1 then
    if rq5 b > 65536 then (0, 0, 0, 0, 0, [], 0, 82)
    else if 28 + rq5 b > b.length then (0, 0, 0, 0, 0, [], 0, 80)
    else (rq1 b, rq2 b, rq3 b, rq4 b, rq5 b, (b.drop 28).take (rq5 b).toNat, 28 + rq5 b, 0)
  else (rq1 b, rq2 b, rq3 b, rq4 b, rq5 b, [], 28, 0)
end Wi
def req_Next.f (l0 : List Int) : Option (Int × Int × Int × Int × Int × List Int × Int × Int) := if l0.length ≤ 1099511627776 ∧ ∀ x ∈ l0, 0 ≤ x ∧ x ≤ 255 then some (Wi.nextOf l0) else none
end Go.Proofs.YtgljicdpcapgnaaGreatDoor
namespace Go.Proofs.YtgljicdpcapgnaaGreatDoor.Cn
open Go.RowKit Go.Proofs.YtgljicdpcapgnaaGreatDoor Go.Proofs.YtgljicdpcapgnaaGreatDoor.PBase Go.Proofs.YtgljicdpcapgnaaGreatDoorW.PrintWords Go.Proofs.YtgljicdpcapgnaaGreatDoorW.PrintLast Go.Proofs.YtgljicdpcapgnaaGreatDoorW.PrintMore
abbrev Ex := Int × Int × Bool
def ex0 : Ex := (0, 0, false)
structure St where
  blk : Int
  kept : List Int
  send : List Int
  st : Int
  ex : Ex
  sh : Bool
  rs : List Rq
def rep (o k : Int) (d : List Int) : List Int := Wi.packs [8, 4, 4, 4] [1100100111001001, o, k, d.length] ++ d
def hello : List Int := Wi.packs [8, 8, 2] [5639144782019643715, 5280542401877725268, 3]
def can (ro : Bool) : Int := if ro then 111 else 109
def info (x : Ex) : List Int := Wi.packs [2, 8, 2] [0, x.2.1, can x.2.2]
def blocks (b : Int) : List Int := Wi.packs [2, 4, 4, 4] [3, 1, b, 65536]
def old (x : Ex) (sh : Bool) : List Int := Wi.packs [8, 2] [x.2.1, can x.2.2] ++ (if sh then [] else List.replicate 124 0)
def answer (a ck : Int) (d : List Int) : List Int := Wi.packs [4, 4, 8] [1732535960, a, ck] ++ d
def served (b : Int) (t : Ps.Tk) : Ex := (t.1, if b = 0 ∨ t.2.2.2 ≤ 18446744073709551615 / b then t.2.2.2 * b else 18446744073709551615, t.2.2.1)
def new (b : Int) : St := ⟨b, [], hello, 1, ex0, false, []⟩
def close (c : St) : St := { c with kept := [], st := 4, rs := [] }
def say (c : St) (o k : Int) (d : List Int) : St := { c with send := c.send ++ rep o k d }
def refused (e : Int) : Int := if e = 74 then 2147483651 else if e = 50 ∨ e = 51 then 2147483654 else 2147483650
def asked (l : List Ps.Tn) (c : St) (k : Int) (d : List Int) : St :=
  if (Gr.ak d).2.2 ≠ 0 then say c k (refused (Gr.ak d).2.2) []
  else if (Ps.check l (Gr.ak d).1).2 ≠ 0 then say c k (refused (Ps.check l (Gr.ak d).1).2) []
  else
    let x := served c.blk (Ps.check l (Gr.ak d).1).1
    let c1 := say c k 3 (info x)
    let c2 := if 3 ∈ (Gr.ak d).2.1 then say c1 k 3 (blocks c.blk) else c1
    let c3 := say c2 k 1 []
    if k = 7 then { c3 with ex := x, st := 3 } else c3
def oldway (l : List Ps.Tn) (c : St) (d : List Int) : St :=
  if (Ps.check l (strOfNums d)).2 ≠ 0 ∨ 255 < d.length then close c
  else { c with ex := served c.blk (Ps.check l (strOfNums d)).1, st := 3, send := c.send ++ old (served c.blk (Ps.check l (strOfNums d)).1) c.sh }
def option (l : List Ps.Tn) (c : St) (k : Int) (d : List Int) : St :=
  if k = 2 then close (say c k 1 [])
  else if k = 3 then say c k (if 0 < d.length then 2147483651 else 1) []
  else if k = 1 then oldway l c d
  else if k = 6 ∨ k = 7 then asked l c k d
  else say c k 2147483649 []
def request (c : St) : Int × Int × St :=
  if c.rs.length = 16 then (0, 80, c)
  else match Wi.nextOf c.kept with
    | (f, k, ck, off, len, data, n, e) => if e ≠ 0 then (0, e, c) else if k = 2 then (n, 0, close c) else (n, 0, { c with rs := c.rs ++ [(f, k, ck, off, len, data)] })
def step (l : List Ps.Tn) (c : St) : Int × Int × St :=
  if c.st = 1 then ((Gr.fl c.kept).2.1, (Gr.fl c.kept).2.2, if (Gr.fl c.kept).2.2 = 0 then { c with sh := (Gr.fl c.kept).1, st := 2 } else c)
  else if c.st = 2 then ((Gr.nx c.kept).2.2.1, (Gr.nx c.kept).2.2.2, if (Gr.nx c.kept).2.2.2 = 0 then option l c (Gr.nx c.kept).1 (Gr.nx c.kept).2.1 else c)
  else if c.st = 3 then request c
  else (0, 80, c)
def rd (l : List Ps.Tn) : Nat → St → St
  | 0, c => c
  | F + 1, c =>
    if (step l c).2.1 = 70 ∨ (step l c).2.1 = 80 then (step l c).2.2
    else if (step l c).2.1 = 0 then (if (step l c).2.2.st = 4 then (step l c).2.2 else rd l F { (step l c).2.2 with kept := (step l c).2.2.kept.drop (step l c).1.toNat })
    else close (step l c).2.2
def read (l : List Ps.Tn) (c : St) : St := rd l (c.kept.length + 1) c
def feed (l : List Ps.Tn) (c : St) (b : List Int) : St :=
  if c.st = 4 then c
  else if 131072 < b.length ∨ 131072 < c.kept.length + b.length then close c
  else read l { c with kept := c.kept ++ b }
def out (c : St) : St := { c with send := [] }
def take (l : List Ps.Tn) (c : St) (k : Int) : St := if k < 0 ∨ (c.rs.length : Int) ≤ k then read l c else read l { c with rs := c.rs.eraseIdx k.toNat }
def answered (c : St) (r : Rq) (a : Int) (d : List Int) : St := if c.st ≠ 3 then c else { c with send := c.send ++ answer a r.2.2.1 (if a = 0 then d else []) }
end Go.Proofs.YtgljicdpcapgnaaGreatDoor.Cn
namespace Go.Proofs.YtgljicdpcapgnaaGreatDoor
open Go.RowKit Go.Proofs.YtgljicdpcapgnaaGreatDoorW.PrintWords Go.Proofs.YtgljicdpcapgnaaGreatDoorW.PrintLast Go.Proofs.YtgljicdpcapgnaaGreatDoorW.PrintMore
namespace Cn
structure Fr (W W' : World) (ok : Nat → Prop) : Prop where mk_ ::
  os : W'.os = W.os
  tape : W'.tape = W.tape
  output : W'.output = W.output
  size : W.heap.size ≤ W'.heap.size
  block : ∀ k, k < W.heap.size → ¬ ok k → W'.heap[k]? = W.heap[k]?
section
variable {W W' W1 W2 : World} {ok ok' ex ex' : Nat → Prop} {p tb pp : Nat} {vk vs : Value} {c : St}
theorem Fr.refl (W : World) (ok : Nat → Prop) : Fr W W ok := ⟨rfl, rfl, rfl, Nat.le_refl _, fun _ _ _ => rfl⟩
theorem Fr.trans (h : Fr W W1 ok) (h' : Fr W1 W2 ok) : Fr W W2 ok := ⟨h'.os.trans h.os, h'.tape.trans h.tape, h'.output.trans h.output, Nat.le_trans h.size h'.size, fun k hk hn => (h'.block k (Nat.lt_of_lt_of_le hk h.size) hn).trans (h.block k hk hn)⟩
theorem Fr.of_below (h : Below W.heap.size W W') (ok : Nat → Prop) : Fr W W' ok := ⟨h.os, h.tape, h.output, h.size, fun k hk _ => h.block k hk⟩
theorem Fr.of_grown {row : Option Nat} (h : W.grownBy W' row) (hr : ∀ k, row = some k → ok k) : Fr W W' ok := ⟨h.os, h.tape, h.output, h.size, fun k hk hn => h.block k hk (fun he => hn (hr k he.symm))⟩
theorem Fr.of_only {g : Nat} (h : Wk.Only W W' g) (hg : ok g) : Fr W W' ok := Fr.of_grown h.grown (fun k hk => by cases hk; exact hg)
theorem Fr.mono (h : Fr W W' ok) (ho : ∀ k, ok k → ok' k) : Fr W W' ok' := ⟨h.os, h.tape, h.output, h.size, fun k hk hn => h.block k hk (fun hh => hn (ho k hh))⟩
theorem Fr.below {B : Nat} {w0 : World} (h : Fr W W' ok) (hb : Below B w0 W) (hB : B ≤ W.heap.size) (ho : ∀ k, ok k → B ≤ k) : Below B w0 W' :=
  hb.trans ⟨h.os, h.tape, h.output, h.size, fun k hk => h.block k (Nat.lt_of_lt_of_le hk hB) (fun hh => by have := ho k hh; omega)⟩
def cc (pp tb : Nat) (blk : Int) (vk vs : Value) (st : Int) (ex : Ex) (sh : Bool) : List Value := [.pointer (some ⟨pp, 0, none⟩), .pointer (some ⟨tb, 0, none⟩), .int .i64 blk, vk, vs, .int .u8 st, .int .u32 ex.1, .int .u64 ex.2.1, .bool ex.2.2, .bool sh]
structure Cv (W : World) (ok ex : Nat → Prop) (p tb pp : Nat) (vk vs : Value) (c : St) : Prop where mk_ ::
  blk : Wk.Blk W p 61 (cc pp tb c.blk vk vs c.st c.ex c.sh)
  okp : ok p
  okq : ok pp
  kept : Kd.R (Kd.int .u8) 5 W 0 (fun k => ok k ∧ some k ≠ vs.ownBlock) vk c.kept
  send : Kd.R (Kd.int .u8) 5 W 0 (fun k => ok k ∧ some k ≠ vk.ownBlock) vs c.send
  pipe : Pi.Pp W 0 (fun k => (ok k ∨ ex k) ∧ some k ≠ vk.ownBlock ∧ some k ≠ vs.ownBlock) pp c.rs
def Cn (W : World) (ok ex : Nat → Prop) (p tb : Nat) (c : St) : Prop := ∃ pp vk vs, Cv W ok ex p tb pp vk vs c
theorem ne_conn : ∀ q, q ∈ 5 :: (Kd.int .u8).E → q ≠ 61 := by decide
theorem ne_pipe : ∀ q, q ∈ 5 :: (Kd.int .u8).E → q ≠ 85 := by decide
theorem kRq_conn : ∀ q, q ∈ kRq.E → q ≠ 61 := by decide
theorem Pp_frame {base g : Nat} {rs : List Rq} (h : Pi.Pp W base ok g rs) (hf : ∀ k, k < W.heap.size → (k = g ∨ ok k) → W'.heap[k]? = W.heap[k]?) : Pi.Pp W' base ok g rs := by
  obtain ⟨cs, h1, h2, h3, h4, h5, h6⟩ := h.out
  exact ⟨cs, ⟨(hf g h1.lt (.inl rfl)).trans h1.out⟩, h2, h3, h4, h5, h6.imp_ (fun _ _ hp => Kd.M_step hp (fun k ho hk => hf k hk (.inr ho)))⟩
theorem Pp_only {base g b : Nat} {rs : List Rq} {zs : List Value} (h : Pi.Pp W base ok g rs) (hb : Wk.Blk W b 61 zs) (hO : Wk.Only W W' b) : Pi.Pp W' base ok g rs := by
  obtain ⟨cs, h1, h2, h3, h4, h5, h6⟩ := h.out
  refine ⟨cs, h1.only hO (h1.ne_ hb (by decide)), h2, h3, h4, h5, h6.imp_ (fun _ _ hp => ?_)⟩
  exact kRq.M_mono (fun _ hk => hk.1) (Kd.M_grown (Kd.M_types hp hb.out kRq_conn) hO.grown (fun k hk he => hk.2 (by injection he)))
theorem Cv.frame (h : Cv W ok ex p tb pp vk vs c) (hf : Fr W W' ok') (hd : ∀ k, ok k ∨ ex k → ¬ ok' k) : Cv W' ok ex p tb pp vk vs c :=
  ⟨⟨(hf.block p h.blk.lt (hd p (.inl h.okp))).trans h.blk.out⟩, h.okp, h.okq, Kd.R_step h.kept (fun k ho hk => hf.block k hk (hd k (.inl ho.1))), Kd.R_step h.send (fun k ho hk => hf.block k hk (hd k (.inl ho.1))),
    Pp_frame h.pipe (fun k hk ho => hf.block k hk (hd k (ho.elim (fun e => e ▸ .inl h.okq) (fun ho => ho.1))))⟩
theorem Cv.below (h : Cv W ok ex p tb pp vk vs c) (hb : Below W.heap.size W W') : Cv W' ok ex p tb pp vk vs c := h.frame (Fr.of_below hb (fun _ => False)) (fun _ _ hh => hh)
theorem Cn.frame (h : Cn W ok ex p tb c) (hf : Fr W W' ok') (hd : ∀ k, ok k ∨ ex k → ¬ ok' k) : Cn W' ok ex p tb c := by
  obtain ⟨pp, vk, vs, h⟩ := h
  exact ⟨pp, vk, vs, h.frame hf hd⟩
theorem Cn.below (h : Cn W ok ex p tb c) (hb : Below W.heap.size W W') : Cn W' ok ex p tb c := h.frame (Fr.of_below hb (fun _ => False)) (fun _ _ hh => hh)
theorem Cv.lt (h : Cv W ok ex p tb pp vk vs c) : p < W.heap.size := h.blk.lt
theorem Cv.bound (h : Cv W ok ex p tb pp vk vs c) : Cv W (fun k => ok k ∧ k < W.heap.size) (fun k => ex k ∧ k < W.heap.size) p tb pp vk vs c :=
  ⟨h.blk, ⟨h.okp, h.blk.lt⟩, ⟨h.okq, h.pipe.lt⟩, Kd.R_mono (Kd.R_bound h.kept) (fun k hk => ⟨⟨hk.1.1, hk.2.2.1⟩, hk.1.2⟩), Kd.R_mono (Kd.R_bound h.send) (fun k hk => ⟨⟨hk.1.1, hk.2.2.1⟩, hk.1.2⟩), h.pipe.bound.mono (fun k hk => ⟨hk.1.1.imp (fun h => ⟨h, hk.2.2⟩) (fun h => ⟨h, hk.2.2⟩), hk.1.2⟩)⟩
theorem Cv.mono (h : Cv W ok ex p tb pp vk vs c) (ho : ∀ k, ok k → ok' k) (hx : ∀ k, ex k → ok' k ∨ ex' k) : Cv W ok' ex' p tb pp vk vs c :=
  ⟨h.blk, ho p h.okp, ho pp h.okq, Kd.R_mono h.kept (fun k hk => ⟨ho k hk.1, hk.2⟩), Kd.R_mono h.send (fun k hk => ⟨ho k hk.1, hk.2⟩), h.pipe.mono (fun k hk => ⟨hk.1.elim (fun h => .inl (ho k h)) (hx k), hk.2⟩)⟩
theorem Cn.bound (h : Cn W ok ex p tb c) : Cn W (fun k => ok k ∧ k < W.heap.size) (fun k => ex k ∧ k < W.heap.size) p tb c := by
  obtain ⟨pp, vk, vs, h⟩ := h
  exact ⟨pp, vk, vs, h.bound⟩
theorem Cn.mono (h : Cn W ok ex p tb c) (ho : ∀ k, ok k → ok' k) (hx : ∀ k, ex k → ok' k ∨ ex' k) : Cn W ok' ex' p tb c := by
  obtain ⟨pp, vk, vs, h⟩ := h
  exact ⟨pp, vk, vs, h.mono ho hx⟩
theorem Cv.turn {c' : St} (h : Cv W ok ex p tb pp vk vs c) (hO : Wk.Only W W' p) (hX : Wk.Blk W' p 61 (cc pp tb c'.blk vk vs c'.st c'.ex c'.sh)) (e1 : c'.kept = c.kept) (e2 : c'.send = c.send) (e3 : c'.rs = c.rs) : Cv W' ok ex p tb pp vk vs c' :=
  ⟨hX, h.okp, h.okq, by rw [e1]; exact Wk.R_only h.kept h.blk ne_conn hO, by rw [e2]; exact Wk.R_only h.send h.blk ne_conn hO, by rw [e3]; exact Pp_only h.pipe h.blk hO⟩
theorem Cv.sent {v1 : Value} {s1 : List Int} {c' : St} (h : Cv W ok ex p tb pp vk vs c) (hR : Kd.R (Kd.int .u8) 5 W1 0 (fun k => ok k ∧ some k ≠ vk.ownBlock) v1 s1) (hg : W.grownBy W1 vs.ownBlock) (hat : ∀ b, v1.ownBlock = some b → vs.ownBlock = some b ∨ W.heap.size ≤ b)
    (hO : Wk.Only W1 W2 p) (hX : Wk.Blk W2 p 61 (cc pp tb c'.blk vk v1 c'.st c'.ex c'.sh)) (e1 : c'.kept = c.kept) (e2 : c'.send = s1) (e3 : c'.rs = c.rs) : Cv W2 ok ex p tb pp vk v1 c' := by
  have hb1 : Wk.Blk W1 p 61 (cc pp tb c.blk vk vs c.st c.ex c.sh) := h.blk.grown hg (Kd.R_ne h.send h.blk.out (by decide))
  have ne : ∀ k, k < W.heap.size → some k ≠ vs.ownBlock → some k ≠ v1.ownBlock := fun k hk hn he => by
    rcases hat k he.symm with h1 | h1
    · exact hn h1.symm
    · omega
  refine ⟨hX, h.okp, h.okq, ?_, ?_, ?_⟩
  · rw [e1]
    refine Wk.R_only ?_ hb1 ne_conn hO
    exact Kd.R_mono (Kd.R_grown (Kd.R_bound h.kept) hg (fun k hk => hk.1.2)) (fun k hk => ⟨hk.1.1, ne k hk.2.2.1 hk.1.2⟩)
  · rw [e2]
    exact Wk.R_only hR hb1 ne_conn hO
  · rw [e3]
    refine Pp_only ?_ hb1 hO
    obtain ⟨cs, z1, _⟩ := h.pipe.out
    exact (h.pipe.bound.grown hg (Kd.R_ne h.send z1.out (by decide)) (fun k hk => hk.1.2.2)).mono (fun k hk => ⟨hk.1.1, hk.1.2.1, ne k hk.2.2 hk.1.2.2⟩)
theorem Cv.keeps {v1 : Value} {s1 : List Int} {c' : St} (h : Cv W ok ex p tb pp vk vs c) (hR : Kd.R (Kd.int .u8) 5 W1 0 (fun k => ok k ∧ some k ≠ vs.ownBlock) v1 s1) (hg : W.grownBy W1 vk.ownBlock) (hat : ∀ b, v1.ownBlock = some b → vk.ownBlock = some b ∨ W.heap.size ≤ b)
    (hO : Wk.Only W1 W2 p) (hX : Wk.Blk W2 p 61 (cc pp tb c'.blk v1 vs c'.st c'.ex c'.sh)) (e1 : c'.kept = s1) (e2 : c'.send = c.send) (e3 : c'.rs = c.rs) : Cv W2 ok ex p tb pp v1 vs c' := by
  have hb1 : Wk.Blk W1 p 61 (cc pp tb c.blk vk vs c.st c.ex c.sh) := h.blk.grown hg (Kd.R_ne h.kept h.blk.out (by decide))
  have ne : ∀ k, k < W.heap.size → some k ≠ vk.ownBlock → some k ≠ v1.ownBlock := fun k hk hn he => by
    rcases hat k he.symm with h1 | h1
    · exact hn h1.symm
    · omega
  refine ⟨hX, h.okp, h.okq, ?_, ?_, ?_⟩
  · rw [e1]
    exact Wk.R_only hR hb1 ne_conn hO
  · rw [e2]
    refine Wk.R_only ?_ hb1 ne_conn hO
    exact Kd.R_mono (Kd.R_grown (Kd.R_bound h.send) hg (fun k hk => hk.1.2)) (fun k hk => ⟨hk.1.1, ne k hk.2.2.1 hk.1.2⟩)
  · rw [e3]
    refine Pp_only ?_ hb1 hO
    obtain ⟨cs, z1, _⟩ := h.pipe.out
    exact (h.pipe.bound.grown hg (Kd.R_ne h.kept z1.out (by decide)) (fun k hk => hk.1.2.1)).mono (fun k hk => ⟨hk.1.1, ne k hk.2.2 hk.1.2.1, hk.1.2.2⟩)
theorem Cv.piped {rs' : List Rq} {c' : St} (h : Cv W ok ex p tb pp vk vs c) (hP : Pi.Pp W1 0 (fun k => (ok k ∨ ex k) ∧ some k ≠ vk.ownBlock ∧ some k ≠ vs.ownBlock) pp rs') (hg : W.grownBy W1 (some pp)) (e0 : c'.blk = c.blk ∧ c'.st = c.st ∧ c'.ex = c.ex ∧ c'.sh = c.sh) (e1 : c'.kept = c.kept) (e2 : c'.send = c.send) (e3 : c'.rs = rs') : Cv W1 ok ex p tb pp vk vs c' := by
  obtain ⟨cs, z1, _⟩ := h.pipe.out
  obtain ⟨e4, e5, e6, e7⟩ := e0
  refine ⟨by rw [e4, e5, e6, e7]; exact h.blk.grown hg (fun he => h.blk.ne_ z1 (by decide) (Option.some.inj he)), h.okp, h.okq, ?_, ?_, by rw [e3]; exact hP⟩
  · rw [e1]
    exact Kd.R_mono (Kd.R_grown (Kd.R_types h.kept z1.out ne_pipe) hg (fun k hk he => hk.2 (Option.some.inj he))) (fun k hk => hk.1)
  · rw [e2]
    exact Kd.R_mono (Kd.R_grown (Kd.R_types h.send z1.out ne_pipe) hg (fun k hk he => hk.2 (Option.some.inj he))) (fun k hk => hk.1)
end
end Cn
end Go.Proofs.YtgljicdpcapgnaaGreatDoor
namespace Go.Proofs.YtgljicdpcapgnaaGreatDoor
open Go.RowKit Go.Proofs.YtgljicdpcapgnaaGreatDoorW.PrintWords Go.Proofs.YtgljicdpcapgnaaGreatDoorW.PrintLast Go.Proofs.YtgljicdpcapgnaaGreatDoorW.PrintMore
namespace Cn
theorem u64_ (x : Int) (h0 : 0 ≤ x) (h1 : x < 18446744073709551616) : IntKind.u64.wrap x = x := Bt.wraps_u64 x h0 (by omega)
theorem packs_len4 (ws vs : List Int) (h : ws.length ≤ 1000) : (Wi.packs ws vs).length ≤ 8000 := by have := Wi.packs_len ws vs; omega
def Made (W : World) (l : List Int) (e' : Ending) (w' : World) : Prop := ∃ A' c', e' = .returned (.slice A' l.length c') ∧ Kd.R (Kd.int .u8) 5 w' W.heap.size (fun _ => True) (.slice A' l.length c') l ∧ Below W.heap.size W w'
theorem made {W : World} {l : List Int} {e' : Ending} {w' : World} : (∃ v : Value, e' = .returned v ∧ Kd.R (Kd.int .u8) 5 w' W.heap.size (fun _ => True) v l ∧ Below W.heap.size W w') → Made W l e' w' := by
  rintro ⟨v, rfl, hR, hB⟩
  obtain ⟨A', c', rfl⟩ := Kd.R_slice hR
  exact ⟨A', c', rfl, hR, hB⟩
theorem pack_ {A B : Option Addr} {n c m d : Nat} {ws vs : List Int} {W : World} (h0 : Kd.C (Kd.int .i64) W A ws.length ws) (hn : ws.length = n) (hc : n ≤ c) (h1 : Kd.C (Kd.int .u64) W B vs.length vs) (hm : vs.length = m) (hd : m ≤ d) (hl : n ≤ 99) (hl2 : m ≤ 99) :
    Calls Tryz.prog 43 #[.slice A n c, .slice B m d] W (Made W (Wi.packs ws vs)) := by
  subst hn; subst hm
  exact (wire_Pack.calls 1000 A c ws B d vs _ W h0 hc h1 hd (Wi.pack_is ws vs (by omega) (by omega) 1000 (by omega))).mono (fun _ _ h => made h)
theorem take_ {A B : Option Addr} {n c m d : Nat} {l ws : List Int} {W : World} (h0 : Kd.C (Kd.int .u8) W A l.length l) (hn : l.length = n) (hc : n ≤ c) (h1 : Kd.C (Kd.int .i64) W B ws.length ws) (hm : ws.length = m) (hd : m ≤ d) (hl : n ≤ 1000000) (hl2 : m ≤ 99) (hb : Wi.Bytes l) :
    Calls Tryz.prog 70 #[.slice A n c, .slice B m d] W fun e w' => ∃ A0 c0 A1 c1, e = .returned (.tuple #[.slice A0 (Wi.takes l ws []).1.length c0, .slice A1 (Wi.takes l ws []).2.1.length c1, .bool (Wi.takes l ws []).2.2]) ∧ Kd.R (Kd.int .u64) 45 w' W.heap.size (fun _ => True) (.slice A0 (Wi.takes l ws []).1.length c0) (Wi.takes l ws []).1 ∧ Kd.R (Kd.int .u8) 5 w' W.heap.size (fun _ => True) (.slice A1 (Wi.takes l ws []).2.1.length c1) (Wi.takes l ws []).2.1 ∧ Below W.heap.size W w' := by
  subst hn; subst hm
  refine (wire_Take.calls A c l B d ws _ _ _ W h0 hc h1 hd (Wi.take_is l ws (by omega) (by omega) hb)).mono ?_
  rintro e w' ⟨v0, v1, rfl, h0, h1, hb⟩
  obtain ⟨A0, c0, rfl⟩ := Kd.R_slice h0
  obtain ⟨A1, c1, rfl⟩ := Kd.R_slice h1
  exact ⟨A0, c0, A1, c1, rfl, h0, h1, hb⟩
theorem first_ {k : IntKind} {e : Nat} {W : World} {base : Nat} {ok : Nat → Prop} {A : Option Addr} {c : Nat} {x : Int} {l : List Int} (h : Kd.R (Kd.int k) e W base ok (.slice A (x :: l).length c) (x :: l)) : ∃ ab, A = some ⟨ab, 0, none⟩ ∧ W.cell? ⟨ab, 0, none⟩ = some (.int k x) := by
  obtain ⟨ab, cap, he, -⟩ := Kd.R_form h (Nat.succ_pos _)
  obtain ⟨rfl, -, -⟩ := Value.slice.inj he
  obtain ⟨ad, h1, h2⟩ := Kd.at_int (Kd.R_reads' h).2.2 0 (Int.le_refl _) (by simp)
  obtain rfl := Option.some.inj h1
  exact ⟨ab, rfl, h2⟩
end Cn
theorem Cn.hello_ (W : World) : Calls Tryz.prog 27 #[] W (Cn.Made W Cn.hello) := by
 have HB2 : Aside0 (Below W.heap.size W ((W.alloc (.cells #[.int .i64 8, .int .i64 8, .int .i64 2] 3)).alloc (.cells #[.int .u64 5639144782019643715, .int .u64 5280542401877725268, .int .u64 3] 45))) := ⟨below_alloc (below_alloc (Below.refl _ _) _) _⟩
 go_enter Tryz.func27, Tryz.ntmps27
 go_wp2_with fail
 refine (Cn.pack_ (ws := [8, 8, 2]) (vs := [5639144782019643715, 5280542401877725268, 3]) (Kd.C_below (Lit.reads_new W _ 3 _ .i64 [8, 8, 2] rfl (by decide)) (below_alloc (Below.refl _ _) _)) rfl (by decide) (Lit.two_reads W _ 45 .u64 [5639144782019643715, 5280542401877725268, 3] rfl (by decide)) rfl (by decide) (by decide) (by decide)).mono ?_
 rintro e w3 ⟨A3, c3, rfl, hR3, hb3⟩
 have HR3 := az hR3
 have HB3 := az (below_then HB2.out HB2.out.size hb3)
 clear hb3 hR3
 go_wp2_with fail
 go_ret
 exact ⟨A3, c3, rfl, Kd.R_lower HR3.out HB2.out.size, HB3.out⟩
theorem Cn.blocks_ (W : World) (b : Int) (h0 : 0 ≤ b) (h1 : b < 18446744073709551616) : Calls Tryz.prog 93 #[.int .i64 b] W (Cn.Made W (Cn.blocks b)) := by
 have HB2 : Aside0 (Below W.heap.size W ((W.alloc (.cells #[.int .i64 2, .int .i64 4, .int .i64 4, .int .i64 4] 3)).alloc (.cells #[.int .u64 3, .int .u64 1, .int .u64 b, .int .u64 65536] 45))) := ⟨below_alloc (below_alloc (Below.refl _ _) _) _⟩
 have hb := Cn.u64_ b h0 h1
 go_enter Tryz.func93, Tryz.ntmps93
 go_wp2_with fail
 refine (Cn.pack_ (ws := [2, 4, 4, 4]) (vs := [3, 1, b, 65536]) (Kd.C_below (Lit.reads_new W _ 3 _ .i64 [2, 4, 4, 4] rfl (by decide)) (below_alloc (Below.refl _ _) _)) rfl (by decide) (Lit.two_reads W _ 45 .u64 [3, 1, b, 65536] rfl (by simp)) rfl (Nat.le_of_ble_eq_true rfl) (by decide) (Nat.le_of_ble_eq_true rfl)).mono ?_
 rintro e w3 ⟨A3, c3, rfl, hR3, hb3⟩
 have HR3 := az hR3
 have HB3 := az (below_then HB2.out HB2.out.size hb3)
 clear hb3 hR3
 go_wp2_with fail
 go_ret
 exact ⟨A3, c3, rfl, Kd.R_lower HR3.out HB2.out.size, HB3.out⟩
theorem Cn.rep_ {A : Option Addr} {n c : Nat} {d : List Int} {W : World} {o k : Int} (ho : 0 ≤ o ∧ o < 4294967296) (hk : 0 ≤ k ∧ k < 4294967296) (h : Kd.C (Kd.int .u8) W A d.length d) (hn : d.length = n) (hc : n ≤ c) (hl : n ≤ 1000000) :
  Calls Tryz.prog 85 #[.int .u32 o, .int .u32 k, .slice A n c] W (Cn.Made W (Cn.rep o k d)) := by
 have HB2 : Aside0 (Below W.heap.size W ((W.alloc (.cells #[.int .i64 8, .int .i64 4, .int .i64 4, .int .i64 4] 3)).alloc (.cells #[.int .u64 1100100111001001, .int .u64 o, .int .u64 k, .int .u64 n] 45))) := ⟨below_alloc (below_alloc (Below.refl _ _) _) _⟩
 have e1 := Cn.u64_ o ho.1 (by omega)
 have e2 := Cn.u64_ k hk.1 (by omega)
 have e3 := Cn.u64_ (n : Int) (by omega) (by omega)
 have HD := az h
 have HN := az hn
 have HL := az hl
 clear ho hk h hn hl
 go_enter Tryz.func85, Tryz.ntmps85
 go_wp2_with fail
 clear e1 e2 e3
 refine (Cn.pack_ (ws := [8, 4, 4, 4]) (vs := [1100100111001001, o, k, (n : Int)]) (Kd.C_below (Lit.reads_new W _ 3 _ .i64 [8, 4, 4, 4] rfl (by decide)) (below_alloc (Below.refl _ _) _)) rfl (by decide) (Lit.two_reads W _ 45 .u64 [1100100111001001, o, k, (n : Int)] rfl (by simp)) rfl (Nat.le_of_ble_eq_true rfl) (by decide) (Nat.le_of_ble_eq_true rfl)).mono ?_
 rintro e w3 ⟨A3, c3, rfl, hR3, hb3⟩
 have HB3 := az (below_then HB2.out HB2.out.size hb3)
 have HR3 := az (Kd.R_lower hR3 HB2.out.size)
 have HC3 : Aside0 (Kd.C (Kd.int .u8) w3 A n d) := ⟨by have := Kd.C_below HD.out HB3.out; rwa [HN.out] at this⟩
 have HPL : Aside0 ((Wi.packs [8, 4, 4, 4] [1100100111001001, o, k, (n : Int)]).length ≤ 8000) := ⟨Cn.packs_len4 _ _ (by decide)⟩
 have HRP : Aside0 (Wi.packs [8, 4, 4, 4] [1100100111001001, o, k, (n : Int)] ++ d = Cn.rep o k d) := ⟨by unfold Cn.rep; rw [HN.out]⟩
 obtain ⟨x, HX⟩ : ∃ x, Aside0 (Wi.packs [8, 4, 4, 4] [1100100111001001, o, k, (n : Int)] = x) := ⟨_, ⟨rfl⟩⟩
 rw [HX.out] at HR3 HPL HRP ⊢
 clear hb3 hR3
 go_wp2_with (at_builtin; refine Kd.R_append_rows (Kd.int .u8) (w0 := W) W.heap.size rfl (.tmp 18) (.tmp 19) 35 5 (.int .u8 0) 1 rfl Tryz.underlying35 Cl.infoByte rfl (by decide) (by decide) (.slice A3 x.length c3) x d A n c (fun _ => True) (fun _ => False) rfl rfl HR3.out HC3.out (fun _ _ h => h) (fun _ h => h.elim) (fun _ _ => trivial) HB3.out HB3.out.size (by have := HPL.out; have := HL.out; omega) ?_; intro v4 w4 hr4 hb4 _ _; obtain ⟨A4, c4, rfl⟩ := Kd.R_slice hr4; have HR4 := az hr4; have HB4 := az hb4; rw [HRP.out] at HR4 ⊢; clear hr4 hb4)
 go_ret
 exact ⟨A4, c4, rfl, HR4.out, HB4.out⟩
theorem Cn.flags_ {A : Option Addr} {n c : Nat} {l : List Int} {W : World} {s : Bool} {m e : Int} (h : Kd.C (Kd.int .u8) W A l.length l) (hn : l.length = n) (hc : n ≤ c) (hl : n ≤ 1000000) (hb : Sh.Bytes l) (hf : Gr.fl l = (s, m, e)) :
  Calls Tryz.prog 59 #[.slice A n c] W fun e' w' => e' = .returned (.tuple #[.bool s, .int .i64 m, .int .u16 e]) ∧ Below W.heap.size W w' := by
 have HB2 : Aside0 (Below W.heap.size W (W.alloc (.cells #[.int .i64 4] 3))) := ⟨below_alloc (Below.refl _ _) _⟩
 have HD := az h
 have HN := az hn
 have HC := az hc
 have HL := az hl
 have HBY := az hb
 have HF := az hf
 clear h hn hl hb hf hc
 go_enter Tryz.func59, Tryz.ntmps59
 go_wp2_with fail
 refine (Cn.take_ (ws := [4]) (Kd.C_below HD.out HB2.out) HN.out HC.out (Lit.reads_new W _ 3 _ .i64 [4] rfl (by decide)) rfl (by decide) HL.out (by decide) HBY.out).mono ?_
 rintro e w3 ⟨A0, c0, A1, c1, rfl, hR0, hR1, hb3⟩
 have HB3 := az (below_then HB2.out HB2.out.size hb3)
 have ht := Gr.takes4 l
 by_cases h4 : l.length < 4
 ·rw [if_pos h4] at ht
  rw [ht]
  have HE : Aside0 (s = false ∧ m = 0 ∧ e = 70) := ⟨by have := HF.out; unfold Gr.fl at this; rw [if_pos h4] at this; simp only [Prod.mk.injEq] at this; exact ⟨this.1.symm, this.2.1.symm, this.2.2.symm⟩⟩
  clear hb3 hR0 hR1 h4 ht
  go_wp2_with fail
  go_ret3
  obtain ⟨rfl, rfl, rfl⟩ := HE.out
  exact ⟨rfl, HB3.out⟩
 ·rw [if_neg h4] at ht
  rw [ht] at hR0 ⊢
  obtain ⟨x, HX⟩ : ∃ x, Aside0 (Wi.num (l.take 4) = x) := ⟨_, ⟨rfl⟩⟩
  obtain ⟨nr, HNR⟩ : ∃ x, Aside0 ((l.drop 4).length = x) := ⟨_, ⟨rfl⟩⟩
  have hf := HF.out
  unfold Gr.fl at hf
  rw [if_neg h4, HX.out] at hf
  simp only [HX.out, HNR.out] at hR0 ⊢
  obtain ⟨ab, q0⟩ := Cn.first_ hR0
  obtain ⟨rfl, q0⟩ := q0
  clear hb3 hR0 hR1 h4 ht HF
  have HFF := az hf
  clear hf
  by_cases h1 : x = 1
  ·subst h1
   have hf := HFF.out
   rw [if_pos (by exact Or.inl rfl)] at hf
   simp only [Prod.mk.injEq] at hf
   obtain ⟨rfl, rfl, rfl⟩ := hf
   go_wp2_with fail
   go_ret3
   exact ⟨rfl, HB3.out⟩
  by_cases h3 : x = 3
  ·subst h3
   have hf := HFF.out
   rw [if_pos (by exact Or.inr rfl)] at hf
   simp only [Prod.mk.injEq] at hf
   obtain ⟨rfl, rfl, rfl⟩ := hf
   go_wp2_with fail
   go_ret3
   exact ⟨rfl, HB3.out⟩
  have e1 : (x == 1) = false := by simpa using h1
  have e3 : (x == 3) = false := by simpa using h3
  have n1 : (x != 1) = true := by simpa using h1
  have n3 : (x != 3) = true := by simpa using h3
  have hf := HFF.out
  rw [if_neg (fun h => h.elim h1 h3)] at hf
  simp only [Prod.mk.injEq] at hf
  obtain ⟨rfl, rfl, rfl⟩ := hf
  go_wp2_with fail
  go_ret3
  exact ⟨rfl, HB3.out⟩
namespace Cn
theorem sizeOpt : (Tryz.prog.info? 103).map (·.size) = some 2 := by kernel_rfl
theorem byte1 : (Tryz.prog.info? 5).map (·.size) = some 1 := by kernel_rfl
theorem pre_bytes {l : List Int} (h : Wi.Bytes l) (n : Nat) : Wi.Bytes (l.take n) := fun x hx => h x (List.mem_of_mem_take hx)
def oc (k : Int) (v : Value) : List Value := [.int .u32 k, v]
theorem third_ {k : IntKind} {e : Nat} {W : World} {base : Nat} {ok : Nat → Prop} {A : Option Addr} {c : Nat} {x y z : Int} (h : Kd.R (Kd.int k) e W base ok (.slice A 3 c) [x, y, z]) : ∃ ab, A = some ⟨ab, 0, none⟩ ∧ W.cell? ⟨ab, 0, none⟩ = some (.int k x) ∧ W.cell? ⟨ab, 1, none⟩ = some (.int k y) ∧ W.cell? ⟨ab, 2, none⟩ = some (.int k z) := by
  obtain ⟨ab, rfl, h0⟩ := first_ (l := [y, z]) h
  refine ⟨ab, rfl, h0, ?_, ?_⟩
  · obtain ⟨ad, h1, h2⟩ := Kd.at_int (Kd.R_reads' h).2.2 1 (by decide) (by simp)
    obtain rfl := Option.some.inj h1
    exact h2
  · obtain ⟨ad, h1, h2⟩ := Kd.at_int (Kd.R_reads' h).2.2 2 (by decide) (by simp)
    obtain rfl := Option.some.inj h1
    exact h2
end Cn
attribute [local go_sem] min2_int min_two
theorem Cn.next_ {A : Option Addr} {n c : Nat} {l : List Int} {W : World} {k m e : Int} {d : List Int} (h : Kd.C (Kd.int .u8) W A l.length l) (hn : l.length = n) (hc : n ≤ c) (hl : n ≤ 1000000) (hb : Sh.Bytes l) (hf : Gr.nx l = (k, d, m, e)) :
  Calls Tryz.prog 60 #[.slice A n c] W fun e' w' => ∃ A' c', e' = .returned (.tuple #[.agg #[.int .u32 k, .slice A' d.length c'], .int .i64 m, .int .u16 e]) ∧ Kd.R (Kd.int .u8) 5 w' W.heap.size (fun _ => True) (.slice A' d.length c') d ∧ Below W.heap.size W w' := by
 have HD := az h
 have HN := az hn
 have HC := az hc
 have HL := az hl
 have HBY := az hb
 have HF := az hf
 have HSZ := az Cn.sizeOpt
 have HB2 : Aside0 (Below W.heap.size W ((W.alloc (.cells (Cn.oc 0 (.slice none 0 0)).toArray 103)).alloc (.cells #[.int .i64 8, .int .i64 4, .int .i64 4] 3))) := ⟨below_alloc (below_alloc (Below.refl _ _) _) _⟩
 have HX2 : Aside0 (Wk.Blk ((W.alloc (.cells (Cn.oc 0 (.slice none 0 0)).toArray 103)).alloc (.cells #[.int .i64 8, .int .i64 4, .int .i64 4] 3)) W.heap.size 103 (Cn.oc 0 (.slice none 0 0))) := ⟨(Wk.Blk.new W 103 (Cn.oc 0 (.slice none 0 0))).alloc _⟩
 obtain ⟨mm, HMM⟩ : ∃ mm : Nat, Aside0 ((if (16 : Int) < (n : Int) then (16 : Int) else (n : Int)) = (mm : Int) ∧ mm ≤ n ∧ mm ≤ 16 ∧ (n < 16 ∨ mm = 16)) := by
  by_cases h : (16 : Int) < (n : Int)
  ·exact ⟨16, ⟨if_pos h, by omega, Nat.le_refl _, .inr rfl⟩⟩
  ·exact ⟨n, ⟨if_neg h, Nat.le_refl _, by omega, by omega⟩⟩
 have hmin := HMM.out.1
 have hct := Wk.cut_to_ (P := Tryz.prog) 35 5 .i64 Tryz.underlying35 Cn.byte1 A c l (mm : Int) mm rfl (by rw [hn]; exact HMM.out.2.1) (by rw [hn]; exact hc)
 rw [hn] at hct
 have HTL : Aside0 ((l.take mm).length = mm) := ⟨by rw [List.length_take, hn]; exact Nat.min_eq_left HMM.out.2.1⟩
 have HTC : Aside0 (Kd.C (Kd.int .u8) W A (l.take mm).length (l.take mm)) := ⟨Kd.C_take h (by rw [hn]; exact HMM.out.2.1)⟩
 clear h hn hl hb hf hc
 go_enter Tryz.func60, Tryz.ntmps60
 go_wp2_with fail
 clear hct hmin
 refine (Cn.take_ (ws := [8, 4, 4]) (Kd.C_below HTC.out HB2.out) HTL.out (Nat.le_trans HMM.out.2.1 HC.out) (Lit.two_reads W _ 3 .i64 [8, 4, 4] rfl (by decide)) rfl (by decide) (by have := HMM.out.2.2.1; omega) (by decide) (Cn.pre_bytes HBY.out mm)).mono ?_
 rintro e' w3 ⟨A0, c0, A1, c1, rfl, hR0, hR1, hb3⟩
 have HB3 := az (below_then HB2.out HB2.out.size hb3)
 have HX3 := az (HX2.out.below_ hb3)
 have ht := Gr.takes844 (l.take mm)
 rw [HTL.out] at ht
 by_cases h16 : mm < 16
 ·rw [if_pos h16] at ht
  rw [ht]
  have HE : Aside0 (k = 0 ∧ d = [] ∧ m = 0 ∧ e = 70) := ⟨by
   have := HF.out
   unfold Gr.nx at this
   rw [if_pos (by rw [HN.out]; have := HMM.out.2.2.2; omega)] at this
   simp only [Prod.mk.injEq] at this
   exact ⟨this.1.symm, this.2.1.symm, this.2.2.1.symm, this.2.2.2.symm⟩⟩
  clear hb3 hR0 hR1 h16 ht
  go_wp2_with (refine Wk.store_all rfl rfl 103 (.tmp 2) (.tmp 23) rfl W.heap.size (Cn.oc 0 (.slice none 0 0)) rfl rfl 103 _ HX3.out HSZ.out rfl rfl ?_; intro w4 hX hO; have HX4 := az hX; have HO4 := az hO; clear hX hO)
  refine bodyPost_ret (Wk.res_ctt rfl _ W.heap.size 103 _ _ rfl HX4.out Tryz.underlying103 rfl HSZ.out) rfl ?_
  obtain ⟨rfl, rfl, rfl, rfl⟩ := HE.out
  exact ⟨none, 0, rfl, Kd.R_nil _ _ _ _ _, Wk.Only.below HB3.out HO4.out (Nat.le_refl _)⟩
 obtain rfl : mm = 16 := by have := HMM.out.2.2.1; omega
 have h16n : 16 ≤ n := HMM.out.2.1
 rw [if_neg h16, List.take_take, List.drop_take, List.take_take, List.drop_take, List.take_take, List.drop_take] at ht
 change Wi.takes (l.take 16) [8, 4, 4] [] = ([Wi.num (l.take 8), Wi.num ((l.drop 8).take 4), Wi.num ((l.drop 12).take 4)], (l.drop 16).take 0, true) at ht
 have hf := HF.out
 unfold Gr.nx at hf
 rw [if_neg (by rw [HN.out]; omega)] at hf
 have b2 := Gr.num_bound (l.drop 8) (fun x hx => HBY.out x (List.mem_of_mem_drop hx)) 4 (by decide)
 have b3 := Gr.num_bound (l.drop 12) (fun x hx => HBY.out x (List.mem_of_mem_drop hx)) 4 (by decide)
 have p4 : (256 : Int) ^ 4 = 4294967296 := by decide
 rw [p4] at b2 b3
 simp only [ht] at hR0 ⊢
 generalize Wi.num (l.take 8) = m1 at *
 generalize Wi.num ((l.drop 8).take 4) = m2 at *
 generalize Wi.num ((l.drop 12).take 4) = m3 at *
 obtain ⟨ab, rfl, q0, q1, q2⟩ := Cn.third_ hR0
 have HFF := az hf
 clear hb3 hR0 hR1 h16 ht hf HF p4
 by_cases h1 : m1 = 5280542401877725268
 rotate_left
 ·have HE : Aside0 (k = 0 ∧ d = [] ∧ m = 0 ∧ e = 71) := ⟨by
   have := HFF.out
   rw [if_pos h1] at this
   simp only [Prod.mk.injEq] at this
   exact ⟨this.1.symm, this.2.1.symm, this.2.2.1.symm, this.2.2.2.symm⟩⟩
  have e1 : (m1 != 5280542401877725268) = true := by simpa using h1
  go_wp2_with (refine Wk.store_all rfl rfl 103 (.tmp 2) (.tmp 29) rfl W.heap.size (Cn.oc 0 (.slice none 0 0)) rfl rfl 103 _ HX3.out HSZ.out rfl rfl ?_; intro w4 hX hO; have HX4 := az hX; have HO4 := az hO; clear hX hO)
  refine bodyPost_ret (Wk.res_ctt rfl _ W.heap.size 103 _ _ rfl HX4.out Tryz.underlying103 rfl HSZ.out) rfl ?_
  obtain ⟨rfl, rfl, rfl, rfl⟩ := HE.out
  exact ⟨none, 0, rfl, Kd.R_nil _ _ _ _ _, Wk.Only.below HB3.out HO4.out (Nat.le_refl _)⟩
 subst h1
 by_cases h2 : m3 > 1024
 ·have HE : Aside0 (k = 0 ∧ d = [] ∧ m = 0 ∧ e = 73) := ⟨by
   have := HFF.out
   rw [if_neg (fun h => h rfl), if_pos h2] at this
   simp only [Prod.mk.injEq] at this
   exact ⟨this.1.symm, this.2.1.symm, this.2.2.1.symm, this.2.2.2.symm⟩⟩
  go_wp2_with (refine Wk.store_all rfl rfl 103 (.tmp 2) (.tmp 35) rfl W.heap.size (Cn.oc 0 (.slice none 0 0)) rfl rfl 103 _ HX3.out HSZ.out rfl rfl ?_; intro w4 hX hO; have HX4 := az hX; have HO4 := az hO; clear hX hO)
  refine bodyPost_ret (Wk.res_ctt rfl _ W.heap.size 103 _ _ rfl HX4.out Tryz.underlying103 rfl HSZ.out) rfl ?_
  obtain ⟨rfl, rfl, rfl, rfl⟩ := HE.out
  exact ⟨none, 0, rfl, Kd.R_nil _ _ _ _ _, Wk.Only.below HB3.out HO4.out (Nat.le_refl _)⟩
 have hb30 : 0 ≤ m3 := b3.1
 by_cases h3 : 16 + m3 > (n : Int)
 ·have HE : Aside0 (k = 0 ∧ d = [] ∧ m = 0 ∧ e = 70) := ⟨by
   have := HFF.out
   rw [if_neg (fun h => h rfl), if_neg h2, if_pos (by rw [HN.out]; exact h3)] at this
   simp only [Prod.mk.injEq] at this
   exact ⟨this.1.symm, this.2.1.symm, this.2.2.1.symm, this.2.2.2.symm⟩⟩
  go_wp2_with (refine Wk.store_all rfl rfl 103 (.tmp 2) (.tmp 45) rfl W.heap.size (Cn.oc 0 (.slice none 0 0)) rfl rfl 103 _ HX3.out HSZ.out rfl rfl ?_; intro w4 hX hO; have HX4 := az hX; have HO4 := az hO; clear hX hO)
  refine bodyPost_ret (Wk.res_ctt rfl _ W.heap.size 103 _ _ rfl HX4.out Tryz.underlying103 rfl HSZ.out) rfl ?_
  obtain ⟨rfl, rfl, rfl, rfl⟩ := HE.out
  exact ⟨none, 0, rfl, Kd.R_nil _ _ _ _ _, Wk.Only.below HB3.out HO4.out (Nat.le_refl _)⟩
 have HE : Aside0 (k = m2 ∧ d = (l.drop 16).take m3.toNat ∧ m = 16 + m3 ∧ e = 0) := ⟨by
  have := HFF.out
  rw [if_neg (fun h => h rfl), if_neg h2, if_neg (by rw [HN.out]; exact h3)] at this
  simp only [Prod.mk.injEq] at this
  exact ⟨this.1.symm, this.2.1.symm, this.2.2.1.symm, this.2.2.2.symm⟩⟩
 have h2' : m3 ≤ 1024 := by omega
 have h3' : 16 + m3 ≤ (n : Int) := by omega
 clear h2 h3
 go_wp2_with fail
 obtain ⟨n5, rfl⟩ := Int.eq_ofNat_of_zero_le hb30
 rw [Int.toNat_natCast] at HE
 have hl16 : 16 + n5 ≤ n := by omega
 obtain ⟨A5, hs5, hln5, hC5⟩ := Wk.cut_mid_ (P := Tryz.prog) 35 5 .i64 .i64 Tryz.underlying35 Cn.byte1 .u8 A c l 16 (16 + (n5 : Int)) 16 (16 + n5) rfl rfl (by omega) (by rw [HN.out]; exact hl16) (by rw [HN.out]; exact HC.out)
 rw [HN.out, show 16 + n5 - 16 = n5 from by omega] at hs5
 rw [show 16 + n5 - 16 = n5 from by omega] at hln5 hC5
 have HLN := az hln5
 have HL16 := az hl16
 have HC5 : Aside0 (∀ w', Below w3.heap.size w3 w' → Kd.C (Kd.int .u8) w' A5 n5 ((l.drop 16).take n5)) := ⟨fun w' hb => hC5 w' (Kd.C_below HD.out (below_then HB3.out HB3.out.size hb))⟩
 have e2 : IntKind.u32.wrap m2 = m2 := Bt.wraps_u32 m2 b2.1 (by omega)
 have Q1 := az q1
 clear hln5 hC5 hl16 q0 q1 q2
 refine wp_region_noPanic ?_
 refine Rg.s1 13 (fun w' => Below w3.heap.size w3 w') [10] (Below.refl _ _).drew #[false, false, false, false, false, false, false, false, false, false, false, false, false] (fun hHeld => ?_)
 refine Rg.p1 0 (.some 46) ?_
 refine Rg.p1 1 (.some 47) ?_
 refine Rg.t1 2 (.some 48) hHeld ?_ (hy := by intro w' hS'; (have c1 := (hS'.cell (World.block_lt_of_cell? _ _ Q1.out)).trans Q1.out; go_simp); first | done | with_reducible rfl)
 refine Rg.p1 3 (.some 49) ?_
 refine Rg.p1 4 (.some 50) ?_
 refine Rg.p1 5 (.some 51) ?_
 refine Rg.p1 6 (.some 52) ?_
 refine Rg.p1 9 (.some 55) ?_
 refine Rg.o1 7 (.some 53) (fun K hK => ?_)
 refine call_ 53 #[.slice A5 n5 (c - 16)] (by rfl) rfl (by go_simp) ?_
 have hcl := clone_.calls A5 (c - 16) ((l.drop 16).take n5) _ w3.drew (by rw [HLN.out]; exact HC5.out _ hHeld) (by rw [HLN.out]; have := HL16.out; have := HC.out; omega) (by unfold clone_.f; rw [if_pos (by rw [HLN.out]; have := HL16.out; have := HL.out; omega)])
 rw [HLN.out] at hcl
 refine hcl.mono ?_
 rintro e' w4 ⟨v4, rfl, hR4, hb4⟩
 obtain ⟨A4, c4, rfl⟩ := Kd.R_slice hR4
 rw [HLN.out] at hR4 ⊢
 have HB4 := az (below_then hHeld hHeld.size hb4)
 have HR4 := az hR4
 clear hR4 hb4 hcl
 refine ⟨_, rfl, ?_⟩
 refine hK.out _ _ HB4.out (fun hHeld => ?_)
 clear hK K
 refine Rg.n1 ?_
 refine Rg.p1 8 (.some 54) ?_
 refine Rg.l1 10 none (fun K hK => ?_)
 refine Wk.store_all_step (by rfl) rfl 103 (.tmp 2) (.tmp 54) rfl W.heap.size (Cn.oc m2 (.slice A4 n5 c4)) rfl rfl 103 _ (HX3.out.below_ HB4.out) HSZ.out rfl rfl ?_
 intro w6 hX hO
 have HX6 := az hX
 have HO6 := az hO
 clear hX hO
 refine hK.out _ _ ?_
 clear hK K
 refine Rg.p1 11 (.some 3) ?_
 refine Rg.p1 12 (.some 4) ?_
 refine Rg.d1 ?_
 refine NoPanic.normal ?_
 go_wp2_with fail
 refine bodyPost_ret (Wk.res_ctt rfl _ W.heap.size 103 _ _ rfl HX6.out Tryz.underlying103 rfl HSZ.out) rfl ?_
 obtain ⟨rfl, rfl, rfl, rfl⟩ := HE.out
 rw [HLN.out]
 refine ⟨A4, c4, rfl, ?_, Wk.Only.below (below_then HB3.out HB3.out.size HB4.out) HO6.out (Nat.le_refl _)⟩
 exact Wk.R_only (Kd.R_lower HR4.out HB3.out.size) (HX3.out.below_ HB4.out) (by decide) HO6.out
theorem Cn.asked_ {A : Option Addr} {n c : Nat} {l : List Int} {W : World} {s : ByteArray} {ws : List Int} {e : Int} (h : Kd.C (Kd.int .u8) W A l.length l) (hn : l.length = n) (hc : n ≤ c) (hl : n ≤ 100000) (hb : Sh.Bytes l) (hf : Gr.ak l = (s, ws, e)) :
  Calls Tryz.prog 89 #[.slice A n c] W fun e' w' => ∃ A' c', e' = .returned (.tuple #[.string s, .slice A' ws.length c', .int .u16 e]) ∧ Kd.R (Kd.int .u16) 44 w' W.heap.size (fun _ => True) (.slice A' ws.length c') ws ∧ Below W.heap.size W w' := by
 have HB2 : Aside0 (Below W.heap.size W (W.alloc (.cells #[.int .i64 4] 3))) := ⟨below_alloc (Below.refl _ _) _⟩
 have HD := az h
 have HN := az hn
 have HC := az hc
 have HL := az hl
 have HBY := az hb
 have HF := az hf
 clear h hn hl hb hf hc
 go_enter Tryz.func89, Tryz.ntmps89
 go_wp2_with fail
 refine (Cn.take_ (ws := [4]) (Kd.C_below HD.out HB2.out) HN.out HC.out (Lit.reads_new W _ 3 _ .i64 [4] rfl (by decide)) rfl (by decide) (by have := HL.out; omega) (by decide) HBY.out).mono ?_
 rintro e' w3 ⟨A0, c0, A1, c1, rfl, hR0, hR1, hb3⟩
 have HB3 := az (below_then HB2.out HB2.out.size hb3)
 have ht := Gr.takes4 l
 have HFF := az HF.out
 unfold Gr.ak at HFF
 by_cases h4 : l.length < 4
 ·rw [if_pos h4] at ht
  rw [ht]
  have HE : Aside0 (s = ⟨#[]⟩ ∧ ws = [] ∧ e = 74) := ⟨by
   have := HFF.out
   rw [if_pos (by exact h4)] at this
   simp only [Prod.mk.injEq] at this
   exact ⟨this.1.symm, this.2.1.symm, this.2.2.symm⟩⟩
  clear hb3 hR0 hR1 h4 ht
  go_wp2_with fail
  go_ret3
  obtain ⟨rfl, rfl, rfl⟩ := HE.out
  exact ⟨none, 0, rfl, Kd.R_nil _ _ _ _ _, HB3.out⟩
 rw [if_neg h4] at ht HFF
 have b4 := Gr.num_bound l HBY.out 4 (by decide)
 have p4 : (256 : Int) ^ 4 = 4294967296 := by decide
 rw [p4] at b4
 obtain ⟨x, HX⟩ : ∃ x, Aside0 (Wi.num (l.take 4) = x) := ⟨_, ⟨rfl⟩⟩
 obtain ⟨r1, HR1⟩ : ∃ r1, Aside0 (l.drop 4 = r1) := ⟨_, ⟨rfl⟩⟩
 obtain ⟨nr, HNR⟩ : ∃ x, Aside0 (r1.length = x) := ⟨_, ⟨rfl⟩⟩
 rw [HX.out] at b4
 rw [HX.out, HR1.out] at HFF ht
 rw [HNR.out] at HFF
 simp only [ht, HNR.out] at hR0 hR1 ⊢
 have HBR : Aside0 (Wi.Bytes r1) := ⟨fun y hy => HBY.out y (List.mem_of_mem_drop (by rw [HR1.out]; exact hy))⟩
 have HNRL : Aside0 (nr ≤ n) := ⟨by rw [← HNR.out, ← HR1.out, List.length_drop, HN.out]; omega⟩
 obtain ⟨ab, rfl, q0⟩ := Cn.first_ hR0
 have hx0 : 0 ≤ x := b4.1
 have hx1 : x < 4294967296 := b4.2
 have HQ0 := az q0
 have HR3 := az (Kd.R_reads' hR1)
 rw [HNR.out] at HR3
 clear hb3 hR0 hR1 ht h4 b4 p4
 by_cases h255 : x > 255
 ·rw [if_pos h255] at HFF
  have HE : Aside0 (s = ⟨#[]⟩ ∧ ws = [] ∧ e = 74) := ⟨by have := HFF.out; simp only [Prod.mk.injEq] at this; exact ⟨this.1.symm, this.2.1.symm, this.2.2.symm⟩⟩
  go_wp2_with fail
  go_ret3
  obtain ⟨rfl, rfl, rfl⟩ := HE.out
  exact ⟨none, 0, rfl, Kd.R_nil _ _ _ _ _, HB3.out⟩
 rw [if_neg h255] at HFF
 by_cases hxn : x > (nr : Int)
 ·rw [if_pos hxn] at HFF
  have HE : Aside0 (s = ⟨#[]⟩ ∧ ws = [] ∧ e = 74) := ⟨by have := HFF.out; simp only [Prod.mk.injEq] at this; exact ⟨this.1.symm, this.2.1.symm, this.2.2.symm⟩⟩
  go_wp2_with fail
  go_ret3
  obtain ⟨rfl, rfl, rfl⟩ := HE.out
  exact ⟨none, 0, rfl, Kd.R_nil _ _ _ _ _, HB3.out⟩
 rw [if_neg hxn] at HFF
 obtain ⟨m, rfl⟩ := Int.eq_ofNat_of_zero_le hx0
 rw [Int.toNat_natCast] at HFF
 have hmn : m ≤ nr := by omega
 have hct := Wk.cut_to_ (P := Tryz.prog) 35 5 .u64 Tryz.underlying35 Cn.byte1 A1 c1 r1 (m : Int) m rfl (by rw [HNR.out]; exact hmn) (by rw [HNR.out]; exact HR3.out.2.1)
 obtain ⟨A2, hcf, hC2⟩ := Wk.cut_from_ (P := Tryz.prog) 35 5 .u64 Tryz.underlying35 Cn.byte1 .u8 A1 c1 r1 (m : Int) m rfl (by rw [HNR.out]; exact hmn) (by rw [HNR.out]; exact HR3.out.2.1)
 rw [HNR.out] at hct hcf hC2
 have HTL : Aside0 ((r1.take m).length = m) := ⟨by rw [List.length_take, HNR.out]; exact Nat.min_eq_left hmn⟩
 have HTC : Aside0 (Kd.C (Kd.int .u8) w3 A1 m (r1.take m)) := ⟨by have := Kd.C_take (m := m) (show Kd.C (Kd.int .u8) w3 A1 r1.length r1 by rw [HNR.out]; exact HR3.out.2.2) (by rw [HNR.out]; exact hmn); rwa [HTL.out] at this⟩
 have HDL : Aside0 ((r1.drop m).length = nr - m) := ⟨by rw [List.length_drop, HNR.out]⟩
 have HDC : Aside0 (Kd.C (Kd.int .u8) w3 A2 (nr - m) (r1.drop m)) := ⟨by have := hC2 w3 HR3.out.2.2; rwa [HDL.out] at this⟩
 have hcv : (convert 35 9 (.slice A1 m c1)).run Tryz.prog w3 = .ok (.string (strOfNums (r1.take m))) w3 := Kd.C_string Tryz.underlying35 Tryz.underlying5 Tryz.underlying9 HTC.out
 have HB4 : Aside0 (Below w3.heap.size w3 (w3.alloc (.cells #[.int .i64 2] 3))) := ⟨below_alloc (Below.refl _ _) _⟩
 have HMN := az hmn
 have h255' : (m : Int) ≤ 255 := by omega
 have hxn' : (m : Int) ≤ (nr : Int) := by omega
 clear hC2 hmn h255 hxn hx0 hx1
 go_wp2_with fail
 clear hct hcf hcv q0 h255' hxn'
 have HBX := az (below_then HB3.out HB3.out.size HB4.out)
 have HBR2 : Aside0 (Wi.Bytes (r1.drop m)) := ⟨fun y hy => HBR.out y (List.mem_of_mem_drop hy)⟩
 refine (Cn.take_ (ws := [2]) (by rw [HDL.out]; exact Kd.C_below HDC.out HB4.out) HDL.out (by have := HR3.out.2.1; omega) (Lit.reads_new w3 _ 3 _ .i64 [2] rfl (by decide)) rfl (by decide) (by have := HNRL.out; have := HL.out; omega) (by decide) HBR2.out).mono ?_
 rintro e' w5 ⟨A5, c5, A6, c6, rfl, hR5, hR6, hb5⟩
 have HB5 := az (below_then HBX.out HBX.out.size hb5)
 have ht := Gr.takes2 (r1.drop m)
 obtain ⟨r2, HR2⟩ : ∃ r2, Aside0 (r1.drop m = r2) := ⟨_, ⟨rfl⟩⟩
 rw [HR2.out] at ht hR5 hR6 HFF HDL HBR2 ⊢
 by_cases h2 : r2.length < 2
 ·rw [if_pos h2] at ht HFF
  rw [ht]
  have HE : Aside0 (s = ⟨#[]⟩ ∧ ws = [] ∧ e = 74) := ⟨by have := HFF.out; simp only [Prod.mk.injEq] at this; exact ⟨this.1.symm, this.2.1.symm, this.2.2.symm⟩⟩
  clear hb5 hR5 hR6 h2 ht
  go_wp2_with fail
  go_ret3
  obtain ⟨rfl, rfl, rfl⟩ := HE.out
  exact ⟨none, 0, rfl, Kd.R_nil _ _ _ _ _, HB5.out⟩
 rw [if_neg h2] at ht HFF
 have b2 := Gr.num_bound r2 HBR2.out 2 (by decide)
 have p2 : (256 : Int) ^ 2 = 65536 := by decide
 rw [p2] at b2
 obtain ⟨y, HY⟩ : ∃ x, Aside0 (Wi.num (r2.take 2) = x) := ⟨_, ⟨rfl⟩⟩
 obtain ⟨r3, HR3'⟩ : ∃ r3, Aside0 (r2.drop 2 = r3) := ⟨_, ⟨rfl⟩⟩
 obtain ⟨nq, HNQ⟩ : ∃ x, Aside0 (r3.length = x) := ⟨_, ⟨rfl⟩⟩
 rw [HY.out] at b2
 rw [HY.out, HR3'.out] at ht HFF
 rw [HNQ.out] at HFF
 simp only [ht, HNQ.out] at hR5 hR6 ⊢
 have HB3R : Aside0 (Wi.Bytes r3) := ⟨fun z hz => HBR2.out z (List.mem_of_mem_drop (by rw [HR3'.out]; exact hz))⟩
 have HNQL : Aside0 (nq ≤ 100000) := ⟨by have e1 := HNQ.out; rw [← HR3'.out, List.length_drop, HDL.out] at e1; have := HNRL.out; have := HL.out; omega⟩
 obtain ⟨ab2, rfl, q0⟩ := Cn.first_ hR5
 have hy0 : 0 ≤ y := b2.1
 have hy1 : y ≤ 65535 := by omega
 have HR6 := az (Kd.R_reads' hR6)
 rw [HNQ.out] at HR6
 clear hb5 hR5 hR6 ht h2 b2 p2
 by_cases hq : (nq : Int) = 2 * y
 rotate_left
 ·rw [if_pos hq] at HFF
  have HE : Aside0 (s = ⟨#[]⟩ ∧ ws = [] ∧ e = 74) := ⟨by have := HFF.out; simp only [Prod.mk.injEq] at this; exact ⟨this.1.symm, this.2.1.symm, this.2.2.symm⟩⟩
  have e1 : ((nq : Int) != 2 * y) = true := by simpa using hq
  go_wp2_with fail
  go_ret3
  obtain ⟨rfl, rfl, rfl⟩ := HE.out
  exact ⟨none, 0, rfl, Kd.R_nil _ _ _ _ _, HB5.out⟩
 rw [if_neg (fun h => h hq)] at HFF
 have HE : Aside0 (s = strOfNums (r1.take m) ∧ ws = Gr.pairs r3 ∧ e = 0) := ⟨by have := HFF.out; simp only [Prod.mk.injEq] at this; exact ⟨this.1.symm, this.2.1.symm, this.2.2.symm⟩⟩
 have e1 : ((nq : Int) != 2 * y) = false := by simpa using hq
 obtain ⟨k, rfl⟩ := Int.eq_ofNat_of_zero_le hy0
 have HNK : Aside0 (nq = 2 * k) := ⟨by omega⟩
 clear hq HFF
 go_wp2_with fail
 clear e1 hy0 hy1 q0
 have HW0 : Aside0 (Kd.R (Kd.int .u16) 44 w5 w5.heap.size (fun _ => True) (.slice none 0 0) ([] : List Int)) := ⟨Kd.R_nil _ _ _ _ _⟩
 have HP0 : Aside0 (([] : List Int) ++ Gr.pairs (r3.drop (2 * 0)) = Gr.pairs r3) := ⟨rfl⟩
 have HL0 : Aside0 (([] : List Int).length = 0) := ⟨rfl⟩
 go_loopw [9, 10] (fun vx ix wr => ∃ (j na ca : Nat) (Aa : Option Addr) (acc : List Int), vx = .slice Aa na ca ∧ ix = .int .i64 (2 * (j : Int) + 1) ∧ j ≤ k ∧ Aside0 (acc.length = j) ∧ Aside0 (na = j) ∧ Aside0 (acc ++ Gr.pairs (r3.drop (2 * j)) = Gr.pairs r3) ∧ Aside0 (Kd.R (Kd.int .u16) 44 wr w5.heap.size (fun _ => True) (.slice Aa na ca) acc) ∧ Aside0 (Below w5.heap.size w5 wr)) (fun _ ix _ => 2 * k + 1 - (intOf ix).toNat)
 case atStart => exact ⟨0, 0, 0, none, [], rfl, rfl, Nat.zero_le _, HL0, ⟨rfl⟩, HP0, HW0, ⟨Below.refl _ _⟩⟩
 case round =>
  clear HW0 HP0 HL0
  obtain ⟨j, na, ca, Aa, acc, rfl, rfl, hj, HAL, HNA, HAP, HRA, HB⟩ := hrel
  have HCR : Aside0 (Kd.C (Kd.int .u8) wr A6 nq r3) := ⟨Kd.C_below HR6.out.2.2 HB.out⟩
  by_cases hjk : j < k
  ·have hlt : 2 * (j : Int) + 1 < (nq : Int) := by have := HNK.out; omega
   have hj5 : (j : Int) ≤ 50000 := by have := HNK.out; have := HNQL.out; omega
   go_wp2_with fail
   obtain ⟨ad, hA6, u0, HU0⟩ : ∃ ad, A6 = some ad ∧ ∃ u : Int, Aside0 (u = Go.Proofs.YtgljicdpcapgnaaGreatDoorW.PrintWords.rd r3 ((2 * j : Nat) : Int) ∧ (0 ≤ u ∧ u ≤ 255) ∧ wr.cell? (ad.add (2 * j)) = some (.int .u8 u)) := by
    obtain ⟨ad, e, hx⟩ := Kd.at_int HCR.out ((2 * j : Nat) : Int) (by omega) (by have := HNK.out; omega)
    rw [Int.toNat_natCast] at hx
    exact ⟨ad, e, _, ⟨rfl, HB3R.out _ (Wi.rd_mem r3 (2 * j) (by rw [HNQ.out]; have := HNK.out; omega)), hx⟩⟩
   obtain ⟨u1, HU1⟩ : ∃ u : Int, Aside0 (u = Go.Proofs.YtgljicdpcapgnaaGreatDoorW.PrintWords.rd r3 ((2 * j + 1 : Nat) : Int) ∧ (0 ≤ u ∧ u ≤ 255) ∧ wr.cell? (ad.add (2 * j + 1)) = some (.int .u8 u)) := by
    obtain ⟨ad', e, hx⟩ := Kd.at_int HCR.out ((2 * j + 1 : Nat) : Int) (by omega) (by have := HNK.out; omega)
    rw [Int.toNat_natCast] at hx
    obtain rfl := Option.some.inj (hA6.symm.trans e)
    exact ⟨_, ⟨rfl, HB3R.out _ (Wi.rd_mem r3 (2 * j + 1) (by rw [HNQ.out]; have := HNK.out; omega)), hx⟩⟩
   subst hA6
   have f1 : IntKind.i64.wrap (2 * (j : Int)) = 2 * (j : Int) := by rw [IntKind.wrap_i64]; omega
   have f2 : (2 * (j : Int)).toNat = 2 * j := by omega
   have f3 : (2 * (j : Int) + 1).toNat = 2 * j + 1 := by omega
   have f4 : 0 ≤ 2 * (j : Int) := by omega
   have f5 : 2 * (j : Int) < (nq : Int) := by omega
   have f6 : 0 ≤ 2 * (j : Int) + 1 := by omega
   refine wp_region_noPanic ?_
   refine Rg.s1 17 (fun w' => Below wr.heap.size wr w') [14, 15] (Below.refl _ _).drew #[false, false, false, false, false, false, false, false, false, false, false, false, false, false, false, false, false] (fun hHeld => ?_)
   refine Rg.p1 0 (.some 70) ?_
   refine Rg.p1 1 (.some 71) ?_
   refine Rg.p1 2 (.some 72) ?_
   refine Rg.p1 3 (.some 73) ?_
   refine Rg.p1 4 (.some 74) ?_
   refine Rg.p1 8 (.some 78) ?_
   refine Rg.p1 9 (.some 79) ?_
   refine Rg.p1 10 (.some 80) ?_
   refine Rg.t1 5 (.some 75) hHeld ?_ (hy := by intro w' hS'; (have c1 := (hS'.cell (World.block_lt_of_cell? _ _ HU0.out.2.2)).trans HU0.out.2.2; go_simp); first | done | with_reducible rfl)
   refine Rg.p1 6 (.some 76) ?_
   refine Rg.p1 7 (.some 77) ?_
   refine Rg.t1 11 (.some 81) hHeld ?_ (hy := by intro w' hS'; (have c1 := (hS'.cell (World.block_lt_of_cell? _ _ HU1.out.2.2)).trans HU1.out.2.2; rw [Addr.add, if_neg (by omega)] at c1; go_simp); first | done | with_reducible rfl)
   refine Rg.p1 12 (.some 82) ?_
   refine Rg.p1 13 (.some 83) ?_
   refine Rg.l1 14 (.some 84) (fun K hK => ?_)
   trace_state
   refine value_ (w1 := wr.drew.alloc (.cells #[.int .u16 (bits .or .u16 (IntKind.u16.wrap ((IntKind.u16.wrap u0) * 256)) (IntKind.u16.wrap u1))] 44)) (v := .slice (some ⟨wr.drew.heap.size, 0, none⟩) 1 1) (by rfl) rfl (by first | (go_simp; done) | (go_simp; rfl)) ?_
   refine hK.out _ _ ?_
   clear hK K
   refine Rg.n1 ?_
   have HBD : Aside0 (Below w5.heap.size w5 wr.drew ∧ w5.heap.size ≤ wr.drew.heap.size) := ⟨HB.out.drew, HB.out.drew.size⟩
   have HRD : Aside0 (Kd.R (Kd.int .u16) 44 wr.drew w5.heap.size (fun _ => True) (.slice Aa na ca) acc) := ⟨Kd.R_below HRA.out (Below.refl _ _).drew⟩
   have HLM : Aside0 ((acc.length + 1) * 2 ≤ 140737488355328) := ⟨by have := HAL.out; omega⟩
   refine Rg.l1 15 (.some 85) (fun K hK => ?_)
   refine Kd.R_append_step (Kd.int .u16) (w0 := w5) (W := wr.drew) w5.heap.size (by rfl) (.tmp 70) (.tmp 84) 134 44 (.int .u16 0) 2 rfl Tryz.underlying134 (by rfl) rfl (by decide) (by omega) (.slice Aa na ca) acc (bits .or .u16 (IntKind.u16.wrap ((IntKind.u16.wrap u0) * 256)) (IntKind.u16.wrap u1)) [.int .u16 (bits .or .u16 (IntKind.u16.wrap ((IntKind.u16.wrap u0) * 256)) (IntKind.u16.wrap u1))] (fun _ => True) (fun _ => False) rfl rfl rfl (fun _ h => h.elim) (fun _ _ => trivial) HRD.out HBD.out.1 HBD.out.2 HLM.out ?_
   intro v1 w6 hr6 hb6 hg6 _
   obtain ⟨A9, c9, rfl⟩ := Kd.R_slice hr6
   have HR9 := az hr6
   have HB9 := az hb6
   have HG9 := az hg6
   clear hr6 hb6 hg6
   refine hK.out _ _ ?_
   clear hK K
   refine Rg.n1 ?_
   refine Rg.p1 16 (.some 9) ?_
   refine Rg.d1 ?_
   refine NoPanic.normal ?_
   have HX : Aside0 (bits .or .u16 (IntKind.u16.wrap ((IntKind.u16.wrap u0) * 256)) (IntKind.u16.wrap u1) = u0 * 256 + u1) := ⟨Gr.or_16 _ _ HU0.out.2.1.1 HU0.out.2.1.2 HU1.out.2.1.1 HU1.out.2.1.2⟩
   rw [HX.out] at HR9
   clear f1 f2 f3 f4 f5 f6
   go_wp2_with fail
   go_roundw
   case rel =>
    refine ⟨j + 1, _, c9, A9, acc ++ [u0 * 256 + u1], rfl, by first | go_num | (push_cast; congr 1; omega), by omega, ⟨by rw [List.length_append, HAL.out]; rfl⟩, ⟨by rw [HAL.out]⟩, ⟨?_⟩, ⟨by have h9 := HR9.out; rw [show (acc ++ [u0 * 256 + u1]).length = acc.length + 1 from by rw [List.length_append]; rfl] at h9; exact h9⟩, HB9⟩
    have e1 := HAP.out
    rw [Gr.pairs_two r3 (2 * j) (by rw [HNQ.out]; have := HNK.out; omega), ← HU0.out.1, ← HU1.out.1] at e1
    rw [List.append_assoc]
    exact e1
   case measure => simp [intOf]; omega
  ·obtain rfl : k = j := by omega
   have hge : ¬ 2 * (k : Int) + 1 < (nq : Int) := by have := HNK.out; omega
   have hj5 : (k : Int) ≤ 50000 := by have := HNK.out; have := HNQL.out; omega
   go_wp2_with fail
   go_ret3
   obtain ⟨rfl, rfl, rfl⟩ := HE.out
   have e1 := HAP.out
   rw [List.drop_of_length_le (by rw [HNQ.out]; have := HNK.out; omega), Gr.pairs, List.append_nil] at e1
   ·subst e1
    obtain rfl : na = (Gr.pairs r3).length := by rw [HNA.out, ← HAL.out]
    exact ⟨Aa, ca, rfl, Kd.R_lower HRA.out HB5.out.size, below_then HB5.out HB5.out.size HB.out⟩
   ·exact fun _ _ _ h => by cases h
end Go.Proofs.YtgljicdpcapgnaaGreatDoor
namespace Go.Proofs.YtgljicdpcapgnaaGreatDoor
open Go.RowKit Go.Proofs.YtgljicdpcapgnaaGreatDoorW.PrintWords Go.Proofs.YtgljicdpcapgnaaGreatDoorW.PrintLast Go.Proofs.YtgljicdpcapgnaaGreatDoorW.PrintMore
theorem Cn.canc_ (W : World) (x : Cn.Ex) : Calls Tryz.prog 107 #[.agg #[.int .u32 x.1, .int .u64 x.2.1, .bool x.2.2]] W fun e' w' => e' = .returned (.int .u64 (Cn.can x.2.2)) ∧ Below W.heap.size W w' := by
 obtain ⟨x0, x1, ro⟩ := x
 have HB := az (below_alloc (Below.refl W.heap.size W) (.cells #[.int .u32 x0, .int .u64 x1, .bool ro] 47))
 cases ro with
 | false =>
  go_enter Tryz.func107, Tryz.ntmps107
  go_wp2_with fail
  go_ret
  exact ⟨rfl, HB.out⟩
 | true =>
  go_enter Tryz.func107, Tryz.ntmps107
  go_wp2_with fail
  go_ret
  exact ⟨rfl, HB.out⟩
theorem Cn.info_ (W : World) (x : Cn.Ex) : Calls Tryz.prog 91 #[.agg #[.int .u32 x.1, .int .u64 x.2.1, .bool x.2.2]] W (Cn.Made W (Cn.info x)) := by
 obtain ⟨x0, x1, ro⟩ := x
 have HSZ : Aside0 ((Tryz.prog.info? 47).map (·.size) = some 3) := ⟨by kernel_rfl⟩
 obtain ⟨wb, HWB⟩ : ∃ wb, Aside0 (W.alloc (.cells #[.int .u32 x0, .int .u64 x1, .bool ro] 47) = wb) := ⟨_, ⟨rfl⟩⟩
 have HBB : Aside0 (Below W.heap.size W wb) := ⟨HWB.out ▸ below_alloc (Below.refl _ _) _⟩
 have HX : Aside0 (Wk.Blk wb W.heap.size 47 [.int .u32 x0, .int .u64 x1, .bool ro]) := ⟨HWB.out ▸ Wk.Blk.new W _ [.int .u32 x0, .int .u64 x1, .bool ro]⟩
 go_enter Tryz.func91, Tryz.ntmps91
 go_wp2_with fail
 rw [HWB.out]
 clear HWB
 refine wp_region_noPanic ?_
 refine Rg.s1 8 (fun w' => Below wb.heap.size wb w') [] (Below.refl _ _).drew #[false, false, false, false, false, false, false, false] (fun hHeld => ?_)
 refine Rg.p1 1 (.some 4) ?_
 refine Rg.t1 2 (.some 5) hHeld ?_ (hy := by intro w' hS'; (have c1 := (HX.out.below_ hS').at_ 1 rfl; go_simp); first | done | with_reducible rfl)
 refine Rg.t1 3 (.some 6) hHeld ?_ (hy := by intro w' hS'; (have hl := Wk.run_load_blk (P := Tryz.prog) 47 W.heap.size 0 [.int .u32 x0, .int .u64 x1, .bool ro] _ (HX.out.below_ hS') rfl Tryz.underlying47 rfl HSZ.out; refine (Wk.exec_load 47 (.tmp 1) rfl _ _ rfl hl).trans ?_); first | done | with_reducible rfl)
 have HH := az hHeld
 generalize hw6 : World.drew _ = w6 at hHeld HH ⊢
 clear hw6
 refine join_ (σ := Nat × Nat) (fuel' := 2) #[true, true, true, true, true, true, false, false] (fun s => [(3, .slice (some ⟨s.1, 0, none⟩) 3 3), (7, .int .u64 (Cn.can ro)), (8, .slice (some ⟨s.2, 0, none⟩) 3 3)]) (fun s w' => Below wb.heap.size wb w' ∧ Kd.C (Kd.int .i64) w' (some ⟨s.1, 0, none⟩) 3 [2, 8, 2] ∧ Kd.C (Kd.int .u64) w' (some ⟨s.2, 0, none⟩) 3 [0, x1, Cn.can ro]) ?_ (fun hJ => ?_)
 rotate_left
 ·refine two_ (i := 0) (j := 4) (Ni := some 3) (Nj := some 7) #[true, true, true, true, false, false, false, false] #[false, true, true, true, true, false, false, false] rfl rfl rfl rfl (by kernel_rfl) (by decide) (by decide) (fun K hK => ?_) (fun K hK => ?_)
  ·refine value_ (w1 := w6.alloc (.cells #[.int .i64 2, .int .i64 8, .int .i64 2] 3)) (v := .slice (some ⟨w6.heap.size, 0, none⟩) 3 3) (by rfl) rfl (by first | (go_simp; done) | (go_simp; rfl)) ?_
   have HC := az (Lit.reads_new w6 #[.int .i64 2, .int .i64 8, .int .i64 2] 3 (0, 0) .i64 [2, 8, 2] rfl (by decide))
   refine hK.out _ _ (below_then hHeld hHeld.size (below_alloc (Below.refl _ _) _)) (fun hHeld => ?_)
   clear hK K
   refine Rg.n1 ?_
   refine Rg.o1 4 (.some 7) (fun K hK => ?_)
   refine call_ 107 #[.agg #[.int .u32 x0, .int .u64 x1, .bool ro]] (by rfl) rfl (by go_simp) ?_
   refine (Cn.canc_ _ (x0, x1, ro)).mono ?_
   rintro e w8 ⟨rfl, hb8⟩
   refine ⟨_, rfl, ?_⟩
   refine hK.out _ _ (below_then hHeld hHeld.size hb8) (fun hHeld => ?_)
   have HC' := az (Kd.C_below HC.out hb8)
   clear hK K
   refine Rg.n1 ?_
   refine Rg.o1 5 (.some 8) (fun K hK => ?_)
   refine value_ (w1 := w8.alloc (.cells #[.int .u64 0, .int .u64 x1, .int .u64 (Cn.can ro)] 45)) (v := .slice (some ⟨w8.heap.size, 0, none⟩) 3 3) (by rfl) rfl (by first | (go_simp; done) | (go_simp; rfl)) ?_
   refine hK.out _ _ (below_then hHeld hHeld.size (below_alloc (Below.refl _ _) _)) (fun hHeld => ?_)
   exact hJ (w6.heap.size, w8.heap.size) _ ⟨hHeld, Kd.C_below HC'.out (below_alloc (Below.refl _ _) _), (Lit.reads_new w8 #[.int .u64 0, .int .u64 x1, .int .u64 (Cn.can ro)] 45 (0, 0) .u64 [0, x1, Cn.can ro] rfl (by simp))⟩
  ·refine call_ 107 #[.agg #[.int .u32 x0, .int .u64 x1, .bool ro]] (by rfl) rfl (by go_simp) ?_
   refine (Cn.canc_ _ (x0, x1, ro)).mono ?_
   rintro e w8 ⟨rfl, hb8⟩
   refine ⟨_, rfl, ?_⟩
   refine hK.out _ _ (below_then hHeld hHeld.size hb8) (fun hHeld => ?_)
   clear hb8
   clear hK K
   refine Rg.n1 ?_
   refine two_ (i := 0) (j := 5) (Ni := some 3) (Nj := some 8) #[true, true, true, true, true, false, false, false] #[false, true, true, true, true, true, false, false] rfl rfl rfl rfl (by kernel_rfl) (by decide) (by decide) (fun K hK => ?_) (fun K hK => ?_)
   ·refine value_ (w1 := w8.alloc (.cells #[.int .i64 2, .int .i64 8, .int .i64 2] 3)) (v := .slice (some ⟨w8.heap.size, 0, none⟩) 3 3) (by rfl) rfl (by first | (go_simp; done) | (go_simp; rfl)) ?_
    have HC := az (Lit.reads_new w8 #[.int .i64 2, .int .i64 8, .int .i64 2] 3 (0, 0) .i64 [2, 8, 2] rfl (by decide))
    refine hK.out _ _ (below_then hHeld hHeld.size (below_alloc (Below.refl _ _) _)) (fun hHeld => ?_)
    generalize hw9 : World.alloc w8 _ = w9 at *
    clear hw9
    clear hK K
    refine Rg.n1 ?_
    refine Rg.o1 5 (.some 8) (fun K hK => ?_)
    refine value_ (w1 := w9.alloc (.cells #[.int .u64 0, .int .u64 x1, .int .u64 (Cn.can ro)] 45)) (v := .slice (some ⟨w9.heap.size, 0, none⟩) 3 3) (by rfl) rfl (by first | (go_simp; done) | (go_simp; rfl)) ?_
    refine hK.out _ _ (below_then hHeld hHeld.size (below_alloc (Below.refl _ _) _)) (fun hHeld => ?_)
    exact hJ (w8.heap.size, w9.heap.size) _ ⟨hHeld, Kd.C_below HC.out (below_alloc (Below.refl _ _) _), (Lit.reads_new w9 #[.int .u64 0, .int .u64 x1, .int .u64 (Cn.can ro)] 45 (0, 0) .u64 [0, x1, Cn.can ro] rfl (by simp))⟩
   ·refine value_ (w1 := w8.alloc (.cells #[.int .u64 0, .int .u64 x1, .int .u64 (Cn.can ro)] 45)) (v := .slice (some ⟨w8.heap.size, 0, none⟩) 3 3) (by rfl) rfl (by first | (go_simp; done) | (go_simp; rfl)) ?_
    have HC := az (Lit.reads_new w8 #[.int .u64 0, .int .u64 x1, .int .u64 (Cn.can ro)] 45 (0, 0) .u64 [0, x1, Cn.can ro] rfl (by simp))
    refine hK.out _ _ (below_then hHeld hHeld.size (below_alloc (Below.refl _ _) _)) (fun hHeld => ?_)
    generalize hw9 : World.alloc w8 _ = w9 at *
    clear hw9
    clear hK K
    refine Rg.n1 ?_
    refine Rg.o1 0 (.some 3) (fun K hK => ?_)
    refine value_ (w1 := w9.alloc (.cells #[.int .i64 2, .int .i64 8, .int .i64 2] 3)) (v := .slice (some ⟨w9.heap.size, 0, none⟩) 3 3) (by rfl) rfl (by first | (go_simp; done) | (go_simp; rfl)) ?_
    refine hK.out _ _ (below_then hHeld hHeld.size (below_alloc (Below.refl _ _) _)) (fun hHeld => ?_)
    exact hJ (w9.heap.size, w8.heap.size) _ ⟨hHeld, (Lit.reads_new w9 #[.int .i64 2, .int .i64 8, .int .i64 2] 3 (0, 0) .i64 [2, 8, 2] rfl (by decide)), Kd.C_below HC.out (below_alloc (Below.refl _ _) _)⟩
 rintro ⟨g, g'⟩ w7 ⟨hHeld, hC7, hC8⟩
 have HC7 := az hC7
 have HC8 := az hC8
 clear hC7 hC8 HH
 refine norm_ (a' := ?_) ?_ ?_
 rotate_left
 ·show Act.put (Act.put (Act.put _ (some 3) _) (some 7) _) (some 8) _ = _
  simp only [Act.put, List.setIfInBounds_toArray, List.set_cons_zero, List.set_cons_succ]
  rfl
 refine Rg.o1 6 (.some 9) (fun K hK => ?_)
 refine call_ 43 #[.slice (some ⟨g, 0, none⟩) 3 3, .slice (some ⟨g', 0, none⟩) 3 3] (by rfl) rfl (by go_simp) ?_
 refine (Cn.pack_ (ws := [2, 8, 2]) (vs := [0, x1, Cn.can ro]) HC7.out rfl (by decide) HC8.out rfl (Nat.le_of_ble_eq_true rfl) (by decide) (Nat.le_of_ble_eq_true rfl)).mono ?_
 rintro e w9 ⟨A9, c9, rfl, hR9, hb9⟩
 refine ⟨_, rfl, ?_⟩
 have HB9 := az (below_then HBB.out HBB.out.size (below_then hHeld hHeld.size hb9))
 have HR9 := az (Kd.R_lower hR9 (Nat.le_trans HBB.out.size hHeld.size))
 refine hK.out _ _ (below_then hHeld hHeld.size hb9) (fun hHeld => ?_)
 clear hK K
 refine Rg.n1 ?_
 refine Rg.p1 7 (.some 2) ?_
 refine Rg.d1 ?_
 refine NoPanic.normal ?_
 go_wp2_with fail
 go_ret
 exact ⟨A9, c9, rfl, HR9.out, HB9.out⟩
theorem Cn.old_ (W : World) (x : Cn.Ex) (sh : Bool) : Calls Tryz.prog 88 #[.agg #[.int .u32 x.1, .int .u64 x.2.1, .bool x.2.2], .bool sh] W (Cn.Made W (Cn.old x sh)) := by
 obtain ⟨x0, x1, ro⟩ := x
 have HSZ : Aside0 ((Tryz.prog.info? 47).map (·.size) = some 3) := ⟨by kernel_rfl⟩
 obtain ⟨wb, HWB⟩ : ∃ wb, Aside0 (W.alloc (.cells #[.int .u32 x0, .int .u64 x1, .bool ro] 47) = wb) := ⟨_, ⟨rfl⟩⟩
 have HBB : Aside0 (Below W.heap.size W wb) := ⟨HWB.out ▸ below_alloc (Below.refl _ _) _⟩
 have HX : Aside0 (Wk.Blk wb W.heap.size 47 [.int .u32 x0, .int .u64 x1, .bool ro]) := ⟨HWB.out ▸ Wk.Blk.new W _ [.int .u32 x0, .int .u64 x1, .bool ro]⟩
 go_enter Tryz.func88, Tryz.ntmps88
 go_wp2_with fail
 rw [HWB.out]
 clear HWB
 refine wp_region_noPanic ?_
 refine Rg.s1 8 (fun w' => Below wb.heap.size wb w') [] (Below.refl _ _).drew #[false, false, false, false, false, false, false, false] (fun hHeld => ?_)
 refine Rg.p1 1 (.some 7) ?_
 refine Rg.t1 2 (.some 8) hHeld ?_ (hy := by intro w' hS'; (have c1 := (HX.out.below_ hS').at_ 1 rfl; go_simp); first | done | with_reducible rfl)
 refine Rg.t1 3 (.some 9) hHeld ?_ (hy := by intro w' hS'; (have hl := Wk.run_load_blk (P := Tryz.prog) 47 W.heap.size 0 [.int .u32 x0, .int .u64 x1, .bool ro] _ (HX.out.below_ hS') rfl Tryz.underlying47 rfl HSZ.out; refine (Wk.exec_load 47 (.tmp 2) rfl _ _ rfl hl).trans ?_); first | done | with_reducible rfl)
 have HH := az hHeld
 generalize hw6 : World.drew _ = w6 at hHeld HH ⊢
 clear hw6
 refine join_ (σ := Nat × Nat) (fuel' := 2) #[true, true, true, true, true, true, false, false] (fun s => [(6, .slice (some ⟨s.1, 0, none⟩) 2 2), (10, .int .u64 (Cn.can ro)), (11, .slice (some ⟨s.2, 0, none⟩) 2 2)]) (fun s w' => Below wb.heap.size wb w' ∧ Kd.C (Kd.int .i64) w' (some ⟨s.1, 0, none⟩) 2 [8, 2] ∧ Kd.C (Kd.int .u64) w' (some ⟨s.2, 0, none⟩) 2 [x1, Cn.can ro]) ?_ (fun hJ => ?_)
 rotate_left
 ·refine two_ (i := 0) (j := 4) (Ni := some 6) (Nj := some 10) #[true, true, true, true, false, false, false, false] #[false, true, true, true, true, false, false, false] rfl rfl rfl rfl (by kernel_rfl) (by decide) (by decide) (fun K hK => ?_) (fun K hK => ?_)
  ·refine value_ (w1 := w6.alloc (.cells #[.int .i64 8, .int .i64 2] 3)) (v := .slice (some ⟨w6.heap.size, 0, none⟩) 2 2) (by rfl) rfl (by first | (go_simp; done) | (go_simp; rfl)) ?_
   have HC := az (Lit.reads_new w6 #[.int .i64 8, .int .i64 2] 3 (0, 0) .i64 [8, 2] rfl (by decide))
   refine hK.out _ _ (below_then hHeld hHeld.size (below_alloc (Below.refl _ _) _)) (fun hHeld => ?_)
   clear hK K
   refine Rg.n1 ?_
   refine Rg.o1 4 (.some 10) (fun K hK => ?_)
   refine call_ 107 #[.agg #[.int .u32 x0, .int .u64 x1, .bool ro]] (by rfl) rfl (by go_simp) ?_
   refine (Cn.canc_ _ (x0, x1, ro)).mono ?_
   rintro e w8 ⟨rfl, hb8⟩
   refine ⟨_, rfl, ?_⟩
   refine hK.out _ _ (below_then hHeld hHeld.size hb8) (fun hHeld => ?_)
   have HC' := az (Kd.C_below HC.out hb8)
   clear hK K
   refine Rg.n1 ?_
   refine Rg.o1 5 (.some 11) (fun K hK => ?_)
   refine value_ (w1 := w8.alloc (.cells #[.int .u64 x1, .int .u64 (Cn.can ro)] 45)) (v := .slice (some ⟨w8.heap.size, 0, none⟩) 2 2) (by rfl) rfl (by first | (go_simp; done) | (go_simp; rfl)) ?_
   refine hK.out _ _ (below_then hHeld hHeld.size (below_alloc (Below.refl _ _) _)) (fun hHeld => ?_)
   exact hJ (w6.heap.size, w8.heap.size) _ ⟨hHeld, Kd.C_below HC'.out (below_alloc (Below.refl _ _) _), (Lit.reads_new w8 #[.int .u64 x1, .int .u64 (Cn.can ro)] 45 (0, 0) .u64 [x1, Cn.can ro] rfl (by simp))⟩
  ·refine call_ 107 #[.agg #[.int .u32 x0, .int .u64 x1, .bool ro]] (by rfl) rfl (by go_simp) ?_
   refine (Cn.canc_ _ (x0, x1, ro)).mono ?_
   rintro e w8 ⟨rfl, hb8⟩
   refine ⟨_, rfl, ?_⟩
   refine hK.out _ _ (below_then hHeld hHeld.size hb8) (fun hHeld => ?_)
   clear hb8
   clear hK K
   refine Rg.n1 ?_
   refine two_ (i := 0) (j := 5) (Ni := some 6) (Nj := some 11) #[true, true, true, true, true, false, false, false] #[false, true, true, true, true, true, false, false] rfl rfl rfl rfl (by kernel_rfl) (by decide) (by decide) (fun K hK => ?_) (fun K hK => ?_)
   ·refine value_ (w1 := w8.alloc (.cells #[.int .i64 8, .int .i64 2] 3)) (v := .slice (some ⟨w8.heap.size, 0, none⟩) 2 2) (by rfl) rfl (by first | (go_simp; done) | (go_simp; rfl)) ?_
    have HC := az (Lit.reads_new w8 #[.int .i64 8, .int .i64 2] 3 (0, 0) .i64 [8, 2] rfl (by decide))
    refine hK.out _ _ (below_then hHeld hHeld.size (below_alloc (Below.refl _ _) _)) (fun hHeld => ?_)
    generalize hw9 : World.alloc w8 _ = w9 at *
    clear hw9
    clear hK K
    refine Rg.n1 ?_
    refine Rg.o1 5 (.some 11) (fun K hK => ?_)
    refine value_ (w1 := w9.alloc (.cells #[.int .u64 x1, .int .u64 (Cn.can ro)] 45)) (v := .slice (some ⟨w9.heap.size, 0, none⟩) 2 2) (by rfl) rfl (by first | (go_simp; done) | (go_simp; rfl)) ?_
    refine hK.out _ _ (below_then hHeld hHeld.size (below_alloc (Below.refl _ _) _)) (fun hHeld => ?_)
    exact hJ (w8.heap.size, w9.heap.size) _ ⟨hHeld, Kd.C_below HC.out (below_alloc (Below.refl _ _) _), (Lit.reads_new w9 #[.int .u64 x1, .int .u64 (Cn.can ro)] 45 (0, 0) .u64 [x1, Cn.can ro] rfl (by simp))⟩
   ·refine value_ (w1 := w8.alloc (.cells #[.int .u64 x1, .int .u64 (Cn.can ro)] 45)) (v := .slice (some ⟨w8.heap.size, 0, none⟩) 2 2) (by rfl) rfl (by first | (go_simp; done) | (go_simp; rfl)) ?_
    have HC := az (Lit.reads_new w8 #[.int .u64 x1, .int .u64 (Cn.can ro)] 45 (0, 0) .u64 [x1, Cn.can ro] rfl (by simp))
    refine hK.out _ _ (below_then hHeld hHeld.size (below_alloc (Below.refl _ _) _)) (fun hHeld => ?_)
    generalize hw9 : World.alloc w8 _ = w9 at *
    clear hw9
    clear hK K
    refine Rg.n1 ?_
    refine Rg.o1 0 (.some 6) (fun K hK => ?_)
    refine value_ (w1 := w9.alloc (.cells #[.int .i64 8, .int .i64 2] 3)) (v := .slice (some ⟨w9.heap.size, 0, none⟩) 2 2) (by rfl) rfl (by first | (go_simp; done) | (go_simp; rfl)) ?_
    refine hK.out _ _ (below_then hHeld hHeld.size (below_alloc (Below.refl _ _) _)) (fun hHeld => ?_)
    exact hJ (w9.heap.size, w8.heap.size) _ ⟨hHeld, (Lit.reads_new w9 #[.int .i64 8, .int .i64 2] 3 (0, 0) .i64 [8, 2] rfl (by decide)), Kd.C_below HC.out (below_alloc (Below.refl _ _) _)⟩
 rintro ⟨g, g'⟩ w7 ⟨hHeld, hC7, hC8⟩
 have HC7 := az hC7
 have HC8 := az hC8
 clear hC7 hC8 HH
 refine norm_ (a' := ?_) ?_ ?_
 rotate_left
 ·show Act.put (Act.put (Act.put _ (some 6) _) (some 10) _) (some 11) _ = _
  simp only [Act.put, List.setIfInBounds_toArray, List.set_cons_zero, List.set_cons_succ]
  rfl
 refine Rg.o1 6 (.some 12) (fun K hK => ?_)
 refine call_ 43 #[.slice (some ⟨g, 0, none⟩) 2 2, .slice (some ⟨g', 0, none⟩) 2 2] (by rfl) rfl (by go_simp) ?_
 refine (Cn.pack_ (ws := [8, 2]) (vs := [x1, Cn.can ro]) HC7.out rfl (by decide) HC8.out rfl (Nat.le_of_ble_eq_true rfl) (by decide) (Nat.le_of_ble_eq_true rfl)).mono ?_
 rintro e w9 ⟨A9, c9, rfl, hR9, hb9⟩
 refine ⟨_, rfl, ?_⟩
 have HB9 := az (below_then HBB.out HBB.out.size (below_then hHeld hHeld.size hb9))
 have HR9 := az (Kd.R_lower hR9 (Nat.le_trans HBB.out.size hHeld.size))
 refine hK.out _ _ (below_then hHeld hHeld.size hb9) (fun hHeld => ?_)
 clear hK K
 refine Rg.n1 ?_
 refine Rg.p1 7 (.some 5) ?_
 refine Rg.d1 ?_
 refine NoPanic.normal ?_
 have HLN := az (Cn.packs_len4 [8, 2] [x1, Cn.can ro] (by simp))
 have HBW : Aside0 (Below W.heap.size W w9) := HB9
 obtain ⟨ls, HLS⟩ : ∃ ls, Aside0 (Wi.packs [8, 2] [x1, Cn.can ro] = ls) := ⟨_, ⟨rfl⟩⟩
 rw [HLS.out] at HR9 HLN ⊢
 cases sh with
 | true =>
  go_wp2_with fail
  go_ret
  refine Cn.made ⟨_, rfl, ?_, HB9.out⟩
  unfold Cn.old
  rw [if_pos rfl, List.append_nil, HLS.out]
  exact HR9.out
 | false =>
  go_wp2_with (at_builtin; refine Kd.R_append_zeros (Kd.int .u8) (w0 := W) W.heap.size rfl (.tmp 15) (.const (.int .i64 124)) 35 3 5 (.int .u8 0) 1 rfl Tryz.underlying35 Tryz.underlying3 (by rfl) rfl (by decide) (by omega) (.slice A9 ls.length c9) ls 0 (124 : Int) (fun _ => True) rfl rfl rfl (fun _ _ => trivial) HR9.out (by omega) HB9.out HB9.out.size (by have := HLN.out; omega) ?_; intro v3 w11 hr3 hb3 hg3 _; have HR11 := az hr3; have HB11 := az hb3; clear hr3 hb3 hg3)
  go_ret
  refine Cn.made ⟨_, rfl, ?_, HB11.out⟩
  unfold Cn.old
  rw [if_neg (by decide), HLS.out]
  exact HR11.out
end Go.Proofs.YtgljicdpcapgnaaGreatDoor
