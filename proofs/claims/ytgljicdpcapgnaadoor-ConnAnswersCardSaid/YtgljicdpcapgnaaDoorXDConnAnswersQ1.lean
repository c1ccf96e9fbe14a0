/- What the law's proof stands on alone: Rg, ConnL2 (laid together by wip/pack.py). -/
import Derived.Test.YtgljicdpcapgnaaDoorXDP6
set_option linter.unusedVariables false
namespace Go.Proofs.YtgljicdpcapgnaaDoor
open Go.RowKit Go.Proofs.YtgljicdpcapgnaaDoorW.PrintWords Go.Proofs.YtgljicdpcapgnaaDoorW.PrintLast
namespace Rg
section
variable {P : Program} {md : Region.Mode} {ops : Array Oper} {Q : Exit → Act → World → Prop} {S : World → Prop} {ds : List Nat}
theorem s1 {id : Nat} {a : Act} {w : World} (n : Nat) (S : World → Prop) (ds : List Nat) (hS : S w.drew) (l : Array Bool) (h : S w.drew → wpAnyLast P .any ops Q S ds n l a w.drew) (hm : P.follows .mixedOrders = true := by kernel_rfl) (hn : ops.size = n := by rfl) (hl : Array.replicate n false = l := by rfl) : (Code.region id ops true).wp P Q a w :=
  start_ l hm hn hl hS h
variable {oi : Oper} {v : Value} {fuel : Nat} {l l' : Array Bool} {a a' : Act} {w : World}
theorem p1 (i : Nat) (N : Option Tmp) (h : wpAnyLast P md ops Q S ds fuel l' a' w) (hl : l.setIfInBounds i true = l' := by simp only [List.setIfInBounds_toArray, List.set_cons_zero, List.set_cons_succ]; rfl) (hi : ops[i]? = some oi := by rfl) (hN : oi.dst = N := by rfl) (hc : anyB md ops l l' i = true := by kernel_rfl) (hQ : ∀ c a w, Q (.panic c) (a.put oi.dst v) w → Q (.panic c) a w := by exact fun _ _ _ h => h)
    (hg : Region.wanted oi (yielded ops a.tmps) = true := by rfl)
    (hy : ∀ w', (execOp a.eval oi).run P w' = .ok (.value v) w' := by intro w'; go_simp; first | done | with_reducible rfl) (ha : a.put N v = a' := by simp only [Act.put, List.setIfInBounds_toArray, List.set_cons_zero, List.set_cons_succ]; rfl) : wpAnyLast P md ops Q S ds (fuel + 1) l a w :=
  pure_ l' hi hN hc hQ (.inl ⟨hg, hy⟩) ha h
theorem u1 (i : Nat) (N : Option Tmp) (h : wpAnyLast P md ops Q S ds fuel l' a' w) (hl : l.setIfInBounds i true = l' := by simp only [List.setIfInBounds_toArray, List.set_cons_zero, List.set_cons_succ]; rfl) (hi : ops[i]? = some oi := by rfl) (hN : oi.dst = N := by rfl) (hc : anyB md ops l l' i = true := by kernel_rfl) (hQ : ∀ c a w, Q (.panic c) (a.put oi.dst undef) w → Q (.panic c) a w := by exact fun _ _ _ h => h)
    (hg : Region.wanted oi (yielded ops a.tmps) = false := by rfl)
    (ha : a.put N undef = a' := by simp only [Act.put, List.setIfInBounds_toArray, List.set_cons_zero, List.set_cons_succ]; rfl) : wpAnyLast P md ops Q S ds (fuel + 1) l a w :=
  pure_ l' hi hN hc hQ (.inr ⟨hg, rfl⟩) ha h
theorem t1 (i : Nat) (N : Option Tmp) (hS : S w) (h : wpAnyLast P md ops Q S ds fuel l' a' w) (hl : l.setIfInBounds i true = l' := by simp only [List.setIfInBounds_toArray, List.set_cons_zero, List.set_cons_succ]; rfl) (hi : ops[i]? = some oi := by rfl) (hN : oi.dst = N := by rfl) (hc : takeB md ops ds l l' i = true := by kernel_rfl) (hQ : ∀ c a w, Q (.panic c) (a.put oi.dst v) w → Q (.panic c) a w := by exact fun _ _ _ h => h)
    (hg : Region.wanted oi (yielded ops a.tmps) = true := by rfl) (hy : ∀ w', S w' → (execOp a.eval oi).run P w' = .ok (.value v) w')
    (ha : a.put N v = a' := by simp only [Act.put, List.setIfInBounds_toArray, List.set_cons_zero, List.set_cons_succ]; rfl) : wpAnyLast P md ops Q S ds (fuel + 1) l a w :=
  take_ l' hi hN hc hQ (.inl ⟨hg, hy⟩) hS ha h
theorem o1 (i : Nat) (N : Option Tmp) (h : ∀ K : Act → World → Prop, Shut (∀ a' w', S w' → (S w' → wpAnyLast P md ops Q S ds fuel l' a' w') → K a' w') → if Region.wanted oi (yielded ops a.tmps) = true then Oper.wp P oi a w K Q else K (a.put N undef) w) (hl : l.setIfInBounds i true = l' := by simp only [List.setIfInBounds_toArray, List.set_cons_zero, List.set_cons_succ]; rfl) (hi : ops[i]? = some oi := by rfl) (hN : oi.dst = N := by rfl) (hc : readyB md ops l l' i = true := by kernel_rfl) (hd : i ∉ ds := by decide) :
    wpAnyLast P md ops Q S ds (fuel + 1) l a w := one_ l' hi hN hc hd h
theorem l1 (i : Nat) (N : Option Tmp) (h : ∀ K : Act → World → Prop, Shut (∀ a' w', wpAnyLast P md ops Q S ds fuel l' a' w' → K a' w') → if Region.wanted oi (yielded ops a.tmps) = true then Oper.wp P oi a w K Q else K (a.put N undef) w) (hl : l.setIfInBounds i true = l' := by simp only [List.setIfInBounds_toArray, List.set_cons_zero, List.set_cons_succ]; rfl) (hi : ops[i]? = some oi := by rfl) (hN : oi.dst = N := by rfl) (hc : readyB md ops l l' i = true := by kernel_rfl) (hd : i ∈ ds := by decide) :
    wpAnyLast P md ops Q S ds (fuel + 1) l a w := last_ l' hi hN hc hd h
theorem n1 (h : wpAnyLast P md ops Q S ds fuel l a' w) (ha : a = a' := by simp only [Act.put, List.setIfInBounds_toArray, List.set_cons_zero, List.set_cons_succ]; rfl) : wpAnyLast P md ops Q S ds fuel l a w := norm_ ha h
theorem d1 (h : Q .normal a w) (hr : (Region.ready md ops l == []) = true := by kernel_rfl) : wpAnyLast P md ops Q S ds fuel l a w := done_ hr h
end
end Rg
end Go.Proofs.YtgljicdpcapgnaaDoor
set_option linter.unusedVariables false
set_option linter.unusedSimpArgs false
namespace Go.Proofs.YtgljicdpcapgnaaDoor
open Go.RowKit Go.Proofs.YtgljicdpcapgnaaDoor.PBase Go.Proofs.YtgljicdpcapgnaaDoorW.PrintWords Go.Proofs.YtgljicdpcapgnaaDoorW.PrintLast Go.Proofs.YtgljicdpcapgnaaDoorW.PrintMore
namespace Cn
theorem four_join (K : Int) (h : 0 ≤ K ∧ K < 4294967296) : Go.bits .or .u32 (Go.bits .or .u32 (Go.bits .or .u32 (IntKind.u32.wrap (IntKind.u32.wrap (K / 16777216 % 256) * 16777216)) (IntKind.u32.wrap (IntKind.u32.wrap (K / 65536 % 256) * 65536))) (IntKind.u32.wrap (IntKind.u32.wrap (K / 256 % 256) * 256))) (IntKind.u32.wrap (K % 256)) = K := by
  have b0 : 0 ≤ K % 256 ∧ K % 256 < 256 := by omega
  have b1 : 0 ≤ K / 256 % 256 ∧ K / 256 % 256 < 256 := by omega
  have b2 : 0 ≤ K / 65536 % 256 ∧ K / 65536 % 256 < 256 := by omega
  have b3 : 0 ≤ K / 16777216 % 256 ∧ K / 16777216 % 256 < 256 := by omega
  have hs : K = ((K / 16777216 % 256 * 256 + K / 65536 % 256) * 256 + K / 256 % 256) * 256 + K % 256 := by omega
  generalize K % 256 = a at *
  generalize K / 256 % 256 = b at *
  generalize K / 65536 % 256 = c at *
  generalize K / 16777216 % 256 = d at *
  rw [Bt.wraps_u32 a (by omega) (by omega), Bt.wraps_u32 b (by omega) (by omega), Bt.wraps_u32 c (by omega) (by omega), Bt.wraps_u32 d (by omega) (by omega), Bt.wraps_u32 (b * 256) (by omega) (by omega), Bt.wraps_u32 (c * 65536) (by omega) (by omega), Bt.wraps_u32 (d * 16777216) (by omega) (by omega),
    Bt.or_u32 24 (d * 16777216) (c * 65536) (by omega) (by omega) (by omega) (by omega) (by omega) (by omega), Bt.or_u32 16 (d * 16777216 + c * 65536) (b * 256) (by omega) (by omega) (by omega) (by omega) (by omega) (by omega), Bt.or_u32 8 (d * 16777216 + c * 65536 + b * 256) a (by omega) (by omega) (by omega) (by omega) (by omega) (by omega)]
  omega
def stA (s : List Int) : St := ⟨64, [], s, 2, ex0, false, []⟩
end Cn
set_option maxHeartbeats 8000000 in
set_option maxRecDepth 100000 in
theorem connAnswers_.calls (x0 : List Int) (v0 : Value) (x1 : List Int) (v1 : Value) (W : World) (hk : Sh.Ks W) (hK0 : (Kd.slice 33 (Kd.int .u32)).K W x0 [v0]) (hw0 : x0.length ≤ maxLen ∧ ∀ x ∈ x0, (Lit.int .u32 x).wf = true) (hK1 : (Kd.slice 5 (Kd.int .u8)).K W x1 [v1]) (hw1 : x1.length ≤ maxLen ∧ ∀ x ∈ x1, (Lit.int .u8 x).wf = true) :
  Calls Tryd.prog 3 #[v0, v1] W fun e w' => e = .returned (.bool true) ∧ Below W.heap.size W w' := by
 obtain ⟨A0, c0, he0, hlc0, hC0⟩ := hK0
 obtain rfl : v0 = .slice A0 x0.length c0 := by simpa using he0
 obtain ⟨A1, c1, he1, hlc1, hC1⟩ := hK1
 obtain rfl : v1 = .slice A1 x1.length c1 := by simpa using he1
 have HK := Aside0.mk hk
 have HC0 := Aside0.mk hC0
 have HC1 := Aside0.mk hC1
 have HBY := Aside0.mk (Ps.bytes_of hw1.2)
 have HLC := Aside0.mk hlc1
 have HW0 := Aside0.mk hw0.2
 obtain ⟨m, HM⟩ : ∃ n, Aside0 (x0.length = n) := ⟨_, ⟨rfl⟩⟩
 rw [HM.out] at hlc0 ⊢
 obtain ⟨n, HN⟩ : ∃ n, Aside0 (x1.length = n) := ⟨_, ⟨rfl⟩⟩
 rw [HN.out] at HLC ⊢
 have HZ : Aside0 (∀ x ∈ ([] : List Ps.Tn), Ps.TnWf x) := ⟨fun x hx => by cases hx⟩
 clear hw0 hw1 hC1 he1 hk hlc1 hlc0 hC0 he0
 go_enter Tryd.func3, Tryd.ntmps3
 by_cases h3 : (m : Int) > 30
 ·skip
  go_wp2_with fail
  refine (knownc_.calls W HK.out).mono ?_
  rintro e w1 ⟨rfl, hb1⟩
  have HB1 := Aside0.mk hb1
  clear hb1
  go_wp2_with fail
  go_ret
  exact ⟨rfl, HB1.out⟩
 by_cases h2 : (n : Int) > 200
 ·skip
  go_wp2_with fail
  refine (knownc_.calls W HK.out).mono ?_
  rintro e w1 ⟨rfl, hb1⟩
  have HB1 := Aside0.mk hb1
  clear hb1
  go_wp2_with fail
  go_ret
  exact ⟨rfl, HB1.out⟩
 have HM3 : Aside0 (m ≤ 30) := ⟨by omega⟩
 have HN3 : Aside0 (n ≤ 200) := ⟨by omega⟩
 go_wp2_with fail
 refine (knownc_.calls W HK.out).mono ?_
 rintro e w1 ⟨rfl, hb1⟩
 have HB1 := Aside0.mk hb1
 clear hb1 h3 h2
 go_wp2_with fail
 refine (tables_.calls (A := none) (n := 0) (c := 0) (l := []) (Kd.C_nil _ _) rfl HZ.out).mono ?_
 intro e w2 hpost
 obtain ⟨hb2, tb, q, rfl, ht⟩ := Cn.TabNone hpost
 have HB2 := Aside0.mk (below_then HB1.out HB1.out.size hb2)
 have HX := Aside0.mk (Cn.Ctx.new (HK.out.below HB2.out) ht HZ.out)
 clear hpost hb2 ht
 go_wp2_with fail
 refine (newconn_.calls w2 tb 64).mono ?_
 rintro e w6 ⟨d, rfl, hd6, hb6⟩
 have HD6 := Aside0.mk hd6
 have HB6 := Aside0.mk hb6
 clear hd6 hb6
 have HB7 : Aside0 (Below w6.heap.size w6 (w6.alloc (.cells #[.int .u8 0, .int .u8 0, .int .u8 0, .int .u8 1] 5))) := ⟨below_alloc (Below.refl _ _) _⟩
 have HR7 : Aside0 (Kd.C (Kd.int .u8) (w6.alloc (.cells #[.int .u8 0, .int .u8 0, .int .u8 0, .int .u8 1] 5)) (some ⟨w6.heap.size, 0, none⟩) ([0, 0, 0, 1] : List Int).length [0, 0, 0, 1]) := ⟨Lit.reads_new w6 _ _ _ .u8 [0, 0, 0, 1] rfl (by simp)⟩
 go_wp2_with fail
 have HB7W := Aside0.mk (below_then HB6.out HB6.out.size HB7.out)
 refine (feedc_.calls HX.out (HD6.out.below HB7.out) (fun k hk => Nat.le_trans HB6.out.size (Nat.le_trans HB7.out.size hk)) (Cn.new_ok 64 (by decide)) HB7W.out (fun k hk => hk) (by have := Cn.hello_len; show Cn.hello.length ≤ _; omega) HR7.out rfl (by decide) (Cn.bytes_lit _ (by decide))).mono ?_
 rintro e w8 ⟨rfl, hd8, hf8⟩
 rw [Cn.feed_0] at hd8
 have HD8 := Aside0.mk hd8
 have HB8 := Aside0.mk (hf8.below HB7W.out HB7W.out.size (fun k hk => hk))
 clear hd8 hf8
 go_wp2_with fail
 refine (out_.calls HD8.out).mono ?_
 rintro e w9 ⟨A9, n9, rfl, -, hd9, hf9⟩
 rw [show Cn.out Cn.st0 = Cn.stA [] from rfl] at hd9
 have HD9 := Aside0.mk hd9
 have HB9 := Aside0.mk (hf9.below HB8.out HB8.out.size (fun k hk => hk))
 clear hd9 hf9
 go_wp2_with fail
 go_loopw [9] (fun ix wr => ∃ (i : Nat), ix = .int .i64 i ∧ i ≤ m ∧ Aside0 (Cn.Cn wr (fun k => w2.heap.size ≤ k) d tb (Cn.stA [])) ∧ Aside0 (Below w2.heap.size w2 wr)) (fun ix _ => m - (intOf ix).toNat)
 case atStart => exact ⟨0, rfl, Nat.zero_le _, HD9, HB9⟩
 case round =>
  clear HD6 HB6 HB7 HR7 HB7W HD8 HB8 HD9 HB9
  obtain ⟨i, rfl, hi, HD, HB⟩ := hrel
  by_cases hlt : i < m
  ·have hltI : (i : Int) < m := by omega
   have hi30 : (i : Int) < 30 := by have := HM3.out; omega
   have HBW := Aside0.mk (below_then HB2.out HB2.out.size HB.out)
   obtain ⟨ad, hA, k, HKR, hcell⟩ : ∃ ad, A0 = some ad ∧ ∃ k : Int, Aside0 (0 ≤ k ∧ k < 4294967296) ∧ wr.cell? (ad.add i) = some (.int .u32 k) := by
    obtain ⟨ad, e, hx⟩ := Kd.at_int HC0.out (i : Int) (by omega) (by rw [HM.out]; omega)
    rw [Int.toNat_natCast] at hx
    refine ⟨ad, e, _, ⟨?_⟩, (HBW.out.cell (World.block_lt_of_cell? _ _ hx)).trans hx⟩
    have hi' : i < x0.length := by rw [HM.out]; exact hlt
    exact Ps.of32 (HW0.out _ (Wi.rd_mem x0 i hi'))
   subst hA
   by_cases hk1 : k = 1
   ·subst hk1
    go_wp2_with fail
    exact ⟨⟨i + 1, by simp, by omega, HD, HB⟩, by simp [intOf]; omega⟩
   by_cases hk2 : k = 2
   ·subst hk2
    go_wp2_with fail
    exact ⟨⟨i + 1, by simp, by omega, HD, HB⟩, by simp [intOf]; omega⟩
   have HKN := Aside0.mk (And.intro hk1 hk2)
   have e1 : (k == 1) = false := by simpa using hk1
   have e2 : (k == 2) = false := by simpa using hk2
   clear hk1 hk2
   have HRN : Aside0 (Kd.R (Kd.int .u8) 5 (wr.alloc (.cells #[.int .u8 73, .int .u8 72, .int .u8 65, .int .u8 86, .int .u8 69, .int .u8 79, .int .u8 80, .int .u8 84, .int .u8 (k / 16777216 % 256), .int .u8 (k / 65536 % 256), .int .u8 (k / 256 % 256), .int .u8 (k % 256), .int .u8 0, .int .u8 0, .int .u8 0, .int .u8 ((n : Int) % 256)] 5)) 0 (fun j => wr.heap.size ≤ j) (.slice (some ⟨wr.heap.size, 0, none⟩) 16 16) (Cn.opt k n)) := ⟨by
    have h := Cn.R_new wr (Cn.opt k ((n : Int) % 256)) (by rw [Cn.opt_len]; decide) (ok := fun j => wr.heap.size ≤ j) (Nat.le_refl _)
    rw [show Cn.opt k n = Cn.opt k ((n : Int) % 256) from by have := HN3.out; rw [Int.emod_eq_of_lt (by omega) (by omega)]]
    exact h⟩
   have HCM : Aside0 (Kd.C (Kd.int .u8) wr A1 n x1) := ⟨by have := Kd.C_below HC1.out HBW.out; rwa [HN.out] at this⟩
   have HAL : ∀ o : Obj, Aside0 (Below wr.heap.size wr (wr.alloc o)) := fun o => ⟨below_alloc (Below.refl _ _) _⟩
   go_wp2_with (at_builtin; refine Kd.R_append_rows (Kd.int .u8) (w0 := wr) 0 rfl (.tmp 70) (.tmp 71) 23 5 (.int .u8 0) 1 rfl Tryd.underlying23 Cn.infoByte rfl (by decide) (by omega) (.slice (some ⟨wr.heap.size, 0, none⟩) 16 16) (Cn.opt k n) x1 A1 n c1 (fun j => wr.heap.size ≤ j) (fun _ => False) rfl rfl HRN.out (Kd.C_below HCM.out (HAL _).out) (fun _ _ h => h) (fun _ h => h.elim) (fun j hj => Nat.le_trans (HAL _).out.size hj) ((HAL _).out.mono (Nat.zero_le _)) (Nat.zero_le _) (by rw [Cn.opt_len]; have := HN3.out; omega) ?_; intro v3 w3 hr3 _ hg3 hat3; obtain ⟨A3, c3, hv3⟩ := Kd.R_slice hr3; rw [show (Cn.opt k n ++ x1).length = 16 + n from by rw [List.length_append, Cn.opt_len, HN.out]] at hv3; subst hv3; have HR3 := Aside0.mk hr3; have HG3 := Aside0.mk hg3; clear hr3 hg3 hat3 hcell)
   have HB3 : Aside0 (Below wr.heap.size wr w3) := ⟨(HAL _).out.grown HG3.out (HAL _).out.size (fun k hk => by cases hk; exact Nat.le_refl _)⟩
   have HB3W := Aside0.mk (below_then HB.out HB.out.size HB3.out)
   have HRR := Aside0.mk (Kd.R_reads' HR3.out)
   have HL3 : Aside0 ((Cn.opt k n ++ x1).length = 16 + n) := ⟨by rw [List.length_append, Cn.opt_len, HN.out]⟩
   clear HG3 HR3 HRN HCM HAL
   refine (feedc_.calls HX.out (HD.out.below HB3.out) (fun j hj => Nat.le_trans HB3W.out.size hj) (Cn.lit_ok _ rfl rfl (by decide)) HB3W.out (fun j hj => hj) (Nat.zero_le _) HRR.out.2.2 HL3.out HRR.out.2.1 (fun x hx => (List.mem_append.1 hx).elim (Cn.opt_bytes k n (by have := HN3.out; omega) x) (HBY.out x))).mono ?_
   rintro e w4 ⟨rfl, hd4, hf4⟩
   rw [← HN.out, Cn.feed_bare (Cn.stA []) k x1 (Cn.lit_ok _ rfl rfl (by decide)) rfl rfl HKR.out HKN.out.1 HKN.out.2 (by rw [HN.out]; have := HN3.out; omega) HBY.out] at hd4
   have HD4 := Aside0.mk hd4
   have HB4 := Aside0.mk (hf4.below HB3W.out HB3W.out.size (fun j hj => hj))
   clear hd4 hf4
   go_wp2_with fail
   refine (out_.calls HD4.out).mono ?_
   rintro e w5 ⟨A5, n5, rfl, hr5, hd5, hf5⟩
   obtain ⟨K, HKD⟩ : ∃ K, Aside0 (Cn.kindOf k x1 = K) := ⟨_, ⟨rfl⟩⟩
   have HKG := Aside0.mk (Cn.kind_range k x1)
   have HK67 := Aside0.mk (Cn.kind_67 k x1)
   have HSE : Aside0 ((Cn.stA []).send ++ Cn.rep k (Cn.kindOf k x1) [] = [0, 3, 232, 137, 4, 85, 101, 169, k / 16777216 % 256, k / 65536 % 256, k / 256 % 256, k % 256, K / 16777216 % 256, K / 65536 % 256, K / 256 % 256, K % 256, 0, 0, 0, 0]) := ⟨by rw [HKD.out]; exact Cn.rep_is k K⟩
   change Kd.R _ _ _ _ _ (.slice A5 ((Cn.stA []).send ++ Cn.rep k (Cn.kindOf k x1) []).length n5) ((Cn.stA []).send ++ Cn.rep k (Cn.kindOf k x1) []) at hr5
   change Cn.Cn _ _ _ _ (Cn.stA []) at hd5
   rw [HSE.out] at hr5
   rw [show ({ Cn.stA [] with send := (Cn.stA []).send ++ Cn.rep k (Cn.kindOf k x1) [] } : Cn.St).send.length = 20 from by show ((Cn.stA []).send ++ Cn.rep k (Cn.kindOf k x1) []).length = 20; rw [HSE.out]; rfl]
   rw [HKD.out] at HKG HK67
   change Kd.R _ _ _ _ _ (.slice A5 20 n5) _ at hr5
   obtain ⟨ob, cap5, he5, -⟩ := Kd.R_form hr5 (by show 0 < 20; decide)
   replace he5 := (Value.slice.inj he5).1
   subst he5
   have HRD5 := Aside0.mk (Kd.R_reads' hr5)
   have HB5 := Aside0.mk (hf5.below HB4.out HB4.out.size (fun j hj => hj))
   have HD5 := Aside0.mk hd5
   clear hr5 hf5 hd5 HSE
   have q8 : w5.cell? ⟨ob, 8, none⟩ = some (.int .u8 (k / 16777216 % 256)) := by obtain ⟨ad, h1, h2⟩ := Kd.at_int HRD5.out.2.2 8 (by decide) (by show (8 : Int) < 20; decide); obtain rfl := Option.some.inj h1; exact h2
   have q11 : w5.cell? ⟨ob, 11, none⟩ = some (.int .u8 (k % 256)) := by obtain ⟨ad, h1, h2⟩ := Kd.at_int HRD5.out.2.2 11 (by decide) (by show (11 : Int) < 20; decide); obtain rfl := Option.some.inj h1; exact h2
   have q12 : w5.cell? ⟨ob, 12, none⟩ = some (.int .u8 (K / 16777216 % 256)) := by obtain ⟨ad, h1, h2⟩ := Kd.at_int HRD5.out.2.2 12 (by decide) (by show (12 : Int) < 20; decide); obtain rfl := Option.some.inj h1; exact h2
   have q13 : w5.cell? ⟨ob, 13, none⟩ = some (.int .u8 (K / 65536 % 256)) := by obtain ⟨ad, h1, h2⟩ := Kd.at_int HRD5.out.2.2 13 (by decide) (by show (13 : Int) < 20; decide); obtain rfl := Option.some.inj h1; exact h2
   have q14 : w5.cell? ⟨ob, 14, none⟩ = some (.int .u8 (K / 256 % 256)) := by obtain ⟨ad, h1, h2⟩ := Kd.at_int HRD5.out.2.2 14 (by decide) (by show (14 : Int) < 20; decide); obtain rfl := Option.some.inj h1; exact h2
   have q15 : w5.cell? ⟨ob, 15, none⟩ = some (.int .u8 (K % 256)) := by obtain ⟨ad, h1, h2⟩ := Kd.at_int HRD5.out.2.2 15 (by decide) (by show (15 : Int) < 20; decide); obtain rfl := Option.some.inj h1; exact h2
   have HQ12 := Aside0.mk q12
   have HQ13 := Aside0.mk q13
   have HQ14 := Aside0.mk q14
   have HQ15 := Aside0.mk q15
   have HQ8 := Aside0.mk q8
   have HQ11 := Aside0.mk q11
   clear q8 q11 q12 q13 q14 q15
   go_wp2_with fail
   refine (state_.calls HD5.out).mono ?_
   rintro e w6 ⟨rfl, hb6⟩
   rw [show (Cn.stA []).st = 2 from rfl]
   have q8 : w6.cell? ⟨ob, 8, none⟩ = some (.int .u8 (k / 16777216 % 256)) := (hb6.cell (World.block_lt_of_cell? _ _ HQ8.out)).trans HQ8.out
   have q11 : w6.cell? ⟨ob, 11, none⟩ = some (.int .u8 (k % 256)) := (hb6.cell (World.block_lt_of_cell? _ _ HQ11.out)).trans HQ11.out
   have HB6 := Aside0.mk hb6
   have HD6 := Aside0.mk (HD5.out.below hb6)
   clear hb6
   go_wp2_with fail
   refine wp_region_noPanic ?_
   refine Rg.s1 23 (fun w' => Below w6.heap.size w6 w') [] (Below.refl _ _).drew #[false, false, false, false, false, false, false, false, false, false, false, false, false, false, false, false, false, false, false, false, false, false, false] (fun hHeld => ?_)
   refine Rg.p1 0 (.some 103) ?_
   refine Rg.p1 1 (.some 104) ?_
   refine Rg.t1 2 (.some 105) hHeld ?_ (hy := by intro w' hS'; (have c1 := ((HB6.out.trans (hS'.mono HB6.out.size)).cell (World.block_lt_of_cell? _ _ HQ12.out)).trans HQ12.out; go_simp); first | done | with_reducible rfl)
   refine Rg.p1 3 (.some 106) ?_
   refine Rg.p1 4 (.some 107) ?_
   refine Rg.p1 5 (.some 108) ?_
   refine Rg.p1 6 (.some 109) ?_
   refine Rg.t1 7 (.some 110) hHeld ?_ (hy := by intro w' hS'; (have c1 := ((HB6.out.trans (hS'.mono HB6.out.size)).cell (World.block_lt_of_cell? _ _ HQ13.out)).trans HQ13.out; go_simp); first | done | with_reducible rfl)
   refine Rg.p1 8 (.some 111) ?_
   refine Rg.p1 9 (.some 112) ?_
   refine Rg.p1 10 (.some 113) ?_
   refine Rg.p1 11 (.some 114) ?_
   refine Rg.p1 12 (.some 115) ?_
   refine Rg.t1 13 (.some 116) hHeld ?_ (hy := by intro w' hS'; (have c1 := ((HB6.out.trans (hS'.mono HB6.out.size)).cell (World.block_lt_of_cell? _ _ HQ14.out)).trans HQ14.out; go_simp); first | done | with_reducible rfl)
   refine Rg.p1 14 (.some 117) ?_
   refine Rg.p1 15 (.some 118) ?_
   refine Rg.p1 16 (.some 119) ?_
   refine Rg.p1 17 (.some 120) ?_
   refine Rg.p1 18 (.some 121) ?_
   refine Rg.t1 19 (.some 122) hHeld ?_ (hy := by intro w' hS'; (have c1 := ((HB6.out.trans (hS'.mono HB6.out.size)).cell (World.block_lt_of_cell? _ _ HQ15.out)).trans HQ15.out; go_simp); first | done | with_reducible rfl)
   refine Rg.p1 20 (.some 123) ?_
   refine Rg.p1 21 (.some 124) ?_
   refine Rg.p1 22 (.some 13) ?_
   refine Rg.d1 ?_
   refine NoPanic.normal ?_
   rw [Cn.four_join K HKG.out]
   have HD7 : Aside0 (Cn.Cn w6.drew (fun j => w2.heap.size ≤ j) d tb (Cn.stA [])) := ⟨HD6.out.below (Below.refl _ _).drew⟩
   have HB7 : Aside0 (Below w2.heap.size w2 w6.drew) := ⟨(below_then HB5.out HB5.out.size HB6.out).drew⟩
   clear q8 q11
   by_cases hk3 : k = 3
   ·subst hk3
    by_cases hn0 : n = 0
    ·have e0 : ((n : Int) == 0) = true := by subst hn0; rfl
     obtain rfl : K = 1 := by rw [← HKD.out]; unfold Cn.kindOf; rw [if_pos rfl, if_neg (by rw [HN.out]; omega)]
     clear hn0
     go_wp2_with fail
     exact ⟨⟨i + 1, by simp, by omega, HD7, HB7⟩, by simp [intOf]; omega⟩
    ·have e0 : ((n : Int) == 0) = false := by rw [beq_eq_false_iff_ne]; omega
     obtain rfl : K = 2147483651 := by rw [← HKD.out]; unfold Cn.kindOf; rw [if_pos rfl, if_pos (by rw [HN.out]; omega)]
     clear hn0
     go_wp2_with fail
     exact ⟨⟨i + 1, by simp, by omega, HD7, HB7⟩, by simp [intOf]; omega⟩
   have e3 : (k == 3) = false := by simpa using hk3
   by_cases hk6 : k = 6 ∨ k = 7
   ·have hK := HK67.out hk6
    rcases hk6 with rfl | rfl
    ·rcases hK with rfl | rfl
     ·clear hk3
      go_wp2_with fail
      exact ⟨⟨i + 1, by simp, by omega, HD7, HB7⟩, by simp [intOf]; omega⟩
     ·clear hk3
      go_wp2_with fail
      exact ⟨⟨i + 1, by simp, by omega, HD7, HB7⟩, by simp [intOf]; omega⟩
    ·rcases hK with rfl | rfl
     ·clear hk3
      go_wp2_with fail
      exact ⟨⟨i + 1, by simp, by omega, HD7, HB7⟩, by simp [intOf]; omega⟩
     ·clear hk3
      go_wp2_with fail
      exact ⟨⟨i + 1, by simp, by omega, HD7, HB7⟩, by simp [intOf]; omega⟩
   have e6 : (k == 6) = false := by rw [beq_eq_false_iff_ne]; omega
   have e7 : (k == 7) = false := by rw [beq_eq_false_iff_ne]; omega
   obtain rfl : K = 2147483649 := by rw [← HKD.out]; unfold Cn.kindOf; rw [if_neg hk3, if_neg hk6]
   clear hk3 hk6
   go_wp2_with fail
   exact ⟨⟨i + 1, by simp, by omega, HD7, HB7⟩, by simp [intOf]; omega⟩
  ·obtain rfl : m = i := by omega
   go_wp2_with fail
   go_ret
   exact ⟨rfl, below_then HB2.out HB2.out.size HB.out⟩
end Go.Proofs.YtgljicdpcapgnaaDoor
