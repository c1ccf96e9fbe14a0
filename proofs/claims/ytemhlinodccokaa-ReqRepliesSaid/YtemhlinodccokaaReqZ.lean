/- The walk of the law ReqReplies. -/
import Derived.Test.YtemhlinodccokaaReqV
import Derived.Test.YtemhlinodccokaaReqMap
import Derived.Test.YtemhlinodccokaaReqT
import Derived.Test.YtemhlinodccokaaReqS
set_option linter.unusedVariables false
set_option linter.unusedSimpArgs false
namespace Go.Proofs.Ytemhlinodccokaa
open Go.RowKit Go.Proofs.Ytemhlinodccokaa Go.Proofs.Ytemhlinodccokaa.PBase Go.Proofs.YtemhlinodccokaaW.PrintWords Go.Proofs.YtemhlinodccokaaW.PrintLast Go.Proofs.YtemhlinodccokaaW.PrintMore Go.Proofs.Ytemhlinodccokaa.Wi
namespace Rw
/-- a map that came in: it answers look-ups, it has a length -/
def Mp (W : World) (mv : Option Nat) : Prop := ∃ (m : Int → Int) (n : Int), Wi.Map W (.map mv) m ∧ ∀ W' : World, Below W.heap.size W W' → (Builtin.len_ #[41] 3 #[.map mv]).run Try.prog W' = .ok (.int .i64 n) W'
theorem mp_of {H : Type} {enc : TypeId × Value → H} {W : World} {base : Nat} {sp : Nat → Bool} {held : Bool} {fuel : Nat} {mv : Option Nat} {x : DataW H × List MemPlace} (h : DataW.trod enc Try.prog W base sp held fuel 41 (Value.map mv).cells.toList = some x) : Mp W mv := by
  rcases Go.WideElems.open_map Try.underlying41 h with ⟨hcs, hx⟩ | ⟨b, es, clock, n, _, hcs, hb, _, F, hx⟩
  · obtain rfl : mv = none := by simpa [Value.cells] using hcs
    exact ⟨_, 0, Wi.Map_nil W, fun W' _ => Go.Maps.len_nil Try.underlying41 _⟩
  · obtain rfl : mv = some b := by simpa [Value.cells] using hcs
    obtain ⟨D, hown⟩ : ∃ D : DataW H, W.ownsMap Try.prog 25 (plainElem Try.prog 26) b es.size D := ⟨_, World.ownsMap_of_fit (R := plainElem Try.prog 26) hb F (fun x _ z hz => elemAt_plainElem_int Try.underlying26 hz)⟩
    refine ⟨Wi.valOf D, (Go.Maps.size D : Int), Wi.Map_of_owns hown, fun W' hb' => ?_⟩
    have hW := hown.kept (grown_of_below hb' none) (by simp)
    exact hW.len Try.underlying41 _
theorem repls_len (m : Int → Int) : ∀ (N : Nat) (b an cs : List Int) (ds : List (List Int)), b.length ≤ N → (Wi.repls m b an cs ds).1.length ≤ an.length + b.length ∧ (Wi.repls m b an cs ds).2.1.length ≤ cs.length + b.length ∧ (Wi.repls m b an cs ds).2.2.1.length ≤ ds.length + b.length := by
  intro N
  induction N with
  | zero =>
    intro b an cs ds h
    rw [Wi.repls_nil m an cs ds b (by omega)]
    exact ⟨Nat.le_add_right _ _, Nat.le_add_right _ _, Nat.le_add_right _ _⟩
  | succ N ih =>
    intro b an cs ds h
    by_cases h0 : b.length = 0
    · rw [Wi.repls_nil m an cs ds b h0]
      exact ⟨Nat.le_add_right _ _, Nat.le_add_right _ _, Nat.le_add_right _ _⟩
    · by_cases hk : Wi.rpOk m b
      · rw [Wi.repls_good m b an cs ds hk]
        have hlt := Wi.rpRest_lt m b hk
        have := ih (Wi.rpRest m b) (an ++ [Wi.rp1 b]) (cs ++ [Wi.rp2 b]) (ds ++ [Wi.rpData m b]) (by omega)
        simp only [List.length_append, List.length_singleton] at this
        omega
      · rw [Wi.repls_bad m b an cs ds h0 hk]
        exact ⟨Nat.zero_le _, Nat.zero_le _, Nat.zero_le _⟩
/-- a number of a row of numbers of 32 bits -/
theorem num_get {w : World} {A : Option Addr} {n : Nat} {xs : List Int} (h : Kd.C (Kd.int .u32) w A n xs) (i : Nat) (hi : i < xs.length) (hn : xs.length = n) : ∃ ad, A = some ad ∧ w.cell? (ad.add i) = some (.int .u32 xs[i]) := by
  obtain ⟨ad, c, e, _, hK, hc0⟩ := Kd.C_get h (0 : Int) (i : Int) (by omega) (by omega)
  rw [List.getD_eq_getElem?_getD, Int.toNat_natCast, List.getElem?_eq_getElem hi] at hK
  have hK' : c = [.int .u32 xs[i]] := by cases hK; rfl
  subst hK'
  have := hc0 0 _ rfl
  rw [Int.toNat_natCast, show (Kd.int .u32).sz = 1 from rfl, Nat.mul_one, Nat.add_zero] at this
  exact ⟨ad, e, this⟩
end Rw
set_option maxHeartbeats 2000000 in
set_option maxRecDepth 100000 in
theorem reqReplies_.calls (x0 : List Int) (v0 : Value) (mv : Option Nat) (W : World) (hK0 : (Kd.slice 5 (Kd.int .u8)).K W x0 [v0]) (hw0 : x0.length ≤ maxLen ∧ ∀ x ∈ x0, (Lit.int .u8 x).wf = true) (hMp : Rw.Mp W mv) :
    Calls Try.prog 5 #[v0, .map mv] W fun e w' => e = .returned (.bool true) ∧ Below W.heap.size W w' := by
  obtain ⟨A, c, he0, hlc, hC⟩ := hK0
  obtain rfl : v0 = .slice A x0.length c := by simpa using he0
  obtain ⟨mm, nm, hmap, hlen⟩ := hMp
  have HMAP := Aside0.mk hmap
  have HC := Aside0.mk hC
  have HLC := Aside0.mk hlc
  have HBY := Aside0.mk (Rw.bytes_of hw0.2)
  have hl := hlen W (Below.refl _ _)
  obtain ⟨n, HN⟩ : ∃ n, Aside0 (x0.length = n) := ⟨_, ⟨rfl⟩⟩
  rw [HN.out]
  clear hw0 hC hlc he0 hlen hmap
  by_cases h2000 : (n : Int) > 2000
  · go_enter Try.func5, Try.ntmps5
    go_wp2_with fail
    go_ret
    exact ⟨rfl, Below.refl _ _⟩
  by_cases h100 : nm > 100
  · go_enter Try.func5, Try.ntmps5
    go_wp2_with fail
    go_ret
    exact ⟨rfl, Below.refl _ _⟩
  obtain ⟨q, HQ⟩ : ∃ q, Aside0 (Wi.repls mm x0 [] [] [] = q) := ⟨_, ⟨rfl⟩⟩
  have hlenB : x0.length ≤ 1000000 := by rw [HN.out]; omega
  have HLB := Aside0.mk hlenB
  clear hlenB
  go_enter Try.func5, Try.ntmps5
  go_wp2_with fail
  have h1 := replies_.calls mm A c x0 mv W HC.out HLC.out (by have := HLB.out; omega) HBY.out HMAP.out
  rw [HQ.out, HN.out] at h1
  refine h1.mono ?_
  clear h1
  rintro e w1 ⟨v1, v2, v3, rfl, hR1, hR2, hR3, hb1⟩
  obtain ⟨A1, c1, rfl, hl1, hC1⟩ := Kd.R_reads hR1
  obtain ⟨A2, c2, rfl, hl2, hC2⟩ := Kd.R_reads hR2
  obtain ⟨A3, c3, rfl, hl3, hC3⟩ := Kd.R_reads hR3
  obtain ⟨n1, HN1⟩ : ∃ n, Aside0 (q.1.length = n) := ⟨_, ⟨rfl⟩⟩
  obtain ⟨n2, HN2⟩ : ∃ n, Aside0 (q.2.1.length = n) := ⟨_, ⟨rfl⟩⟩
  obtain ⟨n3, HN3⟩ : ∃ n, Aside0 (q.2.2.1.length = n) := ⟨_, ⟨rfl⟩⟩
  obtain ⟨bq, HB⟩ : ∃ b, Aside0 (q.2.2.2 = b) := ⟨_, ⟨rfl⟩⟩
  rw [HN1.out] at hl1 hC1 ⊢
  rw [HN2.out] at hl2 hC2 ⊢
  rw [HN3.out] at hl3 hC3 ⊢
  rw [HB.out]
  have HX := Aside0.mk (And.intro hC1 (And.intro hC2 hC3))
  have HL := Aside0.mk (And.intro hl1 (And.intro hl2 hl3))
  have HB1 := Aside0.mk hb1
  clear hR1 hR2 hR3 hb1 hl1 hl2 hl3 hC1 hC2 hC3 hl
  go_wp2_with fail
  have h1 := refreplies_.calls mm A c x0 (.map mv) w1 (Kd.C_below HC.out HB1.out) HLC.out HLB.out HBY.out (HMAP.out.below HB1.out)
  rw [HQ.out, HN.out] at h1
  refine h1.mono ?_
  clear h1
  rintro e w2 ⟨v4, v5, v6, rfl, hR4, hR5, hR6, hb2⟩
  obtain ⟨A4, c4, rfl, hl4, hC4⟩ := Kd.R_reads hR4
  obtain ⟨A5, c5, rfl, hl5, hC5⟩ := Kd.R_reads hR5
  obtain ⟨A6, c6, rfl, hl6, hC6⟩ := Kd.R_reads hR6
  rw [HN1.out] at hl4 hC4 ⊢
  rw [HN2.out] at hl5 hC5 ⊢
  rw [HN3.out] at hl6 hC6 ⊢
  rw [HB.out]
  have HC1 := Aside0.mk (Kd.C_below HX.out.1 hb2)
  have HC4 := Aside0.mk hC4
  have HB2 := Aside0.mk (below_then HB1.out HB1.out.size hb2)
  have hn2 : n2 < 9223372036854775808 := by have := hC5.2.1; omega
  have hn3 : n3 < 9223372036854775808 := by have := hC6.2.1; omega
  have hnum : n2 < 9223372036854775807 → Calls Try.prog 22 #[.slice A2 n2 c2, .slice A5 n2 c5] w2 fun e w' => e = .returned (.bool true) ∧ Below w2.heap.size w2 w' := fun h => by
    have := samenums_.calls (w := w2) (A := A2) (A' := A5) (c := c2) (c' := c5) (l := q.2.1) (by rw [HN2.out]; exact h) (by rw [HN2.out]; exact Kd.C_below HX.out.2.1 hb2) (by rw [HN2.out]; exact HL.out.2.1) (by rw [HN2.out]; exact hC5) (by rw [HN2.out]; exact hl5)
    rw [HN2.out] at this
    exact this
  have hC3' := Kd.C_below HX.out.2.2 hb2
  have HNUM := Aside0.mk hnum
  have HBLK : Aside0 (∀ w3, Below w2.heap.size w2 w3 → n3 < 9223372036854775807 → Calls Try.prog 23 #[.slice A3 n3 c3, .slice A6 n3 c6] w3 fun e w' => e = .returned (.bool true) ∧ Below w3.heap.size w3 w') := ⟨fun w3 hb h => sameblks_.calls HN3.out h (Kd.C_below hC3' hb) HL.out.2.2 (Kd.C_below hC6 hb) hl6⟩
  have HSM : Aside0 (n2 < 9223372036854775807 ∧ n3 < 9223372036854775807 ∧ n1 < 9223372036854775807) := ⟨by
    have h := Rw.repls_len mm x0.length x0 [] [] [] (Nat.le_refl _)
    rw [HQ.out, HN1.out, HN2.out, HN3.out] at h
    have := HLB.out
    simp only [List.length_nil, Nat.zero_add] at h
    omega⟩
  clear hR4 hR5 hR6 hb2 hl4 hl5 hl6 hC4 hC5 hC6 hC3' hnum hn2 hn3 HX HL HMAP
  go_wp2_with fail
  refine (HNUM.out HSM.out.1).mono ?_
  rintro e w3 ⟨rfl, hb3⟩
  have HB3 := Aside0.mk hb3
  clear hb3
  go_wp2_with fail
  refine (HBLK.out w3 HB3.out HSM.out.2.1).mono ?_
  rintro e w4 ⟨rfl, hb4⟩
  have HB24 := Aside0.mk (below_then HB3.out HB3.out.size hb4)
  clear hb4 HB3 HNUM HBLK
  go_wp2_with fail
  have hn1I : (n1 : Int) < 9223372036854775807 := by have := HSM.out; omega
  go_loopw [13] (fun i wr => ∃ k : Nat, i = .int .i64 k ∧ k ≤ n1 ∧ Aside0 (Below w2.heap.size w2 wr)) (fun i _ => n1 - (intOf i).toNat)
  case atStart => exact ⟨0, rfl, Nat.zero_le _, HB24⟩
  case round =>
    obtain ⟨k, rfl, hk, HBk⟩ := hrel
    clear HB24
    by_cases hlt : k < n1
    · have hltI : (k : Int) < n1 := by omega
      have hki : k < q.1.length := by rw [HN1.out]; exact hlt
      obtain ⟨ad, hA, q1⟩ := Rw.num_get (Kd.C_below HC1.out HBk.out) k hki HN1.out
      obtain ⟨ad2, hA2, q2⟩ := Rw.num_get (Kd.C_below HC4.out HBk.out) k hki HN1.out
      subst hA
      subst hA2
      obtain ⟨y, HY⟩ : ∃ y, Aside0 (q.1[k] = y) := ⟨_, ⟨rfl⟩⟩
      rw [HY.out] at q1 q2
      have HQ1 := Aside0.mk q1
      have HQ2 := Aside0.mk q2
      clear q1 q2
      go_wp2_with fail
      refine wp_region_noPanic ?_
      refine start_ (n := 9) (S := (fun w' => Below wr.heap.size wr w')) (ds := []) #[false, false, false, false, false, false, false, false, false] (by kernel_rfl) rfl rfl (Below.refl _ _).drew (fun hHeld => ?_)
      refine pure_ (i := 0) (N := (some 66)) (v := ?_) (a' := ?_) #[true, false, false, false, false, false, false, false, false] rfl rfl (by kernel_rfl) (fun _ _ _ h => h) (Or.inl ⟨by rfl, ?_⟩) ?_ ?_
      rotate_left
      · intro w'
        go_simp
        with_reducible rfl
      rotate_left
      · simp only [Act.put, List.setIfInBounds_toArray, List.set_cons_zero, List.set_cons_succ]
        rfl
      refine pure_ (i := 1) (N := (some 67)) (v := ?_) (a' := ?_) #[true, true, false, false, false, false, false, false, false] rfl rfl (by kernel_rfl) (fun _ _ _ h => h) (Or.inl ⟨by rfl, ?_⟩) ?_ ?_
      rotate_left
      · intro w'
        go_simp
        with_reducible rfl
      rotate_left
      · simp only [Act.put, List.setIfInBounds_toArray, List.set_cons_zero, List.set_cons_succ]
        rfl
      refine pure_ (i := 2) (N := (some 68)) (v := ?_) (a' := ?_) #[true, true, true, false, false, false, false, false, false] rfl rfl (by kernel_rfl) (fun _ _ _ h => h) (Or.inl ⟨by rfl, ?_⟩) ?_ ?_
      rotate_left
      · intro w'
        go_simp
        with_reducible rfl
      rotate_left
      · simp only [Act.put, List.setIfInBounds_toArray, List.set_cons_zero, List.set_cons_succ]
        rfl
      refine take_ (i := 3) (N := (some 69)) (v := ?_) (a' := ?_) #[true, true, true, true, false, false, false, false, false] rfl rfl (by kernel_rfl) (fun _ _ _ h => h) (Or.inl ⟨by rfl, ?_⟩) hHeld ?_ ?_
      rotate_left
      · intro w' hS'
        (have q1 := (hS'.cell (World.block_lt_of_cell? wr _ HQ1.out)).trans HQ1.out; go_simp)
        with_reducible rfl
      rotate_left
      · simp only [Act.put, List.setIfInBounds_toArray, List.set_cons_zero, List.set_cons_succ]
        rfl
      refine pure_ (i := 4) (N := (some 70)) (v := ?_) (a' := ?_) #[true, true, true, true, true, false, false, false, false] rfl rfl (by kernel_rfl) (fun _ _ _ h => h) (Or.inl ⟨by rfl, ?_⟩) ?_ ?_
      rotate_left
      · intro w'
        go_simp
        with_reducible rfl
      rotate_left
      · simp only [Act.put, List.setIfInBounds_toArray, List.set_cons_zero, List.set_cons_succ]
        rfl
      refine pure_ (i := 5) (N := (some 71)) (v := ?_) (a' := ?_) #[true, true, true, true, true, true, false, false, false] rfl rfl (by kernel_rfl) (fun _ _ _ h => h) (Or.inl ⟨by rfl, ?_⟩) ?_ ?_
      rotate_left
      · intro w'
        go_simp
        with_reducible rfl
      rotate_left
      · simp only [Act.put, List.setIfInBounds_toArray, List.set_cons_zero, List.set_cons_succ]
        rfl
      refine pure_ (i := 6) (N := (some 72)) (v := ?_) (a' := ?_) #[true, true, true, true, true, true, true, false, false] rfl rfl (by kernel_rfl) (fun _ _ _ h => h) (Or.inl ⟨by rfl, ?_⟩) ?_ ?_
      rotate_left
      · intro w'
        go_simp
        with_reducible rfl
      rotate_left
      · simp only [Act.put, List.setIfInBounds_toArray, List.set_cons_zero, List.set_cons_succ]
        rfl
      refine take_ (i := 7) (N := (some 73)) (v := ?_) (a' := ?_) #[true, true, true, true, true, true, true, true, false] rfl rfl (by kernel_rfl) (fun _ _ _ h => h) (Or.inl ⟨by rfl, ?_⟩) hHeld ?_ ?_
      rotate_left
      · intro w' hS'
        (have q1 := (hS'.cell (World.block_lt_of_cell? wr _ HQ2.out)).trans HQ2.out; go_simp)
        with_reducible rfl
      rotate_left
      · simp only [Act.put, List.setIfInBounds_toArray, List.set_cons_zero, List.set_cons_succ]
        rfl
      refine pure_ (i := 8) (N := (some 74)) (v := ?_) (a' := ?_) #[true, true, true, true, true, true, true, true, true] rfl rfl (by kernel_rfl) (fun _ _ _ h => h) (Or.inl ⟨by rfl, ?_⟩) ?_ ?_
      rotate_left
      · intro w'
        go_simp
        with_reducible rfl
      rotate_left
      · simp only [Act.put, List.setIfInBounds_toArray, List.set_cons_zero, List.set_cons_succ]
        rfl
      refine done_ (by kernel_rfl) ?_
      have HBD : Aside0 (Below w2.heap.size w2 wr.drew) := ⟨below_drew HBk.out⟩
      refine NoPanic.normal ?_
      go_wp2_with fail
      go_roundw
      case rel => exact ⟨k + 1, by go_num, by omega, HBD⟩
      case measure => simp [intOf]; omega
    · obtain rfl : n1 = k := by omega
      go_wp2_with fail
      refine (kn_.calls _).mono ?_
      rintro e w5 ⟨rfl, hb5⟩
      go_wp2_with fail
      go_ret
      exact ⟨rfl, below_then HB2.out HB2.out.size (below_then HBk.out HBk.out.size hb5)⟩
#print axioms reqReplies_.calls
end Go.Proofs.Ytemhlinodccokaa
