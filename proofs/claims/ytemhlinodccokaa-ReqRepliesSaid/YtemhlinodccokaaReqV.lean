/- SameNumbers and SameBlocks of equal lists. -/
import Derived.Test.YtemhlinodccokaaReqW
set_option linter.unusedVariables false
set_option linter.unusedSimpArgs false
namespace Go.Proofs.Ytemhlinodccokaa
open Go.RowKit Go.Proofs.Ytemhlinodccokaa Go.Proofs.Ytemhlinodccokaa.PBase Go.Proofs.YtemhlinodccokaaW.PrintWords Go.Proofs.YtemhlinodccokaaW.PrintLast Go.Proofs.YtemhlinodccokaaW.PrintMore Go.Proofs.Ytemhlinodccokaa.Wi
namespace Rw
theorem nums_l (l : List Int) (hl : l.length < 9223372036854775807) : ∀ k i : Nat, i ≤ l.length → l.length - i < k → coamingref00_SameNumbers.l0 k l l i = some true
  | 0, _, _, h => absurd h (by omega)
  | k + 1, i, hi, h => by
    unfold coamingref00_SameNumbers.l0
    rcases Nat.lt_or_ge i l.length with hlt | hge
    · rw [if_pos (by omega), if_pos (by omega), if_pos (by omega), if_pos rfl, show wrap64 ((i : Int) + 1) = ((i + 1 : Nat) : Int) from by unfold wrap64; omega]
      exact nums_l l hl k (i + 1) hlt (by omega)
    · rw [if_neg (by omega)]
theorem nums_f (l : List Int) (hl : l.length < 9223372036854775807) : coamingref00_SameNumbers.f (l.length + 1) l l = some true := by
  unfold coamingref00_SameNumbers.f
  rw [if_pos rfl]
  exact nums_l l hl _ 0 (Nat.zero_le _) (by omega)
end Rw
theorem samenums_.calls {w : World} {A A' : Option Addr} {c c' : Nat} {l : List Int} (hl : l.length < 9223372036854775807) (h1 : Kd.C (Kd.int .u64) w A l.length l) (l1 : l.length ≤ c) (h2 : Kd.C (Kd.int .u64) w A' l.length l) (l2 : l.length ≤ c') : Calls Try.prog 22 #[.slice A l.length c, .slice A' l.length c'] w fun e w' => e = .returned (.bool true) ∧ Below w.heap.size w w' := by
  refine (coamingref00_SameNumbers.calls (l.length + 1) A c l A' c' l true w h1 l1 h2 l2 (Rw.nums_f l hl)).mono ?_
  rintro e w' ⟨rfl, h⟩
  exact ⟨rfl, h.below⟩
#print axioms samenums_.calls
namespace Rw
/-- a block of a row of blocks -/
theorem blk_get {w : World} {A : Option Addr} {n : Nat} {xs : List (List Int)} (h : Kd.C (Kd.slice 5 (Kd.int .u8)) w A n xs) (i : Nat) (hi : i < xs.length) (hn : xs.length = n) : ∃ ad A1 c1, A = some ad ∧ w.cell? (ad.add i) = some (.slice A1 xs[i].length c1) ∧ Kd.C (Kd.int .u8) w A1 xs[i].length xs[i] := by
  obtain ⟨ad, c, e, _, hK, hc0⟩ := Kd.C_get h ([] : List Int) (i : Int) (by omega) (by omega)
  rw [List.getD_eq_getElem?_getD, Int.toNat_natCast, List.getElem?_eq_getElem hi] at hK
  obtain ⟨A1, c1, rfl, hl, hC⟩ := hK
  have := hc0 0 _ rfl
  rw [Int.toNat_natCast, show (Kd.slice 5 (Kd.int .u8)).sz = 1 from rfl, Nat.mul_one, Nat.add_zero] at this
  exact ⟨ad, A1, c1, e, this, hC⟩
end Rw
set_option maxHeartbeats 1000000 in
set_option maxRecDepth 100000 in
theorem sameblks_.calls {w : World} {A B : Option Addr} {c d n : Nat} {xs : List (List Int)} (hn : xs.length = n) (hl : n < 9223372036854775807) (h1 : Kd.C (Kd.slice 5 (Kd.int .u8)) w A n xs) (l1 : n ≤ c) (h2 : Kd.C (Kd.slice 5 (Kd.int .u8)) w B n xs) (l2 : n ≤ d) : Calls Try.prog 23 #[.slice A n c, .slice B n d] w fun e w' => e = .returned (.bool true) ∧ Below w.heap.size w w' := by
  have H1 := Aside0.mk h1
  have H2 := Aside0.mk h2
  have HN := Aside0.mk hn
  clear h1 h2 l1 l2 hn
  go_enter Try.func23, Try.ntmps23
  go_wp2_with fail
  go_loopw [5] (fun i wr => ∃ k : Nat, i = .int .i64 k ∧ k ≤ n ∧ Aside0 (Below w.heap.size w wr)) (fun i _ => n - (intOf i).toNat)
  case atStart => exact ⟨0, rfl, Nat.zero_le _, ⟨Below.refl _ _⟩⟩
  case round =>
    obtain ⟨k, rfl, hk, HB⟩ := hrel
    by_cases hlt : k < n
    · have hltI : (k : Int) < n := by omega
      have hki : k < xs.length := by rw [HN.out]; exact hlt
      obtain ⟨ad, A1, c1, hA, q1, C1⟩ := Rw.blk_get (Kd.C_below H1.out HB.out) k hki HN.out
      obtain ⟨ad2, A2, c2, hA2, q2, C2⟩ := Rw.blk_get (Kd.C_below H2.out HB.out) k hki HN.out
      subst hA
      subst hA2
      obtain ⟨x, HX⟩ : ∃ x, Aside0 (xs[k] = x) := ⟨_, ⟨rfl⟩⟩
      rw [HX.out] at q1 q2 C1 C2
      obtain ⟨mx, HM⟩ : ∃ m, Aside0 (x.length = m) := ⟨_, ⟨rfl⟩⟩
      have HC1 := Aside0.mk C1
      have HC2 := Aside0.mk C2
      have HQ1 := Aside0.mk q1
      have HQ2 := Aside0.mk q2
      clear q1 q2 C1 C2
      go_wp2_with fail
      refine wp_region_noPanic ?_
      refine start_ (n := 11) (S := (fun w' => Below wr.heap.size wr w')) (ds := []) #[false, false, false, false, false, false, false, false, false, false, false] (by kernel_rfl) rfl rfl (Below.refl _ _).drew (fun hHeld => ?_)
      refine pure_ (i := 0) (N := (some 17)) (v := ?_) (a' := ?_) #[true, false, false, false, false, false, false, false, false, false, false] rfl rfl (by kernel_rfl) (fun _ _ _ h => h) (Or.inl ⟨by rfl, ?_⟩) ?_ ?_
      rotate_left
      · intro w'
        go_simp
        with_reducible rfl
      rotate_left
      · simp only [Act.put, List.setIfInBounds_toArray, List.set_cons_zero, List.set_cons_succ]
        rfl
      refine pure_ (i := 1) (N := (some 18)) (v := ?_) (a' := ?_) #[true, true, false, false, false, false, false, false, false, false, false] rfl rfl (by kernel_rfl) (fun _ _ _ h => h) (Or.inl ⟨by rfl, ?_⟩) ?_ ?_
      rotate_left
      · intro w'
        go_simp
        with_reducible rfl
      rotate_left
      · simp only [Act.put, List.setIfInBounds_toArray, List.set_cons_zero, List.set_cons_succ]
        rfl
      refine pure_ (i := 2) (N := (some 19)) (v := ?_) (a' := ?_) #[true, true, true, false, false, false, false, false, false, false, false] rfl rfl (by kernel_rfl) (fun _ _ _ h => h) (Or.inl ⟨by rfl, ?_⟩) ?_ ?_
      rotate_left
      · intro w'
        go_simp
        with_reducible rfl
      rotate_left
      · simp only [Act.put, List.setIfInBounds_toArray, List.set_cons_zero, List.set_cons_succ]
        rfl
      refine take_ (i := 3) (N := (some 20)) (v := ?_) (a' := ?_) #[true, true, true, true, false, false, false, false, false, false, false] rfl rfl (by kernel_rfl) (fun _ _ _ h => h) (Or.inl ⟨by rfl, ?_⟩) hHeld ?_ ?_
      rotate_left
      · intro w' hS'
        (have q1 := (hS'.cell (World.block_lt_of_cell? wr _ HQ1.out)).trans HQ1.out; go_simp)
        with_reducible rfl
      rotate_left
      · simp only [Act.put, List.setIfInBounds_toArray, List.set_cons_zero, List.set_cons_succ]
        rfl
      refine take_ (i := 4) (N := (some 21)) (v := ?_) (a' := ?_) #[true, true, true, true, true, false, false, false, false, false, false] rfl rfl (by kernel_rfl) (fun _ _ _ h => h) (Or.inl ⟨by rfl, ?_⟩) hHeld ?_ ?_
      rotate_left
      · intro w' hS'
        (have q1 := Kd.C_string (P := Try.prog) (A := A1) (c := c1) Try.underlying22 Try.underlying5 Try.underlying9 (Kd.C_below HC1.out hS'); go_simp)
        with_reducible rfl
      rotate_left
      · simp only [Act.put, List.setIfInBounds_toArray, List.set_cons_zero, List.set_cons_succ]
        rfl
      refine pure_ (i := 5) (N := (some 22)) (v := ?_) (a' := ?_) #[true, true, true, true, true, true, false, false, false, false, false] rfl rfl (by kernel_rfl) (fun _ _ _ h => h) (Or.inl ⟨by rfl, ?_⟩) ?_ ?_
      rotate_left
      · intro w'
        go_simp
        with_reducible rfl
      rotate_left
      · simp only [Act.put, List.setIfInBounds_toArray, List.set_cons_zero, List.set_cons_succ]
        rfl
      refine pure_ (i := 6) (N := (some 23)) (v := ?_) (a' := ?_) #[true, true, true, true, true, true, true, false, false, false, false] rfl rfl (by kernel_rfl) (fun _ _ _ h => h) (Or.inl ⟨by rfl, ?_⟩) ?_ ?_
      rotate_left
      · intro w'
        go_simp
        with_reducible rfl
      rotate_left
      · simp only [Act.put, List.setIfInBounds_toArray, List.set_cons_zero, List.set_cons_succ]
        rfl
      refine pure_ (i := 7) (N := (some 24)) (v := ?_) (a' := ?_) #[true, true, true, true, true, true, true, true, false, false, false] rfl rfl (by kernel_rfl) (fun _ _ _ h => h) (Or.inl ⟨by rfl, ?_⟩) ?_ ?_
      rotate_left
      · intro w'
        go_simp
        with_reducible rfl
      rotate_left
      · simp only [Act.put, List.setIfInBounds_toArray, List.set_cons_zero, List.set_cons_succ]
        rfl
      refine take_ (i := 8) (N := (some 25)) (v := ?_) (a' := ?_) #[true, true, true, true, true, true, true, true, true, false, false] rfl rfl (by kernel_rfl) (fun _ _ _ h => h) (Or.inl ⟨by rfl, ?_⟩) hHeld ?_ ?_
      rotate_left
      · intro w' hS'
        (have q1 := (hS'.cell (World.block_lt_of_cell? wr _ HQ2.out)).trans HQ2.out; go_simp)
        with_reducible rfl
      rotate_left
      · simp only [Act.put, List.setIfInBounds_toArray, List.set_cons_zero, List.set_cons_succ]
        rfl
      refine take_ (i := 9) (N := (some 26)) (v := ?_) (a' := ?_) #[true, true, true, true, true, true, true, true, true, true, false] rfl rfl (by kernel_rfl) (fun _ _ _ h => h) (Or.inl ⟨by rfl, ?_⟩) hHeld ?_ ?_
      rotate_left
      · intro w' hS'
        (have q1 := Kd.C_string (P := Try.prog) (A := A2) (c := c2) Try.underlying22 Try.underlying5 Try.underlying9 (Kd.C_below HC2.out hS'); go_simp)
        with_reducible rfl
      rotate_left
      · simp only [Act.put, List.setIfInBounds_toArray, List.set_cons_zero, List.set_cons_succ]
        rfl
      refine pure_ (i := 10) (N := (some 27)) (v := ?_) (a' := ?_) #[true, true, true, true, true, true, true, true, true, true, true] rfl rfl (by kernel_rfl) (fun _ _ _ h => h) (Or.inl ⟨by rfl, ?_⟩) ?_ ?_
      rotate_left
      · intro w'
        go_simp
        with_reducible rfl
      rotate_left
      · simp only [Act.put, List.setIfInBounds_toArray, List.set_cons_zero, List.set_cons_succ]
        rfl
      refine done_ (by kernel_rfl) ?_
      have HBD : Aside0 (Below w.heap.size w wr.drew) := ⟨below_drew HB.out⟩
      refine NoPanic.normal ?_
      go_wp2_with fail
      go_roundw
      case rel => exact ⟨k + 1, by go_num, by omega, HBD⟩
      case measure => simp [intOf]; omega
    · obtain rfl : n = k := by omega
      go_wp2_with fail
      go_ret
      exact ⟨rfl, HB.out⟩
#print axioms sameblks_.calls
end Go.Proofs.Ytemhlinodccokaa
