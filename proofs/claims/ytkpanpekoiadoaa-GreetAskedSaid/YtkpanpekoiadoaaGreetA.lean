/- greet.Asked, as it was printed, is the plain one. -/
import Derived.Test.YtkpanpekoiadoaaGreetM
set_option linter.unusedVariables false
set_option linter.unusedSimpArgs false
namespace Go.Proofs.Ytkpanpekoiadoaa.Gr
open Go.RowKit Go.Proofs.Ytkpanpekoiadoaa Go.Proofs.Ytkpanpekoiadoaa.PBase Go.Proofs.YtkpanpekoiadoaaW.PrintWords Go.Proofs.YtkpanpekoiadoaaW.PrintLast Go.Proofs.YtkpanpekoiadoaaW.PrintMore Go.Proofs.Ytkpanpekoiadoaa.Wi

/-- two bytes each -/
def pairs : List Int → List Int
  | a :: b :: l => (a * 256 + b) :: pairs l
  | _ => []
/-- Asked, plainly -/
def ak (l : List Int) : ByteArray × List Int × Int :=
  if l.length < 4 then (⟨#[]⟩, [], 74)
  else if num (l.take 4) > 255 then (⟨#[]⟩, [], 74)
  else if num (l.take 4) > ((l.drop 4).length : Int) then (⟨#[]⟩, [], 74)
  else if ((l.drop 4).drop (num (l.take 4)).toNat).length < 2 then (⟨#[]⟩, [], 74)
  else if ((((l.drop 4).drop (num (l.take 4)).toNat).drop 2).length : Int) ≠ 2 * num (((l.drop 4).drop (num (l.take 4)).toNat).take 2) then (⟨#[]⟩, [], 74)
  else (strOfNums ((l.drop 4).take (num (l.take 4)).toNat), pairs (((l.drop 4).drop (num (l.take 4)).toNat).drop 2), 0)
theorem or_16 (h x : Int) (h0 : 0 ≤ h) (h1 : h ≤ 255) (h2 : 0 ≤ x) (h3 : x ≤ 255) : bits .or .u16 (IntKind.u16.wrap ((IntKind.u16.wrap h) * 256)) (IntKind.u16.wrap x) = h * 256 + x := by
  have e : ∀ n : Int, IntKind.u16.wrap n = n % 65536 := fun n => by simp [IntKind.wrap, IntKind.bits, IntKind.signed]
  rw [e, e, e, Int.emod_eq_of_lt h0 (by omega), Int.emod_eq_of_lt (by omega) (by omega), Int.emod_eq_of_lt h2 (by omega)]
  exact bits_join .u16 16 (by decide) (fun n a b => by rw [e]; omega) 8 _ _ (by omega) (by omega) (by omega) h2 (by omega) (by omega)
theorem pairs_two (l : List Int) (i : Nat) (h : i + 1 < l.length) : pairs (l.drop i) = (rd l i * 256 + rd l ((i + 1 : Nat) : Int)) :: pairs (l.drop (i + 2)) := by
  rw [rd_drop l i (by omega), rd_drop l (i + 1) (by omega), pairs]
theorem al0 (l : List Int) (s : ByteArray) (hl : l.length ≤ 100000) (hb : Bytes l) : ∀ (d i : Nat), i + 2 * d = l.length → ∀ (F : Nat) (acc : List Int), d + 1 ≤ F → acc.length ≤ i →
    greet_Asked.l0 F l s acc ((i + 1 : Nat) : Int) = some (s, acc ++ pairs (l.drop i), 0) := by
  intro d
  induction d with
  | zero =>
    intro i e F acc hF _
    obtain ⟨F, rfl⟩ : ∃ G, F = G + 1 := ⟨F - 1, by omega⟩
    rw [greet_Asked.l0, if_neg (by omega), show l.drop i = [] from List.drop_eq_nil_of_le (by omega), pairs, List.append_nil]
    exact fun _ _ _ h => by cases h
  | succ d ih =>
    intro i e F acc hF ha
    obtain ⟨F, rfl⟩ : ∃ G, F = G + 1 := ⟨F - 1, by omega⟩
    have w1 : wrap64 (((i + 1 : Nat) : Int) - 1) = (i : Int) := by rw [w64 _ (by omega) (by omega)]; omega
    have w2 : wrap64 (((i + 1 : Nat) : Int) + 2) = ((i + 2 + 1 : Nat) : Int) := by clear w1; rw [w64 _ (by omega) (by omega)]; omega
    have b1 := hb _ (rd_mem l i (by clear w1 w2; omega))
    have b2 := hb _ (rd_mem l (i + 1) (by clear w1 w2; omega))
    rw [greet_Asked.l0, w1, w2]
    clear w1 w2
    rw [if_pos (by omega), if_pos (by omega), if_pos (by omega), if_pos (by omega), if_pos (by omega), or_16 _ _ b1.1 b1.2 b2.1 b2.2, ih (i + 2) (by omega) F _ (by omega) (by simp; omega), pairs_two l i (by omega), List.append_assoc]
    rfl
theorem bl0 (l : List Int) (s : ByteArray) (hl : l.length ≤ 100000) (hb : Bytes l) : ∀ (d i : Nat), i + 2 * d = l.length → ∀ (F : Nat) (acc : List Int), d + 1 ≤ F → acc.length ≤ i →
    coamingref07_Asked.l0 F s l acc (i : Int) = some (s, acc ++ pairs (l.drop i), 0) := by
  intro d
  induction d with
  | zero =>
    intro i e F acc hF _
    obtain ⟨F, rfl⟩ : ∃ G, F = G + 1 := ⟨F - 1, by omega⟩
    rw [coamingref07_Asked.l0, if_neg (by omega), show l.drop i = [] from List.drop_eq_nil_of_le (by omega), pairs, List.append_nil]
    exact fun _ _ _ h => by cases h
  | succ d ih =>
    intro i e F acc hF ha
    obtain ⟨F, rfl⟩ : ∃ G, F = G + 1 := ⟨F - 1, by omega⟩
    have w1 : wrap64 ((i : Int) + 1) = ((i + 1 : Nat) : Int) := by rw [w64 _ (by omega) (by omega)]; omega
    have w2 : wrap64 ((i : Int) + 2) = ((i + 2 : Nat) : Int) := by clear w1; rw [w64 _ (by omega) (by omega)]; omega
    have b1 := hb _ (rd_mem l i (by clear w1 w2; omega))
    have b2 := hb _ (rd_mem l (i + 1) (by clear w1 w2; omega))
    rw [coamingref07_Asked.l0, w1, w2]
    clear w1 w2
    rw [if_pos (by omega), if_pos (by omega), if_pos (by omega), if_pos (by omega), if_pos (by omega), or_16 _ _ b1.1 b1.2 b2.1 b2.2, ih (i + 2) (by omega) F _ (by omega) (by simp; omega), pairs_two l i (by omega), List.append_assoc]
    rfl
theorem asked_is (l : List Int) (hl : l.length ≤ 100000) (hb : Bytes l) (K : Nat) (hK : 100000 ≤ K) : greet_Asked.f K l = some (ak l) := by
  obtain ⟨K, rfl⟩ : ∃ G, K = G + 2 := ⟨K - 2, by omega⟩
  have no : ∀ (x5 x6 : List Int) (K : Nat), greet_Asked.j0 (K + 1) x5 x6 true = some (⟨#[]⟩, [], 74) := fun x5 x6 K => by rw [greet_Asked.j0, if_pos rfl]
  have no2 : ∀ (x6 : List Int) (s : ByteArray) (K : Nat), greet_Asked.j1 (K + 1) x6 s true = some (⟨#[]⟩, [], 74) := fun x6 s K => by rw [greet_Asked.j1, if_pos rfl]
  unfold greet_Asked.f ak
  rw [take_is l [4] (by omega) (by simp) hb, Option.bind_some, takes4]
  by_cases h : l.length < 4
  · rw [if_pos h, if_pos h]; exact no [] [] (K + 1)
  · rw [if_neg h, if_neg h]
    have bn := num_bound l hb 4 (by decide)
    rw [show (256 : Int) ^ 4 = 4294967296 by decide] at bn
    simp only [rd, show (0 : Int).toNat = 0 from rfl, List.getD_cons_zero, List.length_cons, List.length_nil]
    rw [if_pos trivial, if_pos (by decide)]
    generalize num (l.take 4) = m at *
    by_cases h1 : m > 255
    · rw [if_pos h1, if_pos h1]; exact no _ _ _
    · have w1 : wrap64 m = m := w64 _ (by omega) (by omega)
      rw [if_neg h1, if_neg h1, w1]
      clear w1
      by_cases h2 : m > ((l.drop 4).length : Int)
      · rw [if_pos h2, decide_eq_true h2]; exact no _ _ _
      · obtain ⟨n, rfl⟩ := Int.eq_ofNat_of_zero_le bn.1
        have hld := List.length_drop (i := 4) (l := l)
        rw [if_neg h2, decide_eq_false h2, greet_Asked.j0, if_neg (by decide)]
        simp only [rd, show (0 : Int).toNat = 0 from rfl, List.getD_cons_zero, List.length_cons, List.length_nil]
        rw [if_pos (by decide), if_pos (by omega), if_pos (by omega), Option.bind_some, Int.toNat_natCast, take_is _ [2] (by rw [List.length_drop]; omega) (by simp) ((hb.drop 4).drop n), Option.bind_some, takes2]
        have hbr := ((hb.drop 4).drop n)
        have hlr : ((l.drop 4).drop n).length ≤ 100000 := by rw [List.length_drop]; omega
        generalize (l.drop 4).drop n = q at *
        by_cases h3 : q.length < 2
        · rw [if_pos h3, if_pos h3]; exact no2 [] (strOfNums ((l.drop 4).take n)) K
        · rw [if_neg h3, if_neg h3]
          have b2 := num_bound q hbr 2 (by decide)
          rw [show (256 : Int) ^ 2 = 65536 by decide] at b2
          simp only [rd, show (0 : Int).toNat = 0 from rfl, List.getD_cons_zero, List.length_cons, List.length_nil]
          rw [if_pos trivial, if_pos (by decide)]
          generalize num (q.take 2) = z at *
          have w2 : wrap64 z = z := w64 _ (by omega) (by omega)
          have w3 : wrap64 (2 * z) = 2 * z := by clear w2; exact w64 _ (by omega) (by omega)
          rw [w2, w3]
          clear w2 w3
          by_cases h4 : ((q.drop 2).length : Int) = 2 * z
          · rw [if_neg (show ¬ (((q.drop 2).length : Int) ≠ 2 * z) from fun p => p h4), h4, bne_self_eq_false, greet_Asked.j1, if_neg (by decide)]
            have := al0 (q.drop 2) (strOfNums ((l.drop 4).take n)) (by rw [List.length_drop]; omega) (hbr.drop 2) z.toNat 0 (by omega) K [] (by rw [List.length_drop] at h4; omega) (by simp)
            simpa using this
          · rw [if_pos (show ((q.drop 2).length : Int) ≠ 2 * z from h4), bne_iff_ne.mpr h4]; exact no2 _ _ _
theorem rasked_is (l : List Int) (hl : l.length ≤ 100000) (hb : Bytes l) (K : Nat) (hK : 200000 ≤ K) : coamingref07_Asked.f K l = some (ak l) := by
  obtain ⟨K, rfl⟩ : ∃ G, K = G + 2 := ⟨K - 2, by omega⟩
  have no : ∀ (x5 x6 : List Int) (K : Nat), coamingref07_Asked.j0 (K + 1) x5 x6 true = some (⟨#[]⟩, [], 74) := fun x5 x6 K => by rw [coamingref07_Asked.j0, if_pos rfl]
  have no2 : ∀ (x6 : List Int) (s : ByteArray) (K : Nat), coamingref07_Asked.j1 (K + 1) s x6 true = some (⟨#[]⟩, [], 74) := fun x6 s K => by rw [coamingref07_Asked.j1, if_pos rfl]
  unfold coamingref07_Asked.f ak
  rw [rtake_is l [4] hb (by omega) (by simp) _ (by simp; omega), Option.bind_some, takes4]
  by_cases h : l.length < 4
  · rw [if_pos h, if_pos h]; exact no [] [] (K + 1)
  · rw [if_neg h, if_neg h]
    have bn := num_bound l hb 4 (by decide)
    rw [show (256 : Int) ^ 4 = 4294967296 by decide] at bn
    simp only [rd, show (0 : Int).toNat = 0 from rfl, List.getD_cons_zero, List.length_cons, List.length_nil]
    rw [if_pos trivial, if_pos (by decide)]
    generalize num (l.take 4) = m at *
    by_cases h1 : m > 255
    · rw [if_pos h1, if_pos h1]; exact no _ _ _
    · have hld := List.length_drop (i := 4) (l := l)
      have w1 : IntKind.u64.wrap ((l.drop 4).length : Int) = ((l.drop 4).length : Int) := Bt.wraps_u64 _ (by omega) (by omega)
      rw [if_neg h1, if_neg h1, w1]
      clear w1
      by_cases h2 : m > ((l.drop 4).length : Int)
      · rw [if_pos h2, decide_eq_true h2]; exact no _ _ _
      · obtain ⟨n, rfl⟩ := Int.eq_ofNat_of_zero_le bn.1
        have w2 : wrap64 (n : Int) = (n : Int) := w64 _ (by omega) (by omega)
        rw [if_neg h2, decide_eq_false h2, coamingref07_Asked.j0, if_neg (by decide)]
        simp only [rd, show (0 : Int).toNat = 0 from rfl, List.getD_cons_zero, List.length_cons, List.length_nil]
        rw [w2]
        clear w2
        rw [if_pos (by decide), if_pos (by omega), if_pos (by omega), Option.bind_some, Int.toNat_natCast, rtake_is _ [2] ((hb.drop 4).drop n) (by rw [List.length_drop]; omega) (by simp) _ (by simp; omega), Option.bind_some, takes2]
        have hbr := ((hb.drop 4).drop n)
        have hlr : ((l.drop 4).drop n).length ≤ 100000 := by rw [List.length_drop]; omega
        generalize (l.drop 4).drop n = q at *
        by_cases h3 : q.length < 2
        · rw [if_pos h3, if_pos h3]; exact no2 [] (strOfNums ((l.drop 4).take n)) K
        · rw [if_neg h3, if_neg h3]
          have b2 := num_bound q hbr 2 (by decide)
          rw [show (256 : Int) ^ 2 = 65536 by decide] at b2
          simp only [rd, show (0 : Int).toNat = 0 from rfl, List.getD_cons_zero, List.length_cons, List.length_nil]
          rw [if_pos trivial, if_pos (by decide)]
          generalize num (q.take 2) = z at *
          have hl2 := List.length_drop (i := 2) (l := q)
          have w3 : IntKind.u64.wrap ((q.drop 2).length : Int) = ((q.drop 2).length : Int) := Bt.wraps_u64 _ (by omega) (by omega)
          have w4 : IntKind.u64.wrap (2 * z) = 2 * z := by clear w3; exact Bt.wraps_u64 _ (by omega) (by omega)
          rw [w3, w4]
          clear w3 w4
          by_cases h4 : ((q.drop 2).length : Int) = 2 * z
          · rw [if_neg (show ¬ (((q.drop 2).length : Int) ≠ 2 * z) from fun p => p h4), h4, bne_self_eq_false, coamingref07_Asked.j1, if_neg (by decide)]
            have := bl0 (q.drop 2) (strOfNums ((l.drop 4).take n)) (by rw [List.length_drop]; omega) (hbr.drop 2) z.toNat 0 (by omega) K [] (by omega) (by simp)
            simpa using this
          · rw [if_pos (show ((q.drop 2).length : Int) ≠ 2 * z from h4), bne_iff_ne.mpr h4]; exact no2 _ _ _
theorem pairs_len : ∀ (l : List Int), (pairs l).length ≤ l.length
  | [] => by simp [pairs]
  | [_] => by simp [pairs]
  | a :: b :: l => by have := pairs_len l; simp only [pairs, List.length_cons]; omega
theorem ak_code (l : List Int) : 0 ≤ (ak l).2.2 ∧ (ak l).2.2 ≤ 100 := by unfold ak; split <;> (try split) <;> (try split) <;> (try split) <;> (try split) <;> simp
theorem ak_len (l : List Int) : (ak l).2.1.length ≤ l.length := by
  unfold ak
  split
  · simp
  · split
    · simp
    · split
      · simp
      · split
        · simp
        · split
          · simp
          · refine Nat.le_trans (pairs_len _) ?_
            rw [List.length_drop, List.length_drop, List.length_drop]
            omega
end Go.Proofs.Ytkpanpekoiadoaa.Gr
