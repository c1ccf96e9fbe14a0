/- greet's functions, as they were printed, are the plain ones. -/
import Derived.Test.YtkpanpekoiadoaaWireM2
import Derived.Test.YtkpanpekoiadoaaGreetK
set_option linter.unusedVariables false
set_option linter.unusedSimpArgs false
namespace Go.Proofs.Ytkpanpekoiadoaa.Gr
open Go.RowKit Go.Proofs.Ytkpanpekoiadoaa Go.Proofs.Ytkpanpekoiadoaa.PBase Go.Proofs.YtkpanpekoiadoaaW.PrintWords Go.Proofs.YtkpanpekoiadoaaW.PrintLast Go.Proofs.YtkpanpekoiadoaaW.PrintMore Go.Proofs.Ytkpanpekoiadoaa.Wi

theorem takes4 (b : List Int) : takes b [4] [] = if b.length < 4 then ([], [], false) else ([num (b.take 4)], b.drop 4, true) := by
  simp only [takes, show wd 4 = 4 from rfl]
  split <;> rfl
theorem takes2 (b : List Int) : takes b [2] [] = if b.length < 2 then ([], [], false) else ([num (b.take 2)], b.drop 2, true) := by
  simp only [takes, show wd 2 = 2 from rfl]
  split <;> rfl
theorem takes844 (b : List Int) : takes b [8, 4, 4] [] = if b.length < 16 then ([], [], false) else ([num (b.take 8), num ((b.drop 8).take 4), num ((b.drop 12).take 4)], b.drop 16, true) := by
  simp only [takes, show wd 4 = 4 from rfl, show wd 8 = 8 from rfl, List.length_drop, List.drop_drop]
  by_cases h : b.length < 16
  · rw [if_pos h]
    by_cases h1 : b.length < 8
    · rw [if_pos h1]
    · rw [if_neg h1]
      by_cases h2 : b.length - 8 < 4
      · rw [if_pos h2]
      · rw [if_neg h2, if_pos (by omega)]
  · rw [if_neg h, if_neg (by omega), if_neg (by omega), if_neg (by omega)]
    rfl
theorem num_bound (b : List Int) (hb : Bytes b) (n : Nat) (hn : n ≤ 8) : 0 ≤ num (b.take n) ∧ num (b.take n) < 256 ^ n := by
  have h := num_range (b.take n) (hb.take n)
  refine ⟨h.1, Int.lt_of_lt_of_le h.2 ?_⟩
  have : (b.take n).length ≤ n := by rw [List.length_take]; omega
  have h2 : ((256 ^ (b.take n).length : Nat) : Int) ≤ ((256 ^ n : Nat) : Int) := Int.ofNat_le.2 (Nat.pow_le_pow_right (by decide) this)
  rw [Int.natCast_pow, Int.natCast_pow] at h2
  exact h2
/-- Flags, plainly -/
def fl (l : List Int) : Bool × Int × Int := if l.length < 4 then (false, 0, 70) else if num (l.take 4) = 1 ∨ num (l.take 4) = 3 then (num (l.take 4) == 3, 4, 0) else (false, 0, 72)
theorem flags_of (l : List Int) : (if (takes l [4] []).2.2 = true then (if 0 < ((takes l [4] []).1.length : Int) then (if (rd (takes l [4] []).1 0) = 1 then (some (((rd (takes l [4] []).1 0) == 3), (4 : Int), (0 : Int))) else (if (rd (takes l [4] []).1 0) = 3 then (some (((rd (takes l [4] []).1 0) == 3), 4, 0)) else (some (false, 0, 72)))) else (none)) else (some (false, 0, 70))) = some (fl l) := by
  rw [takes4]
  unfold fl
  by_cases h : l.length < 4
  · rw [if_pos h, if_pos h]; rfl
  · rw [if_neg h, if_neg h]
    simp only [rd, Int.toNat_zero, List.getD_cons_zero, List.length_singleton]
    rw [if_pos trivial, if_pos (by decide)]
    by_cases h1 : num (l.take 4) = 1
    · rw [if_pos h1, if_pos (Or.inl h1)]
    · rw [if_neg h1]
      by_cases h3 : num (l.take 4) = 3
      · rw [if_pos h3, if_pos (Or.inr h3)]
      · rw [if_neg h3, if_neg (by omega)]
theorem flags_is (l : List Int) (hl : l.length ≤ 100000) (hb : Bytes l) : greet_Flags.f l = some (fl l) := by
  unfold greet_Flags.f
  rw [take_is l [4] (by omega) (by simp) hb, Option.bind_some]
  exact flags_of l
theorem rflags_is (l : List Int) (hl : l.length ≤ 100000) (hb : Bytes l) (K : Nat) (hK : 100 ≤ K) : coamingref07_Flags.f K l = some (fl l) := by
  unfold coamingref07_Flags.f
  rw [rtake_is l [4] hb (by omega) (by simp) K (by simp; omega), Option.bind_some]
  exact flags_of l
/-- Next, plainly -/
def nx (l : List Int) : Int × List Int × Int × Int :=
  if l.length < 16 then (0, [], 0, 70)
  else if num (l.take 8) ≠ 5280542401877725268 then (0, [], 0, 71)
  else if num ((l.drop 12).take 4) > 1024 then (0, [], 0, 73)
  else if 16 + num ((l.drop 12).take 4) > l.length then (0, [], 0, 70)
  else (num ((l.drop 8).take 4), (l.drop 16).take (num ((l.drop 12).take 4)).toNat, 16 + num ((l.drop 12).take 4), 0)
theorem next_is (l : List Int) (hl : l.length ≤ 100000) (hb : Bytes l) : greet_Next.f l = some (nx l) := by
  unfold greet_Next.f nx
  have hm : mn (l.length : Int) 16 = ((if l.length < 16 then l.length else 16 : Nat) : Int) := by unfold mn; split <;> split <;> omega
  rw [hm]
  clear hm
  by_cases h : l.length < 16
  · have hl1 : (l.take l.length).length < 16 := by rw [List.length_take]; omega
    rw [if_pos h, if_pos h, if_pos (by omega), if_pos (by omega), Int.toNat_natCast, take_is _ _ (by rw [List.length_take]; omega) (by simp) (hb.take _), Option.bind_some, takes844, if_pos hl1]; rfl
  · have hl2 : ¬ (l.take 16).length < 16 := by rw [List.length_take]; omega
    rw [if_neg h, if_neg h, if_pos (by omega), if_pos (by omega), Int.toNat_natCast, take_is _ _ (by rw [List.length_take]; omega) (by simp) (hb.take _), Option.bind_some, takes844, if_neg hl2]
    have e1 : (l.take 16).take 8 = l.take 8 := by rw [List.take_take]; rfl
    have e2 : ((l.take 16).drop 8).take 4 = (l.drop 8).take 4 := by rw [List.drop_take, List.take_take]; rfl
    have e3 : ((l.take 16).drop 12).take 4 = (l.drop 12).take 4 := by rw [List.drop_take, List.take_take]; rfl
    have b2 := num_bound (l.drop 8) (hb.drop 8) 4 (by decide)
    have b3 := num_bound (l.drop 12) (hb.drop 12) 4 (by decide)
    simp only [e1, e2, e3, rd, show (0 : Int).toNat = 0 from rfl, show (1 : Int).toNat = 1 from rfl, show (2 : Int).toNat = 2 from rfl, List.getD_cons_zero, List.getD_cons_succ, List.length_cons, List.length_nil]
    clear e1 e2 e3
    generalize num (l.take 8) = m1
    generalize num ((l.drop 8).take 4) = m2 at *
    generalize num ((l.drop 12).take 4) = m3 at *
    have p4 : (256 : Int) ^ 4 = 4294967296 := by decide
    rw [p4] at b2 b3
    rw [if_pos trivial, if_pos (by decide)]
    by_cases h1 : m1 = 5280542401877725268
    · rw [if_pos h1, if_neg (show ¬ (m1 ≠ 5280542401877725268) from fun q => q h1), if_pos (by decide)]
      by_cases h2 : m3 > 1024
      · rw [if_pos h2, if_pos h2]
      · have w1 : wrap64 m3 = m3 := w64 _ (by omega) (by omega)
        have w2 : wrap64 (16 + m3) = 16 + m3 := by clear w1; exact w64 _ (by omega) (by omega)
        rw [if_neg h2, if_neg h2, w1, w2]
        clear w1 w2
        by_cases h3 : 16 + m3 > (l.length : Int)
        · rw [if_pos h3, if_pos h3]
        · rw [if_neg h3, if_neg h3, if_pos (by decide), if_pos (by omega), if_pos (by omega)]
          have ec : clone_.f ((l.take (16 + m3).toNat).drop 16) = some ((l.drop 16).take m3.toNat) := by
            unfold clone_.f
            rw [if_pos (by rw [List.length_drop, List.length_take]; omega), List.drop_take]
            congr 2
            omega
          rw [ec, Option.bind_some, Int.emod_eq_of_lt b2.1 b2.2]
    · rw [if_neg h1, if_pos h1]
theorem rnext_is (l : List Int) (hl : l.length ≤ 100000) (hb : Bytes l) (K : Nat) (hK : 100 ≤ K) : coamingref07_Next.f K l = some (nx l) := by
  unfold coamingref07_Next.f nx
  rw [rtake_is l _ hb (by omega) (by simp) K (by simp; omega), Option.bind_some, takes844]
  by_cases h : l.length < 16
  · rw [if_pos h, if_pos h]; rfl
  · rw [if_neg h, if_neg h]
    have b2 := num_bound (l.drop 8) (hb.drop 8) 4 (by decide)
    have b3 := num_bound (l.drop 12) (hb.drop 12) 4 (by decide)
    simp only [rd, show (0 : Int).toNat = 0 from rfl, show (1 : Int).toNat = 1 from rfl, show (2 : Int).toNat = 2 from rfl, List.getD_cons_zero, List.getD_cons_succ, List.length_cons, List.length_nil, List.length_drop]
    generalize num (l.take 8) = m1
    generalize num ((l.drop 8).take 4) = m2 at *
    generalize num ((l.drop 12).take 4) = m3 at *
    have p4 : (256 : Int) ^ 4 = 4294967296 := by decide
    rw [p4] at b2 b3
    rw [if_pos trivial, if_pos (by decide)]
    by_cases h1 : m1 = 5280542401877725268
    · rw [if_pos h1, if_neg (show ¬ (m1 ≠ 5280542401877725268) from fun q => q h1), if_pos (by decide)]
      by_cases h2 : m3 > 1024
      · rw [if_pos h2, if_pos h2]
      · have w0 : IntKind.u64.wrap ((l.length - 16 : Nat) : Int) = ((l.length - 16 : Nat) : Int) := Bt.wraps_u64 _ (by omega) (by omega)
        rw [if_neg h2, if_neg h2, w0]
        clear w0
        by_cases h3 : 16 + m3 > (l.length : Int)
        · rw [if_pos h3, if_pos (by omega)]
        · have w1 : wrap64 m3 = m3 := w64 _ (by omega) (by omega)
          have w2 : wrap64 (16 + m3) = 16 + m3 := by clear w1; exact w64 _ (by omega) (by omega)
          rw [if_neg h3, if_neg (by clear w1 w2; omega), w1, w2]
          clear w1 w2
          rw [if_pos (by omega), if_pos (by omega), Option.bind_some, if_pos (by simp; omega), if_pos (by decide), Int.emod_eq_of_lt b2.1 b2.2]
          rfl
    · rw [if_neg h1, if_pos h1]
end Go.Proofs.Ytkpanpekoiadoaa.Gr
