/- coaminglaw04.SpellStrange: a text with any other sign than the thirty-two is none: for every input; no conditions. -/
import Derived.Test.YtojecbigcamedaaPSpellStrangex1
import Derived.Test.YtojecbigcamedaaSpellFnsC
set_option linter.unusedVariables false
set_option linter.unusedSimpArgs false
namespace Go.Proofs.Ytojecbigcamedaa.Pure
open Go.RowKit Go.Proofs.Ytojecbigcamedaa.PSpellStrange Go.Proofs.Ytojecbigcamedaa.PBase Go.Proofs.YtojecbigcamedaaW.PrintWords Go.Proofs.YtojecbigcamedaaW.PrintLast Go.Proofs.YtojecbigcamedaaW.PrintMore Go.Proofs.Ytojecbigcamedaa.Sp

theorem digits_none {c : Int} (hc : dg c = none) : ∀ l : List Int, c ∈ l → digits l = none
  | x :: l, h => by
    rcases List.mem_cons.1 h with rfl | h
    · rw [digits, hc]; rfl
    · rw [digits, digits_none hc l h]
      cases dg x <;> rfl
theorem read_strange {c : Int} (hc : dg c = none) (l : List Int) (h : c ∈ l) : (readOf l).2 = 40 := by
  unfold readOf
  rw [digits_none hc l h]
theorem bs_append (s t : ByteArray) : bs (s ++ t) = bs s ++ bs t := by
  unfold bs
  rw [ByteArray.data_append, Array.toList_append, List.map_append]
theorem bs_one (c : Int) (h0 : 0 ≤ c) (h1 : c ≤ 255) : bs (strOfNums [c]) = [c] := by
  unfold bs
  rw [strOfNums_data]
  simp only [List.map_cons, List.map_nil]
  congr 1
  show ((UInt8.ofNat c.toNat).toNat : Int) = c
  rw [UInt8.toNat_ofNat']
  omega
theorem SpellStrange : coaminglaw04_SpellStrange.Pure := by
  intro l0 a c _ _ hw _ hc
  have hb := bytes_of_wf hw
  have hcb : Bytes [c] := bytes_of_wf (fun x hx => by rw [List.mem_singleton] at hx; subst hx; exact hc)
  have hc1 := hcb c (by simp)
  obtain ⟨K, hK⟩ : ∃ K, 900000 ≤ K := ⟨900000, Nat.le_refl _⟩
  refine ⟨K + 1, ?_⟩
  unfold coaminglaw04_SpellStrange.f
  have yes : ∀ k, coaminglaw04_SpellStrange.j0 (k + 1) l0 a c true = some true := fun k => by
    rw [coaminglaw04_SpellStrange.j0, if_pos rfl]; rfl
  by_cases h : (l0.length : Int) > 1000
  · rw [if_pos h]; exact yes K
  · rw [if_neg h, show known_.f = some true from rfl, Option.bind_some]
    show coaminglaw04_SpellStrange.j0 (K + 1) l0 a c false = some true
    have h1 := write_is l0 (by omega) hb
    have hsz : (ByteArray.mk (enc (bitsOf l0)).toArray).size = (8 * l0.length + 4) / 5 := by rw [← bitsOf_length, ← enc_length]; exact List.size_toArray
    generalize ByteArray.mk (enc (bitsOf l0)).toArray = s at *
    have e : wrap64 ((s.size : Int) + 1) = (s.size : Int) + 1 := w64 _ (by omega) (by omega)
    have m0 : 0 ≤ mx a 0 % ((s.size : Int) + 1) := Int.emod_nonneg _ (by clear e; omega)
    have m1 : mx a 0 % ((s.size : Int) + 1) < (s.size : Int) + 1 := Int.emod_lt_of_pos _ (by clear e; omega)
    rw [coaminglaw04_SpellStrange.j0, if_neg (by decide), h1, Option.bind_some, e]
    clear e
    generalize mx a 0 % ((s.size : Int) + 1) = m at *
    obtain ⟨n, rfl⟩ := Int.eq_ofNat_of_zero_le m0
    have z1 : (s.extract 0 n).size = n := by rw [ByteArray.size_extract]; omega
    have z2 : (s.extract n s.size).size = s.size - n := by rw [ByteArray.size_extract]; omega
    have z3 : (strOfNums [c]).size = 1 := rfl
    have z4 : (s.extract 0 n ++ strOfNums [c]).size = n + 1 := by rw [ByteArray.size_append, z1, z3]
    have z5 : (s.extract 0 n ++ strOfNums [c] ++ s.extract n s.size).size = n + 1 + (s.size - n) := by rw [ByteArray.size_append, z4, z2]
    rw [if_neg (by omega), if_pos m0, if_pos (by omega), Option.bind_some, Int.toNat_natCast, if_pos (by rw [z1, z3]; omega), if_pos (by rw [z4, z2]; omega)]
    have hr := read_is (s.extract 0 n ++ strOfNums [c] ++ s.extract n s.size) (by rw [z5]; omega) K (by rw [z5]; omega)
    have hmem : c ∈ bs (s.extract 0 n ++ strOfNums [c] ++ s.extract n s.size) := by rw [bs_append, bs_append, bs_one c hc1.1 hc1.2]; simp
    have bad : dg c = none → (readOf (bs (s.extract 0 n ++ strOfNums [c] ++ s.extract n s.size))).2 = 40 := fun hn => read_strange hn _ hmem
    have no : ¬ (97 ≤ c ∧ c ≤ 122) → ¬ (50 ≤ c ∧ c ≤ 55) → dg c = none := fun p q => by unfold dg; rw [if_neg p, if_neg q]
    rw [hr]
    simp only [Option.bind_some]
    by_cases c1 : c ≥ 97
    · rw [if_pos c1]
      by_cases c2 : c ≤ 122
      · rw [if_pos c2]
      · rw [if_neg c2, if_pos (by omega), if_neg (by omega), bad (no (by omega) (by omega))]; rfl
    · rw [if_neg c1]
      by_cases c2 : c ≥ 50
      · rw [if_pos c2]
        by_cases c3 : c ≤ 55
        · rw [if_pos c3]
        · rw [if_neg c3, bad (no (by omega) (by omega))]; rfl
      · rw [if_neg c2, bad (no (by omega) (by omega))]; rfl

end Go.Proofs.Ytojecbigcamedaa.Pure
