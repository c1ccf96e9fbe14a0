/- coaminglaw04.SpellFronts: bytes behind others do not change the signs ahead, but perhaps the last one: for every input; no conditions. -/
import Derived.Test.YtojecbigcamedaaPSpellFrontsx1
import Derived.Test.YtojecbigcamedaaSpellFnsC
namespace Go.Proofs.Ytojecbigcamedaa.Pure
open Go.RowKit Go.Proofs.Ytojecbigcamedaa.PSpellFronts Go.Proofs.Ytojecbigcamedaa.PBase Go.Proofs.YtojecbigcamedaaW.PrintWords Go.Proofs.YtojecbigcamedaaW.PrintLast Go.Proofs.Ytojecbigcamedaa.Sp

theorem SpellFronts : coaminglaw04_SpellFronts.Pure := by
  intro l0 l1 _ _ hw0 _ _ hw1
  have hb0 := bytes_of_wf hw0
  have hb1 := bytes_of_wf hw1
  have hb : Bytes (l0 ++ l1) := fun x hx => (List.mem_append.1 hx).elim (hb0 x) (hb1 x)
  obtain ⟨K, hK⟩ : ∃ K, 900000 ≤ K := ⟨900000, Nat.le_refl _⟩
  refine ⟨K + 1, ?_⟩
  unfold coaminglaw04_SpellFronts.f
  have yes : ∀ k, coaminglaw04_SpellFronts.j0 (k + 1) l0 l1 true = some true := fun k => by
    rw [coaminglaw04_SpellFronts.j0, if_pos rfl]; rfl
  by_cases h : (l0.length : Int) > 1000
  · rw [if_pos h]; exact yes K
  · rw [if_neg h]
    by_cases h' : (l1.length : Int) > 1000
    · rw [if_pos h']; exact yes K
    · rw [if_neg h', show known_.f = some true from rfl, Option.bind_some]
      show coaminglaw04_SpellFronts.j0 (K + 1) l0 l1 false = some true
      have h1 := write_is l0 (by omega) hb0
      have h2 := write_is (l0 ++ l1) (by rw [List.length_append]; omega) hb
      have z1 : (ByteArray.mk (enc (bitsOf l0)).toArray).size = (8 * l0.length + 4) / 5 := by rw [← bitsOf_length, ← enc_length]; exact List.size_toArray
      have z2 : (ByteArray.mk (enc (bitsOf (l0 ++ l1))).toArray).size = (8 * (l0.length + l1.length) + 4) / 5 := by rw [← List.length_append, ← bitsOf_length, ← enc_length]; exact List.size_toArray
      have c1 : ([] : List Int).length + l0.length < 140737488355328 := by simp; omega
      have c2 : l0.length + l1.length < 140737488355328 := by omega
      have c3 : ((ByteArray.mk (enc (bitsOf (l0 ++ l1))).toArray).size : Int) ≥ ((ByteArray.mk (enc (bitsOf l0)).toArray).size : Int) := by rw [z1, z2]; omega
      have c4 : (0 : Int) ≤ (8 * l0.length) / 5 := by omega
      have c5 : (8 * (l0.length : Int)) / 5 ≤ ((ByteArray.mk (enc (bitsOf l0)).toArray).size : Int) := by rw [z1]; omega
      have c6 : (8 * (l0.length : Int)) / 5 ≤ ((ByteArray.mk (enc (bitsOf (l0 ++ l1))).toArray).size : Int) := by rw [z2]; omega
      have e : ((8 * (l0.length : Int)) / 5).toNat = (bitsOf l0).length / 5 := by rw [bitsOf_length]; omega
      have w2 : Int.tdiv (8 * (l0.length : Int)) 5 = (8 * l0.length) / 5 := Int.tdiv_eq_ediv_of_nonneg (by omega)
      have w3 : wrap64 ((8 * (l0.length : Int)) / 5) = (8 * l0.length) / 5 := w64 _ (by omega) (by omega)
      have w1 : wrap64 (8 * (l0.length : Int)) = 8 * l0.length := w64 _ (by clear w3; omega) (by clear w3; omega)
      rw [coaminglaw04_SpellFronts.j0, if_neg (by decide), if_pos c1, Option.bind_some, List.nil_append, if_pos c2, h1, Option.bind_some, h2, Option.bind_some, if_pos c3, w1, w2, w3, if_pos c4, if_pos c5, if_pos c6, e]
      have ht := enc_take (bitsOf l0) (bitsOf l1)
      rw [← bitsOf_append] at ht
      rw [toList_data', toList_data', ByteArray.data_extract, ByteArray.data_extract]
      simp only [Array.toList_extract, List.extract_eq_take_drop, List.drop_zero, Nat.sub_zero]
      rw [ht, beq_self_eq_true]

end Go.Proofs.Ytojecbigcamedaa.Pure
