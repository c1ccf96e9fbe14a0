/- coaminglaw04.SpellBack: what is written is read, what is read is written so, a sign stands for five bits: for every input; no conditions. -/
import Derived.Test.YtojecbigcamedaaPSpellBackx1
import Derived.Test.YtojecbigcamedaaSpellFnsC
namespace Go.Proofs.Ytojecbigcamedaa.Pure
open Go.RowKit Go.Proofs.Ytojecbigcamedaa.PSpellBack Go.Proofs.Ytojecbigcamedaa.PBase Go.Proofs.YtojecbigcamedaaW.PrintWords Go.Proofs.YtojecbigcamedaaW.PrintLast Go.Proofs.Ytojecbigcamedaa.Sp

theorem SpellBack : coaminglaw04_SpellBack.Pure := by
  intro l0 s _ _ hw _
  have hb := bytes_of_wf hw
  obtain ⟨K, hK⟩ : ∃ K, 900000 ≤ K := ⟨900000, Nat.le_refl _⟩
  refine ⟨K + 1, ?_⟩
  unfold coaminglaw04_SpellBack.f
  have yes : ∀ k, coaminglaw04_SpellBack.j0 (k + 1) l0 s true = some true := fun k => by
    rw [coaminglaw04_SpellBack.j0, if_pos rfl]; rfl
  by_cases h : (l0.length : Int) > 1000
  · rw [if_pos h]; exact yes K
  · rw [if_neg h]
    by_cases h' : (s.size : Int) > 1000
    · rw [if_pos h']; exact yes K
    · rw [if_neg h', show known_.f = some true from rfl, Option.bind_some]
      show coaminglaw04_SpellBack.j0 (K + 1) l0 s false = some true
      have h1 := write_is l0 (by omega) hb
      have hl : (enc (bitsOf l0)).length = (8 * l0.length + 4) / 5 := by rw [enc_length, bitsOf_length]
      have hsz : (ByteArray.mk (enc (bitsOf l0)).toArray).size = (8 * l0.length + 4) / 5 := by rw [← hl]; exact List.size_toArray
      have h2 := read_is ⟨(enc (bitsOf l0)).toArray⟩ (by rw [hsz]; omega) K (by rw [hsz]; omega)
      rw [bs_of, read_written l0 hb] at h2
      have h3 := read_is s (by omega) K (by omega)
      have hw5 : ((ByteArray.mk (enc (bitsOf l0)).toArray).size : Int) = (8 * (l0.length : Int) + 4) / 5 := by rw [hsz]; omega
      have ho5 : (readOf (bs s)).2 = 0 → (readOf (bs s)).1.length ≤ 1099511627776 := fun ho => by have := (readOf_ok s ho).2.2; omega
      have hw3 : Int.tdiv (8 * (l0.length : Int) + 4) 5 = (8 * l0.length + 4) / 5 := Int.tdiv_eq_ediv_of_nonneg (by omega)
      have b1 : (8 * (l0.length : Int) + 4) / 5 ≤ 9000 := by omega
      have b2 : 0 ≤ (8 * (l0.length : Int) + 4) / 5 := by omega
      have hw4 : wrap64 ((8 * (l0.length : Int) + 4) / 5) = (8 * l0.length + 4) / 5 := w64 _ (by omega) (by omega)
      have hw2 : wrap64 (8 * (l0.length : Int) + 4) = 8 * l0.length + 4 := w64 _ (by clear hw4; omega) (by clear hw4; omega)
      have hw1 : wrap64 (8 * (l0.length : Int)) = 8 * l0.length := w64 _ (by clear hw4 hw2; omega) (by clear hw4 hw2; omega)
      rw [coaminglaw04_SpellBack.j0, if_neg (by decide), h1, Option.bind_some, h2, Option.bind_some, h3, Option.bind_some, if_pos rfl]
      unfold coamingref00_SameBytes.f
      rw [Option.bind_some, beq_self_eq_true, if_pos rfl, hw1, hw2, hw3, hw4, if_pos hw5]
      by_cases ho : (readOf (bs s)).2 = 0
      · obtain ⟨o1, o2, o3⟩ := readOf_ok s ho
        rw [if_pos ho, write_is _ (ho5 ho) o2, Option.bind_some, o1]; simp only [toList_data', beq_self_eq_true]
      · rw [if_neg ho]

end Go.Proofs.Ytojecbigcamedaa.Pure
