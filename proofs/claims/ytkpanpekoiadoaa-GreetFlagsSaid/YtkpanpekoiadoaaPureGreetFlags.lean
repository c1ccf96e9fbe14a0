/- coaminglaw07.GreetFlags: for every input; no conditions. -/
import Derived.Test.YtkpanpekoiadoaaPGreetFlagsx1
import Derived.Test.YtkpanpekoiadoaaGreetM
set_option linter.unusedVariables false
set_option linter.unusedSimpArgs false
namespace Go.Proofs.Ytkpanpekoiadoaa.Pure
open Go.RowKit Go.Proofs.Ytkpanpekoiadoaa Go.Proofs.Ytkpanpekoiadoaa.PGreetFlags Go.Proofs.Ytkpanpekoiadoaa.PBase Go.Proofs.YtkpanpekoiadoaaW.PrintWords Go.Proofs.YtkpanpekoiadoaaW.PrintLast Go.Proofs.YtkpanpekoiadoaaW.PrintMore Go.Proofs.Ytkpanpekoiadoaa.Wi Go.Proofs.Ytkpanpekoiadoaa.Gr

theorem GreetFlags : coaminglaw07_GreetFlags.Pure := by
  intro a b c d l4 ha hb hc hd _ _ hw4
  have h4 := bytes_of_wf hw4
  have hx : Bytes [a, b, c, d] := bytes_of_wf (fun x hx => by
    simp only [List.mem_cons, List.not_mem_nil, or_false] at hx
    rcases hx with rfl | rfl | rfl | rfl <;> assumption)
  have ra := hx a (by simp)
  have rb := hx b (by simp)
  have rc := hx c (by simp)
  have rd := hx d (by simp)
  obtain ⟨K, hK⟩ : ∃ K, 900000 ≤ K := ⟨900000, Nat.le_refl _⟩
  refine ⟨K + 1, ?_⟩
  unfold coaminglaw07_GreetFlags.f
  have yes : ∀ k, coaminglaw07_GreetFlags.j0 (k + 1) a b c d l4 true = some true := fun k => by
    rw [coaminglaw07_GreetFlags.j0, if_pos rfl]; rfl
  by_cases h : (l4.length : Int) > 3000
  · rw [if_pos h]; exact yes K
  · rw [if_neg h, show known_.f = some true from rfl, Option.bind_some]
    show coaminglaw07_GreetFlags.j0 (K + 1) a b c d l4 false = some true
    have hf : fl ([a, b, c, d] ++ l4) = if a * 16777216 + b * 65536 + c * 256 + d = 1 ∨ a * 16777216 + b * 65536 + c * 256 + d = 3 then (a * 16777216 + b * 65536 + c * 256 + d == 3, 4, 0) else (false, 0, 72) := by
      unfold fl
      have e : num (([a, b, c, d] ++ l4).take 4) = a * 16777216 + b * 65536 + c * 256 + d := by
        show num [a, b, c, d] = _
        simp only [num, List.foldl_cons, List.foldl_nil]
        omega
      rw [if_neg (by simp), e]
    have hg : fl ([a, b, c, d].take 3) = (false, 0, 70) := rfl
    rw [coaminglaw07_GreetFlags.j0, if_neg (by decide), Option.bind_some, lent_bytes _ (by simp), Option.bind_some, if_pos (by simp; omega), flags_is _ (by simp; omega) (fun x hx' => (List.mem_append.1 hx').elim (hx x) (h4 x)), Option.bind_some, if_pos (by simp), flags_is _ (by simp) (hx.take 3), Option.bind_some, hf, hg]
    clear hf hg
    have bad : ¬ (a * 16777216 + b * 65536 + c * 256 + d = 1 ∨ a * 16777216 + b * 65536 + c * 256 + d = 3) → (if (if a * 16777216 + b * 65536 + c * 256 + d = 1 ∨ a * 16777216 + b * 65536 + c * 256 + d = 3 then (a * 16777216 + b * 65536 + c * 256 + d == 3, (4 : Int), (0 : Int)) else (false, 0, 72)).2.2 = 72 then (if (if a * 16777216 + b * 65536 + c * 256 + d = 1 ∨ a * 16777216 + b * 65536 + c * 256 + d = 3 then (a * 16777216 + b * 65536 + c * 256 + d == 3, (4 : Int), (0 : Int)) else (false, 0, 72)).2.1 = 0 then (if (if a * 16777216 + b * 65536 + c * 256 + d = 1 ∨ a * 16777216 + b * 65536 + c * 256 + d = 3 then (a * 16777216 + b * 65536 + c * 256 + d == 3, (4 : Int), (0 : Int)) else (false, 0, 72)).1 = true then (some false) else (some ((70 : Int) == 70))) else (some false)) else (some false)) = some true := by
      intro hn
      rw [if_neg hn]
      rfl
    by_cases ca : a = 0
    · rw [if_pos ca]
      by_cases cb : b = 0
      · rw [if_pos cb]
        by_cases cc : c = 0
        · rw [if_pos cc]
          have e : a * 16777216 + b * 65536 + c * 256 + d = d := by omega
          by_cases c1 : d = 1
          · rw [if_pos c1, e, if_pos (Or.inl c1), c1]; rfl
          · rw [if_neg c1]
            by_cases c3 : d = 3
            · rw [if_pos c3, e, if_pos (Or.inr c3), c3]; rfl
            · rw [if_neg c3]; exact bad (by omega)
        · rw [if_neg cc]; exact bad (by omega)
      · rw [if_neg cb]; exact bad (by omega)
    · rw [if_neg ca]; exact bad (by omega)

end Go.Proofs.Ytkpanpekoiadoaa.Pure
