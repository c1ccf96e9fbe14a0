/- coaminglaw07.GreetFronts: for every input; no conditions. -/
import Derived.Test.YtkpanpekoiadoaaPGreetFrontsx1
import Derived.Test.YtkpanpekoiadoaaGreetM
set_option linter.unusedVariables false
set_option linter.unusedSimpArgs false
namespace Go.Proofs.Ytkpanpekoiadoaa.Pure
open Go.RowKit Go.Proofs.Ytkpanpekoiadoaa Go.Proofs.Ytkpanpekoiadoaa.PGreetFronts Go.Proofs.Ytkpanpekoiadoaa.PBase Go.Proofs.YtkpanpekoiadoaaW.PrintWords Go.Proofs.YtkpanpekoiadoaaW.PrintLast Go.Proofs.YtkpanpekoiadoaaW.PrintMore Go.Proofs.Ytkpanpekoiadoaa.Wi Go.Proofs.Ytkpanpekoiadoaa.Gr

theorem num4 (a b c d : Int) : num [a, b, c, d] = a * 16777216 + b * 65536 + c * 256 + d := by
  simp only [num, List.foldl_cons, List.foldl_nil]
  omega
/-- an option, as bytes -/
def opt (kind : Int) (data : List Int) : List Int := [73, 72, 65, 86, 69, 79, 80, 84, (kind / 16777216) % 256, (kind / 65536) % 256, (kind / 256) % 256, kind % 256, 0, 0, ((data.length : Int) / 256) % 256, (data.length : Int) % 256]
theorem nx_opt (kind : Int) (data more : List Int) (h0 : 0 ≤ kind) (h1 : kind < 4294967296) (hl : data.length ≤ 1024) : nx (opt kind data ++ data ++ more) = (kind, data, 16 + (data.length : Int), 0) := by
  unfold nx
  have e1 : num ((opt kind data ++ data ++ more).take 8) = 5280542401877725268 := by
    show num [73, 72, 65, 86, 69, 79, 80, 84] = _
    decide
  have e2 : num (((opt kind data ++ data ++ more).drop 8).take 4) = kind := by
    show num [(kind / 16777216) % 256, (kind / 65536) % 256, (kind / 256) % 256, kind % 256] = _
    rw [num4]
    omega
  have e3 : num (((opt kind data ++ data ++ more).drop 12).take 4) = (data.length : Int) := by
    show num [0, 0, ((data.length : Int) / 256) % 256, (data.length : Int) % 256] = _
    rw [num4]
    omega
  have e4 : (opt kind data ++ data ++ more).drop 16 = data ++ more := by rw [List.append_assoc]; rfl
  have e5 : (opt kind data ++ data ++ more).length = 16 + data.length + more.length := by simp [opt]; omega
  rw [e1, e2, e3, e4, e5, if_neg (by omega), if_neg (by decide), if_neg (by omega), if_neg (by omega), Int.toNat_natCast, List.take_left]
theorem nx_cut (kind : Int) (data : List Int) (m : Nat) (hl : data.length ≤ 1024) (hm : m < 16 + data.length) : nx ((opt kind data ++ data).take m) = (0, [], 0, 70) := by
  unfold nx
  have e5 : ((opt kind data ++ data).take m).length = m := by rw [List.length_take]; simp [opt]; omega
  rw [e5]
  by_cases c : m < 16
  · rw [if_pos c]
  · obtain ⟨j, rfl⟩ : ∃ j, m = 16 + j := ⟨m - 16, by omega⟩
    have e0 : (opt kind data ++ data).take (16 + j) = opt kind data ++ data.take j := by
      rw [List.take_append, show (opt kind data).length = 16 from rfl, List.take_of_length_le (by show 16 ≤ 16 + j; omega)]
      congr 2
      omega
    have e1 : num ((opt kind data ++ data.take j).take 8) = 5280542401877725268 := by
      show num [73, 72, 65, 86, 69, 79, 80, 84] = _
      decide
    have e3 : num (((opt kind data ++ data.take j).drop 12).take 4) = (data.length : Int) := by
      show num [0, 0, ((data.length : Int) / 256) % 256, (data.length : Int) % 256] = _
      rw [num4]
      omega
    rw [if_neg c, e0, e1, e3, if_neg (by decide), if_neg (by omega), if_pos (by omega)]
theorem GreetFronts : coaminglaw07_GreetFronts.Pure := by
  intro a l1 l2 k ha _ _ hw1 _ _ hw2 hk
  have h1 := bytes_of_wf hw1
  have h2 := bytes_of_wf hw2
  have ha' : 0 ≤ a ∧ a < 4294967296 := by
    simp only [Lit.wf, IntKind.min, IntKind.max, IntKind.signed, IntKind.bits, Bool.and_eq_true, decide_eq_true_eq] at ha
    simp at ha
    omega
  obtain ⟨K, hK⟩ : ∃ K, 900000 ≤ K := ⟨900000, Nat.le_refl _⟩
  refine ⟨K + 1, ?_⟩
  unfold coaminglaw07_GreetFronts.f
  have yes : ∀ q, coaminglaw07_GreetFronts.j0 (q + 1) a l1 l2 k true = some true := fun q => by
    rw [coaminglaw07_GreetFronts.j0, if_pos rfl]; rfl
  by_cases c1 : (l1.length : Int) > 1024
  · rw [if_pos c1]; exact yes K
  · rw [if_neg c1]
    by_cases c2 : (l2.length : Int) > 3000
    · rw [if_pos c2]; exact yes K
    · rw [if_neg c2, show known_.f = some true from rfl, Option.bind_some]
      show coaminglaw07_GreetFronts.j0 (K + 1) a l1 l2 k false = some true
      have hol : (opt a l1).length = 16 := rfl
      have hyl : (opt a l1 ++ l1).length = 16 + l1.length := by rw [List.length_append, hol]
      have hob : Bytes (opt a l1) := by
        intro x hx
        simp only [opt, List.mem_cons, List.not_mem_nil, or_false] at hx
        omega
      have hyb : Bytes (opt a l1 ++ l1) := fun x hx => (List.mem_append.1 hx).elim (hob x) (h1 x)
      have hab : Bytes (opt a l1 ++ l1 ++ l2) := fun x hx => (List.mem_append.1 hx).elim (hyb x) (h2 x)
      have hm0 : 0 ≤ mx k 0 % ((opt a l1 ++ l1).length : Int) := Int.emod_nonneg _ (by omega)
      have hm1 : mx k 0 % ((opt a l1 ++ l1).length : Int) < ((opt a l1 ++ l1).length : Int) := Int.emod_lt_of_pos _ (by omega)
      rw [coaminglaw07_GreetFronts.j0, if_neg (by decide), Option.bind_some]
      change (if (opt a l1).length + l1.length < 140737488355328 then ((some (opt a l1 ++ l1 : List Int)).bind _) else none) = _
      rw [if_pos (by omega), Option.bind_some, lent_bytes _ (by omega), Option.bind_some, if_pos (by omega), next_is _ (by rw [List.length_append]; omega) hab, Option.bind_some, if_neg (by omega)]
      generalize mx k 0 % ((opt a l1 ++ l1).length : Int) = m at *
      obtain ⟨n, rfl⟩ := Int.eq_ofNat_of_zero_le hm0
      rw [if_pos hm0, if_pos (by omega), Int.toNat_natCast, next_is _ (by rw [List.length_take]; omega) (hyb.take _), Option.bind_some, nx_opt a l1 l2 ha'.1 ha'.2 (by omega), nx_cut a l1 n (by omega) (by omega)]
      simp only
      rw [if_pos trivial, if_pos (by omega), if_pos trivial, same_bytes, Option.bind_some, if_pos rfl, if_pos trivial]
      rfl

end Go.Proofs.Ytkpanpekoiadoaa.Pure
