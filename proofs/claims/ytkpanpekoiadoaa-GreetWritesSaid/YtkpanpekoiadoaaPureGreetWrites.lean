/- coaminglaw07.GreetWrites: for every input; no conditions. -/
import Derived.Test.YtkpanpekoiadoaaPGreetWritesx4
import Derived.Test.YtkpanpekoiadoaaGreetM
set_option linter.unusedVariables false
set_option linter.unusedSimpArgs false
namespace Go.Proofs.Ytkpanpekoiadoaa.Pure
open Go.RowKit Go.Proofs.Ytkpanpekoiadoaa Go.Proofs.Ytkpanpekoiadoaa.PGreetWrites Go.Proofs.Ytkpanpekoiadoaa.PBase Go.Proofs.YtkpanpekoiadoaaW.PrintWords Go.Proofs.YtkpanpekoiadoaaW.PrintLast Go.Proofs.YtkpanpekoiadoaaW.PrintMore Go.Proofs.Ytkpanpekoiadoaa.Wi Go.Proofs.Ytkpanpekoiadoaa.Gr

theorem ql1 (x0 x1 : List Int) (i : Nat) (hi : i < x1.length) (hl : x1.length ≤ 1000000) : ∀ (n : Nat), n ≤ 8 → ∀ (K : Nat) (acc : List Int), acc.length + n ≤ 100000000 →
    coamingref06_Pack.l1 (K + n + 1) x0 x1 acc i ((n : Int) - 1) = coamingref06_Pack.l0 K x0 x1 (acc ++ be (rd x1 i) n) (i + 1) := by
  intro n
  induction n with
  | zero =>
    intro _ K acc _
    rw [coamingref06_Pack.l1, if_neg (by omega), be, List.append_nil, w64 _ (by omega) (by omega)]
  | succ n ih =>
    intro hn K acc ha
    rw [coamingref06_Pack.l1, if_pos (by omega), if_pos (by omega), if_pos (by omega)]
    have e : wrap64 (8 * (((n + 1 : Nat) : Int) - 1)) = 8 * (n : Int) := by rw [w64 _ (by omega) (by omega)]; omega
    have e2 : wrap64 (((n + 1 : Nat) : Int) - 1 - 1) = (n : Int) - 1 := by rw [w64 _ (by omega) (by omega)]; omega
    rw [e, e2, Bt.wraps_u64 _ (by omega) (by omega), if_pos (by omega), if_pos (by omega), shr_be _ _ (by omega)]
    rw [show K + (n + 1) = K + n + 1 by omega, ih (by omega) K _ (by simp; omega), be, List.append_assoc]
    rfl
theorem ql0 (x0 x1 : List Int) (m : Nat) (hm : m = min x0.length x1.length) (h0 : x0.length ≤ 1000000) (h1 : x1.length ≤ 1000000) : ∀ (d i : Nat), i + d = m → ∀ (F : Nat) (acc : List Int), 11 * d + 2 ≤ F → acc.length + 8 * d ≤ 10000000 →
    coamingref06_Pack.l0 F x0 x1 acc i = some (acc ++ packs (x0.drop i) (x1.drop i)) := by
  intro d
  induction d with
  | zero =>
    intro i e F acc hF _
    obtain ⟨F, rfl⟩ : ∃ G, F = G + 2 := ⟨F - 2, by omega⟩
    have : packs (x0.drop i) (x1.drop i) = [] := by
      by_cases c : x0.length ≤ i
      · rw [List.drop_eq_nil_of_le c]; rfl
      · rw [show x1.drop i = [] from List.drop_eq_nil_of_le (by omega)]
        cases x0.drop i <;> rfl
    rw [this, List.append_nil, coamingref06_Pack.l0]
    by_cases c : (i : Int) < (x0.length : Int)
    · rw [if_pos c, coamingref06_Pack.j1, if_neg (by simp; omega)]
    · rw [if_neg c, coamingref06_Pack.j1, if_neg (by simp)]
  | succ d ih =>
    intro i e F acc hF ha
    obtain ⟨F, rfl⟩ : ∃ G, F = G + 2 := ⟨F - 2, by omega⟩
    have hw := wd_range (rd x0 i)
    rw [coamingref06_Pack.l0, if_pos (by omega), coamingref06_Pack.j1, if_pos (by simp; omega), if_pos (by omega), if_pos (by omega), Width_f, Option.bind_some, w64 _ (by omega) (by omega)]
    have hF' : F = (F - wd (rd x0 i) - 1) + wd (rd x0 i) + 1 := by omega
    have hbl : ∀ v n, (be v n).length = n := by intro v n; induction n with | zero => rfl | succ n ihn => simp [be, ihn]
    rw [hF', ql1 x0 x1 i (by omega) h1 _ hw.2 _ _ (by omega)]
    have := ih (i + 1) (by omega) (F - wd (rd x0 i) - 1) (acc ++ be (rd x1 i) (wd (rd x0 i))) (by omega) (by rw [List.length_append, hbl]; omega)
    rw [show ((i : Int) + 1) = ((i + 1 : Nat) : Int) by omega, this, rd_drop x0 i (by omega), rd_drop x1 i (by omega), packs, List.append_assoc]
theorem rpack_is (x0 x1 : List Int) (h0 : x0.length ≤ 100000) (h1 : x1.length ≤ 100000) (K : Nat) (hK : 11 * x0.length + 2 ≤ K) : coamingref06_Pack.f K x0 x1 = some (packs x0 x1) := by
  unfold coamingref06_Pack.f
  have := ql0 x0 x1 _ rfl (by omega) (by omega) (min x0.length x1.length) 0 (by omega) K [] (by omega) (by simp; omega)
  simpa using this


theorem flags_same (a b : Int) (r : Bool) : greet_flags.f a b r = coamingref07_flags.f a b r := by
  unfold greet_flags.f coamingref07_flags.f
  cases r
  · rfl
  · rw [if_pos rfl, if_pos rfl]; congr 1
theorem flags_some (a b : Int) (r : Bool) : ∃ t, coamingref07_flags.f a b r = some t := by
  unfold coamingref07_flags.f
  cases r
  · exact ⟨109, rfl⟩
  · exact ⟨111, rfl⟩
theorem old0 : ∀ (d : Nat) (i : Nat), i + d = 124 → ∀ (F : Nat) (acc : List Int), d + 1 ≤ F → acc.length ≤ 100000 + i → coamingref07_Old.l0 F false acc i = some (acc ++ List.replicate d 0) := by
  intro d
  induction d with
  | zero =>
    intro i e F acc hF _
    obtain ⟨F, rfl⟩ : ∃ G, F = G + 1 := ⟨F - 1, by omega⟩
    rw [coamingref07_Old.l0, if_neg (by omega), List.replicate_zero, List.append_nil]
  | succ d ih =>
    intro i e F acc hF ha
    obtain ⟨F, rfl⟩ : ∃ G, F = G + 1 := ⟨F - 1, by omega⟩
    have := ih (i + 1) (by omega) F (acc ++ [0]) (by omega) (by simp; omega)
    rw [coamingref07_Old.l0, if_pos (by omega), w64 _ (by omega) (by omega)]
    rw [if_neg (by decide), if_pos (by omega)]
    refine Eq.trans this ?_
    rw [List.append_assoc]
    rfl
theorem two_packs (ws vs : List Int) (h0 : ws.length ≤ 10) (h1 : vs.length ≤ 10) (K : Nat) (hK : 200 ≤ K) : wire_Pack.f K ws vs = some (packs ws vs) ∧ coamingref06_Pack.f K ws vs = some (packs ws vs) :=
  ⟨pack_is ws vs (by omega) (by omega) K (by omega), rpack_is ws vs (by omega) (by omega) K (by omega)⟩
theorem old_same (a b : Int) (r no : Bool) (K : Nat) (hK : 200 ≤ K) : ∃ l, greet_Old.f K a b r no = some l ∧ coamingref07_Old.f K a b r no = some l := by
  obtain ⟨t, ht⟩ := flags_some a b r
  obtain ⟨p1, p2⟩ := two_packs [8, 2] [b, t] (by simp) (by simp) K hK
  have hl := packs_len [8, 2] [b, t]
  simp only [List.length_cons, List.length_nil] at hl
  unfold greet_Old.f coamingref07_Old.f
  rw [flags_same, ht, Option.bind_some, Option.bind_some, p1, p2, Option.bind_some, Option.bind_some]
  cases no
  · refine ⟨_, ?_, old0 124 0 (by omega) K _ (by omega) (by omega)⟩
    rw [if_neg (by decide), if_pos (by omega)]
  · obtain ⟨K, rfl⟩ : ∃ G, K = G + 1 := ⟨K - 1, by omega⟩
    refine ⟨_, if_pos rfl, ?_⟩
    rw [coamingref07_Old.l0, if_pos (by decide), if_pos rfl]
theorem GreetWrites (a0 a1 : Int) (a2 : Bool) (b c : Int) (l : List Int) (d : Int) (no : Bool) : ∃ k, coaminglaw07_GreetWrites.f k a0 a1 a2 b c l d no = some true := by
  obtain ⟨K, hK⟩ : ∃ K, 900000 ≤ K := ⟨900000, Nat.le_refl _⟩
  refine ⟨K + 2, ?_⟩
  unfold coaminglaw07_GreetWrites.f
  by_cases h : (l.length : Int) > 3000
  · rw [if_pos h]
  · obtain ⟨p1, p2⟩ := two_packs [8, 8, 2] [5639144782019643715, 5280542401877725268, 3] (by simp) (by simp) (K + 2) (by omega)
    obtain ⟨q1, q2⟩ := two_packs [8, 4, 4, 4] [1100100111001001, IntKind.u64.wrap b, IntKind.u64.wrap c, IntKind.u64.wrap (l.length : Int)] (by simp) (by simp) (K + 2) (by omega)
    have hq := packs_len [8, 4, 4, 4] [1100100111001001, IntKind.u64.wrap b, IntKind.u64.wrap c, IntKind.u64.wrap (l.length : Int)]
    simp only [List.length_cons, List.length_nil] at hq
    obtain ⟨t, ht⟩ := flags_some a0 a1 a2
    obtain ⟨r1, r2⟩ := two_packs [2, 8, 2] [0, a1, t] (by simp) (by simp) (K + 1) (by omega)
    obtain ⟨s1, s2⟩ := two_packs [2, 4, 4, 4] [3, 1, IntKind.u64.wrap d, 65536] (by simp) (by simp) (K + 1) (by omega)
    obtain ⟨o, o1, o2⟩ := old_same a0 a1 a2 no K (by omega)
    have e1 : greet_Hello.f (K + 2) = some (packs [8, 8, 2] [5639144782019643715, 5280542401877725268, 3]) := by unfold greet_Hello.f; rw [p1]; rfl
    have e2 : coamingref07_Hello.f (K + 2) = some (packs [8, 8, 2] [5639144782019643715, 5280542401877725268, 3]) := by unfold coamingref07_Hello.f; rw [p2]; rfl
    have e3 : greet_Reply.f (K + 2) b c l = some (packs [8, 4, 4, 4] [1100100111001001, IntKind.u64.wrap b, IntKind.u64.wrap c, IntKind.u64.wrap (l.length : Int)] ++ l) := by unfold greet_Reply.f; rw [q1, Option.bind_some, if_pos (by omega)]
    have e4 : coamingref07_Reply.f (K + 2) b c l = some (packs [8, 4, 4, 4] [1100100111001001, IntKind.u64.wrap b, IntKind.u64.wrap c, IntKind.u64.wrap (l.length : Int)] ++ l) := by unfold coamingref07_Reply.f; rw [q2, Option.bind_some, if_pos (by omega)]
    have e5 : greet_Info.f (K + 1) a0 a1 a2 = some (packs [2, 8, 2] [0, a1, t]) := by unfold greet_Info.f; rw [flags_same, ht, Option.bind_some, r1]; rfl
    have e6 : coamingref07_Info.f (K + 1) a0 a1 a2 = some (packs [2, 8, 2] [0, a1, t]) := by unfold coamingref07_Info.f; rw [ht, Option.bind_some, r2]; rfl
    have e7 : greet_Blocks.f (K + 1) d = some (packs [2, 4, 4, 4] [3, 1, IntKind.u64.wrap d, 65536]) := by unfold greet_Blocks.f; rw [s1]; rfl
    have e8 : coamingref07_Blocks.f (K + 1) d = some (packs [2, 4, 4, 4] [3, 1, IntKind.u64.wrap d, 65536]) := by unfold coamingref07_Blocks.f; rw [s2]; rfl
    rw [if_neg h, e1, Option.bind_some, e2, Option.bind_some, same_bytes, Option.bind_some, if_pos rfl, e3, Option.bind_some, e4, Option.bind_some, same_bytes, Option.bind_some]
    rw [coaminglaw07_GreetWrites.j0, e5, Option.bind_some, e6, Option.bind_some, same_bytes, Option.bind_some, if_pos rfl, e7, Option.bind_some, e8, Option.bind_some, same_bytes, Option.bind_some]
    rw [coaminglaw07_GreetWrites.j1, show known_.f = some true from rfl, Option.bind_some, if_pos rfl, if_pos rfl, if_pos rfl, o1, Option.bind_some, o2, Option.bind_some, same_bytes, Option.bind_some]

end Go.Proofs.Ytkpanpekoiadoaa.Pure
