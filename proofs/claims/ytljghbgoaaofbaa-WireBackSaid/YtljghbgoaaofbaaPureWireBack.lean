/- coaminglaw06.WireBack: for every input; no conditions. -/
import Derived.Test.YtljghbgoaaofbaaPWireBackx1
import Derived.Test.YtljghbgoaaofbaaWireM
set_option linter.unusedVariables false
set_option linter.unusedSimpArgs false
namespace Go.Proofs.Ytljghbgoaaofbaa.Pure
open Go.RowKit Go.Proofs.Ytljghbgoaaofbaa Go.Proofs.Ytljghbgoaaofbaa.PWireBack Go.Proofs.Ytljghbgoaaofbaa.PBase Go.Proofs.YtljghbgoaaofbaaW.PrintWords Go.Proofs.YtljghbgoaaofbaaW.PrintLast Go.Proofs.YtljghbgoaaofbaaW.PrintMore Go.Proofs.Ytljghbgoaaofbaa.Wi

theorem shl_one (w : Nat) (h : w < 8) : shl .u64 1 (8 * (w : Int)) = 256 ^ w := by
  unfold shl
  have e : (8 * (w : Int)).toNat = 8 * w := by omega
  rw [e, Nat.min_eq_left (by show 8 * w ≤ 64; omega), Int.one_mul, Int.pow_mul]
  have h2 : ((2 : Int) ^ 8) ^ w = 256 ^ w := rfl
  rw [h2, Bt.wraps_u64 _ (Int.le_of_lt (Int.pow_pos (by decide))) (by have := pow256 w h; omega)]
theorem packs_pos : ∀ (ws vs : List Int), ws.length ≤ vs.length → 0 < ws.length → 0 < (packs ws vs).length
  | [], _, _, h => by simp at h
  | w :: ws, [], h, _ => by simp at h
  | w :: ws, v :: vs, _, _ => by have := wd_range w; rw [packs, List.length_append, be_len]; omega
theorem loop_back (l0 l1 : List Int) (h0 : l0.length ≤ 300) (h01 : l0.length ≤ l1.length) (h1 : l1.length ≤ 300) (hv : ∀ x ∈ l1, 0 ≤ x ∧ x < 18446744073709551616) : ∀ (d i : Nat), i + d = l0.length → ∀ F, d + 1 ≤ F →
    coaminglaw06_WireBack.l0 F l0 l1 (packs l0 l1) (cuts l0 l1) i = some true := by
  intro d
  induction d with
  | zero =>
    intro i e F hF
    obtain ⟨F, rfl⟩ : ∃ G, F = G + 1 := ⟨F - 1, by omega⟩
    have hc := cuts_len l0 l1 h01
    have hp := packs_len l0 l1
    rw [coaminglaw06_WireBack.l0, if_neg (by omega)]
    by_cases z : (l0.length : Int) = 0
    · have : l0 = [] := List.eq_nil_of_length_eq_zero (by omega)
      subst this
      rw [if_pos z]; rfl
    · have hpp := packs_pos l0 l1 h01 (by omega)
      have ew : wrap64 (((packs l0 l1).length : Int) - 1) = (((packs l0 l1).length - 1 : Nat) : Int) := by rw [w64 _ (by omega) (by omega)]; omega
      rw [if_neg z, ew, if_pos (by clear ew; omega), if_pos (by clear ew; omega), Int.toNat_natCast]
      clear ew
      rw [take_is _ l0 (by rw [List.length_take]; omega) (by omega) ((packs_bytes l0 l1).take _), Option.bind_some, takes_few l0 l1 [] _ h01 (by rw [List.length_take]; omega)]
      rfl
  | succ d ih =>
    intro i e F hF
    obtain ⟨F, rfl⟩ : ∃ G, F = G + 1 := ⟨F - 1, by omega⟩
    have hc := cuts_len l0 l1 h01
    have hr := cuts_rd l0 l1 i h01 (by omega)
    have hw := wd_range (rd l0 i)
    have hx := hv _ (rd_mem l1 i (by omega))
    have e1 : wrap64 ((i : Int) + 1) = ((i + 1 : Nat) : Int) := by rw [w64 _ (by omega) (by omega)]; omega
    rw [coaminglaw06_WireBack.l0, if_pos (by clear e1; omega), if_pos (by clear e1; omega), if_pos (by clear e1; omega), Width_f, Option.bind_some, if_pos (by clear e1; omega), e1, hr]
    clear e1
    by_cases c : (wd (rd l0 i) : Int) < 8
    · have e2 : wrap64 (8 * (wd (rd l0 i) : Int)) = 8 * (wd (rd l0 i) : Int) := w64 _ (by omega) (by omega)
      rw [if_pos c, e2]
      clear e2
      have e3 : IntKind.u64.wrap (8 * (wd (rd l0 i) : Int)) = 8 * (wd (rd l0 i) : Int) := Bt.wraps_u64 _ (by omega) (by omega)
      rw [e3]
      clear e3
      have hp : (0 : Int) < 256 ^ wd (rd l0 i) := Int.pow_pos (by decide)
      rw [if_pos (by omega), shl_one _ (by omega), if_neg (by omega), Int.tmod_eq_emod_of_nonneg hx.1, if_pos rfl]
      exact ih (i + 1) (by omega) F (by omega)
    · have e8 : wd (rd l0 i) = 8 := by omega
      rw [if_neg c, e8, if_pos (by rw [show (256 : Int) ^ 8 = 18446744073709551616 by decide]; omega)]
      exact ih (i + 1) (by omega) F (by omega)
theorem WireBack : coaminglaw06_WireBack.Pure := by
  intro l0 l1 l2 _ _ _ _ _ hw1 _ _ hw2
  have hb2 := bytes_of_wf hw2
  have hv : ∀ x ∈ l1, 0 ≤ x ∧ x < 18446744073709551616 := fun x hx => by
    have := hw1 x hx
    simp only [Lit.wf, IntKind.min, IntKind.max, IntKind.signed, IntKind.bits, Bool.and_eq_true, decide_eq_true_eq] at this
    simp at this
    omega
  obtain ⟨K, hK⟩ : ∃ K, 900000 ≤ K := ⟨900000, Nat.le_refl _⟩
  refine ⟨K + 2, ?_⟩
  unfold coaminglaw06_WireBack.f
  have yes : ∀ k, coaminglaw06_WireBack.j0 (k + 1) l0 l1 l2 true = some true := fun k => by
    rw [coaminglaw06_WireBack.j0, if_pos rfl]; rfl
  by_cases h : (l0.length : Int) > 300
  · rw [if_pos h]; exact yes _
  · rw [if_neg h]
    by_cases h' : (l1.length : Int) < (l0.length : Int)
    · rw [if_pos h']; exact yes _
    · rw [if_neg h']
      by_cases h2 : (l1.length : Int) > 300
      · rw [if_pos h2]; exact yes _
      · rw [if_neg h2]
        by_cases h3 : (l2.length : Int) > 300
        · rw [if_pos h3]; exact yes _
        · rw [if_neg h3, show known_.f = some true from rfl, Option.bind_some]
          show coaminglaw06_WireBack.j0 (K + 2) l0 l1 l2 false = some true
          have hp := packs_len l0 l1
          have hc := cuts_len l0 l1 (by omega)
          have hbb : Bytes (packs l0 l1 ++ l2) := fun x hx => (List.mem_append.1 hx).elim (packs_bytes l0 l1 x) (hb2 x)
          rw [coaminglaw06_WireBack.j0, if_neg (by decide), pack_is l0 l1 (by omega) (by omega) (K + 1) (by omega), Option.bind_some, lent_bytes _ (by omega), Option.bind_some, if_pos (by omega), take_is _ l0 (by rw [List.length_append]; omega) (by omega) hbb, Option.bind_some, takes_packs l0 l1 l2 [] (by omega) (fun x hx => (hv x hx).1), List.nil_append]
          simp only
          rw [if_pos trivial, if_pos (by rw [hc]), same_bytes, Option.bind_some, coaminglaw06_WireBack.j1, if_neg (by decide)]
          exact loop_back l0 l1 (by omega) (by omega) (by omega) hv l0.length 0 (by omega) K (by omega)

end Go.Proofs.Ytljghbgoaaofbaa.Pure
