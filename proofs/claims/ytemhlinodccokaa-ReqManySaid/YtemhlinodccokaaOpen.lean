/- What comes in, opened by its type: a value that reads as a datum is of a kind. -/
import Derived.Test.YtemhlinodccokaaWWords
import Derived.ChangeArms
import Derived.ChangeSlices
import Derived.ChangeOld
set_option linter.unusedVariables false
set_option linter.unusedSimpArgs false
namespace Go.Proofs.Ytemhlinodccokaa
open Go.RowKit Go.Proofs.YtemhlinodccokaaW.PrintWords
/-- whatever reads as a datum of type t is of kind d, and Wf -/
def Opens {α : Type} (P : Program) (t : TypeId) (d : Kd α) (Wf : α → Prop) : Prop :=
  ∀ {H : Type} (enc : TypeId × Value → H) (w : World) (base : Nat) (spare : Nat → Bool) (held : Bool) (fuel : Nat) (cs : List Value) (x : DataW H × List MemPlace), DataW.trod enc P w base spare held fuel t cs = some x → ∃ a, d.K w a cs ∧ Wf a
section
variable {P : Program}
theorem opens_int {t : TypeId} {k : IntKind} (ht : P.underlying t = some (.int k)) : Opens P t (Kd.int k) (fun n => (Lit.int k n).wf = true) := by
  intro H enc w base spare held fuel cs x h
  obtain ⟨n, rfl, _, hw⟩ := DataW.trod_int ht h
  exact ⟨n, rfl, hw⟩
theorem opens_bool {t : TypeId} (ht : P.underlying t = some .bool) : Opens P t Kd.bool (fun _ => True) := by
  intro H enc w base spare held fuel cs x h
  obtain ⟨n, rfl, _⟩ := DataW.trod_bool ht h
  exact ⟨n, rfl, trivial⟩
theorem opens_string {t : TypeId} (ht : P.underlying t = some .string) : Opens P t Kd.string (fun s => s.size ≤ maxLen) := by
  intro H enc w base spare held fuel cs x h
  obtain ⟨s, rfl, _, hs⟩ := DataW.trod_string ht h
  exact ⟨s, rfl, hs⟩
theorem cells_at {w : World} {base : Nat} {a : Addr} {n : Nat} {cs : List Value} (h : w.cells? base a n = some cs) : ∀ j u, cs[j]? = some u → w.cell? (a.add j) = some u := by
  intro j u hu
  unfold World.cells? at h
  split at h
  · have hj : j < n := by
      have := mapM_some_length h
      have hl := (List.getElem?_eq_some_iff.1 hu).1
      simp at this
      omega
    have := mapM_some_get h j j (by simp [hj])
    rw [this, hu]
  · cases h
theorem opens_slice {α : Type} {d : Kd α} {Wf : α → Prop} {t e : TypeId} (ht : P.underlying t = some (.slice e)) (hs : P.cellsOf e = d.sz) (he : Opens P e d Wf) : Opens P t (Kd.slice e d) (fun xs => xs.length ≤ maxLen ∧ ∀ x ∈ xs, Wf x) := by
  intro H enc w base spare held fuel cs x h
  rcases DataW.trod_slice ht h with ⟨rfl, _⟩ | ⟨a, len, cap, elems, rest, n, rfl, rfl, _, _, hl, hm, hlen, hel, _, _⟩
  · exact ⟨[], ⟨none, 0, rfl, Nat.le_refl _, rfl, by simp, fun h => absurd h (by simp)⟩, by simp, fun x hx => by cases hx⟩
  · have key : ∀ i, i < len → ∃ p : α, Wf p ∧ ∃ c, c.length = d.sz ∧ d.K w p c ∧ ∀ j u, c[j]? = some u → w.cell? (a.add (i * d.sz + j)) = some u := by
      intro i hi
      have h1 := hel i hi
      rw [List.getElem?_eq_getElem (by omega)] at h1
      obtain ⟨c, hc, htr⟩ := Option.bind_eq_some_iff.1 h1
      obtain ⟨p, hK, hW⟩ := he enc w base spare held n c _ htr
      refine ⟨p, hW, c, d.K_len hK, hK, fun j u hu => ?_⟩
      have := cells_at hc j u hu
      rw [hs, add_add] at this
      exact this
    have hmx : maxLen ≤ 9223372036854775807 := by decide
    refine ⟨(List.range len).attach.map (fun i => (key i.1 (List.mem_range.1 i.2)).choose), ⟨some a, cap, by simp, by simp; omega, rfl, by simp; omega, fun _ => ⟨a, rfl, fun j p hj => ?_⟩⟩, by simp; omega, fun x hx => ?_⟩
    · obtain ⟨hj1, hj2⟩ := List.getElem?_eq_some_iff.1 hj
      simp at hj1 hj2
      subst hj2
      obtain ⟨_, c, h1, h2, h3⟩ := (key j hj1).choose_spec
      exact ⟨c, h1, h2, h3⟩
    · obtain ⟨i, _, rfl⟩ := List.mem_map.1 hx
      exact (key i.1 (List.mem_range.1 i.2)).choose_spec.1
theorem pairK {α β : Type} {a : Kd α} {b : Kd β} {w : World} {x : α} {y : β} {cs : List Value} (h0 : a.K w x (cs.take a.sz)) (h1 : b.K w y (cs.drop a.sz)) : (Kd.pair a b).K w (x, y) cs := ⟨_, _, (List.take_append_drop _ _).symm, h0, h1⟩
theorem struct_fields {t : TypeId} {fs : Array Field} (ht : P.underlying t = some (.struct fs)) {H : Type} {enc : TypeId × Value → H} {w : World} {base : Nat} {spare : Nat → Bool} {held : Bool} {fuel : Nat} {cs : List Value} {x : DataW H × List MemPlace} (h : DataW.trod enc P w base spare held fuel t cs = some x) :
    cs.length = P.cellsOf t ∧ ∀ {α : Type} {d : Kd α} {Wf : α → Prop} (i : Nat) (f : Field), fs[i]? = some f → Opens P f.type d Wf → ∃ a, d.K w a ((cs.drop f.offset).take (P.cellsOf f.type)) ∧ Wf a := by
  obtain ⟨xs, n, rfl, _, hl, hxs, hel⟩ := DataW.trod_struct ht h
  refine ⟨hl, fun i f hf ho => ?_⟩
  have h1 := hel i f hf
  have hi : i < xs.length := by
    have := (Array.getElem?_eq_some_iff.1 hf).1
    omega
  rw [List.getElem?_eq_getElem hi] at h1
  exact ho enc w base spare held n _ _ h1
theorem Opens.imp {α : Type} {t : TypeId} {d : Kd α} {Wf Wf' : α → Prop} (h : Opens P t d Wf) (hW : ∀ a, Wf a → Wf' a) : Opens P t d Wf' := fun enc w base spare held fuel cs x hx => by
  obtain ⟨a, hK, hw⟩ := h enc w base spare held fuel cs x hx
  exact ⟨a, hK, hW a hw⟩
end
end Go.Proofs.Ytemhlinodccokaa
