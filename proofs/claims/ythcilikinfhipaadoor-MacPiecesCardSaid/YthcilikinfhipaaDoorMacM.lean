/- The tag, by definition. -/
import Derived.Test.YthcilikinfhipaaDoorShaEq
import Derived.Test.YthcilikinfhipaaDoorShaK
import Derived.Laws.Closers25b
set_option linter.unusedVariables false
set_option linter.unusedSimpArgs false
namespace Go.Proofs.YthcilikinfhipaaDoor.Sh
open Go.RowKit Go.Proofs.YthcilikinfhipaaDoorW.PrintWords
/-- each byte turned -/
def turn (l : List Int) (t : Int) : List Int := l.map fun x => bits .xor .u8 x t
/-- a key's block -/
def kblock (key : List Int) : List Int := if 64 < key.length then dig key ++ List.replicate 32 0 else key ++ List.replicate (64 - key.length) 0
def hm (key b : List Int) : List Int := dig (turn (kblock key) 92 ++ dig (turn (kblock key) 54 ++ b))
/-- the first pieces, one behind the other -/
def cat (ps : Nat → List Int) : Nat → List Int
  | 0 => []
  | i + 1 => cat ps i ++ ps i
theorem cat_bytes (ps : Nat → List Int) (n : Nat) (h : ∀ i, i < n → Bytes (ps i)) : ∀ i, i ≤ n → Bytes (cat ps i)
  | 0, _ => by intro x hx; cases hx
  | i + 1, hi => by
    intro x hx
    rcases List.mem_append.1 hx with hx | hx
    · exact cat_bytes ps n h i (by omega) x hx
    · exact h i (by omega) x hx
theorem turn_length (l : List Int) (t : Int) : (turn l t).length = l.length := by simp [turn]
theorem turn_bytes (l : List Int) (t : Int) : Bytes (turn l t) := by
  intro x hx
  obtain ⟨y, _, rfl⟩ := List.mem_map.1 hx
  exact ⟨bits_lo_u8 _ _ _, bits_hi_u8 _ _ _⟩
theorem outs_bytes (s : V) : Bytes (outs s) := by
  intro x hx
  simp only [outs, List.mem_map] at hx
  obtain ⟨i, _, rfl⟩ := hx
  omega
theorem dig_bytes (l : List Int) : Bytes (dig l) := outs_bytes _
theorem rep_bytes (n : Nat) : Bytes (List.replicate n 0) := by
  intro x hx
  obtain ⟨_, rfl⟩ := List.mem_replicate.1 hx
  omega
theorem app_bytes {a b : List Int} (ha : Bytes a) (hb : Bytes b) : Bytes (a ++ b) := by
  intro x hx
  rcases List.mem_append.1 hx with h | h
  · exact ha x h
  · exact hb x h
theorem kblock_length (key : List Int) : (kblock key).length = 64 := by
  unfold kblock
  split
  · rw [List.length_append, dig_length, List.length_replicate]
  · rw [List.length_append, List.length_replicate]; omega
theorem kblock_bytes (key : List Int) (h : Bytes key) : Bytes (kblock key) := by
  unfold kblock
  split
  · exact app_bytes (dig_bytes _) (rep_bytes _)
  · exact app_bytes h (rep_bytes _)
/-- the first k bytes are turned -/
def some64 (l : List Int) (t : Int) (k : Nat) : List Int := (turn l t).take k ++ l.drop k
theorem some64_length (l : List Int) (t : Int) (k : Nat) : (some64 l t k).length = l.length := by
  unfold some64; rw [List.length_append, List.length_take, List.length_drop, turn_length]; omega
theorem some64_at (l : List Int) (t : Int) (k : Nat) (hk : k < l.length) : (some64 l t k).getD k 0 = l.getD k 0 ∧ (some64 l t k).set k (bits .xor .u8 (l.getD k 0) t) = some64 l t (k + 1) := by
  have hl : ((turn l t).take k).length = k := by rw [List.length_take, turn_length]; omega
  constructor
  · unfold some64
    rw [List.getD_eq_getElem?_getD, List.getElem?_append_right (by omega), hl, Nat.sub_self, List.getElem?_drop, Nat.add_zero, List.getD_eq_getElem?_getD]
  · unfold some64
    rw [List.set_append_right _ _ (by omega), hl, Nat.sub_self, List.take_add_one, List.drop_eq_getElem_cons hk]
    have : (turn l t)[k]? = some (bits .xor .u8 (l.getD k 0) t) := by
      simp [turn, List.getElem?_map, List.getElem?_eq_getElem hk, List.getD_eq_getElem?_getD]
    rw [this, Option.toList_some, List.append_assoc, List.set_cons_zero]
    rfl
end Go.Proofs.YthcilikinfhipaaDoor.Sh
