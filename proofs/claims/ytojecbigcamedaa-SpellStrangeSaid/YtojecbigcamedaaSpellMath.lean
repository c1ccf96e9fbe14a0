/- Five bits a sign: the plain mathematics of spell, without a program. -/
import Derived.Test.YtojecbigcamedaaSpellW
set_option linter.unusedVariables false
set_option linter.unusedSimpArgs false
namespace Go.Proofs.Ytojecbigcamedaa.Sp
open Go.RowKit

def bits8 (x : Int) : List Int := [x / 128 % 2, x / 64 % 2, x / 32 % 2, x / 16 % 2, x / 8 % 2, x / 4 % 2, x / 2 % 2, x % 2]
def bits5 (x : Int) : List Int := [x / 16 % 2, x / 8 % 2, x / 4 % 2, x / 2 % 2, x % 2]
def bitsOf (l : List Int) : List Int := l.flatMap bits8
def enc : List Int → List UInt8
  | [] => []
  | [a] => [sg (16 * a)]
  | [a, b] => [sg (16 * a + 8 * b)]
  | [a, b, c] => [sg (16 * a + 8 * b + 4 * c)]
  | [a, b, c, d] => [sg (16 * a + 8 * b + 4 * c + 2 * d)]
  | a :: b :: c :: d :: e :: r => sg (16 * a + 8 * b + 4 * c + 2 * d + e) :: enc r
def val (l : List Int) : Int := l.foldl (fun h b => 2 * h + b) 0
def Bits (l : List Int) : Prop := ∀ b ∈ l, 0 ≤ b ∧ b ≤ 1
def Bytes (l : List Int) : Prop := ∀ x ∈ l, 0 ≤ x ∧ x ≤ 255

theorem Bits8 (x : Int) : Bits (bits8 x) := by
  intro b hb
  simp only [bits8, List.mem_cons, List.not_mem_nil, or_false] at hb
  omega
theorem Bits5 (x : Int) : Bits (bits5 x) := by
  intro b hb
  simp only [bits5, List.mem_cons, List.not_mem_nil, or_false] at hb
  omega
theorem Bits.append {a b : List Int} (ha : Bits a) (hb : Bits b) : Bits (a ++ b) := fun x hx => (List.mem_append.1 hx).elim (ha x) (hb x)
theorem Bits.left {a b : List Int} (h : Bits (a ++ b)) : Bits a := fun x hx => h x (List.mem_append_left _ hx)
theorem Bits.right {a b : List Int} (h : Bits (a ++ b)) : Bits b := fun x hx => h x (List.mem_append_right _ hx)
theorem Bits.head {a : Int} {l : List Int} (h : Bits (a :: l)) : 0 ≤ a ∧ a ≤ 1 := h a List.mem_cons_self
theorem Bits.tail {a : Int} {l : List Int} (h : Bits (a :: l)) : Bits l := fun x hx => h x (List.mem_cons_of_mem _ hx)
theorem Bytes.head {a : Int} {l : List Int} (h : Bytes (a :: l)) : 0 ≤ a ∧ a ≤ 255 := h a List.mem_cons_self
theorem Bytes.tail {a : Int} {l : List Int} (h : Bytes (a :: l)) : Bytes l := fun x hx => h x (List.mem_cons_of_mem _ hx)
theorem bitsOf_cons (x : Int) (l : List Int) : bitsOf (x :: l) = bits8 x ++ bitsOf l := by simp [bitsOf]
theorem bitsOf_append (a b : List Int) : bitsOf (a ++ b) = bitsOf a ++ bitsOf b := by simp [bitsOf]
theorem bitsOf_length (l : List Int) : (bitsOf l).length = 8 * l.length := by
  induction l with
  | nil => rfl
  | cons x l ih => rw [bitsOf_cons, List.length_append, ih]; simp [bits8]; omega
theorem BitsOf (l : List Int) : Bits (bitsOf l) := by
  induction l with
  | nil => intro b hb; simp [bitsOf] at hb
  | cons x l ih => rw [bitsOf_cons]; exact (Bits8 x).append ih

/-! ### what is written -/
theorem inn8 (h : Int) (o : List UInt8) : spell_Write.inn 3 h 8 o = (o ++ [sg (h / 8 % 32)], 3) := by simp [spell_Write.inn]
theorem inn9 (h : Int) (o : List UInt8) : spell_Write.inn 3 h 9 o = (o ++ [sg (h / 16 % 32)], 4) := by simp [spell_Write.inn]
theorem inn10 (h : Int) (o : List UInt8) : spell_Write.inn 3 h 10 o = (o ++ [sg (h / 32 % 32)] ++ [sg (h % 32)], 0) := by simp [spell_Write.inn]
theorem inn11 (h : Int) (o : List UInt8) : spell_Write.inn 3 h 11 o = (o ++ [sg (h / 64 % 32)] ++ [sg (h / 2 % 32)], 1) := by simp [spell_Write.inn]
theorem inn12 (h : Int) (o : List UInt8) : spell_Write.inn 3 h 12 o = (o ++ [sg (h / 128 % 32)] ++ [sg (h / 4 % 32)], 2) := by simp [spell_Write.inn]

theorem fin_pos (o : List UInt8) (h n : Int) (hn : 0 < n) : spell_Write.fin (o, h, n) = o ++ [sg (h * 2 ^ (5 - n).toNat % 32)] := if_pos hn
set_option maxHeartbeats 2000000 in
theorem go_spec (l : List Int) : ∀ (B : List Int) (o : List UInt8), Bytes l → Bits B → B.length < 5 → spell_Write.fin (spell_Write.go l (val B) B.length o) = o ++ enc (B ++ bitsOf l) := by
  induction l with
  | nil =>
    intro B o _ hB hl
    rw [show bitsOf [] = [] from rfl, List.append_nil]
    match B, hl with
    | [], _ => simp [spell_Write.go, spell_Write.fin, enc]
    | [a], _ =>
      have ha := hB.head
      show spell_Write.fin (o, val [a], 1) = o ++ [sg (16 * a)]
      rw [fin_pos _ _ _ (by decide), show val [a] * 2 ^ ((5 : Int) - 1).toNat % 32 = 16 * a by simp only [val, List.foldl]; show _ * 16 % 32 = _; omega]
    | [a, b], _ =>
      have ha := hB.head; have hb := hB.tail.head
      show spell_Write.fin (o, val [a, b], 2) = o ++ [sg (16 * a + 8 * b)]
      rw [fin_pos _ _ _ (by decide), show val [a, b] * 2 ^ ((5 : Int) - 2).toNat % 32 = 16 * a + 8 * b by simp only [val, List.foldl]; show _ * 8 % 32 = _; omega]
    | [a, b, c], _ =>
      have ha := hB.head; have hb := hB.tail.head; have hc := hB.tail.tail.head
      show spell_Write.fin (o, val [a, b, c], 3) = o ++ [sg (16 * a + 8 * b + 4 * c)]
      rw [fin_pos _ _ _ (by decide), show val [a, b, c] * 2 ^ ((5 : Int) - 3).toNat % 32 = 16 * a + 8 * b + 4 * c by simp only [val, List.foldl]; show _ * 4 % 32 = _; omega]
    | [a, b, c, d], _ =>
      have ha := hB.head; have hb := hB.tail.head; have hc := hB.tail.tail.head; have hd := hB.tail.tail.tail.head
      show spell_Write.fin (o, val [a, b, c, d], 4) = o ++ [sg (16 * a + 8 * b + 4 * c + 2 * d)]
      rw [fin_pos _ _ _ (by decide), show val [a, b, c, d] * 2 ^ ((5 : Int) - 4).toNat % 32 = 16 * a + 8 * b + 4 * c + 2 * d by simp only [val, List.foldl]; show _ * 2 % 32 = _; omega]
  | cons x l ih =>
    intro B o hl hB hb
    have hx := hl.head
    rw [bitsOf_cons]
    match B, hb with
    | [], _ =>
      show spell_Write.fin (spell_Write.go l ((val [] * 256 + x) % 2 ^ (spell_Write.inn 3 (val [] * 256 + x) 8 o).2.toNat) (spell_Write.inn 3 (val [] * 256 + x) 8 o).2 (spell_Write.inn 3 (val [] * 256 + x) 8 o).1) = _
      rw [inn8]
      have e1 : (val [] * 256 + x) % 2 ^ (3 : Int).toNat = val [x / 4 % 2, x / 2 % 2, x % 2] := by simp only [val, List.foldl]; show _ % 8 = _; omega
      have e2 : (val [] * 256 + x) / 8 % 32 = 16 * (x / 128 % 2) + 8 * (x / 64 % 2) + 4 * (x / 32 % 2) + 2 * (x / 16 % 2) + x / 8 % 2 := by simp only [val, List.foldl]; omega
      have h := ih [x / 4 % 2, x / 2 % 2, x % 2] (o ++ [sg (16 * (x / 128 % 2) + 8 * (x / 64 % 2) + 4 * (x / 32 % 2) + 2 * (x / 16 % 2) + x / 8 % 2)]) hl.tail (by intro b hb; simp at hb; omega) (by simp)
      rw [e1, e2]
      refine Eq.trans h ?_
      simp [bits8, enc]
    | [a], _ =>
      have ha := hB.head
      show spell_Write.fin (spell_Write.go l ((val [a] * 256 + x) % 2 ^ (spell_Write.inn 3 (val [a] * 256 + x) 9 o).2.toNat) (spell_Write.inn 3 (val [a] * 256 + x) 9 o).2 (spell_Write.inn 3 (val [a] * 256 + x) 9 o).1) = _
      rw [inn9]
      have e1 : (val [a] * 256 + x) % 2 ^ (4 : Int).toNat = val [x / 8 % 2, x / 4 % 2, x / 2 % 2, x % 2] := by simp only [val, List.foldl]; show _ % 16 = _; omega
      have e2 : (val [a] * 256 + x) / 16 % 32 = 16 * a + 8 * (x / 128 % 2) + 4 * (x / 64 % 2) + 2 * (x / 32 % 2) + x / 16 % 2 := by simp only [val, List.foldl]; omega
      have h := ih [x / 8 % 2, x / 4 % 2, x / 2 % 2, x % 2] (o ++ [sg (16 * a + 8 * (x / 128 % 2) + 4 * (x / 64 % 2) + 2 * (x / 32 % 2) + x / 16 % 2)]) hl.tail (by intro b hb; simp at hb; omega) (by simp)
      rw [e1, e2]
      refine Eq.trans h ?_
      simp [bits8, enc]
    | [a, b], _ =>
      have ha := hB.head; have hb := hB.tail.head
      show spell_Write.fin (spell_Write.go l ((val [a, b] * 256 + x) % 2 ^ (spell_Write.inn 3 (val [a, b] * 256 + x) 10 o).2.toNat) (spell_Write.inn 3 (val [a, b] * 256 + x) 10 o).2 (spell_Write.inn 3 (val [a, b] * 256 + x) 10 o).1) = _
      rw [inn10]
      have e1 : (val [a, b] * 256 + x) % 2 ^ (0 : Int).toNat = val [] := by simp [val]
      have e2 : (val [a, b] * 256 + x) / 32 % 32 = 16 * a + 8 * b + 4 * (x / 128 % 2) + 2 * (x / 64 % 2) + x / 32 % 2 := by simp only [val, List.foldl]; omega
      have e3 : (val [a, b] * 256 + x) % 32 = 16 * (x / 16 % 2) + 8 * (x / 8 % 2) + 4 * (x / 4 % 2) + 2 * (x / 2 % 2) + x % 2 := by simp only [val, List.foldl]; omega
      have h := ih [] (o ++ [sg (16 * a + 8 * b + 4 * (x / 128 % 2) + 2 * (x / 64 % 2) + x / 32 % 2)] ++ [sg (16 * (x / 16 % 2) + 8 * (x / 8 % 2) + 4 * (x / 4 % 2) + 2 * (x / 2 % 2) + x % 2)]) hl.tail (by intro b hb; simp at hb) (by simp)
      rw [e1, e2, e3]
      refine Eq.trans h ?_
      simp [bits8, enc]
    | [a, b, c], _ =>
      have ha := hB.head; have hb := hB.tail.head; have hc := hB.tail.tail.head
      show spell_Write.fin (spell_Write.go l ((val [a, b, c] * 256 + x) % 2 ^ (spell_Write.inn 3 (val [a, b, c] * 256 + x) 11 o).2.toNat) (spell_Write.inn 3 (val [a, b, c] * 256 + x) 11 o).2 (spell_Write.inn 3 (val [a, b, c] * 256 + x) 11 o).1) = _
      rw [inn11]
      have e1 : (val [a, b, c] * 256 + x) % 2 ^ (1 : Int).toNat = val [x % 2] := by simp only [val, List.foldl]; show _ % 2 = _; omega
      have e2 : (val [a, b, c] * 256 + x) / 64 % 32 = 16 * a + 8 * b + 4 * c + 2 * (x / 128 % 2) + x / 64 % 2 := by simp only [val, List.foldl]; omega
      have e3 : (val [a, b, c] * 256 + x) / 2 % 32 = 16 * (x / 32 % 2) + 8 * (x / 16 % 2) + 4 * (x / 8 % 2) + 2 * (x / 4 % 2) + x / 2 % 2 := by simp only [val, List.foldl]; omega
      have h := ih [x % 2] (o ++ [sg (16 * a + 8 * b + 4 * c + 2 * (x / 128 % 2) + x / 64 % 2)] ++ [sg (16 * (x / 32 % 2) + 8 * (x / 16 % 2) + 4 * (x / 8 % 2) + 2 * (x / 4 % 2) + x / 2 % 2)]) hl.tail (by intro b hb; simp at hb; omega) (by simp)
      rw [e1, e2, e3]
      refine Eq.trans h ?_
      simp [bits8, enc]
    | [a, b, c, d], _ =>
      have ha := hB.head; have hb := hB.tail.head; have hc := hB.tail.tail.head; have hd := hB.tail.tail.tail.head
      show spell_Write.fin (spell_Write.go l ((val [a, b, c, d] * 256 + x) % 2 ^ (spell_Write.inn 3 (val [a, b, c, d] * 256 + x) 12 o).2.toNat) (spell_Write.inn 3 (val [a, b, c, d] * 256 + x) 12 o).2 (spell_Write.inn 3 (val [a, b, c, d] * 256 + x) 12 o).1) = _
      rw [inn12]
      have e1 : (val [a, b, c, d] * 256 + x) % 2 ^ (2 : Int).toNat = val [x / 2 % 2, x % 2] := by simp only [val, List.foldl]; show _ % 4 = _; omega
      have e2 : (val [a, b, c, d] * 256 + x) / 128 % 32 = 16 * a + 8 * b + 4 * c + 2 * d + x / 128 % 2 := by simp only [val, List.foldl]; omega
      have e3 : (val [a, b, c, d] * 256 + x) / 4 % 32 = 16 * (x / 64 % 2) + 8 * (x / 32 % 2) + 4 * (x / 16 % 2) + 2 * (x / 8 % 2) + x / 4 % 2 := by simp only [val, List.foldl]; omega
      have h := ih [x / 2 % 2, x % 2] (o ++ [sg (16 * a + 8 * b + 4 * c + 2 * d + x / 128 % 2)] ++ [sg (16 * (x / 64 % 2) + 8 * (x / 32 % 2) + 4 * (x / 16 % 2) + 2 * (x / 8 % 2) + x / 4 % 2)]) hl.tail (by intro b hb; simp at hb; omega) (by simp)
      rw [e1, e2, e3]
      refine Eq.trans h ?_
      simp [bits8, enc]

theorem write_is (l : List Int) (hl : l.length ≤ 1099511627776) (hb : Bytes l) : spell_Write.f l = some ⟨(enc (bitsOf l)).toArray⟩ := by
  unfold spell_Write.f
  rw [if_pos ⟨hl, hb⟩]
  have h := go_spec l [] [] hb (by intro b h; simp at h) (by simp)
  have e : spell_Write.go l (val []) (([] : List Int).length : Nat) [] = spell_Write.go l 0 0 [] := rfl
  rw [e] at h
  rw [h]
  rfl

/-! ### the code's own laws -/
/-- induction in steps of five -/
theorem five {P : List Int → Prop} (h0 : P []) (h1 : ∀ a, P [a]) (h2 : ∀ a b, P [a, b]) (h3 : ∀ a b c, P [a, b, c]) (h4 : ∀ a b c d, P [a, b, c, d])
    (h5 : ∀ a b c d e r, P r → P (a :: b :: c :: d :: e :: r)) : ∀ l, P l
  | [] => h0
  | [a] => h1 a
  | [a, b] => h2 a b
  | [a, b, c] => h3 a b c
  | [a, b, c, d] => h4 a b c d
  | a :: b :: c :: d :: e :: r => h5 a b c d e r (five h0 h1 h2 h3 h4 h5 r)

theorem enc_length (B : List Int) : (enc B).length = (B.length + 4) / 5 := by
  refine five (P := fun B => (enc B).length = (B.length + 4) / 5) rfl (fun _ => by simp [enc]) (fun _ _ => by simp [enc]) (fun _ _ _ => by simp [enc]) (fun _ _ _ _ => by simp [enc]) ?_ B
  intro a b c d e r ih
  simp only [enc, List.length_cons, ih]
  omega
/-- one sign, the bits that lack being 0 -/
theorem enc_step (B : List Int) (h : B ≠ []) : enc B = sg (16 * B.getD 0 0 + 8 * B.getD 1 0 + 4 * B.getD 2 0 + 2 * B.getD 3 0 + B.getD 4 0) :: enc (B.drop 5) := by
  match B, h with
  | [a], _ => simp [enc]
  | [a, b], _ => simp [enc]
  | [a, b, c], _ => simp [enc]
  | [a, b, c, d], _ => simp [enc]
  | a :: b :: c :: d :: e :: r, _ => simp [enc]
/-- what stands behind makes no difference to whole signs -/
theorem enc_take (B C : List Int) : (enc (B ++ C)).take (B.length / 5) = (enc B).take (B.length / 5) := by
  refine five (P := fun B => (enc (B ++ C)).take (B.length / 5) = (enc B).take (B.length / 5)) rfl (fun _ => by simp [enc]) (fun _ _ => by simp [enc]) (fun _ _ _ => by simp [enc]) (fun _ _ _ _ => by simp [enc]) ?_ B
  intro a b c d e r ih
  have h1 : (a :: b :: c :: d :: e :: r).length / 5 = r.length / 5 + 1 := by simp only [List.length_cons]; omega
  rw [h1]
  simp only [List.cons_append, enc, List.take_succ_cons, ih]
theorem sg_inj : ∀ i j : Int, 0 ≤ i → i < 32 → 0 ≤ j → j < 32 → sg i = sg j → i = j := by
  have h : ∀ i j : Fin 32, sg (i.val : Int) = sg (j.val : Int) → i = j := by decide
  intro i j h0 h1 h2 h3 e
  have := h ⟨i.toNat, by omega⟩ ⟨j.toNat, by omega⟩ (by show sg ((i.toNat : Nat) : Int) = sg ((j.toNat : Nat) : Int); rw [Int.toNat_of_nonneg h0, Int.toNat_of_nonneg h2]; exact e)
  have h4 : i.toNat = j.toNat := congrArg Fin.val this
  omega
/-- noughts that fill up the last sign make no difference -/
theorem enc_pad (B : List Int) : ∀ z, z < 5 → (B.length + z) % 5 = 0 → enc (B ++ List.replicate z 0) = enc B := by
  refine five (P := fun B => ∀ z, z < 5 → (B.length + z) % 5 = 0 → enc (B ++ List.replicate z 0) = enc B) ?_ ?_ ?_ ?_ ?_ ?_ B
  · intro z hz h; obtain rfl : z = 0 := by simp at h; omega
    rfl
  · intro a z hz h; obtain rfl : z = 4 := by simp at h; omega
    simp [enc, List.replicate]
  · intro a b z hz h; obtain rfl : z = 3 := by simp at h; omega
    simp [enc, List.replicate]
  · intro a b c z hz h; obtain rfl : z = 2 := by simp at h; omega
    simp [enc, List.replicate]
  · intro a b c d z hz h; obtain rfl : z = 1 := by simp at h; omega
    simp [enc, List.replicate]
  · intro a b c d e r ih z hz h
    simp only [List.cons_append, enc]
    rw [ih z hz (by simp only [List.length_cons] at h; omega)]
theorem val_zero (R : List Int) (h : Bits R) (hv : val R = 0) : R = List.replicate R.length 0 := by
  have key : ∀ (R : List Int) (a : Int), Bits R → 0 ≤ a → R.foldl (fun h b => 2 * h + b) a = 0 → a = 0 ∧ R = List.replicate R.length 0 := by
    intro R
    induction R with
    | nil => intro a _ _ h; exact ⟨h, rfl⟩
    | cons b R ih =>
      intro a hb ha h
      obtain ⟨h1, h2⟩ := ih (2 * a + b) hb.tail (by have := hb.head; omega) h
      have := hb.head
      refine ⟨by omega, ?_⟩
      obtain rfl : b = 0 := by omega
      rw [List.length_cons, List.replicate_succ, ← h2]
  exact (key R 0 h (Int.le_refl _) hv).2
theorem val_replicate (n : Nat) : val (List.replicate n 0) = 0 := by
  have key : ∀ n, (List.replicate n (0 : Int)).foldl (fun h b => 2 * h + b) 0 = 0 := by
    intro n
    induction n with
    | zero => rfl
    | succ n ih => rw [List.replicate_succ, List.foldl_cons]; exact ih
  exact key n
/-- if signs are the same although bits stand behind, these fill up the last sign and are noughts -/
theorem enc_same (B : List Int) : ∀ R, Bits B → Bits R → (B.length + R.length) % 5 = 0 → enc (B ++ R) = enc B → R.length < 5 ∧ val R = 0 := by
  refine five (P := fun B => ∀ R, Bits B → Bits R → (B.length + R.length) % 5 = 0 → enc (B ++ R) = enc B → R.length < 5 ∧ val R = 0) ?_ ?_ ?_ ?_ ?_ ?_ B
  · intro R _ _ _ h
    have h1 := congrArg List.length h
    rw [List.nil_append, enc_length] at h1
    have : R = [] := List.eq_nil_of_length_eq_zero (by simp [enc] at h1; omega)
    subst this
    exact ⟨by simp, rfl⟩
  · intro a R hB hR hl h
    have h1 := congrArg List.length h
    rw [enc_length] at h1
    simp [enc] at h1 hl
    match R, hR, h, (by omega : R.length = 4) with
    | [p, q, r, s], hR, h, _ =>
      have ha := hB.head; have hp := hR.head; have hq := hR.tail.head; have hr := hR.tail.tail.head; have hs := hR.tail.tail.tail.head
      simp only [List.cons_append, List.nil_append, enc, List.cons.injEq, and_true] at h
      have := sg_inj _ _ (by omega) (by omega) (by omega) (by omega) h
      exact ⟨by simp, by simp only [val, List.foldl]; omega⟩
  · intro a b R hB hR hl h
    have h1 := congrArg List.length h
    rw [enc_length] at h1
    simp [enc] at h1 hl
    match R, hR, h, (by omega : R.length = 3) with
    | [q, r, s], hR, h, _ =>
      have ha := hB.head; have hb := hB.tail.head; have hq := hR.head; have hr := hR.tail.head; have hs := hR.tail.tail.head
      simp only [List.cons_append, List.nil_append, enc, List.cons.injEq, and_true] at h
      have := sg_inj _ _ (by omega) (by omega) (by omega) (by omega) h
      exact ⟨by simp, by simp only [val, List.foldl]; omega⟩
  · intro a b c R hB hR hl h
    have h1 := congrArg List.length h
    rw [enc_length] at h1
    simp [enc] at h1 hl
    match R, hR, h, (by omega : R.length = 2) with
    | [r, s], hR, h, _ =>
      have ha := hB.head; have hb := hB.tail.head; have hc := hB.tail.tail.head; have hr := hR.head; have hs := hR.tail.head
      simp only [List.cons_append, List.nil_append, enc, List.cons.injEq, and_true] at h
      have := sg_inj _ _ (by omega) (by omega) (by omega) (by omega) h
      exact ⟨by simp, by simp only [val, List.foldl]; omega⟩
  · intro a b c d R hB hR hl h
    have h1 := congrArg List.length h
    rw [enc_length] at h1
    simp [enc] at h1 hl
    match R, hR, h, (by omega : R.length = 1) with
    | [s], hR, h, _ =>
      have ha := hB.head; have hb := hB.tail.head; have hc := hB.tail.tail.head; have hd := hB.tail.tail.tail.head; have hs := hR.head
      simp only [List.cons_append, List.nil_append, enc, List.cons.injEq, and_true] at h
      have := sg_inj _ _ (by omega) (by omega) (by omega) (by omega) h
      exact ⟨by simp, by simp only [val, List.foldl]; omega⟩
  · intro a b c d e r ih R hB hR hl h
    simp only [List.cons_append, enc, List.cons.injEq, true_and] at h
    exact ih R hB.tail.tail.tail.tail.tail hR (by simp only [List.length_cons] at hl; omega) h

/-! ### what is read -/
/-- a sign's number -/
def dg (c : Int) : Option Int := if 97 ≤ c ∧ c ≤ 122 then some (c - 97) else if 50 ≤ c ∧ c ≤ 55 then some (c - 50 + 26) else none
def digits : List Int → Option (List Int)
  | [] => some []
  | c :: cs => (dg c).bind fun d => (digits cs).map (d :: ·)
/-- bytes as soon as there are eight bits -/
def take8 : List Int → List Int → List Int → List Int × List Int
  | [], o, R => (o, R)
  | d :: ds, o, R => if 8 ≤ R.length + 5 then take8 ds (o ++ [val ((R ++ bits5 d).take 8)]) ((R ++ bits5 d).drop 8) else take8 ds o (R ++ bits5 d)
theorem dg_range {c d : Int} (h : dg c = some d) : 0 ≤ d ∧ d < 32 := by
  unfold dg at h
  split at h
  · obtain rfl := Option.some.inj h; omega
  · split at h
    · obtain rfl := Option.some.inj h; omega
    · cases h
theorem sg_dg {c d : Int} (h : dg c = some d) : ((sg d).toNat : Int) = c := by
  have h1 : ∀ i : Fin 26, ((sg (i.val : Int)).toNat : Int) = i.val + 97 := by decide
  have h2 : ∀ i : Fin 6, ((sg ((i.val : Int) + 26)).toNat : Int) = i.val + 50 := by decide
  unfold dg at h
  split at h
  · obtain rfl := Option.some.inj h
    have := h1 ⟨(c - 97).toNat, by omega⟩
    simp only [Int.toNat_of_nonneg (show 0 ≤ c - 97 by omega)] at this
    omega
  · split at h
    · obtain rfl := Option.some.inj h
      have := h2 ⟨(c - 50).toNat, by omega⟩
      simp only [Int.toNat_of_nonneg (show 0 ≤ c - 50 by omega)] at this
      omega
    · cases h
theorem dg_sg (d : Int) (h0 : 0 ≤ d) (h1 : d < 32) : dg ((sg d).toNat : Int) = some d := by
  have h : ∀ i : Fin 32, dg ((sg (i.val : Int)).toNat : Int) = some (i.val : Int) := by decide
  have := h ⟨d.toNat, by omega⟩
  simpa only [Int.toNat_of_nonneg h0] using this
theorem val8 (a b c d e f g h : Int) (ha : 0 ≤ a ∧ a ≤ 1) (hb : 0 ≤ b ∧ b ≤ 1) (hc : 0 ≤ c ∧ c ≤ 1) (hd : 0 ≤ d ∧ d ≤ 1) (he : 0 ≤ e ∧ e ≤ 1) (hf : 0 ≤ f ∧ f ≤ 1) (hg : 0 ≤ g ∧ g ≤ 1) (hh : 0 ≤ h ∧ h ≤ 1) :
    bits8 (val [a, b, c, d, e, f, g, h]) = [a, b, c, d, e, f, g, h] ∧ 0 ≤ val [a, b, c, d, e, f, g, h] ∧ val [a, b, c, d, e, f, g, h] ≤ 255 := by
  have e : val [a, b, c, d, e, f, g, h] = 128 * a + 64 * b + 32 * c + 16 * d + 8 * e + 4 * f + 2 * g + h := by simp only [val, List.foldl]; omega
  rw [e]
  refine ⟨?_, by omega, by omega⟩
  simp only [bits8, List.cons.injEq, and_true]
  refine ⟨?_, ?_, ?_, ?_, ?_, ?_, ?_, ?_⟩ <;> omega
theorem val8_of (B : List Int) (hB : Bits B) (hl : B.length = 8) : bits8 (val B) = B ∧ 0 ≤ val B ∧ val B ≤ 255 := by
  match B, hl with
  | [a, b, c, d, e, f, g, h], _ => exact val8 a b c d e f g h hB.head hB.tail.head hB.tail.tail.head hB.tail.tail.tail.head hB.tail.tail.tail.tail.head hB.tail.tail.tail.tail.tail.head hB.tail.tail.tail.tail.tail.tail.head hB.tail.tail.tail.tail.tail.tail.tail.head
/-- nothing is lost -/
theorem take8_spec (ds : List Int) : ∀ o R, Bits R → R.length < 8 → Bytes o → bitsOf (take8 ds o R).1 ++ (take8 ds o R).2 = bitsOf o ++ R ++ ds.flatMap bits5 ∧ Bits (take8 ds o R).2 ∧ (take8 ds o R).2.length < 8 ∧ Bytes (take8 ds o R).1 ∧ (take8 ds o R).1.length ≤ o.length + ds.length := by
  induction ds with
  | nil => intro o R hR hl ho; simp [take8, hR, hl, ho]
  | cons d ds ih =>
    intro o R hR hl ho
    have hb : Bits (R ++ bits5 d) := hR.append (Bits5 d)
    have hlen : (R ++ bits5 d).length = R.length + 5 := by simp [bits5]
    rw [take8]
    split
    · rename_i h8
      have hb' : Bits ((R ++ bits5 d).take 8 ++ (R ++ bits5 d).drop 8) := by rw [List.take_append_drop]; exact hb
      obtain ⟨h1, h2, h3⟩ := val8_of _ hb'.left (by rw [List.length_take, hlen]; omega)
      obtain ⟨i1, i2, i3, i4, i5⟩ := ih (o ++ [val ((R ++ bits5 d).take 8)]) ((R ++ bits5 d).drop 8) hb'.right (by rw [List.length_drop, hlen]; omega) (fun x hx => by
        rcases List.mem_append.1 hx with hx | hx
        · exact ho x hx
        · rw [List.mem_singleton.1 hx]; exact ⟨h2, h3⟩)
      refine ⟨?_, i2, i3, i4, ?_⟩
      · rw [i1, bitsOf_append]
        have e : bitsOf [val ((R ++ bits5 d).take 8)] = (R ++ bits5 d).take 8 := by rw [bitsOf_cons, h1]; simp [bitsOf]
        rw [e]
        simp only [List.flatMap_cons]
        have : (R ++ bits5 d).take 8 ++ (R ++ bits5 d).drop 8 = R ++ bits5 d := List.take_append_drop 8 _
        rw [List.append_assoc (bitsOf o), this]
        simp [List.append_assoc]
      · simp at i5 ⊢; omega
    · obtain ⟨i1, i2, i3, i4, i5⟩ := ih o (R ++ bits5 d) hb (by rw [hlen]; omega) ho
      refine ⟨?_, i2, i3, i4, by simp; omega⟩
      rw [i1]
      simp [List.append_assoc]
theorem enc_digits (ds : List Int) (h : ∀ d ∈ ds, 0 ≤ d ∧ d < 32) : enc (ds.flatMap bits5) = ds.map sg := by
  induction ds with
  | nil => rfl
  | cons d ds ih =>
    have hd := h d List.mem_cons_self
    simp only [List.flatMap_cons, bits5, List.cons_append, List.nil_append, enc, List.map_cons]
    rw [show 16 * (d / 16 % 2) + 8 * (d / 8 % 2) + 4 * (d / 4 % 2) + 2 * (d / 2 % 2) + d % 2 = d by omega]
    congr 1
    exact ih (fun x hx => h x (List.mem_cons_of_mem _ hx))
theorem digits_of {cs ds : List Int} (h : digits cs = some ds) : (∀ d ∈ ds, 0 ≤ d ∧ d < 32) ∧ ds.map (fun d => ((sg d).toNat : Int)) = cs ∧ ds.length = cs.length := by
  induction cs generalizing ds with
  | nil => obtain rfl := Option.some.inj h; simp
  | cons c cs ih =>
    unfold digits at h
    obtain ⟨d, hd, h⟩ := Option.bind_eq_some_iff.1 h
    obtain ⟨ds', hds, rfl⟩ := Option.map_eq_some_iff.1 h
    obtain ⟨i1, i2, i3⟩ := ih hds
    refine ⟨?_, ?_, by simp [i3]⟩
    · intro x hx
      rcases List.mem_cons.1 hx with rfl | hx
      · exact dg_range hd
      · exact i1 x hx
    · rw [List.map_cons, i2, sg_dg hd]
theorem digits_map (ds : List Int) (h : ∀ d ∈ ds, 0 ≤ d ∧ d < 32) : digits (ds.map fun d => ((sg d).toNat : Int)) = some ds := by
  induction ds with
  | nil => rfl
  | cons d ds ih =>
    have hd := h d List.mem_cons_self
    rw [List.map_cons, digits, dg_sg d hd.1 hd.2, ih (fun x hx => h x (List.mem_cons_of_mem _ hx))]
    rfl
theorem flat5_length (ds : List Int) : (ds.flatMap bits5).length = 5 * ds.length := by
  induction ds with
  | nil => rfl
  | cons d ds ih => simp only [List.flatMap_cons, List.length_append, ih, bits5, List.length_cons, List.length_nil]; omega
/-- THE ANSWER: the bytes, if what is left are fewer than five noughts -/
def readOf (cs : List Int) : List Int × Int := match digits cs with
  | none => ([], 40)
  | some ds => if 5 ≤ (take8 ds [] []).2.length then ([], 40) else if val (take8 ds [] []).2 = 0 then ((take8 ds [] []).1, 0) else ([], 40)
/-- .. and that is so just if the bytes are written so -/
theorem read_back {cs ds : List Int} (h : digits cs = some ds) : (enc (bitsOf (take8 ds [] []).1) = ds.map sg ↔ (take8 ds [] []).2.length < 5 ∧ val (take8 ds [] []).2 = 0) := by
  obtain ⟨h1, h2, h3⟩ := digits_of h
  obtain ⟨t1, t2, t3, t4, t5⟩ := take8_spec ds [] [] (by intro b h; simp at h) (by simp) (by intro b h; simp at h)
  have t1' : bitsOf (take8 ds [] []).1 ++ (take8 ds [] []).2 = ds.flatMap bits5 := by simpa [bitsOf] using t1
  have hlen : ((bitsOf (take8 ds [] []).1).length + (take8 ds [] []).2.length) % 5 = 0 := by rw [← List.length_append, t1', flat5_length]; omega
  have he : enc (bitsOf (take8 ds [] []).1 ++ (take8 ds [] []).2) = ds.map sg := by rw [t1', enc_digits ds h1]
  constructor
  · intro hs
    exact enc_same _ _ (BitsOf _) t2 hlen (he.trans hs.symm)
  · intro ⟨hs, hv⟩
    rw [← he]
    have hz := val_zero _ t2 hv
    rw [hz]
    exact (enc_pad _ _ hs hlen).symm
theorem bitsOf_inj : ∀ a b : List Int, Bytes a → Bytes b → bitsOf a = bitsOf b → a = b := by
  intro a
  induction a with
  | nil => intro b _ _ h; cases b with
    | nil => rfl
    | cons y b => rw [bitsOf_cons] at h; simp [bitsOf, bits8] at h
  | cons x a ih =>
    intro b ha hb h
    cases b with
    | nil => rw [bitsOf_cons] at h; simp [bitsOf, bits8] at h
    | cons y b =>
      have hx := ha.head; have hy := hb.head
      rw [bitsOf_cons, bitsOf_cons] at h
      simp only [bits8, List.cons_append, List.nil_append, List.cons.injEq] at h
      obtain ⟨e1, e2, e3, e4, e5, e6, e7, e8, h⟩ := h
      rw [ih b ha.tail hb.tail h]
      congr 1
      omega
/-- five by five, from the end filled up with noughts -/
theorem enc_is_digits (B : List Int) (hB : Bits B) : ∃ ds : List Int, ∃ z, z < 5 ∧ (∀ d ∈ ds, 0 ≤ d ∧ d < 32) ∧ enc B = ds.map sg ∧ ds.flatMap bits5 = B ++ List.replicate z 0 := by
  have key : Bits B → ∃ ds : List Int, ∃ z, z < 5 ∧ (∀ d ∈ ds, 0 ≤ d ∧ d < 32) ∧ enc B = ds.map sg ∧ ds.flatMap bits5 = B ++ List.replicate z 0 := by
    refine five (P := fun B => Bits B → ∃ ds : List Int, ∃ z, z < 5 ∧ (∀ d ∈ ds, 0 ≤ d ∧ d < 32) ∧ enc B = ds.map sg ∧ ds.flatMap bits5 = B ++ List.replicate z 0) ?_ ?_ ?_ ?_ ?_ ?_ B
    · intro _; exact ⟨[], 0, by decide, by simp, rfl, rfl⟩
    · intro a h
      have ha := h.head
      refine ⟨[16 * a], 4, by decide, by intro d hd; rw [List.mem_singleton.1 hd]; omega, rfl, ?_⟩
      simp only [List.flatMap_cons, List.flatMap_nil, List.append_nil, bits5, List.cons_append, List.nil_append, List.replicate, List.cons.injEq, and_true]
      omega
    · intro a b h
      have ha := h.head; have hb := h.tail.head
      refine ⟨[16 * a + 8 * b], 3, by decide, by intro d hd; rw [List.mem_singleton.1 hd]; omega, rfl, ?_⟩
      simp only [List.flatMap_cons, List.flatMap_nil, List.append_nil, bits5, List.cons_append, List.nil_append, List.replicate, List.cons.injEq, and_true]
      omega
    · intro a b c h
      have ha := h.head; have hb := h.tail.head; have hc := h.tail.tail.head
      refine ⟨[16 * a + 8 * b + 4 * c], 2, by decide, by intro d hd; rw [List.mem_singleton.1 hd]; omega, rfl, ?_⟩
      simp only [List.flatMap_cons, List.flatMap_nil, List.append_nil, bits5, List.cons_append, List.nil_append, List.replicate, List.cons.injEq, and_true]
      omega
    · intro a b c d h
      have ha := h.head; have hb := h.tail.head; have hc := h.tail.tail.head; have hd := h.tail.tail.tail.head
      refine ⟨[16 * a + 8 * b + 4 * c + 2 * d], 1, by decide, by intro d hd; rw [List.mem_singleton.1 hd]; omega, rfl, ?_⟩
      simp only [List.flatMap_cons, List.flatMap_nil, List.append_nil, bits5, List.cons_append, List.nil_append, List.replicate, List.cons.injEq, and_true]
      omega
    · intro a b c d e r ih h
      have ha := h.head; have hb := h.tail.head; have hc := h.tail.tail.head; have hd := h.tail.tail.tail.head; have he := h.tail.tail.tail.tail.head
      obtain ⟨ds, z, hz, h1, h2, h3⟩ := ih h.tail.tail.tail.tail.tail
      refine ⟨(16 * a + 8 * b + 4 * c + 2 * d + e) :: ds, z, hz, ?_, ?_, ?_⟩
      · intro x hx
        rcases List.mem_cons.1 hx with rfl | hx
        · omega
        · exact h1 x hx
      · simp only [enc, List.map_cons, h2]
      · simp only [List.flatMap_cons, h3, bits5, List.cons_append, List.nil_append, List.cons.injEq, and_true]
        omega
  exact key hB
/-- what is written is read -/
theorem read_written (l : List Int) (hl : Bytes l) : readOf ((enc (bitsOf l)).map fun c => (c.toNat : Int)) = (l, 0) := by
  obtain ⟨ds, z, hz, h1, h2, h3⟩ := enc_is_digits _ (BitsOf l)
  rw [h2, List.map_map]
  unfold readOf
  have hd : digits (List.map ((fun c => (c.toNat : Int)) ∘ sg) ds) = some ds := digits_map ds h1
  rw [hd]
  obtain ⟨t1, t2, t3, t4, t5⟩ := take8_spec ds [] [] (by intro b h; simp at h) (by simp) (by intro b h; simp at h)
  have t1' : bitsOf (take8 ds [] []).1 ++ (take8 ds [] []).2 = bitsOf l ++ List.replicate z 0 := by rw [← h3]; simpa [bitsOf] using t1
  have hlen := congrArg List.length t1'
  simp only [List.length_append, bitsOf_length, List.length_replicate] at hlen
  have e1 : (take8 ds [] []).1.length = l.length := by omega
  have e2 : (take8 ds [] []).2.length = z := by omega
  have e3 := List.append_inj t1' (by rw [bitsOf_length, bitsOf_length, e1])
  have e4 : (take8 ds [] []).1 = l := bitsOf_inj _ _ t4 hl e3.1
  dsimp only
  rw [if_neg (by omega), e3.2, val_replicate, if_pos rfl, e4]

end Go.Proofs.Ytojecbigcamedaa.Sp
