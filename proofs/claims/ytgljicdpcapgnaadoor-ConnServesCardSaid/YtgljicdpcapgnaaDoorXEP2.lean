/- What the law's proof stands on, part 2: Rg, Bits, SpellW, SpellMath, Clone, WireN, WireT, Lit, WireK, WireP, PBasex0, PBasex1, PBasex2 (laid together by wip/pack.py). -/
import Derived.Test.YtgljicdpcapgnaaDoorProg
import Derived.Test.YtgljicdpcapgnaaDoorXEP1
import Derived.Outline
import Derived.WalkSpells
import Derived.Laws.EntriesVeiled
import Derived.WalkLawsBesides
import Derived.Recover
import Derived.Deep.DeepFit
import Derived.Lib.Slices
set_option linter.unusedVariables false
namespace Go.Proofs.YtgljicdpcapgnaaDoor
open Go.RowKit Go.Proofs.YtgljicdpcapgnaaDoorW.PrintWords Go.Proofs.YtgljicdpcapgnaaDoorW.PrintLast
namespace Rg
section
variable {P : Program} {md : Region.Mode} {ops : Array Oper} {Q : Exit → Act → World → Prop} {S : World → Prop} {ds : List Nat}
theorem s1 {id : Nat} {a : Act} {w : World} (n : Nat) (S : World → Prop) (ds : List Nat) (hS : S w.drew) (l : Array Bool) (h : S w.drew → wpAnyLast P .any ops Q S ds n l a w.drew) (hm : P.follows .mixedOrders = true := by kernel_rfl) (hn : ops.size = n := by rfl) (hl : Array.replicate n false = l := by rfl) : (Code.region id ops true).wp P Q a w :=
  start_ l hm hn hl hS h
variable {oi : Oper} {v : Value} {fuel : Nat} {l l' : Array Bool} {a a' : Act} {w : World}
theorem p1 (i : Nat) (N : Option Tmp) (h : wpAnyLast P md ops Q S ds fuel l' a' w) (hl : l.setIfInBounds i true = l' := by simp only [List.setIfInBounds_toArray, List.set_cons_zero, List.set_cons_succ]; rfl) (hi : ops[i]? = some oi := by rfl) (hN : oi.dst = N := by rfl) (hc : anyB md ops l l' i = true := by kernel_rfl) (hQ : ∀ c a w, Q (.panic c) (a.put oi.dst v) w → Q (.panic c) a w := by exact fun _ _ _ h => h)
    (hg : Region.wanted oi (yielded ops a.tmps) = true := by rfl)
    (hy : ∀ w', (execOp a.eval oi).run P w' = .ok (.value v) w' := by intro w'; go_simp; first | done | with_reducible rfl) (ha : a.put N v = a' := by simp only [Act.put, List.setIfInBounds_toArray, List.set_cons_zero, List.set_cons_succ]; rfl) : wpAnyLast P md ops Q S ds (fuel + 1) l a w :=
  pure_ l' hi hN hc hQ (.inl ⟨hg, hy⟩) ha h
theorem p2 (i : Nat) (N : Option Tmp) (h : wpAnyLast P md ops Q S ds fuel l' a' w) (hl : l.setIfInBounds i true = l' := by simp only [List.setIfInBounds_toArray, List.set_cons_zero, List.set_cons_succ]; rfl) (hi : ops[i]? = some oi := by rfl) (hN : oi.dst = N := by rfl) (hc : anyB md ops l l' i = true := by kernel_rfl) (hQ : ∀ c a w, Q (.panic c) (a.put oi.dst v) w → Q (.panic c) a w := by exact fun _ _ _ h => h)
    (hg : Region.wanted oi (yielded ops a.tmps) = true := by rfl)
    (hy : ∀ w', (execOp a.eval oi).run P w' = .ok (.value v) w' := by intro w'; go_simp; with_reducible rfl) (ha : a.put N v = a' := by simp only [Act.put, List.setIfInBounds_toArray, List.set_cons_zero, List.set_cons_succ, i64_w, i32_w]; rfl) : wpAnyLast P md ops Q S ds (fuel + 1) l a w :=
  pure_ l' hi hN hc hQ (.inl ⟨hg, hy⟩) ha h
theorem t2 (i : Nat) (N : Option Tmp) (hS : S w) (h : wpAnyLast P md ops Q S ds fuel l' a' w) (hl : l.setIfInBounds i true = l' := by simp only [List.setIfInBounds_toArray, List.set_cons_zero, List.set_cons_succ]; rfl) (hi : ops[i]? = some oi := by rfl) (hN : oi.dst = N := by rfl) (hc : takeB md ops ds l l' i = true := by kernel_rfl) (hQ : ∀ c a w, Q (.panic c) (a.put oi.dst v) w → Q (.panic c) a w := by exact fun _ _ _ h => h)
    (hg : Region.wanted oi (yielded ops a.tmps) = true := by rfl) (hy : ∀ w', S w' → (execOp a.eval oi).run P w' = .ok (.value v) w')
    (ha : a.put N v = a' := by simp only [Act.put, List.setIfInBounds_toArray, List.set_cons_zero, List.set_cons_succ, i64_w, i32_w]; rfl) : wpAnyLast P md ops Q S ds (fuel + 1) l a w :=
  take_ l' hi hN hc hQ (.inl ⟨hg, hy⟩) hS ha h
theorem u1 (i : Nat) (N : Option Tmp) (h : wpAnyLast P md ops Q S ds fuel l' a' w) (hl : l.setIfInBounds i true = l' := by simp only [List.setIfInBounds_toArray, List.set_cons_zero, List.set_cons_succ]; rfl) (hi : ops[i]? = some oi := by rfl) (hN : oi.dst = N := by rfl) (hc : anyB md ops l l' i = true := by kernel_rfl) (hQ : ∀ c a w, Q (.panic c) (a.put oi.dst undef) w → Q (.panic c) a w := by exact fun _ _ _ h => h)
    (hg : Region.wanted oi (yielded ops a.tmps) = false := by rfl)
    (ha : a.put N undef = a' := by simp only [Act.put, List.setIfInBounds_toArray, List.set_cons_zero, List.set_cons_succ]; rfl) : wpAnyLast P md ops Q S ds (fuel + 1) l a w :=
  pure_ l' hi hN hc hQ (.inr ⟨hg, rfl⟩) ha h
theorem t1 (i : Nat) (N : Option Tmp) (hS : S w) (h : wpAnyLast P md ops Q S ds fuel l' a' w) (hl : l.setIfInBounds i true = l' := by simp only [List.setIfInBounds_toArray, List.set_cons_zero, List.set_cons_succ]; rfl) (hi : ops[i]? = some oi := by rfl) (hN : oi.dst = N := by rfl) (hc : takeB md ops ds l l' i = true := by kernel_rfl) (hQ : ∀ c a w, Q (.panic c) (a.put oi.dst v) w → Q (.panic c) a w := by exact fun _ _ _ h => h)
    (hg : Region.wanted oi (yielded ops a.tmps) = true := by rfl) (hy : ∀ w', S w' → (execOp a.eval oi).run P w' = .ok (.value v) w')
    (ha : a.put N v = a' := by simp only [Act.put, List.setIfInBounds_toArray, List.set_cons_zero, List.set_cons_succ]; rfl) : wpAnyLast P md ops Q S ds (fuel + 1) l a w :=
  take_ l' hi hN hc hQ (.inl ⟨hg, hy⟩) hS ha h
theorem o1 (i : Nat) (N : Option Tmp) (h : ∀ K : Act → World → Prop, Shut (∀ a' w', S w' → (S w' → wpAnyLast P md ops Q S ds fuel l' a' w') → K a' w') → if Region.wanted oi (yielded ops a.tmps) = true then Oper.wp P oi a w K Q else K (a.put N undef) w) (hl : l.setIfInBounds i true = l' := by simp only [List.setIfInBounds_toArray, List.set_cons_zero, List.set_cons_succ]; rfl) (hi : ops[i]? = some oi := by rfl) (hN : oi.dst = N := by rfl) (hc : readyB md ops l l' i = true := by kernel_rfl) (hd : i ∉ ds := by decide) :
    wpAnyLast P md ops Q S ds (fuel + 1) l a w := one_ l' hi hN hc hd h
theorem l1 (i : Nat) (N : Option Tmp) (h : ∀ K : Act → World → Prop, Shut (∀ a' w', wpAnyLast P md ops Q S ds fuel l' a' w' → K a' w') → if Region.wanted oi (yielded ops a.tmps) = true then Oper.wp P oi a w K Q else K (a.put N undef) w) (hl : l.setIfInBounds i true = l' := by simp only [List.setIfInBounds_toArray, List.set_cons_zero, List.set_cons_succ]; rfl) (hi : ops[i]? = some oi := by rfl) (hN : oi.dst = N := by rfl) (hc : readyB md ops l l' i = true := by kernel_rfl) (hd : i ∈ ds := by decide) :
    wpAnyLast P md ops Q S ds (fuel + 1) l a w := last_ l' hi hN hc hd h
theorem n1 (h : wpAnyLast P md ops Q S ds fuel l a' w) (ha : a = a' := by simp only [Act.put, List.setIfInBounds_toArray, List.set_cons_zero, List.set_cons_succ]; rfl) : wpAnyLast P md ops Q S ds fuel l a w := norm_ ha h
theorem d1 (h : Q .normal a w) (hr : (Region.ready md ops l == []) = true := by kernel_rfl) : wpAnyLast P md ops Q S ds fuel l a w := done_ hr h
end
end Rg
end Go.Proofs.YtgljicdpcapgnaaDoor
namespace Go.Proofs.YtgljicdpcapgnaaDoor.Bt
theorem wraps_u64 (n : Int) (h0 : 0 ≤ n) (h1 : n < 2 ^ 64) : IntKind.u64.wrap n = n := by
  have e : IntKind.u64.wrap n = n % 18446744073709551616 := by simp [IntKind.wrap, IntKind.bits, IntKind.signed]
  rw [e]; omega
theorem wraps_u32 (n : Int) (h0 : 0 ≤ n) (h1 : n < 2 ^ 32) : IntKind.u32.wrap n = n := by rw [IntKind.wrap_u32]; omega
theorem or_u64 (i : Nat) (x y : Int) (h0 : 0 ≤ x) (hx : x % 2 ^ i = 0) (h1 : x < 2 ^ 64) (h2 : 0 ≤ y) (h3 : y < 2 ^ i) (h4 : y < 2 ^ 64) : bits .or .u64 x y = x + y :=
  bits_join .u64 64 (by decide) wraps_u64 i x y h0 hx h1 h2 h3 h4
theorem or_u32 (i : Nat) (x y : Int) (h0 : 0 ≤ x) (hx : x % 2 ^ i = 0) (h1 : x < 2 ^ 32) (h2 : 0 ≤ y) (h3 : y < 2 ^ i) (h4 : y < 2 ^ 32) : bits .or .u32 x y = x + y :=
  bits_join .u32 32 (by decide) wraps_u32 i x y h0 hx h1 h2 h3 h4
theorem mask_u64 (i : Nat) (hi : i ≤ 64) (x : Int) (h0 : 0 ≤ x) (h1 : x < 2 ^ 64) : bits .and .u64 x (2 ^ i - 1) = x % 2 ^ i :=
  bits_mask .u64 64 (by decide) wraps_u64 i hi x h0 h1
theorem or_256 (h x : Int) (h0 : 0 ≤ h) (h1 : h < 72057594037927936) (h2 : 0 ≤ x) (h3 : x ≤ 255) : bits .or .u64 (h * 256) x = h * 256 + x :=
  or_u64 8 _ _ (by omega) (by omega) (by omega) h2 (by omega) (by omega)
theorem low_u64 (n : Int) (h0 : 0 ≤ n) (h1 : n < 64) : IntKind.u64.wrap (IntKind.u64.wrap (2 ^ n.toNat) - 1) = 2 ^ n.toNat - 1 := by
  obtain ⟨m, rfl⟩ := Int.eq_ofNat_of_zero_le h0
  have hm : m < 64 := by omega
  have h2 : (2 : Int) ^ m < 2 ^ 64 := by exact_mod_cast Nat.pow_lt_pow_right (by decide : 1 < 2) hm
  have h3 : (0 : Int) < 2 ^ m := Int.pow_pos (by decide)
  rw [Int.toNat_natCast, wraps_u64 _ (by omega) h2, wraps_u64 _ (by omega) (by omega)]
theorem mask_low (h n : Int) (h0 : 0 ≤ h) (h1 : h < 2 ^ 64) (n0 : 0 ≤ n) (n1 : n < 64) : bits .and .u64 h (IntKind.u64.wrap (IntKind.u64.wrap (2 ^ n.toNat) - 1)) = h % 2 ^ n.toNat := by
  rw [low_u64 n n0 n1]
  exact mask_u64 n.toNat (by omega) h h0 h1
end Go.Proofs.YtgljicdpcapgnaaDoor.Bt
set_option linter.unusedVariables false
set_option linter.unusedSimpArgs false
namespace Go.Proofs.YtgljicdpcapgnaaDoor
open Go.RowKit Go.Proofs.YtgljicdpcapgnaaDoorW.PrintWords
def sgs : List UInt8 := [97, 98, 99, 100, 101, 102, 103, 104, 105, 106, 107, 108, 109, 110, 111, 112, 113, 114, 115, 116, 117, 118, 119, 120, 121, 122, 50, 51, 52, 53, 54, 55]
def sg (i : Int) : UInt8 := sgs.getD i.toNat 0
end Go.Proofs.YtgljicdpcapgnaaDoor
set_option linter.unusedVariables false
set_option linter.unusedSimpArgs false
namespace Go.Proofs.YtgljicdpcapgnaaDoor.Sp
open Go.RowKit
def bits8 (x : Int) : List Int := [x / 128 % 2, x / 64 % 2, x / 32 % 2, x / 16 % 2, x / 8 % 2, x / 4 % 2, x / 2 % 2, x % 2]
def bits5 (x : Int) : List Int := [x / 16 % 2, x / 8 % 2, x / 4 % 2, x / 2 % 2, x % 2]
def bitsOf (l : List Int) : List Int := l.flatMap bits8
def enc : List Int → List UInt8
  | [] => []
  | [a] => [sg (16 * a)]
  | [a, b] => [sg (16 * a + 8 * b)]
  | [a, b, c] => [sg (16 * a + 8 * b + 4 * c)]
  | [a, b, c, d] => [sg (16 * a + 8 * b + 4 * c + 2 * d)]
  | a :: b :: c :: d :: e :: r => sg (16 * a + 8 * b + 4 * c + 2 * d + e) :: enc r
def val (l : List Int) : Int := l.foldl (fun h b => 2 * h + b) 0
def Bits (l : List Int) : Prop := ∀ b ∈ l, 0 ≤ b ∧ b ≤ 1
def Bytes (l : List Int) : Prop := ∀ x ∈ l, 0 ≤ x ∧ x ≤ 255
theorem Bits8 (x : Int) : Bits (bits8 x) := by
  intro b hb
  simp only [bits8, List.mem_cons, List.not_mem_nil, or_false] at hb
  omega
theorem Bits5 (x : Int) : Bits (bits5 x) := by
  intro b hb
  simp only [bits5, List.mem_cons, List.not_mem_nil, or_false] at hb
  omega
theorem Bits.append {a b : List Int} (ha : Bits a) (hb : Bits b) : Bits (a ++ b) := fun x hx => (List.mem_append.1 hx).elim (ha x) (hb x)
theorem Bits.left {a b : List Int} (h : Bits (a ++ b)) : Bits a := fun x hx => h x (List.mem_append_left _ hx)
theorem Bits.right {a b : List Int} (h : Bits (a ++ b)) : Bits b := fun x hx => h x (List.mem_append_right _ hx)
theorem Bits.head {a : Int} {l : List Int} (h : Bits (a :: l)) : 0 ≤ a ∧ a ≤ 1 := h a List.mem_cons_self
theorem Bits.tail {a : Int} {l : List Int} (h : Bits (a :: l)) : Bits l := fun x hx => h x (List.mem_cons_of_mem _ hx)
theorem Bytes.head {a : Int} {l : List Int} (h : Bytes (a :: l)) : 0 ≤ a ∧ a ≤ 255 := h a List.mem_cons_self
theorem Bytes.tail {a : Int} {l : List Int} (h : Bytes (a :: l)) : Bytes l := fun x hx => h x (List.mem_cons_of_mem _ hx)
theorem bitsOf_cons (x : Int) (l : List Int) : bitsOf (x :: l) = bits8 x ++ bitsOf l := by simp [bitsOf]
theorem bitsOf_append (a b : List Int) : bitsOf (a ++ b) = bitsOf a ++ bitsOf b := by simp [bitsOf]
theorem bitsOf_length (l : List Int) : (bitsOf l).length = 8 * l.length := by
  induction l with
  | nil => rfl
  | cons x l ih => rw [bitsOf_cons, List.length_append, ih]; simp [bits8]; omega
theorem BitsOf (l : List Int) : Bits (bitsOf l) := by
  induction l with
  | nil => intro b hb; simp [bitsOf] at hb
  | cons x l ih => rw [bitsOf_cons]; exact (Bits8 x).append ih
theorem five {P : List Int → Prop} (h0 : P []) (h1 : ∀ a, P [a]) (h2 : ∀ a b, P [a, b]) (h3 : ∀ a b c, P [a, b, c]) (h4 : ∀ a b c d, P [a, b, c, d])
    (h5 : ∀ a b c d e r, P r → P (a :: b :: c :: d :: e :: r)) : ∀ l, P l
  | [] => h0
  | [a] => h1 a
  | [a, b] => h2 a b
  | [a, b, c] => h3 a b c
  | [a, b, c, d] => h4 a b c d
  | a :: b :: c :: d :: e :: r => h5 a b c d e r (five h0 h1 h2 h3 h4 h5 r)
theorem enc_length (B : List Int) : (enc B).length = (B.length + 4) / 5 := by
  refine five (P := fun B => (enc B).length = (B.length + 4) / 5) rfl (fun _ => by simp [enc]) (fun _ _ => by simp [enc]) (fun _ _ _ => by simp [enc]) (fun _ _ _ _ => by simp [enc]) ?_ B
  intro a b c d e r ih
  simp only [enc, List.length_cons, ih]
  omega
theorem enc_step (B : List Int) (h : B ≠ []) : enc B = sg (16 * B.getD 0 0 + 8 * B.getD 1 0 + 4 * B.getD 2 0 + 2 * B.getD 3 0 + B.getD 4 0) :: enc (B.drop 5) := by
  match B, h with
  | [a], _ => simp [enc]
  | [a, b], _ => simp [enc]
  | [a, b, c], _ => simp [enc]
  | [a, b, c, d], _ => simp [enc]
  | a :: b :: c :: d :: e :: r, _ => simp [enc]
theorem sg_inj : ∀ i j : Int, 0 ≤ i → i < 32 → 0 ≤ j → j < 32 → sg i = sg j → i = j := by
  have h : ∀ i j : Fin 32, sg (i.val : Int) = sg (j.val : Int) → i = j := by decide
  intro i j h0 h1 h2 h3 e
  have := h ⟨i.toNat, by omega⟩ ⟨j.toNat, by omega⟩ (by show sg ((i.toNat : Nat) : Int) = sg ((j.toNat : Nat) : Int); rw [Int.toNat_of_nonneg h0, Int.toNat_of_nonneg h2]; exact e)
  have h4 : i.toNat = j.toNat := congrArg Fin.val this
  omega
theorem enc_pad (B : List Int) : ∀ z, z < 5 → (B.length + z) % 5 = 0 → enc (B ++ List.replicate z 0) = enc B := by
  refine five (P := fun B => ∀ z, z < 5 → (B.length + z) % 5 = 0 → enc (B ++ List.replicate z 0) = enc B) ?_ ?_ ?_ ?_ ?_ ?_ B
  · intro z hz h; obtain rfl : z = 0 := by simp at h; omega
    rfl
  · intro a z hz h; obtain rfl : z = 4 := by simp at h; omega
    simp [enc, List.replicate]
  · intro a b z hz h; obtain rfl : z = 3 := by simp at h; omega
    simp [enc, List.replicate]
  · intro a b c z hz h; obtain rfl : z = 2 := by simp at h; omega
    simp [enc, List.replicate]
  · intro a b c d z hz h; obtain rfl : z = 1 := by simp at h; omega
    simp [enc, List.replicate]
  · intro a b c d e r ih z hz h
    simp only [List.cons_append, enc]
    rw [ih z hz (by simp only [List.length_cons] at h; omega)]
theorem val_zero (R : List Int) (h : Bits R) (hv : val R = 0) : R = List.replicate R.length 0 := by
  have key : ∀ (R : List Int) (a : Int), Bits R → 0 ≤ a → R.foldl (fun h b => 2 * h + b) a = 0 → a = 0 ∧ R = List.replicate R.length 0 := by
    intro R
    induction R with
    | nil => intro a _ _ h; exact ⟨h, rfl⟩
    | cons b R ih =>
      intro a hb ha h
      obtain ⟨h1, h2⟩ := ih (2 * a + b) hb.tail (by have := hb.head; omega) h
      have := hb.head
      refine ⟨by omega, ?_⟩
      obtain rfl : b = 0 := by omega
      rw [List.length_cons, List.replicate_succ, ← h2]
  exact (key R 0 h (Int.le_refl _) hv).2
theorem val_replicate (n : Nat) : val (List.replicate n 0) = 0 := by
  have key : ∀ n, (List.replicate n (0 : Int)).foldl (fun h b => 2 * h + b) 0 = 0 := by
    intro n
    induction n with
    | zero => rfl
    | succ n ih => rw [List.replicate_succ, List.foldl_cons]; exact ih
  exact key n
theorem enc_same (B : List Int) : ∀ R, Bits B → Bits R → (B.length + R.length) % 5 = 0 → enc (B ++ R) = enc B → R.length < 5 ∧ val R = 0 := by
  refine five (P := fun B => ∀ R, Bits B → Bits R → (B.length + R.length) % 5 = 0 → enc (B ++ R) = enc B → R.length < 5 ∧ val R = 0) ?_ ?_ ?_ ?_ ?_ ?_ B
  · intro R _ _ _ h
    have h1 := congrArg List.length h
    rw [List.nil_append, enc_length] at h1
    have : R = [] := List.eq_nil_of_length_eq_zero (by simp [enc] at h1; omega)
    subst this
    exact ⟨by simp, rfl⟩
  · intro a R hB hR hl h
    have h1 := congrArg List.length h
    rw [enc_length] at h1
    simp [enc] at h1 hl
    match R, hR, h, (by omega : R.length = 4) with
    | [p, q, r, s], hR, h, _ =>
      have ha := hB.head; have hp := hR.head; have hq := hR.tail.head; have hr := hR.tail.tail.head; have hs := hR.tail.tail.tail.head
      simp only [List.cons_append, List.nil_append, enc, List.cons.injEq, and_true] at h
      have := sg_inj _ _ (by omega) (by omega) (by omega) (by omega) h
      exact ⟨by simp, by simp only [val, List.foldl]; omega⟩
  · intro a b R hB hR hl h
    have h1 := congrArg List.length h
    rw [enc_length] at h1
    simp [enc] at h1 hl
    match R, hR, h, (by omega : R.length = 3) with
    | [q, r, s], hR, h, _ =>
      have ha := hB.head; have hb := hB.tail.head; have hq := hR.head; have hr := hR.tail.head; have hs := hR.tail.tail.head
      simp only [List.cons_append, List.nil_append, enc, List.cons.injEq, and_true] at h
      have := sg_inj _ _ (by omega) (by omega) (by omega) (by omega) h
      exact ⟨by simp, by simp only [val, List.foldl]; omega⟩
  · intro a b c R hB hR hl h
    have h1 := congrArg List.length h
    rw [enc_length] at h1
    simp [enc] at h1 hl
    match R, hR, h, (by omega : R.length = 2) with
    | [r, s], hR, h, _ =>
      have ha := hB.head; have hb := hB.tail.head; have hc := hB.tail.tail.head; have hr := hR.head; have hs := hR.tail.head
      simp only [List.cons_append, List.nil_append, enc, List.cons.injEq, and_true] at h
      have := sg_inj _ _ (by omega) (by omega) (by omega) (by omega) h
      exact ⟨by simp, by simp only [val, List.foldl]; omega⟩
  · intro a b c d R hB hR hl h
    have h1 := congrArg List.length h
    rw [enc_length] at h1
    simp [enc] at h1 hl
    match R, hR, h, (by omega : R.length = 1) with
    | [s], hR, h, _ =>
      have ha := hB.head; have hb := hB.tail.head; have hc := hB.tail.tail.head; have hd := hB.tail.tail.tail.head; have hs := hR.head
      simp only [List.cons_append, List.nil_append, enc, List.cons.injEq, and_true] at h
      have := sg_inj _ _ (by omega) (by omega) (by omega) (by omega) h
      exact ⟨by simp, by simp only [val, List.foldl]; omega⟩
  · intro a b c d e r ih R hB hR hl h
    simp only [List.cons_append, enc, List.cons.injEq, true_and] at h
    exact ih R hB.tail.tail.tail.tail.tail hR (by simp only [List.length_cons] at hl; omega) h
def dg (c : Int) : Option Int := if 97 ≤ c ∧ c ≤ 122 then some (c - 97) else if 50 ≤ c ∧ c ≤ 55 then some (c - 50 + 26) else none
def digits : List Int → Option (List Int)
  | [] => some []
  | c :: cs => (dg c).bind fun d => (digits cs).map (d :: ·)
def take8 : List Int → List Int → List Int → List Int × List Int
  | [], o, R => (o, R)
  | d :: ds, o, R => if 8 ≤ R.length + 5 then take8 ds (o ++ [val ((R ++ bits5 d).take 8)]) ((R ++ bits5 d).drop 8) else take8 ds o (R ++ bits5 d)
theorem dg_range {c d : Int} (h : dg c = some d) : 0 ≤ d ∧ d < 32 := by
  unfold dg at h
  split at h
  · obtain rfl := Option.some.inj h; omega
  · split at h
    · obtain rfl := Option.some.inj h; omega
    · cases h
theorem sg_dg {c d : Int} (h : dg c = some d) : ((sg d).toNat : Int) = c := by
  have h1 : ∀ i : Fin 26, ((sg (i.val : Int)).toNat : Int) = i.val + 97 := by decide
  have h2 : ∀ i : Fin 6, ((sg ((i.val : Int) + 26)).toNat : Int) = i.val + 50 := by decide
  unfold dg at h
  split at h
  · obtain rfl := Option.some.inj h
    have := h1 ⟨(c - 97).toNat, by omega⟩
    simp only [Int.toNat_of_nonneg (show 0 ≤ c - 97 by omega)] at this
    omega
  · split at h
    · obtain rfl := Option.some.inj h
      have := h2 ⟨(c - 50).toNat, by omega⟩
      simp only [Int.toNat_of_nonneg (show 0 ≤ c - 50 by omega)] at this
      omega
    · cases h
theorem dg_sg (d : Int) (h0 : 0 ≤ d) (h1 : d < 32) : dg ((sg d).toNat : Int) = some d := by
  have h : ∀ i : Fin 32, dg ((sg (i.val : Int)).toNat : Int) = some (i.val : Int) := by decide
  have := h ⟨d.toNat, by omega⟩
  simpa only [Int.toNat_of_nonneg h0] using this
theorem val8 (a b c d e f g h : Int) (ha : 0 ≤ a ∧ a ≤ 1) (hb : 0 ≤ b ∧ b ≤ 1) (hc : 0 ≤ c ∧ c ≤ 1) (hd : 0 ≤ d ∧ d ≤ 1) (he : 0 ≤ e ∧ e ≤ 1) (hf : 0 ≤ f ∧ f ≤ 1) (hg : 0 ≤ g ∧ g ≤ 1) (hh : 0 ≤ h ∧ h ≤ 1) :
    bits8 (val [a, b, c, d, e, f, g, h]) = [a, b, c, d, e, f, g, h] ∧ 0 ≤ val [a, b, c, d, e, f, g, h] ∧ val [a, b, c, d, e, f, g, h] ≤ 255 := by
  have e : val [a, b, c, d, e, f, g, h] = 128 * a + 64 * b + 32 * c + 16 * d + 8 * e + 4 * f + 2 * g + h := by simp only [val, List.foldl]; omega
  rw [e]
  refine ⟨?_, by omega, by omega⟩
  simp only [bits8, List.cons.injEq, and_true]
  refine ⟨?_, ?_, ?_, ?_, ?_, ?_, ?_, ?_⟩ <;> omega
theorem val8_of (B : List Int) (hB : Bits B) (hl : B.length = 8) : bits8 (val B) = B ∧ 0 ≤ val B ∧ val B ≤ 255 := by
  match B, hl with
  | [a, b, c, d, e, f, g, h], _ => exact val8 a b c d e f g h hB.head hB.tail.head hB.tail.tail.head hB.tail.tail.tail.head hB.tail.tail.tail.tail.head hB.tail.tail.tail.tail.tail.head hB.tail.tail.tail.tail.tail.tail.head hB.tail.tail.tail.tail.tail.tail.tail.head
theorem take8_spec (ds : List Int) : ∀ o R, Bits R → R.length < 8 → Bytes o → bitsOf (take8 ds o R).1 ++ (take8 ds o R).2 = bitsOf o ++ R ++ ds.flatMap bits5 ∧ Bits (take8 ds o R).2 ∧ (take8 ds o R).2.length < 8 ∧ Bytes (take8 ds o R).1 ∧ (take8 ds o R).1.length ≤ o.length + ds.length := by
  induction ds with
  | nil => intro o R hR hl ho; simp [take8, hR, hl, ho]
  | cons d ds ih =>
    intro o R hR hl ho
    have hb : Bits (R ++ bits5 d) := hR.append (Bits5 d)
    have hlen : (R ++ bits5 d).length = R.length + 5 := by simp [bits5]
    rw [take8]
    split
    · rename_i h8
      have hb' : Bits ((R ++ bits5 d).take 8 ++ (R ++ bits5 d).drop 8) := by rw [List.take_append_drop]; exact hb
      obtain ⟨h1, h2, h3⟩ := val8_of _ hb'.left (by rw [List.length_take, hlen]; omega)
      obtain ⟨i1, i2, i3, i4, i5⟩ := ih (o ++ [val ((R ++ bits5 d).take 8)]) ((R ++ bits5 d).drop 8) hb'.right (by rw [List.length_drop, hlen]; omega) (fun x hx => by
        rcases List.mem_append.1 hx with hx | hx
        · exact ho x hx
        · rw [List.mem_singleton.1 hx]; exact ⟨h2, h3⟩)
      refine ⟨?_, i2, i3, i4, ?_⟩
      · rw [i1, bitsOf_append]
        have e : bitsOf [val ((R ++ bits5 d).take 8)] = (R ++ bits5 d).take 8 := by rw [bitsOf_cons, h1]; simp [bitsOf]
        rw [e]
        simp only [List.flatMap_cons]
        have : (R ++ bits5 d).take 8 ++ (R ++ bits5 d).drop 8 = R ++ bits5 d := List.take_append_drop 8 _
        rw [List.append_assoc (bitsOf o), this]
        simp [List.append_assoc]
      · simp at i5 ⊢; omega
    · obtain ⟨i1, i2, i3, i4, i5⟩ := ih o (R ++ bits5 d) hb (by rw [hlen]; omega) ho
      refine ⟨?_, i2, i3, i4, by simp; omega⟩
      rw [i1]
      simp [List.append_assoc]
theorem enc_digits (ds : List Int) (h : ∀ d ∈ ds, 0 ≤ d ∧ d < 32) : enc (ds.flatMap bits5) = ds.map sg := by
  induction ds with
  | nil => rfl
  | cons d ds ih =>
    have hd := h d List.mem_cons_self
    simp only [List.flatMap_cons, bits5, List.cons_append, List.nil_append, enc, List.map_cons]
    rw [show 16 * (d / 16 % 2) + 8 * (d / 8 % 2) + 4 * (d / 4 % 2) + 2 * (d / 2 % 2) + d % 2 = d by omega]
    congr 1
    exact ih (fun x hx => h x (List.mem_cons_of_mem _ hx))
theorem digits_of {cs ds : List Int} (h : digits cs = some ds) : (∀ d ∈ ds, 0 ≤ d ∧ d < 32) ∧ ds.map (fun d => ((sg d).toNat : Int)) = cs ∧ ds.length = cs.length := by
  induction cs generalizing ds with
  | nil => obtain rfl := Option.some.inj h; simp
  | cons c cs ih =>
    unfold digits at h
    obtain ⟨d, hd, h⟩ := Option.bind_eq_some_iff.1 h
    obtain ⟨ds', hds, rfl⟩ := Option.map_eq_some_iff.1 h
    obtain ⟨i1, i2, i3⟩ := ih hds
    refine ⟨?_, ?_, by simp [i3]⟩
    · intro x hx
      rcases List.mem_cons.1 hx with rfl | hx
      · exact dg_range hd
      · exact i1 x hx
    · rw [List.map_cons, i2, sg_dg hd]
theorem digits_map (ds : List Int) (h : ∀ d ∈ ds, 0 ≤ d ∧ d < 32) : digits (ds.map fun d => ((sg d).toNat : Int)) = some ds := by
  induction ds with
  | nil => rfl
  | cons d ds ih =>
    have hd := h d List.mem_cons_self
    rw [List.map_cons, digits, dg_sg d hd.1 hd.2, ih (fun x hx => h x (List.mem_cons_of_mem _ hx))]
    rfl
theorem flat5_length (ds : List Int) : (ds.flatMap bits5).length = 5 * ds.length := by
  induction ds with
  | nil => rfl
  | cons d ds ih => simp only [List.flatMap_cons, List.length_append, ih, bits5, List.length_cons, List.length_nil]; omega
def readOf (cs : List Int) : List Int × Int := match digits cs with
  | none => ([], 40)
  | some ds => if 5 ≤ (take8 ds [] []).2.length then ([], 40) else if val (take8 ds [] []).2 = 0 then ((take8 ds [] []).1, 0) else ([], 40)
theorem read_back {cs ds : List Int} (h : digits cs = some ds) : (enc (bitsOf (take8 ds [] []).1) = ds.map sg ↔ (take8 ds [] []).2.length < 5 ∧ val (take8 ds [] []).2 = 0) := by
  obtain ⟨h1, h2, h3⟩ := digits_of h
  obtain ⟨t1, t2, t3, t4, t5⟩ := take8_spec ds [] [] (by intro b h; simp at h) (by simp) (by intro b h; simp at h)
  have t1' : bitsOf (take8 ds [] []).1 ++ (take8 ds [] []).2 = ds.flatMap bits5 := by simpa [bitsOf] using t1
  have hlen : ((bitsOf (take8 ds [] []).1).length + (take8 ds [] []).2.length) % 5 = 0 := by rw [← List.length_append, t1', flat5_length]; omega
  have he : enc (bitsOf (take8 ds [] []).1 ++ (take8 ds [] []).2) = ds.map sg := by rw [t1', enc_digits ds h1]
  constructor
  · intro hs
    exact enc_same _ _ (BitsOf _) t2 hlen (he.trans hs.symm)
  · intro ⟨hs, hv⟩
    rw [← he]
    have hz := val_zero _ t2 hv
    rw [hz]
    exact (enc_pad _ _ hs hlen).symm
theorem bitsOf_inj : ∀ a b : List Int, Bytes a → Bytes b → bitsOf a = bitsOf b → a = b := by
  intro a
  induction a with
  | nil => intro b _ _ h; cases b with
    | nil => rfl
    | cons y b => rw [bitsOf_cons] at h; simp [bitsOf, bits8] at h
  | cons x a ih =>
    intro b ha hb h
    cases b with
    | nil => rw [bitsOf_cons] at h; simp [bitsOf, bits8] at h
    | cons y b =>
      have hx := ha.head; have hy := hb.head
      rw [bitsOf_cons, bitsOf_cons] at h
      simp only [bits8, List.cons_append, List.nil_append, List.cons.injEq] at h
      obtain ⟨e1, e2, e3, e4, e5, e6, e7, e8, h⟩ := h
      rw [ih b ha.tail hb.tail h]
      congr 1
      omega
theorem enc_is_digits (B : List Int) (hB : Bits B) : ∃ ds : List Int, ∃ z, z < 5 ∧ (∀ d ∈ ds, 0 ≤ d ∧ d < 32) ∧ enc B = ds.map sg ∧ ds.flatMap bits5 = B ++ List.replicate z 0 := by
  have key : Bits B → ∃ ds : List Int, ∃ z, z < 5 ∧ (∀ d ∈ ds, 0 ≤ d ∧ d < 32) ∧ enc B = ds.map sg ∧ ds.flatMap bits5 = B ++ List.replicate z 0 := by
    refine five (P := fun B => Bits B → ∃ ds : List Int, ∃ z, z < 5 ∧ (∀ d ∈ ds, 0 ≤ d ∧ d < 32) ∧ enc B = ds.map sg ∧ ds.flatMap bits5 = B ++ List.replicate z 0) ?_ ?_ ?_ ?_ ?_ ?_ B
    · intro _; exact ⟨[], 0, by decide, by simp, rfl, rfl⟩
    · intro a h
      have ha := h.head
      refine ⟨[16 * a], 4, by decide, by intro d hd; rw [List.mem_singleton.1 hd]; omega, rfl, ?_⟩
      simp only [List.flatMap_cons, List.flatMap_nil, List.append_nil, bits5, List.cons_append, List.nil_append, List.replicate, List.cons.injEq, and_true]
      omega
    · intro a b h
      have ha := h.head; have hb := h.tail.head
      refine ⟨[16 * a + 8 * b], 3, by decide, by intro d hd; rw [List.mem_singleton.1 hd]; omega, rfl, ?_⟩
      simp only [List.flatMap_cons, List.flatMap_nil, List.append_nil, bits5, List.cons_append, List.nil_append, List.replicate, List.cons.injEq, and_true]
      omega
    · intro a b c h
      have ha := h.head; have hb := h.tail.head; have hc := h.tail.tail.head
      refine ⟨[16 * a + 8 * b + 4 * c], 2, by decide, by intro d hd; rw [List.mem_singleton.1 hd]; omega, rfl, ?_⟩
      simp only [List.flatMap_cons, List.flatMap_nil, List.append_nil, bits5, List.cons_append, List.nil_append, List.replicate, List.cons.injEq, and_true]
      omega
    · intro a b c d h
      have ha := h.head; have hb := h.tail.head; have hc := h.tail.tail.head; have hd := h.tail.tail.tail.head
      refine ⟨[16 * a + 8 * b + 4 * c + 2 * d], 1, by decide, by intro d hd; rw [List.mem_singleton.1 hd]; omega, rfl, ?_⟩
      simp only [List.flatMap_cons, List.flatMap_nil, List.append_nil, bits5, List.cons_append, List.nil_append, List.replicate, List.cons.injEq, and_true]
      omega
    · intro a b c d e r ih h
      have ha := h.head; have hb := h.tail.head; have hc := h.tail.tail.head; have hd := h.tail.tail.tail.head; have he := h.tail.tail.tail.tail.head
      obtain ⟨ds, z, hz, h1, h2, h3⟩ := ih h.tail.tail.tail.tail.tail
      refine ⟨(16 * a + 8 * b + 4 * c + 2 * d + e) :: ds, z, hz, ?_, ?_, ?_⟩
      · intro x hx
        rcases List.mem_cons.1 hx with rfl | hx
        · omega
        · exact h1 x hx
      · simp only [enc, List.map_cons, h2]
      · simp only [List.flatMap_cons, h3, bits5, List.cons_append, List.nil_append, List.cons.injEq, and_true]
        omega
  exact key hB
theorem read_written (l : List Int) (hl : Bytes l) : readOf ((enc (bitsOf l)).map fun c => (c.toNat : Int)) = (l, 0) := by
  obtain ⟨ds, z, hz, h1, h2, h3⟩ := enc_is_digits _ (BitsOf l)
  rw [h2, List.map_map]
  unfold readOf
  have hd : digits (List.map ((fun c => (c.toNat : Int)) ∘ sg) ds) = some ds := digits_map ds h1
  rw [hd]
  obtain ⟨t1, t2, t3, t4, t5⟩ := take8_spec ds [] [] (by intro b h; simp at h) (by simp) (by intro b h; simp at h)
  have t1' : bitsOf (take8 ds [] []).1 ++ (take8 ds [] []).2 = bitsOf l ++ List.replicate z 0 := by rw [← h3]; simpa [bitsOf] using t1
  have hlen := congrArg List.length t1'
  simp only [List.length_append, bitsOf_length, List.length_replicate] at hlen
  have e1 : (take8 ds [] []).1.length = l.length := by omega
  have e2 : (take8 ds [] []).2.length = z := by omega
  have e3 := List.append_inj t1' (by rw [bitsOf_length, bitsOf_length, e1])
  have e4 : (take8 ds [] []).1 = l := bitsOf_inj _ _ t4 hl e3.1
  dsimp only
  rw [if_neg (by omega), e3.2, val_replicate, if_pos rfl, e4]
end Go.Proofs.YtgljicdpcapgnaaDoor.Sp
set_option linter.unusedVariables false
set_option linter.unusedSimpArgs false
namespace Go.Proofs.YtgljicdpcapgnaaDoor
open Go.RowKit Go.Proofs.YtgljicdpcapgnaaDoorW.PrintWords Go.Proofs.YtgljicdpcapgnaaDoorW.PrintLast
namespace Cl
theorem infoByte : (Tryd.prog.info? 5).map (fun i => (i.zero, i.size, i.bytes)) = some (some (.int .u8 0), 1, 1) := by kernel_rfl
end Cl
def clone_.f (l : List Int) : Option (List Int) := if l.length < 140737488355328 then some l else none
set_option maxHeartbeats 1000000 in
set_option maxRecDepth 100000 in
theorem clone_.calls (A0 : Option Addr) (c0 : Nat) (l0 : List Int) (r : List Int) (w : World) (hr0 : Kd.C (Kd.int .u8) w A0 l0.length l0) (hc0 : l0.length ≤ c0) (h : clone_.f l0 = some r) :
  Calls Tryd.prog 41 #[.slice A0 l0.length c0] w fun e w' => ∃ v0_ : Value, e = .returned (v0_) ∧ Kd.R (Kd.int .u8) 5 w' w.heap.size (fun _ => True) v0_ r ∧ Below w.heap.size w w' := by
 have HL : Aside0 (l0.length < 140737488355328 ∧ l0 = r) := ⟨by
  unfold clone_.f at h
  by_cases c : l0.length < 140737488355328
  ·rw [if_pos c] at h; exact ⟨c, Option.some.inj h⟩
  ·rw [if_neg c] at h; cases h⟩
 clear h
 have HR0 := Aside0.mk hr0
 have heq := fun (w : World) => Lib.run_eql_slice_nil (P := Tryd.prog) w 23 5 A0 l0.length c0 0 0 Tryd.underlying23
 cases A0 with
 | none =>
  have HE : Aside0 (l0 = []) := ⟨by
   rcases Nat.eq_zero_or_pos l0.length with h0 | h0
   ·exact List.eq_nil_of_length_eq_zero h0
   ·obtain ⟨ad, e, _⟩ := hr0.2.2 h0; cases e⟩
  clear hr0
  go_enter Tryd.func41, Tryd.ntmps41
  go_wp2_with fail
  go_ret
  refine ⟨_, rfl, ?_, Below.refl _ _⟩
  rw [← HL.out.2, HE.out]
  exact Kd.R_nil _ _ _ _ _
 | some ad =>
  clear hr0
  go_enter Tryd.func41, Tryd.ntmps41
  have HM := Aside0.mk (World.ownsRow_made (base := w.heap.size) (e := 5) (size := 1) w #[] 0 (Nat.le_refl _) (by unfold maxLen; omega) rfl)
  go_wp2_with (at_builtin; refine Kd.R_append_rows (Kd.int .u8) (w0 := w) w.heap.size rfl (.tmp 5) (.tmp 6) 23 5 (.int .u8 0) 1 rfl Tryd.underlying23 Cl.infoByte rfl (by decide) (by omega) (.slice (some ⟨w.heap.size, 0, none⟩) 0 0) ([] : List Int) l0 _ _ _ (fun _ => True) (fun _ => False) rfl rfl ?aO ?aR (fun _ _ h => h) (fun _ h => h.elim) (fun _ _ => trivial) ?aB ?aS ?aL ?_)
  case aO => exact Kd.R_of_own HM.out (fun _ _ => trivial)
  case aR => exact Kd.C_below HR0.out (below_alloc (Below.refl _ _) _)
  case aB => exact below_alloc (Below.refl _ _) _
  case aS => simp
  case aL => have := HL.out.1; simp; omega
  intro v1 w1 ho hb _ _
  have HO := Aside0.mk ho
  have HB := Aside0.mk hb
  clear ho hb
  go_wp2_with fail
  go_ret
  refine ⟨_, rfl, ?_, HB.out⟩
  rw [← HL.out.2]
  exact HO.out
end Go.Proofs.YtgljicdpcapgnaaDoor
set_option linter.unusedVariables false
set_option linter.unusedSimpArgs false
namespace Go.Proofs.YtgljicdpcapgnaaDoor
open Go.RowKit Go.Proofs.YtgljicdpcapgnaaDoorW.PrintWords Go.Proofs.YtgljicdpcapgnaaDoorW.PrintLast
namespace Wi
def Cuts (A : Option Addr) (bs : List Int) (A' : Option Addr) (n : Nat) : Prop := ∀ W : World, Kd.C (Kd.int .u8) W A bs.length bs → Kd.C (Kd.int .u8) W A' (bs.drop n).length (bs.drop n)
def wd (n : Int) : Nat := if n = 1 then 1 else if n = 2 then 2 else if n = 4 then 4 else 8
def num (bs : List Int) : Int := bs.foldl (fun n x => n * 256 + x) 0
def Bytes (l : List Int) : Prop := ∀ x ∈ l, 0 ≤ x ∧ x ≤ 255
theorem Bytes.take {l : List Int} (h : Bytes l) (n : Nat) : Bytes (l.take n) := fun x hx => h x (List.mem_of_mem_take hx)
theorem Bytes.drop {l : List Int} (h : Bytes l) (n : Nat) : Bytes (l.drop n) := fun x hx => h x (List.mem_of_mem_drop hx)
theorem num_snoc (l : List Int) (x : Int) : num (l ++ [x]) = num l * 256 + x := by simp [num]
theorem num_range (l : List Int) : Bytes l → 0 ≤ num l ∧ num l < 256 ^ l.length := by
  have key : ∀ (l r : List Int), Bytes (l ++ r) → 0 ≤ num l → num l < 256 ^ l.length → 0 ≤ num (l ++ r) ∧ num (l ++ r) < 256 ^ (l ++ r).length := by
    intro l r
    induction r generalizing l with
    | nil => intro _ h0 h1; rw [List.append_nil]; exact ⟨h0, h1⟩
    | cons x r ih =>
      intro hb h0 h1
      have hx := hb x (by simp)
      have := ih (l ++ [x]) (by rw [List.append_assoc]; exact hb) (by rw [num_snoc]; omega) (by rw [num_snoc, List.length_append, List.length_singleton, Int.pow_succ]; omega)
      rw [List.append_assoc] at this
      exact this
  intro h
  have := key [] l h (by simp [num]) (by simp [num])
  simpa using this
theorem pow256 : ∀ m, m < 8 → (256 : Int) ^ m ≤ 72057594037927936 := by decide
theorem take_snoc (l : List Int) (i : Nat) (h : i < l.length) : l.take (i + 1) = l.take i ++ [rd l i] := by
  rw [List.take_succ_eq_append_getElem h]
  simp [rd, List.getD_eq_getElem?_getD, List.getElem?_eq_getElem h]
theorem infoByte' : ∃ i, Tryd.prog.info? 5 = some i ∧ i.size = 1 := by
  obtain ⟨i, hi, _, h, _⟩ := info_parts Cl.infoByte
  exact ⟨i, hi, h⟩
end Wi
set_option maxHeartbeats 1000000 in
set_option maxRecDepth 100000 in
theorem Wi.number_short (g : Nat) (A : Option Addr) (c : Nat) (bs : List Int) (n : Nat) (hn : n ≤ 8) (w : World) (hg : w.heap[g]? = some (.cells #[.slice A bs.length c] 144 (0, 0))) (hl : bs.length < n) :
  Calls Tryd.prog 78 #[.pointer (some ⟨g, 0, none⟩), .int .i64 n] w fun e w' => (∃ u pv, e = .panicked [{ v := .iface u pv, recovered := false }]) ∧ w' = w := by
 have hc : w.cell? ⟨g, 0, none⟩ = some (.slice A bs.length c) := by unfold World.cell?; rw [hg]; rfl
 clear hg
 go_enter Tryd.func78, Tryd.ntmps78
 go_wp2_with fail
 exact ⟨rfl, ⟨_, _, rfl⟩, rfl⟩
set_option maxHeartbeats 1000000 in
set_option maxRecDepth 100000 in
theorem Wi.number_long (g : Nat) (A : Option Addr) (c : Nat) (bs : List Int) (n : Nat) (hn : n ≤ 8) (hn1 : 1 ≤ n) (w : World) (hg : w.heap[g]? = some (.cells #[.slice A bs.length c] 144 (0, 0))) (hl : n ≤ bs.length) (hC : Kd.C (Kd.int .u8) w A bs.length bs) (hcap : bs.length ≤ c) (hb : Wi.Bytes bs) :
  Calls Tryd.prog 78 #[.pointer (some ⟨g, 0, none⟩), .int .i64 n] w fun e w' => e = .returned (.int .u64 (Wi.num (bs.take n))) ∧ ∃ A' c', w' = w.setCell ⟨g, 0, none⟩ (.slice A' (bs.drop n).length c') ∧ (bs.drop n).length ≤ c' ∧ Wi.Cuts A bs A' n := by
 have hc : w.cell? ⟨g, 0, none⟩ = some (.slice A bs.length c) := by unfold World.cell?; rw [hg]; rfl
 have hfz : w.frozen? ⟨g, 0, none⟩ = false := by unfold World.frozen?; rw [hg]; simp
 obtain ⟨ti, hti, htz⟩ := Wi.infoByte'
 obtain ⟨A', hs, hr, hcl⟩ := print_drop_of (P := Tryd.prog) (Value.int .u8) 0 23 5 .i64 Tryd.underlying23 hti htz A c bs n (by omega) (by omega) hcap
 rw [Int.toNat_natCast] at hr hcl
 have hs' : ∀ W : World, (Instr.slice 23 (.slice A bs.length c) (some (.int .i64 (n : Int))) none none).run Tryd.prog W = .ok (.slice A' (bs.drop n).length (c - n)) W := fun W => by have := hs W; rw [Int.toNat_natCast] at this; exact this
 obtain ⟨dl, HDL⟩ : ∃ dl, Aside0 ((bs.drop n).length = dl) := ⟨_, ⟨rfl⟩⟩
 rw [HDL.out] at hs'
 have HC' : Aside0 (Wi.Cuts A bs A' n) := ⟨fun W h => Kd.C_of_reads (h1 := fun _ => rfl) (hr W (Kd.reads_of_C h))⟩
 have HCL := Aside0.mk hcl
 have HCC := Aside0.mk hC
 have HBB := Aside0.mk hb
 clear hg hr hcl hs hti htz hC hb
 go_enter Tryd.func78, Tryd.ntmps78
 go_wp2_with fail
 go_loop [4, 6, 30] (fun v4 v6 v30 => ∃ (i : Nat) (m : Int), v30 = .int .i64 i ∧ v4 = .int .u64 m ∧ i ≤ n ∧ 0 ≤ m ∧ Aside0 (m < 256 ^ i) ∧ Aside0 (m = Wi.num (bs.take i))) (fun _ _ i => n - (intOf i).toNat)
 case atStart => exact ⟨0, 0, rfl, rfl, Nat.zero_le _, Int.le_refl _, ⟨by simp⟩, ⟨by simp [Wi.num]⟩⟩
 case round =>
  obtain ⟨i, m, rfl, rfl, hi, hm0, HM1, HM⟩ := hrel
  by_cases hlt : i < n
  ·obtain ⟨ad, e, hx⟩ := Kd.at_int HCC.out i (by omega) (by omega)
   cases e
   have hx' : w.cell? (ad.add i) = some (.int .u8 (rd bs i)) := by simpa using hx
   have hrg : 0 ≤ rd bs ↑i ∧ rd bs ↑i ≤ 255 := by
    have : rd bs ↑i = bs[i] := by simp [rd, List.getD_eq_getElem?_getD, List.getElem?_eq_getElem (show i < bs.length by omega)]
    rw [this]; exact HBB.out _ (List.getElem_mem _)
   clear hx
   have HS := Aside0.mk (Wi.take_snoc bs i (by omega))
   obtain ⟨x, HX⟩ : ∃ x, Aside0 (rd bs ↑i = x) := ⟨_, ⟨rfl⟩⟩
   rw [HX.out] at hx' hrg HS
   obtain ⟨hx0, hx1⟩ := hrg
   have hmb : m < 72057594037927936 := by have := HM1.out; have := Wi.pow256 i (by omega); omega
   have ho := Bt.or_256 m x hm0 hmb hx0 hx1
   go_wp2_with fail
   go_round
   case rel => exact ⟨i + 1, m * 256 + x, by go_num, rfl, by omega, by clear ho; omega, ⟨by have := HM1.out; rw [Int.pow_succ]; clear ho; omega⟩, ⟨by rw [HS.out, Wi.num_snoc, ← HM.out]⟩⟩
   case measure => simp [intOf]; omega
  ·obtain rfl : i = n := by omega
   go_wp2_with fail
   go_ret
   have hd : dl = bs.length - i := by rw [← HDL.out, List.length_drop]
   have hcl := HCL.out
   rw [List.length_drop] at hcl
   refine ⟨by rw [HM.out]; rfl, A', c - i, ?_, by omega, HC'.out⟩
   rw [hd]
end Go.Proofs.YtgljicdpcapgnaaDoor
set_option linter.unusedVariables false
set_option linter.unusedSimpArgs false
namespace Go.Proofs.YtgljicdpcapgnaaDoor
open Go.RowKit Go.Proofs.YtgljicdpcapgnaaDoorW.PrintWords Go.Proofs.YtgljicdpcapgnaaDoorW.PrintLast
namespace Wi
def takes : List Int → List Int → List Int → List Int × List Int × Bool
  | b, [], acc => (acc, b, true)
  | b, w :: ws, acc => if b.length < wd w then ([], [], false) else takes (b.drop (wd w)) ws (acc ++ [num (b.take (wd w))])
theorem info64 : (Tryd.prog.info? 42).map (fun i => (i.zero, i.size, i.bytes)) = some (some (.int .u64 0), 1, 8) := by kernel_rfl
theorem width_is (n : Int) (w : World) : Calls Tryd.prog 52 #[.int .i64 n] w fun e w' => e = .returned (.int .i64 (wd n)) ∧ w = w' := by
 by_cases h1 : n = 1
 ·subst h1
  go_enter Tryd.func52, Tryd.ntmps52
  go_wp2
  go_ret
  exact ⟨rfl, rfl⟩
 by_cases h2 : n = 2
 ·subst h2
  go_enter Tryd.func52, Tryd.ntmps52
  go_wp2
  go_ret
  exact ⟨rfl, rfl⟩
 by_cases h4 : n = 4
 ·subst h4
  go_enter Tryd.func52, Tryd.ntmps52
  go_wp2
  go_ret
  exact ⟨rfl, rfl⟩
 have b1 : (n == 1) = false := beq_eq_false_iff_ne.mpr h1
 have b2 : (n == 2) = false := beq_eq_false_iff_ne.mpr h2
 have b4 : (n == 4) = false := beq_eq_false_iff_ne.mpr h4
 have hw : Aside0 (wd n = 8) := ⟨by unfold wd; rw [if_neg h1, if_neg h2, if_neg h4]⟩
 clear h1 h2 h4
 go_enter Tryd.func52, Tryd.ntmps52
 go_wp2
 go_ret
 exact ⟨by rw [hw.out]; rfl, rfl⟩
theorem catch_panicking (p0 p1 p2 : Addr) (x0 x1 x2 : Value) (u : TypeId) (pv : Value) (older : List PanicEntry) (w : World)
    (h0 : w.cell? p0 = some x0) (z0 : w.frozen? p0 = false) (h1 : (w.setCell p0 (.slice none 0 0)).cell? p1 = some x1) (z1 : (w.setCell p0 (.slice none 0 0)).frozen? p1 = false)
    (h2 : ((w.setCell p0 (.slice none 0 0)).setCell p1 (.slice none 0 0)).cell? p2 = some x2) (z2 : ((w.setCell p0 (.slice none 0 0)).setCell p1 (.slice none 0 0)).frozen? p2 = false) :
    CallsD Tryd.prog 77 #[.pointer (some p0), .pointer (some p1), .pointer (some p2)] (.panicking ({ v := .iface u pv, recovered := false } :: older)) w fun e u' w' =>
      e = .returned (.tuple #[]) ∧ u' = .panicking ({ v := .iface u pv, recovered := true } :: older) ∧ w' = ((w.setCell p0 (.slice none 0 0)).setCell p1 (.slice none 0 0)).setCell p2 (.bool false) := by
  refine callsD_of_wpS Tryd.func77 rfl fun c₀ cs hu => ?_
  apply wpS_seq
  apply wpS_region
  simp [wpOpsS, go_sem, recoverD, hu, Tryd.ntmps77, Exit.thenS]
  apply wpS_seq
  apply wpS_region
  simp [wpOpsS, go_sem, Exit.thenS]
  refine wpS_cond (t := true) (by simp [Act.eval, Array.replicate]) ?_
  simp only [if_true]
  apply wpS_region
  simp [wpOpsS, go_sem, h0, z0, h1, z1, h2, z2, bodyPostS, results, Tryd.results77]
theorem catch_idle (p0 p1 p2 : Addr) (w : World) :
    CallsD Tryd.prog 77 #[.pointer (some p0), .pointer (some p1), .pointer (some p2)] .returning w fun e u' w' => e = .returned (.tuple #[]) ∧ u' = .returning ∧ w' = w := by
  refine callsD_of_wpS Tryd.func77 rfl fun c₀ cs hu => ?_
  apply wpS_seq
  apply wpS_region
  simp [wpOpsS, go_sem, recoverD, hu, Tryd.ntmps77, Exit.thenS]
  apply wpS_seq
  apply wpS_region
  simp [wpOpsS, go_sem, Exit.thenS]
  refine wpS_cond (t := false) (by simp [Act.eval, Array.replicate]) ?_
  simp only [Bool.false_eq_true, if_false]
  refine wpS_of_wp (wp_skip ?_)
  cases c₀
  simp_all [bodyPostS, results, Tryd.results77]
end Wi
end Go.Proofs.YtgljicdpcapgnaaDoor
set_option linter.unusedVariables false
namespace Go.Proofs.YtgljicdpcapgnaaDoor.Lit
open Go.RowKit Go.Proofs.YtgljicdpcapgnaaDoorW.PrintWords
theorem cell_new (w : World) (C : Array Value) (e : TypeId) (fr : Nat × Nat) (j : Nat) : (w.alloc (.cells C e fr)).cell? ⟨w.heap.size, j, none⟩ = C[j]? := by
  have h : (w.alloc (.cells C e fr)).heap[w.heap.size]? = some (.cells C e fr) := by show (w.heap.push _)[w.heap.size]? = _; simp
  unfold World.cell?
  rw [h]
  rfl
theorem reads_block {w : World} {b : Nat} {C : Array Value} {e : TypeId} {fr : Nat × Nat} (h : w.heap[b]? = some (.cells C e fr)) (k : IntKind) (xs : List Int) (hC : C.toList = xs.map (Value.int k)) (hl : xs.length ≤ 9223372036854775807) : Kd.C (Kd.int k) w (some ⟨b, 0, none⟩) xs.length xs := by
  refine Kd.C_of_reads (d := 0) ⟨rfl, hl, fun hn => ⟨_, rfl, fun j hj => ?_⟩⟩
  have e1 : (⟨b, 0, none⟩ : Addr).add j = ⟨b, j, none⟩ := add_plain b j
  rw [e1]
  unfold World.cell?
  rw [h]
  show C[j]? = _
  have e2 : C[j]? = (xs.map (Value.int k))[j]? := by rw [← hC]; simp
  simp [e2, List.getElem?_eq_getElem hj, List.getD_eq_getElem?_getD]
theorem reads_new (w : World) (C : Array Value) (e : TypeId) (fr : Nat × Nat) (k : IntKind) (xs : List Int) (hC : C.toList = xs.map (Value.int k)) (hl : xs.length ≤ 9223372036854775807) : Kd.C (Kd.int k) (w.alloc (.cells C e fr)) (some ⟨w.heap.size, 0, none⟩) xs.length xs :=
  reads_block (C := C) (e := e) (fr := fr) (by show (w.heap.push _)[w.heap.size]? = _; simp) k xs hC hl
theorem two_reads (w : World) {o : Obj} (C : Array Value) (e : TypeId) {fr : Nat × Nat} (k : IntKind) (xs : List Int) (hC : C.toList = xs.map (Value.int k)) (hl : xs.length ≤ 9223372036854775807) : Kd.C (Kd.int k) ((w.alloc o).alloc (.cells C e fr)) (some ⟨w.heap.size + 1, 0, none⟩) xs.length xs :=
  reads_block (C := C) (e := e) (fr := fr) (by show ((w.heap.push _).push _)[_]? = _; simp only [Array.getElem?_push, Array.size_push, if_true]) k xs hC hl
end Go.Proofs.YtgljicdpcapgnaaDoor.Lit
set_option linter.unusedVariables false
set_option linter.unusedSimpArgs false
namespace Go.Proofs.YtgljicdpcapgnaaDoor
open Go.RowKit Go.Proofs.YtgljicdpcapgnaaDoorW.PrintWords Go.Proofs.YtgljicdpcapgnaaDoorW.PrintLast
namespace Wi
section
variable {P : Program} {ops : Array Oper}
theorem callp_ {oi : Oper} {N : Option Tmp} {a : Act} {w : World} {K : Act → World → Prop} {Q : Exit → Act → World → Prop} (f : FuncId) (args : Array Value) (hw : Region.wanted oi (yielded ops a.tmps) = true) (hN : oi.dst = N) (hrun : (execOp a.eval oi).run P w = .ok (.enter f args) w)
    (h : Calls P f args w fun e w' => (∃ v, e = .returned v ∧ K (a.put N v) w') ∨ ∃ c, e = .panicked c ∧ Q (.panic c) a w') : if Region.wanted oi (yielded ops a.tmps) = true then Oper.wp P oi a w K Q else K (a.put N undef) w := by
  rw [if_pos hw]
  subst hN
  unfold Oper.wp
  rw [hrun, Oper.upon_enter]
  refine h.mono fun e w'' hh => ?_
  rcases hh with ⟨v, rfl, hk⟩ | ⟨c, rfl, hk⟩
  · exact hk
  · exact hk
end
def Pk (p0 p1 p2 : Value) (D : List Deferred) (W : World) : Exit → Act → World → Prop
  | .panic c, a, w' => (∃ u pv, c = [{ v := .iface u pv, recovered := false }]) ∧ a.tmps[4]? = some p0 ∧ a.tmps[5]? = some p1 ∧ a.tmps[6]? = some p2 ∧ a.defers = D ∧ w' = W
  | _, _, _ => False
theorem Pk.put {p0 p1 p2 : Value} {D : List Deferred} {W : World} {c : List PanicEntry} {a : Act} {w : World} {d : Nat} {v : Value} (hd : 6 < d) (h : Pk p0 p1 p2 D W (.panic c) (a.put (some d) v) w) : Pk p0 p1 p2 D W (.panic c) a w := by
  obtain ⟨h1, h2, h3, h4, h5, h6⟩ := h
  simp only [Act.put, Array.getElem?_setIfInBounds] at h2 h3 h4 h5
  rw [if_neg (by omega)] at h2 h3 h4
  exact ⟨h1, h2, h3, h4, h5, h6⟩
structure Own (w : World) (v : Value) (acc : List Int) (A : Option Addr) (c : Nat) (rest : List Int) (wr : World) : Prop where
  b0 : wr.heap[w.heap.size]? = some (.cells #[v] 84 (0, 0))
  b1 : wr.heap[w.heap.size + 1]? = some (.cells #[.slice none 0 0] 23 (0, 0))
  b2 : wr.heap[w.heap.size + 1 + 1]? = some (.cells #[.bool false] 4 (0, 0))
  b3 : wr.heap[w.heap.size + 1 + 1 + 1]? = some (.cells #[.slice A rest.length c] 144 (0, 0))
  r : Kd.R (Kd.int .u64) 42 wr w.heap.size (fun k => w.heap.size + 1 + 1 + 1 < k) v acc
  reads : Kd.C (Kd.int .u8) w A rest.length rest
  cap : rest.length ≤ c
  below : Below w.heap.size w wr
theorem cell0 {w : World} {b : Nat} {v : Value} {t : TypeId} (h : w.heap[b]? = some (.cells #[v] t (0, 0))) : w.cell? ⟨b, 0, none⟩ = some v := by unfold World.cell?; rw [h]; rfl
theorem frozen0 {w : World} {b : Nat} {v : Value} {t : TypeId} (h : w.heap[b]? = some (.cells #[v] t (0, 0))) : w.frozen? ⟨b, 0, none⟩ = false := by unfold World.frozen?; rw [h]; simp
theorem block_set {w : World} {b : Nat} {v u : Value} {t : TypeId} (h : w.heap[b]? = some (.cells #[v] t (0, 0))) : (w.setCell ⟨b, 0, none⟩ u).heap[b]? = some (.cells #[u] t (0, 0)) := by
  rw [heap_setCell_same w b 0 #[v] t u h]
  rfl
theorem Own.step {w : World} {v : Value} {acc : List Int} {A : Option Addr} {c : Nat} {rest : List Int} {wr : World} (h : Own w v acc A c rest wr) {wn : World} (hb : ∀ k, k < wr.heap.size → wn.heap[k]? = wr.heap[k]?) (hB : Below w.heap.size w wn) : Own w v acc A c rest wn := by
  have lt : ∀ {k : Nat} {o : Obj}, wr.heap[k]? = some o → k < wr.heap.size := fun e => (Array.getElem?_eq_some_iff.1 e).1
  exact ⟨(hb _ (lt h.b0)).trans h.b0, (hb _ (lt h.b1)).trans h.b1, (hb _ (lt h.b2)).trans h.b2, (hb _ (lt h.b3)).trans h.b3, Kd.R_step h.r (fun k _ hk => hb k hk), h.reads, h.cap, hB⟩
theorem Own.drew {w : World} {v : Value} {acc : List Int} {A : Option Addr} {c : Nat} {rest : List Int} {wr : World} (h : Own w v acc A c rest wr) : Own w v acc A c rest wr.drew := h.step (fun _ _ => rfl) (below_drew h.below)
theorem Own.cut {w : World} {v : Value} {acc : List Int} {A A' : Option Addr} {c c' n : Nat} {rest : List Int} {wr : World} (h : Own w v acc A c rest wr) (hc : Cuts A rest A' n) (h1 : (rest.drop n).length ≤ c') :
    Own w v acc A' c' (rest.drop n) (wr.setCell ⟨w.heap.size + 1 + 1 + 1, 0, none⟩ (.slice A' (rest.drop n).length c')) :=
  ⟨(Below.heap_setCell _ _ _ _ (by show w.heap.size ≠ w.heap.size + 1 + 1 + 1; omega)).trans h.b0, (Below.heap_setCell _ _ _ _ (by show w.heap.size + 1 ≠ w.heap.size + 1 + 1 + 1; omega)).trans h.b1, (Below.heap_setCell _ _ _ _ (by show w.heap.size + 1 + 1 ≠ w.heap.size + 1 + 1 + 1; omega)).trans h.b2, block_set h.b3,
    Kd.R_far (p := ⟨w.heap.size + 1 + 1 + 1, 0, none⟩) h.r (fun k hk => by show k ≠ w.heap.size + 1 + 1 + 1; omega) _, hc _ h.reads, h1, h.below.setCell (p := ⟨w.heap.size + 1 + 1 + 1, 0, none⟩) (by show w.heap.size ≤ w.heap.size + 1 + 1 + 1; omega) _⟩
theorem Own.app {w : World} {v v1 : Value} {acc acc' : List Int} {A : Option Addr} {c : Nat} {rest : List Int} {W w2 : World} (h : Own w v acc A c rest W) (hr : Kd.R (Kd.int .u64) 42 w2 w.heap.size (fun k => w.heap.size + 1 + 1 + 1 < k) v1 acc') (hb : Below w.heap.size w w2) (hg : W.grownBy w2 v.ownBlock) :
    Own w v1 acc' A c rest (w2.setCell ⟨w.heap.size, 0, none⟩ v1) ∧ w2.heap[w.heap.size]? = some (.cells #[v] 84 (0, 0)) := by
  have lt : ∀ {k : Nat} {o : Obj}, W.heap[k]? = some o → k < W.heap.size := fun e => (Array.getElem?_eq_some_iff.1 e).1
  have ne : ∀ k, k ≤ w.heap.size + 1 + 1 + 1 → some k ≠ v.ownBlock := fun k hk e => by have := h.r.1 k e.symm; omega
  have g0 := (hg.block _ (lt h.b0) (ne _ (by omega))).trans h.b0
  have g1 := (hg.block _ (lt h.b1) (ne _ (by omega))).trans h.b1
  have g2 := (hg.block _ (lt h.b2) (ne _ (by omega))).trans h.b2
  have g3 := (hg.block _ (lt h.b3) (ne _ (by omega))).trans h.b3
  exact ⟨⟨block_set g0, (Below.heap_setCell _ _ _ _ (by show w.heap.size + 1 ≠ w.heap.size; omega)).trans g1, (Below.heap_setCell _ _ _ _ (by show w.heap.size + 1 + 1 ≠ w.heap.size; omega)).trans g2, (Below.heap_setCell _ _ _ _ (by show w.heap.size + 1 + 1 + 1 ≠ w.heap.size; omega)).trans g3,
    Kd.R_far (p := ⟨w.heap.size, 0, none⟩) hr (fun k hk => by show k ≠ w.heap.size; omega) _, h.reads, h.cap, hb.setCell (p := ⟨w.heap.size, 0, none⟩) (Nat.le_refl _) _⟩, g0⟩
theorem four (h : Array Obj) (a b c d : Obj) : ((((h.push a).push b).push c).push d)[h.size]? = some a ∧ ((((h.push a).push b).push c).push d)[h.size + 1]? = some b ∧ ((((h.push a).push b).push c).push d)[h.size + 1 + 1]? = some c ∧ ((((h.push a).push b).push c).push d)[h.size + 1 + 1 + 1]? = some d := by
  refine ⟨?_, ?_, ?_, ?_⟩ <;> simp only [Array.getElem?_push, Array.size_push, if_true] <;> (repeat (first | rw [if_neg (by omega)] | rw [if_pos (by omega)]))
theorem wd_range (n : Int) : 1 ≤ wd n ∧ wd n ≤ 8 := by unfold wd; split <;> (try split) <;> (try split) <;> omega
end Wi
def wire_Take.f (l0 l1 : List Int) : Option (List Int × List Int × Bool) := if l0.length ≤ 1099511627776 ∧ l1.length ≤ 1099511627776 ∧ ∀ x ∈ l0, 0 ≤ x ∧ x ≤ 255 then some (Wi.takes l0 l1 []) else none
set_option maxHeartbeats 2000000 in
set_option maxRecDepth 100000 in
theorem wire_Take.calls (A0 : Option Addr) (c0 : Nat) (l0 : List Int) (A1 : Option Addr) (c1 : Nat) (l1 : List Int) (r1 : List Int) (r2 : List Int) (r3 : Bool) (w : World) (hr0 : Kd.C (Kd.int .u8) w A0 l0.length l0) (hc0 : l0.length ≤ c0) (hr1 : Kd.C (Kd.int .i64) w A1 l1.length l1) (hc1 : l1.length ≤ c1) (h : wire_Take.f l0 l1 = some (r1, r2, r3)) :
    Calls Tryd.prog 65 #[.slice A0 l0.length c0, .slice A1 l1.length c1] w fun e w' => ∃ v0_ v1_ : Value, e = .returned (.tuple #[v0_, v1_, .bool r3]) ∧ Kd.R (Kd.int .u64) 42 w' w.heap.size (fun _ => True) v0_ r1 ∧ Kd.R (Kd.int .u8) 5 w' w.heap.size (fun _ => True) v1_ r2 ∧ Below w.heap.size w w' := by
  have hmf : ∀ (fn : Fn) (first cap : Array Value) (w : World), (Instr.makeFunc fn first cap).run Tryd.prog w = .ok (.func fn first cap) w := fun _ _ _ _ => rfl
  have HR0 := Aside0.mk hr0
  have HR1 := Aside0.mk hr1
  clear hr0 hr1
  have HF := Aside0.mk h
  clear h
  go_enter_defers Tryd.func65, Tryd.ntmps65
  go_wp2_with fail
  have hbytes : ∀ x ∈ l0, 0 ≤ x ∧ x ≤ 255 := by
    have h := HF.out
    unfold wire_Take.f at h
    split at h
    · rename_i hc; exact hc.2.2
    · cases h
  have hlen0 : l0.length ≤ 1099511627776 := by
    have h := HF.out
    unfold wire_Take.f at h
    split at h
    · rename_i hc; exact hc.1
    · cases h
  have hlen1 : l1.length ≤ 1099511627776 := by
    have h := HF.out
    unfold wire_Take.f at h
    split at h
    · rename_i hc; exact hc.2.1
    · cases h
  have HT : Aside0 (Wi.takes l0 l1 [] = (r1, r2, r3)) := ⟨by
    have h := HF.out
    unfold wire_Take.f at h
    rw [if_pos ⟨hlen0, hlen1, hbytes⟩] at h
    exact Option.some.inj h⟩
  have HY := Aside0.mk hbytes
  clear hbytes HF
  go_loopw [16] (fun v16 wr => ∃ (k : Nat) (v : Value) (acc : List Int) (A : Option Addr) (c : Nat) (rest : List Int), v16 = .int .i64 k ∧ k ≤ l1.length ∧ Aside0 (Wi.takes rest (l1.drop k) acc = (r1, r2, r3)) ∧ Aside0 (Wi.Bytes rest) ∧ Aside0 (acc.length = k) ∧ Aside0 (rest.length ≤ l0.length) ∧ Aside0 (Wi.Own w v acc A c rest wr)) (fun i _ => l1.length - (intOf i).toNat)
  case atStart =>
    refine ⟨0, .slice none 0 0, [], A0, c0, l0, rfl, by omega, ⟨HT.out⟩, ⟨HY.out⟩, ⟨rfl⟩, ⟨Nat.le_refl _⟩, ⟨?_⟩⟩
    refine ⟨?_, ?_, ?_, ?_, Kd.R_nil _ _ _ _ _, HR0.out, hc0, ?_⟩
    · exact (Wi.four w.heap _ _ _ _).1
    · exact (Wi.four w.heap _ _ _ _).2.1
    · exact (Wi.four w.heap _ _ _ _).2.2.1
    · exact (Wi.four w.heap _ _ _ _).2.2.2
    · exact below_alloc (below_alloc (below_alloc (below_alloc (Below.refl _ _) _) _) _) _
  case round =>
    obtain ⟨k, v, acc, A, c, rest, rfl, hk, HA, HBy, HAL, HRL, HO⟩ := hrel
    by_cases hlt : k < l1.length
    · obtain ⟨ad, e, hx⟩ := Kd.at_int HR1.out k (by omega) (by omega)
      cases e
      have hx' : wr.cell? (ad.add k) = some (.int .i64 (rd l1 k)) := by simpa using (HO.out.below.cell (World.block_lt_of_cell? w _ hx)).trans hx
      clear hx
      obtain ⟨x, HX⟩ : ∃ x, Aside0 (rd l1 ↑k = x) := ⟨_, ⟨rfl⟩⟩
      rw [HX.out] at hx'
      have HD : Aside0 (l1.drop k = x :: l1.drop (k + 1)) := ⟨by rw [← HX.out, List.drop_eq_getElem_cons hlt]; simp [rd, List.getD_eq_getElem?_getD, List.getElem?_eq_getElem hlt]⟩
      go_wp2_with fail
      by_cases hs : Wi.wd x ≤ rest.length
      · refine wp_region_noPanic ?_
        have hwd := Wi.wd_range x
        obtain ⟨Av, cv, hvv⟩ := Kd.R_slice HO.out.r
        subst hvv
        refine Rg.s1 8 (fun w' => w'.cell? ⟨w.heap.size, 0, none⟩ = some (.slice Av acc.length cv)) [7] (Wi.cell0 HO.out.drew.b0) #[false, false, false, false, false, false, false, false] (fun hHeld => ?_)
        refine Rg.p1 1 (.some 21) ?_
        refine Rg.p1 2 (.some 22) ?_
        refine Rg.t1 0 (.some 20) hHeld ?_ (hy := by intro w' hS'; go_simp; first | done | with_reducible rfl)
        refine Rg.o1 3 (.some 23) (fun K hK => ?_)
        refine call_ 52 #[.int .i64 x] (by rfl) rfl (by go_simp) ?_
        refine (Wi.width_is x _).mono ?_
        rintro e w' ⟨rfl, rfl⟩
        refine ⟨_, rfl, ?_⟩
        refine hK.out _ _ hHeld (fun hHeld => ?_)
        clear hK K
        refine Rg.n1 ?_
        refine Rg.o1 4 (.some 24) (fun K hK => ?_)
        refine call_ 78 #[.pointer (some ⟨w.heap.size + 1 + 1 + 1, 0, none⟩), .int .i64 (Wi.wd x)] (by rfl) rfl (by go_simp) ?_
        refine (Wi.number_long _ A c rest (Wi.wd x) hwd.2 hwd.1 _ HO.out.drew.b3 hs (Kd.C_below HO.out.reads HO.out.drew.below) HO.out.cap HBy.out).mono ?_
        rintro e w' ⟨rfl, A', c', rfl, hc1, hcut⟩
        have HO1 := Aside0.mk (HO.out.drew.cut hcut hc1)
        refine ⟨_, rfl, ?_⟩
        refine hK.out _ _ (Wi.cell0 HO1.out.b0) (fun hHeld => ?_)
        clear hK K
        refine Rg.n1 ?_
        refine Rg.o1 5 (.some 25) (fun K hK => ?_)
        refine value_ (w1 := (World.setCell wr.drew ⟨w.heap.size + 1 + 1 + 1, 0, none⟩ (.slice A' (rest.drop (Wi.wd x)).length c')).alloc (.cells #[.int .u64 (Wi.num (rest.take (Wi.wd x)))] 42)) (v := .slice (some ⟨(World.setCell wr.drew ⟨w.heap.size + 1 + 1 + 1, 0, none⟩ (.slice A' (rest.drop (Wi.wd x)).length c')).heap.size, 0, none⟩) 1 1) (by rfl) rfl (by go_simp) ?_
        have HO2 := Aside0.mk (HO1.out.step (wn := (World.setCell wr.drew ⟨w.heap.size + 1 + 1 + 1, 0, none⟩ (.slice A' (rest.drop (Wi.wd x)).length c')).alloc (.cells #[.int .u64 (Wi.num (rest.take (Wi.wd x)))] 42)) (fun k hk => Below.heap_alloc _ _ _ hk) (HO1.out.below.alloc HO1.out.below.size _))
        refine hK.out _ _ (Wi.cell0 HO2.out.b0) (fun hHeld => ?_)
        clear hK K
        refine Rg.n1 ?_
        generalize (World.setCell wr.drew ⟨w.heap.size + 1 + 1 + 1, 0, none⟩ (.slice A' (rest.drop (Wi.wd x)).length c')) = w1 at *
        refine Rg.o1 6 (.some 26) (fun K hK => ?_)
        refine Kd.R_append_step (Kd.int .u64) (w0 := w) (W := w1) w.heap.size (by rfl) (.tmp 20) (.tmp 25) 84 42 (.int .u64 0) 8 rfl Tryd.underlying84 Wi.info64 rfl (by decide) (by omega) (.slice Av acc.length cv) acc (Wi.num (rest.take (Wi.wd x))) [.int .u64 (Wi.num (rest.take (Wi.wd x)))] (fun k => w.heap.size + 1 + 1 + 1 < k) (fun _ => False) rfl rfl rfl (fun _ h => h.elim) ?hfresh HO1.out.r HO1.out.below HO1.out.below.size ?hl ?_
        case hfresh => intro k hk; have := (Array.getElem?_eq_some_iff.1 HO1.out.b3).1; omega
        case hl => have := HAL.out; omega
        intro v1 w2 hr2 hb2 hg2 _
        have HP := Aside0.mk (HO1.out.app hr2 hb2 hg2)
        obtain ⟨Av1, cv1, hv1⟩ := Kd.R_slice hr2
        subst hv1
        clear hr2 hb2 hg2
        refine hK.out _ _ (Wi.cell0 HP.out.2) (fun hHeld => ?_)
        clear hK K
        refine Rg.n1 ?_
        refine Rg.l1 7 none (fun K hK => ?_)
        have hc0' := Wi.cell0 HP.out.2
        have hf0' := Wi.frozen0 HP.out.2
        refine skip_ (w1 := w2.setCell ⟨w.heap.size, 0, none⟩ (.slice Av1 (acc ++ [Wi.num (rest.take (Wi.wd x))]).length cv1)) (by rfl) rfl (by go_simp) ?_
        clear hc0' hf0'
        refine hK.out _ _ ?_
        clear hK K
        refine Rg.d1 ?_
        have HQ := Aside0.mk HP.out.1
        clear hHeld HP HO1 HO2
        refine NoPanic.normal ?_
        go_wp2_with fail
        go_roundw
        case rel =>
          refine ⟨k + 1, .slice Av1 (acc ++ [Wi.num (rest.take (Wi.wd x))]).length cv1, acc ++ [Wi.num (rest.take (Wi.wd x))], A', c', rest.drop (Wi.wd x), by go_num, by omega, ⟨?_⟩, ⟨HBy.out.drop _⟩, ⟨?_⟩, ⟨?_⟩, ⟨by simpa using HQ.out⟩⟩
          · rw [← HA.out, HD.out, Wi.takes, if_neg (by omega)]
          · rw [List.length_append, HAL.out]; rfl
          · have := HRL.out; rw [List.length_drop]; omega
        case measure => simp [intOf]; omega
      · refine Code.wp_mono (Q := Wi.Pk (.pointer (some ⟨w.heap.size, 0, none⟩)) (.pointer (some ⟨w.heap.size + 1, 0, none⟩)) (.pointer (some ⟨w.heap.size + 1 + 1, 0, none⟩)) [{ target := .fn (.func 77) #[.pointer (some ⟨w.heap.size, 0, none⟩), .pointer (some ⟨w.heap.size + 1, 0, none⟩), .pointer (some ⟨w.heap.size + 1 + 1, 0, none⟩)], args := #[] }] wr.drew) ?hq ?_
        case hq =>
          intro e a' w' hp
          cases e with
          | panic ch =>
            obtain ⟨⟨u, pv, rfl⟩, p4, p5, p6, pd, rfl⟩ := hp
            have HZ : Aside0 (r1 = [] ∧ r2 = [] ∧ r3 = false) := ⟨by
              have h := HA.out
              rw [HD.out, Wi.takes, if_pos (by omega)] at h
              cases h
              exact ⟨rfl, rfl, rfl⟩⟩
            obtain ⟨e1, e2, e3⟩ := HZ.out
            subst e1; subst e2; subst e3
            have HW := Aside0.mk HO.out.drew
            have c0 := Wi.cell0 HW.out.b0
            have z0 := Wi.frozen0 HW.out.b0
            have k1 := Eq.trans (Below.heap_setCell wr.drew ⟨w.heap.size, 0, none⟩ (.slice none 0 0) (w.heap.size + 1) (by show w.heap.size + 1 ≠ w.heap.size; omega)) HW.out.b1
            have k2 := Eq.trans (Below.heap_setCell wr.drew ⟨w.heap.size, 0, none⟩ (.slice none 0 0) (w.heap.size + 1 + 1) (by show w.heap.size + 1 + 1 ≠ w.heap.size; omega)) HW.out.b2
            have k2' := Eq.trans (Below.heap_setCell (wr.drew.setCell ⟨w.heap.size, 0, none⟩ (.slice none 0 0)) ⟨w.heap.size + 1, 0, none⟩ (.slice none 0 0) (w.heap.size + 1 + 1) (by show w.heap.size + 1 + 1 ≠ w.heap.size + 1; omega)) k2
            have k0 := Wi.block_set (u := .slice none 0 0) HW.out.b0
            show Leaves _ _ a'.tmps _ a'.defers (.panicking _) _
            rw [pd]
            clear HA HR0 HR1 HT HBy HAL HRL
            refine leaves_cons (f := 77) (args := #[.pointer (some ⟨w.heap.size, 0, none⟩), .pointer (some ⟨w.heap.size + 1, 0, none⟩), .pointer (some ⟨w.heap.size + 1 + 1, 0, none⟩)]) (by simp) (by simp [go_sem]) ?_
            refine (Wi.catch_panicking ⟨w.heap.size, 0, none⟩ ⟨w.heap.size + 1, 0, none⟩ ⟨w.heap.size + 1 + 1, 0, none⟩ _ _ _ u pv [] _ c0 z0 (Wi.cell0 k1) (Wi.frozen0 k1) (Wi.cell0 k2') (Wi.frozen0 k2')).mono ?_
            rintro e' u' w' ⟨rfl, rfl, rfl⟩
            have m1 := Wi.block_set (u := .slice none 0 0) k1
            have m0 := Eq.trans (Below.heap_setCell (wr.drew.setCell ⟨w.heap.size, 0, none⟩ (.slice none 0 0)) ⟨w.heap.size + 1, 0, none⟩ (.slice none 0 0) (w.heap.size) (by show w.heap.size ≠ w.heap.size + 1; omega)) k0
            have n0 := Eq.trans (Below.heap_setCell ((wr.drew.setCell ⟨w.heap.size, 0, none⟩ (.slice none 0 0)).setCell ⟨w.heap.size + 1, 0, none⟩ (.slice none 0 0)) ⟨w.heap.size + 1 + 1, 0, none⟩ (.bool false) (w.heap.size) (by show w.heap.size ≠ w.heap.size + 1 + 1; omega)) m0
            have n1 := Eq.trans (Below.heap_setCell ((wr.drew.setCell ⟨w.heap.size, 0, none⟩ (.slice none 0 0)).setCell ⟨w.heap.size + 1, 0, none⟩ (.slice none 0 0)) ⟨w.heap.size + 1 + 1, 0, none⟩ (.bool false) (w.heap.size + 1) (by show w.heap.size + 1 ≠ w.heap.size + 1 + 1; omega)) m1
            have n2 := Wi.block_set (u := .bool false) k2'
            have d0 := Wi.cell0 n0
            have d1 := Wi.cell0 n1
            have d2 := Wi.cell0 n2
            clear c0 z0 k1 k2 k2' k0 m1 m0 n0 n1 n2
            have hB := ((HW.out.below.setCell (p := ⟨w.heap.size, 0, none⟩) (Nat.le_refl _) (.slice none 0 0)).setCell (p := ⟨w.heap.size + 1, 0, none⟩) (by show w.heap.size ≤ w.heap.size + 1; omega) (.slice none 0 0)).setCell (p := ⟨w.heap.size + 1 + 1, 0, none⟩) (by show w.heap.size ≤ w.heap.size + 1 + 1; omega) (.bool false)
            generalize ((wr.drew.setCell ⟨w.heap.size, 0, none⟩ (.slice none 0 0)).setCell ⟨w.heap.size + 1, 0, none⟩ (.slice none 0 0)).setCell ⟨w.heap.size + 1 + 1, 0, none⟩ (.bool false) = WW at d0 d1 d2 hB ⊢
            refine ⟨.tuple #[.slice none 0 0, .slice none 0 0, .bool false], by simp [results, Tryd.results65, go_sem, Act.eval, p4, p5, p6, d0, d1, d2], ?_⟩
            refine ⟨_, _, rfl, Kd.R_nil _ _ _ _ _, Kd.R_nil _ _ _ _ _, ?_⟩
            exact hB
          | normal => exact hp.elim
          | ret => exact hp.elim
          | exit _ => exact hp.elim
          | goto _ => exact hp.elim
          | outgrown => exact hp.elim
        have hwd := Wi.wd_range x
        obtain ⟨Av, cv, hvv⟩ := Kd.R_slice HO.out.r
        subst hvv
        refine Rg.s1 8 (fun w' => w'.cell? ⟨w.heap.size, 0, none⟩ = some (.slice Av acc.length cv)) [7] (Wi.cell0 HO.out.drew.b0) #[false, false, false, false, false, false, false, false] (fun hHeld => ?_)
        refine Rg.p1 1 (.some 21) ?_ (hQ := by exact (fun _ _ _ h => Wi.Pk.put (by decide) h))
        refine Rg.p1 2 (.some 22) ?_ (hQ := by exact (fun _ _ _ h => Wi.Pk.put (by decide) h))
        refine Rg.t1 0 (.some 20) hHeld ?_ (hy := by intro w' hS'; go_simp; first | done | with_reducible rfl) (hQ := by exact (fun _ _ _ h => Wi.Pk.put (by decide) h))
        refine Rg.o1 3 (.some 23) (fun K hK => ?_)
        refine call_ 52 #[.int .i64 x] (by rfl) rfl (by go_simp) ?_
        refine (Wi.width_is x _).mono ?_
        rintro e w' ⟨rfl, rfl⟩
        refine ⟨_, rfl, ?_⟩
        refine hK.out _ _ hHeld (fun hHeld => ?_)
        clear hK K
        refine Rg.n1 ?_
        refine one_ (i := 4) (N := (some 24)) #[true, true, true, true, true, false, false, false] rfl rfl (by kernel_rfl) (by decide) (fun K hK => ?_)
        refine Wi.callp_ 78 #[.pointer (some ⟨w.heap.size + 1 + 1 + 1, 0, none⟩), .int .i64 (Wi.wd x)] (by rfl) rfl (by go_simp) ?_
        refine (Wi.number_short _ A c rest (Wi.wd x) hwd.2 _ HO.out.drew.b3 (by omega)).mono ?_
        rintro e w' ⟨⟨u, pv, rfl⟩, rfl⟩
        exact .inr ⟨_, rfl, ⟨u, pv, rfl⟩, rfl, rfl, rfl, rfl, rfl⟩
    · go_wp2_with fail
      refine wp_region_noPanic ?_
      obtain ⟨Av, cv, hvv⟩ := Kd.R_slice HO.out.r
      subst hvv
      refine Rg.s1 9 (fun w' => w'.cell? ⟨w.heap.size, 0, none⟩ = some (.slice Av acc.length cv) ∧ w'.cell? ⟨w.heap.size + 1 + 1 + 1, 0, none⟩ = some (.slice A rest.length c)) [6, 7, 8] (⟨Wi.cell0 HO.out.drew.b0, Wi.cell0 HO.out.drew.b3⟩) #[false, false, false, false, false, false, false, false, false] (fun hHeld => ?_)
      refine Rg.t1 0 (.some 28) hHeld ?_ (hy := by intro w' hS'; (obtain ⟨hS0, _⟩ := hS'; go_simp); first | done | with_reducible rfl)
      refine Rg.p1 1 (.some 29) ?_
      refine Rg.p1 2 (.some 30) ?_
      refine Rg.p1 3 (.some 31) ?_
      refine Rg.t1 4 (.some 32) hHeld ?_ (hy := by intro w' hS'; (obtain ⟨_, hS1⟩ := hS'; go_simp); first | done | with_reducible rfl)
      refine Rg.o1 5 (.some 33) (fun K hK => ?_)
      refine call_ 41 #[.slice A rest.length c] (by rfl) rfl (by go_simp) ?_
      refine (clone_.calls A c rest rest _ (Kd.C_below HO.out.reads HO.out.drew.below) HO.out.cap (by unfold clone_.f; rw [if_pos (by have := HRL.out; omega)])).mono ?_
      rintro e w1 ⟨v1, rfl, hr1, hb1⟩
      have HO1 := Aside0.mk (HO.out.drew.step (fun k hk => hb1.block k hk) (below_then HO.out.drew.below HO.out.drew.below.size hb1))
      have HR1' := Aside0.mk hr1
      have HB1 := Aside0.mk hb1
      obtain ⟨Av1, cv1, hv1⟩ := Kd.R_slice hr1
      subst hv1
      clear hr1 hb1
      refine ⟨_, rfl, ?_⟩
      refine hK.out _ _ ⟨Wi.cell0 HO1.out.b0, Wi.cell0 HO1.out.b3⟩ (fun hHeld => ?_)
      clear hK K
      refine Rg.n1 ?_
      have b0 := HO1.out.b0
      have b1 := HO1.out.b1
      have b2 := HO1.out.b2
      refine Rg.l1 6 none (fun K hK => ?_)
      have hc0' := Wi.cell0 b0
      have hf0' := Wi.frozen0 b0
      refine skip_ (w1 := w1.setCell ⟨w.heap.size, 0, none⟩ (.slice Av acc.length cv)) (by rfl) rfl (by go_simp) ?_
      clear hc0' hf0'
      refine hK.out _ _ ?_
      clear hK K
      have k0 := Wi.block_set (u := .slice Av acc.length cv) b0
      have k1 := Eq.trans (Below.heap_setCell w1 ⟨w.heap.size, 0, none⟩ (.slice Av acc.length cv) (w.heap.size + 1) (by show w.heap.size + 1 ≠ w.heap.size; omega)) b1
      have k2 := Eq.trans (Below.heap_setCell w1 ⟨w.heap.size, 0, none⟩ (.slice Av acc.length cv) (w.heap.size + 1 + 1) (by show w.heap.size + 1 + 1 ≠ w.heap.size; omega)) b2
      clear b0 b1 b2
      refine Rg.l1 7 none (fun K hK => ?_)
      have hc0' := Wi.cell0 k1
      have hf0' := Wi.frozen0 k1
      refine skip_ (w1 := (w1.setCell ⟨w.heap.size, 0, none⟩ (.slice Av acc.length cv)).setCell ⟨w.heap.size + 1, 0, none⟩ (.slice Av1 rest.length cv1)) (by rfl) rfl (by go_simp) ?_
      clear hc0' hf0'
      refine hK.out _ _ ?_
      clear hK K
      have m1 := Wi.block_set (u := .slice Av1 rest.length cv1) k1
      have m0 := Eq.trans (Below.heap_setCell (w1.setCell ⟨w.heap.size, 0, none⟩ (.slice Av acc.length cv)) ⟨w.heap.size + 1, 0, none⟩ (.slice Av1 rest.length cv1) (w.heap.size) (by show w.heap.size ≠ w.heap.size + 1; omega)) k0
      have m2 := Eq.trans (Below.heap_setCell (w1.setCell ⟨w.heap.size, 0, none⟩ (.slice Av acc.length cv)) ⟨w.heap.size + 1, 0, none⟩ (.slice Av1 rest.length cv1) (w.heap.size + 1 + 1) (by show w.heap.size + 1 + 1 ≠ w.heap.size + 1; omega)) k2
      clear k0 k1 k2
      refine Rg.l1 8 none (fun K hK => ?_)
      have hc0' := Wi.cell0 m2
      have hf0' := Wi.frozen0 m2
      refine skip_ (w1 := ((w1.setCell ⟨w.heap.size, 0, none⟩ (.slice Av acc.length cv)).setCell ⟨w.heap.size + 1, 0, none⟩ (.slice Av1 rest.length cv1)).setCell ⟨w.heap.size + 1 + 1, 0, none⟩ (.bool true)) (by rfl) rfl (by go_simp) ?_
      clear hc0' hf0'
      refine hK.out _ _ ?_
      clear hK K
      have n0 := Eq.trans (Below.heap_setCell ((w1.setCell ⟨w.heap.size, 0, none⟩ (.slice Av acc.length cv)).setCell ⟨w.heap.size + 1, 0, none⟩ (.slice Av1 rest.length cv1)) ⟨w.heap.size + 1 + 1, 0, none⟩ (.bool true) (w.heap.size) (by show w.heap.size ≠ w.heap.size + 1 + 1; omega)) m0
      have n1 := Eq.trans (Below.heap_setCell ((w1.setCell ⟨w.heap.size, 0, none⟩ (.slice Av acc.length cv)).setCell ⟨w.heap.size + 1, 0, none⟩ (.slice Av1 rest.length cv1)) ⟨w.heap.size + 1 + 1, 0, none⟩ (.bool true) (w.heap.size + 1) (by show w.heap.size + 1 ≠ w.heap.size + 1 + 1; omega)) m1
      have n2 := Wi.block_set (u := .bool true) m2
      have d0 := Wi.cell0 n0
      have d1 := Wi.cell0 n1
      have d2 := Wi.cell0 n2
      clear m0 m1 m2 n0 n1 n2
      refine Rg.d1 ?_
      refine NoPanic.normal ?_
      have HRR : Aside0 (r1 = acc ∧ r2 = rest ∧ r3 = true) := ⟨by
        have h := HA.out
        rw [List.drop_eq_nil_of_le (by omega), Wi.takes] at h
        cases h
        exact ⟨rfl, rfl, rfl⟩⟩
      obtain ⟨e1, e2, e3⟩ := HRR.out
      subst e1; subst e2; subst e3
      clear HA HT HR0 HR1 HBy HAL HRL
      have hR1 : Kd.R (Kd.int .u64) 42 (((w1.setCell ⟨w.heap.size, 0, none⟩ (.slice Av r1.length cv)).setCell ⟨w.heap.size + 1, 0, none⟩ (.slice Av1 r2.length cv1)).setCell ⟨w.heap.size + 1 + 1, 0, none⟩ (.bool true)) w.heap.size (fun _ => True) (.slice Av r1.length cv) r1 := Kd.R_mono (Kd.R_far (p := ⟨w.heap.size + 1 + 1, 0, none⟩) (Kd.R_far (p := ⟨w.heap.size + 1, 0, none⟩) (Kd.R_far (p := ⟨w.heap.size, 0, none⟩) HO1.out.r (fun k hk => by show k ≠ w.heap.size; omega) _) (fun k hk => by show k ≠ w.heap.size + 1; omega) _) (fun k hk => by show k ≠ w.heap.size + 1 + 1; omega) _) (fun _ _ => trivial)
      have hl3 : w.heap.size + 1 + 1 + 1 < wr.drew.heap.size := (Array.getElem?_eq_some_iff.1 HO.out.drew.b3).1
      have hR2 : Kd.R (Kd.int .u8) 5 (((w1.setCell ⟨w.heap.size, 0, none⟩ (.slice Av r1.length cv)).setCell ⟨w.heap.size + 1, 0, none⟩ (.slice Av1 r2.length cv1)).setCell ⟨w.heap.size + 1 + 1, 0, none⟩ (.bool true)) w.heap.size (fun _ => True) (.slice Av1 r2.length cv1) r2 := Kd.R_lower (Kd.R_mono (Kd.R_far (p := ⟨w.heap.size + 1 + 1, 0, none⟩) (Kd.R_far (p := ⟨w.heap.size + 1, 0, none⟩) (Kd.R_far (p := ⟨w.heap.size, 0, none⟩) (Kd.R_bound HR1'.out) (fun k hk => by have := hk.2.1; show k ≠ w.heap.size; omega) _) (fun k hk => by have := hk.2.1; show k ≠ w.heap.size + 1; omega) _) (fun k hk => by have := hk.2.1; show k ≠ w.heap.size + 1 + 1; omega) _) (fun _ _ => trivial)) (by omega)
      have hB := ((HO1.out.below.setCell (p := ⟨w.heap.size, 0, none⟩) (Nat.le_refl _) (.slice Av r1.length cv)).setCell (p := ⟨w.heap.size + 1, 0, none⟩) (by show w.heap.size ≤ w.heap.size + 1; omega) (.slice Av1 r2.length cv1)).setCell (p := ⟨w.heap.size + 1 + 1, 0, none⟩) (by show w.heap.size ≤ w.heap.size + 1 + 1; omega) (.bool true)
      clear HO1 HB1 HR1' hHeld HO
      generalize ((w1.setCell ⟨w.heap.size, 0, none⟩ (.slice Av r1.length cv)).setCell ⟨w.heap.size + 1, 0, none⟩ (.slice Av1 r2.length cv1)).setCell ⟨w.heap.size + 1 + 1, 0, none⟩ (.bool true) = WW at d0 d1 d2 hB hR1 hR2 ⊢
      have HX1 := Aside0.mk hR1
      have HX2 := Aside0.mk hR2
      have HX3 := Aside0.mk hB
      clear hR1 hR2 hB
      go_wp2_with fail
      refine leaves_cons (f := 77) (args := #[.pointer (some ⟨w.heap.size, 0, none⟩), .pointer (some ⟨w.heap.size + 1, 0, none⟩), .pointer (some ⟨w.heap.size + 1 + 1, 0, none⟩)]) (by simp) (by simp [go_sem]) ?_
      refine (Wi.catch_idle ⟨w.heap.size, 0, none⟩ ⟨w.heap.size + 1, 0, none⟩ ⟨w.heap.size + 1 + 1, 0, none⟩ _).mono ?_
      rintro e' u' w' ⟨rfl, rfl, rfl⟩
      refine ⟨.tuple #[.slice Av r1.length cv, .slice Av1 r2.length cv1, .bool true], by simp [results, Tryd.results65, go_sem, Act.eval, d0, d1, d2], ?_⟩
      exact ⟨_, _, rfl, HX1.out, HX2.out, HX3.out⟩
end Go.Proofs.YtgljicdpcapgnaaDoor
namespace Go.Proofs.YtgljicdpcapgnaaDoor
open Go.RowKit Go.Proofs.YtgljicdpcapgnaaDoorW.PrintWords Go.Proofs.YtgljicdpcapgnaaDoorW.PrintLast Go.Proofs.YtgljicdpcapgnaaDoorW.PrintMore
attribute [local go_sem] max2_int min2_int max_two min_two max_three min_three max_four min_four
set_option linter.unusedVariables false
set_option linter.unusedSimpArgs false
def wire_width.f (a0 : Int) : Option (Int) := if a0 = 1 then (some a0) else (if a0 = 2 then (some a0) else (if a0 = 4 then (some a0) else (some 8)))
set_option maxHeartbeats 8000000 in
set_option maxRecDepth 100000 in
theorem wire_width.calls (a0 : Int) (r : Int) (w : World) (h : wire_width.f a0 = some r) :
  Calls Tryd.prog 52 #[.int .i64 a0] w fun e w' => e = .returned (.int .i64 r) ∧ Drawn0 w w' := by
 have H : (if a0 = 1 then (some a0) else (if a0 = 2 then (some a0) else (if a0 = 4 then (some a0) else (some 8)))) = some r := h
 clear h
 by_cases c2 : a0 = 1
 ·rw [if_pos c2] at H
  have c2b0 : (a0 == 1) = true := beq_iff_eq.mpr c2
  have c2b1 : (a0 != 1) = false := bne_eq_false_iff_eq.mpr c2
  clear c2
  obtain rfl := Option.some.inj H
  go_enter Tryd.func52, Tryd.ntmps52
  go_wp2
  go_ret
  exact ⟨by first | rfl | (simp; done) | (simp [*]; done), by repeat (first | exact Drawn0.refl _ | apply Drawn0.step)⟩
 ·rw [if_neg c2] at H
  have c2b0 : (a0 == 1) = false := beq_eq_false_iff_ne.mpr c2
  have c2b1 : (a0 != 1) = true := bne_iff_ne.mpr c2
  by_cases c3 : a0 = 2
  ·rw [if_pos c3] at H
   have c3b0 : (a0 == 2) = true := beq_iff_eq.mpr c3
   have c3b1 : (a0 != 2) = false := bne_eq_false_iff_eq.mpr c3
   clear c3
   obtain rfl := Option.some.inj H
   go_enter Tryd.func52, Tryd.ntmps52
   go_wp2
   go_ret
   exact ⟨by first | rfl | (simp; done) | (simp [*]; done), by repeat (first | exact Drawn0.refl _ | apply Drawn0.step)⟩
  ·rw [if_neg c3] at H
   have c3b0 : (a0 == 2) = false := beq_eq_false_iff_ne.mpr c3
   have c3b1 : (a0 != 2) = true := bne_iff_ne.mpr c3
   by_cases c4 : a0 = 4
   ·rw [if_pos c4] at H
    have c4b0 : (a0 == 4) = true := beq_iff_eq.mpr c4
    have c4b1 : (a0 != 4) = false := bne_eq_false_iff_eq.mpr c4
    clear c4
    obtain rfl := Option.some.inj H
    go_enter Tryd.func52, Tryd.ntmps52
    go_wp2
    go_ret
    exact ⟨by first | rfl | (simp; done) | (simp [*]; done), by repeat (first | exact Drawn0.refl _ | apply Drawn0.step)⟩
   ·rw [if_neg c4] at H
    have c4b0 : (a0 == 4) = false := beq_eq_false_iff_ne.mpr c4
    have c4b1 : (a0 != 4) = true := bne_iff_ne.mpr c4
    obtain rfl := Option.some.inj H
    go_enter Tryd.func52, Tryd.ntmps52
    go_wp2
    go_ret
    exact ⟨by first | rfl | (simp; done) | (simp [*]; done), by repeat (first | exact Drawn0.refl _ | apply Drawn0.step)⟩
mutual
def wire_Pack.l0 : Nat → List Int → List Int → List Int → Int → Int → Option (List Int)
  | 0, _, _, _, _, _ => none
  | k + 1, x0, x1, x5, x12, x13 => if x13 < x12 then (if 0 ≤ x13 then (if x13 < (x0.length : Int) then ((wire_width.f (rd x0 x13)).bind fun t102 => (wire_Pack.l1 k x0 x1 x5 x13 (wrap64 (8 * t102)) x12 x13)) else (none)) else (none)) else (some x5)
def wire_Pack.l1 : Nat → List Int → List Int → List Int → Int → Int → Int → Int → Option (List Int)
  | 0, _, _, _, _, _, _, _ => none
  | k + 1, x0, x1, x5, x6, x7, x12, x13 => if x7 > 0 then (if 0 ≤ x6 then (if x6 < (x1.length : Int) then (if 0 ≤ (wrap64 (x7 - 8)) then (if x5.length < 140737488355328 then (wire_Pack.l1 k x0 x1 (x5 ++ [(shr .u64 (rd x1 x6) (wrap64 (x7 - 8))) % 256]) x6 (wrap64 (x7 - 8)) x12 x13) else (none)) else (none)) else (none)) else (none)) else (wire_Pack.l0 k x0 x1 x5 x12 (wrap64 (x13 + 1)))
end
def wire_Pack.f (k : Nat) (l0 : List Int) (l1 : List Int) : Option (List Int) := wire_Pack.l0 k l0 l1 ([] : List Int) (mn (l0.length : Int) (l1.length : Int)) 0
set_option maxHeartbeats 8000000 in
set_option maxRecDepth 100000 in
theorem wire_Pack.calls (k : Nat) (A0 : Option Addr) (c0 : Nat) (l0 : List Int) (A1 : Option Addr) (c1 : Nat) (l1 : List Int) (r : List Int) (w : World) (hr0 : Kd.C (Kd.int .i64) w A0 l0.length l0) (hc0 : l0.length ≤ c0) (hr1 : Kd.C (Kd.int .u64) w A1 l1.length l1) (hc1 : l1.length ≤ c1) (h : wire_Pack.f k l0 l1 = some r) :
    Calls Tryd.prog 38 #[.slice A0 l0.length c0, .slice A1 l1.length c1] w fun e w' => ∃ v0_ : Value, e = .returned (v0_) ∧ Kd.R (Kd.int .u8) 5 w' w.heap.size (fun _ => True) v0_ r ∧ Below w.heap.size w w' := by
  have HR0 := Aside0.mk hr0
  have HC0 := Aside0.mk hc0
  clear hr0 hc0
  have HR1 := Aside0.mk hr1
  have HC1 := Aside0.mk hc1
  clear hr1 hc1
  have HB := Aside0.mk (Below.refl w.heap.size w)
  have H : (wire_Pack.l0 k l0 l1 ([] : List Int) (mn (l0.length : Int) (l1.length : Int)) 0) = some r := h
  clear h
  obtain ⟨ji3, hji3⟩ : ∃ j_ : Int, (mn (l0.length : Int) (l1.length : Int)) = j_ := ⟨_, rfl⟩
  replace H : (wire_Pack.l0 k l0 l1 ([] : List Int) ji3 0) = some r := by first | (rw [hji3] at H; exact H) | (simp only [hji3] at H ⊢; exact H)
  (try (have hji3l : 0 ≤ ji3 := by (rw [← hji3]; unfold mn; (repeat' split) <;> omega)))
  (try (have hji3m : 0 ≤ ji3 := by omega))
  have hji3_ : (if (l1.length : Int) < (l0.length : Int) then (l1.length : Int) else (l0.length : Int)) = ji3 := hji3
  have H' := Aside0.mk H
  clear H
  go_enter Tryd.func38, Tryd.ntmps38
  go_wp2
  all_goals
    first
      | (have emn : (l0.length : Int) = ji3 := by rw [← hji3]; unfold mn; rw [if_neg (by omega)])
      | (have emn : (l1.length : Int) = ji3 := by rw [← hji3]; unfold mn; rw [if_pos (by omega)])
    rw [emn]
    clear emn
    clear hji3_
    rename_i hKK
    have HKK := Aside0.mk hKK
    clear hKK
    clear h
    go_loopg [5, 13] k (fun kq v5 v13 w' => ∃ (x5_1 : List Int) (x13_1 : Int), v13 = .int .i64 x13_1 ∧ Aside0 (wire_Pack.l0 kq l0 l1 x5_1 ji3 x13_1 = some r) ∧ Aside0 (kq ≤ k) ∧ Aside0 (Kd.R (Kd.int .u8) 5 w' w.heap.size (fun _ => True) v5 x5_1) ∧ Aside0 (Below w.heap.size w w'))
    case atStart => exact ⟨(([] : List Int)), (0), (by first | rfl | (simp; done) | (simp [*]; done)), H', ⟨Nat.le_refl _⟩, ⟨by first | exact Kd.R_nil _ _ _ _ _ | exact Kd.N_nil _ _ _ _ _ | exact Kd.V_nil _ _ _ _ _ | exact Kd.Q_nil _ _ _ _ _ | exact Kd.S_nil _ _ _ _ _⟩, ⟨by repeat (first | (with_reducible first | exact HB.out | apply below_alloc | apply pw_below_drewN | apply below_drew1) | exact HB.out)⟩⟩
    case round =>
      clear H'
      try clear c1
      try clear p2
      obtain ⟨x5_1, x13_1, rfl, HA, HK1, HO_5, HB⟩ := hrel
      cases gk with
      | zero => exact absurd HA.out (by simp [wire_Pack.l0])
      | succ k1 =>
        have H := HA.out
        clear HA
        simp only [wire_Pack.l0] at H
        by_cases c4 : x13_1 < ji3
        · rw [if_pos c4] at H
          have c4b0 : decide (x13_1 < ji3) = true := decide_eq_true c4
          clear c4
          by_cases c5 : 0 ≤ x13_1
          · rw [if_pos c5] at H
            have c5b0 : decide (0 ≤ x13_1) = true := decide_eq_true c5
            clear c5
            by_cases c6 : x13_1 < (l0.length : Int)
            · rw [if_pos c6] at H
              have c6b0 : decide (x13_1 < (l0.length : Int)) = true := decide_eq_true c6
              clear c6
              replace H := Option.bind_eq_some_iff.mp H
              obtain ⟨t102, A70, H⟩ := H
              replace H : (wire_Pack.l1 k1 l0 l1 x5_1 x13_1 (wrap64 (8 * t102)) ji3 x13_1) = some r := H
              have A7 := Aside0.mk A70
              clear A70
              have H' := Aside0.mk H
              clear H
              have p101 : 0 ≤ (x13_1 : Int) := of_decide_eq_true (by first | (with_reducible assumption) | assumption)
              have q101 : x13_1 < (l0.length : Int) := of_decide_eq_true (by first | (with_reducible assumption) | assumption)
              obtain ⟨ad101, e101, hx101_0⟩ := Kd.at_int HR0.out x13_1 p101 q101
              cases e101
              replace hx101_0 := (HB.out.cell (World.block_lt_of_cell? w _ hx101_0)).trans hx101_0
              replace p101 := eq_true p101
              replace q101 := eq_true q101
              go_wp2_with (first | ((with_reducible refine gate_callee (f := 52) rfl ?_); refine goesL_ (some 20) rfl rfl Tryd.func52 (by kernel_rfl) rfl #[.int .i64 (rd l0 x13_1)] rfl (by (try simp only [List.map_toArray, List.map_cons, List.map_nil]); first | done | rfl | (simp only [List.length_drop, List.length_take]; rfl)) ?_; (with_reducible refine (wire_width.calls (rd l0 x13_1) t102 _ A7.out).mono ?_); rintro e w' ⟨rfl, ⟨nd, rfl⟩⟩; refine ⟨_, rfl, ?_⟩))
              go_loopg [5, 7] k1 (fun kq v5 v7 w' => ∃ (x5_2 : List Int) (x7_2 : Int), v7 = .int .i64 x7_2 ∧ Aside0 (wire_Pack.l1 kq l0 l1 x5_2 x13_1 x7_2 ji3 x13_1 = some r) ∧ Aside0 (kq ≤ k1) ∧ Aside0 (Kd.R (Kd.int .u8) 5 w' w.heap.size (fun _ => True) v5 x5_2) ∧ Aside0 (Below w.heap.size w w'))
              case atStart => exact ⟨(x5_1), (wrap64 (8 * t102)), (by first | rfl | (simp; done) | (simp [*]; done)), H', ⟨Nat.le_refl _⟩, ⟨by (with_reducible repeat (first | apply Kd.R_alloc | apply Kd.R_drewN | apply Kd.R_drew)); exact HO_5.out⟩, ⟨by repeat (first | (with_reducible first | exact HB.out | apply below_alloc | apply pw_below_drewN | apply below_drew1) | exact HB.out)⟩⟩
              case round =>
                clear H'
                try clear c1
                try clear p1
                try clear q1
                try clear hx1
                try clear p2
                try clear c4
                try clear c4b0
                try clear c5
                try clear c5b0
                try clear c6
                try clear c6b0
                try clear p6
                try clear hx101_0
                try clear p101
                try clear p2
                try clear q101
                obtain ⟨x5_2, x7_2, rfl, HA, HK2, HO_5, HB⟩ := hrel
                cases gk with
                | zero => exact absurd HA.out (by simp [wire_Pack.l1])
                | succ k2 =>
                  have H := HA.out
                  clear HA
                  simp only [wire_Pack.l1] at H
                  by_cases c8 : x7_2 > 0
                  · rw [if_pos c8] at H
                    have c8b0 : decide (0 < x7_2) = true := decide_eq_true c8
                    clear c8
                    by_cases c9 : 0 ≤ x13_1
                    · rw [if_pos c9] at H
                      have c9b0 : decide (0 ≤ x13_1) = true := decide_eq_true c9
                      clear c9
                      by_cases c10 : x13_1 < (l1.length : Int)
                      · rw [if_pos c10] at H
                        have c10b0 : decide (x13_1 < (l1.length : Int)) = true := decide_eq_true c10
                        clear c10
                        obtain ⟨ji11, hji11⟩ : ∃ j_ : Int, (wrap64 (x7_2 - 8)) = j_ := ⟨_, rfl⟩
                        replace H : (if 0 ≤ (ji11) then (if x5_2.length < 140737488355328 then (wire_Pack.l1 k2 l0 l1 (x5_2 ++ [(shr .u64 (rd l1 x13_1) (ji11)) % 256]) x13_1 ji11 ji3 x13_1) else (none)) else (none)) = some r := by first | (rw [hji11] at H; exact H) | (simp only [hji11] at H ⊢; exact H)
                        have hji11w : (IntKind.i64.wrap (x7_2 - 8)) = ji11 := (i64_w _).trans hji11
                        by_cases c12 : 0 ≤ (ji11)
                        · rw [if_pos c12] at H
                          have c12b0 := eq_true c12
                          have c12b1 : decide (0 ≤ (ji11)) = true := decide_eq_true c12
                          clear c12
                          obtain ⟨ji13, hji13⟩ : ∃ j_ : Int, (shr .u64 (rd l1 x13_1) (ji11)) = j_ := ⟨_, rfl⟩
                          replace H : (if x5_2.length < 140737488355328 then (wire_Pack.l1 k2 l0 l1 (x5_2 ++ [(ji13) % 256]) x13_1 ji11 ji3 x13_1) else (none)) = some r := by first | (rw [hji13] at H; exact H) | (simp only [hji13] at H ⊢; exact H)
                          have hji13_ : ((rd l1 x13_1) / 2 ^ min (ji11).toNat 64) = ji13 := hji13
                          have hji13z : (ji11) ≤ 64 → ((rd l1 x13_1) / 2 ^ (ji11).toNat) = ji13 := shr_small hji13
                          by_cases c14 : x5_2.length < 140737488355328
                          · rw [if_pos c14] at H
                            have LMc14 := Aside0.mk c14
                            clear c14
                            obtain ⟨y104, hy104⟩ : ∃ y_ : List Int, y_ = (x5_2 ++ [(ji13) % 256]) := ⟨_, rfl⟩
                            replace H : (wire_Pack.l1 k2 l0 l1 y104 x13_1 ji11 ji3 x13_1) = some r := by first | (rw [hy104]; with_reducible exact H) | (have H2_ := (Option.bind_some _ _).symm.trans H; rw [hy104]; with_reducible exact H2_) | (have H2_ := (Option.bind_some _ _).symm.trans H; with_reducible exact H2_) | with_reducible exact H | (rw [hy104]; exact H) | exact H
                            have Ny104 := Aside0.mk hy104
                            clear hy104
                            have H' := Aside0.mk H
                            clear H
                            have p103 : 0 ≤ (x13_1 : Int) := of_decide_eq_true (by first | (with_reducible assumption) | assumption)
                            have q103 : x13_1 < (l1.length : Int) := of_decide_eq_true (by first | (with_reducible assumption) | assumption)
                            obtain ⟨ad103, e103, hx103_0⟩ := Kd.at_int HR1.out x13_1 p103 q103
                            cases e103
                            replace hx103_0 := (HB.out.cell (World.block_lt_of_cell? w _ hx103_0)).trans hx103_0
                            replace p103 := eq_true p103
                            replace q103 := eq_true q103
                            go_wp2_with (first | ((with_reducible refine gate_builtin (b := .append) (xs := #[.tmp 26, .tmp 34]) rfl ?_); at_builtin; refine Kd.R_append (Kd.int .u8) (w0 := w) w.heap.size rfl (.tmp 26) (.tmp 34) 23 5 (.int .u8 0) 1 rfl Tryd.underlying23 Cl.infoByte rfl (by decide) (by omega) u5 x5_2 ((ji13) % 256) [.int .u8 ((ji13) % 256)] (fun _ => True) (fun _ => False) rfl rfl ?aP (fun _ hk => hk.elim) ?aF ?aO ?aB ?aS ?aL ?_; (case aP => exact rfl); (case aB => exact (by repeat (first | (with_reducible first | exact HB.out | apply below_alloc | apply pw_below_drewN | apply below_drew1) | exact HB.out))); (case aF => exact (fun _ _ => trivial)); (case aO => exact (by (with_reducible repeat (first | apply Kd.R_alloc | apply Kd.R_drewN | apply Kd.R_drew)); exact HO_5.out)); (case aS => exact (below_size (by repeat (first | (with_reducible first | exact HB.out | apply below_alloc | apply pw_below_drewN | apply below_drew1) | exact HB.out)))); (case aL => have := LMc14.out; omega); intro v105 w15 ho hb hg hat; rw [← Ny104.out] at ho; have n0_ := Aside0.mk (hb); have n1_ := Aside0.mk (ho); clear HB; clear HO_5; have HB := n0_; have HO106 := n1_; clear n0_ n1_; clear ho hb hg hat))
                            go_roundg k2
                            case measure => have := HK1.out; have := HK2.out; omega
                            case rel => exact ⟨(y104), (ji11), (by first | rfl | (simp; done) | (simp only [← hji11] <;> (first | rfl | simp)) | (simp [*]; done)), H', ⟨by have := HK1.out; have := HK2.out; omega⟩, ⟨by (with_reducible repeat (first | apply Kd.R_alloc | apply Kd.R_drewN | apply Kd.R_drew)); exact HO106.out⟩, ⟨by repeat (first | (with_reducible first | exact HB.out | apply below_alloc | apply pw_below_drewN | apply below_drew1) | exact HB.out)⟩⟩
                          · rw [if_neg c14] at H
                            exact absurd H (by simp)
                        · rw [if_neg c12] at H
                          exact absurd H (by simp)
                      · rw [if_neg c10] at H
                        exact absurd H (by simp)
                    · rw [if_neg c9] at H
                      exact absurd H (by simp)
                  · rw [if_neg c8] at H
                    have c8b0 : decide (0 < x7_2) = false := decide_eq_false c8
                    clear c8
                    have H' := Aside0.mk H
                    clear H
                    go_wp2
                    go_roundg k2
                    case measure => have := HK1.out; have := HK2.out; omega
                    case rel => exact ⟨(x5_2), (wrap64 (x13_1 + 1)), (by first | rfl | (simp; done) | (simp [*]; done)), H', ⟨by have := HK1.out; have := HK2.out; omega⟩, ⟨by (with_reducible repeat (first | apply Kd.R_alloc | apply Kd.R_drewN | apply Kd.R_drew)); exact HO_5.out⟩, ⟨by repeat (first | (with_reducible first | exact HB.out | apply below_alloc | apply pw_below_drewN | apply below_drew1) | exact HB.out)⟩⟩
            · rw [if_neg c6] at H
              exact absurd H (by simp)
          · rw [if_neg c5] at H
            exact absurd H (by simp)
        · rw [if_neg c4] at H
          have c4b0 : decide (x13_1 < ji3) = false := decide_eq_false c4
          clear c4
          obtain rfl := Option.some.inj H
          go_wp2
          refine HKK.out _ _ ?_
          go_wp2
          go_ret
          exact ⟨_, by first | rfl | (simp [errW_none, errW_some] <;> rfl) | (simp only [← hji3]; first | rfl | (simp [errW_none, errW_some] <;> rfl)) | (simp [*, errW_none, errW_some] <;> rfl), by (with_reducible repeat (first | apply Kd.R_alloc | apply Kd.R_drewN | apply Kd.R_drew)); exact HO_5.out, by repeat (first | (with_reducible first | exact HB.out | apply below_alloc | apply pw_below_drewN | apply below_drew1) | exact HB.out)⟩
end Go.Proofs.YtgljicdpcapgnaaDoor
namespace Go.Proofs.YtgljicdpcapgnaaDoor.PBase
open Go.RowKit Go.Proofs.YtgljicdpcapgnaaDoorW.PrintWords Go.Proofs.YtgljicdpcapgnaaDoorW.PrintLast Go.Proofs.YtgljicdpcapgnaaDoorW.PrintMore
attribute [local go_sem] max2_int min2_int max_two min_two max_three min_three max_four min_four   -- for this text's walks alone
set_option linter.unusedVariables false
set_option linter.unusedSimpArgs false
def errW : Option Int → Value
 | none => .nilIface
 | some c => .iface 0 (.int .i64 c)
theorem errW_none : errW none = .nilIface := rfl
theorem errW_some (c : Int) : errW (some c) = .iface 0 (.int .i64 c) := rfl
theorem info5 : (Tryd.prog.info? 5).map (fun i => (i.zero, i.size, i.bytes)) = some (some (.int .u8 0), 1, 1) := by kernel_rfl
theorem info33 : (Tryd.prog.info? 33).map (fun i => (i.zero, i.size, i.bytes)) = some (some (.int .u32 0), 1, 4) := by kernel_rfl
structure S58 where
 f0 : Int
 f1 : (List Int)
 f2 : Int
 f3 : Int
 f4 : (List Int)
def z58 : S58 := ⟨(0 : Int), ([] : List Int), (0 : Int), (0 : Int), ([] : List Int)⟩
def k58 : Kd S58 := Kd.iso (Kd.pair (Kd.int .u32) (Kd.pair (Kd.slice 5 (Kd.int .u8)) (Kd.pair (Kd.int .u64) (Kd.pair (Kd.int .u64) (Kd.slice 33 (Kd.int .u32)))))) (fun x : S58 => (x.f0, x.f1, x.f2, x.f3, x.f4))
theorem k58_open {w : World} {x : S58} {cs : List Value} (h : k58.K w x cs) : ∃ A1 c1 A4 c4, cs = [.int .u32 x.f0, .slice A1 x.f1.length c1, .int .u64 x.f2, .int .u64 x.f3, .slice A4 x.f4.length c4] ∧ x.f1.length ≤ c1 ∧ (Kd.int .u8).C w A1 x.f1.length x.f1 ∧ x.f4.length ≤ c4 ∧ (Kd.int .u32).C w A4 x.f4.length x.f4 := by
 obtain ⟨_, _, rfl, rfl, ⟨_, _, rfl, ⟨A1, c1, rfl, l1, g1⟩, ⟨_, _, rfl, rfl, ⟨_, _, rfl, rfl, ⟨A4, c4, rfl, l4, g4⟩⟩⟩⟩⟩ := h
 exact ⟨A1, c1, A4, c4, rfl, l1, g1, l4, g4⟩
theorem k58_mk (w : World) (x : S58) {A1 : Option Addr} {c1 : Nat} (l1 : x.f1.length ≤ c1) (g1 : (Kd.int .u8).C w A1 x.f1.length x.f1) {A4 : Option Addr} {c4 : Nat} (l4 : x.f4.length ≤ c4) (g4 : (Kd.int .u32).C w A4 x.f4.length x.f4) : k58.K w x [.int .u32 x.f0, .slice A1 x.f1.length c1, .int .u64 x.f2, .int .u64 x.f3, .slice A4 x.f4.length c4] := ⟨[.int .u32 x.f0], [.slice A1 x.f1.length c1, .int .u64 x.f2, .int .u64 x.f3, .slice A4 x.f4.length c4], rfl, rfl, ⟨[.slice A1 x.f1.length c1], [.int .u64 x.f2, .int .u64 x.f3, .slice A4 x.f4.length c4], rfl, ⟨A1, c1, rfl, l1, g1⟩, ⟨[.int .u64 x.f2], [.int .u64 x.f3, .slice A4 x.f4.length c4], rfl, rfl, ⟨[.int .u64 x.f3], [.slice A4 x.f4.length c4], rfl, rfl, ⟨A4, c4, rfl, l4, g4⟩⟩⟩⟩⟩
theorem k58_mkM (w : World) (base : Nat) (ok : Nat → Prop) (x : S58) {v1 : Value} (g1 : (Kd.int .u8).R 5 w base ok v1 x.f1) {v4 : Value} (g4 : (Kd.int .u32).R 33 w base ok v4 x.f4) : k58.M w base ok x [.int .u32 x.f0, v1, .int .u64 x.f2, .int .u64 x.f3, v4] := ⟨[.int .u32 x.f0], [v1, .int .u64 x.f2, .int .u64 x.f3, v4], rfl, rfl, ⟨[v1], [.int .u64 x.f2, .int .u64 x.f3, v4], rfl, ⟨v1, rfl, g1⟩, ⟨[.int .u64 x.f2], [.int .u64 x.f3, v4], rfl, rfl, ⟨[.int .u64 x.f3], [v4], rfl, rfl, ⟨v4, rfl, g4⟩⟩⟩⟩⟩
structure S61 where
 f0 : Int
 f1 : Int
 f2 : Int
 f3 : Int
 f4 : Int
 f5 : (List Int)
end Go.Proofs.YtgljicdpcapgnaaDoor.PBase
namespace Go.Proofs.YtgljicdpcapgnaaDoor.PBase
open Go.RowKit Go.Proofs.YtgljicdpcapgnaaDoorW.PrintWords Go.Proofs.YtgljicdpcapgnaaDoorW.PrintLast Go.Proofs.YtgljicdpcapgnaaDoorW.PrintMore
attribute [local go_sem] max2_int min2_int max_two min_two max_three min_three max_four min_four   -- for this text's walks alone
set_option linter.unusedVariables false
set_option linter.unusedSimpArgs false
def bits_RotateLeft32.f (a0 : Int) (a1 : Int) : Option (Int) := if 0 ≤ (Go.bits .and .u64 (IntKind.u64.wrap (a1)) 31) then (if 0 ≤ (IntKind.u64.wrap (32 - (Go.bits .and .u64 (IntKind.u64.wrap (a1)) 31))) then (some (Go.bits .or .u32 (shl .u32 a0 (Go.bits .and .u64 (IntKind.u64.wrap (a1)) 31)) (shr .u32 a0 (IntKind.u64.wrap (32 - (Go.bits .and .u64 (IntKind.u64.wrap (a1)) 31)))))) else (none)) else (none)
set_option maxHeartbeats 8000000 in
set_option maxRecDepth 100000 in
theorem bits_RotateLeft32.calls (a0 : Int) (a1 : Int) (r : Int) (w : World) (h : bits_RotateLeft32.f a0 a1 = some r) :
  Calls Tryd.prog 92 #[.int .u32 a0, .int .i64 a1] w fun e w' => e = .returned (.int .u32 r) ∧ Drawn0 w w' := by
 have H : (if 0 ≤ (Go.bits .and .u64 (IntKind.u64.wrap (a1)) 31) then (if 0 ≤ (IntKind.u64.wrap (32 - (Go.bits .and .u64 (IntKind.u64.wrap (a1)) 31))) then (some (Go.bits .or .u32 (shl .u32 a0 (Go.bits .and .u64 (IntKind.u64.wrap (a1)) 31)) (shr .u32 a0 (IntKind.u64.wrap (32 - (Go.bits .and .u64 (IntKind.u64.wrap (a1)) 31)))))) else (none)) else (none)) = some r := h
 clear h
 obtain ⟨ji3, hji3⟩ : ∃ j_ : Int, (Go.bits .and .u64 (IntKind.u64.wrap (a1)) 31) = j_ := ⟨_, rfl⟩
 replace H : (if 0 ≤ (ji3) then (if 0 ≤ (IntKind.u64.wrap (32 - (ji3))) then (some (Go.bits .or .u32 (shl .u32 a0 (ji3)) (shr .u32 a0 (IntKind.u64.wrap (32 - (ji3)))))) else (none)) else (none)) = some r := by first | (rw [hji3] at H; exact H) | (simp only [hji3] at H ⊢; exact H)
 by_cases c4 : 0 ≤ (ji3)
 ·rw [if_pos c4] at H
  have c4b0 := eq_true c4
  have c4b1 : decide (0 ≤ (ji3)) = true := decide_eq_true c4
  clear c4
  obtain ⟨ji5, hji5⟩ : ∃ j_ : Int, (shl .u32 a0 (ji3)) = j_ := ⟨_, rfl⟩
  replace H : (if 0 ≤ (IntKind.u64.wrap (32 - (ji3))) then (some (Go.bits .or .u32 (ji5) (shr .u32 a0 (IntKind.u64.wrap (32 - (ji3)))))) else (none)) = some r := by first | (rw [hji5] at H; exact H) | (simp only [hji5] at H ⊢; exact H)
  have hji5_ : (IntKind.u32.wrap (a0 * 2 ^ min (ji3).toNat 32)) = ji5 := hji5
  have hji5z : (ji3) ≤ 32 → (IntKind.u32.wrap (a0 * 2 ^ (ji3).toNat)) = ji5 := shl_small hji5
  obtain ⟨ji6, hji6⟩ : ∃ j_ : Int, (IntKind.u64.wrap (32 - (ji3))) = j_ := ⟨_, rfl⟩
  replace H : (if 0 ≤ (ji6) then (some (Go.bits .or .u32 (ji5) (shr .u32 a0 (ji6)))) else (none)) = some r := by first | (rw [hji6] at H; exact H) | (simp only [hji6] at H ⊢; exact H)
  by_cases c7 : 0 ≤ (ji6)
  ·rw [if_pos c7] at H
   have c7b0 := eq_true c7
   have c7b1 : decide (0 ≤ (ji6)) = true := decide_eq_true c7
   clear c7
   obtain ⟨ji8, hji8⟩ : ∃ j_ : Int, (shr .u32 a0 (ji6)) = j_ := ⟨_, rfl⟩
   replace H : (some (Go.bits .or .u32 (ji5) (ji8))) = some r := by first | (rw [hji8] at H; exact H) | (simp only [hji8] at H ⊢; exact H)
   have hji8_ : (a0 / 2 ^ min (ji6).toNat 32) = ji8 := hji8
   have hji8z : (ji6) ≤ 32 → (a0 / 2 ^ (ji6).toNat) = ji8 := shr_small hji8
   obtain rfl := Option.some.inj H
   go_enter Tryd.func92, Tryd.ntmps92
   go_wp2
   go_ret
   exact ⟨by first | rfl | (simp; done) | (simp only [← hji3, ← hji5, ← hji6, ← hji8] <;> (first | rfl | simp)) | (simp [*]; done), by repeat (first | exact Drawn0.refl _ | apply Drawn0.step)⟩
  ·rw [if_neg c7] at H
   exact absurd H (by simp)
 ·rw [if_neg c4] at H
  exact absurd H (by simp)
def sha_ror.f (a0 : Int) (a1 : Int) : Option (Int) := (bits_RotateLeft32.f a0 (wrap64 (-a1))).bind fun t101 => (some t101)
set_option maxHeartbeats 8000000 in
set_option maxRecDepth 100000 in
theorem sha_ror.calls (a0 : Int) (a1 : Int) (r : Int) (w : World) (h : sha_ror.f a0 a1 = some r) :
  Calls Tryd.prog 89 #[.int .u32 a0, .int .i64 a1] w fun e w' => e = .returned (.int .u32 r) ∧ Drawn0 w w' := by
 have H : ((bits_RotateLeft32.f a0 (wrap64 (-a1))).bind fun t101 => (some t101)) = some r := h
 clear h
 replace H := Option.bind_eq_some_iff.mp H
 obtain ⟨t101, A30, H⟩ := H
 replace H : (some t101) = some r := H
 have A3 := Aside0.mk A30
 clear A30
 obtain rfl := Option.some.inj H
 go_enter Tryd.func89, Tryd.ntmps89
 go_wp2_with (first | ((with_reducible refine gate_callee (f := 92) rfl ?_); refine goesL_ (some 8) rfl rfl Tryd.func92 (by kernel_rfl) rfl #[.int .u32 a0, .int .i64 (wrap64 (-a1))] rfl (by (try simp only [List.map_toArray, List.map_cons, List.map_nil]); first | done | rfl | (simp only [List.length_drop, List.length_take]; rfl) | (simp only [List.length_drop, List.length_take]; (repeat rw [Nat.min_eq_left (by simp only [eq_iff_iff, iff_true] at *; omega)]); rfl)) ?_; (with_reducible refine (bits_RotateLeft32.calls a0 (wrap64 (-a1)) t101 _ A3.out).mono ?_); rintro e w' ⟨rfl, ⟨nd, rfl⟩⟩; refine ⟨_, rfl, ?_⟩))
 go_ret
 exact ⟨by first | rfl | (simp; done) | (simp [*]; done), by repeat (first | exact Drawn0.refl _ | apply Drawn0.step)⟩
def sha_four.f (l0 : List Int) : Option (Int) := if 0 < (l0.length : Int) then (if 1 < (l0.length : Int) then (if 2 < (l0.length : Int) then (if 3 < (l0.length : Int) then (some (Go.bits .or .u32 (Go.bits .or .u32 (Go.bits .or .u32 ((((rd l0 0) % 4294967296) * 16777216) % 4294967296) ((((rd l0 1) % 4294967296) * 65536) % 4294967296)) ((((rd l0 2) % 4294967296) * 256) % 4294967296)) ((rd l0 3) % 4294967296))) else (none)) else (none)) else (none)) else (none)
set_option maxHeartbeats 8000000 in
set_option maxRecDepth 100000 in
theorem sha_four.calls (A0 : Option Addr) (c0 : Nat) (l0 : List Int) (r : Int) (w : World) (hr0 : Kd.C (Kd.int .u8) w A0 l0.length l0) (hc0 : l0.length ≤ c0) (h : sha_four.f l0 = some r) :
  Calls Tryd.prog 88 #[.slice A0 l0.length c0] w fun e w' => e = .returned (.int .u32 r) ∧ Drawn0 w w' := by
 have HR0 := Aside0.mk hr0
 have HC0 := Aside0.mk hc0
 clear hr0 hc0
 have H : (if 0 < (l0.length : Int) then (if 1 < (l0.length : Int) then (if 2 < (l0.length : Int) then (if 3 < (l0.length : Int) then (some (Go.bits .or .u32 (Go.bits .or .u32 (Go.bits .or .u32 ((((rd l0 0) % 4294967296) * 16777216) % 4294967296) ((((rd l0 1) % 4294967296) * 65536) % 4294967296)) ((((rd l0 2) % 4294967296) * 256) % 4294967296)) ((rd l0 3) % 4294967296))) else (none)) else (none)) else (none)) else (none)) = some r := h
 clear h
 by_cases c2 : 0 < (l0.length : Int)
 ·rw [if_pos c2] at H
  have c2b0 : decide (0 < (l0.length : Int)) = true := decide_eq_true c2
  have c2b1 : decide (0 < l0.length) = true := decide_eq_true (by omega)
  clear c2
  by_cases c3 : 1 < (l0.length : Int)
  ·rw [if_pos c3] at H
   have c3b0 : decide (1 < (l0.length : Int)) = true := decide_eq_true c3
   have c3b1 : decide (1 < l0.length) = true := decide_eq_true (by omega)
   clear c3
   by_cases c4 : 2 < (l0.length : Int)
   ·rw [if_pos c4] at H
    have c4b0 : decide (2 < (l0.length : Int)) = true := decide_eq_true c4
    have c4b1 : decide (2 < l0.length) = true := decide_eq_true (by omega)
    clear c4
    by_cases c5 : 3 < (l0.length : Int)
    ·rw [if_pos c5] at H
     have c5b0 : decide (3 < (l0.length : Int)) = true := decide_eq_true c5
     have c5b1 : decide (3 < l0.length) = true := decide_eq_true (by omega)
     clear c5
     obtain rfl := Option.some.inj H
     have p102 : 0 ≤ (0 : Int) := (by omega)
     have q102 : 0 < (l0.length : Int) := of_decide_eq_true (by first | (with_reducible assumption) | assumption)
     obtain ⟨ad102, e102, hx102_0⟩ := Kd.at_int HR0.out 0 p102 q102
     cases e102
     have qi102 : (0 < l0.length) = True := eq_true (by omega)
     (try rw [show ((0 : Int)).toNat = 0 from rfl] at hx102_0)
     (try rw [Addr.add_zero'] at hx102_0)
     replace p102 := eq_true p102
     replace q102 := eq_true q102
     have p103 : 0 ≤ (1 : Int) := (by omega)
     have q103 : 1 < (l0.length : Int) := of_decide_eq_true (by first | (with_reducible assumption) | assumption)
     obtain ⟨ad103, e103, hx103_0⟩ := Kd.at_int HR0.out 1 p103 q103
     obtain rfl : ad102 = ad103 := (by injection e103)
     (try simp only [show (1 : Int).toNat = 1 from rfl, Nat.reduceMul, Nat.reduceEqDiff, Go.Addr.add, ↓reduceIte] at hx103_0)
     have qi103 : (1 < l0.length) = True := eq_true (by omega)
     (try rw [show ((1 : Int)).toNat = 1 from rfl] at hx103_0)
     replace p103 := eq_true p103
     replace q103 := eq_true q103
     have p104 : 0 ≤ (2 : Int) := (by omega)
     have q104 : 2 < (l0.length : Int) := of_decide_eq_true (by first | (with_reducible assumption) | assumption)
     obtain ⟨ad104, e104, hx104_0⟩ := Kd.at_int HR0.out 2 p104 q104
     obtain rfl : ad102 = ad104 := (by injection e104)
     (try simp only [show (2 : Int).toNat = 2 from rfl, Nat.reduceMul, Nat.reduceEqDiff, Go.Addr.add, ↓reduceIte] at hx104_0)
     have qi104 : (2 < l0.length) = True := eq_true (by omega)
     (try rw [show ((2 : Int)).toNat = 2 from rfl] at hx104_0)
     replace p104 := eq_true p104
     replace q104 := eq_true q104
     have p105 : 0 ≤ (3 : Int) := (by omega)
     have q105 : 3 < (l0.length : Int) := of_decide_eq_true (by first | (with_reducible assumption) | assumption)
     obtain ⟨ad105, e105, hx105_0⟩ := Kd.at_int HR0.out 3 p105 q105
     obtain rfl : ad102 = ad105 := (by injection e105)
     (try simp only [show (3 : Int).toNat = 3 from rfl, Nat.reduceMul, Nat.reduceEqDiff, Go.Addr.add, ↓reduceIte] at hx105_0)
     have qi105 : (3 < l0.length) = True := eq_true (by omega)
     (try rw [show ((3 : Int)).toNat = 3 from rfl] at hx105_0)
     replace p105 := eq_true p105
     replace q105 := eq_true q105
     go_enter Tryd.func88, Tryd.ntmps88
     go_wp2
     repeat (go_quiet (fail); try go_wp2)
     go_ret
     exact ⟨by first | rfl | (simp; done) | (simp [*]; done), by repeat (first | exact Drawn0.refl _ | apply Drawn0.step)⟩
    ·rw [if_neg c5] at H
     exact absurd H (by simp)
   ·rw [if_neg c4] at H
    exact absurd H (by simp)
  ·rw [if_neg c3] at H
   exact absurd H (by simp)
 ·rw [if_neg c2] at H
  exact absurd H (by simp)
def coamingref02_ror.f (a0 : Int) (a1 : Int) : Option (Int) := if 0 ≤ (IntKind.u64.wrap (a1)) then (if 0 ≤ (IntKind.u64.wrap (wrap64 (32 - a1))) then (some (Go.bits .or .u32 (shr .u32 a0 (IntKind.u64.wrap (a1))) (shl .u32 a0 (IntKind.u64.wrap (wrap64 (32 - a1)))))) else (none)) else (none)
set_option maxHeartbeats 8000000 in
set_option maxRecDepth 100000 in
theorem coamingref02_ror.calls (a0 : Int) (a1 : Int) (r : Int) (w : World) (h : coamingref02_ror.f a0 a1 = some r) :
  Calls Tryd.prog 76 #[.int .u32 a0, .int .i64 a1] w fun e w' => e = .returned (.int .u32 r) ∧ Drawn0 w w' := by
 have H : (if 0 ≤ (IntKind.u64.wrap (a1)) then (if 0 ≤ (IntKind.u64.wrap (wrap64 (32 - a1))) then (some (Go.bits .or .u32 (shr .u32 a0 (IntKind.u64.wrap (a1))) (shl .u32 a0 (IntKind.u64.wrap (wrap64 (32 - a1)))))) else (none)) else (none)) = some r := h
 clear h
 obtain ⟨ji3, hji3⟩ : ∃ j_ : Int, (IntKind.u64.wrap (a1)) = j_ := ⟨_, rfl⟩
 replace H : (if 0 ≤ (ji3) then (if 0 ≤ (IntKind.u64.wrap (wrap64 (32 - a1))) then (some (Go.bits .or .u32 (shr .u32 a0 (ji3)) (shl .u32 a0 (IntKind.u64.wrap (wrap64 (32 - a1)))))) else (none)) else (none)) = some r := by first | (rw [hji3] at H; exact H) | (simp only [hji3] at H ⊢; exact H)
 by_cases c4 : 0 ≤ (ji3)
 ·rw [if_pos c4] at H
  have c4b0 := eq_true c4
  have c4b1 : decide (0 ≤ (ji3)) = true := decide_eq_true c4
  clear c4
  obtain ⟨ji5, hji5⟩ : ∃ j_ : Int, (shr .u32 a0 (ji3)) = j_ := ⟨_, rfl⟩
  replace H : (if 0 ≤ (IntKind.u64.wrap (wrap64 (32 - a1))) then (some (Go.bits .or .u32 (ji5) (shl .u32 a0 (IntKind.u64.wrap (wrap64 (32 - a1)))))) else (none)) = some r := by first | (rw [hji5] at H; exact H) | (simp only [hji5] at H ⊢; exact H)
  have hji5_ : (a0 / 2 ^ min (ji3).toNat 32) = ji5 := hji5
  have hji5z : (ji3) ≤ 32 → (a0 / 2 ^ (ji3).toNat) = ji5 := shr_small hji5
  obtain ⟨ji6, hji6⟩ : ∃ j_ : Int, (IntKind.u64.wrap (wrap64 (32 - a1))) = j_ := ⟨_, rfl⟩
  replace H : (if 0 ≤ (ji6) then (some (Go.bits .or .u32 (ji5) (shl .u32 a0 (ji6)))) else (none)) = some r := by first | (rw [hji6] at H; exact H) | (simp only [hji6] at H ⊢; exact H)
  by_cases c7 : 0 ≤ (ji6)
  ·rw [if_pos c7] at H
   have c7b0 := eq_true c7
   have c7b1 : decide (0 ≤ (ji6)) = true := decide_eq_true c7
   clear c7
   obtain ⟨ji8, hji8⟩ : ∃ j_ : Int, (shl .u32 a0 (ji6)) = j_ := ⟨_, rfl⟩
   replace H : (some (Go.bits .or .u32 (ji5) (ji8))) = some r := by first | (rw [hji8] at H; exact H) | (simp only [hji8] at H ⊢; exact H)
   have hji8_ : (IntKind.u32.wrap (a0 * 2 ^ min (ji6).toNat 32)) = ji8 := hji8
   have hji8z : (ji6) ≤ 32 → (IntKind.u32.wrap (a0 * 2 ^ (ji6).toNat)) = ji8 := shl_small hji8
   obtain rfl := Option.some.inj H
   go_enter Tryd.func76, Tryd.ntmps76
   go_wp2
   go_ret
   exact ⟨by first | rfl | (simp; done) | (simp only [← hji3, ← hji5, ← hji6, ← hji8] <;> (first | rfl | simp)) | (simp [*]; done), by repeat (first | exact Drawn0.refl _ | apply Drawn0.step)⟩
  ·rw [if_neg c7] at H
   exact absurd H (by simp)
 ·rw [if_neg c4] at H
  exact absurd H (by simp)
mutual
def coamingref02_words.l0 : Nat → List Int → List Int → Int → Option (List Int)
 | 0, _, _, _ => none
 | k + 1, x0, x3, x4 => if x4 < 64 then (if x4 < 16 then (coamingref02_words.l1 k x0 x3 x4 0 0) else (if 0 ≤ (wrap64 (x4 - 15)) then (if (wrap64 (x4 - 15)) < (x3.length : Int) then (if 0 ≤ (wrap64 (x4 - 2)) then (if (wrap64 (x4 - 2)) < (x3.length : Int) then (if 0 ≤ (wrap64 (x4 - 16)) then (if (wrap64 (x4 - 16)) < (x3.length : Int) then ((coamingref02_ror.f (rd x3 (wrap64 (x4 - 15))) 7).bind fun t113 => ((coamingref02_ror.f (rd x3 (wrap64 (x4 - 15))) 18).bind fun t114 => (if 0 ≤ (wrap64 (x4 - 7)) then (if (wrap64 (x4 - 7)) < (x3.length : Int) then ((coamingref02_ror.f (rd x3 (wrap64 (x4 - 2))) 17).bind fun t116 => ((coamingref02_ror.f (rd x3 (wrap64 (x4 - 2))) 19).bind fun t117 => (if x3.length < 35184372088832 then (coamingref02_words.l0 k x0 (x3 ++ [((((((rd x3 (wrap64 (x4 - 16))) + (Go.bits .xor .u32 (Go.bits .xor .u32 t113 t114) ((rd x3 (wrap64 (x4 - 15))) / 8))) % 4294967296) + (rd x3 (wrap64 (x4 - 7)))) % 4294967296) + (Go.bits .xor .u32 (Go.bits .xor .u32 t116 t117) ((rd x3 (wrap64 (x4 - 2))) / 1024))) % 4294967296]) (wrap64 (x4 + 1))) else (none)))) else (none)) else (none)))) else (none)) else (none)) else (none)) else (none)) else (none)) else (none))) else (some x3)
def coamingref02_words.l1 : Nat → List Int → List Int → Int → Int → Int → Option (List Int)
 | 0, _, _, _, _, _ => none
 | k + 1, x0, x3, x4, x5, x6 => if x6 < 4 then (if 0 ≤ (wrap64 ((wrap64 (4 * x4)) + x6)) then (if (wrap64 ((wrap64 (4 * x4)) + x6)) < (x0.length : Int) then (coamingref02_words.l1 k x0 x3 x4 (Go.bits .or .u32 ((x5 * 256) % 4294967296) ((rd x0 (wrap64 ((wrap64 (4 * x4)) + x6))) % 4294967296)) (wrap64 (x6 + 1))) else (none)) else (none)) else (if x3.length < 35184372088832 then (coamingref02_words.l0 k x0 (x3 ++ [x5]) (wrap64 (x4 + 1))) else (none))
end
def coamingref02_words.f (k : Nat) (l0 : List Int) : Option (List Int) := coamingref02_words.l0 k l0 ([] : List Int) 0
def coamingref02_words.T14 : Bool × List (List Nat × List Nat) := (true, [([], []), ([], []), ([], []), ([2], [2]), ([1, 3], [1, 3]), ([4], [4]), ([], []), ([6], [6]), ([], []), ([8, 7], [8]), ([7, 9], [7, 9]), ([], []), ([11], [11]), ([10, 12], [10, 12]), ([5, 13], [5, 13]), ([], []), ([], []), ([16], [16]), ([15, 17], [15, 17]), ([18], [18]), ([14, 19], [14, 19]), ([], []), ([21, 9], [21]), ([], []), ([23, 22], [23]), ([22, 24], [22, 24]), ([], []), ([26], [26]), ([25, 27], [25, 27]), ([20, 28], [20, 28]), ([29], [29]), ([0, 30, 24], [0, 30]), ([31, 31, 0, 1, 2, 3, 4, 5, 6, 7, 8, 9, 10, 11, 12, 13, 14, 15, 16, 17, 18, 19, 20, 21, 22, 23, 24, 25, 26, 27, 28, 29, 30, 31], [0, 1, 15, 31])])
def coamingref02_words.B14 : List Nat := [0, 0, 0, 4, 14, 30, 0, 64, 0, 448, 960, 0, 2048, 8128, 16382, 0, 0, 65536, 229376, 491520, 1048574, 0, 2098112, 0, 14681024, 31458240, 0, 67108864, 266339264, 536870910, 1073741822, 2147483647, 4294967295]
theorem coamingref02_words.tab14 : rtab .any (opsOf Tryd.f74 14) = coamingref02_words.T14 := by kernel_rfl
theorem coamingref02_words.bits14 : waitsOk coamingref02_words.T14.2 coamingref02_words.B14 = true := by kernel_rfl
set_option maxHeartbeats 8000000 in
set_option maxRecDepth 100000 in
theorem coamingref02_words.calls (k : Nat) (A0 : Option Addr) (c0 : Nat) (l0 : List Int) (r : List Int) (w : World) (hr0 : Kd.C (Kd.int .u8) w A0 l0.length l0) (hc0 : l0.length ≤ c0) (h : coamingref02_words.f k l0 = some r) :
  Calls Tryd.prog 74 #[.slice A0 l0.length c0] w fun e w' => ∃ v0_ : Value, e = .returned (v0_) ∧ Kd.R (Kd.int .u32) 33 w' w.heap.size (fun _ => True) v0_ r ∧ Below w.heap.size w w' := by
 have HR0 := Aside0.mk hr0
 have HC0 := Aside0.mk hc0
 clear hr0 hc0
 have HB := Aside0.mk (Below.refl w.heap.size w)
 have H : (coamingref02_words.l0 k l0 ([] : List Int) 0) = some r := h
 clear h
 have H' := Aside0.mk H
 clear H
 go_enter Tryd.func74, Tryd.ntmps74
 go_wp2
 go_loopg [3, 4] k (fun kq v3 v4 w' => ∃ (x3_1 : List Int) (x4_1 : Int), v4 = .int .i64 x4_1 ∧ Aside0 (coamingref02_words.l0 kq l0 x3_1 x4_1 = some r) ∧ Aside0 (kq ≤ k) ∧ Aside0 (Kd.R (Kd.int .u32) 33 w' w.heap.size (fun _ => True) v3 x3_1) ∧ Aside0 (Below w.heap.size w w'))
 case atStart => exact ⟨(([] : List Int)), (0), (by first | rfl | (simp; done) | (simp [*]; done)), H', ⟨Nat.le_refl _⟩, ⟨by first | exact Kd.R_nil _ _ _ _ _ | exact Kd.N_nil _ _ _ _ _ | exact Kd.V_nil _ _ _ _ _ | exact Kd.Q_nil _ _ _ _ _ | exact Kd.S_nil _ _ _ _ _⟩, ⟨by repeat (first | (with_reducible first | exact HB.out | apply below_alloc | apply pw_below_drewN | apply below_drew1) | exact HB.out)⟩⟩
 case round =>
  clear H'
  obtain ⟨x3_1, x4_1, rfl, HA, HK1, HO_3, HB⟩ := hrel
  cases gk with
  | zero => exact absurd HA.out (by simp [coamingref02_words.l0])
  | succ k1 =>
   have H := HA.out
   clear HA
   simp only [coamingref02_words.l0] at H
   by_cases c2 : x4_1 < 64
   ·rw [if_pos c2] at H
    have c2b0 : decide (x4_1 < 64) = true := decide_eq_true c2
    clear c2
    by_cases c3 : x4_1 < 16
    ·rw [if_pos c3] at H
     have c3b0 : decide (x4_1 < 16) = true := decide_eq_true c3
     clear c3
     have H' := Aside0.mk H
     clear H
     go_wp2
     go_loopg [5, 6] k1 (fun kq v5 v6 w' => ∃ (x5_2 : Int) (x6_2 : Int), v5 = .int .u32 x5_2 ∧ v6 = .int .i64 x6_2 ∧ Aside0 (coamingref02_words.l1 kq l0 x3_1 x4_1 x5_2 x6_2 = some r) ∧ Aside0 (kq ≤ k1) ∧ Aside0 (Kd.R (Kd.int .u32) 33 w' w.heap.size (fun _ => True) u3 x3_1) ∧ Aside0 (Below w.heap.size w w'))
     case atStart => exact ⟨(0), (0), (by first | rfl | (simp; done) | (simp [*]; done)), (by first | rfl | (simp; done) | (simp [*]; done)), H', ⟨Nat.le_refl _⟩, ⟨by (with_reducible repeat (first | apply Kd.R_alloc | apply Kd.R_drewN | apply Kd.R_drew)); exact HO_3.out⟩, ⟨by repeat (first | (with_reducible first | exact HB.out | apply below_alloc | apply pw_below_drewN | apply below_drew1) | exact HB.out)⟩⟩
     case round =>
      clear H'
      try clear c2
      try clear c2b0
      try clear p2
      try clear c3
      try clear c3b0
      obtain ⟨x5_2, x6_2, rfl, rfl, HA, HK2, HO_3, HB⟩ := hrel
      cases gk with
      | zero => exact absurd HA.out (by simp [coamingref02_words.l1])
      | succ k2 =>
       have H := HA.out
       clear HA
       simp only [coamingref02_words.l1] at H
       by_cases c4 : x6_2 < 4
       ·rw [if_pos c4] at H
        have c4b0 : decide (x6_2 < 4) = true := decide_eq_true c4
        clear c4
        obtain ⟨ji5, hji5⟩ : ∃ j_ : Int, (wrap64 ((wrap64 (4 * x4_1)) + x6_2)) = j_ := ⟨_, rfl⟩
        replace H : (if 0 ≤ (ji5) then (if (ji5) < (l0.length : Int) then (coamingref02_words.l1 k2 l0 x3_1 x4_1 (Go.bits .or .u32 ((x5_2 * 256) % 4294967296) ((rd l0 (ji5)) % 4294967296)) (wrap64 (x6_2 + 1))) else (none)) else (none)) = some r := by first | (rw [hji5] at H; exact H) | (simp only [hji5] at H ⊢; exact H)
        have hji5w : (IntKind.i64.wrap ((wrap64 (4 * x4_1)) + x6_2)) = ji5 := (i64_w _).trans hji5
        by_cases c6 : 0 ≤ (ji5)
        ·rw [if_pos c6] at H
         have c6b0 : decide (0 ≤ (ji5)) = true := decide_eq_true c6
         clear c6
         by_cases c7 : (ji5) < (l0.length : Int)
         ·rw [if_pos c7] at H
          have c7b0 : decide ((ji5) < (l0.length : Int)) = true := decide_eq_true c7
          clear c7
          have H' := Aside0.mk H
          clear H
          have p106 : 0 ≤ ((ji5) : Int) := of_decide_eq_true (by first | (with_reducible assumption) | assumption)
          have q106 : (ji5) < (l0.length : Int) := of_decide_eq_true (by first | (with_reducible assumption) | assumption)
          obtain ⟨ad106, e106, hx106_0⟩ := Kd.at_int HR0.out (ji5) p106 q106
          cases e106
          replace hx106_0 := (HB.out.cell (World.block_lt_of_cell? w _ hx106_0)).trans hx106_0
          replace p106 := eq_true p106
          replace q106 := eq_true q106
          go_wp2
          go_roundg k2
          case measure => have := HK1.out; have := HK2.out; omega
          case rel => exact ⟨(Go.bits .or .u32 ((x5_2 * 256) % 4294967296) ((rd l0 (ji5)) % 4294967296)), (wrap64 (x6_2 + 1)), (by first | rfl | (simp; done) | (simp only [← hji5] <;> (first | rfl | simp)) | (simp [*]; done)), (by first | rfl | (simp; done) | (simp [*]; done)), H', ⟨by have := HK1.out; have := HK2.out; omega⟩, ⟨by (with_reducible repeat (first | apply Kd.R_alloc | apply Kd.R_drewN | apply Kd.R_drew)); exact HO_3.out⟩, ⟨by repeat (first | (with_reducible first | exact HB.out | apply below_alloc | apply pw_below_drewN | apply below_drew1) | exact HB.out)⟩⟩
         ·rw [if_neg c7] at H
          exact absurd H (by simp)
        ·rw [if_neg c6] at H
         exact absurd H (by simp)
       ·rw [if_neg c4] at H
        have c4b0 : decide (x6_2 < 4) = false := decide_eq_false c4
        clear c4
        by_cases c8 : x3_1.length < 35184372088832
        ·rw [if_pos c8] at H
         have LMc8 := Aside0.mk c8
         clear c8
         obtain ⟨y107, hy107⟩ : ∃ y_ : List Int, y_ = (x3_1 ++ [x5_2]) := ⟨_, rfl⟩
         replace H : (coamingref02_words.l0 k2 l0 y107 (wrap64 (x4_1 + 1))) = some r := by first | (rw [hy107]; with_reducible exact H) | (have H2_ := (Option.bind_some _ _).symm.trans H; rw [hy107]; with_reducible exact H2_) | (have H2_ := (Option.bind_some _ _).symm.trans H; with_reducible exact H2_) | with_reducible exact H | (rw [hy107]; exact H) | exact H
         have Ny107 := Aside0.mk hy107
         clear hy107
         have H' := Aside0.mk H
         clear H
         go_wp2_with (first | ((with_reducible refine gate_builtin (b := .append) (xs := #[.tmp 30, .tmp 32]) rfl ?_); at_builtin; refine Kd.R_append (Kd.int .u32) (w0 := w) w.heap.size rfl (.tmp 30) (.tmp 32) 22 33 (.int .u32 0) 4 rfl Tryd.underlying22 info33 rfl (by decide) (by omega) u3 x3_1 x5_2 [.int .u32 x5_2] (fun _ => True) (fun _ => False) rfl rfl ?aP (fun _ hk => hk.elim) ?aF ?aO ?aB ?aS ?aL ?_; (case aP => exact rfl); (case aB => exact (by repeat (first | (with_reducible first | exact HB.out | apply below_alloc | apply pw_below_drewN | apply below_drew1) | exact HB.out))); (case aF => exact (fun _ _ => trivial)); (case aO => exact (by (with_reducible repeat (first | apply Kd.R_alloc | apply Kd.R_drewN | apply Kd.R_drew)); exact HO_3.out)); (case aS => exact (below_size (by repeat (first | (with_reducible first | exact HB.out | apply below_alloc | apply pw_below_drewN | apply below_drew1) | exact HB.out)))); (case aL => have := LMc8.out; omega); intro v108 w9 ho hb hg hat; rw [← Ny107.out] at ho; have n0_ := Aside0.mk (hb); have n1_ := Aside0.mk (ho); clear HB; clear HO_3; have HB := n0_; have HO109 := n1_; clear n0_ n1_; clear ho hb hg hat))
         go_roundg k2
         case measure => have := HK1.out; have := HK2.out; omega
         case rel => exact ⟨(y107), (wrap64 (x4_1 + 1)), (by first | rfl | (simp; done) | (simp [*]; done)), H', ⟨by have := HK1.out; have := HK2.out; omega⟩, ⟨by (with_reducible repeat (first | apply Kd.R_alloc | apply Kd.R_drewN | apply Kd.R_drew)); exact HO109.out⟩, ⟨by repeat (first | (with_reducible first | exact HB.out | apply below_alloc | apply pw_below_drewN | apply below_drew1) | exact HB.out)⟩⟩
        ·rw [if_neg c8] at H
         exact absurd H (by simp)
    ·rw [if_neg c3] at H
     have c3b0 : decide (x4_1 < 16) = false := decide_eq_false c3
     clear c3
     obtain ⟨ji10, hji10⟩ : ∃ j_ : Int, (wrap64 (x4_1 - 15)) = j_ := ⟨_, rfl⟩
     replace H : (if 0 ≤ (ji10) then (if (ji10) < (x3_1.length : Int) then (if 0 ≤ (wrap64 (x4_1 - 2)) then (if (wrap64 (x4_1 - 2)) < (x3_1.length : Int) then (if 0 ≤ (wrap64 (x4_1 - 16)) then (if (wrap64 (x4_1 - 16)) < (x3_1.length : Int) then ((coamingref02_ror.f (rd x3_1 (ji10)) 7).bind fun t113 => ((coamingref02_ror.f (rd x3_1 (ji10)) 18).bind fun t114 => (if 0 ≤ (wrap64 (x4_1 - 7)) then (if (wrap64 (x4_1 - 7)) < (x3_1.length : Int) then ((coamingref02_ror.f (rd x3_1 (wrap64 (x4_1 - 2))) 17).bind fun t116 => ((coamingref02_ror.f (rd x3_1 (wrap64 (x4_1 - 2))) 19).bind fun t117 => (if x3_1.length < 35184372088832 then (coamingref02_words.l0 k1 l0 (x3_1 ++ [((((((rd x3_1 (wrap64 (x4_1 - 16))) + (Go.bits .xor .u32 (Go.bits .xor .u32 t113 t114) ((rd x3_1 (ji10)) / 8))) % 4294967296) + (rd x3_1 (wrap64 (x4_1 - 7)))) % 4294967296) + (Go.bits .xor .u32 (Go.bits .xor .u32 t116 t117) ((rd x3_1 (wrap64 (x4_1 - 2))) / 1024))) % 4294967296]) (wrap64 (x4_1 + 1))) else (none)))) else (none)) else (none)))) else (none)) else (none)) else (none)) else (none)) else (none)) else (none)) = some r := by first | (rw [hji10] at H; exact H) | (simp only [hji10] at H ⊢; exact H)
     have hji10w : (IntKind.i64.wrap (x4_1 - 15)) = ji10 := (i64_w _).trans hji10
     by_cases c11 : 0 ≤ (ji10)
     ·rw [if_pos c11] at H
      have c11b0 : decide (0 ≤ (ji10)) = true := decide_eq_true c11
      clear c11
      by_cases c12 : (ji10) < (x3_1.length : Int)
      ·rw [if_pos c12] at H
       have c12b0 : decide ((ji10) < (x3_1.length : Int)) = true := decide_eq_true c12
       clear c12
       obtain ⟨ji13, hji13⟩ : ∃ j_ : Int, (wrap64 (x4_1 - 2)) = j_ := ⟨_, rfl⟩
       replace H : (if 0 ≤ (ji13) then (if (ji13) < (x3_1.length : Int) then (if 0 ≤ (wrap64 (x4_1 - 16)) then (if (wrap64 (x4_1 - 16)) < (x3_1.length : Int) then ((coamingref02_ror.f (rd x3_1 (ji10)) 7).bind fun t113 => ((coamingref02_ror.f (rd x3_1 (ji10)) 18).bind fun t114 => (if 0 ≤ (wrap64 (x4_1 - 7)) then (if (wrap64 (x4_1 - 7)) < (x3_1.length : Int) then ((coamingref02_ror.f (rd x3_1 (ji13)) 17).bind fun t116 => ((coamingref02_ror.f (rd x3_1 (ji13)) 19).bind fun t117 => (if x3_1.length < 35184372088832 then (coamingref02_words.l0 k1 l0 (x3_1 ++ [((((((rd x3_1 (wrap64 (x4_1 - 16))) + (Go.bits .xor .u32 (Go.bits .xor .u32 t113 t114) ((rd x3_1 (ji10)) / 8))) % 4294967296) + (rd x3_1 (wrap64 (x4_1 - 7)))) % 4294967296) + (Go.bits .xor .u32 (Go.bits .xor .u32 t116 t117) ((rd x3_1 (ji13)) / 1024))) % 4294967296]) (wrap64 (x4_1 + 1))) else (none)))) else (none)) else (none)))) else (none)) else (none)) else (none)) else (none)) = some r := by first | (rw [hji13] at H; exact H) | (simp only [hji13] at H ⊢; exact H)
       have hji13w : (IntKind.i64.wrap (x4_1 - 2)) = ji13 := (i64_w _).trans hji13
       by_cases c14 : 0 ≤ (ji13)
       ·rw [if_pos c14] at H
        have c14b0 : decide (0 ≤ (ji13)) = true := decide_eq_true c14
        clear c14
        by_cases c15 : (ji13) < (x3_1.length : Int)
        ·rw [if_pos c15] at H
         have c15b0 : decide ((ji13) < (x3_1.length : Int)) = true := decide_eq_true c15
         clear c15
         obtain ⟨ji16, hji16⟩ : ∃ j_ : Int, (wrap64 (x4_1 - 16)) = j_ := ⟨_, rfl⟩
         replace H : (if 0 ≤ (ji16) then (if (ji16) < (x3_1.length : Int) then ((coamingref02_ror.f (rd x3_1 (ji10)) 7).bind fun t113 => ((coamingref02_ror.f (rd x3_1 (ji10)) 18).bind fun t114 => (if 0 ≤ (wrap64 (x4_1 - 7)) then (if (wrap64 (x4_1 - 7)) < (x3_1.length : Int) then ((coamingref02_ror.f (rd x3_1 (ji13)) 17).bind fun t116 => ((coamingref02_ror.f (rd x3_1 (ji13)) 19).bind fun t117 => (if x3_1.length < 35184372088832 then (coamingref02_words.l0 k1 l0 (x3_1 ++ [((((((rd x3_1 (ji16)) + (Go.bits .xor .u32 (Go.bits .xor .u32 t113 t114) ((rd x3_1 (ji10)) / 8))) % 4294967296) + (rd x3_1 (wrap64 (x4_1 - 7)))) % 4294967296) + (Go.bits .xor .u32 (Go.bits .xor .u32 t116 t117) ((rd x3_1 (ji13)) / 1024))) % 4294967296]) (wrap64 (x4_1 + 1))) else (none)))) else (none)) else (none)))) else (none)) else (none)) = some r := by first | (rw [hji16] at H; exact H) | (simp only [hji16] at H ⊢; exact H)
         have hji16w : (IntKind.i64.wrap (x4_1 - 16)) = ji16 := (i64_w _).trans hji16
         by_cases c17 : 0 ≤ (ji16)
         ·rw [if_pos c17] at H
          have c17b0 : decide (0 ≤ (ji16)) = true := decide_eq_true c17
          clear c17
          by_cases c18 : (ji16) < (x3_1.length : Int)
          ·rw [if_pos c18] at H
           have c18b0 : decide ((ji16) < (x3_1.length : Int)) = true := decide_eq_true c18
           clear c18
           replace H := Option.bind_eq_some_iff.mp H
           obtain ⟨t113, A190, H⟩ := H
           replace H : ((coamingref02_ror.f (rd x3_1 (ji10)) 18).bind fun t114 => (if 0 ≤ (wrap64 (x4_1 - 7)) then (if (wrap64 (x4_1 - 7)) < (x3_1.length : Int) then ((coamingref02_ror.f (rd x3_1 (ji13)) 17).bind fun t116 => ((coamingref02_ror.f (rd x3_1 (ji13)) 19).bind fun t117 => (if x3_1.length < 35184372088832 then (coamingref02_words.l0 k1 l0 (x3_1 ++ [((((((rd x3_1 (ji16)) + (Go.bits .xor .u32 (Go.bits .xor .u32 t113 t114) ((rd x3_1 (ji10)) / 8))) % 4294967296) + (rd x3_1 (wrap64 (x4_1 - 7)))) % 4294967296) + (Go.bits .xor .u32 (Go.bits .xor .u32 t116 t117) ((rd x3_1 (ji13)) / 1024))) % 4294967296]) (wrap64 (x4_1 + 1))) else (none)))) else (none)) else (none))) = some r := H
           have A19 := Aside0.mk A190
           clear A190
           replace H := Option.bind_eq_some_iff.mp H
           obtain ⟨t114, A200, H⟩ := H
           replace H : (if 0 ≤ (wrap64 (x4_1 - 7)) then (if (wrap64 (x4_1 - 7)) < (x3_1.length : Int) then ((coamingref02_ror.f (rd x3_1 (ji13)) 17).bind fun t116 => ((coamingref02_ror.f (rd x3_1 (ji13)) 19).bind fun t117 => (if x3_1.length < 35184372088832 then (coamingref02_words.l0 k1 l0 (x3_1 ++ [((((((rd x3_1 (ji16)) + (Go.bits .xor .u32 (Go.bits .xor .u32 t113 t114) ((rd x3_1 (ji10)) / 8))) % 4294967296) + (rd x3_1 (wrap64 (x4_1 - 7)))) % 4294967296) + (Go.bits .xor .u32 (Go.bits .xor .u32 t116 t117) ((rd x3_1 (ji13)) / 1024))) % 4294967296]) (wrap64 (x4_1 + 1))) else (none)))) else (none)) else (none)) = some r := H
           have A20 := Aside0.mk A200
           clear A200
           obtain ⟨ji21, hji21⟩ : ∃ j_ : Int, (wrap64 (x4_1 - 7)) = j_ := ⟨_, rfl⟩
           replace H : (if 0 ≤ (ji21) then (if (ji21) < (x3_1.length : Int) then ((coamingref02_ror.f (rd x3_1 (ji13)) 17).bind fun t116 => ((coamingref02_ror.f (rd x3_1 (ji13)) 19).bind fun t117 => (if x3_1.length < 35184372088832 then (coamingref02_words.l0 k1 l0 (x3_1 ++ [((((((rd x3_1 (ji16)) + (Go.bits .xor .u32 (Go.bits .xor .u32 t113 t114) ((rd x3_1 (ji10)) / 8))) % 4294967296) + (rd x3_1 (ji21))) % 4294967296) + (Go.bits .xor .u32 (Go.bits .xor .u32 t116 t117) ((rd x3_1 (ji13)) / 1024))) % 4294967296]) (wrap64 (x4_1 + 1))) else (none)))) else (none)) else (none)) = some r := by first | (rw [hji21] at H; exact H) | (simp only [hji21] at H ⊢; exact H)
           (try rw [hji21] at A19)
           (try rw [hji21] at A20)
           have hji21w : (IntKind.i64.wrap (x4_1 - 7)) = ji21 := (i64_w _).trans hji21
           by_cases c22 : 0 ≤ (ji21)
           ·rw [if_pos c22] at H
            have c22b0 : decide (0 ≤ (ji21)) = true := decide_eq_true c22
            clear c22
            by_cases c23 : (ji21) < (x3_1.length : Int)
            ·rw [if_pos c23] at H
             have c23b0 : decide ((ji21) < (x3_1.length : Int)) = true := decide_eq_true c23
             clear c23
             replace H := Option.bind_eq_some_iff.mp H
             obtain ⟨t116, A240, H⟩ := H
             replace H : ((coamingref02_ror.f (rd x3_1 (ji13)) 19).bind fun t117 => (if x3_1.length < 35184372088832 then (coamingref02_words.l0 k1 l0 (x3_1 ++ [((((((rd x3_1 (ji16)) + (Go.bits .xor .u32 (Go.bits .xor .u32 t113 t114) ((rd x3_1 (ji10)) / 8))) % 4294967296) + (rd x3_1 (ji21))) % 4294967296) + (Go.bits .xor .u32 (Go.bits .xor .u32 t116 t117) ((rd x3_1 (ji13)) / 1024))) % 4294967296]) (wrap64 (x4_1 + 1))) else (none))) = some r := H
             have A24 := Aside0.mk A240
             clear A240
             replace H := Option.bind_eq_some_iff.mp H
             obtain ⟨t117, A250, H⟩ := H
             replace H : (if x3_1.length < 35184372088832 then (coamingref02_words.l0 k1 l0 (x3_1 ++ [((((((rd x3_1 (ji16)) + (Go.bits .xor .u32 (Go.bits .xor .u32 t113 t114) ((rd x3_1 (ji10)) / 8))) % 4294967296) + (rd x3_1 (ji21))) % 4294967296) + (Go.bits .xor .u32 (Go.bits .xor .u32 t116 t117) ((rd x3_1 (ji13)) / 1024))) % 4294967296]) (wrap64 (x4_1 + 1))) else (none)) = some r := H
             have A25 := Aside0.mk A250
             clear A250
             by_cases c26 : x3_1.length < 35184372088832
             ·rw [if_pos c26] at H
              have LMc26 := Aside0.mk c26
              clear c26
              obtain ⟨y118, hy118⟩ : ∃ y_ : List Int, y_ = (x3_1 ++ [((((((rd x3_1 (ji16)) + (Go.bits .xor .u32 (Go.bits .xor .u32 t113 t114) ((rd x3_1 (ji10)) / 8))) % 4294967296) + (rd x3_1 (ji21))) % 4294967296) + (Go.bits .xor .u32 (Go.bits .xor .u32 t116 t117) ((rd x3_1 (ji13)) / 1024))) % 4294967296]) := ⟨_, rfl⟩
              replace H : (coamingref02_words.l0 k1 l0 y118 (wrap64 (x4_1 + 1))) = some r := by first | (rw [hy118]; with_reducible exact H) | (have H2_ := (Option.bind_some _ _).symm.trans H; rw [hy118]; with_reducible exact H2_) | (have H2_ := (Option.bind_some _ _).symm.trans H; with_reducible exact H2_) | with_reducible exact H | (rw [hy118]; exact H) | exact H
              have Ny118 := Aside0.mk hy118
              clear hy118
              have H' := Aside0.mk H
              clear H
              obtain ⟨Ao27, co27, eo27⟩ := Kd.R_slice HO_3.out
              subst eo27
              have p110 : 0 ≤ ((ji10) : Int) := of_decide_eq_true (by first | (with_reducible assumption) | assumption)
              have q110 : (ji10) < (x3_1.length : Int) := of_decide_eq_true (by first | (with_reducible assumption) | assumption)
              obtain ⟨ad110, e110, hx110_0⟩ := Kd.at_int (Kd.R_reads' HO_3.out).2.2 (ji10) p110 q110
              cases e110
              replace p110 := eq_true p110
              replace q110 := eq_true q110
              have p111 : 0 ≤ ((ji13) : Int) := of_decide_eq_true (by first | (with_reducible assumption) | assumption)
              have q111 : (ji13) < (x3_1.length : Int) := of_decide_eq_true (by first | (with_reducible assumption) | assumption)
              obtain ⟨ad111, e111, hx111_0⟩ := Kd.at_int (Kd.R_reads' HO_3.out).2.2 (ji13) p111 q111
              obtain rfl : ad110 = ad111 := (by injection e111)
              replace p111 := eq_true p111
              replace q111 := eq_true q111
              try go_wp2
              have n0_ := Aside0.mk (Kd.R_drew HO_3.out)
              have n1_ := Aside0.mk (below_drew1 HB.out)
              clear HO_3
              clear HB
              have HO_3 := n0_
              have HB := n1_
              clear n0_ n1_
              have p112 : 0 ≤ ((ji16) : Int) := of_decide_eq_true (by first | (with_reducible assumption) | assumption)
              have q112 : (ji16) < (x3_1.length : Int) := of_decide_eq_true (by first | (with_reducible assumption) | assumption)
              obtain ⟨ad112, e112, hx112_0⟩ := Kd.at_int (Kd.R_reads' HO_3.out).2.2 (ji16) p112 q112
              obtain rfl : ad110 = ad112 := (by injection e112)
              replace p112 := eq_true p112
              replace q112 := eq_true q112
              have p115 : 0 ≤ ((ji21) : Int) := of_decide_eq_true (by first | (with_reducible assumption) | assumption)
              have q115 : (ji21) < (x3_1.length : Int) := of_decide_eq_true (by first | (with_reducible assumption) | assumption)
              obtain ⟨ad115, e115, hx115_0⟩ := Kd.at_int (Kd.R_reads' HO_3.out).2.2 (ji21) p115 q115
              obtain rfl : ad110 = ad115 := (by injection e115)
              replace p115 := eq_true p115
              replace q115 := eq_true q115
              refine start_ (n := 33) (S := fun w' => w'.cell? (ad110.add ((ji16)).toNat) = some (.int .u32 (rd x3_1 (ji16))) ∧ w'.cell? (ad110.add ((ji21)).toNat) = some (.int .u32 (rd x3_1 (ji21)))) (ds := [30, 31]) #[false, false, false, false, false, false, false, false, false, false, false, false, false, false, false, false, false, false, false, false, false, false, false, false, false, false, false, false, false, false, false, false, false] (by kernel_rfl) rfl rfl ⟨hx112_0, hx115_0⟩ (fun hHeld => ?_); refine with_tabW coamingref02_words.tab14 coamingref02_words.bits14 (fun HT_ HW_ => ?_)
              generalize wr.drew = w28 at HO_3 HB hx112_0 hx115_0 hHeld ⊢
              refine Rg.p2 0 (some 44) ?_
              refine Rg.p2 1 (some 45) ?_
              refine Rg.p2 2 (some 46) ?_
              refine Rg.p2 3 (some 47) ?_
              refine Rg.p2 4 (some 48) ?_
              refine Rg.p2 6 (some 50) ?_
              refine Rg.p2 8 (some 52) ?_
              refine Rg.p2 11 (some 55) ?_
              refine Rg.p2 12 (some 56) ?_
              refine Rg.p2 15 (some 59) ?_
              refine Rg.p2 16 (some 60) ?_
              refine Rg.p2 17 (some 61) ?_
              refine Rg.p2 18 (some 62) ?_
              refine Rg.p2 21 (some 65) ?_
              refine Rg.p2 23 (some 67) ?_
              refine Rg.p2 26 (some 70) ?_
              refine Rg.p2 27 (some 71) ?_
              refine Rg.t2 5 (some 49) hHeld ?_ (hy := by rintro w' ⟨s0, s1⟩; go_simp; with_reducible rfl)
              refine Rg.t2 19 (some 63) hHeld ?_ (hy := by rintro w' ⟨s0, s1⟩; go_simp; with_reducible rfl)
              refine one_ (i := 7) (N := some 51) #[true, true, true, true, true, true, true, true, true, false, false, true, true, false, false, true, true, true, true, true, false, true, false, true, false, false, true, true, false, false, false, false, false] rfl rfl (one_of HT_.out (by kernel_rfl)) (by decide) (fun K hK => ?_)
              refine goes_ Tryd.func76 (by kernel_rfl) rfl #[.int .u32 (rd x3_1 (ji10)), .int .i64 7] (by rfl) rfl rfl (by (try simp only [List.map_toArray, List.map_cons, List.map_nil]); first | done | (simp only [hji10]; rfl) | rfl | (simp only [List.length_drop, List.length_take]; rfl) | (simp only [List.length_drop, List.length_take]; (repeat rw [Nat.min_eq_left (by simp only [eq_iff_iff, iff_true] at *; omega)]); rfl)) ?_
              with_reducible refine (coamingref02_ror.calls (rd x3_1 (ji10)) 7 t113 _ A19.out).mono ?_
              rintro e w' ⟨rfl, ⟨nd, rfl⟩⟩
              refine ⟨_, rfl, ?_⟩
              refine hK.out _ _ ⟨hHeld.1, hHeld.2⟩ (fun hHeld => ?_)
              clear hK K
              refine norm_ (a' := ?_) ?_ ?_
              rotate_left
              ·show Act.put _ (some 51) _ = _
               simp only [Act.put, List.setIfInBounds_toArray, List.set_cons_zero, List.set_cons_succ, i64_w, i32_w]
               rfl
              refine one_ (i := 9) (N := some 53) #[true, true, true, true, true, true, true, true, true, true, false, true, true, false, false, true, true, true, true, true, false, true, false, true, false, false, true, true, false, false, false, false, false] rfl rfl (one_of HT_.out (by kernel_rfl)) (by decide) (fun K hK => ?_)
              refine goes_ Tryd.func76 (by kernel_rfl) rfl #[.int .u32 (rd x3_1 (ji10)), .int .i64 18] (by rfl) rfl rfl (by (try simp only [List.map_toArray, List.map_cons, List.map_nil]); first | done | (simp only [hji10]; rfl) | rfl | (simp only [List.length_drop, List.length_take]; rfl) | (simp only [List.length_drop, List.length_take]; (repeat rw [Nat.min_eq_left (by simp only [eq_iff_iff, iff_true] at *; omega)]); rfl)) ?_
              with_reducible refine (coamingref02_ror.calls (rd x3_1 (ji10)) 18 t114 _ A20.out).mono ?_
              rintro e w' ⟨rfl, ⟨nd, rfl⟩⟩
              refine ⟨_, rfl, ?_⟩
              refine hK.out _ _ ⟨hHeld.1, hHeld.2⟩ (fun hHeld => ?_)
              clear hK K
              refine norm_ (a' := ?_) ?_ ?_
              rotate_left
              ·show Act.put _ (some 53) _ = _
               simp only [Act.put, List.setIfInBounds_toArray, List.set_cons_zero, List.set_cons_succ, i64_w, i32_w]
               rfl
              refine Rg.p2 10 (some 54) ?_
              refine Rg.p2 13 (some 57) ?_
              refine Rg.p2 14 (some 58) ?_
              refine Rg.p2 20 (some 64) ?_
              refine one_ (i := 22) (N := some 66) #[true, true, true, true, true, true, true, true, true, true, true, true, true, true, true, true, true, true, true, true, true, true, true, true, false, false, true, true, false, false, false, false, false] rfl rfl (one_of HT_.out (by kernel_rfl)) (by decide) (fun K hK => ?_)
              refine goes_ Tryd.func76 (by kernel_rfl) rfl #[.int .u32 (rd x3_1 (ji13)), .int .i64 17] (by rfl) rfl rfl (by (try simp only [List.map_toArray, List.map_cons, List.map_nil]); first | done | (simp only [hji13]; rfl) | rfl | (simp only [List.length_drop, List.length_take]; rfl) | (simp only [List.length_drop, List.length_take]; (repeat rw [Nat.min_eq_left (by simp only [eq_iff_iff, iff_true] at *; omega)]); rfl)) ?_
              with_reducible refine (coamingref02_ror.calls (rd x3_1 (ji13)) 17 t116 _ A24.out).mono ?_
              rintro e w' ⟨rfl, ⟨nd, rfl⟩⟩
              refine ⟨_, rfl, ?_⟩
              refine hK.out _ _ ⟨hHeld.1, hHeld.2⟩ (fun hHeld => ?_)
              clear hK K
              refine norm_ (a' := ?_) ?_ ?_
              rotate_left
              ·show Act.put _ (some 66) _ = _
               simp only [Act.put, List.setIfInBounds_toArray, List.set_cons_zero, List.set_cons_succ, i64_w, i32_w]
               rfl
              refine one_ (i := 24) (N := some 68) #[true, true, true, true, true, true, true, true, true, true, true, true, true, true, true, true, true, true, true, true, true, true, true, true, true, false, true, true, false, false, false, false, false] rfl rfl (one_of HT_.out (by kernel_rfl)) (by decide) (fun K hK => ?_)
              refine goes_ Tryd.func76 (by kernel_rfl) rfl #[.int .u32 (rd x3_1 (ji13)), .int .i64 19] (by rfl) rfl rfl (by (try simp only [List.map_toArray, List.map_cons, List.map_nil]); first | done | (simp only [hji13]; rfl) | rfl | (simp only [List.length_drop, List.length_take]; rfl) | (simp only [List.length_drop, List.length_take]; (repeat rw [Nat.min_eq_left (by simp only [eq_iff_iff, iff_true] at *; omega)]); rfl)) ?_
              with_reducible refine (coamingref02_ror.calls (rd x3_1 (ji13)) 19 t117 _ A25.out).mono ?_
              rintro e w' ⟨rfl, ⟨nd, rfl⟩⟩
              refine ⟨_, rfl, ?_⟩
              refine hK.out _ _ ⟨hHeld.1, hHeld.2⟩ (fun hHeld => ?_)
              clear hK K
              refine norm_ (a' := ?_) ?_ ?_
              rotate_left
              ·show Act.put _ (some 68) _ = _
               simp only [Act.put, List.setIfInBounds_toArray, List.set_cons_zero, List.set_cons_succ, i64_w, i32_w]
               rfl
              refine Rg.p2 25 (some 69) ?_
              refine Rg.p2 28 (some 72) ?_
              refine Rg.p2 29 (some 73) ?_
              refine last_ (i := 30) (N := some 74) #[true, true, true, true, true, true, true, true, true, true, true, true, true, true, true, true, true, true, true, true, true, true, true, true, true, true, true, true, true, true, true, false, false] rfl rfl (one_of HT_.out (by kernel_rfl)) (by decide) (fun K hK => ?_)
              refine value_ (w1 := ?_) (v := ?_) (by rfl) rfl ?_ ?_
              rotate_left 2
              ·go_simp
               constructor
               ·rfl
               ·rfl
              refine hK.out _ _ ?_
              clear hK K
              refine norm_ (a' := ?_) ?_ ?_
              rotate_left
              ·show Act.put _ (some 74) _ = _
               simp only [Act.put, List.setIfInBounds_toArray, List.set_cons_zero, List.set_cons_succ, i64_w, i32_w]
               rfl
              refine last_ (i := 31) (N := some 75) #[true, true, true, true, true, true, true, true, true, true, true, true, true, true, true, true, true, true, true, true, true, true, true, true, true, true, true, true, true, true, true, true, false] rfl rfl (one_of HT_.out (by kernel_rfl)) (by decide) (fun K hK => ?_)
              refine Kd.R_append_step (Kd.int .u32) (w0 := w) w.heap.size (by rfl) (.tmp 44) (.tmp 74) 22 33 (.int .u32 0) 4 rfl Tryd.underlying22 info33 rfl (by decide) (by omega) (.slice (some ad110) x3_1.length co27) x3_1 (((((((rd x3_1 (ji16)) + (Go.bits .xor .u32 (Go.bits .xor .u32 t113 t114) ((rd x3_1 (ji10)) / 8))) % 4294967296) + (rd x3_1 (ji21))) % 4294967296) + (Go.bits .xor .u32 (Go.bits .xor .u32 t116 t117) ((rd x3_1 (ji13)) / 1024))) % 4294967296) [.int .u32 (((((((rd x3_1 (ji16)) + (Go.bits .xor .u32 (Go.bits .xor .u32 t113 t114) ((rd x3_1 (ji10)) / 8))) % 4294967296) + (rd x3_1 (ji21))) % 4294967296) + (Go.bits .xor .u32 (Go.bits .xor .u32 t116 t117) ((rd x3_1 (ji13)) / 1024))) % 4294967296)] (fun _ => True) (fun _ => False) rfl rfl ?aP (fun _ hk => hk.elim) ?aF ?aO ?aB ?aS ?aL ?_
              (case aP => exact rfl)
              (case aB => exact (by repeat (first | (with_reducible first | exact HB.out | apply below_alloc | apply pw_below_drewN | apply below_drew1) | exact HB.out)))
              (case aF => exact (fun _ _ => trivial))
              (case aO => exact (by (with_reducible repeat (first | apply Kd.R_alloc | apply Kd.R_drewN | apply Kd.R_drew)); exact HO_3.out))
              (case aS => exact (below_size (by repeat (first | (with_reducible first | exact HB.out | apply below_alloc | apply pw_below_drewN | apply below_drew1) | exact HB.out))))
              (case aL => have := LMc26.out; omega)
              intro v119 w29 ho hb hg hat
              rw [← Ny118.out] at ho
              have n0_ := Aside0.mk (hb)
              have n1_ := Aside0.mk (ho)
              clear HB
              clear HO_3
              have HB := n0_
              have HO120 := n1_
              clear n0_ n1_
              clear ho hb hg hat
              refine hK.out _ _ ?_
              clear hK K
              refine norm_ (a' := ?_) ?_ ?_
              rotate_left
              ·show Act.put _ (some 75) _ = _
               simp only [Act.put, List.setIfInBounds_toArray, List.set_cons_zero, List.set_cons_succ, i64_w, i32_w]
               rfl
              refine Rg.p2 32 (some 3) ?_
              refine done_ (done_of HT_.out (by kernel_rfl)) ?_
              try go_wp2
              go_roundg k1
              case measure => have := HK1.out; omega
              case rel => exact ⟨(y118), (wrap64 (x4_1 + 1)), (by first | rfl | (simp; done) | (simp [*]; done)), H', ⟨by have := HK1.out; omega⟩, ⟨by (with_reducible repeat (first | apply Kd.R_alloc | apply Kd.R_drewN | apply Kd.R_drew)); exact HO120.out⟩, ⟨by repeat (first | (with_reducible first | exact HB.out | apply below_alloc | apply pw_below_drewN | apply below_drew1) | exact HB.out)⟩⟩
             ·rw [if_neg c26] at H
              exact absurd H (by simp)
            ·rw [if_neg c23] at H
             exact absurd H (by simp)
           ·rw [if_neg c22] at H
            exact absurd H (by simp)
          ·rw [if_neg c18] at H
           exact absurd H (by simp)
         ·rw [if_neg c17] at H
          exact absurd H (by simp)
        ·rw [if_neg c15] at H
         exact absurd H (by simp)
       ·rw [if_neg c14] at H
        exact absurd H (by simp)
      ·rw [if_neg c12] at H
       exact absurd H (by simp)
     ·rw [if_neg c11] at H
      exact absurd H (by simp)
   ·rw [if_neg c2] at H
    have c2b0 : decide (x4_1 < 64) = false := decide_eq_false c2
    clear c2
    obtain rfl := Option.some.inj H
    go_wp2
    go_ret
    exact ⟨_, by first | rfl | (simp [errW_none, errW_some] <;> rfl) | (simp [*, errW_none, errW_some] <;> rfl), by (with_reducible repeat (first | apply Kd.R_alloc | apply Kd.R_drewN | apply Kd.R_drew)); exact HO_3.out, by repeat (first | (with_reducible first | exact HB.out | apply below_alloc | apply pw_below_drewN | apply below_drew1) | exact HB.out)⟩
def coamingref02_keys.f  : Option (List Int) := some (([1116352408, 1899447441, 3049323471, 3921009573, 961987163, 1508970993, 2453635748, 2870763221, 3624381080, 310598401, 607225278, 1426881987, 1925078388, 2162078206, 2614888103, 3248222580, 3835390401, 4022224774, 264347078, 604807628, 770255983, 1249150122, 1555081692, 1996064986, 2554220882, 2821834349, 2952996808, 3210313671, 3336571891, 3584528711, 113926993, 338241895, 666307205, 773529912, 1294757372, 1396182291, 1695183700, 1986661051, 2177026350, 2456956037, 2730485921, 2820302411, 3259730800, 3345764771, 3516065817, 3600352804, 4094571909, 275423344, 430227734, 506948616, 659060556, 883997877, 958139571, 1322822218, 1537002063, 1747873779, 1955562222, 2024104815, 2227730452, 2361852424, 2428436474, 2756734187, 3204031479, 3329325298] : List Int))
set_option maxHeartbeats 8000000 in
set_option maxRecDepth 100000 in
theorem coamingref02_keys.calls  (r : List Int) (w : World) (h : coamingref02_keys.f  = some r) :
  Calls Tryd.prog 75 #[] w fun e w' => ∃ v0_ : Value, e = .returned (v0_) ∧ Kd.R (Kd.int .u32) 33 w' w.heap.size (fun _ => True) v0_ r ∧ Below w.heap.size w w' := by
 have HB := Aside0.mk (Below.refl w.heap.size w)
 have H : (some (([1116352408, 1899447441, 3049323471, 3921009573, 961987163, 1508970993, 2453635748, 2870763221, 3624381080, 310598401, 607225278, 1426881987, 1925078388, 2162078206, 2614888103, 3248222580, 3835390401, 4022224774, 264347078, 604807628, 770255983, 1249150122, 1555081692, 1996064986, 2554220882, 2821834349, 2952996808, 3210313671, 3336571891, 3584528711, 113926993, 338241895, 666307205, 773529912, 1294757372, 1396182291, 1695183700, 1986661051, 2177026350, 2456956037, 2730485921, 2820302411, 3259730800, 3345764771, 3516065817, 3600352804, 4094571909, 275423344, 430227734, 506948616, 659060556, 883997877, 958139571, 1322822218, 1537002063, 1747873779, 1955562222, 2024104815, 2227730452, 2361852424, 2428436474, 2756734187, 3204031479, 3329325298] : List Int))) = some r := h
 clear h
 obtain ⟨y121, hy121⟩ : ∃ y_ : List Int, y_ = (([1116352408, 1899447441, 3049323471, 3921009573, 961987163, 1508970993, 2453635748, 2870763221, 3624381080, 310598401, 607225278, 1426881987, 1925078388, 2162078206, 2614888103, 3248222580, 3835390401, 4022224774, 264347078, 604807628, 770255983, 1249150122, 1555081692, 1996064986, 2554220882, 2821834349, 2952996808, 3210313671, 3336571891, 3584528711, 113926993, 338241895, 666307205, 773529912, 1294757372, 1396182291, 1695183700, 1986661051, 2177026350, 2456956037, 2730485921, 2820302411, 3259730800, 3345764771, 3516065817, 3600352804, 4094571909, 275423344, 430227734, 506948616, 659060556, 883997877, 958139571, 1322822218, 1537002063, 1747873779, 1955562222, 2024104815, 2227730452, 2361852424, 2428436474, 2756734187, 3204031479, 3329325298] : List Int)) := ⟨_, rfl⟩
 replace H : (some y121) = some r := by first | (rw [hy121]; with_reducible exact H) | (have H2_ := (Option.bind_some _ _).symm.trans H; rw [hy121]; with_reducible exact H2_) | (have H2_ := (Option.bind_some _ _).symm.trans H; with_reducible exact H2_) | with_reducible exact H | (rw [hy121]; exact H) | exact H
 have Ny121 := Aside0.mk hy121
 clear hy121
 obtain rfl := Option.some.inj H
 go_enter Tryd.func75, Tryd.ntmps75
 go_wp2_with (first | ((with_reducible refine gate_dst (N := 1) rfl ?_); refine Kd.R_lit (Kd.int .u32) _ 33 ?hg (N := 1) ?hd (xs := ([1116352408, 1899447441, 3049323471, 3921009573, 961987163, 1508970993, 2453635748, 2870763221, 3624381080, 310598401, 607225278, 1426881987, 1925078388, 2162078206, 2614888103, 3248222580, 3835390401, 4022224774, 264347078, 604807628, 770255983, 1249150122, 1555081692, 1996064986, 2554220882, 2821834349, 2952996808, 3210313671, 3336571891, 3584528711, 113926993, 338241895, 666307205, 773529912, 1294757372, 1396182291, 1695183700, 1986661051, 2177026350, 2456956037, 2730485921, 2820302411, 3259730800, 3345764771, 3516065817, 3600352804, 4094571909, 275423344, 430227734, 506948616, 659060556, 883997877, 958139571, 1322822218, 1537002063, 1747873779, 1955562222, 2024104815, 2227730452, 2361852424, 2428436474, 2756734187, 3204031479, 3329325298] : List Int)) (inner := [.int .u32 1116352408, .int .u32 1899447441, .int .u32 3049323471, .int .u32 3921009573, .int .u32 961987163, .int .u32 1508970993, .int .u32 2453635748, .int .u32 2870763221, .int .u32 3624381080, .int .u32 310598401, .int .u32 607225278, .int .u32 1426881987, .int .u32 1925078388, .int .u32 2162078206, .int .u32 2614888103, .int .u32 3248222580, .int .u32 3835390401, .int .u32 4022224774, .int .u32 264347078, .int .u32 604807628, .int .u32 770255983, .int .u32 1249150122, .int .u32 1555081692, .int .u32 1996064986, .int .u32 2554220882, .int .u32 2821834349, .int .u32 2952996808, .int .u32 3210313671, .int .u32 3336571891, .int .u32 3584528711, .int .u32 113926993, .int .u32 338241895, .int .u32 666307205, .int .u32 773529912, .int .u32 1294757372, .int .u32 1396182291, .int .u32 1695183700, .int .u32 1986661051, .int .u32 2177026350, .int .u32 2456956037, .int .u32 2730485921, .int .u32 2820302411, .int .u32 3259730800, .int .u32 3345764771, .int .u32 3516065817, .int .u32 3600352804, .int .u32 4094571909, .int .u32 275423344, .int .u32 430227734, .int .u32 506948616, .int .u32 659060556, .int .u32 883997877, .int .u32 958139571, .int .u32 1322822218, .int .u32 1537002063, .int .u32 1747873779, .int .u32 1955562222, .int .u32 2024104815, .int .u32 2227730452, .int .u32 2361852424, .int .u32 2428436474, .int .u32 2756734187, .int .u32 3204031479, .int .u32 3329325298]) (ok := fun _ => True) (okp := fun _ => True) ?hr ?hp (fun _ hk => hk) trivial (Below.refl _ _) (Nat.le_refl _) (by simp) ?_; (case hd => rfl); (case hg => rfl); (case hr => first | (go_simp; done) | (go_simp; rfl) | (go_simp; simp only [IntKind.wrap_u32, Int.emod_add_emod, Int.add_emod_emod])); (case hp => exact (Reps.one (show Kd.M (Kd.int .u32) _ _ _ 1116352408 [.int .u32 1116352408] from rfl) (Reps.one (show Kd.M (Kd.int .u32) _ _ _ 1899447441 [.int .u32 1899447441] from rfl) (Reps.one (show Kd.M (Kd.int .u32) _ _ _ 3049323471 [.int .u32 3049323471] from rfl) (Reps.one (show Kd.M (Kd.int .u32) _ _ _ 3921009573 [.int .u32 3921009573] from rfl) (Reps.one (show Kd.M (Kd.int .u32) _ _ _ 961987163 [.int .u32 961987163] from rfl) (Reps.one (show Kd.M (Kd.int .u32) _ _ _ 1508970993 [.int .u32 1508970993] from rfl) (Reps.one (show Kd.M (Kd.int .u32) _ _ _ 2453635748 [.int .u32 2453635748] from rfl) (Reps.one (show Kd.M (Kd.int .u32) _ _ _ 2870763221 [.int .u32 2870763221] from rfl) (Reps.one (show Kd.M (Kd.int .u32) _ _ _ 3624381080 [.int .u32 3624381080] from rfl) (Reps.one (show Kd.M (Kd.int .u32) _ _ _ 310598401 [.int .u32 310598401] from rfl) (Reps.one (show Kd.M (Kd.int .u32) _ _ _ 607225278 [.int .u32 607225278] from rfl) (Reps.one (show Kd.M (Kd.int .u32) _ _ _ 1426881987 [.int .u32 1426881987] from rfl) (Reps.one (show Kd.M (Kd.int .u32) _ _ _ 1925078388 [.int .u32 1925078388] from rfl) (Reps.one (show Kd.M (Kd.int .u32) _ _ _ 2162078206 [.int .u32 2162078206] from rfl) (Reps.one (show Kd.M (Kd.int .u32) _ _ _ 2614888103 [.int .u32 2614888103] from rfl) (Reps.one (show Kd.M (Kd.int .u32) _ _ _ 3248222580 [.int .u32 3248222580] from rfl) (Reps.one (show Kd.M (Kd.int .u32) _ _ _ 3835390401 [.int .u32 3835390401] from rfl) (Reps.one (show Kd.M (Kd.int .u32) _ _ _ 4022224774 [.int .u32 4022224774] from rfl) (Reps.one (show Kd.M (Kd.int .u32) _ _ _ 264347078 [.int .u32 264347078] from rfl) (Reps.one (show Kd.M (Kd.int .u32) _ _ _ 604807628 [.int .u32 604807628] from rfl) (Reps.one (show Kd.M (Kd.int .u32) _ _ _ 770255983 [.int .u32 770255983] from rfl) (Reps.one (show Kd.M (Kd.int .u32) _ _ _ 1249150122 [.int .u32 1249150122] from rfl) (Reps.one (show Kd.M (Kd.int .u32) _ _ _ 1555081692 [.int .u32 1555081692] from rfl) (Reps.one (show Kd.M (Kd.int .u32) _ _ _ 1996064986 [.int .u32 1996064986] from rfl) (Reps.one (show Kd.M (Kd.int .u32) _ _ _ 2554220882 [.int .u32 2554220882] from rfl) (Reps.one (show Kd.M (Kd.int .u32) _ _ _ 2821834349 [.int .u32 2821834349] from rfl) (Reps.one (show Kd.M (Kd.int .u32) _ _ _ 2952996808 [.int .u32 2952996808] from rfl) (Reps.one (show Kd.M (Kd.int .u32) _ _ _ 3210313671 [.int .u32 3210313671] from rfl) (Reps.one (show Kd.M (Kd.int .u32) _ _ _ 3336571891 [.int .u32 3336571891] from rfl) (Reps.one (show Kd.M (Kd.int .u32) _ _ _ 3584528711 [.int .u32 3584528711] from rfl) (Reps.one (show Kd.M (Kd.int .u32) _ _ _ 113926993 [.int .u32 113926993] from rfl) (Reps.one (show Kd.M (Kd.int .u32) _ _ _ 338241895 [.int .u32 338241895] from rfl) (Reps.one (show Kd.M (Kd.int .u32) _ _ _ 666307205 [.int .u32 666307205] from rfl) (Reps.one (show Kd.M (Kd.int .u32) _ _ _ 773529912 [.int .u32 773529912] from rfl) (Reps.one (show Kd.M (Kd.int .u32) _ _ _ 1294757372 [.int .u32 1294757372] from rfl) (Reps.one (show Kd.M (Kd.int .u32) _ _ _ 1396182291 [.int .u32 1396182291] from rfl) (Reps.one (show Kd.M (Kd.int .u32) _ _ _ 1695183700 [.int .u32 1695183700] from rfl) (Reps.one (show Kd.M (Kd.int .u32) _ _ _ 1986661051 [.int .u32 1986661051] from rfl) (Reps.one (show Kd.M (Kd.int .u32) _ _ _ 2177026350 [.int .u32 2177026350] from rfl) (Reps.one (show Kd.M (Kd.int .u32) _ _ _ 2456956037 [.int .u32 2456956037] from rfl) (Reps.one (show Kd.M (Kd.int .u32) _ _ _ 2730485921 [.int .u32 2730485921] from rfl) (Reps.one (show Kd.M (Kd.int .u32) _ _ _ 2820302411 [.int .u32 2820302411] from rfl) (Reps.one (show Kd.M (Kd.int .u32) _ _ _ 3259730800 [.int .u32 3259730800] from rfl) (Reps.one (show Kd.M (Kd.int .u32) _ _ _ 3345764771 [.int .u32 3345764771] from rfl) (Reps.one (show Kd.M (Kd.int .u32) _ _ _ 3516065817 [.int .u32 3516065817] from rfl) (Reps.one (show Kd.M (Kd.int .u32) _ _ _ 3600352804 [.int .u32 3600352804] from rfl) (Reps.one (show Kd.M (Kd.int .u32) _ _ _ 4094571909 [.int .u32 4094571909] from rfl) (Reps.one (show Kd.M (Kd.int .u32) _ _ _ 275423344 [.int .u32 275423344] from rfl) (Reps.one (show Kd.M (Kd.int .u32) _ _ _ 430227734 [.int .u32 430227734] from rfl) (Reps.one (show Kd.M (Kd.int .u32) _ _ _ 506948616 [.int .u32 506948616] from rfl) (Reps.one (show Kd.M (Kd.int .u32) _ _ _ 659060556 [.int .u32 659060556] from rfl) (Reps.one (show Kd.M (Kd.int .u32) _ _ _ 883997877 [.int .u32 883997877] from rfl) (Reps.one (show Kd.M (Kd.int .u32) _ _ _ 958139571 [.int .u32 958139571] from rfl) (Reps.one (show Kd.M (Kd.int .u32) _ _ _ 1322822218 [.int .u32 1322822218] from rfl) (Reps.one (show Kd.M (Kd.int .u32) _ _ _ 1537002063 [.int .u32 1537002063] from rfl) (Reps.one (show Kd.M (Kd.int .u32) _ _ _ 1747873779 [.int .u32 1747873779] from rfl) (Reps.one (show Kd.M (Kd.int .u32) _ _ _ 1955562222 [.int .u32 1955562222] from rfl) (Reps.one (show Kd.M (Kd.int .u32) _ _ _ 2024104815 [.int .u32 2024104815] from rfl) (Reps.one (show Kd.M (Kd.int .u32) _ _ _ 2227730452 [.int .u32 2227730452] from rfl) (Reps.one (show Kd.M (Kd.int .u32) _ _ _ 2361852424 [.int .u32 2361852424] from rfl) (Reps.one (show Kd.M (Kd.int .u32) _ _ _ 2428436474 [.int .u32 2428436474] from rfl) (Reps.one (show Kd.M (Kd.int .u32) _ _ _ 2756734187 [.int .u32 2756734187] from rfl) (Reps.one (show Kd.M (Kd.int .u32) _ _ _ 3204031479 [.int .u32 3204031479] from rfl) (Reps.one (show Kd.M (Kd.int .u32) _ _ _ 3329325298 [.int .u32 3329325298] from rfl) (Reps.none _ _)))))))))))))))))))))))))))))))))))))))))))))))))))))))))))))))))); intro v122 w1 ho2 hb hg_ hnew_; clear hg_ hnew_; (first | rw [← Ny121.out] at ho2 | (simp only [Int.reduceToNat] at ho2; rw [← Ny121.out] at ho2)); have n0_ := Aside0.mk (Kd.R_lower ho2 (below_size (by repeat (first | (with_reducible first | exact HB.out | apply below_alloc | apply pw_below_drewN | apply below_drew1) | exact HB.out)))); have n1_ := Aside0.mk (below_step (by repeat (first | (with_reducible first | exact HB.out | apply below_alloc | apply pw_below_drewN | apply below_drew1) | exact HB.out)) hb); clear HB; have HO123 := n0_; have HB := n1_; clear n0_ n1_; clear hb ho2))
 go_ret
 exact ⟨_, by first | rfl | (simp [errW_none, errW_some] <;> rfl) | (simp [*, errW_none, errW_some] <;> rfl), by (with_reducible repeat (first | apply Kd.R_alloc | apply Kd.R_drewN | apply Kd.R_drew)); exact HO123.out, by repeat (first | (with_reducible first | exact HB.out | apply below_alloc | apply pw_below_drewN | apply below_drew1) | exact HB.out)⟩
end Go.Proofs.YtgljicdpcapgnaaDoor.PBase
namespace Go.Proofs.YtgljicdpcapgnaaDoor.PBase
open Go.RowKit Go.Proofs.YtgljicdpcapgnaaDoorW.PrintWords Go.Proofs.YtgljicdpcapgnaaDoorW.PrintLast Go.Proofs.YtgljicdpcapgnaaDoorW.PrintMore
attribute [local go_sem] max2_int min2_int max_two min_two max_three min_three max_four min_four   -- for this text's walks alone
set_option linter.unusedVariables false
set_option linter.unusedSimpArgs false
mutual
def coamingref02_more.l0 : Nat → List Int → List Int → List Int → List Int → Int → Option (List Int)
 | 0, _, _, _, _, _ => none
 | k + 1, x0, x5, x6, x7, x8 => if x8 < 64 then (if 7 < (x7.length : Int) then (if 4 < (x7.length : Int) then ((coamingref02_ror.f (rd x7 4) 6).bind fun t135 => ((coamingref02_ror.f (rd x7 4) 11).bind fun t137 => ((coamingref02_ror.f (rd x7 4) 25).bind fun t139 => (if 5 < (x7.length : Int) then (if 6 < (x7.length : Int) then (if 0 ≤ x8 then (if x8 < (x6.length : Int) then (if x8 < (x5.length : Int) then (if 0 < (x7.length : Int) then ((coamingref02_ror.f (rd x7 0) 2).bind fun t147 => ((coamingref02_ror.f (rd x7 0) 13).bind fun t149 => ((coamingref02_ror.f (rd x7 0) 22).bind fun t151 => (if 1 < (x7.length : Int) then (if 2 < (x7.length : Int) then (if 3 < (x7.length : Int) then (coamingref02_more.l0 k x0 x5 x6 (([((((((((((rd x7 7) + (Go.bits .xor .u32 (Go.bits .xor .u32 t135 t137) t139)) % 4294967296) + (Go.bits .xor .u32 (Go.bits .and .u32 (rd x7 4) (rd x7 5)) (Go.bits .and .u32 (Go.bits .xor .u32 IntKind.u32.max (rd x7 4)) (rd x7 6)))) % 4294967296) + (rd x6 x8)) % 4294967296) + (rd x5 x8)) % 4294967296) + (((Go.bits .xor .u32 (Go.bits .xor .u32 t147 t149) t151) + (Go.bits .xor .u32 (Go.bits .xor .u32 (Go.bits .and .u32 (rd x7 0) (rd x7 1)) (Go.bits .and .u32 (rd x7 0) (rd x7 2))) (Go.bits .and .u32 (rd x7 1) (rd x7 2)))) % 4294967296)) % 4294967296, rd x7 0, rd x7 1, rd x7 2, ((rd x7 3) + (((((((((rd x7 7) + (Go.bits .xor .u32 (Go.bits .xor .u32 t135 t137) t139)) % 4294967296) + (Go.bits .xor .u32 (Go.bits .and .u32 (rd x7 4) (rd x7 5)) (Go.bits .and .u32 (Go.bits .xor .u32 IntKind.u32.max (rd x7 4)) (rd x7 6)))) % 4294967296) + (rd x6 x8)) % 4294967296) + (rd x5 x8)) % 4294967296)) % 4294967296, rd x7 4, rd x7 5, rd x7 6] : List Int)) (wrap64 (x8 + 1))) else (none)) else (none)) else (none))))) else (none)) else (none)) else (none)) else (none)) else (none)) else (none))))) else (none)) else (none)) else (coamingref02_more.l1 k x0 x7 0)
def coamingref02_more.l1 : Nat → List Int → List Int → Int → Option (List Int)
 | 0, _, _, _ => none
 | k + 1, x0, x7, x11 => if x11 < 8 then (if 0 ≤ x11 then (if x11 < (x7.length : Int) then (if x11 < (x0.length : Int) then (coamingref02_more.l1 k x0 (x7.set (x11 : Int).toNat (((rd x7 x11) + (rd x0 x11)) % 4294967296)) (wrap64 (x11 + 1))) else (none)) else (none)) else (none)) else (some x7)
end
def coamingref02_more.f (k : Nat) (l0 : List Int) (l1 : List Int) : Option (List Int) := (coamingref02_words.f k l1).bind fun t124 => ((coamingref02_keys.f).bind fun t127 => (if ([] : List Int).length + l0.length < 35184372088832 then (coamingref02_more.l0 k l0 t124 t127 (([] : List Int) ++ l0) 0) else (none)))
def coamingref02_more.T8 : Bool × List (List Nat × List Nat) := (true, [([], []), ([0], [0]), ([1], [1]), ([], []), ([3], [3]), ([4], [4]), ([5], [5]), ([], []), ([7], [7]), ([8], [8]), ([9, 6], [9]), ([6, 10], [6, 10]), ([], []), ([12], [12]), ([13], [13]), ([14, 10], [14]), ([11, 15], [11, 15]), ([2, 16], [2, 16]), ([], []), ([18], [18]), ([19], [19]), ([], []), ([21], [21]), ([22], [22]), ([20, 23], [20, 23]), ([], []), ([25], [25]), ([26], [26]), ([27], [27]), ([], []), ([29], [29]), ([30], [30]), ([28, 31], [28, 31]), ([24, 32], [24, 32]), ([17, 33], [17, 33]), ([], []), ([], []), ([35, 36], [35, 36]), ([37], [37]), ([34, 38], [34, 38]), ([], []), ([], []), ([40, 41], [40, 41]), ([42], [42]), ([39, 43], [39, 43]), ([44, 15, 0, 1, 2, 3, 4, 5, 6, 7, 8, 9, 10, 11, 12, 13, 14, 15, 16, 17, 18, 19, 20, 21, 22, 23, 24, 25, 26, 27, 28, 29, 30, 31, 32, 33, 34, 35, 36, 37, 38, 39, 40, 41, 42, 43, 44], [44])])
def coamingref02_more.B8 : List Nat := [0, 1, 3, 0, 8, 24, 56, 0, 128, 384, 1016, 2040, 0, 4096, 12288, 30712, 65528, 131071, 0, 262144, 786432, 0, 2097152, 6291456, 16515072, 0, 33554432, 100663296, 234881024, 0, 536870912, 1610612736, 4261412864, 8589672448, 17179869183, 0, 0, 103079215104, 240518168576, 549755813887, 0, 0, 3298534883328, 7696581394432, 17592186044415, 35184372088831]
theorem coamingref02_more.tab8 : rtab .any (opsOf Tryd.f64 8) = coamingref02_more.T8 := by kernel_rfl
theorem coamingref02_more.bits8 : waitsOk coamingref02_more.T8.2 coamingref02_more.B8 = true := by kernel_rfl
def coamingref02_more.T9 : Bool × List (List Nat × List Nat) := (true, [([], []), ([0], [0]), ([1], [1]), ([2], [2]), ([], []), ([4], [4]), ([5], [5]), ([6, 3], [6]), ([3, 7], [3, 7]), ([], []), ([9], [9]), ([10], [10]), ([11, 7], [11]), ([8, 12], [8, 12]), ([], []), ([14], [14]), ([15], [15]), ([], []), ([17], [17]), ([18], [18]), ([16, 19], [16, 19]), ([], []), ([21], [21]), ([22], [22]), ([], []), ([24], [24]), ([25], [25]), ([23, 26], [23, 26]), ([20, 27], [20, 27]), ([], []), ([29], [29]), ([30], [30]), ([], []), ([32], [32]), ([33], [33]), ([31, 34], [31, 34]), ([28, 35], [28, 35]), ([13, 36], [13, 36]), ([37, 12, 0, 1, 2, 3, 4, 5, 6, 7, 8, 9, 10, 11, 12, 13, 14, 15, 16, 17, 18, 19, 20, 21, 22, 23, 24, 25, 26, 27, 28, 29, 30, 31, 32, 33, 34, 35, 36, 37], [37])])
def coamingref02_more.B9 : List Nat := [0, 1, 3, 7, 0, 16, 48, 127, 255, 0, 512, 1536, 3839, 8191, 0, 16384, 49152, 0, 131072, 393216, 1032192, 0, 2097152, 6291456, 0, 16777216, 50331648, 132120576, 268419072, 0, 536870912, 1610612736, 0, 4294967296, 12884901888, 33822867456, 68719460352, 137438953471, 274877906943]
theorem coamingref02_more.tab9 : rtab .any (opsOf Tryd.f64 9) = coamingref02_more.T9 := by kernel_rfl
theorem coamingref02_more.bits9 : waitsOk coamingref02_more.T9.2 coamingref02_more.B9 = true := by kernel_rfl
def coamingref02_more.T10 : Bool × List (List Nat × List Nat) := (true, [([], []), ([], []), ([0, 1], [0, 1]), ([], []), ([3], [3]), ([4], [4]), ([], []), ([6], [6]), ([7], [7]), ([], []), ([9], [9]), ([10], [10]), ([], []), ([12], [12]), ([13], [13]), ([], []), ([14, 15], [14, 15]), ([], []), ([17], [17]), ([18], [18]), ([], []), ([20], [20]), ([21], [21]), ([], []), ([23], [23]), ([24], [24]), ([2, 5, 8, 11, 16, 19, 22, 25], [2, 5, 8, 11, 16, 19, 22, 25]), ([26, 0, 1, 2, 3, 4, 5, 6, 7, 8, 9, 10, 11, 12, 13, 14, 15, 16, 17, 18, 19, 20, 21, 22, 23, 24, 25, 26], [3, 6, 9, 12, 17, 20, 23, 26])])
def coamingref02_more.B10 : List Nat := [0, 0, 3, 0, 8, 24, 0, 64, 192, 0, 512, 1536, 0, 4096, 12288, 0, 61440, 0, 131072, 393216, 0, 1048576, 3145728, 0, 8388608, 25165824, 67108863, 134217727]
theorem coamingref02_more.tab10 : rtab .any (opsOf Tryd.f64 10) = coamingref02_more.T10 := by kernel_rfl
theorem coamingref02_more.bits10 : waitsOk coamingref02_more.T10.2 coamingref02_more.B10 = true := by kernel_rfl
def coamingref02_more.T14 : Bool × List (List Nat × List Nat) := (true, [([], []), ([], []), ([], []), ([], []), ([2, 3], [2, 3]), ([4], [4]), ([], []), ([], []), ([6, 7], [6, 7]), ([8], [8]), ([5, 9], [5, 9]), ([0, 1, 0, 1, 2, 3, 4, 5, 6, 7, 8, 9, 10], [0, 1]), ([11, 10, 0, 1, 2, 3, 4, 5, 6, 7, 8, 9, 10], [10, 11])])
def coamingref02_more.B14 : List Nat := [0, 0, 0, 0, 12, 28, 0, 0, 192, 448, 1020, 2047, 4095]
theorem coamingref02_more.tab14 : rtab .any (opsOf Tryd.f64 14) = coamingref02_more.T14 := by kernel_rfl
theorem coamingref02_more.bits14 : waitsOk coamingref02_more.T14.2 coamingref02_more.B14 = true := by kernel_rfl
set_option maxHeartbeats 8000000 in
set_option maxRecDepth 100000 in
theorem coamingref02_more.calls (k : Nat) (A0 : Option Addr) (c0 : Nat) (l0 : List Int) (A1 : Option Addr) (c1 : Nat) (l1 : List Int) (r : List Int) (w : World) (hr0 : Kd.C (Kd.int .u32) w A0 l0.length l0) (hc0 : l0.length ≤ c0) (hr1 : Kd.C (Kd.int .u8) w A1 l1.length l1) (hc1 : l1.length ≤ c1) (h : coamingref02_more.f k l0 l1 = some r) :
  Calls Tryd.prog 64 #[.slice A0 l0.length c0, .slice A1 l1.length c1] w fun e w' => ∃ v0_ : Value, e = .returned (v0_) ∧ Kd.R (Kd.int .u32) 33 w' w.heap.size (fun _ => True) v0_ r ∧ Below w.heap.size w w' := by
 have HR0 := Aside0.mk hr0
 have HC0 := Aside0.mk hc0
 clear hr0 hc0
 have HR1 := Aside0.mk hr1
 have HC1 := Aside0.mk hc1
 clear hr1 hc1
 have HB := Aside0.mk (Below.refl w.heap.size w)
 have H : ((coamingref02_words.f k l1).bind fun t124 => ((coamingref02_keys.f).bind fun t127 => (if ([] : List Int).length + l0.length < 35184372088832 then (coamingref02_more.l0 k l0 t124 t127 (([] : List Int) ++ l0) 0) else (none)))) = some r := h
 clear h
 replace H := Option.bind_eq_some_iff.mp H
 obtain ⟨t124, A30, H⟩ := H
 replace H : ((coamingref02_keys.f).bind fun t127 => (if ([] : List Int).length + l0.length < 35184372088832 then (coamingref02_more.l0 k l0 t124 t127 (([] : List Int) ++ l0) 0) else (none))) = some r := H
 have A3 := Aside0.mk A30
 clear A30
 replace H := Option.bind_eq_some_iff.mp H
 obtain ⟨t127, A40, H⟩ := H
 replace H : (if ([] : List Int).length + l0.length < 35184372088832 then (coamingref02_more.l0 k l0 t124 t127 (([] : List Int) ++ l0) 0) else (none)) = some r := H
 have A4 := Aside0.mk A40
 clear A40
 by_cases c5 : ([] : List Int).length + l0.length < 35184372088832
 ·rw [if_pos c5] at H
  have LMc5 := Aside0.mk c5
  clear c5
  obtain ⟨y130, hy130⟩ : ∃ y_ : List Int, y_ = (([] : List Int) ++ l0) := ⟨_, rfl⟩
  replace H : (coamingref02_more.l0 k l0 t124 t127 y130 0) = some r := by first | (rw [hy130]; with_reducible exact H) | (have H2_ := (Option.bind_some _ _).symm.trans H; rw [hy130]; with_reducible exact H2_) | (have H2_ := (Option.bind_some _ _).symm.trans H; with_reducible exact H2_) | with_reducible exact H | (rw [hy130]; exact H) | exact H
  have Ny130 := Aside0.mk hy130
  clear hy130
  have H' := Aside0.mk H
  clear H
  go_enter Tryd.func64, Tryd.ntmps64
  go_wp2_with (first | ((with_reducible refine gate_callee (f := 74) rfl ?_); refine goesL_ (some 13) rfl rfl Tryd.func74 (by kernel_rfl) rfl #[.slice A1 l1.length c1] rfl (by (try simp only [List.map_toArray, List.map_cons, List.map_nil]); first | done | rfl | (simp only [List.length_drop, List.length_take]; rfl) | (simp only [List.length_drop, List.length_take]; (repeat rw [Nat.min_eq_left (by simp only [eq_iff_iff, iff_true] at *; omega)]); rfl)) ?_; (with_reducible refine (coamingref02_words.calls k _ _ l1 t124 _ ?side1 ?side2 A3.out).mono ?_); (case side1 => repeat (first | exact HR1.out | (with_reducible refine Kd.C_alloc ?_ _) | (with_reducible refine Kd.C_drewN ?_ _) | (with_reducible refine Kd.C_drew ?_))); (case side2 => exact HC1.out); rintro e w6 ⟨v125, rfl, ho0, hb⟩; refine ⟨_, rfl, ?_⟩; have n0_ := Aside0.mk (Kd.R_lower ho0 (below_size (by repeat (first | (with_reducible first | exact HB.out | apply below_alloc | apply pw_below_drewN | apply below_drew1) | exact HB.out)))); have n1_ := Aside0.mk (below_step (by repeat (first | (with_reducible first | exact HB.out | apply below_alloc | apply pw_below_drewN | apply below_drew1) | exact HB.out)) hb); clear HB; have HO126 := n0_; have HB := n1_; clear n0_ n1_; (try clear hb); (try clear hb2); (try clear hk); (try clear hi); (try clear ho0)) | ((with_reducible refine gate_callee (f := 75) rfl ?_); refine goesL_ (some 14) rfl rfl Tryd.func75 (by kernel_rfl) rfl #[] rfl (by (try simp only [List.map_toArray, List.map_cons, List.map_nil]); first | done | rfl | (simp only [List.length_drop, List.length_take]; rfl) | (simp only [List.length_drop, List.length_take]; (repeat rw [Nat.min_eq_left (by simp only [eq_iff_iff, iff_true] at *; omega)]); rfl)) ?_; (with_reducible refine (coamingref02_keys.calls  t127 _ A4.out).mono ?_); rintro e w7 ⟨v128, rfl, ho0, hb⟩; refine ⟨_, rfl, ?_⟩; have n0_ := Aside0.mk (Kd.R_elder' (by (with_reducible repeat (first | apply Kd.R_alloc | apply Kd.R_drewN | apply Kd.R_drew)); exact HO126.out) (Kd.R_base ho0) hb); have n1_ := Aside0.mk (Kd.R_lower (Kd.R_new' ho0 (Kd.R_lt (by (with_reducible repeat (first | apply Kd.R_alloc | apply Kd.R_drewN | apply Kd.R_drew)); exact HO126.out))) (below_size (by repeat (first | (with_reducible first | exact HB.out | apply below_alloc | apply pw_below_drewN | apply below_drew1) | exact HB.out)))); have n2_ := Aside0.mk (below_step (by repeat (first | (with_reducible first | exact HB.out | apply below_alloc | apply pw_below_drewN | apply below_drew1) | exact HB.out)) hb); clear HO126; clear HB; have HO126 := n0_; have HO129 := n1_; have HB := n2_; clear n0_ n1_ n2_; (try clear hb); (try clear hb2); (try clear hk); (try clear hi); (try clear ho0)) | ((with_reducible refine gate_builtin (b := .append) (xs := #[.tmp 15, .tmp 16]) rfl ?_); at_builtin; refine Kd.R_append_rows (Kd.int .u32) (w0 := w) w.heap.size rfl (.tmp 15) (.tmp 16) 22 33 (.int .u32 0) 4 rfl Tryd.underlying22 info33 rfl (by decide) (by omega) (.slice none 0 0) ([] : List Int) l0 _ _ _ (fun k_ => some k_ ≠ (v125 : Value).ownBlock ∧ some k_ ≠ (v128 : Value).ownBlock) (fun _ => False) rfl rfl ?aO ?aR (fun _ _ h => h) (fun _ h => h.elim) ?aF ?aB ?aS ?aL ?_; (case aR => repeat (first | exact (Kd.C_below HR0.out HB.out) | (with_reducible refine Kd.C_alloc ?_ _) | (with_reducible refine Kd.C_drewN ?_ _) | (with_reducible refine Kd.C_drew ?_))); (case aB => exact (by repeat (first | (with_reducible first | exact HB.out | apply below_alloc | apply pw_below_drewN | apply below_drew1) | exact HB.out))); (case aF => exact (fun k_ hk => ⟨Kd.fresh' (Kd.R_lt (by (with_reducible repeat (first | apply Kd.R_alloc | apply Kd.R_drewN | apply Kd.R_drew)); exact HO126.out)) k_ hk, Kd.fresh' (Kd.R_lt (by (with_reducible repeat (first | apply Kd.R_alloc | apply Kd.R_drewN | apply Kd.R_drew)); exact HO129.out)) k_ hk⟩)); (case aO => exact ((Kd.R_nil _ _ _ _ (fun k_ => some k_ ≠ (v125 : Value).ownBlock ∧ some k_ ≠ (v128 : Value).ownBlock)))); (case aS => exact (below_size (by repeat (first | (with_reducible first | exact HB.out | apply below_alloc | apply pw_below_drewN | apply below_drew1) | exact HB.out)))); (case aL => have := LMc5.out; omega); intro v131 w8 ho hb hg hat; rw [← Ny130.out] at ho; have n0_ := Aside0.mk (Kd.R_after (Kd.R_apart_nil (by (with_reducible repeat (first | apply Kd.R_alloc | apply Kd.R_drewN | apply Kd.R_drew)); exact HO126.out)) hg hat); have n1_ := Aside0.mk (Kd.R_after (Kd.R_apart_nil (by (with_reducible repeat (first | apply Kd.R_alloc | apply Kd.R_drewN | apply Kd.R_drew)); exact HO129.out)) hg hat); have n2_ := Aside0.mk (hb); have n3_ := Aside0.mk (ho); clear HO126; clear HO129; clear HB; have HO126 := n0_; have HO129 := n1_; have HB := n2_; have HO132 := n3_; clear n0_ n1_ n2_ n3_; clear ho hb hg hat))
  go_loopg [7, 8] k (fun kq v7 v8 w' => ∃ (x7_1 : List Int) (x8_1 : Int), v8 = .int .i64 x8_1 ∧ Aside0 (coamingref02_more.l0 kq l0 t124 t127 x7_1 x8_1 = some r) ∧ Aside0 (kq ≤ k) ∧ Aside0 (Kd.R (Kd.int .u32) 33 w' w.heap.size (fun k_ => some k_ ≠ (v128 : Value).ownBlock ∧ some k_ ≠ (v7 : Value).ownBlock) v125 t124) ∧ Aside0 (Kd.R (Kd.int .u32) 33 w' w.heap.size (fun k_ => some k_ ≠ (v125 : Value).ownBlock ∧ some k_ ≠ (v7 : Value).ownBlock) v128 t127) ∧ Aside0 (Kd.R (Kd.int .u32) 33 w' w.heap.size (fun k_ => some k_ ≠ (v125 : Value).ownBlock ∧ some k_ ≠ (v128 : Value).ownBlock) v7 x7_1) ∧ Aside0 (Below w.heap.size w w'))
  case atStart => exact ⟨(y130), (0), (by first | rfl | (simp; done) | (simp [*]; done)), H', ⟨Nat.le_refl _⟩, ⟨by (with_reducible repeat (first | apply Kd.R_alloc | apply Kd.R_drewN | apply Kd.R_drew)); exact Kd.R_mono HO126.out (fun _ hk => ⟨hk.1.2, hk.2⟩)⟩, ⟨by (with_reducible repeat (first | apply Kd.R_alloc | apply Kd.R_drewN | apply Kd.R_drew)); exact Kd.R_mono HO129.out (fun _ hk => ⟨hk.1.2, hk.2⟩)⟩, ⟨by (with_reducible repeat (first | apply Kd.R_alloc | apply Kd.R_drewN | apply Kd.R_drew)); exact HO132.out⟩, ⟨by repeat (first | (with_reducible first | exact HB.out | apply below_alloc | apply pw_below_drewN | apply below_drew1) | exact HB.out)⟩⟩
  case round =>
   clear H'
   try clear c1
   try clear p2
   try clear c5
   try clear c6
   try clear c7
   obtain ⟨x7_1, x8_1, rfl, HA, HK1, HO_5, HO_6, HO_7, HB⟩ := hrel
   cases gk with
   | zero => exact absurd HA.out (by simp [coamingref02_more.l0])
   | succ k1 =>
    have H := HA.out
    clear HA
    simp only [coamingref02_more.l0] at H
    by_cases c9 : x8_1 < 64
    ·rw [if_pos c9] at H
     have c9b0 : decide (x8_1 < 64) = true := decide_eq_true c9
     clear c9
     by_cases c10 : 7 < (x7_1.length : Int)
     ·rw [if_pos c10] at H
      have c10b0 : decide (7 < (x7_1.length : Int)) = true := decide_eq_true c10
      have c10b1 : decide (7 < x7_1.length) = true := decide_eq_true (by omega)
      clear c10
      by_cases c11 : 4 < (x7_1.length : Int)
      ·rw [if_pos c11] at H
       have c11b0 : decide (4 < (x7_1.length : Int)) = true := decide_eq_true c11
       have c11b1 : decide (4 < x7_1.length) = true := decide_eq_true (by omega)
       clear c11
       replace H := Option.bind_eq_some_iff.mp H
       obtain ⟨t135, A120, H⟩ := H
       replace H : ((coamingref02_ror.f (rd x7_1 4) 11).bind fun t137 => ((coamingref02_ror.f (rd x7_1 4) 25).bind fun t139 => (if 5 < (x7_1.length : Int) then (if 6 < (x7_1.length : Int) then (if 0 ≤ x8_1 then (if x8_1 < (t127.length : Int) then (if x8_1 < (t124.length : Int) then (if 0 < (x7_1.length : Int) then ((coamingref02_ror.f (rd x7_1 0) 2).bind fun t147 => ((coamingref02_ror.f (rd x7_1 0) 13).bind fun t149 => ((coamingref02_ror.f (rd x7_1 0) 22).bind fun t151 => (if 1 < (x7_1.length : Int) then (if 2 < (x7_1.length : Int) then (if 3 < (x7_1.length : Int) then (coamingref02_more.l0 k1 l0 t124 t127 (([((((((((((rd x7_1 7) + (Go.bits .xor .u32 (Go.bits .xor .u32 t135 t137) t139)) % 4294967296) + (Go.bits .xor .u32 (Go.bits .and .u32 (rd x7_1 4) (rd x7_1 5)) (Go.bits .and .u32 (Go.bits .xor .u32 IntKind.u32.max (rd x7_1 4)) (rd x7_1 6)))) % 4294967296) + (rd t127 x8_1)) % 4294967296) + (rd t124 x8_1)) % 4294967296) + (((Go.bits .xor .u32 (Go.bits .xor .u32 t147 t149) t151) + (Go.bits .xor .u32 (Go.bits .xor .u32 (Go.bits .and .u32 (rd x7_1 0) (rd x7_1 1)) (Go.bits .and .u32 (rd x7_1 0) (rd x7_1 2))) (Go.bits .and .u32 (rd x7_1 1) (rd x7_1 2)))) % 4294967296)) % 4294967296, rd x7_1 0, rd x7_1 1, rd x7_1 2, ((rd x7_1 3) + (((((((((rd x7_1 7) + (Go.bits .xor .u32 (Go.bits .xor .u32 t135 t137) t139)) % 4294967296) + (Go.bits .xor .u32 (Go.bits .and .u32 (rd x7_1 4) (rd x7_1 5)) (Go.bits .and .u32 (Go.bits .xor .u32 IntKind.u32.max (rd x7_1 4)) (rd x7_1 6)))) % 4294967296) + (rd t127 x8_1)) % 4294967296) + (rd t124 x8_1)) % 4294967296)) % 4294967296, rd x7_1 4, rd x7_1 5, rd x7_1 6] : List Int)) (wrap64 (x8_1 + 1))) else (none)) else (none)) else (none))))) else (none)) else (none)) else (none)) else (none)) else (none)) else (none)))) = some r := H
       have A12 := Aside0.mk A120
       clear A120
       replace H := Option.bind_eq_some_iff.mp H
       obtain ⟨t137, A130, H⟩ := H
       replace H : ((coamingref02_ror.f (rd x7_1 4) 25).bind fun t139 => (if 5 < (x7_1.length : Int) then (if 6 < (x7_1.length : Int) then (if 0 ≤ x8_1 then (if x8_1 < (t127.length : Int) then (if x8_1 < (t124.length : Int) then (if 0 < (x7_1.length : Int) then ((coamingref02_ror.f (rd x7_1 0) 2).bind fun t147 => ((coamingref02_ror.f (rd x7_1 0) 13).bind fun t149 => ((coamingref02_ror.f (rd x7_1 0) 22).bind fun t151 => (if 1 < (x7_1.length : Int) then (if 2 < (x7_1.length : Int) then (if 3 < (x7_1.length : Int) then (coamingref02_more.l0 k1 l0 t124 t127 (([((((((((((rd x7_1 7) + (Go.bits .xor .u32 (Go.bits .xor .u32 t135 t137) t139)) % 4294967296) + (Go.bits .xor .u32 (Go.bits .and .u32 (rd x7_1 4) (rd x7_1 5)) (Go.bits .and .u32 (Go.bits .xor .u32 IntKind.u32.max (rd x7_1 4)) (rd x7_1 6)))) % 4294967296) + (rd t127 x8_1)) % 4294967296) + (rd t124 x8_1)) % 4294967296) + (((Go.bits .xor .u32 (Go.bits .xor .u32 t147 t149) t151) + (Go.bits .xor .u32 (Go.bits .xor .u32 (Go.bits .and .u32 (rd x7_1 0) (rd x7_1 1)) (Go.bits .and .u32 (rd x7_1 0) (rd x7_1 2))) (Go.bits .and .u32 (rd x7_1 1) (rd x7_1 2)))) % 4294967296)) % 4294967296, rd x7_1 0, rd x7_1 1, rd x7_1 2, ((rd x7_1 3) + (((((((((rd x7_1 7) + (Go.bits .xor .u32 (Go.bits .xor .u32 t135 t137) t139)) % 4294967296) + (Go.bits .xor .u32 (Go.bits .and .u32 (rd x7_1 4) (rd x7_1 5)) (Go.bits .and .u32 (Go.bits .xor .u32 IntKind.u32.max (rd x7_1 4)) (rd x7_1 6)))) % 4294967296) + (rd t127 x8_1)) % 4294967296) + (rd t124 x8_1)) % 4294967296)) % 4294967296, rd x7_1 4, rd x7_1 5, rd x7_1 6] : List Int)) (wrap64 (x8_1 + 1))) else (none)) else (none)) else (none))))) else (none)) else (none)) else (none)) else (none)) else (none)) else (none))) = some r := H
       have A13 := Aside0.mk A130
       clear A130
       replace H := Option.bind_eq_some_iff.mp H
       obtain ⟨t139, A140, H⟩ := H
       replace H : (if 5 < (x7_1.length : Int) then (if 6 < (x7_1.length : Int) then (if 0 ≤ x8_1 then (if x8_1 < (t127.length : Int) then (if x8_1 < (t124.length : Int) then (if 0 < (x7_1.length : Int) then ((coamingref02_ror.f (rd x7_1 0) 2).bind fun t147 => ((coamingref02_ror.f (rd x7_1 0) 13).bind fun t149 => ((coamingref02_ror.f (rd x7_1 0) 22).bind fun t151 => (if 1 < (x7_1.length : Int) then (if 2 < (x7_1.length : Int) then (if 3 < (x7_1.length : Int) then (coamingref02_more.l0 k1 l0 t124 t127 (([((((((((((rd x7_1 7) + (Go.bits .xor .u32 (Go.bits .xor .u32 t135 t137) t139)) % 4294967296) + (Go.bits .xor .u32 (Go.bits .and .u32 (rd x7_1 4) (rd x7_1 5)) (Go.bits .and .u32 (Go.bits .xor .u32 IntKind.u32.max (rd x7_1 4)) (rd x7_1 6)))) % 4294967296) + (rd t127 x8_1)) % 4294967296) + (rd t124 x8_1)) % 4294967296) + (((Go.bits .xor .u32 (Go.bits .xor .u32 t147 t149) t151) + (Go.bits .xor .u32 (Go.bits .xor .u32 (Go.bits .and .u32 (rd x7_1 0) (rd x7_1 1)) (Go.bits .and .u32 (rd x7_1 0) (rd x7_1 2))) (Go.bits .and .u32 (rd x7_1 1) (rd x7_1 2)))) % 4294967296)) % 4294967296, rd x7_1 0, rd x7_1 1, rd x7_1 2, ((rd x7_1 3) + (((((((((rd x7_1 7) + (Go.bits .xor .u32 (Go.bits .xor .u32 t135 t137) t139)) % 4294967296) + (Go.bits .xor .u32 (Go.bits .and .u32 (rd x7_1 4) (rd x7_1 5)) (Go.bits .and .u32 (Go.bits .xor .u32 IntKind.u32.max (rd x7_1 4)) (rd x7_1 6)))) % 4294967296) + (rd t127 x8_1)) % 4294967296) + (rd t124 x8_1)) % 4294967296)) % 4294967296, rd x7_1 4, rd x7_1 5, rd x7_1 6] : List Int)) (wrap64 (x8_1 + 1))) else (none)) else (none)) else (none))))) else (none)) else (none)) else (none)) else (none)) else (none)) else (none)) = some r := H
       have A14 := Aside0.mk A140
       clear A140
       by_cases c15 : 5 < (x7_1.length : Int)
       ·rw [if_pos c15] at H
        have c15b0 : decide (5 < (x7_1.length : Int)) = true := decide_eq_true c15
        have c15b1 : decide (5 < x7_1.length) = true := decide_eq_true (by omega)
        clear c15
        by_cases c16 : 6 < (x7_1.length : Int)
        ·rw [if_pos c16] at H
         have c16b0 : decide (6 < (x7_1.length : Int)) = true := decide_eq_true c16
         have c16b1 : decide (6 < x7_1.length) = true := decide_eq_true (by omega)
         clear c16
         by_cases c17 : 0 ≤ x8_1
         ·rw [if_pos c17] at H
          have c17b0 : decide (0 ≤ x8_1) = true := decide_eq_true c17
          clear c17
          by_cases c18 : x8_1 < (t127.length : Int)
          ·rw [if_pos c18] at H
           have c18b0 : decide (x8_1 < (t127.length : Int)) = true := decide_eq_true c18
           clear c18
           by_cases c19 : x8_1 < (t124.length : Int)
           ·rw [if_pos c19] at H
            have c19b0 : decide (x8_1 < (t124.length : Int)) = true := decide_eq_true c19
            clear c19
            by_cases c20 : 0 < (x7_1.length : Int)
            ·rw [if_pos c20] at H
             have c20b0 : decide (0 < (x7_1.length : Int)) = true := decide_eq_true c20
             have c20b1 : decide (0 < x7_1.length) = true := decide_eq_true (by omega)
             clear c20
             replace H := Option.bind_eq_some_iff.mp H
             obtain ⟨t147, A210, H⟩ := H
             replace H : ((coamingref02_ror.f (rd x7_1 0) 13).bind fun t149 => ((coamingref02_ror.f (rd x7_1 0) 22).bind fun t151 => (if 1 < (x7_1.length : Int) then (if 2 < (x7_1.length : Int) then (if 3 < (x7_1.length : Int) then (coamingref02_more.l0 k1 l0 t124 t127 (([((((((((((rd x7_1 7) + (Go.bits .xor .u32 (Go.bits .xor .u32 t135 t137) t139)) % 4294967296) + (Go.bits .xor .u32 (Go.bits .and .u32 (rd x7_1 4) (rd x7_1 5)) (Go.bits .and .u32 (Go.bits .xor .u32 IntKind.u32.max (rd x7_1 4)) (rd x7_1 6)))) % 4294967296) + (rd t127 x8_1)) % 4294967296) + (rd t124 x8_1)) % 4294967296) + (((Go.bits .xor .u32 (Go.bits .xor .u32 t147 t149) t151) + (Go.bits .xor .u32 (Go.bits .xor .u32 (Go.bits .and .u32 (rd x7_1 0) (rd x7_1 1)) (Go.bits .and .u32 (rd x7_1 0) (rd x7_1 2))) (Go.bits .and .u32 (rd x7_1 1) (rd x7_1 2)))) % 4294967296)) % 4294967296, rd x7_1 0, rd x7_1 1, rd x7_1 2, ((rd x7_1 3) + (((((((((rd x7_1 7) + (Go.bits .xor .u32 (Go.bits .xor .u32 t135 t137) t139)) % 4294967296) + (Go.bits .xor .u32 (Go.bits .and .u32 (rd x7_1 4) (rd x7_1 5)) (Go.bits .and .u32 (Go.bits .xor .u32 IntKind.u32.max (rd x7_1 4)) (rd x7_1 6)))) % 4294967296) + (rd t127 x8_1)) % 4294967296) + (rd t124 x8_1)) % 4294967296)) % 4294967296, rd x7_1 4, rd x7_1 5, rd x7_1 6] : List Int)) (wrap64 (x8_1 + 1))) else (none)) else (none)) else (none)))) = some r := H
             have A21 := Aside0.mk A210
             clear A210
             replace H := Option.bind_eq_some_iff.mp H
             obtain ⟨t149, A220, H⟩ := H
             replace H : ((coamingref02_ror.f (rd x7_1 0) 22).bind fun t151 => (if 1 < (x7_1.length : Int) then (if 2 < (x7_1.length : Int) then (if 3 < (x7_1.length : Int) then (coamingref02_more.l0 k1 l0 t124 t127 (([((((((((((rd x7_1 7) + (Go.bits .xor .u32 (Go.bits .xor .u32 t135 t137) t139)) % 4294967296) + (Go.bits .xor .u32 (Go.bits .and .u32 (rd x7_1 4) (rd x7_1 5)) (Go.bits .and .u32 (Go.bits .xor .u32 IntKind.u32.max (rd x7_1 4)) (rd x7_1 6)))) % 4294967296) + (rd t127 x8_1)) % 4294967296) + (rd t124 x8_1)) % 4294967296) + (((Go.bits .xor .u32 (Go.bits .xor .u32 t147 t149) t151) + (Go.bits .xor .u32 (Go.bits .xor .u32 (Go.bits .and .u32 (rd x7_1 0) (rd x7_1 1)) (Go.bits .and .u32 (rd x7_1 0) (rd x7_1 2))) (Go.bits .and .u32 (rd x7_1 1) (rd x7_1 2)))) % 4294967296)) % 4294967296, rd x7_1 0, rd x7_1 1, rd x7_1 2, ((rd x7_1 3) + (((((((((rd x7_1 7) + (Go.bits .xor .u32 (Go.bits .xor .u32 t135 t137) t139)) % 4294967296) + (Go.bits .xor .u32 (Go.bits .and .u32 (rd x7_1 4) (rd x7_1 5)) (Go.bits .and .u32 (Go.bits .xor .u32 IntKind.u32.max (rd x7_1 4)) (rd x7_1 6)))) % 4294967296) + (rd t127 x8_1)) % 4294967296) + (rd t124 x8_1)) % 4294967296)) % 4294967296, rd x7_1 4, rd x7_1 5, rd x7_1 6] : List Int)) (wrap64 (x8_1 + 1))) else (none)) else (none)) else (none))) = some r := H
             have A22 := Aside0.mk A220
             clear A220
             replace H := Option.bind_eq_some_iff.mp H
             obtain ⟨t151, A230, H⟩ := H
             replace H : (if 1 < (x7_1.length : Int) then (if 2 < (x7_1.length : Int) then (if 3 < (x7_1.length : Int) then (coamingref02_more.l0 k1 l0 t124 t127 (([((((((((((rd x7_1 7) + (Go.bits .xor .u32 (Go.bits .xor .u32 t135 t137) t139)) % 4294967296) + (Go.bits .xor .u32 (Go.bits .and .u32 (rd x7_1 4) (rd x7_1 5)) (Go.bits .and .u32 (Go.bits .xor .u32 IntKind.u32.max (rd x7_1 4)) (rd x7_1 6)))) % 4294967296) + (rd t127 x8_1)) % 4294967296) + (rd t124 x8_1)) % 4294967296) + (((Go.bits .xor .u32 (Go.bits .xor .u32 t147 t149) t151) + (Go.bits .xor .u32 (Go.bits .xor .u32 (Go.bits .and .u32 (rd x7_1 0) (rd x7_1 1)) (Go.bits .and .u32 (rd x7_1 0) (rd x7_1 2))) (Go.bits .and .u32 (rd x7_1 1) (rd x7_1 2)))) % 4294967296)) % 4294967296, rd x7_1 0, rd x7_1 1, rd x7_1 2, ((rd x7_1 3) + (((((((((rd x7_1 7) + (Go.bits .xor .u32 (Go.bits .xor .u32 t135 t137) t139)) % 4294967296) + (Go.bits .xor .u32 (Go.bits .and .u32 (rd x7_1 4) (rd x7_1 5)) (Go.bits .and .u32 (Go.bits .xor .u32 IntKind.u32.max (rd x7_1 4)) (rd x7_1 6)))) % 4294967296) + (rd t127 x8_1)) % 4294967296) + (rd t124 x8_1)) % 4294967296)) % 4294967296, rd x7_1 4, rd x7_1 5, rd x7_1 6] : List Int)) (wrap64 (x8_1 + 1))) else (none)) else (none)) else (none)) = some r := H
             have A23 := Aside0.mk A230
             clear A230
             by_cases c24 : 1 < (x7_1.length : Int)
             ·rw [if_pos c24] at H
              have c24b0 : decide (1 < (x7_1.length : Int)) = true := decide_eq_true c24
              have c24b1 : decide (1 < x7_1.length) = true := decide_eq_true (by omega)
              clear c24
              by_cases c25 : 2 < (x7_1.length : Int)
              ·rw [if_pos c25] at H
               have c25b0 : decide (2 < (x7_1.length : Int)) = true := decide_eq_true c25
               have c25b1 : decide (2 < x7_1.length) = true := decide_eq_true (by omega)
               clear c25
               by_cases c26 : 3 < (x7_1.length : Int)
               ·rw [if_pos c26] at H
                have c26b0 : decide (3 < (x7_1.length : Int)) = true := decide_eq_true c26
                have c26b1 : decide (3 < x7_1.length) = true := decide_eq_true (by omega)
                clear c26
                obtain ⟨y165, hy165⟩ : ∃ y_ : List Int, y_ = (([((((((((((rd x7_1 7) + (Go.bits .xor .u32 (Go.bits .xor .u32 t135 t137) t139)) % 4294967296) + (Go.bits .xor .u32 (Go.bits .and .u32 (rd x7_1 4) (rd x7_1 5)) (Go.bits .and .u32 (Go.bits .xor .u32 IntKind.u32.max (rd x7_1 4)) (rd x7_1 6)))) % 4294967296) + (rd t127 x8_1)) % 4294967296) + (rd t124 x8_1)) % 4294967296) + (((Go.bits .xor .u32 (Go.bits .xor .u32 t147 t149) t151) + (Go.bits .xor .u32 (Go.bits .xor .u32 (Go.bits .and .u32 (rd x7_1 0) (rd x7_1 1)) (Go.bits .and .u32 (rd x7_1 0) (rd x7_1 2))) (Go.bits .and .u32 (rd x7_1 1) (rd x7_1 2)))) % 4294967296)) % 4294967296, rd x7_1 0, rd x7_1 1, rd x7_1 2, ((rd x7_1 3) + (((((((((rd x7_1 7) + (Go.bits .xor .u32 (Go.bits .xor .u32 t135 t137) t139)) % 4294967296) + (Go.bits .xor .u32 (Go.bits .and .u32 (rd x7_1 4) (rd x7_1 5)) (Go.bits .and .u32 (Go.bits .xor .u32 IntKind.u32.max (rd x7_1 4)) (rd x7_1 6)))) % 4294967296) + (rd t127 x8_1)) % 4294967296) + (rd t124 x8_1)) % 4294967296)) % 4294967296, rd x7_1 4, rd x7_1 5, rd x7_1 6] : List Int)) := ⟨_, rfl⟩
                replace H : (coamingref02_more.l0 k1 l0 t124 t127 y165 (wrap64 (x8_1 + 1))) = some r := by first | (rw [hy165]; with_reducible exact H) | (have H2_ := (Option.bind_some _ _).symm.trans H; rw [hy165]; with_reducible exact H2_) | (have H2_ := (Option.bind_some _ _).symm.trans H; with_reducible exact H2_) | with_reducible exact H | (rw [hy165]; exact H) | exact H
                have Ny165 := Aside0.mk hy165
                clear hy165
                have H' := Aside0.mk H
                clear H
                try go_wp2
                have n0_ := Aside0.mk (Kd.R_drew HO_5.out)
                have n1_ := Aside0.mk (Kd.R_drew HO_6.out)
                have n2_ := Aside0.mk (Kd.R_drew HO_7.out)
                have n3_ := Aside0.mk (below_drew1 HB.out)
                clear HO_5
                clear HO_6
                clear HO_7
                clear HB
                have HO_5 := n0_
                have HO_6 := n1_
                have HO_7 := n2_
                have HB := n3_
                clear n0_ n1_ n2_ n3_
                obtain ⟨Ao28, co28, eo28⟩ := Kd.R_slice HO_7.out
                (first | subst eo28 | (injection eo28 with f1_ f2_ f3_; have f4_ := f1_.symm; have f5_ := f3_.symm; clear f1_ f2_ f3_; subst f4_; subst f5_))
                have p133 : 0 ≤ (7 : Int) := (by omega)
                have q133 : 7 < (x7_1.length : Int) := of_decide_eq_true (by first | (with_reducible assumption) | assumption)
                obtain ⟨ad133, e133, hx133_0⟩ := Kd.at_int (Kd.R_reads' HO_7.out).2.2 7 p133 q133
                cases e133
                (try simp only [show (7 : Int).toNat = 7 from rfl, Nat.reduceMul, Nat.reduceEqDiff, Go.Addr.add, ↓reduceIte] at hx133_0)
                have qi133 : (7 < x7_1.length) = True := eq_true (by omega)
                (try rw [show ((7 : Int)).toNat = 7 from rfl] at hx133_0)
                replace p133 := eq_true p133
                replace q133 := eq_true q133
                have p134 : 0 ≤ (4 : Int) := (by omega)
                have q134 : 4 < (x7_1.length : Int) := of_decide_eq_true (by first | (with_reducible assumption) | assumption)
                obtain ⟨ad134, e134, hx134_0⟩ := Kd.at_int (Kd.R_reads' HO_7.out).2.2 4 p134 q134
                obtain rfl : ad133 = ad134 := (by injection e134)
                (try simp only [show (4 : Int).toNat = 4 from rfl, Nat.reduceMul, Nat.reduceEqDiff, Go.Addr.add, ↓reduceIte] at hx134_0)
                have qi134 : (4 < x7_1.length) = True := eq_true (by omega)
                (try rw [show ((4 : Int)).toNat = 4 from rfl] at hx134_0)
                replace p134 := eq_true p134
                replace q134 := eq_true q134
                have p136 : 0 ≤ (4 : Int) := (by omega)
                have q136 : 4 < (x7_1.length : Int) := of_decide_eq_true (by first | (with_reducible assumption) | assumption)
                obtain ⟨ad136, e136, hx136_0⟩ := Kd.at_int (Kd.R_reads' HO_7.out).2.2 4 p136 q136
                obtain rfl : ad133 = ad136 := (by injection e136)
                (try simp only [show (4 : Int).toNat = 4 from rfl, Nat.reduceMul, Nat.reduceEqDiff, Go.Addr.add, ↓reduceIte] at hx136_0)
                have qi136 : (4 < x7_1.length) = True := eq_true (by omega)
                (try rw [show ((4 : Int)).toNat = 4 from rfl] at hx136_0)
                replace p136 := eq_true p136
                replace q136 := eq_true q136
                have p138 : 0 ≤ (4 : Int) := (by omega)
                have q138 : 4 < (x7_1.length : Int) := of_decide_eq_true (by first | (with_reducible assumption) | assumption)
                obtain ⟨ad138, e138, hx138_0⟩ := Kd.at_int (Kd.R_reads' HO_7.out).2.2 4 p138 q138
                obtain rfl : ad133 = ad138 := (by injection e138)
                (try simp only [show (4 : Int).toNat = 4 from rfl, Nat.reduceMul, Nat.reduceEqDiff, Go.Addr.add, ↓reduceIte] at hx138_0)
                have qi138 : (4 < x7_1.length) = True := eq_true (by omega)
                (try rw [show ((4 : Int)).toNat = 4 from rfl] at hx138_0)
                replace p138 := eq_true p138
                replace q138 := eq_true q138
                have p140 : 0 ≤ (4 : Int) := (by omega)
                have q140 : 4 < (x7_1.length : Int) := of_decide_eq_true (by first | (with_reducible assumption) | assumption)
                obtain ⟨ad140, e140, hx140_0⟩ := Kd.at_int (Kd.R_reads' HO_7.out).2.2 4 p140 q140
                obtain rfl : ad133 = ad140 := (by injection e140)
                (try simp only [show (4 : Int).toNat = 4 from rfl, Nat.reduceMul, Nat.reduceEqDiff, Go.Addr.add, ↓reduceIte] at hx140_0)
                have qi140 : (4 < x7_1.length) = True := eq_true (by omega)
                (try rw [show ((4 : Int)).toNat = 4 from rfl] at hx140_0)
                replace p140 := eq_true p140
                replace q140 := eq_true q140
                have p141 : 0 ≤ (5 : Int) := (by omega)
                have q141 : 5 < (x7_1.length : Int) := of_decide_eq_true (by first | (with_reducible assumption) | assumption)
                obtain ⟨ad141, e141, hx141_0⟩ := Kd.at_int (Kd.R_reads' HO_7.out).2.2 5 p141 q141
                obtain rfl : ad133 = ad141 := (by injection e141)
                (try simp only [show (5 : Int).toNat = 5 from rfl, Nat.reduceMul, Nat.reduceEqDiff, Go.Addr.add, ↓reduceIte] at hx141_0)
                have qi141 : (5 < x7_1.length) = True := eq_true (by omega)
                (try rw [show ((5 : Int)).toNat = 5 from rfl] at hx141_0)
                replace p141 := eq_true p141
                replace q141 := eq_true q141
                have p142 : 0 ≤ (4 : Int) := (by omega)
                have q142 : 4 < (x7_1.length : Int) := of_decide_eq_true (by first | (with_reducible assumption) | assumption)
                obtain ⟨ad142, e142, hx142_0⟩ := Kd.at_int (Kd.R_reads' HO_7.out).2.2 4 p142 q142
                obtain rfl : ad133 = ad142 := (by injection e142)
                (try simp only [show (4 : Int).toNat = 4 from rfl, Nat.reduceMul, Nat.reduceEqDiff, Go.Addr.add, ↓reduceIte] at hx142_0)
                have qi142 : (4 < x7_1.length) = True := eq_true (by omega)
                (try rw [show ((4 : Int)).toNat = 4 from rfl] at hx142_0)
                replace p142 := eq_true p142
                replace q142 := eq_true q142
                have p143 : 0 ≤ (6 : Int) := (by omega)
                have q143 : 6 < (x7_1.length : Int) := of_decide_eq_true (by first | (with_reducible assumption) | assumption)
                obtain ⟨ad143, e143, hx143_0⟩ := Kd.at_int (Kd.R_reads' HO_7.out).2.2 6 p143 q143
                obtain rfl : ad133 = ad143 := (by injection e143)
                (try simp only [show (6 : Int).toNat = 6 from rfl, Nat.reduceMul, Nat.reduceEqDiff, Go.Addr.add, ↓reduceIte] at hx143_0)
                have qi143 : (6 < x7_1.length) = True := eq_true (by omega)
                (try rw [show ((6 : Int)).toNat = 6 from rfl] at hx143_0)
                replace p143 := eq_true p143
                replace q143 := eq_true q143
                obtain ⟨Ao29, co29, eo29⟩ := Kd.R_slice HO_6.out
                (first | subst eo29 | (injection eo29 with f1_ f2_ f3_; have f4_ := f1_.symm; have f5_ := f3_.symm; clear f1_ f2_ f3_; subst f4_; subst f5_))
                have p144 : 0 ≤ (x8_1 : Int) := of_decide_eq_true (by first | (with_reducible assumption) | assumption)
                have q144 : x8_1 < (t127.length : Int) := of_decide_eq_true (by first | (with_reducible assumption) | assumption)
                obtain ⟨ad144, e144, hx144_0⟩ := Kd.at_int (Kd.R_reads' HO_6.out).2.2 x8_1 p144 q144
                cases e144
                replace p144 := eq_true p144
                replace q144 := eq_true q144
                obtain ⟨Ao30, co30, eo30⟩ := Kd.R_slice HO_5.out
                (first | subst eo30 | (injection eo30 with f1_ f2_ f3_; have f4_ := f1_.symm; have f5_ := f3_.symm; clear f1_ f2_ f3_; subst f4_; subst f5_))
                have p145 : 0 ≤ (x8_1 : Int) := of_decide_eq_true (by first | (with_reducible assumption) | assumption)
                have q145 : x8_1 < (t124.length : Int) := of_decide_eq_true (by first | (with_reducible assumption) | assumption)
                obtain ⟨ad145, e145, hx145_0⟩ := Kd.at_int (Kd.R_reads' HO_5.out).2.2 x8_1 p145 q145
                cases e145
                replace p145 := eq_true p145
                replace q145 := eq_true q145
                refine start_ (n := 46) (S := fun w' => w'.cell? ⟨ad133.block, ad133.off + 7, none⟩ = some (.int .u32 (rd x7_1 7)) ∧ w'.cell? ⟨ad133.block, ad133.off + 4, none⟩ = some (.int .u32 (rd x7_1 4)) ∧ w'.cell? ⟨ad133.block, ad133.off + 4, none⟩ = some (.int .u32 (rd x7_1 4)) ∧ w'.cell? ⟨ad133.block, ad133.off + 4, none⟩ = some (.int .u32 (rd x7_1 4)) ∧ w'.cell? ⟨ad133.block, ad133.off + 4, none⟩ = some (.int .u32 (rd x7_1 4)) ∧ w'.cell? ⟨ad133.block, ad133.off + 5, none⟩ = some (.int .u32 (rd x7_1 5)) ∧ w'.cell? ⟨ad133.block, ad133.off + 4, none⟩ = some (.int .u32 (rd x7_1 4)) ∧ w'.cell? ⟨ad133.block, ad133.off + 6, none⟩ = some (.int .u32 (rd x7_1 6)) ∧ w'.cell? (ad144.add (x8_1).toNat) = some (.int .u32 (rd t127 x8_1)) ∧ w'.cell? (ad145.add (x8_1).toNat) = some (.int .u32 (rd t124 x8_1))) (ds := []) #[false, false, false, false, false, false, false, false, false, false, false, false, false, false, false, false, false, false, false, false, false, false, false, false, false, false, false, false, false, false, false, false, false, false, false, false, false, false, false, false, false, false, false, false, false, false] (by kernel_rfl) rfl rfl ⟨hx133_0, hx134_0, hx136_0, hx138_0, hx140_0, hx141_0, hx142_0, hx143_0, hx144_0, hx145_0⟩ (fun hHeld => ?_); refine with_tabW coamingref02_more.tab8 coamingref02_more.bits8 (fun HT_ HW_ => ?_)
                generalize wr.drew = w27 at HO_5 HO_6 HO_7 HB hx133_0 hx134_0 hx136_0 hx138_0 hx140_0 hx141_0 hx142_0 hx143_0 hx144_0 hx145_0 hHeld ⊢
                refine Rg.p2 0 (some 22) ?_
                refine Rg.p2 1 (some 23) ?_
                refine Rg.p2 3 (some 25) ?_
                refine Rg.p2 4 (some 26) ?_
                refine Rg.p2 7 (some 29) ?_
                refine Rg.p2 8 (some 30) ?_
                refine Rg.p2 12 (some 34) ?_
                refine Rg.p2 13 (some 35) ?_
                refine Rg.p2 18 (some 40) ?_
                refine Rg.p2 19 (some 41) ?_
                refine Rg.p2 21 (some 43) ?_
                refine Rg.p2 22 (some 44) ?_
                refine Rg.p2 25 (some 47) ?_
                refine Rg.p2 26 (some 48) ?_
                refine Rg.p2 29 (some 51) ?_
                refine Rg.p2 30 (some 52) ?_
                refine Rg.p2 35 (some 57) ?_
                refine Rg.p2 36 (some 58) ?_
                refine Rg.p2 37 (some 59) ?_
                refine Rg.p2 40 (some 62) ?_
                refine Rg.p2 41 (some 63) ?_
                refine Rg.p2 42 (some 64) ?_
                refine Rg.t2 2 (some 24) hHeld ?_ (hy := by rintro w' ⟨s0, s1, s2, s3, s4, s5, s6, s7, s8, s9⟩; go_simp; with_reducible rfl)
                refine Rg.t2 5 (some 27) hHeld ?_ (hy := by rintro w' ⟨s0, s1, s2, s3, s4, s5, s6, s7, s8, s9⟩; go_simp; with_reducible rfl)
                refine Rg.t2 9 (some 31) hHeld ?_ (hy := by rintro w' ⟨s0, s1, s2, s3, s4, s5, s6, s7, s8, s9⟩; go_simp; with_reducible rfl)
                refine Rg.t2 14 (some 36) hHeld ?_ (hy := by rintro w' ⟨s0, s1, s2, s3, s4, s5, s6, s7, s8, s9⟩; go_simp; with_reducible rfl)
                refine Rg.t2 20 (some 42) hHeld ?_ (hy := by rintro w' ⟨s0, s1, s2, s3, s4, s5, s6, s7, s8, s9⟩; go_simp; with_reducible rfl)
                refine Rg.t2 23 (some 45) hHeld ?_ (hy := by rintro w' ⟨s0, s1, s2, s3, s4, s5, s6, s7, s8, s9⟩; go_simp; with_reducible rfl)
                refine Rg.p2 24 (some 46) ?_
                refine Rg.t2 27 (some 49) hHeld ?_ (hy := by rintro w' ⟨s0, s1, s2, s3, s4, s5, s6, s7, s8, s9⟩; go_simp; with_reducible rfl)
                refine Rg.p2 28 (some 50) ?_
                refine Rg.t2 31 (some 53) hHeld ?_ (hy := by rintro w' ⟨s0, s1, s2, s3, s4, s5, s6, s7, s8, s9⟩; go_simp; with_reducible rfl)
                refine Rg.p2 32 (some 54) ?_
                refine Rg.p2 33 (some 55) ?_
                refine Rg.t2 38 (some 60) hHeld ?_ (hy := by rintro w' ⟨s0, s1, s2, s3, s4, s5, s6, s7, s8, s9⟩; go_simp; with_reducible rfl)
                refine Rg.t2 43 (some 65) hHeld ?_ (hy := by rintro w' ⟨s0, s1, s2, s3, s4, s5, s6, s7, s8, s9⟩; go_simp; with_reducible rfl)
                refine one_ (i := 6) (N := some 28) #[true, true, true, true, true, true, true, true, true, true, false, false, true, true, true, false, false, false, true, true, true, true, true, true, true, true, true, true, true, true, true, true, true, true, false, true, true, true, true, false, true, true, true, true, false, false] rfl rfl (one_of HT_.out (by kernel_rfl)) (by decide) (fun K hK => ?_)
                refine goes_ Tryd.func76 (by kernel_rfl) rfl #[.int .u32 (rd x7_1 4), .int .i64 6] (by rfl) rfl rfl (by (try simp only [List.map_toArray, List.map_cons, List.map_nil]); first | done | rfl | (simp only [List.length_drop, List.length_take]; rfl) | (simp only [List.length_drop, List.length_take]; (repeat rw [Nat.min_eq_left (by simp only [eq_iff_iff, iff_true] at *; omega)]); rfl)) ?_
                with_reducible refine (coamingref02_ror.calls (rd x7_1 4) 6 t135 _ A12.out).mono ?_
                rintro e w' ⟨rfl, ⟨nd, rfl⟩⟩
                refine ⟨_, rfl, ?_⟩
                refine hK.out _ _ ⟨hHeld.1, hHeld.2.1, hHeld.2.2.1, hHeld.2.2.2.1, hHeld.2.2.2.2.1, hHeld.2.2.2.2.2.1, hHeld.2.2.2.2.2.2.1, hHeld.2.2.2.2.2.2.2.1, hHeld.2.2.2.2.2.2.2.2.1, hHeld.2.2.2.2.2.2.2.2.2⟩ (fun hHeld => ?_)
                clear hK K
                refine norm_ (a' := ?_) ?_ ?_
                rotate_left
                ·show Act.put _ (some 28) _ = _
                 simp only [Act.put, List.setIfInBounds_toArray, List.set_cons_zero, List.set_cons_succ, i64_w, i32_w]
                 rfl
                refine one_ (i := 10) (N := some 32) #[true, true, true, true, true, true, true, true, true, true, true, false, true, true, true, false, false, false, true, true, true, true, true, true, true, true, true, true, true, true, true, true, true, true, false, true, true, true, true, false, true, true, true, true, false, false] rfl rfl (one_of HT_.out (by kernel_rfl)) (by decide) (fun K hK => ?_)
                refine goes_ Tryd.func76 (by kernel_rfl) rfl #[.int .u32 (rd x7_1 4), .int .i64 11] (by rfl) rfl rfl (by (try simp only [List.map_toArray, List.map_cons, List.map_nil]); first | done | rfl | (simp only [List.length_drop, List.length_take]; rfl) | (simp only [List.length_drop, List.length_take]; (repeat rw [Nat.min_eq_left (by simp only [eq_iff_iff, iff_true] at *; omega)]); rfl)) ?_
                with_reducible refine (coamingref02_ror.calls (rd x7_1 4) 11 t137 _ A13.out).mono ?_
                rintro e w' ⟨rfl, ⟨nd, rfl⟩⟩
                refine ⟨_, rfl, ?_⟩
                refine hK.out _ _ ⟨hHeld.1, hHeld.2.1, hHeld.2.2.1, hHeld.2.2.2.1, hHeld.2.2.2.2.1, hHeld.2.2.2.2.2.1, hHeld.2.2.2.2.2.2.1, hHeld.2.2.2.2.2.2.2.1, hHeld.2.2.2.2.2.2.2.2.1, hHeld.2.2.2.2.2.2.2.2.2⟩ (fun hHeld => ?_)
                clear hK K
                refine norm_ (a' := ?_) ?_ ?_
                rotate_left
                ·show Act.put _ (some 32) _ = _
                 simp only [Act.put, List.setIfInBounds_toArray, List.set_cons_zero, List.set_cons_succ, i64_w, i32_w]
                 rfl
                refine Rg.p2 11 (some 33) ?_
                refine one_ (i := 15) (N := some 37) #[true, true, true, true, true, true, true, true, true, true, true, true, true, true, true, true, false, false, true, true, true, true, true, true, true, true, true, true, true, true, true, true, true, true, false, true, true, true, true, false, true, true, true, true, false, false] rfl rfl (one_of HT_.out (by kernel_rfl)) (by decide) (fun K hK => ?_)
                refine goes_ Tryd.func76 (by kernel_rfl) rfl #[.int .u32 (rd x7_1 4), .int .i64 25] (by rfl) rfl rfl (by (try simp only [List.map_toArray, List.map_cons, List.map_nil]); first | done | rfl | (simp only [List.length_drop, List.length_take]; rfl) | (simp only [List.length_drop, List.length_take]; (repeat rw [Nat.min_eq_left (by simp only [eq_iff_iff, iff_true] at *; omega)]); rfl)) ?_
                with_reducible refine (coamingref02_ror.calls (rd x7_1 4) 25 t139 _ A14.out).mono ?_
                rintro e w' ⟨rfl, ⟨nd, rfl⟩⟩
                refine ⟨_, rfl, ?_⟩
                refine hK.out _ _ ⟨hHeld.1, hHeld.2.1, hHeld.2.2.1, hHeld.2.2.2.1, hHeld.2.2.2.2.1, hHeld.2.2.2.2.2.1, hHeld.2.2.2.2.2.2.1, hHeld.2.2.2.2.2.2.2.1, hHeld.2.2.2.2.2.2.2.2.1, hHeld.2.2.2.2.2.2.2.2.2⟩ (fun hHeld => ?_)
                clear hK K
                refine norm_ (a' := ?_) ?_ ?_
                rotate_left
                ·show Act.put _ (some 37) _ = _
                 simp only [Act.put, List.setIfInBounds_toArray, List.set_cons_zero, List.set_cons_succ, i64_w, i32_w]
                 rfl
                refine Rg.p2 16 (some 38) ?_
                refine Rg.p2 17 (some 39) ?_
                refine Rg.p2 34 (some 56) ?_
                refine Rg.p2 39 (some 61) ?_
                refine Rg.p2 44 (some 66) ?_
                refine Rg.p2 45 (some 9) ?_
                refine done_ (done_of HT_.out (by kernel_rfl)) ?_
                try go_wp2
                (try (rw [drewN_self w27]; generalize hq_ : World.drewN w27 _ = w27; have n0_ : Aside0 (Kd.R (Kd.int .u32) 33 w27 w.heap.size (fun k_ => some k_ ≠ (.slice (some ad144) t127.length co29 : Value).ownBlock ∧ some k_ ≠ (.slice (some ad133) x7_1.length co28 : Value).ownBlock) (.slice (some ad145) t124.length co30) t124) := ⟨by rw [← hq_]; exact (by (with_reducible repeat (first | apply Kd.R_alloc | apply Kd.R_drewN | apply Kd.R_drew)); exact HO_5.out)⟩; have n1_ : Aside0 (Kd.R (Kd.int .u32) 33 w27 w.heap.size (fun k_ => some k_ ≠ (.slice (some ad145) t124.length co30 : Value).ownBlock ∧ some k_ ≠ (.slice (some ad133) x7_1.length co28 : Value).ownBlock) (.slice (some ad144) t127.length co29) t127) := ⟨by rw [← hq_]; exact (by (with_reducible repeat (first | apply Kd.R_alloc | apply Kd.R_drewN | apply Kd.R_drew)); exact HO_6.out)⟩; have n2_ : Aside0 (Kd.R (Kd.int .u32) 33 w27 w.heap.size (fun k_ => some k_ ≠ (.slice (some ad145) t124.length co30 : Value).ownBlock ∧ some k_ ≠ (.slice (some ad144) t127.length co29 : Value).ownBlock) (.slice (some ad133) x7_1.length co28) x7_1) := ⟨by rw [← hq_]; exact (by (with_reducible repeat (first | apply Kd.R_alloc | apply Kd.R_drewN | apply Kd.R_drew)); exact HO_7.out)⟩; have n3_ : Aside0 (Below w.heap.size w w27) := ⟨by rw [← hq_]; exact (by repeat (first | (with_reducible first | exact HB.out | apply below_alloc | apply pw_below_drewN | apply below_drew1) | exact HB.out))⟩; clear HO_5 HO_6 HO_7 HB hq_; have HO_5 := n0_; have HO_6 := n1_; have HO_7 := n2_; have HB := n3_; clear n0_ n1_ n2_ n3_))
                have n0_ := Aside0.mk (Kd.R_drew HO_5.out)
                have n1_ := Aside0.mk (Kd.R_drew HO_6.out)
                have n2_ := Aside0.mk (Kd.R_drew HO_7.out)
                have n3_ := Aside0.mk (below_drew1 HB.out)
                clear HO_5
                clear HO_6
                clear HO_7
                clear HB
                have HO_5 := n0_
                have HO_6 := n1_
                have HO_7 := n2_
                have HB := n3_
                clear n0_ n1_ n2_ n3_
                have p146 : 0 ≤ (0 : Int) := (by omega)
                have q146 : 0 < (x7_1.length : Int) := of_decide_eq_true (by first | (with_reducible assumption) | assumption)
                obtain ⟨ad146, e146, hx146_0⟩ := Kd.at_int (Kd.R_reads' HO_7.out).2.2 0 p146 q146
                obtain rfl : ad133 = ad146 := (by injection e146)
                have qi146 : (0 < x7_1.length) = True := eq_true (by omega)
                (try rw [show ((0 : Int)).toNat = 0 from rfl] at hx146_0)
                (try rw [Addr.add_zero'] at hx146_0)
                replace p146 := eq_true p146
                replace q146 := eq_true q146
                have p148 : 0 ≤ (0 : Int) := (by omega)
                have q148 : 0 < (x7_1.length : Int) := of_decide_eq_true (by first | (with_reducible assumption) | assumption)
                obtain ⟨ad148, e148, hx148_0⟩ := Kd.at_int (Kd.R_reads' HO_7.out).2.2 0 p148 q148
                obtain rfl : ad133 = ad148 := (by injection e148)
                have qi148 : (0 < x7_1.length) = True := eq_true (by omega)
                (try rw [show ((0 : Int)).toNat = 0 from rfl] at hx148_0)
                (try rw [Addr.add_zero'] at hx148_0)
                replace p148 := eq_true p148
                replace q148 := eq_true q148
                have p150 : 0 ≤ (0 : Int) := (by omega)
                have q150 : 0 < (x7_1.length : Int) := of_decide_eq_true (by first | (with_reducible assumption) | assumption)
                obtain ⟨ad150, e150, hx150_0⟩ := Kd.at_int (Kd.R_reads' HO_7.out).2.2 0 p150 q150
                obtain rfl : ad133 = ad150 := (by injection e150)
                have qi150 : (0 < x7_1.length) = True := eq_true (by omega)
                (try rw [show ((0 : Int)).toNat = 0 from rfl] at hx150_0)
                (try rw [Addr.add_zero'] at hx150_0)
                replace p150 := eq_true p150
                replace q150 := eq_true q150
                have p152 : 0 ≤ (0 : Int) := (by omega)
                have q152 : 0 < (x7_1.length : Int) := of_decide_eq_true (by first | (with_reducible assumption) | assumption)
                obtain ⟨ad152, e152, hx152_0⟩ := Kd.at_int (Kd.R_reads' HO_7.out).2.2 0 p152 q152
                obtain rfl : ad133 = ad152 := (by injection e152)
                have qi152 : (0 < x7_1.length) = True := eq_true (by omega)
                (try rw [show ((0 : Int)).toNat = 0 from rfl] at hx152_0)
                (try rw [Addr.add_zero'] at hx152_0)
                replace p152 := eq_true p152
                replace q152 := eq_true q152
                have p153 : 0 ≤ (1 : Int) := (by omega)
                have q153 : 1 < (x7_1.length : Int) := of_decide_eq_true (by first | (with_reducible assumption) | assumption)
                obtain ⟨ad153, e153, hx153_0⟩ := Kd.at_int (Kd.R_reads' HO_7.out).2.2 1 p153 q153
                obtain rfl : ad133 = ad153 := (by injection e153)
                (try simp only [show (1 : Int).toNat = 1 from rfl, Nat.reduceMul, Nat.reduceEqDiff, Go.Addr.add, ↓reduceIte] at hx153_0)
                have qi153 : (1 < x7_1.length) = True := eq_true (by omega)
                (try rw [show ((1 : Int)).toNat = 1 from rfl] at hx153_0)
                replace p153 := eq_true p153
                replace q153 := eq_true q153
                have p154 : 0 ≤ (0 : Int) := (by omega)
                have q154 : 0 < (x7_1.length : Int) := of_decide_eq_true (by first | (with_reducible assumption) | assumption)
                obtain ⟨ad154, e154, hx154_0⟩ := Kd.at_int (Kd.R_reads' HO_7.out).2.2 0 p154 q154
                obtain rfl : ad133 = ad154 := (by injection e154)
                have qi154 : (0 < x7_1.length) = True := eq_true (by omega)
                (try rw [show ((0 : Int)).toNat = 0 from rfl] at hx154_0)
                (try rw [Addr.add_zero'] at hx154_0)
                replace p154 := eq_true p154
                replace q154 := eq_true q154
                have p155 : 0 ≤ (2 : Int) := (by omega)
                have q155 : 2 < (x7_1.length : Int) := of_decide_eq_true (by first | (with_reducible assumption) | assumption)
                obtain ⟨ad155, e155, hx155_0⟩ := Kd.at_int (Kd.R_reads' HO_7.out).2.2 2 p155 q155
                obtain rfl : ad133 = ad155 := (by injection e155)
                (try simp only [show (2 : Int).toNat = 2 from rfl, Nat.reduceMul, Nat.reduceEqDiff, Go.Addr.add, ↓reduceIte] at hx155_0)
                have qi155 : (2 < x7_1.length) = True := eq_true (by omega)
                (try rw [show ((2 : Int)).toNat = 2 from rfl] at hx155_0)
                replace p155 := eq_true p155
                replace q155 := eq_true q155
                have p156 : 0 ≤ (1 : Int) := (by omega)
                have q156 : 1 < (x7_1.length : Int) := of_decide_eq_true (by first | (with_reducible assumption) | assumption)
                obtain ⟨ad156, e156, hx156_0⟩ := Kd.at_int (Kd.R_reads' HO_7.out).2.2 1 p156 q156
                obtain rfl : ad133 = ad156 := (by injection e156)
                (try simp only [show (1 : Int).toNat = 1 from rfl, Nat.reduceMul, Nat.reduceEqDiff, Go.Addr.add, ↓reduceIte] at hx156_0)
                have qi156 : (1 < x7_1.length) = True := eq_true (by omega)
                (try rw [show ((1 : Int)).toNat = 1 from rfl] at hx156_0)
                replace p156 := eq_true p156
                replace q156 := eq_true q156
                have p157 : 0 ≤ (2 : Int) := (by omega)
                have q157 : 2 < (x7_1.length : Int) := of_decide_eq_true (by first | (with_reducible assumption) | assumption)
                obtain ⟨ad157, e157, hx157_0⟩ := Kd.at_int (Kd.R_reads' HO_7.out).2.2 2 p157 q157
                obtain rfl : ad133 = ad157 := (by injection e157)
                (try simp only [show (2 : Int).toNat = 2 from rfl, Nat.reduceMul, Nat.reduceEqDiff, Go.Addr.add, ↓reduceIte] at hx157_0)
                have qi157 : (2 < x7_1.length) = True := eq_true (by omega)
                (try rw [show ((2 : Int)).toNat = 2 from rfl] at hx157_0)
                replace p157 := eq_true p157
                replace q157 := eq_true q157
                refine start_ (n := 39) (S := fun w' => w'.cell? ad133 = some (.int .u32 (rd x7_1 0)) ∧ w'.cell? ad133 = some (.int .u32 (rd x7_1 0)) ∧ w'.cell? ad133 = some (.int .u32 (rd x7_1 0)) ∧ w'.cell? ad133 = some (.int .u32 (rd x7_1 0)) ∧ w'.cell? ⟨ad133.block, ad133.off + 1, none⟩ = some (.int .u32 (rd x7_1 1)) ∧ w'.cell? ad133 = some (.int .u32 (rd x7_1 0)) ∧ w'.cell? ⟨ad133.block, ad133.off + 2, none⟩ = some (.int .u32 (rd x7_1 2)) ∧ w'.cell? ⟨ad133.block, ad133.off + 1, none⟩ = some (.int .u32 (rd x7_1 1)) ∧ w'.cell? ⟨ad133.block, ad133.off + 2, none⟩ = some (.int .u32 (rd x7_1 2))) (ds := []) #[false, false, false, false, false, false, false, false, false, false, false, false, false, false, false, false, false, false, false, false, false, false, false, false, false, false, false, false, false, false, false, false, false, false, false, false, false, false, false] (by kernel_rfl) rfl rfl ⟨hx146_0, hx148_0, hx150_0, hx152_0, hx153_0, hx154_0, hx155_0, hx156_0, hx157_0⟩ (fun hHeld => ?_); refine with_tabW coamingref02_more.tab9 coamingref02_more.bits9 (fun HT_ HW_ => ?_)
                generalize w27.drew = w31 at HO_5 HO_6 HO_7 HB hx146_0 hx148_0 hx150_0 hx152_0 hx153_0 hx154_0 hx155_0 hx156_0 hx157_0 hHeld ⊢
                refine Rg.p2 0 (some 67) ?_
                refine Rg.p2 1 (some 68) ?_
                refine Rg.p2 4 (some 71) ?_
                refine Rg.p2 5 (some 72) ?_
                refine Rg.p2 9 (some 76) ?_
                refine Rg.p2 10 (some 77) ?_
                refine Rg.p2 14 (some 81) ?_
                refine Rg.p2 15 (some 82) ?_
                refine Rg.p2 17 (some 84) ?_
                refine Rg.p2 18 (some 85) ?_
                refine Rg.p2 21 (some 88) ?_
                refine Rg.p2 22 (some 89) ?_
                refine Rg.p2 24 (some 91) ?_
                refine Rg.p2 25 (some 92) ?_
                refine Rg.p2 29 (some 96) ?_
                refine Rg.p2 30 (some 97) ?_
                refine Rg.p2 32 (some 99) ?_
                refine Rg.p2 33 (some 100) ?_
                refine Rg.t2 2 (some 69) hHeld ?_ (hy := by rintro w' ⟨s0, s1, s2, s3, s4, s5, s6, s7, s8⟩; go_simp; with_reducible rfl)
                refine Rg.t2 6 (some 73) hHeld ?_ (hy := by rintro w' ⟨s0, s1, s2, s3, s4, s5, s6, s7, s8⟩; go_simp; with_reducible rfl)
                refine Rg.t2 11 (some 78) hHeld ?_ (hy := by rintro w' ⟨s0, s1, s2, s3, s4, s5, s6, s7, s8⟩; go_simp; with_reducible rfl)
                refine Rg.t2 16 (some 83) hHeld ?_ (hy := by rintro w' ⟨s0, s1, s2, s3, s4, s5, s6, s7, s8⟩; go_simp; with_reducible rfl)
                refine Rg.t2 19 (some 86) hHeld ?_ (hy := by rintro w' ⟨s0, s1, s2, s3, s4, s5, s6, s7, s8⟩; go_simp; with_reducible rfl)
                refine Rg.p2 20 (some 87) ?_
                refine Rg.t2 23 (some 90) hHeld ?_ (hy := by rintro w' ⟨s0, s1, s2, s3, s4, s5, s6, s7, s8⟩; go_simp; with_reducible rfl)
                refine Rg.t2 26 (some 93) hHeld ?_ (hy := by rintro w' ⟨s0, s1, s2, s3, s4, s5, s6, s7, s8⟩; go_simp; with_reducible rfl)
                refine Rg.p2 27 (some 94) ?_
                refine Rg.p2 28 (some 95) ?_
                refine Rg.t2 31 (some 98) hHeld ?_ (hy := by rintro w' ⟨s0, s1, s2, s3, s4, s5, s6, s7, s8⟩; go_simp; with_reducible rfl)
                refine Rg.t2 34 (some 101) hHeld ?_ (hy := by rintro w' ⟨s0, s1, s2, s3, s4, s5, s6, s7, s8⟩; go_simp; with_reducible rfl)
                refine Rg.p2 35 (some 102) ?_
                refine Rg.p2 36 (some 103) ?_
                refine one_ (i := 3) (N := some 70) #[true, true, true, true, true, true, true, false, false, true, true, true, false, false, true, true, true, true, true, true, true, true, true, true, true, true, true, true, true, true, true, true, true, true, true, true, true, false, false] rfl rfl (one_of HT_.out (by kernel_rfl)) (by decide) (fun K hK => ?_)
                refine goes_ Tryd.func76 (by kernel_rfl) rfl #[.int .u32 (rd x7_1 0), .int .i64 2] (by rfl) rfl rfl (by (try simp only [List.map_toArray, List.map_cons, List.map_nil]); first | done | rfl | (simp only [List.length_drop, List.length_take]; rfl) | (simp only [List.length_drop, List.length_take]; (repeat rw [Nat.min_eq_left (by simp only [eq_iff_iff, iff_true] at *; omega)]); rfl)) ?_
                with_reducible refine (coamingref02_ror.calls (rd x7_1 0) 2 t147 _ A21.out).mono ?_
                rintro e w' ⟨rfl, ⟨nd, rfl⟩⟩
                refine ⟨_, rfl, ?_⟩
                refine hK.out _ _ ⟨hHeld.1, hHeld.2.1, hHeld.2.2.1, hHeld.2.2.2.1, hHeld.2.2.2.2.1, hHeld.2.2.2.2.2.1, hHeld.2.2.2.2.2.2.1, hHeld.2.2.2.2.2.2.2.1, hHeld.2.2.2.2.2.2.2.2⟩ (fun hHeld => ?_)
                clear hK K
                refine norm_ (a' := ?_) ?_ ?_
                rotate_left
                ·show Act.put _ (some 70) _ = _
                 simp only [Act.put, List.setIfInBounds_toArray, List.set_cons_zero, List.set_cons_succ, i64_w, i32_w]
                 rfl
                refine one_ (i := 7) (N := some 74) #[true, true, true, true, true, true, true, true, false, true, true, true, false, false, true, true, true, true, true, true, true, true, true, true, true, true, true, true, true, true, true, true, true, true, true, true, true, false, false] rfl rfl (one_of HT_.out (by kernel_rfl)) (by decide) (fun K hK => ?_)
                refine goes_ Tryd.func76 (by kernel_rfl) rfl #[.int .u32 (rd x7_1 0), .int .i64 13] (by rfl) rfl rfl (by (try simp only [List.map_toArray, List.map_cons, List.map_nil]); first | done | rfl | (simp only [List.length_drop, List.length_take]; rfl) | (simp only [List.length_drop, List.length_take]; (repeat rw [Nat.min_eq_left (by simp only [eq_iff_iff, iff_true] at *; omega)]); rfl)) ?_
                with_reducible refine (coamingref02_ror.calls (rd x7_1 0) 13 t149 _ A22.out).mono ?_
                rintro e w' ⟨rfl, ⟨nd, rfl⟩⟩
                refine ⟨_, rfl, ?_⟩
                refine hK.out _ _ ⟨hHeld.1, hHeld.2.1, hHeld.2.2.1, hHeld.2.2.2.1, hHeld.2.2.2.2.1, hHeld.2.2.2.2.2.1, hHeld.2.2.2.2.2.2.1, hHeld.2.2.2.2.2.2.2.1, hHeld.2.2.2.2.2.2.2.2⟩ (fun hHeld => ?_)
                clear hK K
                refine norm_ (a' := ?_) ?_ ?_
                rotate_left
                ·show Act.put _ (some 74) _ = _
                 simp only [Act.put, List.setIfInBounds_toArray, List.set_cons_zero, List.set_cons_succ, i64_w, i32_w]
                 rfl
                refine Rg.p2 8 (some 75) ?_
                refine one_ (i := 12) (N := some 79) #[true, true, true, true, true, true, true, true, true, true, true, true, true, false, true, true, true, true, true, true, true, true, true, true, true, true, true, true, true, true, true, true, true, true, true, true, true, false, false] rfl rfl (one_of HT_.out (by kernel_rfl)) (by decide) (fun K hK => ?_)
                refine goes_ Tryd.func76 (by kernel_rfl) rfl #[.int .u32 (rd x7_1 0), .int .i64 22] (by rfl) rfl rfl (by (try simp only [List.map_toArray, List.map_cons, List.map_nil]); first | done | rfl | (simp only [List.length_drop, List.length_take]; rfl) | (simp only [List.length_drop, List.length_take]; (repeat rw [Nat.min_eq_left (by simp only [eq_iff_iff, iff_true] at *; omega)]); rfl)) ?_
                with_reducible refine (coamingref02_ror.calls (rd x7_1 0) 22 t151 _ A23.out).mono ?_
                rintro e w' ⟨rfl, ⟨nd, rfl⟩⟩
                refine ⟨_, rfl, ?_⟩
                refine hK.out _ _ ⟨hHeld.1, hHeld.2.1, hHeld.2.2.1, hHeld.2.2.2.1, hHeld.2.2.2.2.1, hHeld.2.2.2.2.2.1, hHeld.2.2.2.2.2.2.1, hHeld.2.2.2.2.2.2.2.1, hHeld.2.2.2.2.2.2.2.2⟩ (fun hHeld => ?_)
                clear hK K
                refine norm_ (a' := ?_) ?_ ?_
                rotate_left
                ·show Act.put _ (some 79) _ = _
                 simp only [Act.put, List.setIfInBounds_toArray, List.set_cons_zero, List.set_cons_succ, i64_w, i32_w]
                 rfl
                refine Rg.p2 13 (some 80) ?_
                refine Rg.p2 37 (some 104) ?_
                refine Rg.p2 38 (some 10) ?_
                refine done_ (done_of HT_.out (by kernel_rfl)) ?_
                try go_wp2
                (try (rw [drewN_self w31]; generalize hq_ : World.drewN w31 _ = w31; have n0_ : Aside0 (Kd.R (Kd.int .u32) 33 w31 w.heap.size (fun k_ => some k_ ≠ (.slice (some ad144) t127.length co29 : Value).ownBlock ∧ some k_ ≠ (.slice (some ad133) x7_1.length co28 : Value).ownBlock) (.slice (some ad145) t124.length co30) t124) := ⟨by rw [← hq_]; exact (by (with_reducible repeat (first | apply Kd.R_alloc | apply Kd.R_drewN | apply Kd.R_drew)); exact HO_5.out)⟩; have n1_ : Aside0 (Kd.R (Kd.int .u32) 33 w31 w.heap.size (fun k_ => some k_ ≠ (.slice (some ad145) t124.length co30 : Value).ownBlock ∧ some k_ ≠ (.slice (some ad133) x7_1.length co28 : Value).ownBlock) (.slice (some ad144) t127.length co29) t127) := ⟨by rw [← hq_]; exact (by (with_reducible repeat (first | apply Kd.R_alloc | apply Kd.R_drewN | apply Kd.R_drew)); exact HO_6.out)⟩; have n2_ : Aside0 (Kd.R (Kd.int .u32) 33 w31 w.heap.size (fun k_ => some k_ ≠ (.slice (some ad145) t124.length co30 : Value).ownBlock ∧ some k_ ≠ (.slice (some ad144) t127.length co29 : Value).ownBlock) (.slice (some ad133) x7_1.length co28) x7_1) := ⟨by rw [← hq_]; exact (by (with_reducible repeat (first | apply Kd.R_alloc | apply Kd.R_drewN | apply Kd.R_drew)); exact HO_7.out)⟩; have n3_ : Aside0 (Below w.heap.size w w31) := ⟨by rw [← hq_]; exact (by repeat (first | (with_reducible first | exact HB.out | apply below_alloc | apply pw_below_drewN | apply below_drew1) | exact HB.out))⟩; clear HO_5 HO_6 HO_7 HB hq_; have HO_5 := n0_; have HO_6 := n1_; have HO_7 := n2_; have HB := n3_; clear n0_ n1_ n2_ n3_))
                have n0_ := Aside0.mk (Kd.R_drew HO_5.out)
                have n1_ := Aside0.mk (Kd.R_drew HO_6.out)
                have n2_ := Aside0.mk (Kd.R_drew HO_7.out)
                have n3_ := Aside0.mk (below_drew1 HB.out)
                clear HO_5
                clear HO_6
                clear HO_7
                clear HB
                have HO_5 := n0_
                have HO_6 := n1_
                have HO_7 := n2_
                have HB := n3_
                clear n0_ n1_ n2_ n3_
                have p158 : 0 ≤ (0 : Int) := (by omega)
                have q158 : 0 < (x7_1.length : Int) := of_decide_eq_true (by first | (with_reducible assumption) | assumption)
                obtain ⟨ad158, e158, hx158_0⟩ := Kd.at_int (Kd.R_reads' HO_7.out).2.2 0 p158 q158
                obtain rfl : ad133 = ad158 := (by injection e158)
                have qi158 : (0 < x7_1.length) = True := eq_true (by omega)
                (try rw [show ((0 : Int)).toNat = 0 from rfl] at hx158_0)
                (try rw [Addr.add_zero'] at hx158_0)
                replace p158 := eq_true p158
                replace q158 := eq_true q158
                have p159 : 0 ≤ (1 : Int) := (by omega)
                have q159 : 1 < (x7_1.length : Int) := of_decide_eq_true (by first | (with_reducible assumption) | assumption)
                obtain ⟨ad159, e159, hx159_0⟩ := Kd.at_int (Kd.R_reads' HO_7.out).2.2 1 p159 q159
                obtain rfl : ad133 = ad159 := (by injection e159)
                (try simp only [show (1 : Int).toNat = 1 from rfl, Nat.reduceMul, Nat.reduceEqDiff, Go.Addr.add, ↓reduceIte] at hx159_0)
                have qi159 : (1 < x7_1.length) = True := eq_true (by omega)
                (try rw [show ((1 : Int)).toNat = 1 from rfl] at hx159_0)
                replace p159 := eq_true p159
                replace q159 := eq_true q159
                have p160 : 0 ≤ (2 : Int) := (by omega)
                have q160 : 2 < (x7_1.length : Int) := of_decide_eq_true (by first | (with_reducible assumption) | assumption)
                obtain ⟨ad160, e160, hx160_0⟩ := Kd.at_int (Kd.R_reads' HO_7.out).2.2 2 p160 q160
                obtain rfl : ad133 = ad160 := (by injection e160)
                (try simp only [show (2 : Int).toNat = 2 from rfl, Nat.reduceMul, Nat.reduceEqDiff, Go.Addr.add, ↓reduceIte] at hx160_0)
                have qi160 : (2 < x7_1.length) = True := eq_true (by omega)
                (try rw [show ((2 : Int)).toNat = 2 from rfl] at hx160_0)
                replace p160 := eq_true p160
                replace q160 := eq_true q160
                have p161 : 0 ≤ (3 : Int) := (by omega)
                have q161 : 3 < (x7_1.length : Int) := of_decide_eq_true (by first | (with_reducible assumption) | assumption)
                obtain ⟨ad161, e161, hx161_0⟩ := Kd.at_int (Kd.R_reads' HO_7.out).2.2 3 p161 q161
                obtain rfl : ad133 = ad161 := (by injection e161)
                (try simp only [show (3 : Int).toNat = 3 from rfl, Nat.reduceMul, Nat.reduceEqDiff, Go.Addr.add, ↓reduceIte] at hx161_0)
                have qi161 : (3 < x7_1.length) = True := eq_true (by omega)
                (try rw [show ((3 : Int)).toNat = 3 from rfl] at hx161_0)
                replace p161 := eq_true p161
                replace q161 := eq_true q161
                have p162 : 0 ≤ (4 : Int) := (by omega)
                have q162 : 4 < (x7_1.length : Int) := of_decide_eq_true (by first | (with_reducible assumption) | assumption)
                obtain ⟨ad162, e162, hx162_0⟩ := Kd.at_int (Kd.R_reads' HO_7.out).2.2 4 p162 q162
                obtain rfl : ad133 = ad162 := (by injection e162)
                (try simp only [show (4 : Int).toNat = 4 from rfl, Nat.reduceMul, Nat.reduceEqDiff, Go.Addr.add, ↓reduceIte] at hx162_0)
                have qi162 : (4 < x7_1.length) = True := eq_true (by omega)
                (try rw [show ((4 : Int)).toNat = 4 from rfl] at hx162_0)
                replace p162 := eq_true p162
                replace q162 := eq_true q162
                have p163 : 0 ≤ (5 : Int) := (by omega)
                have q163 : 5 < (x7_1.length : Int) := of_decide_eq_true (by first | (with_reducible assumption) | assumption)
                obtain ⟨ad163, e163, hx163_0⟩ := Kd.at_int (Kd.R_reads' HO_7.out).2.2 5 p163 q163
                obtain rfl : ad133 = ad163 := (by injection e163)
                (try simp only [show (5 : Int).toNat = 5 from rfl, Nat.reduceMul, Nat.reduceEqDiff, Go.Addr.add, ↓reduceIte] at hx163_0)
                have qi163 : (5 < x7_1.length) = True := eq_true (by omega)
                (try rw [show ((5 : Int)).toNat = 5 from rfl] at hx163_0)
                replace p163 := eq_true p163
                replace q163 := eq_true q163
                have p164 : 0 ≤ (6 : Int) := (by omega)
                have q164 : 6 < (x7_1.length : Int) := of_decide_eq_true (by first | (with_reducible assumption) | assumption)
                obtain ⟨ad164, e164, hx164_0⟩ := Kd.at_int (Kd.R_reads' HO_7.out).2.2 6 p164 q164
                obtain rfl : ad133 = ad164 := (by injection e164)
                (try simp only [show (6 : Int).toNat = 6 from rfl, Nat.reduceMul, Nat.reduceEqDiff, Go.Addr.add, ↓reduceIte] at hx164_0)
                have qi164 : (6 < x7_1.length) = True := eq_true (by omega)
                (try rw [show ((6 : Int)).toNat = 6 from rfl] at hx164_0)
                replace p164 := eq_true p164
                replace q164 := eq_true q164
                refine start_ (n := 28) (S := fun w' => w'.cell? ad133 = some (.int .u32 (rd x7_1 0)) ∧ w'.cell? ⟨ad133.block, ad133.off + 1, none⟩ = some (.int .u32 (rd x7_1 1)) ∧ w'.cell? ⟨ad133.block, ad133.off + 2, none⟩ = some (.int .u32 (rd x7_1 2)) ∧ w'.cell? ⟨ad133.block, ad133.off + 3, none⟩ = some (.int .u32 (rd x7_1 3)) ∧ w'.cell? ⟨ad133.block, ad133.off + 4, none⟩ = some (.int .u32 (rd x7_1 4)) ∧ w'.cell? ⟨ad133.block, ad133.off + 5, none⟩ = some (.int .u32 (rd x7_1 5)) ∧ w'.cell? ⟨ad133.block, ad133.off + 6, none⟩ = some (.int .u32 (rd x7_1 6))) (ds := []) #[false, false, false, false, false, false, false, false, false, false, false, false, false, false, false, false, false, false, false, false, false, false, false, false, false, false, false, false] (by kernel_rfl) rfl rfl ⟨hx158_0, hx159_0, hx160_0, hx161_0, hx162_0, hx163_0, hx164_0⟩ (fun hHeld => ?_); refine with_tabW coamingref02_more.tab10 coamingref02_more.bits10 (fun HT_ HW_ => ?_)
                generalize w31.drew = w32 at HO_5 HO_6 HO_7 HB hx158_0 hx159_0 hx160_0 hx161_0 hx162_0 hx163_0 hx164_0 hHeld ⊢
                refine Rg.p2 0 (some 105) ?_
                refine Rg.p2 1 (some 106) ?_
                refine Rg.p2 2 (some 107) ?_
                refine Rg.p2 3 (some 108) ?_
                refine Rg.p2 4 (some 109) ?_
                refine Rg.p2 6 (some 111) ?_
                refine Rg.p2 7 (some 112) ?_
                refine Rg.p2 9 (some 114) ?_
                refine Rg.p2 10 (some 115) ?_
                refine Rg.p2 12 (some 117) ?_
                refine Rg.p2 13 (some 118) ?_
                refine Rg.p2 15 (some 120) ?_
                refine Rg.p2 17 (some 122) ?_
                refine Rg.p2 18 (some 123) ?_
                refine Rg.p2 20 (some 125) ?_
                refine Rg.p2 21 (some 126) ?_
                refine Rg.p2 23 (some 128) ?_
                refine Rg.p2 24 (some 129) ?_
                refine Rg.t2 5 (some 110) hHeld ?_ (hy := by rintro w' ⟨s0, s1, s2, s3, s4, s5, s6⟩; go_simp; with_reducible rfl)
                refine Rg.t2 8 (some 113) hHeld ?_ (hy := by rintro w' ⟨s0, s1, s2, s3, s4, s5, s6⟩; go_simp; with_reducible rfl)
                refine Rg.t2 11 (some 116) hHeld ?_ (hy := by rintro w' ⟨s0, s1, s2, s3, s4, s5, s6⟩; go_simp; with_reducible rfl)
                refine Rg.t2 14 (some 119) hHeld ?_ (hy := by rintro w' ⟨s0, s1, s2, s3, s4, s5, s6⟩; go_simp; with_reducible rfl)
                refine Rg.p2 16 (some 121) ?_
                refine Rg.t2 19 (some 124) hHeld ?_ (hy := by rintro w' ⟨s0, s1, s2, s3, s4, s5, s6⟩; go_simp; with_reducible rfl)
                refine Rg.t2 22 (some 127) hHeld ?_ (hy := by rintro w' ⟨s0, s1, s2, s3, s4, s5, s6⟩; go_simp; with_reducible rfl)
                refine Rg.t2 25 (some 130) hHeld ?_ (hy := by rintro w' ⟨s0, s1, s2, s3, s4, s5, s6⟩; go_simp; with_reducible rfl)
                refine one_ (i := 26) (N := some 131) #[true, true, true, true, true, true, true, true, true, true, true, true, true, true, true, true, true, true, true, true, true, true, true, true, true, true, true, false] rfl rfl (one_of HT_.out (by kernel_rfl)) (by decide) (fun K hK => ?_)
                refine Kd.R_lit_step (Kd.int .u32) _ 33 ?hg (N := 131) ?hd (xs := ([((((((((((rd x7_1 7) + (Go.bits .xor .u32 (Go.bits .xor .u32 t135 t137) t139)) % 4294967296) + (Go.bits .xor .u32 (Go.bits .and .u32 (rd x7_1 4) (rd x7_1 5)) (Go.bits .and .u32 (Go.bits .xor .u32 IntKind.u32.max (rd x7_1 4)) (rd x7_1 6)))) % 4294967296) + (rd t127 x8_1)) % 4294967296) + (rd t124 x8_1)) % 4294967296) + (((Go.bits .xor .u32 (Go.bits .xor .u32 t147 t149) t151) + (Go.bits .xor .u32 (Go.bits .xor .u32 (Go.bits .and .u32 (rd x7_1 0) (rd x7_1 1)) (Go.bits .and .u32 (rd x7_1 0) (rd x7_1 2))) (Go.bits .and .u32 (rd x7_1 1) (rd x7_1 2)))) % 4294967296)) % 4294967296, rd x7_1 0, rd x7_1 1, rd x7_1 2, ((rd x7_1 3) + (((((((((rd x7_1 7) + (Go.bits .xor .u32 (Go.bits .xor .u32 t135 t137) t139)) % 4294967296) + (Go.bits .xor .u32 (Go.bits .and .u32 (rd x7_1 4) (rd x7_1 5)) (Go.bits .and .u32 (Go.bits .xor .u32 IntKind.u32.max (rd x7_1 4)) (rd x7_1 6)))) % 4294967296) + (rd t127 x8_1)) % 4294967296) + (rd t124 x8_1)) % 4294967296)) % 4294967296, rd x7_1 4, rd x7_1 5, rd x7_1 6] : List Int)) (inner := [.int .u32 (((((((((((rd x7_1 7) + (Go.bits .xor .u32 (Go.bits .xor .u32 t135 t137) t139)) % 4294967296) + (Go.bits .xor .u32 (Go.bits .and .u32 (rd x7_1 4) (rd x7_1 5)) (Go.bits .and .u32 (Go.bits .xor .u32 IntKind.u32.max (rd x7_1 4)) (rd x7_1 6)))) % 4294967296) + (rd t127 x8_1)) % 4294967296) + (rd t124 x8_1)) % 4294967296) + (((Go.bits .xor .u32 (Go.bits .xor .u32 t147 t149) t151) + (Go.bits .xor .u32 (Go.bits .xor .u32 (Go.bits .and .u32 (rd x7_1 0) (rd x7_1 1)) (Go.bits .and .u32 (rd x7_1 0) (rd x7_1 2))) (Go.bits .and .u32 (rd x7_1 1) (rd x7_1 2)))) % 4294967296)) % 4294967296), .int .u32 (rd x7_1 0), .int .u32 (rd x7_1 1), .int .u32 (rd x7_1 2), .int .u32 (((rd x7_1 3) + (((((((((rd x7_1 7) + (Go.bits .xor .u32 (Go.bits .xor .u32 t135 t137) t139)) % 4294967296) + (Go.bits .xor .u32 (Go.bits .and .u32 (rd x7_1 4) (rd x7_1 5)) (Go.bits .and .u32 (Go.bits .xor .u32 IntKind.u32.max (rd x7_1 4)) (rd x7_1 6)))) % 4294967296) + (rd t127 x8_1)) % 4294967296) + (rd t124 x8_1)) % 4294967296)) % 4294967296), .int .u32 (rd x7_1 4), .int .u32 (rd x7_1 5), .int .u32 (rd x7_1 6)]) (ok := fun _ => True) (okp := fun _ => True) ?hr ?hp (fun _ hk => hk) trivial (Below.refl _ _) (Nat.le_refl _) (by simp) ?_; (case hd => rfl); (case hg => rfl); (case hr => first | (go_simp; done) | (go_simp; rfl) | (go_simp; simp only [IntKind.wrap_u32, Int.emod_add_emod, Int.add_emod_emod])); (case hp => exact (Reps.one (show Kd.M (Kd.int .u32) _ _ _ (((((((((((rd x7_1 7) + (Go.bits .xor .u32 (Go.bits .xor .u32 t135 t137) t139)) % 4294967296) + (Go.bits .xor .u32 (Go.bits .and .u32 (rd x7_1 4) (rd x7_1 5)) (Go.bits .and .u32 (Go.bits .xor .u32 IntKind.u32.max (rd x7_1 4)) (rd x7_1 6)))) % 4294967296) + (rd t127 x8_1)) % 4294967296) + (rd t124 x8_1)) % 4294967296) + (((Go.bits .xor .u32 (Go.bits .xor .u32 t147 t149) t151) + (Go.bits .xor .u32 (Go.bits .xor .u32 (Go.bits .and .u32 (rd x7_1 0) (rd x7_1 1)) (Go.bits .and .u32 (rd x7_1 0) (rd x7_1 2))) (Go.bits .and .u32 (rd x7_1 1) (rd x7_1 2)))) % 4294967296)) % 4294967296) [.int .u32 (((((((((((rd x7_1 7) + (Go.bits .xor .u32 (Go.bits .xor .u32 t135 t137) t139)) % 4294967296) + (Go.bits .xor .u32 (Go.bits .and .u32 (rd x7_1 4) (rd x7_1 5)) (Go.bits .and .u32 (Go.bits .xor .u32 IntKind.u32.max (rd x7_1 4)) (rd x7_1 6)))) % 4294967296) + (rd t127 x8_1)) % 4294967296) + (rd t124 x8_1)) % 4294967296) + (((Go.bits .xor .u32 (Go.bits .xor .u32 t147 t149) t151) + (Go.bits .xor .u32 (Go.bits .xor .u32 (Go.bits .and .u32 (rd x7_1 0) (rd x7_1 1)) (Go.bits .and .u32 (rd x7_1 0) (rd x7_1 2))) (Go.bits .and .u32 (rd x7_1 1) (rd x7_1 2)))) % 4294967296)) % 4294967296)] from rfl) (Reps.one (show Kd.M (Kd.int .u32) _ _ _ (rd x7_1 0) [.int .u32 (rd x7_1 0)] from rfl) (Reps.one (show Kd.M (Kd.int .u32) _ _ _ (rd x7_1 1) [.int .u32 (rd x7_1 1)] from rfl) (Reps.one (show Kd.M (Kd.int .u32) _ _ _ (rd x7_1 2) [.int .u32 (rd x7_1 2)] from rfl) (Reps.one (show Kd.M (Kd.int .u32) _ _ _ (((rd x7_1 3) + (((((((((rd x7_1 7) + (Go.bits .xor .u32 (Go.bits .xor .u32 t135 t137) t139)) % 4294967296) + (Go.bits .xor .u32 (Go.bits .and .u32 (rd x7_1 4) (rd x7_1 5)) (Go.bits .and .u32 (Go.bits .xor .u32 IntKind.u32.max (rd x7_1 4)) (rd x7_1 6)))) % 4294967296) + (rd t127 x8_1)) % 4294967296) + (rd t124 x8_1)) % 4294967296)) % 4294967296) [.int .u32 (((rd x7_1 3) + (((((((((rd x7_1 7) + (Go.bits .xor .u32 (Go.bits .xor .u32 t135 t137) t139)) % 4294967296) + (Go.bits .xor .u32 (Go.bits .and .u32 (rd x7_1 4) (rd x7_1 5)) (Go.bits .and .u32 (Go.bits .xor .u32 IntKind.u32.max (rd x7_1 4)) (rd x7_1 6)))) % 4294967296) + (rd t127 x8_1)) % 4294967296) + (rd t124 x8_1)) % 4294967296)) % 4294967296)] from rfl) (Reps.one (show Kd.M (Kd.int .u32) _ _ _ (rd x7_1 4) [.int .u32 (rd x7_1 4)] from rfl) (Reps.one (show Kd.M (Kd.int .u32) _ _ _ (rd x7_1 5) [.int .u32 (rd x7_1 5)] from rfl) (Reps.one (show Kd.M (Kd.int .u32) _ _ _ (rd x7_1 6) [.int .u32 (rd x7_1 6)] from rfl) (Reps.none _ _))))))))))
                intro v166 w33 ho34 hb hg_ hnew_
                have HS0_ := (hb.cell (World.block_lt_of_cell? _ _ (hHeld.1))).trans (hHeld.1)
                have HS1_ := (hb.cell (World.block_lt_of_cell? _ _ (hHeld.2.1))).trans (hHeld.2.1)
                have HS2_ := (hb.cell (World.block_lt_of_cell? _ _ (hHeld.2.2.1))).trans (hHeld.2.2.1)
                have HS3_ := (hb.cell (World.block_lt_of_cell? _ _ (hHeld.2.2.2.1))).trans (hHeld.2.2.2.1)
                have HS4_ := (hb.cell (World.block_lt_of_cell? _ _ (hHeld.2.2.2.2.1))).trans (hHeld.2.2.2.2.1)
                have HS5_ := (hb.cell (World.block_lt_of_cell? _ _ (hHeld.2.2.2.2.2.1))).trans (hHeld.2.2.2.2.2.1)
                have HS6_ := (hb.cell (World.block_lt_of_cell? _ _ (hHeld.2.2.2.2.2.2))).trans (hHeld.2.2.2.2.2.2)
                clear hg_ hnew_
                (first | rw [← Ny165.out] at ho34 | (simp only [Int.reduceToNat] at ho34; rw [← Ny165.out] at ho34))
                have n0_ := Aside0.mk (Kd.R_elder' (by (with_reducible repeat (first | apply Kd.R_alloc | apply Kd.R_drewN | apply Kd.R_drew)); exact HO_5.out) (Kd.R_base ho34) hb)
                have n1_ := Aside0.mk (Kd.R_elder' (by (with_reducible repeat (first | apply Kd.R_alloc | apply Kd.R_drewN | apply Kd.R_drew)); exact HO_6.out) (Kd.R_base ho34) hb)
                have n2_ := Aside0.mk (Kd.R_elder' (by (with_reducible repeat (first | apply Kd.R_alloc | apply Kd.R_drewN | apply Kd.R_drew)); exact HO_7.out) (Kd.R_base ho34) hb)
                have n3_ := Aside0.mk (Kd.R_lower (Kd.R_new' (Kd.R_new' (Kd.R_new' ho34 (Kd.R_lt (by (with_reducible repeat (first | apply Kd.R_alloc | apply Kd.R_drewN | apply Kd.R_drew)); exact HO_5.out))) (Kd.R_lt (by (with_reducible repeat (first | apply Kd.R_alloc | apply Kd.R_drewN | apply Kd.R_drew)); exact HO_6.out))) (Kd.R_lt (by (with_reducible repeat (first | apply Kd.R_alloc | apply Kd.R_drewN | apply Kd.R_drew)); exact HO_7.out))) (below_size (by repeat (first | (with_reducible first | exact HB.out | apply below_alloc | apply pw_below_drewN | apply below_drew1) | exact HB.out))))
                have n4_ := Aside0.mk (below_step (by repeat (first | (with_reducible first | exact HB.out | apply below_alloc | apply pw_below_drewN | apply below_drew1) | exact HB.out)) hb)
                clear HO_5
                clear HO_6
                clear HO_7
                clear HB
                have HO_5 := n0_
                have HO_6 := n1_
                have HO_7 := n2_
                have HO167 := n3_
                have HB := n4_
                clear n0_ n1_ n2_ n3_ n4_
                clear hb ho34
                refine hK.out _ _ ⟨HS0_, HS1_, HS2_, HS3_, HS4_, HS5_, HS6_⟩ (fun hHeld => ?_)
                clear hK K
                refine norm_ (a' := ?_) ?_ ?_
                rotate_left
                ·show Act.put _ (some 131) _ = _
                 simp only [Act.put, List.setIfInBounds_toArray, List.set_cons_zero, List.set_cons_succ, i64_w, i32_w]
                 rfl
                refine Rg.p2 27 (some 7) ?_
                refine done_ (done_of HT_.out (by kernel_rfl)) ?_
                try go_wp2
                go_roundg k1
                case measure => have := HK1.out; omega
                case rel => exact ⟨(y165), (wrap64 (x8_1 + 1)), (by first | rfl | (simp; done) | (simp [*]; done)), H', ⟨by have := HK1.out; omega⟩, ⟨by (with_reducible repeat (first | apply Kd.R_alloc | apply Kd.R_drewN | apply Kd.R_drew)); exact Kd.R_mono HO_5.out (fun _ hk => ⟨hk.1.1, hk.2⟩)⟩, ⟨by (with_reducible repeat (first | apply Kd.R_alloc | apply Kd.R_drewN | apply Kd.R_drew)); exact Kd.R_mono HO_6.out (fun _ hk => ⟨hk.1.1, hk.2⟩)⟩, ⟨by (with_reducible repeat (first | apply Kd.R_alloc | apply Kd.R_drewN | apply Kd.R_drew)); exact Kd.R_mono HO167.out (fun _ hk => ⟨hk.1.1.2, hk.1.2⟩)⟩, ⟨by repeat (first | (with_reducible first | exact HB.out | apply below_alloc | apply pw_below_drewN | apply below_drew1) | exact HB.out)⟩⟩
               ·rw [if_neg c26] at H
                exact absurd H (by simp)
              ·rw [if_neg c25] at H
               exact absurd H (by simp)
             ·rw [if_neg c24] at H
              exact absurd H (by simp)
            ·rw [if_neg c20] at H
             exact absurd H (by simp)
           ·rw [if_neg c19] at H
            exact absurd H (by simp)
          ·rw [if_neg c18] at H
           exact absurd H (by simp)
         ·rw [if_neg c17] at H
          exact absurd H (by simp)
        ·rw [if_neg c16] at H
         exact absurd H (by simp)
       ·rw [if_neg c15] at H
        exact absurd H (by simp)
      ·rw [if_neg c11] at H
       exact absurd H (by simp)
     ·rw [if_neg c10] at H
      exact absurd H (by simp)
    ·rw [if_neg c9] at H
     have c9b0 : decide (x8_1 < 64) = false := decide_eq_false c9
     clear c9
     have H' := Aside0.mk H
     clear H
     go_wp2
     go_loopg [11] k1 (fun kq v11 w' => ∃ (x7_2 : List Int) (x11_2 : Int), v11 = .int .i64 x11_2 ∧ Aside0 (coamingref02_more.l1 kq l0 x7_2 x11_2 = some r) ∧ Aside0 (kq ≤ k1) ∧ Aside0 (Kd.R (Kd.int .u32) 33 w' w.heap.size (fun _ => True) u7 x7_2) ∧ Aside0 (Below w.heap.size w w'))
     case atStart => exact ⟨(x7_1), (0), (by first | rfl | (simp; done) | (simp [*]; done)), H', ⟨Nat.le_refl _⟩, ⟨by (with_reducible repeat (first | apply Kd.R_alloc | apply Kd.R_drewN | apply Kd.R_drew)); exact Kd.R_mono HO_7.out (fun _ hk => trivial)⟩, ⟨by repeat (first | (with_reducible first | exact HB.out | apply below_alloc | apply pw_below_drewN | apply below_drew1) | exact HB.out)⟩⟩
     case round =>
      clear H'
      try clear c1
      try clear p1
      try clear q1
      try clear hx1
      try clear qi1
      try clear c2
      try clear p2
      try clear p6
      try clear c7
      try clear c9
      try clear c9b0
      try clear c10
      try clear c11
      try clear c15
      try clear p15
      try clear q15
      try clear hx15
      try clear qi15
      try clear c16
      try clear p16
      try clear q16
      try clear hx16
      try clear qi16
      try clear c17
      try clear c18
      try clear c19
      try clear c20
      try clear c24
      try clear c25
      try clear c26
      try clear hx158_0
      try clear hx159_0
      try clear hx160_0
      try clear hx161_0
      try clear hx162_0
      try clear hx163_0
      try clear hx164_0
      try clear p158
      try clear p159
      try clear p160
      try clear p161
      try clear p162
      try clear p163
      try clear p164
      try clear q158
      try clear q159
      try clear q160
      try clear q161
      try clear q162
      try clear q163
      try clear q164
      obtain ⟨x7_2, x11_2, rfl, HA, HK2, HO_7, HB⟩ := hrel
      cases gk with
      | zero => exact absurd HA.out (by simp [coamingref02_more.l1])
      | succ k2 =>
       have H := HA.out
       clear HA
       simp only [coamingref02_more.l1] at H
       by_cases c35 : x11_2 < 8
       ·rw [if_pos c35] at H
        have c35b0 : decide (x11_2 < 8) = true := decide_eq_true c35
        clear c35
        by_cases c36 : 0 ≤ x11_2
        ·rw [if_pos c36] at H
         have c36b0 : decide (0 ≤ x11_2) = true := decide_eq_true c36
         clear c36
         by_cases c37 : x11_2 < (x7_2.length : Int)
         ·rw [if_pos c37] at H
          have c37b0 : decide (x11_2 < (x7_2.length : Int)) = true := decide_eq_true c37
          clear c37
          by_cases c38 : x11_2 < (l0.length : Int)
          ·rw [if_pos c38] at H
           have c38b0 : decide (x11_2 < (l0.length : Int)) = true := decide_eq_true c38
           clear c38
           obtain ⟨y170, hy170⟩ : ∃ y_ : List Int, y_ = (x7_2.set (x11_2 : Int).toNat (((rd x7_2 x11_2) + (rd l0 x11_2)) % 4294967296)) := ⟨_, rfl⟩
           replace H : (coamingref02_more.l1 k2 l0 y170 (wrap64 (x11_2 + 1))) = some r := by first | (rw [hy170]; with_reducible exact H) | (have H2_ := (Option.bind_some _ _).symm.trans H; rw [hy170]; with_reducible exact H2_) | (have H2_ := (Option.bind_some _ _).symm.trans H; with_reducible exact H2_) | with_reducible exact H | (rw [hy170]; exact H) | exact H
           have Ny170 := Aside0.mk hy170
           clear hy170
           have H' := Aside0.mk H
           clear H
           try go_wp2
           have n0_ := Aside0.mk (Kd.R_drew HO_7.out)
           have n1_ := Aside0.mk (below_drew1 HB.out)
           clear HO_7
           clear HB
           have HO_7 := n0_
           have HB := n1_
           clear n0_ n1_
           obtain ⟨Ao41, co41, eo41⟩ := Kd.R_slice HO_7.out
           (first | subst eo41 | (injection eo41 with f1_ f2_ f3_; have f4_ := f1_.symm; have f5_ := f3_.symm; clear f1_ f2_ f3_; subst f4_; subst f5_))
           have p168 : 0 ≤ (x11_2 : Int) := of_decide_eq_true (by first | (with_reducible assumption) | assumption)
           have q168 : x11_2 < (x7_2.length : Int) := of_decide_eq_true (by first | (with_reducible assumption) | assumption)
           obtain ⟨ad168, e168, hx168_0⟩ := Kd.at_int (Kd.R_reads' HO_7.out).2.2 x11_2 p168 q168
           cases e168
           replace p168 := eq_true p168
           replace q168 := eq_true q168
           have p169 : 0 ≤ (x11_2 : Int) := of_decide_eq_true (by first | (with_reducible assumption) | assumption)
           have q169 : x11_2 < (l0.length : Int) := of_decide_eq_true (by first | (with_reducible assumption) | assumption)
           obtain ⟨ad169, e169, hx169_0⟩ := Kd.at_int HR0.out x11_2 p169 q169
           have hw169_0 := hx169_0
           cases e169
           replace hx169_0 := (HB.out.cell (World.block_lt_of_cell? w _ hx169_0)).trans hx169_0
           replace p169 := eq_true p169
           replace q169 := eq_true q169
           have p39 : 0 ≤ (x11_2 : Int) := of_decide_eq_true (by first | (with_reducible assumption) | assumption)
           have q39 : (x11_2 : Int) < ((x7_2.length : Int) : Int) := of_decide_eq_true (by first | (with_reducible assumption) | assumption)
           obtain ⟨go39, co39, eo39, gb39, gl39, cl39, HG39⟩ := Kd.R_form HO_7.out (by omega)
           (first | cases eo39 | (injection eo39 with ea_ en_ ec_; (first | subst ea_ | (injection ea_ with ea_; subst ea_)); subst ec_; clear en_))
           have GB39 := Aside0.mk gb39
           have GG39 := Aside0.mk HG39
           clear gb39 gl39 HG39
           (first | simp only [add_plain] at hx168_0 | skip)
           obtain ⟨hx39_0, hf39_0⟩ := Kd.R_celln 0 HO_7.out (x11_2 : Int) p39 q39
           replace p39 := eq_true p39
           replace q39 := eq_true q39
           have HP42 := Kd.R_putn HO_7.out (x11_2 : Int) (((rd x7_2 x11_2) + (rd l0 x11_2)) % 4294967296)
           rw [← Ny170.out] at HP42
           have HQ42 := Aside0.mk HP42
           clear HP42
           refine start_ (n := 13) (S := fun w' => w'.cell? ⟨go39, (x11_2).toNat, none⟩ = some (.int .u32 (rd x7_2 x11_2)) ∧ w'.cell? (ad169.add (x11_2).toNat) = some (.int .u32 (rd l0 x11_2))) (ds := [12]) #[false, false, false, false, false, false, false, false, false, false, false, false, false] (by kernel_rfl) rfl rfl ⟨hx168_0, ((HB.out.cell (World.block_lt_of_cell? w _ hw169_0)).trans hw169_0)⟩ (fun hHeld => ?_); refine with_tabW coamingref02_more.tab14 coamingref02_more.bits14 (fun HT_ HW_ => ?_)
           generalize wr.drew = w40 at HO_7 HB GG39 HQ42 hf39_0 hx168_0 hx169_0 hx39_0 hHeld ⊢
           refine Rg.p2 0 (some 136) ?_
           refine Rg.p2 1 (some 137) ?_
           refine Rg.p2 2 (some 138) ?_
           refine Rg.p2 3 (some 139) ?_
           refine Rg.p2 4 (some 140) ?_
           refine Rg.p2 6 (some 142) ?_
           refine Rg.p2 7 (some 143) ?_
           refine Rg.p2 8 (some 144) ?_
           refine Rg.t2 5 (some 141) hHeld ?_ (hy := by rintro w' ⟨s0, s1⟩; go_simp; with_reducible rfl)
           refine Rg.t2 9 (some 145) hHeld ?_ (hy := by rintro w' ⟨s0, s1⟩; go_simp; with_reducible rfl)
           refine Rg.p2 10 (some 146) ?_
           refine Rg.p2 11 (some 147) ?_
           refine last_ (i := 12) (N := none) #[true, true, true, true, true, true, true, true, true, true, true, true, true] rfl rfl (one_of HT_.out (by kernel_rfl)) (by decide) (fun K hK => ?_)
           refine skip_ (w1 := ?_) (by rfl) rfl ?_ ?_
           rotate_left
           ·go_simp
            rfl
           refine hK.out _ _ ?_
           clear hK K
           refine done_ (done_of HT_.out (by kernel_rfl)) ?_
           try go_wp2
           go_roundg k2
           case measure => have := HK1.out; have := HK2.out; omega
           case rel => exact ⟨(y170), (wrap64 (x11_2 + 1)), (by first | rfl | (simp; done) | (simp [*]; done)), H', ⟨by have := HK1.out; have := HK2.out; omega⟩, ⟨by (with_reducible repeat (first | apply Kd.R_alloc | apply Kd.R_drewN | apply Kd.R_drew)); exact HQ42.out⟩, ⟨by repeat (first | (with_reducible first | exact HB.out | apply below_alloc | apply pw_below_drewN | apply below_drew1 | refine below_set ?_ GB39.out) | exact HB.out)⟩⟩
          ·rw [if_neg c38] at H
           exact absurd H (by simp)
         ·rw [if_neg c37] at H
          exact absurd H (by simp)
        ·rw [if_neg c36] at H
         exact absurd H (by simp)
       ·rw [if_neg c35] at H
        have c35b0 : decide (x11_2 < 8) = false := decide_eq_false c35
        clear c35
        obtain rfl := Option.some.inj H
        go_wp2
        go_ret
        exact ⟨_, by first | rfl | (simp [errW_none, errW_some] <;> rfl) | (simp [*, errW_none, errW_some] <;> rfl), by (with_reducible repeat (first | apply Kd.R_alloc | apply Kd.R_drewN | apply Kd.R_drew)); exact HO_7.out, by repeat (first | (with_reducible first | exact HB.out | apply below_alloc | apply pw_below_drewN | apply below_drew1) | exact HB.out)⟩
 ·rw [if_neg c5] at H
  exact absurd H (by simp)
end Go.Proofs.YtgljicdpcapgnaaDoor.PBase
