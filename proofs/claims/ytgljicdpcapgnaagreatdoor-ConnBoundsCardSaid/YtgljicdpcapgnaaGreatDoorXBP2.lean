/- What the law's proof stands on, part 2: Rg, Bits, SpellW, SpellMath, PBasex0, PBasex1, PBasex3, PBasex4, PBasex6, PBasex7, PBasex8, SpellFns, SpellFnsB, SpellFnsC, ShaMath, ShaN, ShaMix (laid together by wip/pack.py). -/
import Derived.Test.YtgljicdpcapgnaaGreatDoorProg
import Derived.Test.YtgljicdpcapgnaaGreatDoorXBP1
import Derived.Outline
set_option linter.unusedVariables false
set_option linter.unusedSimpArgs false
set_option maxRecDepth 100000
set_option maxHeartbeats 8000000
namespace Go.Proofs.YtgljicdpcapgnaaGreatDoor
open Go.RowKit Go.Proofs.YtgljicdpcapgnaaGreatDoorW.PrintWords Go.Proofs.YtgljicdpcapgnaaGreatDoorW.PrintLast
theorem az {p : Prop} (h : p) : Aside0 p := ⟨h⟩
namespace Rg
section
variable {P : Program} {md : Region.Mode} {ops : Array Oper} {Q : Exit → Act → World → Prop} {S : World → Prop} {ds : List Nat}
theorem s1 {id : Nat} {a : Act} {w : World} (n : Nat) (S : World → Prop) (ds : List Nat) (hS : S w.drew) (l : Array Bool) (h : S w.drew → wpAnyLast P .any ops Q S ds n l a w.drew) (hm : P.follows .mixedOrders = true := by kernel_rfl) (hn : ops.size = n := by rfl) (hl : Array.replicate n false = l := by rfl) : (Code.region id ops true).wp P Q a w :=
  start_ l hm hn hl hS h
variable {oi : Oper} {v : Value} {fuel : Nat} {l l' : Array Bool} {a a' : Act} {w : World}
theorem p1 (i : Nat) (N : Option Tmp) (h : wpAnyLast P md ops Q S ds fuel l' a' w) (hl : l.setIfInBounds i true = l' := by simp only [List.setIfInBounds_toArray, List.set_cons_zero, List.set_cons_succ]; rfl) (hi : ops[i]? = some oi := by rfl) (hN : oi.dst = N := by rfl) (hc : anyB md ops l l' i = true := by kernel_rfl) (hQ : ∀ c a w, Q (.panic c) (a.put oi.dst v) w → Q (.panic c) a w := by exact fun _ _ _ h => h)
    (hg : Region.wanted oi (yielded ops a.tmps) = true := by rfl)
    (hy : ∀ w', (execOp a.eval oi).run P w' = .ok (.value v) w' := by intro w'; go_simp; first | done | with_reducible rfl) (ha : a.put N v = a' := by simp only [Act.put, List.setIfInBounds_toArray, List.set_cons_zero, List.set_cons_succ]; rfl) : wpAnyLast P md ops Q S ds (fuel + 1) l a w :=
  pure_ l' hi hN hc hQ (.inl ⟨hg, hy⟩) ha h
theorem b2 {X : Prop} (h : X := by repeat (first | (with_reducible first | exact HB.out | apply below_alloc | apply pw_below_drewN | apply below_drew1) | exact HB.out)) : X := h
theorem l2 {X : Prop} (h : X := by (try simp only [List.map_toArray, List.map_cons, List.map_nil]); first | done | rfl | (simp only [List.length_drop, List.length_take]; rfl) | (simp only [List.length_drop, List.length_take]; (repeat rw [Nat.min_eq_left (by simp only [eq_iff_iff, iff_true] at *; omega)]); rfl)) : X := h
theorem p2 (i : Nat) (N : Option Tmp) (h : wpAnyLast P md ops Q S ds fuel l' a' w) (hl : l.setIfInBounds i true = l' := by simp only [List.setIfInBounds_toArray, List.set_cons_zero, List.set_cons_succ]; rfl) (hi : ops[i]? = some oi := by rfl) (hN : oi.dst = N := by rfl) (hc : anyB md ops l l' i = true := by kernel_rfl) (hQ : ∀ c a w, Q (.panic c) (a.put oi.dst v) w → Q (.panic c) a w := by exact fun _ _ _ h => h)
    (hg : Region.wanted oi (yielded ops a.tmps) = true := by rfl)
    (hy : ∀ w', (execOp a.eval oi).run P w' = .ok (.value v) w' := by intro w'; go_simp; with_reducible rfl) (ha : a.put N v = a' := by simp only [Act.put, List.setIfInBounds_toArray, List.set_cons_zero, List.set_cons_succ, i64_w, i32_w]; rfl) : wpAnyLast P md ops Q S ds (fuel + 1) l a w :=
  pure_ l' hi hN hc hQ (.inl ⟨hg, hy⟩) ha h
theorem t2 (i : Nat) (N : Option Tmp) (hS : S w) (h : wpAnyLast P md ops Q S ds fuel l' a' w) (hl : l.setIfInBounds i true = l' := by simp only [List.setIfInBounds_toArray, List.set_cons_zero, List.set_cons_succ]; rfl) (hi : ops[i]? = some oi := by rfl) (hN : oi.dst = N := by rfl) (hc : takeB md ops ds l l' i = true := by kernel_rfl) (hQ : ∀ c a w, Q (.panic c) (a.put oi.dst v) w → Q (.panic c) a w := by exact fun _ _ _ h => h)
    (hg : Region.wanted oi (yielded ops a.tmps) = true := by rfl) (hy : ∀ w', S w' → (execOp a.eval oi).run P w' = .ok (.value v) w')
    (ha : a.put N v = a' := by simp only [Act.put, List.setIfInBounds_toArray, List.set_cons_zero, List.set_cons_succ, i64_w, i32_w]; rfl) : wpAnyLast P md ops Q S ds (fuel + 1) l a w :=
  take_ l' hi hN hc hQ (.inl ⟨hg, hy⟩) hS ha h
theorem u1 (i : Nat) (N : Option Tmp) (h : wpAnyLast P md ops Q S ds fuel l' a' w) (hl : l.setIfInBounds i true = l' := by simp only [List.setIfInBounds_toArray, List.set_cons_zero, List.set_cons_succ]; rfl) (hi : ops[i]? = some oi := by rfl) (hN : oi.dst = N := by rfl) (hc : anyB md ops l l' i = true := by kernel_rfl) (hQ : ∀ c a w, Q (.panic c) (a.put oi.dst undef) w → Q (.panic c) a w := by exact fun _ _ _ h => h)
    (hg : Region.wanted oi (yielded ops a.tmps) = false := by rfl)
    (ha : a.put N undef = a' := by simp only [Act.put, List.setIfInBounds_toArray, List.set_cons_zero, List.set_cons_succ]; rfl) : wpAnyLast P md ops Q S ds (fuel + 1) l a w :=
  pure_ l' hi hN hc hQ (.inr ⟨hg, rfl⟩) ha h
theorem t1 (i : Nat) (N : Option Tmp) (hS : S w) (h : wpAnyLast P md ops Q S ds fuel l' a' w) (hl : l.setIfInBounds i true = l' := by simp only [List.setIfInBounds_toArray, List.set_cons_zero, List.set_cons_succ]; rfl) (hi : ops[i]? = some oi := by rfl) (hN : oi.dst = N := by rfl) (hc : takeB md ops ds l l' i = true := by kernel_rfl) (hQ : ∀ c a w, Q (.panic c) (a.put oi.dst v) w → Q (.panic c) a w := by exact fun _ _ _ h => h)
    (hg : Region.wanted oi (yielded ops a.tmps) = true := by rfl) (hy : ∀ w', S w' → (execOp a.eval oi).run P w' = .ok (.value v) w')
    (ha : a.put N v = a' := by simp only [Act.put, List.setIfInBounds_toArray, List.set_cons_zero, List.set_cons_succ]; rfl) : wpAnyLast P md ops Q S ds (fuel + 1) l a w :=
  take_ l' hi hN hc hQ (.inl ⟨hg, hy⟩) hS ha h
theorem o1 (i : Nat) (N : Option Tmp) (h : ∀ K : Act → World → Prop, Shut (∀ a' w', S w' → (S w' → wpAnyLast P md ops Q S ds fuel l' a' w') → K a' w') → if Region.wanted oi (yielded ops a.tmps) = true then Oper.wp P oi a w K Q else K (a.put N undef) w) (hl : l.setIfInBounds i true = l' := by simp only [List.setIfInBounds_toArray, List.set_cons_zero, List.set_cons_succ]; rfl) (hi : ops[i]? = some oi := by rfl) (hN : oi.dst = N := by rfl) (hc : readyB md ops l l' i = true := by kernel_rfl) (hd : i ∉ ds := by decide) :
    wpAnyLast P md ops Q S ds (fuel + 1) l a w := one_ l' hi hN hc hd h
theorem l1 (i : Nat) (N : Option Tmp) (h : ∀ K : Act → World → Prop, Shut (∀ a' w', wpAnyLast P md ops Q S ds fuel l' a' w' → K a' w') → if Region.wanted oi (yielded ops a.tmps) = true then Oper.wp P oi a w K Q else K (a.put N undef) w) (hl : l.setIfInBounds i true = l' := by simp only [List.setIfInBounds_toArray, List.set_cons_zero, List.set_cons_succ]; rfl) (hi : ops[i]? = some oi := by rfl) (hN : oi.dst = N := by rfl) (hc : readyB md ops l l' i = true := by kernel_rfl) (hd : i ∈ ds := by decide) :
    wpAnyLast P md ops Q S ds (fuel + 1) l a w := last_ l' hi hN hc hd h
theorem n1 (h : wpAnyLast P md ops Q S ds fuel l a' w) (ha : a = a' := by simp only [Act.put, List.setIfInBounds_toArray, List.set_cons_zero, List.set_cons_succ]; rfl) : wpAnyLast P md ops Q S ds fuel l a w := norm_ ha h
theorem d1 (h : Q .normal a w) (hr : (Region.ready md ops l == []) = true := by kernel_rfl) : wpAnyLast P md ops Q S ds fuel l a w := done_ hr h
end
end Rg
end Go.Proofs.YtgljicdpcapgnaaGreatDoor
namespace Go.Proofs.YtgljicdpcapgnaaGreatDoor.Bt
theorem wraps_u64 (n : Int) (h0 : 0 ≤ n) (h1 : n < 2 ^ 64) : IntKind.u64.wrap n = n := by
  have e : IntKind.u64.wrap n = n % 18446744073709551616 := by simp [IntKind.wrap, IntKind.bits, IntKind.signed]
  rw [e]; omega
theorem wraps_u32 (n : Int) (h0 : 0 ≤ n) (h1 : n < 2 ^ 32) : IntKind.u32.wrap n = n := by rw [IntKind.wrap_u32]; omega
theorem or_u64 (i : Nat) (x y : Int) (h0 : 0 ≤ x) (hx : x % 2 ^ i = 0) (h1 : x < 2 ^ 64) (h2 : 0 ≤ y) (h3 : y < 2 ^ i) (h4 : y < 2 ^ 64) : bits .or .u64 x y = x + y :=
  bits_join .u64 64 (by decide) wraps_u64 i x y h0 hx h1 h2 h3 h4
theorem or_u32 (i : Nat) (x y : Int) (h0 : 0 ≤ x) (hx : x % 2 ^ i = 0) (h1 : x < 2 ^ 32) (h2 : 0 ≤ y) (h3 : y < 2 ^ i) (h4 : y < 2 ^ 32) : bits .or .u32 x y = x + y :=
  bits_join .u32 32 (by decide) wraps_u32 i x y h0 hx h1 h2 h3 h4
theorem mask_u64 (i : Nat) (hi : i ≤ 64) (x : Int) (h0 : 0 ≤ x) (h1 : x < 2 ^ 64) : bits .and .u64 x (2 ^ i - 1) = x % 2 ^ i :=
  bits_mask .u64 64 (by decide) wraps_u64 i hi x h0 h1
theorem or_256 (h x : Int) (h0 : 0 ≤ h) (h1 : h < 72057594037927936) (h2 : 0 ≤ x) (h3 : x ≤ 255) : bits .or .u64 (h * 256) x = h * 256 + x :=
  or_u64 8 _ _ (by omega) (by omega) (by omega) h2 (by omega) (by omega)
theorem low_u64 (n : Int) (h0 : 0 ≤ n) (h1 : n < 64) : IntKind.u64.wrap (IntKind.u64.wrap (2 ^ n.toNat) - 1) = 2 ^ n.toNat - 1 := by
  obtain ⟨m, rfl⟩ := Int.eq_ofNat_of_zero_le h0
  have hm : m < 64 := by omega
  have h2 : (2 : Int) ^ m < 2 ^ 64 := by exact_mod_cast Nat.pow_lt_pow_right (by decide : 1 < 2) hm
  have h3 : (0 : Int) < 2 ^ m := Int.pow_pos (by decide)
  rw [Int.toNat_natCast, wraps_u64 _ (by omega) h2, wraps_u64 _ (by omega) (by omega)]
theorem mask_low (h n : Int) (h0 : 0 ≤ h) (h1 : h < 2 ^ 64) (n0 : 0 ≤ n) (n1 : n < 64) : bits .and .u64 h (IntKind.u64.wrap (IntKind.u64.wrap (2 ^ n.toNat) - 1)) = h % 2 ^ n.toNat := by
  rw [low_u64 n n0 n1]
  exact mask_u64 n.toNat (by omega) h h0 h1
end Go.Proofs.YtgljicdpcapgnaaGreatDoor.Bt
namespace Go.Proofs.YtgljicdpcapgnaaGreatDoor
open Go.RowKit Go.Proofs.YtgljicdpcapgnaaGreatDoorW.PrintWords
def sgs : List UInt8 := [97, 98, 99, 100, 101, 102, 103, 104, 105, 106, 107, 108, 109, 110, 111, 112, 113, 114, 115, 116, 117, 118, 119, 120, 121, 122, 50, 51, 52, 53, 54, 55]
def sg (i : Int) : UInt8 := sgs.getD i.toNat 0
end Go.Proofs.YtgljicdpcapgnaaGreatDoor
namespace Go.Proofs.YtgljicdpcapgnaaGreatDoor.Sp
open Go.RowKit
def bits8 (x : Int) : List Int := [x / 128 % 2, x / 64 % 2, x / 32 % 2, x / 16 % 2, x / 8 % 2, x / 4 % 2, x / 2 % 2, x % 2]
def bits5 (x : Int) : List Int := [x / 16 % 2, x / 8 % 2, x / 4 % 2, x / 2 % 2, x % 2]
def bitsOf (l : List Int) : List Int := l.flatMap bits8
def enc : List Int → List UInt8
  | [] => []
  | [a] => [sg (16 * a)]
  | [a, b] => [sg (16 * a + 8 * b)]
  | [a, b, c] => [sg (16 * a + 8 * b + 4 * c)]
  | [a, b, c, d] => [sg (16 * a + 8 * b + 4 * c + 2 * d)]
  | a :: b :: c :: d :: e :: r => sg (16 * a + 8 * b + 4 * c + 2 * d + e) :: enc r
def val (l : List Int) : Int := l.foldl (fun h b => 2 * h + b) 0
def Bits (l : List Int) : Prop := ∀ b ∈ l, 0 ≤ b ∧ b ≤ 1
def Bytes (l : List Int) : Prop := ∀ x ∈ l, 0 ≤ x ∧ x ≤ 255
theorem Bits8 (x : Int) : Bits (bits8 x) := by
  intro b hb
  simp only [bits8, List.mem_cons, List.not_mem_nil, or_false] at hb
  omega
theorem Bits5 (x : Int) : Bits (bits5 x) := by
  intro b hb
  simp only [bits5, List.mem_cons, List.not_mem_nil, or_false] at hb
  omega
theorem Bits.append {a b : List Int} (ha : Bits a) (hb : Bits b) : Bits (a ++ b) := fun x hx => (List.mem_append.1 hx).elim (ha x) (hb x)
theorem Bits.left {a b : List Int} (h : Bits (a ++ b)) : Bits a := fun x hx => h x (List.mem_append_left _ hx)
theorem Bits.right {a b : List Int} (h : Bits (a ++ b)) : Bits b := fun x hx => h x (List.mem_append_right _ hx)
theorem Bits.head {a : Int} {l : List Int} (h : Bits (a :: l)) : 0 ≤ a ∧ a ≤ 1 := h a List.mem_cons_self
theorem Bits.tail {a : Int} {l : List Int} (h : Bits (a :: l)) : Bits l := fun x hx => h x (List.mem_cons_of_mem _ hx)
theorem Bytes.head {a : Int} {l : List Int} (h : Bytes (a :: l)) : 0 ≤ a ∧ a ≤ 255 := h a List.mem_cons_self
theorem Bytes.tail {a : Int} {l : List Int} (h : Bytes (a :: l)) : Bytes l := fun x hx => h x (List.mem_cons_of_mem _ hx)
theorem bitsOf_cons (x : Int) (l : List Int) : bitsOf (x :: l) = bits8 x ++ bitsOf l := by simp [bitsOf]
theorem bitsOf_append (a b : List Int) : bitsOf (a ++ b) = bitsOf a ++ bitsOf b := by simp [bitsOf]
theorem bitsOf_length (l : List Int) : (bitsOf l).length = 8 * l.length := by
  induction l with
  | nil => rfl
  | cons x l ih => rw [bitsOf_cons, List.length_append, ih]; simp [bits8]; omega
theorem BitsOf (l : List Int) : Bits (bitsOf l) := by
  induction l with
  | nil => intro b hb; simp [bitsOf] at hb
  | cons x l ih => rw [bitsOf_cons]; exact (Bits8 x).append ih
theorem five {P : List Int → Prop} (h0 : P []) (h1 : ∀ a, P [a]) (h2 : ∀ a b, P [a, b]) (h3 : ∀ a b c, P [a, b, c]) (h4 : ∀ a b c d, P [a, b, c, d])
    (h5 : ∀ a b c d e r, P r → P (a :: b :: c :: d :: e :: r)) : ∀ l, P l
  | [] => h0
  | [a] => h1 a
  | [a, b] => h2 a b
  | [a, b, c] => h3 a b c
  | [a, b, c, d] => h4 a b c d
  | a :: b :: c :: d :: e :: r => h5 a b c d e r (five h0 h1 h2 h3 h4 h5 r)
theorem enc_length (B : List Int) : (enc B).length = (B.length + 4) / 5 := by
  refine five (P := fun B => (enc B).length = (B.length + 4) / 5) rfl (fun _ => by simp [enc]) (fun _ _ => by simp [enc]) (fun _ _ _ => by simp [enc]) (fun _ _ _ _ => by simp [enc]) ?_ B
  intro a b c d e r ih
  simp only [enc, List.length_cons, ih]
  omega
theorem enc_step (B : List Int) (h : B ≠ []) : enc B = sg (16 * B.getD 0 0 + 8 * B.getD 1 0 + 4 * B.getD 2 0 + 2 * B.getD 3 0 + B.getD 4 0) :: enc (B.drop 5) := by
  match B, h with
  | [a], _ => simp [enc]
  | [a, b], _ => simp [enc]
  | [a, b, c], _ => simp [enc]
  | [a, b, c, d], _ => simp [enc]
  | a :: b :: c :: d :: e :: r, _ => simp [enc]
theorem sg_inj : ∀ i j : Int, 0 ≤ i → i < 32 → 0 ≤ j → j < 32 → sg i = sg j → i = j := by
  have h : ∀ i j : Fin 32, sg (i.val : Int) = sg (j.val : Int) → i = j := by decide
  intro i j h0 h1 h2 h3 e
  have := h ⟨i.toNat, by omega⟩ ⟨j.toNat, by omega⟩ (by show sg ((i.toNat : Nat) : Int) = sg ((j.toNat : Nat) : Int); rw [Int.toNat_of_nonneg h0, Int.toNat_of_nonneg h2]; exact e)
  have h4 : i.toNat = j.toNat := congrArg Fin.val this
  omega
theorem enc_pad (B : List Int) : ∀ z, z < 5 → (B.length + z) % 5 = 0 → enc (B ++ List.replicate z 0) = enc B := by
  refine five (P := fun B => ∀ z, z < 5 → (B.length + z) % 5 = 0 → enc (B ++ List.replicate z 0) = enc B) ?_ ?_ ?_ ?_ ?_ ?_ B
  · intro z hz h; obtain rfl : z = 0 := by simp at h; omega
    rfl
  · intro a z hz h; obtain rfl : z = 4 := by simp at h; omega
    simp [enc, List.replicate]
  · intro a b z hz h; obtain rfl : z = 3 := by simp at h; omega
    simp [enc, List.replicate]
  · intro a b c z hz h; obtain rfl : z = 2 := by simp at h; omega
    simp [enc, List.replicate]
  · intro a b c d z hz h; obtain rfl : z = 1 := by simp at h; omega
    simp [enc, List.replicate]
  · intro a b c d e r ih z hz h
    simp only [List.cons_append, enc]
    rw [ih z hz (by simp only [List.length_cons] at h; omega)]
theorem val_zero (R : List Int) (h : Bits R) (hv : val R = 0) : R = List.replicate R.length 0 := by
  have key : ∀ (R : List Int) (a : Int), Bits R → 0 ≤ a → R.foldl (fun h b => 2 * h + b) a = 0 → a = 0 ∧ R = List.replicate R.length 0 := by
    intro R
    induction R with
    | nil => intro a _ _ h; exact ⟨h, rfl⟩
    | cons b R ih =>
      intro a hb ha h
      obtain ⟨h1, h2⟩ := ih (2 * a + b) hb.tail (by have := hb.head; omega) h
      have := hb.head
      refine ⟨by omega, ?_⟩
      obtain rfl : b = 0 := by omega
      rw [List.length_cons, List.replicate_succ, ← h2]
  exact (key R 0 h (Int.le_refl _) hv).2
theorem val_replicate (n : Nat) : val (List.replicate n 0) = 0 := by
  have key : ∀ n, (List.replicate n (0 : Int)).foldl (fun h b => 2 * h + b) 0 = 0 := by
    intro n
    induction n with
    | zero => rfl
    | succ n ih => rw [List.replicate_succ, List.foldl_cons]; exact ih
  exact key n
theorem enc_same (B : List Int) : ∀ R, Bits B → Bits R → (B.length + R.length) % 5 = 0 → enc (B ++ R) = enc B → R.length < 5 ∧ val R = 0 := by
  refine five (P := fun B => ∀ R, Bits B → Bits R → (B.length + R.length) % 5 = 0 → enc (B ++ R) = enc B → R.length < 5 ∧ val R = 0) ?_ ?_ ?_ ?_ ?_ ?_ B
  · intro R _ _ _ h
    have h1 := congrArg List.length h
    rw [List.nil_append, enc_length] at h1
    have : R = [] := List.eq_nil_of_length_eq_zero (by simp [enc] at h1; omega)
    subst this
    exact ⟨by simp, rfl⟩
  · intro a R hB hR hl h
    have h1 := congrArg List.length h
    rw [enc_length] at h1
    simp [enc] at h1 hl
    match R, hR, h, (by omega : R.length = 4) with
    | [p, q, r, s], hR, h, _ =>
      have ha := hB.head; have hp := hR.head; have hq := hR.tail.head; have hr := hR.tail.tail.head; have hs := hR.tail.tail.tail.head
      simp only [List.cons_append, List.nil_append, enc, List.cons.injEq, and_true] at h
      have := sg_inj _ _ (by omega) (by omega) (by omega) (by omega) h
      exact ⟨by simp, by simp only [val, List.foldl]; omega⟩
  · intro a b R hB hR hl h
    have h1 := congrArg List.length h
    rw [enc_length] at h1
    simp [enc] at h1 hl
    match R, hR, h, (by omega : R.length = 3) with
    | [q, r, s], hR, h, _ =>
      have ha := hB.head; have hb := hB.tail.head; have hq := hR.head; have hr := hR.tail.head; have hs := hR.tail.tail.head
      simp only [List.cons_append, List.nil_append, enc, List.cons.injEq, and_true] at h
      have := sg_inj _ _ (by omega) (by omega) (by omega) (by omega) h
      exact ⟨by simp, by simp only [val, List.foldl]; omega⟩
  · intro a b c R hB hR hl h
    have h1 := congrArg List.length h
    rw [enc_length] at h1
    simp [enc] at h1 hl
    match R, hR, h, (by omega : R.length = 2) with
    | [r, s], hR, h, _ =>
      have ha := hB.head; have hb := hB.tail.head; have hc := hB.tail.tail.head; have hr := hR.head; have hs := hR.tail.head
      simp only [List.cons_append, List.nil_append, enc, List.cons.injEq, and_true] at h
      have := sg_inj _ _ (by omega) (by omega) (by omega) (by omega) h
      exact ⟨by simp, by simp only [val, List.foldl]; omega⟩
  · intro a b c d R hB hR hl h
    have h1 := congrArg List.length h
    rw [enc_length] at h1
    simp [enc] at h1 hl
    match R, hR, h, (by omega : R.length = 1) with
    | [s], hR, h, _ =>
      have ha := hB.head; have hb := hB.tail.head; have hc := hB.tail.tail.head; have hd := hB.tail.tail.tail.head; have hs := hR.head
      simp only [List.cons_append, List.nil_append, enc, List.cons.injEq, and_true] at h
      have := sg_inj _ _ (by omega) (by omega) (by omega) (by omega) h
      exact ⟨by simp, by simp only [val, List.foldl]; omega⟩
  · intro a b c d e r ih R hB hR hl h
    simp only [List.cons_append, enc, List.cons.injEq, true_and] at h
    exact ih R hB.tail.tail.tail.tail.tail hR (by simp only [List.length_cons] at hl; omega) h
def dg (c : Int) : Option Int := if 97 ≤ c ∧ c ≤ 122 then some (c - 97) else if 50 ≤ c ∧ c ≤ 55 then some (c - 50 + 26) else none
def digits : List Int → Option (List Int)
  | [] => some []
  | c :: cs => (dg c).bind fun d => (digits cs).map (d :: ·)
def take8 : List Int → List Int → List Int → List Int × List Int
  | [], o, R => (o, R)
  | d :: ds, o, R => if 8 ≤ R.length + 5 then take8 ds (o ++ [val ((R ++ bits5 d).take 8)]) ((R ++ bits5 d).drop 8) else take8 ds o (R ++ bits5 d)
theorem dg_range {c d : Int} (h : dg c = some d) : 0 ≤ d ∧ d < 32 := by
  unfold dg at h
  split at h
  · obtain rfl := Option.some.inj h; omega
  · split at h
    · obtain rfl := Option.some.inj h; omega
    · cases h
theorem sg_dg {c d : Int} (h : dg c = some d) : ((sg d).toNat : Int) = c := by
  have h1 : ∀ i : Fin 26, ((sg (i.val : Int)).toNat : Int) = i.val + 97 := by decide
  have h2 : ∀ i : Fin 6, ((sg ((i.val : Int) + 26)).toNat : Int) = i.val + 50 := by decide
  unfold dg at h
  split at h
  · obtain rfl := Option.some.inj h
    have := h1 ⟨(c - 97).toNat, by omega⟩
    simp only [Int.toNat_of_nonneg (show 0 ≤ c - 97 by omega)] at this
    omega
  · split at h
    · obtain rfl := Option.some.inj h
      have := h2 ⟨(c - 50).toNat, by omega⟩
      simp only [Int.toNat_of_nonneg (show 0 ≤ c - 50 by omega)] at this
      omega
    · cases h
theorem dg_sg (d : Int) (h0 : 0 ≤ d) (h1 : d < 32) : dg ((sg d).toNat : Int) = some d := by
  have h : ∀ i : Fin 32, dg ((sg (i.val : Int)).toNat : Int) = some (i.val : Int) := by decide
  have := h ⟨d.toNat, by omega⟩
  simpa only [Int.toNat_of_nonneg h0] using this
theorem val8 (a b c d e f g h : Int) (ha : 0 ≤ a ∧ a ≤ 1) (hb : 0 ≤ b ∧ b ≤ 1) (hc : 0 ≤ c ∧ c ≤ 1) (hd : 0 ≤ d ∧ d ≤ 1) (he : 0 ≤ e ∧ e ≤ 1) (hf : 0 ≤ f ∧ f ≤ 1) (hg : 0 ≤ g ∧ g ≤ 1) (hh : 0 ≤ h ∧ h ≤ 1) :
    bits8 (val [a, b, c, d, e, f, g, h]) = [a, b, c, d, e, f, g, h] ∧ 0 ≤ val [a, b, c, d, e, f, g, h] ∧ val [a, b, c, d, e, f, g, h] ≤ 255 := by
  have e : val [a, b, c, d, e, f, g, h] = 128 * a + 64 * b + 32 * c + 16 * d + 8 * e + 4 * f + 2 * g + h := by simp only [val, List.foldl]; omega
  rw [e]
  refine ⟨?_, by omega, by omega⟩
  simp only [bits8, List.cons.injEq, and_true]
  refine ⟨?_, ?_, ?_, ?_, ?_, ?_, ?_, ?_⟩ <;> omega
theorem val8_of (B : List Int) (hB : Bits B) (hl : B.length = 8) : bits8 (val B) = B ∧ 0 ≤ val B ∧ val B ≤ 255 := by
  match B, hl with
  | [a, b, c, d, e, f, g, h], _ => exact val8 a b c d e f g h hB.head hB.tail.head hB.tail.tail.head hB.tail.tail.tail.head hB.tail.tail.tail.tail.head hB.tail.tail.tail.tail.tail.head hB.tail.tail.tail.tail.tail.tail.head hB.tail.tail.tail.tail.tail.tail.tail.head
theorem take8_spec (ds : List Int) : ∀ o R, Bits R → R.length < 8 → Bytes o → bitsOf (take8 ds o R).1 ++ (take8 ds o R).2 = bitsOf o ++ R ++ ds.flatMap bits5 ∧ Bits (take8 ds o R).2 ∧ (take8 ds o R).2.length < 8 ∧ Bytes (take8 ds o R).1 ∧ (take8 ds o R).1.length ≤ o.length + ds.length := by
  induction ds with
  | nil => intro o R hR hl ho; simp [take8, hR, hl, ho]
  | cons d ds ih =>
    intro o R hR hl ho
    have hb : Bits (R ++ bits5 d) := hR.append (Bits5 d)
    have hlen : (R ++ bits5 d).length = R.length + 5 := by simp [bits5]
    rw [take8]
    split
    · rename_i h8
      have hb' : Bits ((R ++ bits5 d).take 8 ++ (R ++ bits5 d).drop 8) := by rw [List.take_append_drop]; exact hb
      obtain ⟨h1, h2, h3⟩ := val8_of _ hb'.left (by rw [List.length_take, hlen]; omega)
      obtain ⟨i1, i2, i3, i4, i5⟩ := ih (o ++ [val ((R ++ bits5 d).take 8)]) ((R ++ bits5 d).drop 8) hb'.right (by rw [List.length_drop, hlen]; omega) (fun x hx => by
        rcases List.mem_append.1 hx with hx | hx
        · exact ho x hx
        · rw [List.mem_singleton.1 hx]; exact ⟨h2, h3⟩)
      refine ⟨?_, i2, i3, i4, ?_⟩
      · rw [i1, bitsOf_append]
        have e : bitsOf [val ((R ++ bits5 d).take 8)] = (R ++ bits5 d).take 8 := by rw [bitsOf_cons, h1]; simp [bitsOf]
        rw [e]
        simp only [List.flatMap_cons]
        have : (R ++ bits5 d).take 8 ++ (R ++ bits5 d).drop 8 = R ++ bits5 d := List.take_append_drop 8 _
        rw [List.append_assoc (bitsOf o), this]
        simp [List.append_assoc]
      · simp at i5 ⊢; omega
    · obtain ⟨i1, i2, i3, i4, i5⟩ := ih o (R ++ bits5 d) hb (by rw [hlen]; omega) ho
      refine ⟨?_, i2, i3, i4, by simp; omega⟩
      rw [i1]
      simp [List.append_assoc]
theorem enc_digits (ds : List Int) (h : ∀ d ∈ ds, 0 ≤ d ∧ d < 32) : enc (ds.flatMap bits5) = ds.map sg := by
  induction ds with
  | nil => rfl
  | cons d ds ih =>
    have hd := h d List.mem_cons_self
    simp only [List.flatMap_cons, bits5, List.cons_append, List.nil_append, enc, List.map_cons]
    rw [show 16 * (d / 16 % 2) + 8 * (d / 8 % 2) + 4 * (d / 4 % 2) + 2 * (d / 2 % 2) + d % 2 = d by omega]
    congr 1
    exact ih (fun x hx => h x (List.mem_cons_of_mem _ hx))
theorem digits_of {cs ds : List Int} (h : digits cs = some ds) : (∀ d ∈ ds, 0 ≤ d ∧ d < 32) ∧ ds.map (fun d => ((sg d).toNat : Int)) = cs ∧ ds.length = cs.length := by
  induction cs generalizing ds with
  | nil => obtain rfl := Option.some.inj h; simp
  | cons c cs ih =>
    unfold digits at h
    obtain ⟨d, hd, h⟩ := Option.bind_eq_some_iff.1 h
    obtain ⟨ds', hds, rfl⟩ := Option.map_eq_some_iff.1 h
    obtain ⟨i1, i2, i3⟩ := ih hds
    refine ⟨?_, ?_, by simp [i3]⟩
    · intro x hx
      rcases List.mem_cons.1 hx with rfl | hx
      · exact dg_range hd
      · exact i1 x hx
    · rw [List.map_cons, i2, sg_dg hd]
theorem digits_map (ds : List Int) (h : ∀ d ∈ ds, 0 ≤ d ∧ d < 32) : digits (ds.map fun d => ((sg d).toNat : Int)) = some ds := by
  induction ds with
  | nil => rfl
  | cons d ds ih =>
    have hd := h d List.mem_cons_self
    rw [List.map_cons, digits, dg_sg d hd.1 hd.2, ih (fun x hx => h x (List.mem_cons_of_mem _ hx))]
    rfl
theorem flat5_length (ds : List Int) : (ds.flatMap bits5).length = 5 * ds.length := by
  induction ds with
  | nil => rfl
  | cons d ds ih => simp only [List.flatMap_cons, List.length_append, ih, bits5, List.length_cons, List.length_nil]; omega
def readOf (cs : List Int) : List Int × Int := match digits cs with
  | none => ([], 40)
  | some ds => if 5 ≤ (take8 ds [] []).2.length then ([], 40) else if val (take8 ds [] []).2 = 0 then ((take8 ds [] []).1, 0) else ([], 40)
theorem read_back {cs ds : List Int} (h : digits cs = some ds) : (enc (bitsOf (take8 ds [] []).1) = ds.map sg ↔ (take8 ds [] []).2.length < 5 ∧ val (take8 ds [] []).2 = 0) := by
  obtain ⟨h1, h2, h3⟩ := digits_of h
  obtain ⟨t1, t2, t3, t4, t5⟩ := take8_spec ds [] [] (by intro b h; simp at h) (by simp) (by intro b h; simp at h)
  have t1' : bitsOf (take8 ds [] []).1 ++ (take8 ds [] []).2 = ds.flatMap bits5 := by simpa [bitsOf] using t1
  have hlen : ((bitsOf (take8 ds [] []).1).length + (take8 ds [] []).2.length) % 5 = 0 := by rw [← List.length_append, t1', flat5_length]; omega
  have he : enc (bitsOf (take8 ds [] []).1 ++ (take8 ds [] []).2) = ds.map sg := by rw [t1', enc_digits ds h1]
  constructor
  · intro hs
    exact enc_same _ _ (BitsOf _) t2 hlen (he.trans hs.symm)
  · intro ⟨hs, hv⟩
    rw [← he]
    have hz := val_zero _ t2 hv
    rw [hz]
    exact (enc_pad _ _ hs hlen).symm
theorem bitsOf_inj : ∀ a b : List Int, Bytes a → Bytes b → bitsOf a = bitsOf b → a = b := by
  intro a
  induction a with
  | nil => intro b _ _ h; cases b with
    | nil => rfl
    | cons y b => rw [bitsOf_cons] at h; simp [bitsOf, bits8] at h
  | cons x a ih =>
    intro b ha hb h
    cases b with
    | nil => rw [bitsOf_cons] at h; simp [bitsOf, bits8] at h
    | cons y b =>
      have hx := ha.head; have hy := hb.head
      rw [bitsOf_cons, bitsOf_cons] at h
      simp only [bits8, List.cons_append, List.nil_append, List.cons.injEq] at h
      obtain ⟨e1, e2, e3, e4, e5, e6, e7, e8, h⟩ := h
      rw [ih b ha.tail hb.tail h]
      congr 1
      omega
theorem enc_is_digits (B : List Int) (hB : Bits B) : ∃ ds : List Int, ∃ z, z < 5 ∧ (∀ d ∈ ds, 0 ≤ d ∧ d < 32) ∧ enc B = ds.map sg ∧ ds.flatMap bits5 = B ++ List.replicate z 0 := by
  have key : Bits B → ∃ ds : List Int, ∃ z, z < 5 ∧ (∀ d ∈ ds, 0 ≤ d ∧ d < 32) ∧ enc B = ds.map sg ∧ ds.flatMap bits5 = B ++ List.replicate z 0 := by
    refine five (P := fun B => Bits B → ∃ ds : List Int, ∃ z, z < 5 ∧ (∀ d ∈ ds, 0 ≤ d ∧ d < 32) ∧ enc B = ds.map sg ∧ ds.flatMap bits5 = B ++ List.replicate z 0) ?_ ?_ ?_ ?_ ?_ ?_ B
    · intro _; exact ⟨[], 0, by decide, by simp, rfl, rfl⟩
    · intro a h
      have ha := h.head
      refine ⟨[16 * a], 4, by decide, by intro d hd; rw [List.mem_singleton.1 hd]; omega, rfl, ?_⟩
      simp only [List.flatMap_cons, List.flatMap_nil, List.append_nil, bits5, List.cons_append, List.nil_append, List.replicate, List.cons.injEq, and_true]
      omega
    · intro a b h
      have ha := h.head; have hb := h.tail.head
      refine ⟨[16 * a + 8 * b], 3, by decide, by intro d hd; rw [List.mem_singleton.1 hd]; omega, rfl, ?_⟩
      simp only [List.flatMap_cons, List.flatMap_nil, List.append_nil, bits5, List.cons_append, List.nil_append, List.replicate, List.cons.injEq, and_true]
      omega
    · intro a b c h
      have ha := h.head; have hb := h.tail.head; have hc := h.tail.tail.head
      refine ⟨[16 * a + 8 * b + 4 * c], 2, by decide, by intro d hd; rw [List.mem_singleton.1 hd]; omega, rfl, ?_⟩
      simp only [List.flatMap_cons, List.flatMap_nil, List.append_nil, bits5, List.cons_append, List.nil_append, List.replicate, List.cons.injEq, and_true]
      omega
    · intro a b c d h
      have ha := h.head; have hb := h.tail.head; have hc := h.tail.tail.head; have hd := h.tail.tail.tail.head
      refine ⟨[16 * a + 8 * b + 4 * c + 2 * d], 1, by decide, by intro d hd; rw [List.mem_singleton.1 hd]; omega, rfl, ?_⟩
      simp only [List.flatMap_cons, List.flatMap_nil, List.append_nil, bits5, List.cons_append, List.nil_append, List.replicate, List.cons.injEq, and_true]
      omega
    · intro a b c d e r ih h
      have ha := h.head; have hb := h.tail.head; have hc := h.tail.tail.head; have hd := h.tail.tail.tail.head; have he := h.tail.tail.tail.tail.head
      obtain ⟨ds, z, hz, h1, h2, h3⟩ := ih h.tail.tail.tail.tail.tail
      refine ⟨(16 * a + 8 * b + 4 * c + 2 * d + e) :: ds, z, hz, ?_, ?_, ?_⟩
      · intro x hx
        rcases List.mem_cons.1 hx with rfl | hx
        · omega
        · exact h1 x hx
      · simp only [enc, List.map_cons, h2]
      · simp only [List.flatMap_cons, h3, bits5, List.cons_append, List.nil_append, List.cons.injEq, and_true]
        omega
  exact key hB
theorem read_written (l : List Int) (hl : Bytes l) : readOf ((enc (bitsOf l)).map fun c => (c.toNat : Int)) = (l, 0) := by
  obtain ⟨ds, z, hz, h1, h2, h3⟩ := enc_is_digits _ (BitsOf l)
  rw [h2, List.map_map]
  unfold readOf
  have hd : digits (List.map ((fun c => (c.toNat : Int)) ∘ sg) ds) = some ds := digits_map ds h1
  rw [hd]
  obtain ⟨t1, t2, t3, t4, t5⟩ := take8_spec ds [] [] (by intro b h; simp at h) (by simp) (by intro b h; simp at h)
  have t1' : bitsOf (take8 ds [] []).1 ++ (take8 ds [] []).2 = bitsOf l ++ List.replicate z 0 := by rw [← h3]; simpa [bitsOf] using t1
  have hlen := congrArg List.length t1'
  simp only [List.length_append, bitsOf_length, List.length_replicate] at hlen
  have e1 : (take8 ds [] []).1.length = l.length := by omega
  have e2 : (take8 ds [] []).2.length = z := by omega
  have e3 := List.append_inj t1' (by rw [bitsOf_length, bitsOf_length, e1])
  have e4 : (take8 ds [] []).1 = l := bitsOf_inj _ _ t4 hl e3.1
  dsimp only
  rw [if_neg (by omega), e3.2, val_replicate, if_pos rfl, e4]
end Go.Proofs.YtgljicdpcapgnaaGreatDoor.Sp
namespace Go.Proofs.YtgljicdpcapgnaaGreatDoor.PBase
open Go.RowKit Go.Proofs.YtgljicdpcapgnaaGreatDoorW.PrintWords Go.Proofs.YtgljicdpcapgnaaGreatDoorW.PrintLast Go.Proofs.YtgljicdpcapgnaaGreatDoorW.PrintMore
attribute [local go_sem] max2_int min2_int max_two min_two max_three min_three max_four min_four   -- for this text's walks alone
def errW : Option Int → Value
 | none => .nilIface
 | some c => .iface 0 (.int .i64 c)
theorem errW_none : errW none = .nilIface := rfl
theorem errW_some (c : Int) : errW (some c) = .iface 0 (.int .i64 c) := rfl
theorem info5 : (Tryz.prog.info? 5).map (fun i => (i.zero, i.size, i.bytes)) = some (some (.int .u8 0), 1, 1) := by kernel_rfl
theorem info45 : (Tryz.prog.info? 45).map (fun i => (i.zero, i.size, i.bytes)) = some (some (.int .u64 0), 1, 8) := by kernel_rfl
structure S74 where
 f0 : Int
 f1 : (List Int)
 f2 : Int
 f3 : Int
 f4 : (List Int)
def z74 : S74 := ⟨(0 : Int), ([] : List Int), (0 : Int), (0 : Int), ([] : List Int)⟩
def k74 : Kd S74 := Kd.iso (Kd.pair (Kd.int .u32) (Kd.pair (Kd.slice 5 (Kd.int .u8)) (Kd.pair (Kd.int .u64) (Kd.pair (Kd.int .u64) (Kd.slice 36 (Kd.int .u32)))))) (fun x : S74 => (x.f0, x.f1, x.f2, x.f3, x.f4))
theorem k74_open {w : World} {x : S74} {cs : List Value} (h : k74.K w x cs) : ∃ A1 c1 A4 c4, cs = [.int .u32 x.f0, .slice A1 x.f1.length c1, .int .u64 x.f2, .int .u64 x.f3, .slice A4 x.f4.length c4] ∧ x.f1.length ≤ c1 ∧ (Kd.int .u8).C w A1 x.f1.length x.f1 ∧ x.f4.length ≤ c4 ∧ (Kd.int .u32).C w A4 x.f4.length x.f4 := by
 obtain ⟨_, _, rfl, rfl, ⟨_, _, rfl, ⟨A1, c1, rfl, l1, g1⟩, ⟨_, _, rfl, rfl, ⟨_, _, rfl, rfl, ⟨A4, c4, rfl, l4, g4⟩⟩⟩⟩⟩ := h
 exact ⟨A1, c1, A4, c4, rfl, l1, g1, l4, g4⟩
theorem k74_mkM (w : World) (base : Nat) (ok : Nat → Prop) (x : S74) {v1 : Value} (g1 : (Kd.int .u8).R 5 w base ok v1 x.f1) {v4 : Value} (g4 : (Kd.int .u32).R 36 w base ok v4 x.f4) : k74.M w base ok x [.int .u32 x.f0, v1, .int .u64 x.f2, .int .u64 x.f3, v4] := ⟨[.int .u32 x.f0], [v1, .int .u64 x.f2, .int .u64 x.f3, v4], rfl, rfl, ⟨[v1], [.int .u64 x.f2, .int .u64 x.f3, v4], rfl, ⟨v1, rfl, g1⟩, ⟨[.int .u64 x.f2], [.int .u64 x.f3, v4], rfl, rfl, ⟨[.int .u64 x.f3], [v4], rfl, rfl, ⟨v4, rfl, g4⟩⟩⟩⟩⟩
def rd_T74 (xs : List S74) (i : Int) : S74 := xs.getD i.toNat z74
theorem at_T74 {w : World} {A : Option Addr} {n : Nat} {xs : List S74} (h : Kd.C k74 w A n xs) (i : Int) (h0 : 0 ≤ i) (h1 : i < n) : ∃ ad A1 c1 A4 c4, A = some ad ∧ w.cell? (ad.add (i.toNat * 5)) = some (.int .u32 (rd_T74 xs i).f0) ∧ w.cell? ⟨(ad.add (i.toNat * 5)).block, (ad.add (i.toNat * 5)).off + 1, none⟩ = some (.slice A1 (rd_T74 xs i).f1.length c1) ∧ w.cell? ⟨(ad.add (i.toNat * 5)).block, (ad.add (i.toNat * 5)).off + 2, none⟩ = some (.int .u64 (rd_T74 xs i).f2) ∧ w.cell? ⟨(ad.add (i.toNat * 5)).block, (ad.add (i.toNat * 5)).off + 3, none⟩ = some (.int .u64 (rd_T74 xs i).f3) ∧ w.cell? ⟨(ad.add (i.toNat * 5)).block, (ad.add (i.toNat * 5)).off + 4, none⟩ = some (.slice A4 (rd_T74 xs i).f4.length c4) ∧ (rd_T74 xs i).f1.length ≤ c1 ∧ (Kd.int .u8).C w A1 (rd_T74 xs i).f1.length (rd_T74 xs i).f1 ∧ (rd_T74 xs i).f4.length ≤ c4 ∧ (Kd.int .u32).C w A4 (rd_T74 xs i).f4.length (rd_T74 xs i).f4 := by
 obtain ⟨ad, c, e, _, hK, hc0⟩ := Kd.C_get h z74 i h0 h1
 have hc : ∀ j u, c[j]? = some u → w.cell? (ad.add (i.toNat * 5 + j)) = some u := hc0
 obtain ⟨A1, c1, A4, c4, rfl, l1, g1, l4, g4⟩ := k74_open hK
 exact ⟨ad, A1, c1, A4, c4, e, hc 0 _ rfl, by rw [← add_field _ _ 1 (by omega)]; exact hc 1 _ rfl, by rw [← add_field _ _ 2 (by omega)]; exact hc 2 _ rfl, by rw [← add_field _ _ 3 (by omega)]; exact hc 3 _ rfl, by rw [← add_field _ _ 4 (by omega)]; exact hc 4 _ rfl, l1, g1, l4, g4⟩
structure S67 where
 f0 : Int
 f1 : Int
 f2 : Int
 f3 : Int
 f4 : Int
 f5 : (List Int)
end Go.Proofs.YtgljicdpcapgnaaGreatDoor.PBase
namespace Go.Proofs.YtgljicdpcapgnaaGreatDoor.PBase
open Go.RowKit Go.Proofs.YtgljicdpcapgnaaGreatDoorW.PrintWords Go.Proofs.YtgljicdpcapgnaaGreatDoorW.PrintLast Go.Proofs.YtgljicdpcapgnaaGreatDoorW.PrintMore
attribute [local go_sem] max2_int min2_int max_two min_two max_three min_three max_four min_four   -- for this text's walks alone
def bits_RotateLeft32.f (a0 : Int) (a1 : Int) : Option (Int) := if 0 ≤ (Go.bits .and .u64 (IntKind.u64.wrap (a1)) 31) then (if 0 ≤ (IntKind.u64.wrap (32 - (Go.bits .and .u64 (IntKind.u64.wrap (a1)) 31))) then (some (Go.bits .or .u32 (shl .u32 a0 (Go.bits .and .u64 (IntKind.u64.wrap (a1)) 31)) (shr .u32 a0 (IntKind.u64.wrap (32 - (Go.bits .and .u64 (IntKind.u64.wrap (a1)) 31)))))) else (none)) else (none)
theorem bits_RotateLeft32.calls (a0 : Int) (a1 : Int) (r : Int) (w : World) (h : bits_RotateLeft32.f a0 a1 = some r) :
  Calls Tryz.prog 132 #[.int .u32 a0, .int .i64 a1] w fun e w' => e = .returned (.int .u32 r) ∧ Drawn0 w w' := by
 have H : (if 0 ≤ (Go.bits .and .u64 (IntKind.u64.wrap (a1)) 31) then (if 0 ≤ (IntKind.u64.wrap (32 - (Go.bits .and .u64 (IntKind.u64.wrap (a1)) 31))) then (some (Go.bits .or .u32 (shl .u32 a0 (Go.bits .and .u64 (IntKind.u64.wrap (a1)) 31)) (shr .u32 a0 (IntKind.u64.wrap (32 - (Go.bits .and .u64 (IntKind.u64.wrap (a1)) 31)))))) else (none)) else (none)) = some r := h
 clear h
 obtain ⟨ji3, hji3⟩ : ∃ j_ : Int, (Go.bits .and .u64 (IntKind.u64.wrap (a1)) 31) = j_ := ⟨_, rfl⟩
 replace H : (if 0 ≤ (ji3) then (if 0 ≤ (IntKind.u64.wrap (32 - (ji3))) then (some (Go.bits .or .u32 (shl .u32 a0 (ji3)) (shr .u32 a0 (IntKind.u64.wrap (32 - (ji3)))))) else (none)) else (none)) = some r := by first | (rw [hji3] at H; exact H) | (simp only [hji3] at H ⊢; exact H)
 by_cases c4 : 0 ≤ (ji3)
 ·rw [if_pos c4] at H
  have c4b0 := eq_true c4
  have c4b1 : decide (0 ≤ (ji3)) = true := decide_eq_true c4
  clear c4
  obtain ⟨ji5, hji5⟩ : ∃ j_ : Int, (shl .u32 a0 (ji3)) = j_ := ⟨_, rfl⟩
  replace H : (if 0 ≤ (IntKind.u64.wrap (32 - (ji3))) then (some (Go.bits .or .u32 (ji5) (shr .u32 a0 (IntKind.u64.wrap (32 - (ji3)))))) else (none)) = some r := by first | (rw [hji5] at H; exact H) | (simp only [hji5] at H ⊢; exact H)
  have hji5_ : (IntKind.u32.wrap (a0 * 2 ^ min (ji3).toNat 32)) = ji5 := hji5
  have hji5z : (ji3) ≤ 32 → (IntKind.u32.wrap (a0 * 2 ^ (ji3).toNat)) = ji5 := shl_small hji5
  obtain ⟨ji6, hji6⟩ : ∃ j_ : Int, (IntKind.u64.wrap (32 - (ji3))) = j_ := ⟨_, rfl⟩
  replace H : (if 0 ≤ (ji6) then (some (Go.bits .or .u32 (ji5) (shr .u32 a0 (ji6)))) else (none)) = some r := by first | (rw [hji6] at H; exact H) | (simp only [hji6] at H ⊢; exact H)
  by_cases c7 : 0 ≤ (ji6)
  ·rw [if_pos c7] at H
   have c7b0 := eq_true c7
   have c7b1 : decide (0 ≤ (ji6)) = true := decide_eq_true c7
   clear c7
   obtain ⟨ji8, hji8⟩ : ∃ j_ : Int, (shr .u32 a0 (ji6)) = j_ := ⟨_, rfl⟩
   replace H : (some (Go.bits .or .u32 (ji5) (ji8))) = some r := by first | (rw [hji8] at H; exact H) | (simp only [hji8] at H ⊢; exact H)
   have hji8_ : (a0 / 2 ^ min (ji6).toNat 32) = ji8 := hji8
   have hji8z : (ji6) ≤ 32 → (a0 / 2 ^ (ji6).toNat) = ji8 := shr_small hji8
   obtain rfl := Option.some.inj H
   go_enter Tryz.func132, Tryz.ntmps132
   go_wp2
   go_ret
   exact ⟨by first | rfl | (simp; done) | (simp only [← hji3, ← hji5, ← hji6, ← hji8] <;> (first | rfl | simp)) | (simp [*]; done), by repeat (first | exact Drawn0.refl _ | apply Drawn0.step)⟩
  ·rw [if_neg c7] at H
   exact absurd H (by simp)
 ·rw [if_neg c4] at H
  exact absurd H (by simp)
def sha_ror.f (a0 : Int) (a1 : Int) : Option (Int) := (bits_RotateLeft32.f a0 (wrap64 (-a1))).bind fun t101 => (some t101)
theorem sha_ror.calls (a0 : Int) (a1 : Int) (r : Int) (w : World) (h : sha_ror.f a0 a1 = some r) :
  Calls Tryz.prog 128 #[.int .u32 a0, .int .i64 a1] w fun e w' => e = .returned (.int .u32 r) ∧ Drawn0 w w' := by
 have H : ((bits_RotateLeft32.f a0 (wrap64 (-a1))).bind fun t101 => (some t101)) = some r := h
 clear h
 replace H := Option.bind_eq_some_iff.mp H
 obtain ⟨t101, A30, H⟩ := H
 replace H : (some t101) = some r := H
 have A3 := az A30
 clear A30
 obtain rfl := Option.some.inj H
 go_enter Tryz.func128, Tryz.ntmps128
 go_wp2_with (first | ((with_reducible refine gate_callee (f := 132) rfl ?_); refine goesL_ (some 8) rfl rfl Tryz.func132 (by kernel_rfl) rfl #[.int .u32 a0, .int .i64 (wrap64 (-a1))] rfl Rg.l2 ?_; (with_reducible refine (bits_RotateLeft32.calls a0 (wrap64 (-a1)) t101 _ A3.out).mono ?_); rintro e w' ⟨rfl, ⟨nd, rfl⟩⟩; refine ⟨_, rfl, ?_⟩))
 go_ret
 exact ⟨by first | rfl | (simp; done) | (simp [*]; done), by repeat (first | exact Drawn0.refl _ | apply Drawn0.step)⟩
def sha_four.f (l0 : List Int) : Option (Int) := if 0 < (l0.length : Int) then (if 1 < (l0.length : Int) then (if 2 < (l0.length : Int) then (if 3 < (l0.length : Int) then (some (Go.bits .or .u32 (Go.bits .or .u32 (Go.bits .or .u32 ((((rd l0 0) % 4294967296) * 16777216) % 4294967296) ((((rd l0 1) % 4294967296) * 65536) % 4294967296)) ((((rd l0 2) % 4294967296) * 256) % 4294967296)) ((rd l0 3) % 4294967296))) else (none)) else (none)) else (none)) else (none)
theorem sha_four.calls (A0 : Option Addr) (c0 : Nat) (l0 : List Int) (r : Int) (w : World) (hr0 : Kd.C (Kd.int .u8) w A0 l0.length l0) (hc0 : l0.length ≤ c0) (h : sha_four.f l0 = some r) :
  Calls Tryz.prog 127 #[.slice A0 l0.length c0] w fun e w' => e = .returned (.int .u32 r) ∧ Drawn0 w w' := by
 have HR0 := az hr0
 have HC0 := az hc0
 clear hr0 hc0
 have H : (if 0 < (l0.length : Int) then (if 1 < (l0.length : Int) then (if 2 < (l0.length : Int) then (if 3 < (l0.length : Int) then (some (Go.bits .or .u32 (Go.bits .or .u32 (Go.bits .or .u32 ((((rd l0 0) % 4294967296) * 16777216) % 4294967296) ((((rd l0 1) % 4294967296) * 65536) % 4294967296)) ((((rd l0 2) % 4294967296) * 256) % 4294967296)) ((rd l0 3) % 4294967296))) else (none)) else (none)) else (none)) else (none)) = some r := h
 clear h
 by_cases c2 : 0 < (l0.length : Int)
 ·rw [if_pos c2] at H
  have c2b0 : decide (0 < (l0.length : Int)) = true := decide_eq_true c2
  have c2b1 : decide (0 < l0.length) = true := decide_eq_true (by omega)
  clear c2
  by_cases c3 : 1 < (l0.length : Int)
  ·rw [if_pos c3] at H
   have c3b0 : decide (1 < (l0.length : Int)) = true := decide_eq_true c3
   have c3b1 : decide (1 < l0.length) = true := decide_eq_true (by omega)
   clear c3
   by_cases c4 : 2 < (l0.length : Int)
   ·rw [if_pos c4] at H
    have c4b0 : decide (2 < (l0.length : Int)) = true := decide_eq_true c4
    have c4b1 : decide (2 < l0.length) = true := decide_eq_true (by omega)
    clear c4
    by_cases c5 : 3 < (l0.length : Int)
    ·rw [if_pos c5] at H
     have c5b0 : decide (3 < (l0.length : Int)) = true := decide_eq_true c5
     have c5b1 : decide (3 < l0.length) = true := decide_eq_true (by omega)
     clear c5
     obtain rfl := Option.some.inj H
     have p102 : 0 ≤ (0 : Int) := (by omega)
     have q102 : 0 < (l0.length : Int) := of_decide_eq_true (by first | (with_reducible assumption) | assumption)
     obtain ⟨ad102, e102, hx102_0⟩ := Kd.at_int HR0.out 0 p102 q102
     cases e102
     have qi102 : (0 < l0.length) = True := eq_true (by omega)
     (try rw [show ((0 : Int)).toNat = 0 from rfl] at hx102_0)
     (try rw [Addr.add_zero'] at hx102_0)
     replace p102 := eq_true p102
     replace q102 := eq_true q102
     have p103 : 0 ≤ (1 : Int) := (by omega)
     have q103 : 1 < (l0.length : Int) := of_decide_eq_true (by first | (with_reducible assumption) | assumption)
     obtain ⟨ad103, e103, hx103_0⟩ := Kd.at_int HR0.out 1 p103 q103
     obtain rfl : ad102 = ad103 := (by injection e103)
     (try simp only [show (1 : Int).toNat = 1 from rfl, Nat.reduceMul, Nat.reduceEqDiff, Go.Addr.add, ↓reduceIte] at hx103_0)
     have qi103 : (1 < l0.length) = True := eq_true (by omega)
     (try rw [show ((1 : Int)).toNat = 1 from rfl] at hx103_0)
     replace p103 := eq_true p103
     replace q103 := eq_true q103
     have p104 : 0 ≤ (2 : Int) := (by omega)
     have q104 : 2 < (l0.length : Int) := of_decide_eq_true (by first | (with_reducible assumption) | assumption)
     obtain ⟨ad104, e104, hx104_0⟩ := Kd.at_int HR0.out 2 p104 q104
     obtain rfl : ad102 = ad104 := (by injection e104)
     (try simp only [show (2 : Int).toNat = 2 from rfl, Nat.reduceMul, Nat.reduceEqDiff, Go.Addr.add, ↓reduceIte] at hx104_0)
     have qi104 : (2 < l0.length) = True := eq_true (by omega)
     (try rw [show ((2 : Int)).toNat = 2 from rfl] at hx104_0)
     replace p104 := eq_true p104
     replace q104 := eq_true q104
     have p105 : 0 ≤ (3 : Int) := (by omega)
     have q105 : 3 < (l0.length : Int) := of_decide_eq_true (by first | (with_reducible assumption) | assumption)
     obtain ⟨ad105, e105, hx105_0⟩ := Kd.at_int HR0.out 3 p105 q105
     obtain rfl : ad102 = ad105 := (by injection e105)
     (try simp only [show (3 : Int).toNat = 3 from rfl, Nat.reduceMul, Nat.reduceEqDiff, Go.Addr.add, ↓reduceIte] at hx105_0)
     have qi105 : (3 < l0.length) = True := eq_true (by omega)
     (try rw [show ((3 : Int)).toNat = 3 from rfl] at hx105_0)
     replace p105 := eq_true p105
     replace q105 := eq_true q105
     go_enter Tryz.func127, Tryz.ntmps127
     go_wp2
     repeat (go_quiet (fail); try go_wp2)
     go_ret
     exact ⟨by first | rfl | (simp; done) | (simp [*]; done), by repeat (first | exact Drawn0.refl _ | apply Drawn0.step)⟩
    ·rw [if_neg c5] at H
     exact absurd H (by simp)
   ·rw [if_neg c4] at H
    exact absurd H (by simp)
  ·rw [if_neg c3] at H
   exact absurd H (by simp)
 ·rw [if_neg c2] at H
  exact absurd H (by simp)
def coamingref02_ror.f (a0 : Int) (a1 : Int) : Option (Int) := if 0 ≤ (IntKind.u64.wrap (a1)) then (if 0 ≤ (IntKind.u64.wrap (wrap64 (32 - a1))) then (some (Go.bits .or .u32 (shr .u32 a0 (IntKind.u64.wrap (a1))) (shl .u32 a0 (IntKind.u64.wrap (wrap64 (32 - a1)))))) else (none)) else (none)
theorem coamingref02_ror.calls (a0 : Int) (a1 : Int) (r : Int) (w : World) (h : coamingref02_ror.f a0 a1 = some r) :
  Calls Tryz.prog 131 #[.int .u32 a0, .int .i64 a1] w fun e w' => e = .returned (.int .u32 r) ∧ Drawn0 w w' := by
 have H : (if 0 ≤ (IntKind.u64.wrap (a1)) then (if 0 ≤ (IntKind.u64.wrap (wrap64 (32 - a1))) then (some (Go.bits .or .u32 (shr .u32 a0 (IntKind.u64.wrap (a1))) (shl .u32 a0 (IntKind.u64.wrap (wrap64 (32 - a1)))))) else (none)) else (none)) = some r := h
 clear h
 obtain ⟨ji3, hji3⟩ : ∃ j_ : Int, (IntKind.u64.wrap (a1)) = j_ := ⟨_, rfl⟩
 replace H : (if 0 ≤ (ji3) then (if 0 ≤ (IntKind.u64.wrap (wrap64 (32 - a1))) then (some (Go.bits .or .u32 (shr .u32 a0 (ji3)) (shl .u32 a0 (IntKind.u64.wrap (wrap64 (32 - a1)))))) else (none)) else (none)) = some r := by first | (rw [hji3] at H; exact H) | (simp only [hji3] at H ⊢; exact H)
 by_cases c4 : 0 ≤ (ji3)
 ·rw [if_pos c4] at H
  have c4b0 := eq_true c4
  have c4b1 : decide (0 ≤ (ji3)) = true := decide_eq_true c4
  clear c4
  obtain ⟨ji5, hji5⟩ : ∃ j_ : Int, (shr .u32 a0 (ji3)) = j_ := ⟨_, rfl⟩
  replace H : (if 0 ≤ (IntKind.u64.wrap (wrap64 (32 - a1))) then (some (Go.bits .or .u32 (ji5) (shl .u32 a0 (IntKind.u64.wrap (wrap64 (32 - a1)))))) else (none)) = some r := by first | (rw [hji5] at H; exact H) | (simp only [hji5] at H ⊢; exact H)
  have hji5_ : (a0 / 2 ^ min (ji3).toNat 32) = ji5 := hji5
  have hji5z : (ji3) ≤ 32 → (a0 / 2 ^ (ji3).toNat) = ji5 := shr_small hji5
  obtain ⟨ji6, hji6⟩ : ∃ j_ : Int, (IntKind.u64.wrap (wrap64 (32 - a1))) = j_ := ⟨_, rfl⟩
  replace H : (if 0 ≤ (ji6) then (some (Go.bits .or .u32 (ji5) (shl .u32 a0 (ji6)))) else (none)) = some r := by first | (rw [hji6] at H; exact H) | (simp only [hji6] at H ⊢; exact H)
  by_cases c7 : 0 ≤ (ji6)
  ·rw [if_pos c7] at H
   have c7b0 := eq_true c7
   have c7b1 : decide (0 ≤ (ji6)) = true := decide_eq_true c7
   clear c7
   obtain ⟨ji8, hji8⟩ : ∃ j_ : Int, (shl .u32 a0 (ji6)) = j_ := ⟨_, rfl⟩
   replace H : (some (Go.bits .or .u32 (ji5) (ji8))) = some r := by first | (rw [hji8] at H; exact H) | (simp only [hji8] at H ⊢; exact H)
   have hji8_ : (IntKind.u32.wrap (a0 * 2 ^ min (ji6).toNat 32)) = ji8 := hji8
   have hji8z : (ji6) ≤ 32 → (IntKind.u32.wrap (a0 * 2 ^ (ji6).toNat)) = ji8 := shl_small hji8
   obtain rfl := Option.some.inj H
   go_enter Tryz.func131, Tryz.ntmps131
   go_wp2
   go_ret
   exact ⟨by first | rfl | (simp; done) | (simp only [← hji3, ← hji5, ← hji6, ← hji8] <;> (first | rfl | simp)) | (simp [*]; done), by repeat (first | exact Drawn0.refl _ | apply Drawn0.step)⟩
  ·rw [if_neg c7] at H
   exact absurd H (by simp)
 ·rw [if_neg c4] at H
  exact absurd H (by simp)
end Go.Proofs.YtgljicdpcapgnaaGreatDoor.PBase
namespace Go.Proofs.YtgljicdpcapgnaaGreatDoor.PBase
open Go.RowKit Go.Proofs.YtgljicdpcapgnaaGreatDoorW.PrintWords Go.Proofs.YtgljicdpcapgnaaGreatDoorW.PrintLast Go.Proofs.YtgljicdpcapgnaaGreatDoorW.PrintMore
attribute [local go_sem] max2_int min2_int max_two min_two max_three min_three max_four min_four   -- for this text's walks alone
def mac_Same.l0 : Nat → List Int → List Int → Int → Int → Int → Option (Bool)
 | 0, _, _, _, _, _ => none
 | k + 1, x0, x1, x5, x13, x14 => if x14 < x13 then (if 0 ≤ x14 then (if x14 < (x0.length : Int) then (if x14 < (x1.length : Int) then (mac_Same.l0 k x0 x1 (Go.bits .or .u8 x5 (Go.bits .xor .u8 (rd x0 x14) (rd x1 x14))) x13 (wrap64 (x14 + 1))) else (none)) else (none)) else (none)) else (some (x5 == 0))
def mac_Same.f (k : Nat) (l0 : List Int) (l1 : List Int) : Option (Bool) := if (l0.length : Int) = (l1.length : Int) then (mac_Same.l0 k l0 l1 0 (l0.length : Int) 0) else (some false)
theorem mac_Same.calls (k : Nat) (A0 : Option Addr) (c0 : Nat) (l0 : List Int) (A1 : Option Addr) (c1 : Nat) (l1 : List Int) (r : Bool) (w : World) (hr0 : Kd.C (Kd.int .u8) w A0 l0.length l0) (hc0 : l0.length ≤ c0) (hr1 : Kd.C (Kd.int .u8) w A1 l1.length l1) (hc1 : l1.length ≤ c1) (h : mac_Same.f k l0 l1 = some r) :
  Calls Tryz.prog 105 #[.slice A0 l0.length c0, .slice A1 l1.length c1] w fun e w' => e = .returned (.bool r) ∧ Drawn0 w w' := by
 have HR0 := az hr0
 have HC0 := az hc0
 clear hr0 hc0
 have HR1 := az hr1
 have HC1 := az hc1
 clear hr1 hc1
 have H : (if (l0.length : Int) = (l1.length : Int) then (mac_Same.l0 k l0 l1 0 (l0.length : Int) 0) else (some false)) = some r := h
 clear h
 by_cases c3 : (l0.length : Int) = (l1.length : Int)
 ·rw [if_pos c3] at H
  have c3b0 : ((l0.length : Int) == (l1.length : Int)) = true := beq_iff_eq.mpr c3
  have c3b1 : ((l0.length : Int) != (l1.length : Int)) = false := bne_eq_false_iff_eq.mpr c3
  have c3b2 : (l0.length == l1.length) = true := by first | simpa using c3 | (simp at c3 ⊢; omega)
  clear c3
  have H' := az H
  clear H
  go_enter Tryz.func105, Tryz.ntmps105
  go_wp2
  repeat (go_quiet (fail); try go_wp2)
  go_loopg [5, 14] k (fun kq v5 v14 w' => ∃ (x5_1 : Int) (x14_1 : Int), v5 = .int .u8 x5_1 ∧ v14 = .int .i64 x14_1 ∧ Aside0 (mac_Same.l0 kq l0 l1 x5_1 (l0.length : Int) x14_1 = some r) ∧ Aside0 (kq ≤ k) ∧ Drawn0 w w')
  case atStart => exact ⟨(0), (0), (by first | rfl | (simp; done) | (simp [*]; done)), (by first | rfl | (simp; done) | (simp [*]; done)), H', ⟨Nat.le_refl _⟩, by repeat (first | exact Drawn0.refl _ | apply Drawn0.step)⟩
  case round =>
   clear H'
   try clear c1
   try clear p2
   try clear c3
   try clear c3b0
   try clear c3b1
   try clear c3b2
   obtain ⟨x5_1, x14_1, rfl, rfl, HA, HK1, ⟨m1, rfl⟩⟩ := hrel
   cases gk with
   | zero => exact absurd HA.out (by simp [mac_Same.l0])
   | succ k1 =>
    have H := HA.out
    clear HA
    simp only [mac_Same.l0] at H
    by_cases c4 : x14_1 < (l0.length : Int)
    ·rw [if_pos c4] at H
     have c4b0 : decide (x14_1 < (l0.length : Int)) = true := decide_eq_true c4
     clear c4
     by_cases c5 : 0 ≤ x14_1
     ·rw [if_pos c5] at H
      have c5b0 : decide (0 ≤ x14_1) = true := decide_eq_true c5
      clear c5
      by_cases c6 : x14_1 < (l0.length : Int)
      ·rw [if_pos c6] at H
       have c6b0 : decide (x14_1 < (l0.length : Int)) = true := decide_eq_true c6
       clear c6
       by_cases c7 : x14_1 < (l1.length : Int)
       ·rw [if_pos c7] at H
        have c7b0 : decide (x14_1 < (l1.length : Int)) = true := decide_eq_true c7
        clear c7
        have H' := az H
        clear H
        have p171 : 0 ≤ (x14_1 : Int) := of_decide_eq_true (by first | (with_reducible assumption) | assumption)
        have q171 : x14_1 < (l0.length : Int) := of_decide_eq_true (by first | (with_reducible assumption) | assumption)
        obtain ⟨ad171, e171, hx171_0⟩ := Kd.at_int HR0.out x14_1 p171 q171
        cases e171
        replace p171 := eq_true p171
        replace q171 := eq_true q171
        have p172 : 0 ≤ (x14_1 : Int) := of_decide_eq_true (by first | (with_reducible assumption) | assumption)
        have q172 : x14_1 < (l1.length : Int) := of_decide_eq_true (by first | (with_reducible assumption) | assumption)
        obtain ⟨ad172, e172, hx172_0⟩ := Kd.at_int HR1.out x14_1 p172 q172
        cases e172
        replace p172 := eq_true p172
        replace q172 := eq_true q172
        go_wp2
        repeat (go_quiet (fail); try go_wp2)
        go_roundg k1
        case measure => have := HK1.out; omega
        case rel => exact ⟨(Go.bits .or .u8 x5_1 (Go.bits .xor .u8 (rd l0 x14_1) (rd l1 x14_1))), (wrap64 (x14_1 + 1)), (by first | rfl | (simp; done) | (simp [*]; done)), (by first | rfl | (simp; done) | (simp [*]; done)), H', ⟨by have := HK1.out; omega⟩, by repeat (first | exact Drawn0.refl _ | apply Drawn0.step)⟩
       ·rw [if_neg c7] at H
        exact absurd H (by simp)
      ·rw [if_neg c6] at H
       exact absurd H (by simp)
     ·rw [if_neg c5] at H
      exact absurd H (by simp)
    ·rw [if_neg c4] at H
     have c4b0 : decide (x14_1 < (l0.length : Int)) = false := decide_eq_false c4
     clear c4
     obtain rfl := Option.some.inj H
     go_wp2
     repeat (go_quiet (fail); try go_wp2)
     go_ret
     exact ⟨by first | rfl | (simp; done) | (simp [*]; done), by repeat (first | exact Drawn0.refl _ | apply Drawn0.step)⟩
 ·rw [if_neg c3] at H
  have c3b0 : ((l0.length : Int) == (l1.length : Int)) = false := beq_eq_false_iff_ne.mpr c3
  have c3b1 : ((l0.length : Int) != (l1.length : Int)) = true := bne_iff_ne.mpr c3
  have c3b2 : (l0.length == l1.length) = false := by first | simpa using c3 | (simp at c3 ⊢; omega)
  obtain rfl := Option.some.inj H
  go_enter Tryz.func105, Tryz.ntmps105
  go_wp2
  repeat (go_quiet (fail); try go_wp2)
  go_ret
  exact ⟨by first | rfl | (simp; done) | (simp [*]; done), by repeat (first | exact Drawn0.refl _ | apply Drawn0.step)⟩
def spell_number.j0 : Nat → Int → Bool → Option (Int × Bool)
 | 0, _, _ => none
 | k + 1, x0, x4 => if x4 = true then (some ((x0 - 97) % 256, true)) else (if x0 ≥ 50 then (if x0 ≤ 55 then (some (((x0 - 50) % 256) + 26, true)) else (some (0, false))) else (some (0, false)))
def spell_number.f (k : Nat) (a0 : Int) : Option (Int × Bool) := if a0 ≥ 97 then (spell_number.j0 k a0 (decide (a0 ≤ 122))) else (spell_number.j0 k a0 false)
theorem spell_number.calls (k : Nat) (a0 : Int) (r1 : Int) (r2 : Bool) (w : World) (h : spell_number.f k a0 = some (r1, r2)) :
  Calls Tryz.prog 124 #[.int .u8 a0] w fun e w' => e = .returned (.tuple #[.int .u64 r1, .bool r2]) ∧ Drawn0 w w' := by
 have H : (if a0 ≥ 97 then (spell_number.j0 k a0 (decide (a0 ≤ 122))) else (spell_number.j0 k a0 false)) = some (r1, r2) := h
 clear h
 have HC2 := az H
 clear H
 go_enter Tryz.func124, Tryz.ntmps124
 go_upto_region 1 with (fail)
 go_cut [4] (fun v4 wc => ∃ (kq : Nat) (x4_1 : Bool), v4 = .bool x4_1 ∧ Aside0 (spell_number.j0 kq a0 x4_1 = some (r1, r2)) ∧ Aside0 (kq ≤ k) ∧ Drawn0 w wc)
 case first =>
  have H := HC2.out
  clear HC2
  by_cases c3 : a0 ≥ 97
  ·rw [if_pos c3] at H
   have c3b0 : decide (97 ≤ a0) = true := decide_eq_true c3
   clear c3
   (first | rw [c3b0] | (simp only [i64_w, i32_w]; rw [c3b0]) | skip)
   have H' := az H
   clear H
   go_wp2
   go_meet
   case rel => exact ⟨_, (decide (a0 ≤ 122)), (by first | rfl | (simp; done) | (simp [*]; done)), H', ⟨by first | omega | exact Nat.le_refl _⟩, by repeat (first | exact Drawn0.refl _ | apply Drawn0.step)⟩
  ·rw [if_neg c3] at H
   have c3b0 : decide (97 ≤ a0) = false := decide_eq_false c3
   clear c3
   (first | rw [c3b0] | (simp only [i64_w, i32_w]; rw [c3b0]) | skip)
   have H' := az H
   clear H
   go_wp2
   go_meet
   case rel => exact ⟨_, (false), (by first | rfl | (simp; done) | (simp [*]; done)), H', ⟨by first | omega | exact Nat.le_refl _⟩, by repeat (first | exact Drawn0.refl _ | apply Drawn0.step)⟩
 case rest =>
  clear HC2
  try clear c1
  try clear p2
  try clear c3
  try clear c3b0
  obtain ⟨kq, x4_1, rfl, HA, HJ1, ⟨mc1, rfl⟩⟩ := hcut
  cases kq with
  | zero => exact absurd HA.out (by simp [spell_number.j0])
  | succ kj1 =>
   have H := HA.out
   clear HA
   simp only [spell_number.j0] at H
   by_cases c4 : x4_1 = true
   ·subst c4
    have H1 : (some ((a0 - 97) % 256, true)) = some (r1, r2) := by rw [if_pos rfl] at H; exact H
    clear H
    have H := H1
    clear H1
    simp only [Option.some.injEq, Prod.mk.injEq] at H
    obtain ⟨rfl, rfl⟩ := H
    go_wp2
    go_ret2
    exact ⟨by first | rfl | (simp; done) | (simp [*]; done), by repeat (first | exact Drawn0.refl _ | apply Drawn0.step)⟩
   ·replace c4 := Bool.eq_false_iff.mpr c4
    subst c4
    have H1 : (if a0 ≥ 50 then (if a0 ≤ 55 then (some (((a0 - 50) % 256) + 26, true)) else (some (0, false))) else (some (0, false))) = some (r1, r2) := by rw [if_neg (show ¬ (false = true) by decide)] at H; exact H
    clear H
    have H := H1
    clear H1
    by_cases c5 : a0 ≥ 50
    ·rw [if_pos c5] at H
     have c5b0 : decide (50 ≤ a0) = true := decide_eq_true c5
     clear c5
     by_cases c6 : a0 ≤ 55
     ·rw [if_pos c6] at H
      have c6b0 : decide (a0 ≤ 55) = true := decide_eq_true c6
      clear c6
      simp only [Option.some.injEq, Prod.mk.injEq] at H
      obtain ⟨rfl, rfl⟩ := H
      go_wp2
      go_ret2
      exact ⟨by first | rfl | (simp; done) | (simp [*]; done), by repeat (first | exact Drawn0.refl _ | apply Drawn0.step)⟩
     ·rw [if_neg c6] at H
      have c6b0 : decide (a0 ≤ 55) = false := decide_eq_false c6
      clear c6
      simp only [Option.some.injEq, Prod.mk.injEq] at H
      obtain ⟨rfl, rfl⟩ := H
      go_wp2
      go_ret2
      exact ⟨by first | rfl | (simp; done) | (simp [*]; done), by repeat (first | exact Drawn0.refl _ | apply Drawn0.step)⟩
    ·rw [if_neg c5] at H
     have c5b0 : decide (50 ≤ a0) = false := decide_eq_false c5
     clear c5
     simp only [Option.some.injEq, Prod.mk.injEq] at H
     obtain ⟨rfl, rfl⟩ := H
     go_wp2
     go_ret2
     exact ⟨by first | rfl | (simp; done) | (simp [*]; done), by repeat (first | exact Drawn0.refl _ | apply Drawn0.step)⟩
def spell_Read.l0 : Nat → ByteArray → List Int → Int → Int → Int → Int → Option (List Int × Int)
 | 0, _, _, _, _, _, _ => none
 | k + 1, x0, x4, x5, x6, x11, x12 => if x12 < x11 then (if 0 ≤ x12 then (if x12 < (x0.size : Int) then ((spell_number.f k (bt x0 x12)).bind fun bt173 => (if bt173.2 = true then (if (wrap64 (x6 + 5)) ≥ 8 then (if 0 ≤ (wrap64 ((wrap64 (x6 + 5)) - 8)) then (if x4.length < 140737488355328 then (spell_Read.l0 k x0 (x4 ++ [(shr .u64 (Go.bits .or .u64 (IntKind.u64.wrap (x5 * 32)) bt173.1) (wrap64 ((wrap64 (x6 + 5)) - 8))) % 256]) (Go.bits .and .u64 (Go.bits .or .u64 (IntKind.u64.wrap (x5 * 32)) bt173.1) (IntKind.u64.wrap ((shl .u64 1 (wrap64 ((wrap64 (x6 + 5)) - 8))) - 1))) (wrap64 ((wrap64 (x6 + 5)) - 8)) x11 (wrap64 (x12 + 1))) else (none)) else (none)) else (spell_Read.l0 k x0 x4 (Go.bits .or .u64 (IntKind.u64.wrap (x5 * 32)) bt173.1) (wrap64 (x6 + 5)) x11 (wrap64 (x12 + 1)))) else (some (([] : List Int), 40)))) else (none)) else (none)) else (if x6 ≥ 5 then (some (([] : List Int), 40)) else (if x5 = 0 then (some (x4, 0)) else (some (([] : List Int), 40))))
def spell_Read.f (k : Nat) (a0 : ByteArray) : Option (List Int × Int) := spell_Read.l0 k a0 ([] : List Int) 0 0 (a0.size : Int) 0
theorem spell_Read.calls (k : Nat) (a0 : ByteArray) (r1 : List Int) (r2 : Int) (w : World) (h : spell_Read.f k a0 = some (r1, r2)) :
  Calls Tryz.prog 114 #[.string a0] w fun e w' => ∃ v0_ : Value, e = .returned (.tuple #[v0_, .int .u16 r2]) ∧ Kd.R (Kd.int .u8) 5 w' w.heap.size (fun _ => True) v0_ r1 ∧ Below w.heap.size w w' := by
 have HB := az (Below.refl w.heap.size w)
 have H : (spell_Read.l0 k a0 ([] : List Int) 0 0 (a0.size : Int) 0) = some (r1, r2) := h
 clear h
 have H' := az H
 clear H
 go_enter Tryz.func114, Tryz.ntmps114
 go_wp2
 go_loopg [4, 5, 6, 12] k (fun kq v4 v5 v6 v12 w' => ∃ (x4_1 : List Int) (x5_1 : Int) (x6_1 : Int) (x12_1 : Int), v5 = .int .u64 x5_1 ∧ v6 = .int .i64 x6_1 ∧ v12 = .int .i64 x12_1 ∧ Aside0 (spell_Read.l0 kq a0 x4_1 x5_1 x6_1 (a0.size : Int) x12_1 = some (r1, r2)) ∧ Aside0 (kq ≤ k) ∧ Aside0 (Kd.R (Kd.int .u8) 5 w' w.heap.size (fun _ => True) v4 x4_1) ∧ Aside0 (Below w.heap.size w w'))
 case atStart => exact ⟨(([] : List Int)), (0), (0), (0), (by first | rfl | (simp; done) | (simp [*]; done)), (by first | rfl | (simp; done) | (simp [*]; done)), (by first | rfl | (simp; done) | (simp [*]; done)), H', ⟨Nat.le_refl _⟩, ⟨by first | exact Kd.R_nil _ _ _ _ _ | exact Kd.N_nil _ _ _ _ _ | exact Kd.V_nil _ _ _ _ _ | exact Kd.Q_nil _ _ _ _ _ | exact Kd.S_nil _ _ _ _ _⟩, ⟨Rg.b2⟩⟩
 case round =>
  clear H'
  try clear c1
  obtain ⟨x4_1, x5_1, x6_1, x12_1, rfl, rfl, rfl, HA, HK1, HO_4, HB⟩ := hrel
  cases gk with
  | zero => exact absurd HA.out (by simp [spell_Read.l0])
  | succ k1 =>
   have H := HA.out
   clear HA
   simp only [spell_Read.l0] at H
   by_cases c2 : x12_1 < (a0.size : Int)
   ·rw [if_pos c2] at H
    have c2b0 : decide (x12_1 < (a0.size : Int)) = true := decide_eq_true c2
    clear c2
    by_cases c3 : 0 ≤ x12_1
    ·rw [if_pos c3] at H
     have c3b0 : decide (0 ≤ x12_1) = true := decide_eq_true c3
     clear c3
     by_cases c4 : x12_1 < (a0.size : Int)
     ·rw [if_pos c4] at H
      have c4b0 : decide (x12_1 < (a0.size : Int)) = true := decide_eq_true c4
      clear c4
      replace H := Option.bind_eq_some_iff.mp H
      obtain ⟨⟨t173, t174⟩, A60, H⟩ := H
      replace H : (if t174 = true then (if (wrap64 (x6_1 + 5)) ≥ 8 then (if 0 ≤ (wrap64 ((wrap64 (x6_1 + 5)) - 8)) then (if x4_1.length < 140737488355328 then (spell_Read.l0 k1 a0 (x4_1 ++ [(shr .u64 (Go.bits .or .u64 (IntKind.u64.wrap (x5_1 * 32)) t173) (wrap64 ((wrap64 (x6_1 + 5)) - 8))) % 256]) (Go.bits .and .u64 (Go.bits .or .u64 (IntKind.u64.wrap (x5_1 * 32)) t173) (IntKind.u64.wrap ((shl .u64 1 (wrap64 ((wrap64 (x6_1 + 5)) - 8))) - 1))) (wrap64 ((wrap64 (x6_1 + 5)) - 8)) (a0.size : Int) (wrap64 (x12_1 + 1))) else (none)) else (none)) else (spell_Read.l0 k1 a0 x4_1 (Go.bits .or .u64 (IntKind.u64.wrap (x5_1 * 32)) t173) (wrap64 (x6_1 + 5)) (a0.size : Int) (wrap64 (x12_1 + 1)))) else (some (([] : List Int), 40))) = some (r1, r2) := H
      have A6 := az A60
      clear A60
      by_cases c7 : t174 = true
      ·subst c7
       have H1 : (if (wrap64 (x6_1 + 5)) ≥ 8 then (if 0 ≤ (wrap64 ((wrap64 (x6_1 + 5)) - 8)) then (if x4_1.length < 140737488355328 then (spell_Read.l0 k1 a0 (x4_1 ++ [(shr .u64 (Go.bits .or .u64 (IntKind.u64.wrap (x5_1 * 32)) t173) (wrap64 ((wrap64 (x6_1 + 5)) - 8))) % 256]) (Go.bits .and .u64 (Go.bits .or .u64 (IntKind.u64.wrap (x5_1 * 32)) t173) (IntKind.u64.wrap ((shl .u64 1 (wrap64 ((wrap64 (x6_1 + 5)) - 8))) - 1))) (wrap64 ((wrap64 (x6_1 + 5)) - 8)) (a0.size : Int) (wrap64 (x12_1 + 1))) else (none)) else (none)) else (spell_Read.l0 k1 a0 x4_1 (Go.bits .or .u64 (IntKind.u64.wrap (x5_1 * 32)) t173) (wrap64 (x6_1 + 5)) (a0.size : Int) (wrap64 (x12_1 + 1)))) = some (r1, r2) := by rw [if_pos rfl] at H; exact H
       clear H
       have H := H1
       clear H1
       by_cases c8 : (wrap64 (x6_1 + 5)) ≥ 8
       ·rw [if_pos c8] at H
        have c8b0 : decide (8 ≤ (wrap64 (x6_1 + 5))) = true := decide_eq_true c8
        clear c8
        obtain ⟨ji9, hji9⟩ : ∃ j_ : Int, (wrap64 ((wrap64 (x6_1 + 5)) - 8)) = j_ := ⟨_, rfl⟩
        replace H : (if 0 ≤ (ji9) then (if x4_1.length < 140737488355328 then (spell_Read.l0 k1 a0 (x4_1 ++ [(shr .u64 (Go.bits .or .u64 (IntKind.u64.wrap (x5_1 * 32)) t173) (ji9)) % 256]) (Go.bits .and .u64 (Go.bits .or .u64 (IntKind.u64.wrap (x5_1 * 32)) t173) (IntKind.u64.wrap ((shl .u64 1 (ji9)) - 1))) ji9 (a0.size : Int) (wrap64 (x12_1 + 1))) else (none)) else (none)) = some (r1, r2) := by first | (rw [hji9] at H; exact H) | (simp only [hji9] at H ⊢; exact H)
        (try rw [hji9] at A6)
        have hji9w : (IntKind.i64.wrap ((wrap64 (x6_1 + 5)) - 8)) = ji9 := (i64_w _).trans hji9
        by_cases c10 : 0 ≤ (ji9)
        ·rw [if_pos c10] at H
         have c10b0 := eq_true c10
         have c10b1 : decide (0 ≤ (ji9)) = true := decide_eq_true c10
         clear c10
         obtain ⟨ji11, hji11⟩ : ∃ j_ : Int, (shr .u64 (Go.bits .or .u64 (IntKind.u64.wrap (x5_1 * 32)) t173) (ji9)) = j_ := ⟨_, rfl⟩
         replace H : (if x4_1.length < 140737488355328 then (spell_Read.l0 k1 a0 (x4_1 ++ [(ji11) % 256]) (Go.bits .and .u64 (Go.bits .or .u64 (IntKind.u64.wrap (x5_1 * 32)) t173) (IntKind.u64.wrap ((shl .u64 1 (ji9)) - 1))) ji9 (a0.size : Int) (wrap64 (x12_1 + 1))) else (none)) = some (r1, r2) := by first | (rw [hji11] at H; exact H) | (simp only [hji11] at H ⊢; exact H)
         (try rw [hji11] at A6)
         have hji11_ : ((Go.bits .or .u64 (IntKind.u64.wrap (x5_1 * 32)) t173) / 2 ^ min (ji9).toNat 64) = ji11 := hji11
         have hji11z : (ji9) ≤ 64 → ((Go.bits .or .u64 (IntKind.u64.wrap (x5_1 * 32)) t173) / 2 ^ (ji9).toNat) = ji11 := shr_small hji11
         by_cases c12 : x4_1.length < 140737488355328
         ·rw [if_pos c12] at H
          have LMc12 := az c12
          clear c12
          obtain ⟨y175, hy175⟩ : ∃ y_ : List Int, y_ = (x4_1 ++ [(ji11) % 256]) := ⟨_, rfl⟩
          replace H : (spell_Read.l0 k1 a0 y175 (Go.bits .and .u64 (Go.bits .or .u64 (IntKind.u64.wrap (x5_1 * 32)) t173) (IntKind.u64.wrap ((shl .u64 1 (ji9)) - 1))) ji9 (a0.size : Int) (wrap64 (x12_1 + 1))) = some (r1, r2) := by first | (rw [hy175]; with_reducible exact H) | (have H2_ := (Option.bind_some _ _).symm.trans H; rw [hy175]; with_reducible exact H2_) | (have H2_ := (Option.bind_some _ _).symm.trans H; with_reducible exact H2_) | with_reducible exact H | (rw [hy175]; exact H) | exact H
          have Ny175 := az hy175
          clear hy175
          have c13b0 := eq_true (of_decide_eq_true (by first | (with_reducible assumption) | assumption) : 0 ≤ (ji9))
          obtain ⟨ji14, hji14⟩ : ∃ j_ : Int, (shl .u64 1 (ji9)) = j_ := ⟨_, rfl⟩
          replace H : (spell_Read.l0 k1 a0 y175 (Go.bits .and .u64 (Go.bits .or .u64 (IntKind.u64.wrap (x5_1 * 32)) t173) (IntKind.u64.wrap ((ji14) - 1))) ji9 (a0.size : Int) (wrap64 (x12_1 + 1))) = some (r1, r2) := by first | (rw [hji14] at H; exact H) | (simp only [hji14] at H ⊢; exact H)
          (try rw [hji14] at A6)
          have hji14_ : (IntKind.u64.wrap (1 * 2 ^ min (ji9).toNat 64)) = ji14 := hji14
          have hji14z : (ji9) ≤ 64 → (IntKind.u64.wrap (1 * 2 ^ (ji9).toNat)) = ji14 := shl_small hji14
          have hji14u : (IntKind.u64.wrap (2 ^ min (ji9).toNat 64)) = ji14 := by have h_ := hji14_; rw [Int.one_mul] at h_; exact h_
          have hji14v : (ji9) ≤ 64 → (IntKind.u64.wrap (2 ^ (ji9).toNat)) = ji14 := fun hle_ => by have h_ := hji14z hle_; rw [Int.one_mul] at h_; exact h_
          have H' := az H
          clear H
          have p5 : 0 ≤ (x12_1 : Int) := of_decide_eq_true (by first | (with_reducible assumption) | assumption)
          have q5 : x12_1 < (a0.size : Int) := of_decide_eq_true (by first | (with_reducible assumption) | assumption)
          have hx5 := bt_at a0 x12_1
          replace p5 := eq_true p5
          replace q5 := eq_true q5
          go_wp2_with (first | ((with_reducible refine gate_callee (f := 124) rfl ?_); refine goesL_ (some 19) rfl rfl Tryz.func124 (by kernel_rfl) rfl #[.int .u8 (bt a0 x12_1)] rfl Rg.l2 ?_; (with_reducible refine (spell_number.calls k1 (bt a0 x12_1) t173 true _ A6.out).mono ?_); rintro e w' ⟨rfl, ⟨nd, rfl⟩⟩; refine ⟨_, rfl, ?_⟩) | ((with_reducible refine gate_builtin (b := .append) (xs := #[.tmp 34, .tmp 39]) rfl ?_); at_builtin; refine Kd.R_append (Kd.int .u8) (w0 := w) w.heap.size rfl (.tmp 34) (.tmp 39) 35 5 (.int .u8 0) 1 rfl Tryz.underlying35 info5 rfl (by decide) (by omega) u4 x4_1 ((ji11) % 256) [.int .u8 ((ji11) % 256)] (fun _ => True) (fun _ => False) rfl rfl ?aP (fun _ hk => hk.elim) ?aF ?aO ?aB ?aS ?aL ?_; (case aP => exact rfl); (case aB => exact (Rg.b2)); (case aF => exact (fun _ _ => trivial)); (case aO => exact (by (with_reducible repeat (first | apply Kd.R_alloc | apply Kd.R_drewN | apply Kd.R_drew)); exact HO_4.out)); (case aS => exact (below_size (Rg.b2))); (case aL => have := LMc12.out; omega); intro v176 w15 ho hb hg hat; rw [← Ny175.out] at ho; have n0_ := az (hb); have n1_ := az (ho); clear HB; clear HO_4; have HB := n0_; have HO177 := n1_; clear n0_ n1_; clear ho hb hg hat))
          go_roundg k1
          case measure => have := HK1.out; omega
          case rel => exact ⟨(y175), (Go.bits .and .u64 (Go.bits .or .u64 (IntKind.u64.wrap (x5_1 * 32)) t173) (IntKind.u64.wrap ((ji14) - 1))), (ji9), (wrap64 (x12_1 + 1)), (by first | rfl | (simp; done) | (simp only [← hji14] <;> (first | rfl | simp)) | (simp [*]; done)), (by first | rfl | (simp; done) | (simp only [← hji9] <;> (first | rfl | simp)) | (simp [*]; done)), (by first | rfl | (simp; done) | (simp [*]; done)), H', ⟨by have := HK1.out; omega⟩, ⟨by (with_reducible repeat (first | apply Kd.R_alloc | apply Kd.R_drewN | apply Kd.R_drew)); exact HO177.out⟩, ⟨Rg.b2⟩⟩
         ·rw [if_neg c12] at H
          exact absurd H (by simp)
        ·rw [if_neg c10] at H
         exact absurd H (by simp)
       ·rw [if_neg c8] at H
        have c8b0 : decide (8 ≤ (wrap64 (x6_1 + 5))) = false := decide_eq_false c8
        clear c8
        have H' := az H
        clear H
        have p5 : 0 ≤ (x12_1 : Int) := of_decide_eq_true (by first | (with_reducible assumption) | assumption)
        have q5 : x12_1 < (a0.size : Int) := of_decide_eq_true (by first | (with_reducible assumption) | assumption)
        have hx5 := bt_at a0 x12_1
        replace p5 := eq_true p5
        replace q5 := eq_true q5
        go_wp2_with (first | ((with_reducible refine gate_callee (f := 124) rfl ?_); refine goesL_ (some 19) rfl rfl Tryz.func124 (by kernel_rfl) rfl #[.int .u8 (bt a0 x12_1)] rfl Rg.l2 ?_; (with_reducible refine (spell_number.calls k1 (bt a0 x12_1) t173 true _ A6.out).mono ?_); rintro e w' ⟨rfl, ⟨nd, rfl⟩⟩; refine ⟨_, rfl, ?_⟩))
        go_roundg k1
        case measure => have := HK1.out; omega
        case rel => exact ⟨(x4_1), (Go.bits .or .u64 (IntKind.u64.wrap (x5_1 * 32)) t173), (wrap64 (x6_1 + 5)), (wrap64 (x12_1 + 1)), (by first | rfl | (simp; done) | (simp [*]; done)), (by first | rfl | (simp; done) | (simp [*]; done)), (by first | rfl | (simp; done) | (simp [*]; done)), H', ⟨by have := HK1.out; omega⟩, ⟨by (with_reducible repeat (first | apply Kd.R_alloc | apply Kd.R_drewN | apply Kd.R_drew)); exact HO_4.out⟩, ⟨Rg.b2⟩⟩
      ·replace c7 := Bool.eq_false_iff.mpr c7
       subst c7
       have H1 : (some (([] : List Int), 40)) = some (r1, r2) := by rw [if_neg (show ¬ (false = true) by decide)] at H; exact H
       clear H
       have H := H1
       clear H1
       simp only [Option.some.injEq, Prod.mk.injEq] at H
       obtain ⟨rfl, rfl⟩ := H
       have p5 : 0 ≤ (x12_1 : Int) := of_decide_eq_true (by first | (with_reducible assumption) | assumption)
       have q5 : x12_1 < (a0.size : Int) := of_decide_eq_true (by first | (with_reducible assumption) | assumption)
       have hx5 := bt_at a0 x12_1
       replace p5 := eq_true p5
       replace q5 := eq_true q5
       go_wp2_with (first | ((with_reducible refine gate_callee (f := 124) rfl ?_); refine goesL_ (some 19) rfl rfl Tryz.func124 (by kernel_rfl) rfl #[.int .u8 (bt a0 x12_1)] rfl Rg.l2 ?_; (with_reducible refine (spell_number.calls k1 (bt a0 x12_1) t173 false _ A6.out).mono ?_); rintro e w' ⟨rfl, ⟨nd, rfl⟩⟩; refine ⟨_, rfl, ?_⟩))
       go_ret2
       exact ⟨_, by first | rfl | (simp [errW_none, errW_some] <;> rfl) | (simp [*, errW_none, errW_some] <;> rfl), by first | exact Kd.R_nil _ _ _ _ _ | exact Kd.N_nil _ _ _ _ _ | exact Kd.V_nil _ _ _ _ _ | exact Kd.Q_nil _ _ _ _ _ | exact Kd.S_nil _ _ _ _ _, Rg.b2⟩
     ·rw [if_neg c4] at H
      exact absurd H (by simp)
    ·rw [if_neg c3] at H
     exact absurd H (by simp)
   ·rw [if_neg c2] at H
    have c2b0 : decide (x12_1 < (a0.size : Int)) = false := decide_eq_false c2
    clear c2
    by_cases c16 : x6_1 ≥ 5
    ·rw [if_pos c16] at H
     have c16b0 : decide (5 ≤ x6_1) = true := decide_eq_true c16
     clear c16
     simp only [Option.some.injEq, Prod.mk.injEq] at H
     obtain ⟨rfl, rfl⟩ := H
     go_wp2
     go_ret2
     exact ⟨_, by first | rfl | (simp [errW_none, errW_some] <;> rfl) | (simp [*, errW_none, errW_some] <;> rfl), by first | exact Kd.R_nil _ _ _ _ _ | exact Kd.N_nil _ _ _ _ _ | exact Kd.V_nil _ _ _ _ _ | exact Kd.Q_nil _ _ _ _ _ | exact Kd.S_nil _ _ _ _ _, Rg.b2⟩
    ·rw [if_neg c16] at H
     have c16b0 : decide (5 ≤ x6_1) = false := decide_eq_false c16
     clear c16
     by_cases c17 : x5_1 = 0
     ·rw [if_pos c17] at H
      have c17b0 : (x5_1 == 0) = true := beq_iff_eq.mpr c17
      have c17b1 : (x5_1 != 0) = false := bne_eq_false_iff_eq.mpr c17
      clear c17
      simp only [Option.some.injEq, Prod.mk.injEq] at H
      obtain ⟨rfl, rfl⟩ := H
      go_wp2
      go_ret2
      exact ⟨_, by first | rfl | (simp [errW_none, errW_some] <;> rfl) | (simp [*, errW_none, errW_some] <;> rfl), by (with_reducible repeat (first | apply Kd.R_alloc | apply Kd.R_drewN | apply Kd.R_drew)); exact HO_4.out, Rg.b2⟩
     ·rw [if_neg c17] at H
      have c17b0 : (x5_1 == 0) = false := beq_eq_false_iff_ne.mpr c17
      have c17b1 : (x5_1 != 0) = true := bne_iff_ne.mpr c17
      simp only [Option.some.injEq, Prod.mk.injEq] at H
      obtain ⟨rfl, rfl⟩ := H
      go_wp2
      go_ret2
      exact ⟨_, by first | rfl | (simp [errW_none, errW_some] <;> rfl) | (simp [*, errW_none, errW_some] <;> rfl), by first | exact Kd.R_nil _ _ _ _ _ | exact Kd.N_nil _ _ _ _ _ | exact Kd.V_nil _ _ _ _ _ | exact Kd.Q_nil _ _ _ _ _ | exact Kd.S_nil _ _ _ _ _, Rg.b2⟩
mutual
def coamingref04_Write.l0 : Nat → List Int → ByteArray → Int → Option (ByteArray)
 | 0, _, _, _ => none
 | k + 1, x0, x3, x4 => if x4 < (wrap64 (8 * (x0.length : Int))) then (coamingref04_Write.l1 k x0 x3 x4 0 x4) else (some x3)
def coamingref04_Write.l1 : Nat → List Int → ByteArray → Int → Int → Int → Option (ByteArray)
 | 0, _, _, _, _, _ => none
 | k + 1, x0, x3, x4, x5, x6 => if x6 < (wrap64 (x4 + 5)) then (if x6 < (wrap64 (8 * (x0.length : Int))) then (if 0 ≤ (wrap64 (Int.tdiv x6 8)) then (if (wrap64 (Int.tdiv x6 8)) < (x0.length : Int) then (if 0 ≤ (IntKind.u64.wrap (wrap64 (7 - (Int.tmod x6 8)))) then (if (Go.bits .and .u8 (shr .u8 (rd x0 (wrap64 (Int.tdiv x6 8))) (IntKind.u64.wrap (wrap64 (7 - (Int.tmod x6 8))))) 1) = 1 then (coamingref04_Write.l1 k x0 x3 x4 (wrap64 ((wrap64 (2 * x5)) + 1)) (wrap64 (x6 + 1))) else (coamingref04_Write.l1 k x0 x3 x4 (wrap64 (2 * x5)) (wrap64 (x6 + 1)))) else (none)) else (none)) else (none)) else (coamingref04_Write.l1 k x0 x3 x4 (wrap64 (2 * x5)) (wrap64 (x6 + 1)))) else (if 0 ≤ x5 then (if x5 ≤ (wrap64 (x5 + 1)) then (if (wrap64 (x5 + 1)) ≤ 32 then (if x3.size + ((⟨#[97, 98, 99, 100, 101, 102, 103, 104, 105, 106, 107, 108, 109, 110, 111, 112, 113, 114, 115, 116, 117, 118, 119, 120, 121, 122, 50, 51, 52, 53, 54, 55]⟩ : ByteArray).extract (x5 : Int).toNat ((wrap64 (x5 + 1)) : Int).toNat).size ≤ 9223372036854775807 then (coamingref04_Write.l0 k x0 (x3 ++ ((⟨#[97, 98, 99, 100, 101, 102, 103, 104, 105, 106, 107, 108, 109, 110, 111, 112, 113, 114, 115, 116, 117, 118, 119, 120, 121, 122, 50, 51, 52, 53, 54, 55]⟩ : ByteArray).extract (x5 : Int).toNat ((wrap64 (x5 + 1)) : Int).toNat)) (wrap64 (x4 + 5))) else (none)) else (none)) else (none)) else (none))
end
def coamingref04_Write.f (k : Nat) (l0 : List Int) : Option (ByteArray) := coamingref04_Write.l0 k l0 (⟨#[]⟩ : ByteArray) 0
theorem coamingref04_Write.calls (k : Nat) (A0 : Option Addr) (c0 : Nat) (l0 : List Int) (r : ByteArray) (w : World) (hr0 : Kd.C (Kd.int .u8) w A0 l0.length l0) (hc0 : l0.length ≤ c0) (h : coamingref04_Write.f k l0 = some r) :
  Calls Tryz.prog 113 #[.slice A0 l0.length c0] w fun e w' => e = .returned (.string r) ∧ Drawn0 w w' := by
 have HR0 := az hr0
 have HC0 := az hc0
 clear hr0 hc0
 have H : (coamingref04_Write.l0 k l0 (⟨#[]⟩ : ByteArray) 0) = some r := h
 clear h
 have H' := az H
 clear H
 go_enter Tryz.func113, Tryz.ntmps113
 go_wp2
 go_loopg [3, 4] k (fun kq v3 v4 w' => ∃ (x3_1 : ByteArray) (x4_1 : Int), v3 = .string x3_1 ∧ v4 = .int .i64 x4_1 ∧ Aside0 (coamingref04_Write.l0 kq l0 x3_1 x4_1 = some r) ∧ Aside0 (kq ≤ k) ∧ Drawn0 w w')
 case atStart => exact ⟨((⟨#[]⟩ : ByteArray)), (0), (by first | rfl | (simp; done) | (simp [*]; done)), (by first | rfl | (simp; done) | (simp [*]; done)), H', ⟨Nat.le_refl _⟩, by repeat (first | exact Drawn0.refl _ | apply Drawn0.step)⟩
 case round =>
  clear H'
  try clear c1
  obtain ⟨x3_1, x4_1, rfl, rfl, HA, HK1, ⟨m1, rfl⟩⟩ := hrel
  cases gk with
  | zero => exact absurd HA.out (by simp [coamingref04_Write.l0])
  | succ k1 =>
   have H := HA.out
   clear HA
   simp only [coamingref04_Write.l0] at H
   by_cases c2 : x4_1 < (wrap64 (8 * (l0.length : Int)))
   ·rw [if_pos c2] at H
    have c2b0 : decide (x4_1 < (wrap64 (8 * (l0.length : Int)))) = true := decide_eq_true c2
    clear c2
    have H' := az H
    clear H
    go_wp2
    go_loopg [5, 6] k1 (fun kq v5 v6 w' => ∃ (x5_2 : Int) (x6_2 : Int), v5 = .int .i64 x5_2 ∧ v6 = .int .i64 x6_2 ∧ Aside0 (coamingref04_Write.l1 kq l0 x3_1 x4_1 x5_2 x6_2 = some r) ∧ Aside0 (kq ≤ k1) ∧ Drawn0 w w')
    case atStart => exact ⟨(0), (x4_1), (by first | rfl | (simp; done) | (simp [*]; done)), (by first | rfl | (simp; done) | (simp [*]; done)), H', ⟨Nat.le_refl _⟩, by repeat (first | exact Drawn0.refl _ | apply Drawn0.step)⟩
    case round =>
     clear H'
     try clear c1
     try clear c2
     try clear c2b0
     try clear p2
     obtain ⟨x5_2, x6_2, rfl, rfl, HA, HK2, ⟨m2, rfl⟩⟩ := hrel
     cases gk with
     | zero => exact absurd HA.out (by simp [coamingref04_Write.l1])
     | succ k2 =>
      have H := HA.out
      clear HA
      simp only [coamingref04_Write.l1] at H
      by_cases c3 : x6_2 < (wrap64 (x4_1 + 5))
      ·rw [if_pos c3] at H
       have c3b0 : decide (x6_2 < (wrap64 (x4_1 + 5))) = true := decide_eq_true c3
       clear c3
       by_cases c4 : x6_2 < (wrap64 (8 * (l0.length : Int)))
       ·rw [if_pos c4] at H
        have c4b0 : decide (x6_2 < (wrap64 (8 * (l0.length : Int)))) = true := decide_eq_true c4
        clear c4
        obtain ⟨ji5, hji5⟩ : ∃ j_ : Int, (wrap64 (Int.tdiv x6_2 8)) = j_ := ⟨_, rfl⟩
        replace H : (if 0 ≤ (ji5) then (if (ji5) < (l0.length : Int) then (if 0 ≤ (IntKind.u64.wrap (wrap64 (7 - (Int.tmod x6_2 8)))) then (if (Go.bits .and .u8 (shr .u8 (rd l0 (ji5)) (IntKind.u64.wrap (wrap64 (7 - (Int.tmod x6_2 8))))) 1) = 1 then (coamingref04_Write.l1 k2 l0 x3_1 x4_1 (wrap64 ((wrap64 (2 * x5_2)) + 1)) (wrap64 (x6_2 + 1))) else (coamingref04_Write.l1 k2 l0 x3_1 x4_1 (wrap64 (2 * x5_2)) (wrap64 (x6_2 + 1)))) else (none)) else (none)) else (none)) = some r := by first | (rw [hji5] at H; exact H) | (simp only [hji5] at H ⊢; exact H)
        have hji5w : (IntKind.i64.wrap (Int.tdiv x6_2 8)) = ji5 := (i64_w _).trans hji5
        by_cases c6 : 0 ≤ (ji5)
        ·rw [if_pos c6] at H
         have c6b0 : decide (0 ≤ (ji5)) = true := decide_eq_true c6
         clear c6
         by_cases c7 : (ji5) < (l0.length : Int)
         ·rw [if_pos c7] at H
          have c7b0 : decide ((ji5) < (l0.length : Int)) = true := decide_eq_true c7
          clear c7
          obtain ⟨ji8, hji8⟩ : ∃ j_ : Int, (IntKind.u64.wrap (wrap64 (7 - (Int.tmod x6_2 8)))) = j_ := ⟨_, rfl⟩
          replace H : (if 0 ≤ (ji8) then (if (Go.bits .and .u8 (shr .u8 (rd l0 (ji5)) (ji8)) 1) = 1 then (coamingref04_Write.l1 k2 l0 x3_1 x4_1 (wrap64 ((wrap64 (2 * x5_2)) + 1)) (wrap64 (x6_2 + 1))) else (coamingref04_Write.l1 k2 l0 x3_1 x4_1 (wrap64 (2 * x5_2)) (wrap64 (x6_2 + 1)))) else (none)) = some r := by first | (rw [hji8] at H; exact H) | (simp only [hji8] at H ⊢; exact H)
          by_cases c9 : 0 ≤ (ji8)
          ·rw [if_pos c9] at H
           have c9b0 := eq_true c9
           have c9b1 : decide (0 ≤ (ji8)) = true := decide_eq_true c9
           clear c9
           obtain ⟨ji10, hji10⟩ : ∃ j_ : Int, (shr .u8 (rd l0 (ji5)) (ji8)) = j_ := ⟨_, rfl⟩
           replace H : (if (Go.bits .and .u8 (ji10) 1) = 1 then (coamingref04_Write.l1 k2 l0 x3_1 x4_1 (wrap64 ((wrap64 (2 * x5_2)) + 1)) (wrap64 (x6_2 + 1))) else (coamingref04_Write.l1 k2 l0 x3_1 x4_1 (wrap64 (2 * x5_2)) (wrap64 (x6_2 + 1)))) = some r := by first | (rw [hji10] at H; exact H) | (simp only [hji10] at H ⊢; exact H)
           have hji10_ : ((rd l0 (ji5)) / 2 ^ min (ji8).toNat 8) = ji10 := hji10
           have hji10z : (ji8) ≤ 8 → ((rd l0 (ji5)) / 2 ^ (ji8).toNat) = ji10 := shr_small hji10
           by_cases c11 : (Go.bits .and .u8 (ji10) 1) = 1
           ·rw [if_pos c11] at H
            have c11b0 : ((Go.bits .and .u8 (ji10) 1) == 1) = true := beq_iff_eq.mpr c11
            have c11b1 : ((Go.bits .and .u8 (ji10) 1) != 1) = false := bne_eq_false_iff_eq.mpr c11
            clear c11
            have H' := az H
            clear H
            have p178 : 0 ≤ ((ji5) : Int) := of_decide_eq_true (by first | (with_reducible assumption) | assumption)
            have q178 : (ji5) < (l0.length : Int) := of_decide_eq_true (by first | (with_reducible assumption) | assumption)
            obtain ⟨ad178, e178, hx178_0⟩ := Kd.at_int HR0.out (ji5) p178 q178
            cases e178
            replace p178 := eq_true p178
            replace q178 := eq_true q178
            go_wp2
            go_roundg k2
            case measure => have := HK1.out; have := HK2.out; omega
            case rel => exact ⟨(wrap64 ((wrap64 (2 * x5_2)) + 1)), (wrap64 (x6_2 + 1)), (by first | rfl | (simp; done) | (simp [*]; done)), (by first | rfl | (simp; done) | (simp [*]; done)), H', ⟨by have := HK1.out; have := HK2.out; omega⟩, by repeat (first | exact Drawn0.refl _ | apply Drawn0.step)⟩
           ·rw [if_neg c11] at H
            have c11b0 : ((Go.bits .and .u8 (ji10) 1) == 1) = false := beq_eq_false_iff_ne.mpr c11
            have c11b1 : ((Go.bits .and .u8 (ji10) 1) != 1) = true := bne_iff_ne.mpr c11
            have H' := az H
            clear H
            have p178 : 0 ≤ ((ji5) : Int) := of_decide_eq_true (by first | (with_reducible assumption) | assumption)
            have q178 : (ji5) < (l0.length : Int) := of_decide_eq_true (by first | (with_reducible assumption) | assumption)
            obtain ⟨ad178, e178, hx178_0⟩ := Kd.at_int HR0.out (ji5) p178 q178
            cases e178
            replace p178 := eq_true p178
            replace q178 := eq_true q178
            go_wp2
            go_roundg k2
            case measure => have := HK1.out; have := HK2.out; omega
            case rel => exact ⟨(wrap64 (2 * x5_2)), (wrap64 (x6_2 + 1)), (by first | rfl | (simp; done) | (simp [*]; done)), (by first | rfl | (simp; done) | (simp [*]; done)), H', ⟨by have := HK1.out; have := HK2.out; omega⟩, by repeat (first | exact Drawn0.refl _ | apply Drawn0.step)⟩
          ·rw [if_neg c9] at H
           exact absurd H (by simp)
         ·rw [if_neg c7] at H
          exact absurd H (by simp)
        ·rw [if_neg c6] at H
         exact absurd H (by simp)
       ·rw [if_neg c4] at H
        have c4b0 : decide (x6_2 < (wrap64 (8 * (l0.length : Int)))) = false := decide_eq_false c4
        clear c4
        have H' := az H
        clear H
        go_wp2
        go_roundg k2
        case measure => have := HK1.out; have := HK2.out; omega
        case rel => exact ⟨(wrap64 (2 * x5_2)), (wrap64 (x6_2 + 1)), (by first | rfl | (simp; done) | (simp [*]; done)), (by first | rfl | (simp; done) | (simp [*]; done)), H', ⟨by have := HK1.out; have := HK2.out; omega⟩, by repeat (first | exact Drawn0.refl _ | apply Drawn0.step)⟩
      ·rw [if_neg c3] at H
       have c3b0 : decide (x6_2 < (wrap64 (x4_1 + 5))) = false := decide_eq_false c3
       clear c3
       by_cases c12 : 0 ≤ x5_2
       ·rw [if_pos c12] at H
        have c12b0 := eq_true c12
        have c12b1 : decide (0 ≤ x5_2) = true := decide_eq_true c12
        clear c12
        by_cases c13 : x5_2 ≤ (wrap64 (x5_2 + 1))
        ·rw [if_pos c13] at H
         have c13b0 := eq_true c13
         have c13b1 : decide (x5_2 ≤ (wrap64 (x5_2 + 1))) = true := decide_eq_true c13
         by_cases c14 : (wrap64 (x5_2 + 1)) ≤ 32
         ·rw [if_pos c14] at H
          have c14b0 := eq_true c14
          have c14b1 : decide ((wrap64 (x5_2 + 1)) ≤ 32) = true := decide_eq_true c14
          by_cases c15 : x3_1.size + ((⟨#[97, 98, 99, 100, 101, 102, 103, 104, 105, 106, 107, 108, 109, 110, 111, 112, 113, 114, 115, 116, 117, 118, 119, 120, 121, 122, 50, 51, 52, 53, 54, 55]⟩ : ByteArray).extract (x5_2 : Int).toNat ((wrap64 (x5_2 + 1)) : Int).toNat).size ≤ 9223372036854775807
          ·rw [if_pos c15] at H
           have c15b0 := eq_true c15
           have c15b1 : decide (x3_1.size + ((⟨#[97, 98, 99, 100, 101, 102, 103, 104, 105, 106, 107, 108, 109, 110, 111, 112, 113, 114, 115, 116, 117, 118, 119, 120, 121, 122, 50, 51, 52, 53, 54, 55]⟩ : ByteArray).extract (x5_2 : Int).toNat ((wrap64 (x5_2 + 1)) : Int).toNat).size ≤ 9223372036854775807) = true := decide_eq_true c15
           try have c15b2 : (9223372036854775807 < x3_1.size + ((⟨#[97, 98, 99, 100, 101, 102, 103, 104, 105, 106, 107, 108, 109, 110, 111, 112, 113, 114, 115, 116, 117, 118, 119, 120, 121, 122, 50, 51, 52, 53, 54, 55]⟩ : ByteArray).extract (x5_2 : Int).toNat ((wrap64 (x5_2 + 1)) : Int).toNat).size) = False := eq_false (Nat.not_lt.2 c15)
           have H' := az H
           clear H
           go_wp2
           go_roundg k2
           case measure => have := HK1.out; have := HK2.out; omega
           case rel => exact ⟨(x3_1 ++ ((⟨#[97, 98, 99, 100, 101, 102, 103, 104, 105, 106, 107, 108, 109, 110, 111, 112, 113, 114, 115, 116, 117, 118, 119, 120, 121, 122, 50, 51, 52, 53, 54, 55]⟩ : ByteArray).extract (x5_2 : Int).toNat ((wrap64 (x5_2 + 1)) : Int).toNat)), (wrap64 (x4_1 + 5)), (by first | rfl | (simp; done) | (simp [*]; done)), (by first | rfl | (simp; done) | (simp [*]; done)), H', ⟨by have := HK1.out; have := HK2.out; omega⟩, by repeat (first | exact Drawn0.refl _ | apply Drawn0.step)⟩
          ·rw [if_neg c15] at H
           exact absurd H (by simp)
         ·rw [if_neg c14] at H
          exact absurd H (by simp)
        ·rw [if_neg c13] at H
         exact absurd H (by simp)
       ·rw [if_neg c12] at H
        exact absurd H (by simp)
   ·rw [if_neg c2] at H
    have c2b0 : decide (x4_1 < (wrap64 (8 * (l0.length : Int)))) = false := decide_eq_false c2
    clear c2
    obtain rfl := Option.some.inj H
    go_wp2
    go_ret
    exact ⟨by first | rfl | (simp; done) | (simp [*]; done), by repeat (first | exact Drawn0.refl _ | apply Drawn0.step)⟩
def coamingref04_sign.l0 : Nat → Int → Int → Option (Int)
 | 0, _, _ => none
 | k + 1, x0, x3 => if x3 < 32 then (if 0 ≤ x3 then (if (bt (⟨#[97, 98, 99, 100, 101, 102, 103, 104, 105, 106, 107, 108, 109, 110, 111, 112, 113, 114, 115, 116, 117, 118, 119, 120, 121, 122, 50, 51, 52, 53, 54, 55]⟩ : ByteArray) x3) = x0 then (some x3) else (coamingref04_sign.l0 k x0 (wrap64 (x3 + 1)))) else (none)) else (some (-1))
def coamingref04_sign.f (k : Nat) (a0 : Int) : Option (Int) := coamingref04_sign.l0 k a0 0
theorem coamingref04_sign.mono_l : ∀ k, (∀ y0 y1, LeO (coamingref04_sign.l0 k y0 y1) (coamingref04_sign.l0 (k + 1) y0 y1))
 | 0 => fun _ _ r h => by simp [coamingref04_sign.l0] at h
 | k + 1 => by
  have ih0 := coamingref04_sign.mono_l k
  ·intro y0 y1
   unfold coamingref04_sign.l0
   repeat' first
   | (with_reducible exact ih0 _ _)
   | (with_reducible exact LeO.refl _)
   | (with_reducible exact LeO.none _)
   | (with_reducible refine LeO.ite ?_ ?_)
   | (with_reducible refine LeO.bind ?_ (fun _ => ?_))
   | exact ih0 _ _
   | exact LeO.none _
   | refine LeO.ite ?_ ?_
   | refine LeO.bind ?_ (fun _ => ?_)
theorem coamingref04_sign.mono : ∀ a0 k, LeO (coamingref04_sign.f k a0) (coamingref04_sign.f (k + 1) a0) := by
 intro a0 k
 have ih0 := coamingref04_sign.mono_l k
 unfold coamingref04_sign.f
 repeat' first
   | (with_reducible exact ih0 _ _)
   | (with_reducible exact LeO.refl _)
   | (with_reducible exact LeO.none _)
   | (with_reducible refine LeO.ite ?_ ?_)
   | (with_reducible refine LeO.bind ?_ (fun _ => ?_))
   | exact ih0 _ _
   | exact LeO.none _
   | refine LeO.ite ?_ ?_
   | refine LeO.bind ?_ (fun _ => ?_)
theorem coamingref04_sign.calls (k : Nat) (a0 : Int) (r : Int) (w : World) (h : coamingref04_sign.f k a0 = some r) :
  Calls Tryz.prog 121 #[.int .u8 a0] w fun e w' => e = .returned (.int .i64 r) ∧ Drawn0 w w' := by
 have H : (coamingref04_sign.l0 k a0 0) = some r := h
 clear h
 have H' := az H
 clear H
 go_enter Tryz.func121, Tryz.ntmps121
 go_wp2
 go_loopg [3] k (fun kq v3 w' => ∃ (x3_1 : Int), v3 = .int .i64 x3_1 ∧ Aside0 (coamingref04_sign.l0 kq a0 x3_1 = some r) ∧ Aside0 (kq ≤ k) ∧ Drawn0 w w')
 case atStart => exact ⟨(0), (by first | rfl | (simp; done) | (simp [*]; done)), H', ⟨Nat.le_refl _⟩, by repeat (first | exact Drawn0.refl _ | apply Drawn0.step)⟩
 case round =>
  clear H'
  try clear c1
  obtain ⟨x3_1, rfl, HA, HK1, ⟨m1, rfl⟩⟩ := hrel
  cases gk with
  | zero => exact absurd HA.out (by simp [coamingref04_sign.l0])
  | succ k1 =>
   have H := HA.out
   clear HA
   simp only [coamingref04_sign.l0] at H
   by_cases c2 : x3_1 < 32
   ·rw [if_pos c2] at H
    have c2b0 : decide (x3_1 < 32) = true := decide_eq_true c2
    clear c2
    by_cases c3 : 0 ≤ x3_1
    ·rw [if_pos c3] at H
     have c3b0 : decide (0 ≤ x3_1) = true := decide_eq_true c3
     clear c3
     by_cases c5 : (bt (⟨#[97, 98, 99, 100, 101, 102, 103, 104, 105, 106, 107, 108, 109, 110, 111, 112, 113, 114, 115, 116, 117, 118, 119, 120, 121, 122, 50, 51, 52, 53, 54, 55]⟩ : ByteArray) x3_1) = a0
     ·rw [if_pos c5] at H
      have c5b0 : ((bt (⟨#[97, 98, 99, 100, 101, 102, 103, 104, 105, 106, 107, 108, 109, 110, 111, 112, 113, 114, 115, 116, 117, 118, 119, 120, 121, 122, 50, 51, 52, 53, 54, 55]⟩ : ByteArray) x3_1) == a0) = true := beq_iff_eq.mpr c5
      have c5b1 : ((bt (⟨#[97, 98, 99, 100, 101, 102, 103, 104, 105, 106, 107, 108, 109, 110, 111, 112, 113, 114, 115, 116, 117, 118, 119, 120, 121, 122, 50, 51, 52, 53, 54, 55]⟩ : ByteArray) x3_1) != a0) = false := bne_eq_false_iff_eq.mpr c5
      clear c5
      obtain rfl := Option.some.inj H
      have p4 : 0 ≤ (x3_1 : Int) := of_decide_eq_true (by first | (with_reducible assumption) | assumption)
      have q4 : x3_1 < (32 : Int) := of_decide_eq_true (by first | (with_reducible assumption) | assumption)
      have hx4 := bt_at (⟨#[97, 98, 99, 100, 101, 102, 103, 104, 105, 106, 107, 108, 109, 110, 111, 112, 113, 114, 115, 116, 117, 118, 119, 120, 121, 122, 50, 51, 52, 53, 54, 55]⟩ : ByteArray) x3_1
      replace p4 := eq_true p4
      replace q4 := eq_true q4
      go_wp2
      go_ret
      exact ⟨by first | rfl | (simp; done) | (simp [*]; done), by repeat (first | exact Drawn0.refl _ | apply Drawn0.step)⟩
     ·rw [if_neg c5] at H
      have c5b0 : ((bt (⟨#[97, 98, 99, 100, 101, 102, 103, 104, 105, 106, 107, 108, 109, 110, 111, 112, 113, 114, 115, 116, 117, 118, 119, 120, 121, 122, 50, 51, 52, 53, 54, 55]⟩ : ByteArray) x3_1) == a0) = false := beq_eq_false_iff_ne.mpr c5
      have c5b1 : ((bt (⟨#[97, 98, 99, 100, 101, 102, 103, 104, 105, 106, 107, 108, 109, 110, 111, 112, 113, 114, 115, 116, 117, 118, 119, 120, 121, 122, 50, 51, 52, 53, 54, 55]⟩ : ByteArray) x3_1) != a0) = true := bne_iff_ne.mpr c5
      have H' := az H
      clear H
      have p4 : 0 ≤ (x3_1 : Int) := of_decide_eq_true (by first | (with_reducible assumption) | assumption)
      have q4 : x3_1 < (32 : Int) := of_decide_eq_true (by first | (with_reducible assumption) | assumption)
      have hx4 := bt_at (⟨#[97, 98, 99, 100, 101, 102, 103, 104, 105, 106, 107, 108, 109, 110, 111, 112, 113, 114, 115, 116, 117, 118, 119, 120, 121, 122, 50, 51, 52, 53, 54, 55]⟩ : ByteArray) x3_1
      replace p4 := eq_true p4
      replace q4 := eq_true q4
      go_wp2
      go_roundg k1
      case measure => have := HK1.out; omega
      case rel => exact ⟨(wrap64 (x3_1 + 1)), (by first | rfl | (simp; done) | (simp [*]; done)), H', ⟨by have := HK1.out; omega⟩, by repeat (first | exact Drawn0.refl _ | apply Drawn0.step)⟩
    ·rw [if_neg c3] at H
     exact absurd H (by simp)
   ·rw [if_neg c2] at H
    have c2b0 : decide (x3_1 < 32) = false := decide_eq_false c2
    clear c2
    obtain rfl := Option.some.inj H
    go_wp2
    go_ret
    exact ⟨by first | rfl | (simp; done) | (simp [*]; done), by repeat (first | exact Drawn0.refl _ | apply Drawn0.step)⟩
end Go.Proofs.YtgljicdpcapgnaaGreatDoor.PBase
namespace Go.Proofs.YtgljicdpcapgnaaGreatDoor.PBase
open Go.RowKit Go.Proofs.YtgljicdpcapgnaaGreatDoorW.PrintWords Go.Proofs.YtgljicdpcapgnaaGreatDoorW.PrintLast Go.Proofs.YtgljicdpcapgnaaGreatDoorW.PrintMore
attribute [local go_sem] max2_int min2_int max_two min_two max_three min_three max_four min_four   -- for this text's walks alone
def coamingref04_Read.l0 : Nat → ByteArray → List Int → Int → Int → Int → Option (List Int × Int)
 | 0, _, _, _, _, _ => none
 | k + 1, x0, x4, x5, x6, x7 => if x7 < (x0.size : Int) then (if 0 ≤ x7 then ((coamingref04_sign.f k (bt x0 x7)).bind fun t180 => (if t180 < 0 then (some (([] : List Int), 40)) else (if (wrap64 (x6 + 5)) ≥ 8 then (if 0 ≤ (IntKind.u64.wrap (wrap64 ((wrap64 (x6 + 5)) - 8))) then (if x4.length < 140737488355328 then (if (shl .i64 1 (IntKind.u64.wrap (wrap64 ((wrap64 (x6 + 5)) - 8)))) = 0 then (none) else (coamingref04_Read.l0 k x0 (x4 ++ [(shr .i64 (wrap64 ((wrap64 (x5 * 32)) + t180)) (IntKind.u64.wrap (wrap64 ((wrap64 (x6 + 5)) - 8)))) % 256]) (Int.tmod (wrap64 ((wrap64 (x5 * 32)) + t180)) (shl .i64 1 (IntKind.u64.wrap (wrap64 ((wrap64 (x6 + 5)) - 8))))) (wrap64 ((wrap64 (x6 + 5)) - 8)) (wrap64 (x7 + 1)))) else (none)) else (none)) else (coamingref04_Read.l0 k x0 x4 (wrap64 ((wrap64 (x5 * 32)) + t180)) (wrap64 (x6 + 5)) (wrap64 (x7 + 1)))))) else (none)) else ((coamingref04_Write.f k x4).bind fun t179 => (if t179.toList = x0.toList then (some (x4, 0)) else (some (([] : List Int), 40))))
def coamingref04_Read.f (k : Nat) (a0 : ByteArray) : Option (List Int × Int) := coamingref04_Read.l0 k a0 ([] : List Int) 0 0 0
theorem coamingref04_Read.calls (k : Nat) (a0 : ByteArray) (r1 : List Int) (r2 : Int) (w : World) (h : coamingref04_Read.f k a0 = some (r1, r2)) :
  Calls Tryz.prog 109 #[.string a0] w fun e w' => ∃ v0_ : Value, e = .returned (.tuple #[v0_, .int .i64 r2]) ∧ Kd.R (Kd.int .u8) 5 w' w.heap.size (fun _ => True) v0_ r1 ∧ Below w.heap.size w w' := by
 have HB := az (Below.refl w.heap.size w)
 have H : (coamingref04_Read.l0 k a0 ([] : List Int) 0 0 0) = some (r1, r2) := h
 clear h
 have H' := az H
 clear H
 go_enter Tryz.func109, Tryz.ntmps109
 go_wp2
 go_loopg [4, 5, 6, 7] k (fun kq v4 v5 v6 v7 w' => ∃ (x4_1 : List Int) (x5_1 : Int) (x6_1 : Int) (x7_1 : Int), v5 = .int .i64 x5_1 ∧ v6 = .int .i64 x6_1 ∧ v7 = .int .i64 x7_1 ∧ Aside0 (coamingref04_Read.l0 kq a0 x4_1 x5_1 x6_1 x7_1 = some (r1, r2)) ∧ Aside0 (kq ≤ k) ∧ Aside0 (Kd.R (Kd.int .u8) 5 w' w.heap.size (fun _ => True) v4 x4_1) ∧ Aside0 (Below w.heap.size w w'))
 case atStart => exact ⟨(([] : List Int)), (0), (0), (0), (by first | rfl | (simp; done) | (simp [*]; done)), (by first | rfl | (simp; done) | (simp [*]; done)), (by first | rfl | (simp; done) | (simp [*]; done)), H', ⟨Nat.le_refl _⟩, ⟨by first | exact Kd.R_nil _ _ _ _ _ | exact Kd.N_nil _ _ _ _ _ | exact Kd.V_nil _ _ _ _ _ | exact Kd.Q_nil _ _ _ _ _ | exact Kd.S_nil _ _ _ _ _⟩, ⟨Rg.b2⟩⟩
 case round =>
  clear H'
  try clear c1
  obtain ⟨x4_1, x5_1, x6_1, x7_1, rfl, rfl, rfl, HA, HK1, HO_4, HB⟩ := hrel
  cases gk with
  | zero => exact absurd HA.out (by simp [coamingref04_Read.l0])
  | succ k1 =>
   have H := HA.out
   clear HA
   simp only [coamingref04_Read.l0] at H
   by_cases c2 : x7_1 < (a0.size : Int)
   ·rw [if_pos c2] at H
    have c2b0 : decide (x7_1 < (a0.size : Int)) = true := decide_eq_true c2
    clear c2
    by_cases c3 : 0 ≤ x7_1
    ·rw [if_pos c3] at H
     have c3b0 : decide (0 ≤ x7_1) = true := decide_eq_true c3
     clear c3
     replace H := Option.bind_eq_some_iff.mp H
     obtain ⟨t180, A50, H⟩ := H
     replace H : (if t180 < 0 then (some (([] : List Int), 40)) else (if (wrap64 (x6_1 + 5)) ≥ 8 then (if 0 ≤ (IntKind.u64.wrap (wrap64 ((wrap64 (x6_1 + 5)) - 8))) then (if x4_1.length < 140737488355328 then (if (shl .i64 1 (IntKind.u64.wrap (wrap64 ((wrap64 (x6_1 + 5)) - 8)))) = 0 then (none) else (coamingref04_Read.l0 k1 a0 (x4_1 ++ [(shr .i64 (wrap64 ((wrap64 (x5_1 * 32)) + t180)) (IntKind.u64.wrap (wrap64 ((wrap64 (x6_1 + 5)) - 8)))) % 256]) (Int.tmod (wrap64 ((wrap64 (x5_1 * 32)) + t180)) (shl .i64 1 (IntKind.u64.wrap (wrap64 ((wrap64 (x6_1 + 5)) - 8))))) (wrap64 ((wrap64 (x6_1 + 5)) - 8)) (wrap64 (x7_1 + 1)))) else (none)) else (none)) else (coamingref04_Read.l0 k1 a0 x4_1 (wrap64 ((wrap64 (x5_1 * 32)) + t180)) (wrap64 (x6_1 + 5)) (wrap64 (x7_1 + 1))))) = some (r1, r2) := H
     have A5 := az A50
     clear A50
     by_cases c6 : t180 < 0
     ·rw [if_pos c6] at H
      have c6b0 : decide (t180 < 0) = true := decide_eq_true c6
      clear c6
      simp only [Option.some.injEq, Prod.mk.injEq] at H
      obtain ⟨rfl, rfl⟩ := H
      have p4 : 0 ≤ (x7_1 : Int) := of_decide_eq_true (by first | (with_reducible assumption) | assumption)
      have q4 : x7_1 < (a0.size : Int) := of_decide_eq_true (by first | (with_reducible assumption) | assumption)
      have hx4 := bt_at a0 x7_1
      replace p4 := eq_true p4
      replace q4 := eq_true q4
      go_wp2_with (first | ((with_reducible refine gate_callee (f := 121) rfl ?_); refine goesL_ (some 18) rfl rfl Tryz.func121 (by kernel_rfl) rfl #[.int .u8 (bt a0 x7_1)] rfl Rg.l2 ?_; (with_reducible refine (coamingref04_sign.calls k1 (bt a0 x7_1) t180 _ A5.out).mono ?_); rintro e w' ⟨rfl, ⟨nd, rfl⟩⟩; refine ⟨_, rfl, ?_⟩))
      go_ret2
      exact ⟨_, by first | rfl | (simp [errW_none, errW_some] <;> rfl) | (simp [*, errW_none, errW_some] <;> rfl), by first | exact Kd.R_nil _ _ _ _ _ | exact Kd.N_nil _ _ _ _ _ | exact Kd.V_nil _ _ _ _ _ | exact Kd.Q_nil _ _ _ _ _ | exact Kd.S_nil _ _ _ _ _, Rg.b2⟩
     ·rw [if_neg c6] at H
      have c6b0 : decide (t180 < 0) = false := decide_eq_false c6
      clear c6
      by_cases c7 : (wrap64 (x6_1 + 5)) ≥ 8
      ·rw [if_pos c7] at H
       have c7b0 : decide (8 ≤ (wrap64 (x6_1 + 5))) = true := decide_eq_true c7
       clear c7
       obtain ⟨ji8, hji8⟩ : ∃ j_ : Int, (IntKind.u64.wrap (wrap64 ((wrap64 (x6_1 + 5)) - 8))) = j_ := ⟨_, rfl⟩
       replace H : (if 0 ≤ (ji8) then (if x4_1.length < 140737488355328 then (if (shl .i64 1 (ji8)) = 0 then (none) else (coamingref04_Read.l0 k1 a0 (x4_1 ++ [(shr .i64 (wrap64 ((wrap64 (x5_1 * 32)) + t180)) (ji8)) % 256]) (Int.tmod (wrap64 ((wrap64 (x5_1 * 32)) + t180)) (shl .i64 1 (ji8))) (wrap64 ((wrap64 (x6_1 + 5)) - 8)) (wrap64 (x7_1 + 1)))) else (none)) else (none)) = some (r1, r2) := by first | (rw [hji8] at H; exact H) | (simp only [hji8] at H ⊢; exact H)
       (try rw [hji8] at A5)
       by_cases c9 : 0 ≤ (ji8)
       ·rw [if_pos c9] at H
        have c9b0 := eq_true c9
        have c9b1 : decide (0 ≤ (ji8)) = true := decide_eq_true c9
        clear c9
        obtain ⟨ji10, hji10⟩ : ∃ j_ : Int, (shr .i64 (wrap64 ((wrap64 (x5_1 * 32)) + t180)) (ji8)) = j_ := ⟨_, rfl⟩
        replace H : (if x4_1.length < 140737488355328 then (if (shl .i64 1 (ji8)) = 0 then (none) else (coamingref04_Read.l0 k1 a0 (x4_1 ++ [(ji10) % 256]) (Int.tmod (wrap64 ((wrap64 (x5_1 * 32)) + t180)) (shl .i64 1 (ji8))) (wrap64 ((wrap64 (x6_1 + 5)) - 8)) (wrap64 (x7_1 + 1)))) else (none)) = some (r1, r2) := by first | (rw [hji10] at H; exact H) | (simp only [hji10] at H ⊢; exact H)
        (try rw [hji10] at A5)
        have hji10_ : ((wrap64 ((wrap64 (x5_1 * 32)) + t180)) / 2 ^ min (ji8).toNat 64) = ji10 := hji10
        have hji10z : (ji8) ≤ 64 → ((wrap64 ((wrap64 (x5_1 * 32)) + t180)) / 2 ^ (ji8).toNat) = ji10 := shr_small hji10
        by_cases c11 : x4_1.length < 140737488355328
        ·rw [if_pos c11] at H
         have LMc11 := az c11
         clear c11
         obtain ⟨y181, hy181⟩ : ∃ y_ : List Int, y_ = (x4_1 ++ [(ji10) % 256]) := ⟨_, rfl⟩
         replace H : (if (shl .i64 1 (ji8)) = 0 then (none) else (coamingref04_Read.l0 k1 a0 y181 (Int.tmod (wrap64 ((wrap64 (x5_1 * 32)) + t180)) (shl .i64 1 (ji8))) (wrap64 ((wrap64 (x6_1 + 5)) - 8)) (wrap64 (x7_1 + 1)))) = some (r1, r2) := by first | (rw [hy181]; with_reducible exact H) | (have H2_ := (Option.bind_some _ _).symm.trans H; rw [hy181]; with_reducible exact H2_) | (have H2_ := (Option.bind_some _ _).symm.trans H; with_reducible exact H2_) | with_reducible exact H | (rw [hy181]; exact H) | exact H
         have Ny181 := az hy181
         clear hy181
         have c12b0 := eq_true (of_decide_eq_true (by first | (with_reducible assumption) | assumption) : 0 ≤ (ji8))
         obtain ⟨ji13, hji13⟩ : ∃ j_ : Int, (shl .i64 1 (ji8)) = j_ := ⟨_, rfl⟩
         replace H : (if (ji13) = 0 then (none) else (coamingref04_Read.l0 k1 a0 y181 (Int.tmod (wrap64 ((wrap64 (x5_1 * 32)) + t180)) (ji13)) (wrap64 ((wrap64 (x6_1 + 5)) - 8)) (wrap64 (x7_1 + 1)))) = some (r1, r2) := by first | (rw [hji13] at H; exact H) | (simp only [hji13] at H ⊢; exact H)
         (try rw [hji13] at A5)
         have hji13_ : (IntKind.i64.wrap (1 * 2 ^ min (ji8).toNat 64)) = ji13 := hji13
         have hji13z : (ji8) ≤ 64 → (IntKind.i64.wrap (1 * 2 ^ (ji8).toNat)) = ji13 := shl_small hji13
         have hji13u : (IntKind.i64.wrap (2 ^ min (ji8).toNat 64)) = ji13 := by have h_ := hji13_; rw [Int.one_mul] at h_; exact h_
         have hji13v : (ji8) ≤ 64 → (IntKind.i64.wrap (2 ^ (ji8).toNat)) = ji13 := fun hle_ => by have h_ := hji13z hle_; rw [Int.one_mul] at h_; exact h_
         have hji13y : (wrap64 (1 * 2 ^ min (ji8).toNat 64)) = ji13 := (i64_w _).symm.trans hji13_
         have hji13x : (ji8) ≤ 64 → (wrap64 (1 * 2 ^ (ji8).toNat)) = ji13 := fun h_ => (i64_w _).symm.trans (hji13z h_)
         by_cases c14 : (ji13) = 0
         ·rw [if_pos c14] at H
          exact absurd H (by simp)
         ·rw [if_neg c14] at H
          have c14b0 : ((ji13) == 0) = false := beq_eq_false_iff_ne.mpr c14
          have c14b1 : ((ji13) != 0) = true := bne_iff_ne.mpr c14
          have H' := az H
          clear H
          have p4 : 0 ≤ (x7_1 : Int) := of_decide_eq_true (by first | (with_reducible assumption) | assumption)
          have q4 : x7_1 < (a0.size : Int) := of_decide_eq_true (by first | (with_reducible assumption) | assumption)
          have hx4 := bt_at a0 x7_1
          replace p4 := eq_true p4
          replace q4 := eq_true q4
          go_wp2_with (first | ((with_reducible refine gate_callee (f := 121) rfl ?_); refine goesL_ (some 18) rfl rfl Tryz.func121 (by kernel_rfl) rfl #[.int .u8 (bt a0 x7_1)] rfl Rg.l2 ?_; (with_reducible refine (coamingref04_sign.calls k1 (bt a0 x7_1) t180 _ A5.out).mono ?_); rintro e w' ⟨rfl, ⟨nd, rfl⟩⟩; refine ⟨_, rfl, ?_⟩) | ((with_reducible refine gate_builtin (b := .append) (xs := #[.tmp 31, .tmp 37]) rfl ?_); at_builtin; refine Kd.R_append (Kd.int .u8) (w0 := w) w.heap.size rfl (.tmp 31) (.tmp 37) 35 5 (.int .u8 0) 1 rfl Tryz.underlying35 info5 rfl (by decide) (by omega) u4 x4_1 ((ji10) % 256) [.int .u8 ((ji10) % 256)] (fun _ => True) (fun _ => False) rfl rfl ?aP (fun _ hk => hk.elim) ?aF ?aO ?aB ?aS ?aL ?_; (case aP => exact rfl); (case aB => exact (Rg.b2)); (case aF => exact (fun _ _ => trivial)); (case aO => exact (by (with_reducible repeat (first | apply Kd.R_alloc | apply Kd.R_drewN | apply Kd.R_drew)); exact HO_4.out)); (case aS => exact (below_size (Rg.b2))); (case aL => have := LMc11.out; omega); intro v182 w15 ho hb hg hat; rw [← Ny181.out] at ho; have n0_ := az (hb); have n1_ := az (ho); clear HB; clear HO_4; have HB := n0_; have HO183 := n1_; clear n0_ n1_; clear ho hb hg hat))
          go_roundg k1
          case measure => have := HK1.out; omega
          case rel => exact ⟨(y181), (Int.tmod (wrap64 ((wrap64 (x5_1 * 32)) + t180)) (ji13)), (wrap64 ((wrap64 (x6_1 + 5)) - 8)), (wrap64 (x7_1 + 1)), (by first | rfl | (simp; done) | (simp only [← hji13] <;> (first | rfl | simp)) | (simp [*]; done)), (by first | rfl | (simp; done) | (simp [*]; done)), (by first | rfl | (simp; done) | (simp [*]; done)), H', ⟨by have := HK1.out; omega⟩, ⟨by (with_reducible repeat (first | apply Kd.R_alloc | apply Kd.R_drewN | apply Kd.R_drew)); exact HO183.out⟩, ⟨Rg.b2⟩⟩
        ·rw [if_neg c11] at H
         exact absurd H (by simp)
       ·rw [if_neg c9] at H
        exact absurd H (by simp)
      ·rw [if_neg c7] at H
       have c7b0 : decide (8 ≤ (wrap64 (x6_1 + 5))) = false := decide_eq_false c7
       clear c7
       have H' := az H
       clear H
       have p4 : 0 ≤ (x7_1 : Int) := of_decide_eq_true (by first | (with_reducible assumption) | assumption)
       have q4 : x7_1 < (a0.size : Int) := of_decide_eq_true (by first | (with_reducible assumption) | assumption)
       have hx4 := bt_at a0 x7_1
       replace p4 := eq_true p4
       replace q4 := eq_true q4
       go_wp2_with (first | ((with_reducible refine gate_callee (f := 121) rfl ?_); refine goesL_ (some 18) rfl rfl Tryz.func121 (by kernel_rfl) rfl #[.int .u8 (bt a0 x7_1)] rfl Rg.l2 ?_; (with_reducible refine (coamingref04_sign.calls k1 (bt a0 x7_1) t180 _ A5.out).mono ?_); rintro e w' ⟨rfl, ⟨nd, rfl⟩⟩; refine ⟨_, rfl, ?_⟩))
       go_roundg k1
       case measure => have := HK1.out; omega
       case rel => exact ⟨(x4_1), (wrap64 ((wrap64 (x5_1 * 32)) + t180)), (wrap64 (x6_1 + 5)), (wrap64 (x7_1 + 1)), (by first | rfl | (simp; done) | (simp [*]; done)), (by first | rfl | (simp; done) | (simp [*]; done)), (by first | rfl | (simp; done) | (simp [*]; done)), H', ⟨by have := HK1.out; omega⟩, ⟨by (with_reducible repeat (first | apply Kd.R_alloc | apply Kd.R_drewN | apply Kd.R_drew)); exact HO_4.out⟩, ⟨Rg.b2⟩⟩
    ·rw [if_neg c3] at H
     exact absurd H (by simp)
   ·rw [if_neg c2] at H
    have c2b0 : decide (x7_1 < (a0.size : Int)) = false := decide_eq_false c2
    clear c2
    replace H := Option.bind_eq_some_iff.mp H
    obtain ⟨t179, A160, H⟩ := H
    replace H : (if t179.toList = a0.toList then (some (x4_1, 0)) else (some (([] : List Int), 40))) = some (r1, r2) := H
    have A16 := az A160
    clear A160
    by_cases c17 : t179.toList = a0.toList
    ·rw [if_pos c17] at H
     have c17b0 : (t179.toList == a0.toList) = true := beq_iff_eq.mpr c17
     have c17b1 : (t179.toList != a0.toList) = false := bne_eq_false_iff_eq.mpr c17
     clear c17
     simp only [Option.some.injEq, Prod.mk.injEq] at H
     obtain ⟨rfl, rfl⟩ := H
     obtain ⟨Ao18, co18, eo18⟩ := Kd.R_slice HO_4.out
     subst eo18
     go_wp2_with (first | ((with_reducible refine gate_callee (f := 113) rfl ?_); refine goesL_ (some 45) rfl rfl Tryz.func113 (by kernel_rfl) rfl #[.slice Ao18 x4_1.length co18] rfl Rg.l2 ?_; (with_reducible refine (coamingref04_Write.calls k1 _ _ x4_1 t179 _ ?side1 ?side2 A16.out).mono ?_); (case side1 => repeat (first | exact (Kd.R_reads' HO_4.out).2.2 | (with_reducible refine Kd.C_alloc ?_ _) | (with_reducible refine Kd.C_drewN ?_ _) | (with_reducible refine Kd.C_drew ?_))); (case side2 => exact (Kd.R_reads' HO_4.out).2.1); rintro e w' ⟨rfl, ⟨nd, rfl⟩⟩; refine ⟨_, rfl, ?_⟩))
     go_ret2
     exact ⟨_, by first | rfl | (simp [errW_none, errW_some] <;> rfl) | (simp [*, errW_none, errW_some] <;> rfl), by (with_reducible repeat (first | apply Kd.R_alloc | apply Kd.R_drewN | apply Kd.R_drew)); exact HO_4.out, Rg.b2⟩
    ·rw [if_neg c17] at H
     have c17b0 : (t179.toList == a0.toList) = false := beq_eq_false_iff_ne.mpr c17
     have c17b1 : (t179.toList != a0.toList) = true := bne_iff_ne.mpr c17
     simp only [Option.some.injEq, Prod.mk.injEq] at H
     obtain ⟨rfl, rfl⟩ := H
     obtain ⟨Ao19, co19, eo19⟩ := Kd.R_slice HO_4.out
     subst eo19
     go_wp2_with (first | ((with_reducible refine gate_callee (f := 113) rfl ?_); refine goesL_ (some 45) rfl rfl Tryz.func113 (by kernel_rfl) rfl #[.slice Ao19 x4_1.length co19] rfl Rg.l2 ?_; (with_reducible refine (coamingref04_Write.calls k1 _ _ x4_1 t179 _ ?side1 ?side2 A16.out).mono ?_); (case side1 => repeat (first | exact (Kd.R_reads' HO_4.out).2.2 | (with_reducible refine Kd.C_alloc ?_ _) | (with_reducible refine Kd.C_drewN ?_ _) | (with_reducible refine Kd.C_drew ?_))); (case side2 => exact (Kd.R_reads' HO_4.out).2.1); rintro e w' ⟨rfl, ⟨nd, rfl⟩⟩; refine ⟨_, rfl, ?_⟩))
     go_ret2
     exact ⟨_, by first | rfl | (simp [errW_none, errW_some] <;> rfl) | (simp [*, errW_none, errW_some] <;> rfl), by first | exact Kd.R_nil _ _ _ _ _ | exact Kd.N_nil _ _ _ _ _ | exact Kd.V_nil _ _ _ _ _ | exact Kd.Q_nil _ _ _ _ _ | exact Kd.S_nil _ _ _ _ _, Rg.b2⟩
def pass_read.f (k : Nat) (a0 : ByteArray) : Option (List Int × Bool) := (spell_Read.f k a0).bind fun bt184 => (if bt184.2 = 0 then (if (bt184.1.length : Int) = 50 then (if 0 < (bt184.1.length : Int) then (if (rd bt184.1 0) = 1 then (if 17 < (bt184.1.length : Int) then (some (bt184.1, decide ((rd bt184.1 17) ≤ 1))) else (none)) else (some (bt184.1, false))) else (none)) else (some (bt184.1, false))) else (some (bt184.1, false)))
theorem pass_read.calls (k : Nat) (a0 : ByteArray) (r1 : List Int) (r2 : Bool) (w : World) (h : pass_read.f k a0 = some (r1, r2)) :
  Calls Tryz.prog 102 #[.string a0] w fun e w' => ∃ v0_ : Value, e = .returned (.tuple #[v0_, .bool r2]) ∧ Kd.R (Kd.int .u8) 5 w' w.heap.size (fun _ => True) v0_ r1 ∧ Below w.heap.size w w' := by
 have HB := az (Below.refl w.heap.size w)
 have H : ((spell_Read.f k a0).bind fun bt184 => (if bt184.2 = 0 then (if (bt184.1.length : Int) = 50 then (if 0 < (bt184.1.length : Int) then (if (rd bt184.1 0) = 1 then (if 17 < (bt184.1.length : Int) then (some (bt184.1, decide ((rd bt184.1 17) ≤ 1))) else (none)) else (some (bt184.1, false))) else (none)) else (some (bt184.1, false))) else (some (bt184.1, false)))) = some (r1, r2) := h
 clear h
 replace H := Option.bind_eq_some_iff.mp H
 obtain ⟨⟨t184, t185⟩, A20, H⟩ := H
 replace H : (if t185 = 0 then (if (t184.length : Int) = 50 then (if 0 < (t184.length : Int) then (if (rd t184 0) = 1 then (if 17 < (t184.length : Int) then (some (t184, decide ((rd t184 17) ≤ 1))) else (none)) else (some (t184, false))) else (none)) else (some (t184, false))) else (some (t184, false))) = some (r1, r2) := H
 have A2 := az A20
 clear A20
 by_cases c3 : t185 = 0
 ·rw [if_pos c3] at H
  have c3b0 : (t185 == 0) = true := beq_iff_eq.mpr c3
  have c3b1 : (t185 != 0) = false := bne_eq_false_iff_eq.mpr c3
  clear c3
  by_cases c4 : (t184.length : Int) = 50
  ·rw [if_pos c4] at H
   have c4b0 : ((t184.length : Int) == 50) = true := beq_iff_eq.mpr c4
   have c4b1 : ((t184.length : Int) != 50) = false := bne_eq_false_iff_eq.mpr c4
   clear c4
   by_cases c5 : 0 < (t184.length : Int)
   ·rw [if_pos c5] at H
    have c5b0 : decide (0 < (t184.length : Int)) = true := decide_eq_true c5
    have c5b1 : decide (0 < t184.length) = true := decide_eq_true (by omega)
    clear c5
    by_cases c6 : (rd t184 0) = 1
    ·rw [if_pos c6] at H
     have c6b0 : ((rd t184 0) == 1) = true := beq_iff_eq.mpr c6
     have c6b1 : ((rd t184 0) != 1) = false := bne_eq_false_iff_eq.mpr c6
     clear c6
     by_cases c7 : 17 < (t184.length : Int)
     ·rw [if_pos c7] at H
      have c7b0 : decide (17 < (t184.length : Int)) = true := decide_eq_true c7
      have c7b1 : decide (17 < t184.length) = true := decide_eq_true (by omega)
      clear c7
      simp only [Option.some.injEq, Prod.mk.injEq] at H
      obtain ⟨rfl, rfl⟩ := H
      go_enter Tryz.func102, Tryz.ntmps102
      go_wp2_with (first | (go_at_call 114; (with_reducible refine (spell_Read.calls k a0 t184 t185 _ A2.out).mono ?_); rintro e w8 ⟨v186, rfl, ho0, hb⟩; have n0_ := az (Kd.R_lower ho0 (below_size (Rg.b2))); have n1_ := az (below_step (Rg.b2) hb); clear HB; have HO187 := n0_; have HB := n1_; clear n0_ n1_; (try clear hb); (try clear hb2); (try clear hk); (try clear hi); (try clear ho0); obtain ⟨Ao9, co9, eo9⟩ := Kd.R_slice HO187.out; subst eo9; have p188 : 0 ≤ (0 : Int) := (by omega); have q188 : 0 < (t184.length : Int) := of_decide_eq_true (by first | (with_reducible assumption) | assumption); obtain ⟨ad188, e188, hx188_0⟩ := Kd.at_int (Kd.R_reads' HO187.out).2.2 0 p188 q188; cases e188; have qi188 : (0 < t184.length) = True := eq_true (by omega); (try rw [show ((0 : Int)).toNat = 0 from rfl] at hx188_0); (try rw [Addr.add_zero'] at hx188_0); replace p188 := eq_true p188; replace q188 := eq_true q188; have p189 : 0 ≤ (17 : Int) := (by omega); have q189 : 17 < (t184.length : Int) := of_decide_eq_true (by first | (with_reducible assumption) | assumption); obtain ⟨ad189, e189, hx189_0⟩ := Kd.at_int (Kd.R_reads' HO187.out).2.2 17 p189 q189; obtain rfl : ad188 = ad189 := (by injection e189); (try simp only [show (17 : Int).toNat = 17 from rfl, Nat.reduceMul, Nat.reduceEqDiff, Go.Addr.add, ↓reduceIte] at hx189_0); have qi189 : (17 < t184.length) = True := eq_true (by omega); (try rw [show ((17 : Int)).toNat = 17 from rfl] at hx189_0); replace p189 := eq_true p189; replace q189 := eq_true q189))
      repeat (go_quiet (first | (go_at_call 114; (with_reducible refine (spell_Read.calls k a0 t184 t185 _ A2.out).mono ?_); rintro e w8 ⟨v186, rfl, ho0, hb⟩; have n0_ := az (Kd.R_lower ho0 (below_size (Rg.b2))); have n1_ := az (below_step (Rg.b2) hb); clear HB; have HO187 := n0_; have HB := n1_; clear n0_ n1_; (try clear hb); (try clear hb2); (try clear hk); (try clear hi); (try clear ho0); obtain ⟨Ao9, co9, eo9⟩ := Kd.R_slice HO187.out; subst eo9; have p188 : 0 ≤ (0 : Int) := (by omega); have q188 : 0 < (t184.length : Int) := of_decide_eq_true (by first | (with_reducible assumption) | assumption); obtain ⟨ad188, e188, hx188_0⟩ := Kd.at_int (Kd.R_reads' HO187.out).2.2 0 p188 q188; cases e188; have qi188 : (0 < t184.length) = True := eq_true (by omega); (try rw [show ((0 : Int)).toNat = 0 from rfl] at hx188_0); (try rw [Addr.add_zero'] at hx188_0); replace p188 := eq_true p188; replace q188 := eq_true q188; have p189 : 0 ≤ (17 : Int) := (by omega); have q189 : 17 < (t184.length : Int) := of_decide_eq_true (by first | (with_reducible assumption) | assumption); obtain ⟨ad189, e189, hx189_0⟩ := Kd.at_int (Kd.R_reads' HO187.out).2.2 17 p189 q189; obtain rfl : ad188 = ad189 := (by injection e189); (try simp only [show (17 : Int).toNat = 17 from rfl, Nat.reduceMul, Nat.reduceEqDiff, Go.Addr.add, ↓reduceIte] at hx189_0); have qi189 : (17 < t184.length) = True := eq_true (by omega); (try rw [show ((17 : Int)).toNat = 17 from rfl] at hx189_0); replace p189 := eq_true p189; replace q189 := eq_true q189)); try go_wp2_with (first | (go_at_call 114; (with_reducible refine (spell_Read.calls k a0 t184 t185 _ A2.out).mono ?_); rintro e w8 ⟨v186, rfl, ho0, hb⟩; have n0_ := az (Kd.R_lower ho0 (below_size (Rg.b2))); have n1_ := az (below_step (Rg.b2) hb); clear HB; have HO187 := n0_; have HB := n1_; clear n0_ n1_; (try clear hb); (try clear hb2); (try clear hk); (try clear hi); (try clear ho0); obtain ⟨Ao9, co9, eo9⟩ := Kd.R_slice HO187.out; subst eo9; have p188 : 0 ≤ (0 : Int) := (by omega); have q188 : 0 < (t184.length : Int) := of_decide_eq_true (by first | (with_reducible assumption) | assumption); obtain ⟨ad188, e188, hx188_0⟩ := Kd.at_int (Kd.R_reads' HO187.out).2.2 0 p188 q188; cases e188; have qi188 : (0 < t184.length) = True := eq_true (by omega); (try rw [show ((0 : Int)).toNat = 0 from rfl] at hx188_0); (try rw [Addr.add_zero'] at hx188_0); replace p188 := eq_true p188; replace q188 := eq_true q188; have p189 : 0 ≤ (17 : Int) := (by omega); have q189 : 17 < (t184.length : Int) := of_decide_eq_true (by first | (with_reducible assumption) | assumption); obtain ⟨ad189, e189, hx189_0⟩ := Kd.at_int (Kd.R_reads' HO187.out).2.2 17 p189 q189; obtain rfl : ad188 = ad189 := (by injection e189); (try simp only [show (17 : Int).toNat = 17 from rfl, Nat.reduceMul, Nat.reduceEqDiff, Go.Addr.add, ↓reduceIte] at hx189_0); have qi189 : (17 < t184.length) = True := eq_true (by omega); (try rw [show ((17 : Int)).toNat = 17 from rfl] at hx189_0); replace p189 := eq_true p189; replace q189 := eq_true q189)))
      go_ret2
      exact ⟨_, by first | rfl | (simp [errW_none, errW_some] <;> rfl) | (simp [*, errW_none, errW_some] <;> rfl), by (with_reducible repeat (first | apply Kd.R_alloc | apply Kd.R_drewN | apply Kd.R_drew)); exact HO187.out, Rg.b2⟩
     ·rw [if_neg c7] at H
      exact absurd H (by simp)
    ·rw [if_neg c6] at H
     have c6b0 : ((rd t184 0) == 1) = false := beq_eq_false_iff_ne.mpr c6
     have c6b1 : ((rd t184 0) != 1) = true := bne_iff_ne.mpr c6
     simp only [Option.some.injEq, Prod.mk.injEq] at H
     obtain ⟨rfl, rfl⟩ := H
     go_enter Tryz.func102, Tryz.ntmps102
     go_wp2_with (first | (go_at_call 114; (with_reducible refine (spell_Read.calls k a0 t184 t185 _ A2.out).mono ?_); rintro e w10 ⟨v186, rfl, ho0, hb⟩; have n0_ := az (Kd.R_lower ho0 (below_size (Rg.b2))); have n1_ := az (below_step (Rg.b2) hb); clear HB; have HO187 := n0_; have HB := n1_; clear n0_ n1_; (try clear hb); (try clear hb2); (try clear hk); (try clear hi); (try clear ho0); obtain ⟨Ao11, co11, eo11⟩ := Kd.R_slice HO187.out; subst eo11; have p188 : 0 ≤ (0 : Int) := (by omega); have q188 : 0 < (t184.length : Int) := of_decide_eq_true (by first | (with_reducible assumption) | assumption); obtain ⟨ad188, e188, hx188_0⟩ := Kd.at_int (Kd.R_reads' HO187.out).2.2 0 p188 q188; cases e188; have qi188 : (0 < t184.length) = True := eq_true (by omega); (try rw [show ((0 : Int)).toNat = 0 from rfl] at hx188_0); (try rw [Addr.add_zero'] at hx188_0); replace p188 := eq_true p188; replace q188 := eq_true q188))
     repeat (go_quiet (first | (go_at_call 114; (with_reducible refine (spell_Read.calls k a0 t184 t185 _ A2.out).mono ?_); rintro e w10 ⟨v186, rfl, ho0, hb⟩; have n0_ := az (Kd.R_lower ho0 (below_size (Rg.b2))); have n1_ := az (below_step (Rg.b2) hb); clear HB; have HO187 := n0_; have HB := n1_; clear n0_ n1_; (try clear hb); (try clear hb2); (try clear hk); (try clear hi); (try clear ho0); obtain ⟨Ao11, co11, eo11⟩ := Kd.R_slice HO187.out; subst eo11; have p188 : 0 ≤ (0 : Int) := (by omega); have q188 : 0 < (t184.length : Int) := of_decide_eq_true (by first | (with_reducible assumption) | assumption); obtain ⟨ad188, e188, hx188_0⟩ := Kd.at_int (Kd.R_reads' HO187.out).2.2 0 p188 q188; cases e188; have qi188 : (0 < t184.length) = True := eq_true (by omega); (try rw [show ((0 : Int)).toNat = 0 from rfl] at hx188_0); (try rw [Addr.add_zero'] at hx188_0); replace p188 := eq_true p188; replace q188 := eq_true q188)); try go_wp2_with (first | (go_at_call 114; (with_reducible refine (spell_Read.calls k a0 t184 t185 _ A2.out).mono ?_); rintro e w10 ⟨v186, rfl, ho0, hb⟩; have n0_ := az (Kd.R_lower ho0 (below_size (Rg.b2))); have n1_ := az (below_step (Rg.b2) hb); clear HB; have HO187 := n0_; have HB := n1_; clear n0_ n1_; (try clear hb); (try clear hb2); (try clear hk); (try clear hi); (try clear ho0); obtain ⟨Ao11, co11, eo11⟩ := Kd.R_slice HO187.out; subst eo11; have p188 : 0 ≤ (0 : Int) := (by omega); have q188 : 0 < (t184.length : Int) := of_decide_eq_true (by first | (with_reducible assumption) | assumption); obtain ⟨ad188, e188, hx188_0⟩ := Kd.at_int (Kd.R_reads' HO187.out).2.2 0 p188 q188; cases e188; have qi188 : (0 < t184.length) = True := eq_true (by omega); (try rw [show ((0 : Int)).toNat = 0 from rfl] at hx188_0); (try rw [Addr.add_zero'] at hx188_0); replace p188 := eq_true p188; replace q188 := eq_true q188)))
     go_ret2
     exact ⟨_, by first | rfl | (simp [errW_none, errW_some] <;> rfl) | (simp [*, errW_none, errW_some] <;> rfl), by (with_reducible repeat (first | apply Kd.R_alloc | apply Kd.R_drewN | apply Kd.R_drew)); exact HO187.out, Rg.b2⟩
   ·rw [if_neg c5] at H
    exact absurd H (by simp)
  ·rw [if_neg c4] at H
   have c4b0 : ((t184.length : Int) == 50) = false := beq_eq_false_iff_ne.mpr c4
   have c4b1 : ((t184.length : Int) != 50) = true := bne_iff_ne.mpr c4
   simp only [Option.some.injEq, Prod.mk.injEq] at H
   obtain ⟨rfl, rfl⟩ := H
   go_enter Tryz.func102, Tryz.ntmps102
   go_wp2_with (first | (go_at_call 114; (with_reducible refine (spell_Read.calls k a0 t184 t185 _ A2.out).mono ?_); rintro e w12 ⟨v186, rfl, ho0, hb⟩; have n0_ := az (Kd.R_lower ho0 (below_size (Rg.b2))); have n1_ := az (below_step (Rg.b2) hb); clear HB; have HO187 := n0_; have HB := n1_; clear n0_ n1_; (try clear hb); (try clear hb2); (try clear hk); (try clear hi); (try clear ho0); obtain ⟨Ao13, co13, eo13⟩ := Kd.R_slice HO187.out; subst eo13))
   repeat (go_quiet (first | (go_at_call 114; (with_reducible refine (spell_Read.calls k a0 t184 t185 _ A2.out).mono ?_); rintro e w12 ⟨v186, rfl, ho0, hb⟩; have n0_ := az (Kd.R_lower ho0 (below_size (Rg.b2))); have n1_ := az (below_step (Rg.b2) hb); clear HB; have HO187 := n0_; have HB := n1_; clear n0_ n1_; (try clear hb); (try clear hb2); (try clear hk); (try clear hi); (try clear ho0); obtain ⟨Ao13, co13, eo13⟩ := Kd.R_slice HO187.out; subst eo13)); try go_wp2_with (first | (go_at_call 114; (with_reducible refine (spell_Read.calls k a0 t184 t185 _ A2.out).mono ?_); rintro e w12 ⟨v186, rfl, ho0, hb⟩; have n0_ := az (Kd.R_lower ho0 (below_size (Rg.b2))); have n1_ := az (below_step (Rg.b2) hb); clear HB; have HO187 := n0_; have HB := n1_; clear n0_ n1_; (try clear hb); (try clear hb2); (try clear hk); (try clear hi); (try clear ho0); obtain ⟨Ao13, co13, eo13⟩ := Kd.R_slice HO187.out; subst eo13)))
   go_ret2
   exact ⟨_, by first | rfl | (simp [errW_none, errW_some] <;> rfl) | (simp [*, errW_none, errW_some] <;> rfl), by (with_reducible repeat (first | apply Kd.R_alloc | apply Kd.R_drewN | apply Kd.R_drew)); exact HO187.out, Rg.b2⟩
 ·rw [if_neg c3] at H
  have c3b0 : (t185 == 0) = false := beq_eq_false_iff_ne.mpr c3
  have c3b1 : (t185 != 0) = true := bne_iff_ne.mpr c3
  simp only [Option.some.injEq, Prod.mk.injEq] at H
  obtain ⟨rfl, rfl⟩ := H
  go_enter Tryz.func102, Tryz.ntmps102
  go_wp2_with (first | (go_at_call 114; (with_reducible refine (spell_Read.calls k a0 t184 t185 _ A2.out).mono ?_); rintro e w14 ⟨v186, rfl, ho0, hb⟩; have n0_ := az (Kd.R_lower ho0 (below_size (Rg.b2))); have n1_ := az (below_step (Rg.b2) hb); clear HB; have HO187 := n0_; have HB := n1_; clear n0_ n1_; (try clear hb); (try clear hb2); (try clear hk); (try clear hi); (try clear ho0)))
  repeat (go_quiet (first | (go_at_call 114; (with_reducible refine (spell_Read.calls k a0 t184 t185 _ A2.out).mono ?_); rintro e w14 ⟨v186, rfl, ho0, hb⟩; have n0_ := az (Kd.R_lower ho0 (below_size (Rg.b2))); have n1_ := az (below_step (Rg.b2) hb); clear HB; have HO187 := n0_; have HB := n1_; clear n0_ n1_; (try clear hb); (try clear hb2); (try clear hk); (try clear hi); (try clear ho0))); try go_wp2_with (first | (go_at_call 114; (with_reducible refine (spell_Read.calls k a0 t184 t185 _ A2.out).mono ?_); rintro e w14 ⟨v186, rfl, ho0, hb⟩; have n0_ := az (Kd.R_lower ho0 (below_size (Rg.b2))); have n1_ := az (below_step (Rg.b2) hb); clear HB; have HO187 := n0_; have HB := n1_; clear n0_ n1_; (try clear hb); (try clear hb2); (try clear hk); (try clear hi); (try clear ho0))))
  go_ret2
  exact ⟨_, by first | rfl | (simp [errW_none, errW_some] <;> rfl) | (simp [*, errW_none, errW_some] <;> rfl), by (with_reducible repeat (first | apply Kd.R_alloc | apply Kd.R_drewN | apply Kd.R_drew)); exact HO187.out, Rg.b2⟩
def pass_number.l0 : Nat → Int → List Int → Int → Int → Option (Int)
 | 0, _, _, _, _ => none
 | k + 1, x2, x5, x6, x7 => if x7 < x6 then (if 0 ≤ x7 then (if x7 < (x5.length : Int) then (pass_number.l0 k (Go.bits .or .u64 (IntKind.u64.wrap (x2 * 256)) (IntKind.u64.wrap (rd x5 x7))) x5 x6 (wrap64 (x7 + 1))) else (none)) else (none)) else (some x2)
def pass_number.f (k : Nat) (l0 : List Int) : Option (Int) := pass_number.l0 k 0 l0 (l0.length : Int) 0
theorem pass_number.calls (k : Nat) (A0 : Option Addr) (c0 : Nat) (l0 : List Int) (r : Int) (w : World) (hr0 : Kd.C (Kd.int .u8) w A0 l0.length l0) (hc0 : l0.length ≤ c0) (h : pass_number.f k l0 = some r) :
  Calls Tryz.prog 115 #[.slice A0 l0.length c0] w fun e w' => e = .returned (.int .u64 r) ∧ Drawn0 w w' := by
 have HR0 := az hr0
 have HC0 := az hc0
 clear hr0 hc0
 have H : (pass_number.l0 k 0 l0 (l0.length : Int) 0) = some r := h
 clear h
 have H' := az H
 clear H
 go_enter Tryz.func115, Tryz.ntmps115
 go_wp2
 go_loopg [2, 7] k (fun kq v2 v7 w' => ∃ (x2_1 : Int) (x7_1 : Int), v2 = .int .u64 x2_1 ∧ v7 = .int .i64 x7_1 ∧ Aside0 (pass_number.l0 kq x2_1 l0 (l0.length : Int) x7_1 = some r) ∧ Aside0 (kq ≤ k) ∧ Drawn0 w w')
 case atStart => exact ⟨(0), (0), (by first | rfl | (simp; done) | (simp [*]; done)), (by first | rfl | (simp; done) | (simp [*]; done)), H', ⟨Nat.le_refl _⟩, by repeat (first | exact Drawn0.refl _ | apply Drawn0.step)⟩
 case round =>
  clear H'
  try clear c1
  obtain ⟨x2_1, x7_1, rfl, rfl, HA, HK1, ⟨m1, rfl⟩⟩ := hrel
  cases gk with
  | zero => exact absurd HA.out (by simp [pass_number.l0])
  | succ k1 =>
   have H := HA.out
   clear HA
   simp only [pass_number.l0] at H
   by_cases c2 : x7_1 < (l0.length : Int)
   ·rw [if_pos c2] at H
    have c2b0 : decide (x7_1 < (l0.length : Int)) = true := decide_eq_true c2
    clear c2
    by_cases c3 : 0 ≤ x7_1
    ·rw [if_pos c3] at H
     have c3b0 : decide (0 ≤ x7_1) = true := decide_eq_true c3
     clear c3
     by_cases c4 : x7_1 < (l0.length : Int)
     ·rw [if_pos c4] at H
      have c4b0 : decide (x7_1 < (l0.length : Int)) = true := decide_eq_true c4
      clear c4
      have H' := az H
      clear H
      have p190 : 0 ≤ (x7_1 : Int) := of_decide_eq_true (by first | (with_reducible assumption) | assumption)
      have q190 : x7_1 < (l0.length : Int) := of_decide_eq_true (by first | (with_reducible assumption) | assumption)
      obtain ⟨ad190, e190, hx190_0⟩ := Kd.at_int HR0.out x7_1 p190 q190
      cases e190
      replace p190 := eq_true p190
      replace q190 := eq_true q190
      go_wp2
      go_roundg k1
      case measure => have := HK1.out; omega
      case rel => exact ⟨(Go.bits .or .u64 (IntKind.u64.wrap (x2_1 * 256)) (IntKind.u64.wrap (rd l0 x7_1))), (wrap64 (x7_1 + 1)), (by first | rfl | (simp; done) | (simp [*]; done)), (by first | rfl | (simp; done) | (simp [*]; done)), H', ⟨by have := HK1.out; omega⟩, by repeat (first | exact Drawn0.refl _ | apply Drawn0.step)⟩
     ·rw [if_neg c4] at H
      exact absurd H (by simp)
    ·rw [if_neg c3] at H
     exact absurd H (by simp)
   ·rw [if_neg c2] at H
    have c2b0 : decide (x7_1 < (l0.length : Int)) = false := decide_eq_false c2
    clear c2
    obtain rfl := Option.some.inj H
    go_wp2
    go_ret
    exact ⟨by first | rfl | (simp; done) | (simp [*]; done), by repeat (first | exact Drawn0.refl _ | apply Drawn0.step)⟩
def coamingref05_number.l0 : Nat → List Int → Int → Int → Option (Int)
 | 0, _, _, _ => none
 | k + 1, x0, x3, x4 => if x4 < (x0.length : Int) then (if 0 ≤ x4 then (coamingref05_number.l0 k x0 (Go.bits .or .u64 (IntKind.u64.wrap (x3 * 256)) (IntKind.u64.wrap (rd x0 x4))) (wrap64 (x4 + 1))) else (none)) else (some x3)
def coamingref05_number.f (k : Nat) (l0 : List Int) : Option (Int) := coamingref05_number.l0 k l0 0 0
theorem coamingref05_number.calls (k : Nat) (A0 : Option Addr) (c0 : Nat) (l0 : List Int) (r : Int) (w : World) (hr0 : Kd.C (Kd.int .u8) w A0 l0.length l0) (hc0 : l0.length ≤ c0) (h : coamingref05_number.f k l0 = some r) :
  Calls Tryz.prog 110 #[.slice A0 l0.length c0] w fun e w' => e = .returned (.int .u64 r) ∧ Drawn0 w w' := by
 have HR0 := az hr0
 have HC0 := az hc0
 clear hr0 hc0
 have H : (coamingref05_number.l0 k l0 0 0) = some r := h
 clear h
 have H' := az H
 clear H
 go_enter Tryz.func110, Tryz.ntmps110
 go_wp2
 go_loopg [3, 4] k (fun kq v3 v4 w' => ∃ (x3_1 : Int) (x4_1 : Int), v3 = .int .u64 x3_1 ∧ v4 = .int .i64 x4_1 ∧ Aside0 (coamingref05_number.l0 kq l0 x3_1 x4_1 = some r) ∧ Aside0 (kq ≤ k) ∧ Drawn0 w w')
 case atStart => exact ⟨(0), (0), (by first | rfl | (simp; done) | (simp [*]; done)), (by first | rfl | (simp; done) | (simp [*]; done)), H', ⟨Nat.le_refl _⟩, by repeat (first | exact Drawn0.refl _ | apply Drawn0.step)⟩
 case round =>
  clear H'
  try clear c1
  obtain ⟨x3_1, x4_1, rfl, rfl, HA, HK1, ⟨m1, rfl⟩⟩ := hrel
  cases gk with
  | zero => exact absurd HA.out (by simp [coamingref05_number.l0])
  | succ k1 =>
   have H := HA.out
   clear HA
   simp only [coamingref05_number.l0] at H
   by_cases c2 : x4_1 < (l0.length : Int)
   ·rw [if_pos c2] at H
    have c2b0 : decide (x4_1 < (l0.length : Int)) = true := decide_eq_true c2
    clear c2
    by_cases c3 : 0 ≤ x4_1
    ·rw [if_pos c3] at H
     have c3b0 : decide (0 ≤ x4_1) = true := decide_eq_true c3
     clear c3
     have H' := az H
     clear H
     have p199 : 0 ≤ (x4_1 : Int) := of_decide_eq_true (by first | (with_reducible assumption) | assumption)
     have q199 : x4_1 < (l0.length : Int) := of_decide_eq_true (by first | (with_reducible assumption) | assumption)
     obtain ⟨ad199, e199, hx199_0⟩ := Kd.at_int HR0.out x4_1 p199 q199
     cases e199
     replace p199 := eq_true p199
     replace q199 := eq_true q199
     go_wp2
     go_roundg k1
     case measure => have := HK1.out; omega
     case rel => exact ⟨(Go.bits .or .u64 (IntKind.u64.wrap (x3_1 * 256)) (IntKind.u64.wrap (rd l0 x4_1))), (wrap64 (x4_1 + 1)), (by first | rfl | (simp; done) | (simp [*]; done)), (by first | rfl | (simp; done) | (simp [*]; done)), H', ⟨by have := HK1.out; omega⟩, by repeat (first | exact Drawn0.refl _ | apply Drawn0.step)⟩
    ·rw [if_neg c3] at H
     exact absurd H (by simp)
   ·rw [if_neg c2] at H
    have c2b0 : decide (x4_1 < (l0.length : Int)) = false := decide_eq_false c2
    clear c2
    obtain rfl := Option.some.inj H
    go_wp2
    go_ret
    exact ⟨by first | rfl | (simp; done) | (simp [*]; done), by repeat (first | exact Drawn0.refl _ | apply Drawn0.step)⟩
end Go.Proofs.YtgljicdpcapgnaaGreatDoor.PBase
namespace Go.Proofs.YtgljicdpcapgnaaGreatDoor.PBase
open Go.RowKit Go.Proofs.YtgljicdpcapgnaaGreatDoorW.PrintWords Go.Proofs.YtgljicdpcapgnaaGreatDoorW.PrintLast Go.Proofs.YtgljicdpcapgnaaGreatDoorW.PrintMore
attribute [local go_sem] max2_int min2_int max_two min_two max_three min_three max_four min_four   -- for this text's walks alone
def coamingref00_Tenants.l0 : Nat → List (S74) → Int → Option (Bool)
 | 0, _, _ => none
 | k + 1, x0, x3 => if x3 < (x0.length : Int) then (if 0 ≤ x3 then (if (((rd_T74 x0 x3).f1).length : Int) > 200 then (some false) else (if (((rd_T74 x0 x3).f4).length : Int) > 50 then (some false) else (coamingref00_Tenants.l0 k x0 (wrap64 (x3 + 1))))) else (none)) else (some true)
def coamingref00_Tenants.f (k : Nat) (l0 : List (S74)) : Option (Bool) := if (l0.length : Int) > 70 then (some false) else (coamingref00_Tenants.l0 k l0 0)
theorem coamingref00_Tenants.calls (k : Nat) (A0 : Option Addr) (c0 : Nat) (l0 : List (S74)) (r : Bool) (w : World) (hr0 : Kd.C k74 w A0 l0.length l0) (hc0 : l0.length ≤ c0) (h : coamingref00_Tenants.f k l0 = some r) :
  Calls Tryz.prog 23 #[.slice A0 l0.length c0] w fun e w' => e = .returned (.bool r) ∧ Drawn0 w w' := by
 have HR0 := az hr0
 have HC0 := az hc0
 clear hr0 hc0
 have H : (if (l0.length : Int) > 70 then (some false) else (coamingref00_Tenants.l0 k l0 0)) = some r := h
 clear h
 by_cases c2 : (l0.length : Int) > 70
 ·rw [if_pos c2] at H
  have c2b0 : decide (70 < (l0.length : Int)) = true := decide_eq_true c2
  have c2b1 : decide (70 < l0.length) = true := decide_eq_true (by omega)
  clear c2
  obtain rfl := Option.some.inj H
  go_enter Tryz.func23, Tryz.ntmps23
  go_wp2
  go_ret
  exact ⟨by first | rfl | (simp; done) | (simp [*]; done), by repeat (first | exact Drawn0.refl _ | apply Drawn0.step)⟩
 ·rw [if_neg c2] at H
  have c2b0 : decide (70 < (l0.length : Int)) = false := decide_eq_false c2
  have c2b1 : decide (70 < l0.length) = false := decide_eq_false (by omega)
  clear c2
  have H' := az H
  clear H
  go_enter Tryz.func23, Tryz.ntmps23
  go_wp2
  go_loopg [3] k (fun kq v3 w' => ∃ (x3_1 : Int), v3 = .int .i64 x3_1 ∧ Aside0 (coamingref00_Tenants.l0 kq l0 x3_1 = some r) ∧ Aside0 (kq ≤ k) ∧ Drawn0 w w')
  case atStart => exact ⟨(0), (by first | rfl | (simp; done) | (simp [*]; done)), H', ⟨Nat.le_refl _⟩, by repeat (first | exact Drawn0.refl _ | apply Drawn0.step)⟩
  case round =>
   clear H'
   try clear c2
   try clear c2b0
   try clear c2b1
   try clear p2
   obtain ⟨x3_1, rfl, HA, HK1, ⟨m1, rfl⟩⟩ := hrel
   cases gk with
   | zero => exact absurd HA.out (by simp [coamingref00_Tenants.l0])
   | succ k1 =>
    have H := HA.out
    clear HA
    simp only [coamingref00_Tenants.l0] at H
    by_cases c3 : x3_1 < (l0.length : Int)
    ·rw [if_pos c3] at H
     have c3b0 : decide (x3_1 < (l0.length : Int)) = true := decide_eq_true c3
     clear c3
     by_cases c4 : 0 ≤ x3_1
     ·rw [if_pos c4] at H
      have c4b0 : decide (0 ≤ x3_1) = true := decide_eq_true c4
      clear c4
      by_cases c5 : (((rd_T74 l0 x3_1).f1).length : Int) > 200
      ·rw [if_pos c5] at H
       have c5b0 : decide (200 < (((rd_T74 l0 x3_1).f1).length : Int)) = true := decide_eq_true c5
       have c5b1 : decide (200 < ((rd_T74 l0 x3_1).f1).length) = true := decide_eq_true (by omega)
       clear c5
       obtain rfl := Option.some.inj H
       have p254 : 0 ≤ (x3_1 : Int) := of_decide_eq_true (by first | (with_reducible assumption) | assumption)
       have q254 : x3_1 < (l0.length : Int) := of_decide_eq_true (by first | (with_reducible assumption) | assumption)
       obtain ⟨ad254, A254_1, c254_1, A254_4, c254_4, e254, hx254_0, hx254_1, hx254_2, hx254_3, hx254_4, hl254_1, hi254_1, hl254_4, hi254_4⟩ := at_T74 HR0.out x3_1 p254 q254
       cases e254
       have HR254_1 := az hi254_1
       have HC254_1 := az hl254_1
       clear hi254_1 hl254_1
       have HR254_4 := az hi254_4
       have HC254_4 := az hl254_4
       clear hi254_4 hl254_4
       replace p254 := eq_true p254
       replace q254 := eq_true q254
       go_wp2
       go_ret
       exact ⟨by first | rfl | (simp; done) | (simp [*]; done), by repeat (first | exact Drawn0.refl _ | apply Drawn0.step)⟩
      ·rw [if_neg c5] at H
       have c5b0 : decide (200 < (((rd_T74 l0 x3_1).f1).length : Int)) = false := decide_eq_false c5
       have c5b1 : decide (200 < ((rd_T74 l0 x3_1).f1).length) = false := decide_eq_false (by omega)
       clear c5
       by_cases c6 : (((rd_T74 l0 x3_1).f4).length : Int) > 50
       ·rw [if_pos c6] at H
        have c6b0 : decide (50 < (((rd_T74 l0 x3_1).f4).length : Int)) = true := decide_eq_true c6
        have c6b1 : decide (50 < ((rd_T74 l0 x3_1).f4).length) = true := decide_eq_true (by omega)
        clear c6
        obtain rfl := Option.some.inj H
        have p254 : 0 ≤ (x3_1 : Int) := of_decide_eq_true (by first | (with_reducible assumption) | assumption)
        have q254 : x3_1 < (l0.length : Int) := of_decide_eq_true (by first | (with_reducible assumption) | assumption)
        obtain ⟨ad254, A254_1, c254_1, A254_4, c254_4, e254, hx254_0, hx254_1, hx254_2, hx254_3, hx254_4, hl254_1, hi254_1, hl254_4, hi254_4⟩ := at_T74 HR0.out x3_1 p254 q254
        cases e254
        have HR254_1 := az hi254_1
        have HC254_1 := az hl254_1
        clear hi254_1 hl254_1
        have HR254_4 := az hi254_4
        have HC254_4 := az hl254_4
        clear hi254_4 hl254_4
        replace p254 := eq_true p254
        replace q254 := eq_true q254
        have p255 : 0 ≤ (x3_1 : Int) := of_decide_eq_true (by first | (with_reducible assumption) | assumption)
        have q255 : x3_1 < (l0.length : Int) := of_decide_eq_true (by first | (with_reducible assumption) | assumption)
        obtain ⟨ad255, A255_1, c255_1, A255_4, c255_4, e255, hx255_0, hx255_1, hx255_2, hx255_3, hx255_4, hl255_1, hi255_1, hl255_4, hi255_4⟩ := at_T74 HR0.out x3_1 p255 q255
        obtain rfl : ad254 = ad255 := (by injection e255)
        have HR255_1 := az hi255_1
        have HC255_1 := az hl255_1
        clear hi255_1 hl255_1
        have HR255_4 := az hi255_4
        have HC255_4 := az hl255_4
        clear hi255_4 hl255_4
        replace p255 := eq_true p255
        replace q255 := eq_true q255
        have ea_ := Option.some.inj (hx254_1.symm.trans hx255_1)
        injection ea_ with ea_ en_ ec_
        subst ea_
        subst ec_
        clear en_
        have ea_ := Option.some.inj (hx254_4.symm.trans hx255_4)
        injection ea_ with ea_ en_ ec_
        subst ea_
        subst ec_
        clear en_
        go_wp2
        go_ret
        exact ⟨by first | rfl | (simp; done) | (simp [*]; done), by repeat (first | exact Drawn0.refl _ | apply Drawn0.step)⟩
       ·rw [if_neg c6] at H
        have c6b0 : decide (50 < (((rd_T74 l0 x3_1).f4).length : Int)) = false := decide_eq_false c6
        have c6b1 : decide (50 < ((rd_T74 l0 x3_1).f4).length) = false := decide_eq_false (by omega)
        clear c6
        have H' := az H
        clear H
        have p254 : 0 ≤ (x3_1 : Int) := of_decide_eq_true (by first | (with_reducible assumption) | assumption)
        have q254 : x3_1 < (l0.length : Int) := of_decide_eq_true (by first | (with_reducible assumption) | assumption)
        obtain ⟨ad254, A254_1, c254_1, A254_4, c254_4, e254, hx254_0, hx254_1, hx254_2, hx254_3, hx254_4, hl254_1, hi254_1, hl254_4, hi254_4⟩ := at_T74 HR0.out x3_1 p254 q254
        cases e254
        have HR254_1 := az hi254_1
        have HC254_1 := az hl254_1
        clear hi254_1 hl254_1
        have HR254_4 := az hi254_4
        have HC254_4 := az hl254_4
        clear hi254_4 hl254_4
        replace p254 := eq_true p254
        replace q254 := eq_true q254
        have p255 : 0 ≤ (x3_1 : Int) := of_decide_eq_true (by first | (with_reducible assumption) | assumption)
        have q255 : x3_1 < (l0.length : Int) := of_decide_eq_true (by first | (with_reducible assumption) | assumption)
        obtain ⟨ad255, A255_1, c255_1, A255_4, c255_4, e255, hx255_0, hx255_1, hx255_2, hx255_3, hx255_4, hl255_1, hi255_1, hl255_4, hi255_4⟩ := at_T74 HR0.out x3_1 p255 q255
        obtain rfl : ad254 = ad255 := (by injection e255)
        have HR255_1 := az hi255_1
        have HC255_1 := az hl255_1
        clear hi255_1 hl255_1
        have HR255_4 := az hi255_4
        have HC255_4 := az hl255_4
        clear hi255_4 hl255_4
        replace p255 := eq_true p255
        replace q255 := eq_true q255
        have ea_ := Option.some.inj (hx254_1.symm.trans hx255_1)
        injection ea_ with ea_ en_ ec_
        subst ea_
        subst ec_
        clear en_
        have ea_ := Option.some.inj (hx254_4.symm.trans hx255_4)
        injection ea_ with ea_ en_ ec_
        subst ea_
        subst ec_
        clear en_
        go_wp2
        go_roundg k1
        case measure => have := HK1.out; omega
        case rel => exact ⟨(wrap64 (x3_1 + 1)), (by first | rfl | (simp; done) | (simp [*]; done)), H', ⟨by have := HK1.out; omega⟩, by repeat (first | exact Drawn0.refl _ | apply Drawn0.step)⟩
     ·rw [if_neg c4] at H
      exact absurd H (by simp)
    ·rw [if_neg c3] at H
     have c3b0 : decide (x3_1 < (l0.length : Int)) = false := decide_eq_false c3
     clear c3
     obtain rfl := Option.some.inj H
     go_wp2
     go_ret
     exact ⟨by first | rfl | (simp; done) | (simp [*]; done), by repeat (first | exact Drawn0.refl _ | apply Drawn0.step)⟩
def slices_Index_uint32_uint32.l0 : Nat → List Int → Int → Int → Int → Option (Int)
 | 0, _, _, _, _ => none
 | k + 1, x0, x1, x7, x8 => if x8 < x7 then (if 0 ≤ x8 then (if x8 < (x0.length : Int) then (if x1 = (rd x0 x8) then (some x8) else (slices_Index_uint32_uint32.l0 k x0 x1 x7 (wrap64 (x8 + 1)))) else (none)) else (none)) else (some (-1))
def slices_Index_uint32_uint32.f (k : Nat) (l0 : List Int) (a1 : Int) : Option (Int) := slices_Index_uint32_uint32.l0 k l0 a1 (l0.length : Int) 0
theorem slices_Index_uint32_uint32.calls (k : Nat) (A0 : Option Addr) (c0 : Nat) (l0 : List Int) (a1 : Int) (r : Int) (w : World) (hr0 : Kd.C (Kd.int .u32) w A0 l0.length l0) (hc0 : l0.length ≤ c0) (h : slices_Index_uint32_uint32.f k l0 a1 = some r) :
  Calls Tryz.prog 120 #[.slice A0 l0.length c0, .int .u32 a1] w fun e w' => e = .returned (.int .i64 r) ∧ Drawn0 w w' := by
 have HR0 := az hr0
 have HC0 := az hc0
 clear hr0 hc0
 have H : (slices_Index_uint32_uint32.l0 k l0 a1 (l0.length : Int) 0) = some r := h
 clear h
 have H' := az H
 clear H
 go_enter Tryz.func120, Tryz.ntmps120
 go_wp2
 go_loopg [8] k (fun kq v8 w' => ∃ (x8_1 : Int), v8 = .int .i64 x8_1 ∧ Aside0 (slices_Index_uint32_uint32.l0 kq l0 a1 (l0.length : Int) x8_1 = some r) ∧ Aside0 (kq ≤ k) ∧ Drawn0 w w')
 case atStart => exact ⟨(0), (by first | rfl | (simp; done) | (simp [*]; done)), H', ⟨Nat.le_refl _⟩, by repeat (first | exact Drawn0.refl _ | apply Drawn0.step)⟩
 case round =>
  clear H'
  try clear c1
  try clear p2
  obtain ⟨x8_1, rfl, HA, HK1, ⟨m1, rfl⟩⟩ := hrel
  cases gk with
  | zero => exact absurd HA.out (by simp [slices_Index_uint32_uint32.l0])
  | succ k1 =>
   have H := HA.out
   clear HA
   simp only [slices_Index_uint32_uint32.l0] at H
   by_cases c3 : x8_1 < (l0.length : Int)
   ·rw [if_pos c3] at H
    have c3b0 : decide (x8_1 < (l0.length : Int)) = true := decide_eq_true c3
    clear c3
    by_cases c4 : 0 ≤ x8_1
    ·rw [if_pos c4] at H
     have c4b0 : decide (0 ≤ x8_1) = true := decide_eq_true c4
     clear c4
     by_cases c5 : x8_1 < (l0.length : Int)
     ·rw [if_pos c5] at H
      have c5b0 : decide (x8_1 < (l0.length : Int)) = true := decide_eq_true c5
      clear c5
      by_cases c6 : a1 = (rd l0 x8_1)
      ·rw [if_pos c6] at H
       have c6b0 : (a1 == (rd l0 x8_1)) = true := beq_iff_eq.mpr c6
       have c6b1 : (a1 != (rd l0 x8_1)) = false := bne_eq_false_iff_eq.mpr c6
       clear c6
       obtain rfl := Option.some.inj H
       have p256 : 0 ≤ (x8_1 : Int) := of_decide_eq_true (by first | (with_reducible assumption) | assumption)
       have q256 : x8_1 < (l0.length : Int) := of_decide_eq_true (by first | (with_reducible assumption) | assumption)
       obtain ⟨ad256, e256, hx256_0⟩ := Kd.at_int HR0.out x8_1 p256 q256
       cases e256
       replace p256 := eq_true p256
       replace q256 := eq_true q256
       go_wp2
       go_ret
       exact ⟨by first | rfl | (simp; done) | (simp [*]; done), by repeat (first | exact Drawn0.refl _ | apply Drawn0.step)⟩
      ·rw [if_neg c6] at H
       have c6b0 : (a1 == (rd l0 x8_1)) = false := beq_eq_false_iff_ne.mpr c6
       have c6b1 : (a1 != (rd l0 x8_1)) = true := bne_iff_ne.mpr c6
       have H' := az H
       clear H
       have p256 : 0 ≤ (x8_1 : Int) := of_decide_eq_true (by first | (with_reducible assumption) | assumption)
       have q256 : x8_1 < (l0.length : Int) := of_decide_eq_true (by first | (with_reducible assumption) | assumption)
       obtain ⟨ad256, e256, hx256_0⟩ := Kd.at_int HR0.out x8_1 p256 q256
       cases e256
       replace p256 := eq_true p256
       replace q256 := eq_true q256
       go_wp2
       go_roundg k1
       case measure => have := HK1.out; omega
       case rel => exact ⟨(wrap64 (x8_1 + 1)), (by first | rfl | (simp; done) | (simp [*]; done)), H', ⟨by have := HK1.out; omega⟩, by repeat (first | exact Drawn0.refl _ | apply Drawn0.step)⟩
     ·rw [if_neg c5] at H
      exact absurd H (by simp)
    ·rw [if_neg c4] at H
     exact absurd H (by simp)
   ·rw [if_neg c3] at H
    have c3b0 : decide (x8_1 < (l0.length : Int)) = false := decide_eq_false c3
    clear c3
    obtain rfl := Option.some.inj H
    go_wp2
    go_ret
    exact ⟨by first | rfl | (simp; done) | (simp [*]; done), by repeat (first | exact Drawn0.refl _ | apply Drawn0.step)⟩
def slices_Contains_uint32_uint32.f (k : Nat) (l0 : List Int) (a1 : Int) : Option (Bool) := (slices_Index_uint32_uint32.f k l0 a1).bind fun t257 => (some (decide (t257 ≥ 0)))
theorem slices_Contains_uint32_uint32.calls (k : Nat) (A0 : Option Addr) (c0 : Nat) (l0 : List Int) (a1 : Int) (r : Bool) (w : World) (hr0 : Kd.C (Kd.int .u32) w A0 l0.length l0) (hc0 : l0.length ≤ c0) (h : slices_Contains_uint32_uint32.f k l0 a1 = some r) :
  Calls Tryz.prog 106 #[.slice A0 l0.length c0, .int .u32 a1] w fun e w' => e = .returned (.bool r) ∧ Drawn0 w w' := by
 have HR0 := az hr0
 have HC0 := az hc0
 clear hr0 hc0
 have H : ((slices_Index_uint32_uint32.f k l0 a1).bind fun t257 => (some (decide (t257 ≥ 0)))) = some r := h
 clear h
 replace H := Option.bind_eq_some_iff.mp H
 obtain ⟨t257, A30, H⟩ := H
 replace H : (some (decide (t257 ≥ 0))) = some r := H
 have A3 := az A30
 clear A30
 obtain rfl := Option.some.inj H
 go_enter Tryz.func106, Tryz.ntmps106
 go_wp2_with (first | ((with_reducible refine gate_callee (f := 120) rfl ?_); refine goesL_ (some 7) rfl rfl Tryz.func120 (by kernel_rfl) rfl #[.slice A0 l0.length c0, .int .u32 a1] rfl Rg.l2 ?_; (with_reducible refine (slices_Index_uint32_uint32.calls k _ _ l0 a1 t257 _ ?side1 ?side2 A3.out).mono ?_); (case side1 => repeat (first | exact HR0.out | (with_reducible refine Kd.C_alloc ?_ _) | (with_reducible refine Kd.C_drewN ?_ _) | (with_reducible refine Kd.C_drew ?_))); (case side2 => exact HC0.out); rintro e w' ⟨rfl, ⟨nd, rfl⟩⟩; refine ⟨_, rfl, ?_⟩))
 go_ret
 exact ⟨by first | rfl | (simp; done) | (simp [*]; done), by repeat (first | exact Drawn0.refl _ | apply Drawn0.step)⟩
def slices_Index_uint16_uint16.l0 : Nat → List Int → Int → Int → Int → Option (Int)
 | 0, _, _, _, _ => none
 | k + 1, x0, x1, x7, x8 => if x8 < x7 then (if 0 ≤ x8 then (if x8 < (x0.length : Int) then (if x1 = (rd x0 x8) then (some x8) else (slices_Index_uint16_uint16.l0 k x0 x1 x7 (wrap64 (x8 + 1)))) else (none)) else (none)) else (some (-1))
def slices_Index_uint16_uint16.f (k : Nat) (l0 : List Int) (a1 : Int) : Option (Int) := slices_Index_uint16_uint16.l0 k l0 a1 (l0.length : Int) 0
theorem slices_Index_uint16_uint16.calls (k : Nat) (A0 : Option Addr) (c0 : Nat) (l0 : List Int) (a1 : Int) (r : Int) (w : World) (hr0 : Kd.C (Kd.int .u16) w A0 l0.length l0) (hc0 : l0.length ≤ c0) (h : slices_Index_uint16_uint16.f k l0 a1 = some r) :
  Calls Tryz.prog 108 #[.slice A0 l0.length c0, .int .u16 a1] w fun e w' => e = .returned (.int .i64 r) ∧ Drawn0 w w' := by
 have HR0 := az hr0
 have HC0 := az hc0
 clear hr0 hc0
 have H : (slices_Index_uint16_uint16.l0 k l0 a1 (l0.length : Int) 0) = some r := h
 clear h
 have H' := az H
 clear H
 go_enter Tryz.func108, Tryz.ntmps108
 go_wp2
 go_loopg [8] k (fun kq v8 w' => ∃ (x8_1 : Int), v8 = .int .i64 x8_1 ∧ Aside0 (slices_Index_uint16_uint16.l0 kq l0 a1 (l0.length : Int) x8_1 = some r) ∧ Aside0 (kq ≤ k) ∧ Drawn0 w w')
 case atStart => exact ⟨(0), (by first | rfl | (simp; done) | (simp [*]; done)), H', ⟨Nat.le_refl _⟩, by repeat (first | exact Drawn0.refl _ | apply Drawn0.step)⟩
 case round =>
  clear H'
  try clear c1
  try clear p2
  obtain ⟨x8_1, rfl, HA, HK1, ⟨m1, rfl⟩⟩ := hrel
  cases gk with
  | zero => exact absurd HA.out (by simp [slices_Index_uint16_uint16.l0])
  | succ k1 =>
   have H := HA.out
   clear HA
   simp only [slices_Index_uint16_uint16.l0] at H
   by_cases c3 : x8_1 < (l0.length : Int)
   ·rw [if_pos c3] at H
    have c3b0 : decide (x8_1 < (l0.length : Int)) = true := decide_eq_true c3
    clear c3
    by_cases c4 : 0 ≤ x8_1
    ·rw [if_pos c4] at H
     have c4b0 : decide (0 ≤ x8_1) = true := decide_eq_true c4
     clear c4
     by_cases c5 : x8_1 < (l0.length : Int)
     ·rw [if_pos c5] at H
      have c5b0 : decide (x8_1 < (l0.length : Int)) = true := decide_eq_true c5
      clear c5
      by_cases c6 : a1 = (rd l0 x8_1)
      ·rw [if_pos c6] at H
       have c6b0 : (a1 == (rd l0 x8_1)) = true := beq_iff_eq.mpr c6
       have c6b1 : (a1 != (rd l0 x8_1)) = false := bne_eq_false_iff_eq.mpr c6
       clear c6
       obtain rfl := Option.some.inj H
       have p258 : 0 ≤ (x8_1 : Int) := of_decide_eq_true (by first | (with_reducible assumption) | assumption)
       have q258 : x8_1 < (l0.length : Int) := of_decide_eq_true (by first | (with_reducible assumption) | assumption)
       obtain ⟨ad258, e258, hx258_0⟩ := Kd.at_int HR0.out x8_1 p258 q258
       cases e258
       replace p258 := eq_true p258
       replace q258 := eq_true q258
       go_wp2
       go_ret
       exact ⟨by first | rfl | (simp; done) | (simp [*]; done), by repeat (first | exact Drawn0.refl _ | apply Drawn0.step)⟩
      ·rw [if_neg c6] at H
       have c6b0 : (a1 == (rd l0 x8_1)) = false := beq_eq_false_iff_ne.mpr c6
       have c6b1 : (a1 != (rd l0 x8_1)) = true := bne_iff_ne.mpr c6
       have H' := az H
       clear H
       have p258 : 0 ≤ (x8_1 : Int) := of_decide_eq_true (by first | (with_reducible assumption) | assumption)
       have q258 : x8_1 < (l0.length : Int) := of_decide_eq_true (by first | (with_reducible assumption) | assumption)
       obtain ⟨ad258, e258, hx258_0⟩ := Kd.at_int HR0.out x8_1 p258 q258
       cases e258
       replace p258 := eq_true p258
       replace q258 := eq_true q258
       go_wp2
       go_roundg k1
       case measure => have := HK1.out; omega
       case rel => exact ⟨(wrap64 (x8_1 + 1)), (by first | rfl | (simp; done) | (simp [*]; done)), H', ⟨by have := HK1.out; omega⟩, by repeat (first | exact Drawn0.refl _ | apply Drawn0.step)⟩
     ·rw [if_neg c5] at H
      exact absurd H (by simp)
    ·rw [if_neg c4] at H
     exact absurd H (by simp)
   ·rw [if_neg c3] at H
    have c3b0 : decide (x8_1 < (l0.length : Int)) = false := decide_eq_false c3
    clear c3
    obtain rfl := Option.some.inj H
    go_wp2
    go_ret
    exact ⟨by first | rfl | (simp; done) | (simp [*]; done), by repeat (first | exact Drawn0.refl _ | apply Drawn0.step)⟩
def slices_Contains_uint16_uint16.f (k : Nat) (l0 : List Int) (a1 : Int) : Option (Bool) := (slices_Index_uint16_uint16.f k l0 a1).bind fun t259 => (some (decide (t259 ≥ 0)))
theorem slices_Contains_uint16_uint16.calls (k : Nat) (A0 : Option Addr) (c0 : Nat) (l0 : List Int) (a1 : Int) (r : Bool) (w : World) (hr0 : Kd.C (Kd.int .u16) w A0 l0.length l0) (hc0 : l0.length ≤ c0) (h : slices_Contains_uint16_uint16.f k l0 a1 = some r) :
  Calls Tryz.prog 92 #[.slice A0 l0.length c0, .int .u16 a1] w fun e w' => e = .returned (.bool r) ∧ Drawn0 w w' := by
 have HR0 := az hr0
 have HC0 := az hc0
 clear hr0 hc0
 have H : ((slices_Index_uint16_uint16.f k l0 a1).bind fun t259 => (some (decide (t259 ≥ 0)))) = some r := h
 clear h
 replace H := Option.bind_eq_some_iff.mp H
 obtain ⟨t259, A30, H⟩ := H
 replace H : (some (decide (t259 ≥ 0))) = some r := H
 have A3 := az A30
 clear A30
 obtain rfl := Option.some.inj H
 go_enter Tryz.func92, Tryz.ntmps92
 go_wp2_with (first | ((with_reducible refine gate_callee (f := 108) rfl ?_); refine goesL_ (some 7) rfl rfl Tryz.func108 (by kernel_rfl) rfl #[.slice A0 l0.length c0, .int .u16 a1] rfl Rg.l2 ?_; (with_reducible refine (slices_Index_uint16_uint16.calls k _ _ l0 a1 t259 _ ?side1 ?side2 A3.out).mono ?_); (case side1 => repeat (first | exact HR0.out | (with_reducible refine Kd.C_alloc ?_ _) | (with_reducible refine Kd.C_drewN ?_ _) | (with_reducible refine Kd.C_drew ?_))); (case side2 => exact HC0.out); rintro e w' ⟨rfl, ⟨nd, rfl⟩⟩; refine ⟨_, rfl, ?_⟩))
 go_ret
 exact ⟨by first | rfl | (simp; done) | (simp [*]; done), by repeat (first | exact Drawn0.refl _ | apply Drawn0.step)⟩
def coamingref06_Width.f (a0 : Int) : Option (Int) := if a0 = 1 then (some a0) else (if a0 = 2 then (some a0) else (if a0 = 4 then (some a0) else (some 8)))
theorem coamingref06_Width.calls (a0 : Int) (r : Int) (w : World) (h : coamingref06_Width.f a0 = some r) :
  Calls Tryz.prog 57 #[.int .i64 a0] w fun e w' => e = .returned (.int .i64 r) ∧ Drawn0 w w' := by
 have H : (if a0 = 1 then (some a0) else (if a0 = 2 then (some a0) else (if a0 = 4 then (some a0) else (some 8)))) = some r := h
 clear h
 by_cases c2 : a0 = 1
 ·rw [if_pos c2] at H
  have c2b0 : (a0 == 1) = true := beq_iff_eq.mpr c2
  have c2b1 : (a0 != 1) = false := bne_eq_false_iff_eq.mpr c2
  clear c2
  obtain rfl := Option.some.inj H
  go_enter Tryz.func57, Tryz.ntmps57
  go_wp2
  go_ret
  exact ⟨by first | rfl | (simp; done) | (simp [*]; done), by repeat (first | exact Drawn0.refl _ | apply Drawn0.step)⟩
 ·rw [if_neg c2] at H
  have c2b0 : (a0 == 1) = false := beq_eq_false_iff_ne.mpr c2
  have c2b1 : (a0 != 1) = true := bne_iff_ne.mpr c2
  by_cases c3 : a0 = 2
  ·rw [if_pos c3] at H
   have c3b0 : (a0 == 2) = true := beq_iff_eq.mpr c3
   have c3b1 : (a0 != 2) = false := bne_eq_false_iff_eq.mpr c3
   clear c3
   obtain rfl := Option.some.inj H
   go_enter Tryz.func57, Tryz.ntmps57
   go_wp2
   go_ret
   exact ⟨by first | rfl | (simp; done) | (simp [*]; done), by repeat (first | exact Drawn0.refl _ | apply Drawn0.step)⟩
  ·rw [if_neg c3] at H
   have c3b0 : (a0 == 2) = false := beq_eq_false_iff_ne.mpr c3
   have c3b1 : (a0 != 2) = true := bne_iff_ne.mpr c3
   by_cases c4 : a0 = 4
   ·rw [if_pos c4] at H
    have c4b0 : (a0 == 4) = true := beq_iff_eq.mpr c4
    have c4b1 : (a0 != 4) = false := bne_eq_false_iff_eq.mpr c4
    clear c4
    obtain rfl := Option.some.inj H
    go_enter Tryz.func57, Tryz.ntmps57
    go_wp2
    go_ret
    exact ⟨by first | rfl | (simp; done) | (simp [*]; done), by repeat (first | exact Drawn0.refl _ | apply Drawn0.step)⟩
   ·rw [if_neg c4] at H
    have c4b0 : (a0 == 4) = false := beq_eq_false_iff_ne.mpr c4
    have c4b1 : (a0 != 4) = true := bne_iff_ne.mpr c4
    obtain rfl := Option.some.inj H
    go_enter Tryz.func57, Tryz.ntmps57
    go_wp2
    go_ret
    exact ⟨by first | rfl | (simp; done) | (simp [*]; done), by repeat (first | exact Drawn0.refl _ | apply Drawn0.step)⟩
mutual
def coamingref06_Take.l0 : Nat → List Int → List Int → List Int → Int → Int → Option (List Int × List Int × Bool)
 | 0, _, _, _, _, _ => none
 | k + 1, x0, x1, x7, x8, x9 => if x9 < (x1.length : Int) then (if 0 ≤ x9 then ((coamingref06_Width.f (rd x1 x9)).bind fun t265 => (if t265 > (wrap64 ((x0.length : Int) - x8)) then (some (([] : List Int), ([] : List Int), false)) else (coamingref06_Take.l1 k x0 x1 x7 x8 x9 t265 0 0))) else (none)) else (if 0 ≤ x8 then (if x8 ≤ (x0.length : Int) then (if ([] : List Int).length + (x0.drop (x8 : Int).toNat).length < 140737488355328 then (some (x7, (([] : List Int) ++ (x0.drop (x8 : Int).toNat)), true)) else (none)) else (none)) else (none))
def coamingref06_Take.l1 : Nat → List Int → List Int → List Int → Int → Int → Int → Int → Int → Option (List Int × List Int × Bool)
 | 0, _, _, _, _, _, _, _, _ => none
 | k + 1, x0, x1, x7, x8, x9, x10, x11, x12 => if x12 < x10 then (if 0 ≤ (wrap64 (x8 + x12)) then (if (wrap64 (x8 + x12)) < (x0.length : Int) then (coamingref06_Take.l1 k x0 x1 x7 x8 x9 x10 (Go.bits .or .u64 (IntKind.u64.wrap (x11 * 256)) (IntKind.u64.wrap (rd x0 (wrap64 (x8 + x12))))) (wrap64 (x12 + 1))) else (none)) else (none)) else (if x7.length < 17592186044416 then (coamingref06_Take.l0 k x0 x1 (x7 ++ [x11]) (wrap64 (x8 + x10)) (wrap64 (x9 + 1))) else (none))
end
def coamingref06_Take.f (k : Nat) (l0 : List Int) (l1 : List Int) : Option (List Int × List Int × Bool) := coamingref06_Take.l0 k l0 l1 ([] : List Int) 0 0
theorem coamingref06_Take.calls (k : Nat) (A0 : Option Addr) (c0 : Nat) (l0 : List Int) (A1 : Option Addr) (c1 : Nat) (l1 : List Int) (r1 : List Int) (r2 : List Int) (r3 : Bool) (w : World) (hr0 : Kd.C (Kd.int .u8) w A0 l0.length l0) (hc0 : l0.length ≤ c0) (hr1 : Kd.C (Kd.int .i64) w A1 l1.length l1) (hc1 : l1.length ≤ c1) (h : coamingref06_Take.f k l0 l1 = some (r1, r2, r3)) :
  Calls Tryz.prog 77 #[.slice A0 l0.length c0, .slice A1 l1.length c1] w fun e w' => ∃ v0_ v1_ : Value, e = .returned (.tuple #[v0_, v1_, .bool r3]) ∧ Kd.R (Kd.int .u64) 45 w' w.heap.size (fun _ => True) v0_ r1 ∧ Kd.R (Kd.int .u8) 5 w' w.heap.size (fun _ => True) v1_ r2 ∧ Below w.heap.size w w' := by
 have HR0 := az hr0
 have HC0 := az hc0
 clear hr0 hc0
 have HR1 := az hr1
 have HC1 := az hc1
 clear hr1 hc1
 have HB := az (Below.refl w.heap.size w)
 have H : (coamingref06_Take.l0 k l0 l1 ([] : List Int) 0 0) = some (r1, r2, r3) := h
 clear h
 have H' := az H
 clear H
 go_enter Tryz.func77, Tryz.ntmps77
 go_wp2
 go_loopg [7, 8, 9] k (fun kq v7 v8 v9 w' => ∃ (x7_1 : List Int) (x8_1 : Int) (x9_1 : Int), v8 = .int .i64 x8_1 ∧ v9 = .int .i64 x9_1 ∧ Aside0 (coamingref06_Take.l0 kq l0 l1 x7_1 x8_1 x9_1 = some (r1, r2, r3)) ∧ Aside0 (kq ≤ k) ∧ Aside0 (Kd.R (Kd.int .u64) 45 w' w.heap.size (fun _ => True) v7 x7_1) ∧ Aside0 (Below w.heap.size w w'))
 case atStart => exact ⟨(([] : List Int)), (0), (0), (by first | rfl | (simp; done) | (simp [*]; done)), (by first | rfl | (simp; done) | (simp [*]; done)), H', ⟨Nat.le_refl _⟩, ⟨by first | exact Kd.R_nil _ _ _ _ _ | exact Kd.N_nil _ _ _ _ _ | exact Kd.V_nil _ _ _ _ _ | exact Kd.Q_nil _ _ _ _ _ | exact Kd.S_nil _ _ _ _ _⟩, ⟨Rg.b2⟩⟩
 case round =>
  clear H'
  try clear c1
  try clear p2
  obtain ⟨x7_1, x8_1, x9_1, rfl, rfl, HA, HK1, HO_7, HB⟩ := hrel
  cases gk with
  | zero => exact absurd HA.out (by simp [coamingref06_Take.l0])
  | succ k1 =>
   have H := HA.out
   clear HA
   simp only [coamingref06_Take.l0] at H
   by_cases c3 : x9_1 < (l1.length : Int)
   ·rw [if_pos c3] at H
    have c3b0 : decide (x9_1 < (l1.length : Int)) = true := decide_eq_true c3
    clear c3
    by_cases c4 : 0 ≤ x9_1
    ·rw [if_pos c4] at H
     have c4b0 : decide (0 ≤ x9_1) = true := decide_eq_true c4
     clear c4
     replace H := Option.bind_eq_some_iff.mp H
     obtain ⟨t265, A50, H⟩ := H
     replace H : (if t265 > (wrap64 ((l0.length : Int) - x8_1)) then (some (([] : List Int), ([] : List Int), false)) else (coamingref06_Take.l1 k1 l0 l1 x7_1 x8_1 x9_1 t265 0 0)) = some (r1, r2, r3) := H
     have A5 := az A50
     clear A50
     by_cases c6 : t265 > (wrap64 ((l0.length : Int) - x8_1))
     ·rw [if_pos c6] at H
      have c6b0 : decide ((wrap64 ((l0.length : Int) - x8_1)) < t265) = true := decide_eq_true c6
      clear c6
      simp only [Option.some.injEq, Prod.mk.injEq] at H
      obtain ⟨rfl, rfl, rfl⟩ := H
      have p264 : 0 ≤ (x9_1 : Int) := of_decide_eq_true (by first | (with_reducible assumption) | assumption)
      have q264 : x9_1 < (l1.length : Int) := of_decide_eq_true (by first | (with_reducible assumption) | assumption)
      obtain ⟨ad264, e264, hx264_0⟩ := Kd.at_int HR1.out x9_1 p264 q264
      cases e264
      replace hx264_0 := (HB.out.cell (World.block_lt_of_cell? w _ hx264_0)).trans hx264_0
      replace p264 := eq_true p264
      replace q264 := eq_true q264
      go_wp2_with (first | ((with_reducible refine gate_callee (f := 57) rfl ?_); refine goesL_ (some 24) rfl rfl Tryz.func57 (by kernel_rfl) rfl #[.int .i64 (rd l1 x9_1)] rfl Rg.l2 ?_; (with_reducible refine (coamingref06_Width.calls (rd l1 x9_1) t265 _ A5.out).mono ?_); rintro e w' ⟨rfl, ⟨nd, rfl⟩⟩; refine ⟨_, rfl, ?_⟩))
      go_ret3
      exact ⟨_, _, by first | rfl | (simp [errW_none, errW_some] <;> rfl) | (simp [*, errW_none, errW_some] <;> rfl), by first | exact Kd.R_nil _ _ _ _ _ | exact Kd.N_nil _ _ _ _ _ | exact Kd.V_nil _ _ _ _ _ | exact Kd.Q_nil _ _ _ _ _ | exact Kd.S_nil _ _ _ _ _, by first | exact Kd.R_nil _ _ _ _ _ | exact Kd.N_nil _ _ _ _ _ | exact Kd.V_nil _ _ _ _ _ | exact Kd.Q_nil _ _ _ _ _ | exact Kd.S_nil _ _ _ _ _, Rg.b2⟩
     ·rw [if_neg c6] at H
      have c6b0 : decide ((wrap64 ((l0.length : Int) - x8_1)) < t265) = false := decide_eq_false c6
      clear c6
      have H' := az H
      clear H
      have p264 : 0 ≤ (x9_1 : Int) := of_decide_eq_true (by first | (with_reducible assumption) | assumption)
      have q264 : x9_1 < (l1.length : Int) := of_decide_eq_true (by first | (with_reducible assumption) | assumption)
      obtain ⟨ad264, e264, hx264_0⟩ := Kd.at_int HR1.out x9_1 p264 q264
      cases e264
      replace hx264_0 := (HB.out.cell (World.block_lt_of_cell? w _ hx264_0)).trans hx264_0
      replace p264 := eq_true p264
      replace q264 := eq_true q264
      go_wp2_with (first | ((with_reducible refine gate_callee (f := 57) rfl ?_); refine goesL_ (some 24) rfl rfl Tryz.func57 (by kernel_rfl) rfl #[.int .i64 (rd l1 x9_1)] rfl Rg.l2 ?_; (with_reducible refine (coamingref06_Width.calls (rd l1 x9_1) t265 _ A5.out).mono ?_); rintro e w' ⟨rfl, ⟨nd, rfl⟩⟩; refine ⟨_, rfl, ?_⟩))
      go_loopg [11, 12] k1 (fun kq v11 v12 w' => ∃ (x11_2 : Int) (x12_2 : Int), v11 = .int .u64 x11_2 ∧ v12 = .int .i64 x12_2 ∧ Aside0 (coamingref06_Take.l1 kq l0 l1 x7_1 x8_1 x9_1 t265 x11_2 x12_2 = some (r1, r2, r3)) ∧ Aside0 (kq ≤ k1) ∧ Aside0 (Kd.R (Kd.int .u64) 45 w' w.heap.size (fun _ => True) u7 x7_1) ∧ Aside0 (Below w.heap.size w w'))
      case atStart => exact ⟨(0), (0), (by first | rfl | (simp; done) | (simp [*]; done)), (by first | rfl | (simp; done) | (simp [*]; done)), H', ⟨Nat.le_refl _⟩, ⟨by (with_reducible repeat (first | apply Kd.R_alloc | apply Kd.R_drewN | apply Kd.R_drew)); exact HO_7.out⟩, ⟨Rg.b2⟩⟩
      case round =>
       clear H'
       try clear c1
       try clear p2
       try clear q2
       try clear hx2
       try clear c3
       try clear c3b0
       try clear c4
       try clear c4b0
       try clear c5
       try clear c6
       try clear c6b0
       try clear p6
       try clear hx264_0
       try clear p2
       try clear p264
       try clear q264
       obtain ⟨x11_2, x12_2, rfl, rfl, HA, HK2, HO_7, HB⟩ := hrel
       cases gk with
       | zero => exact absurd HA.out (by simp [coamingref06_Take.l1])
       | succ k2 =>
        have H := HA.out
        clear HA
        simp only [coamingref06_Take.l1] at H
        by_cases c7 : x12_2 < t265
        ·rw [if_pos c7] at H
         have c7b0 : decide (x12_2 < t265) = true := decide_eq_true c7
         clear c7
         obtain ⟨ji8, hji8⟩ : ∃ j_ : Int, (wrap64 (x8_1 + x12_2)) = j_ := ⟨_, rfl⟩
         replace H : (if 0 ≤ (ji8) then (if (ji8) < (l0.length : Int) then (coamingref06_Take.l1 k2 l0 l1 x7_1 x8_1 x9_1 t265 (Go.bits .or .u64 (IntKind.u64.wrap (x11_2 * 256)) (IntKind.u64.wrap (rd l0 (ji8)))) (wrap64 (x12_2 + 1))) else (none)) else (none)) = some (r1, r2, r3) := by first | (rw [hji8] at H; exact H) | (simp only [hji8] at H ⊢; exact H)
         have hji8w : (IntKind.i64.wrap (x8_1 + x12_2)) = ji8 := (i64_w _).trans hji8
         by_cases c9 : 0 ≤ (ji8)
         ·rw [if_pos c9] at H
          have c9b0 : decide (0 ≤ (ji8)) = true := decide_eq_true c9
          clear c9
          by_cases c10 : (ji8) < (l0.length : Int)
          ·rw [if_pos c10] at H
           have c10b0 : decide ((ji8) < (l0.length : Int)) = true := decide_eq_true c10
           clear c10
           have H' := az H
           clear H
           have p266 : 0 ≤ ((ji8) : Int) := of_decide_eq_true (by first | (with_reducible assumption) | assumption)
           have q266 : (ji8) < (l0.length : Int) := of_decide_eq_true (by first | (with_reducible assumption) | assumption)
           obtain ⟨ad266, e266, hx266_0⟩ := Kd.at_int HR0.out (ji8) p266 q266
           cases e266
           replace hx266_0 := (HB.out.cell (World.block_lt_of_cell? w _ hx266_0)).trans hx266_0
           replace p266 := eq_true p266
           replace q266 := eq_true q266
           go_wp2
           go_roundg k2
           case measure => have := HK1.out; have := HK2.out; omega
           case rel => exact ⟨(Go.bits .or .u64 (IntKind.u64.wrap (x11_2 * 256)) (IntKind.u64.wrap (rd l0 (ji8)))), (wrap64 (x12_2 + 1)), (by first | rfl | (simp; done) | (simp only [← hji8] <;> (first | rfl | simp)) | (simp [*]; done)), (by first | rfl | (simp; done) | (simp [*]; done)), H', ⟨by have := HK1.out; have := HK2.out; omega⟩, ⟨by (with_reducible repeat (first | apply Kd.R_alloc | apply Kd.R_drewN | apply Kd.R_drew)); exact HO_7.out⟩, ⟨Rg.b2⟩⟩
          ·rw [if_neg c10] at H
           exact absurd H (by simp)
         ·rw [if_neg c9] at H
          exact absurd H (by simp)
        ·rw [if_neg c7] at H
         have c7b0 : decide (x12_2 < t265) = false := decide_eq_false c7
         clear c7
         by_cases c11 : x7_1.length < 17592186044416
         ·rw [if_pos c11] at H
          have LMc11 := az c11
          clear c11
          obtain ⟨y267, hy267⟩ : ∃ y_ : List Int, y_ = (x7_1 ++ [x11_2]) := ⟨_, rfl⟩
          replace H : (coamingref06_Take.l0 k2 l0 l1 y267 (wrap64 (x8_1 + t265)) (wrap64 (x9_1 + 1))) = some (r1, r2, r3) := by first | (rw [hy267]; with_reducible exact H) | (have H2_ := (Option.bind_some _ _).symm.trans H; rw [hy267]; with_reducible exact H2_) | (have H2_ := (Option.bind_some _ _).symm.trans H; with_reducible exact H2_) | with_reducible exact H | (rw [hy267]; exact H) | exact H
          have Ny267 := az hy267
          clear hy267
          have H' := az H
          clear H
          go_wp2_with (first | ((with_reducible refine gate_builtin (b := .append) (xs := #[.tmp 46, .tmp 48]) rfl ?_); at_builtin; refine Kd.R_append (Kd.int .u64) (w0 := w) w.heap.size rfl (.tmp 46) (.tmp 48) 89 45 (.int .u64 0) 8 rfl Tryz.underlying89 info45 rfl (by decide) (by omega) u7 x7_1 x11_2 [.int .u64 x11_2] (fun _ => True) (fun _ => False) rfl rfl ?aP (fun _ hk => hk.elim) ?aF ?aO ?aB ?aS ?aL ?_; (case aP => exact rfl); (case aB => exact (Rg.b2)); (case aF => exact (fun _ _ => trivial)); (case aO => exact (by (with_reducible repeat (first | apply Kd.R_alloc | apply Kd.R_drewN | apply Kd.R_drew)); exact HO_7.out)); (case aS => exact (below_size (Rg.b2))); (case aL => have := LMc11.out; omega); intro v268 w12 ho hb hg hat; rw [← Ny267.out] at ho; have n0_ := az (hb); have n1_ := az (ho); clear HB; clear HO_7; have HB := n0_; have HO269 := n1_; clear n0_ n1_; clear ho hb hg hat))
          go_roundg k2
          case measure => have := HK1.out; have := HK2.out; omega
          case rel => exact ⟨(y267), (wrap64 (x8_1 + t265)), (wrap64 (x9_1 + 1)), (by first | rfl | (simp; done) | (simp [*]; done)), (by first | rfl | (simp; done) | (simp [*]; done)), H', ⟨by have := HK1.out; have := HK2.out; omega⟩, ⟨by (with_reducible repeat (first | apply Kd.R_alloc | apply Kd.R_drewN | apply Kd.R_drew)); exact HO269.out⟩, ⟨Rg.b2⟩⟩
         ·rw [if_neg c11] at H
          exact absurd H (by simp)
    ·rw [if_neg c4] at H
     exact absurd H (by simp)
   ·rw [if_neg c3] at H
    have c3b0 : decide (x9_1 < (l1.length : Int)) = false := decide_eq_false c3
    clear c3
    by_cases c13 : 0 ≤ x8_1
    ·rw [if_pos c13] at H
     have c13b0 := eq_true c13
     have c13b1 : decide (0 ≤ x8_1) = true := decide_eq_true c13
     clear c13
     by_cases c14 : x8_1 ≤ (l0.length : Int)
     ·rw [if_pos c14] at H
      have c14b0 := eq_true c14
      have c14b1 : decide (x8_1 ≤ (l0.length : Int)) = true := decide_eq_true c14
      clear c14
      by_cases c15 : ([] : List Int).length + (l0.drop (x8_1 : Int).toNat).length < 140737488355328
      ·rw [if_pos c15] at H
       have LMc15 := az c15
       clear c15
       obtain ⟨y261, hy261⟩ : ∃ y_ : List Int, y_ = (([] : List Int) ++ (l0.drop (x8_1 : Int).toNat)) := ⟨_, rfl⟩
       replace H : (some (x7_1, y261, true)) = some (r1, r2, r3) := by first | (rw [hy261]; with_reducible exact H) | (have H2_ := (Option.bind_some _ _).symm.trans H; rw [hy261]; with_reducible exact H2_) | (have H2_ := (Option.bind_some _ _).symm.trans H; with_reducible exact H2_) | with_reducible exact H | (rw [hy261]; exact H) | exact H
       have Ny261 := az hy261
       clear hy261
       simp only [Option.some.injEq, Prod.mk.injEq] at H
       obtain ⟨rfl, rfl, rfl⟩ := H
       obtain ⟨i016, hi016, _, hsz16, _⟩ := info_parts info5
       obtain ⟨A16, hcut16, hA16, hC16⟩ := print_drop_of (P := Tryz.prog) (Value.int .u8) 0 35 5 .i64 Tryz.underlying35 hi016 hsz16 A0 c0 l0 x8_1 (of_decide_eq_true (by first | (with_reducible assumption) | assumption)) (of_decide_eq_true (by first | (with_reducible assumption) | assumption)) HC0.out
       have HR260 := az (Kd.C_of_reads (h1 := fun _ => rfl) (hA16 _ (Kd.reads_of_C HR0.out)))
       have HC260 := az hC16
       clear hA16 hC16 hi016 hsz16
       go_wp2_with (first | ((with_reducible refine gate_builtin (b := .append) (xs := #[.tmp 53, .tmp 56]) rfl ?_); at_builtin; refine Kd.R_append_rows (Kd.int .u8) (w0 := w) w.heap.size rfl (.tmp 53) (.tmp 56) 35 5 (.int .u8 0) 1 rfl Tryz.underlying35 info5 rfl (by decide) (by omega) (.slice none 0 0) ([] : List Int) (l0.drop (x8_1 : Int).toNat) _ _ _ (fun _ => True) (fun _ => False) rfl rfl ?aO ?aR (fun _ _ h => h) (fun _ h => h.elim) ?aF ?aB ?aS ?aL ?_; (case aR => first | (rw [← show (l0.drop (x8_1 : Int).toNat).length = (l0.length - x8_1.toNat) from List.length_drop]; repeat (first | exact (Kd.C_below HR260.out HB.out) | (with_reducible refine Kd.C_alloc ?_ _) | (with_reducible refine Kd.C_drewN ?_ _) | (with_reducible refine Kd.C_drew ?_))) | (repeat (first | exact (Kd.C_below HR260.out HB.out) | (with_reducible refine Kd.C_alloc ?_ _) | (with_reducible refine Kd.C_drewN ?_ _) | (with_reducible refine Kd.C_drew ?_)))); (case aB => exact (Rg.b2)); (case aF => exact (fun _ _ => trivial)); (case aO => exact ((Kd.R_nil _ _ _ _ (fun _ => True)))); (case aS => exact (below_size (Rg.b2))); (case aL => have := LMc15.out; have hlx_ := (show (l0.drop (x8_1 : Int).toNat).length = (l0.length - x8_1.toNat) from List.length_drop); omega); intro v262 w17 ho hb hg hat; rw [← Ny261.out] at ho; have n0_ := az (Kd.R_grown (by (with_reducible repeat (first | apply Kd.R_alloc | apply Kd.R_drewN | apply Kd.R_drew)); exact HO_7.out) hg (fun _ _ => by simp [Value.ownBlock])); have n1_ := az (hb); have n2_ := az (ho); clear HO_7; clear HB; have HO_7 := n0_; have HB := n1_; have HO263 := n2_; clear n0_ n1_ n2_; clear ho hb hg hat))
       go_ret3
       exact ⟨_, _, by first | rfl | (simp [errW_none, errW_some] <;> rfl) | (simp [*, errW_none, errW_some] <;> rfl), by (with_reducible repeat (first | apply Kd.R_alloc | apply Kd.R_drewN | apply Kd.R_drew)); exact HO_7.out, by (with_reducible repeat (first | apply Kd.R_alloc | apply Kd.R_drewN | apply Kd.R_drew)); exact HO263.out, Rg.b2⟩
      ·rw [if_neg c15] at H
       exact absurd H (by simp)
     ·rw [if_neg c14] at H
      exact absurd H (by simp)
    ·rw [if_neg c13] at H
     exact absurd H (by simp)
end Go.Proofs.YtgljicdpcapgnaaGreatDoor.PBase
namespace Go.Proofs.YtgljicdpcapgnaaGreatDoor.PBase
open Go.RowKit Go.Proofs.YtgljicdpcapgnaaGreatDoorW.PrintWords Go.Proofs.YtgljicdpcapgnaaGreatDoorW.PrintLast Go.Proofs.YtgljicdpcapgnaaGreatDoorW.PrintMore
attribute [local go_sem] max2_int min2_int max_two min_two max_three min_three max_four min_four   -- for this text's walks alone
mutual
def coamingref06_Pack.l0 : Nat → List Int → List Int → List Int → Int → Option (List Int)
 | 0, _, _, _, _ => none
 | k + 1, x0, x1, x5, x6 => if x6 < (x0.length : Int) then (coamingref06_Pack.j1 k x0 x1 x5 x6 (decide (x6 < (x1.length : Int)))) else (coamingref06_Pack.j1 k x0 x1 x5 x6 false)
def coamingref06_Pack.j1 : Nat → List Int → List Int → List Int → Int → Bool → Option (List Int)
 | 0, _, _, _, _, _ => none
 | k + 1, x0, x1, x5, x6, x17 => if x17 = true then (if 0 ≤ x6 then (if x6 < (x0.length : Int) then ((coamingref06_Width.f (rd x0 x6)).bind fun t271 => (coamingref06_Pack.l1 k x0 x1 x5 x6 (wrap64 (t271 - 1)))) else (none)) else (none)) else (some x5)
def coamingref06_Pack.l1 : Nat → List Int → List Int → List Int → Int → Int → Option (List Int)
 | 0, _, _, _, _, _ => none
 | k + 1, x0, x1, x5, x6, x7 => if x7 ≥ 0 then (if 0 ≤ x6 then (if x6 < (x1.length : Int) then (if 0 ≤ (IntKind.u64.wrap (wrap64 (8 * x7))) then (if x5.length < 140737488355328 then (coamingref06_Pack.l1 k x0 x1 (x5 ++ [(shr .u64 (rd x1 x6) (IntKind.u64.wrap (wrap64 (8 * x7)))) % 256]) x6 (wrap64 (x7 - 1))) else (none)) else (none)) else (none)) else (none)) else (coamingref06_Pack.l0 k x0 x1 x5 (wrap64 (x6 + 1)))
end
def coamingref06_Pack.f (k : Nat) (l0 : List Int) (l1 : List Int) : Option (List Int) := coamingref06_Pack.l0 k l0 l1 ([] : List Int) 0
theorem coamingref06_Pack.calls (k : Nat) (A0 : Option Addr) (c0 : Nat) (l0 : List Int) (A1 : Option Addr) (c1 : Nat) (l1 : List Int) (r : List Int) (w : World) (hr0 : Kd.C (Kd.int .i64) w A0 l0.length l0) (hc0 : l0.length ≤ c0) (hr1 : Kd.C (Kd.int .u64) w A1 l1.length l1) (hc1 : l1.length ≤ c1) (h : coamingref06_Pack.f k l0 l1 = some r) :
  Calls Tryz.prog 44 #[.slice A0 l0.length c0, .slice A1 l1.length c1] w fun e w' => ∃ v0_ : Value, e = .returned (v0_) ∧ Kd.R (Kd.int .u8) 5 w' w.heap.size (fun _ => True) v0_ r ∧ Below w.heap.size w w' := by
 have HR0 := az hr0
 have HC0 := az hc0
 clear hr0 hc0
 have HR1 := az hr1
 have HC1 := az hc1
 clear hr1 hc1
 have HB := az (Below.refl w.heap.size w)
 have H : (coamingref06_Pack.l0 k l0 l1 ([] : List Int) 0) = some r := h
 clear h
 have H' := az H
 clear H
 go_enter Tryz.func44, Tryz.ntmps44
 go_wp2
 go_loopg [5, 6] k (fun kq v5 v6 w' => ∃ (x5_1 : List Int) (x6_1 : Int), v6 = .int .i64 x6_1 ∧ Aside0 (coamingref06_Pack.l0 kq l0 l1 x5_1 x6_1 = some r) ∧ Aside0 (kq ≤ k) ∧ Aside0 (Kd.R (Kd.int .u8) 5 w' w.heap.size (fun _ => True) v5 x5_1) ∧ Aside0 (Below w.heap.size w w'))
 case atStart => exact ⟨(([] : List Int)), (0), (by first | rfl | (simp; done) | (simp [*]; done)), H', ⟨Nat.le_refl _⟩, ⟨by first | exact Kd.R_nil _ _ _ _ _ | exact Kd.N_nil _ _ _ _ _ | exact Kd.V_nil _ _ _ _ _ | exact Kd.Q_nil _ _ _ _ _ | exact Kd.S_nil _ _ _ _ _⟩, ⟨Rg.b2⟩⟩
 case round =>
  clear H'
  try clear c1
  try clear p2
  obtain ⟨x5_1, x6_1, rfl, HA, HK1, HO_5, HB⟩ := hrel
  cases gk with
  | zero => exact absurd HA.out (by simp [coamingref06_Pack.l0])
  | succ k1 =>
   have H := HA.out
   clear HA
   simp only [coamingref06_Pack.l0] at H
   have HC3 := az H
   clear H
   go_upto_region 3 with (fail)
   go_cut [17] (fun v17 wc => ∃ (kq : Nat) (x17_2 : Bool), v17 = .bool x17_2 ∧ Aside0 (coamingref06_Pack.j1 kq l0 l1 x5_1 x6_1 x17_2 = some r) ∧ Aside0 (kq ≤ k1) ∧ Aside0 (Kd.R (Kd.int .u8) 5 wc w.heap.size (fun _ => True) u5 x5_1) ∧ Aside0 (Below w.heap.size w wc))
   case first =>
    have H := HC3.out
    clear HC3
    by_cases c4 : x6_1 < (l0.length : Int)
    ·rw [if_pos c4] at H
     have c4b0 : decide (x6_1 < (l0.length : Int)) = true := decide_eq_true c4
     clear c4
     (first | rw [c4b0] | (simp only [i64_w, i32_w]; rw [c4b0]) | skip)
     have H' := az H
     clear H
     go_wp2
     go_meet
     case rel => exact ⟨_, (decide (x6_1 < (l1.length : Int))), (by first | rfl | (simp; done) | (simp [*]; done)), H', ⟨by have := HK1.out; first | omega | exact Nat.le_refl _⟩, ⟨by (with_reducible repeat (first | apply Kd.R_alloc | apply Kd.R_drewN | apply Kd.R_drew)); exact HO_5.out⟩, ⟨Rg.b2⟩⟩
    ·rw [if_neg c4] at H
     have c4b0 : decide (x6_1 < (l0.length : Int)) = false := decide_eq_false c4
     clear c4
     (first | rw [c4b0] | (simp only [i64_w, i32_w]; rw [c4b0]) | skip)
     have H' := az H
     clear H
     go_wp2
     go_meet
     case rel => exact ⟨_, (false), (by first | rfl | (simp; done) | (simp [*]; done)), H', ⟨by have := HK1.out; first | omega | exact Nat.le_refl _⟩, ⟨by (with_reducible repeat (first | apply Kd.R_alloc | apply Kd.R_drewN | apply Kd.R_drew)); exact HO_5.out⟩, ⟨Rg.b2⟩⟩
   case rest =>
    clear HC3
    try clear c1
    try clear p2
    try clear c4
    try clear c4b0
    try clear p2
    obtain ⟨kq, x17_2, rfl, HA, HJ2, HO_5, HB⟩ := hcut
    cases kq with
    | zero => exact absurd HA.out (by simp [coamingref06_Pack.j1])
    | succ kj2 =>
     have H := HA.out
     clear HA
     simp only [coamingref06_Pack.j1] at H
     by_cases c5 : x17_2 = true
     ·subst c5
      have H1 : (if 0 ≤ x6_1 then (if x6_1 < (l0.length : Int) then ((coamingref06_Width.f (rd l0 x6_1)).bind fun t271 => (coamingref06_Pack.l1 kj2 l0 l1 x5_1 x6_1 (wrap64 (t271 - 1)))) else (none)) else (none)) = some r := by rw [if_pos rfl] at H; exact H
      clear H
      have H := H1
      clear H1
      by_cases c6 : 0 ≤ x6_1
      ·rw [if_pos c6] at H
       have c6b0 : decide (0 ≤ x6_1) = true := decide_eq_true c6
       clear c6
       by_cases c7 : x6_1 < (l0.length : Int)
       ·rw [if_pos c7] at H
        have c7b0 : decide (x6_1 < (l0.length : Int)) = true := decide_eq_true c7
        clear c7
        replace H := Option.bind_eq_some_iff.mp H
        obtain ⟨t271, A80, H⟩ := H
        replace H : (coamingref06_Pack.l1 kj2 l0 l1 x5_1 x6_1 (wrap64 (t271 - 1))) = some r := H
        have A8 := az A80
        clear A80
        have H' := az H
        clear H
        have p270 : 0 ≤ (x6_1 : Int) := of_decide_eq_true (by first | (with_reducible assumption) | assumption)
        have q270 : x6_1 < (l0.length : Int) := of_decide_eq_true (by first | (with_reducible assumption) | assumption)
        obtain ⟨ad270, e270, hx270_0⟩ := Kd.at_int HR0.out x6_1 p270 q270
        cases e270
        replace hx270_0 := (HB.out.cell (World.block_lt_of_cell? w _ hx270_0)).trans hx270_0
        replace p270 := eq_true p270
        replace q270 := eq_true q270
        go_wp2_with (first | ((with_reducible refine gate_callee (f := 57) rfl ?_); refine goesL_ (some 24) rfl rfl Tryz.func57 (by kernel_rfl) rfl #[.int .i64 (rd l0 x6_1)] rfl Rg.l2 ?_; (with_reducible refine (coamingref06_Width.calls (rd l0 x6_1) t271 _ A8.out).mono ?_); rintro e w' ⟨rfl, ⟨nd, rfl⟩⟩; refine ⟨_, rfl, ?_⟩))
        go_loopg [5, 7] kj2 (fun kq v5 v7 w' => ∃ (x5_3 : List Int) (x7_3 : Int), v7 = .int .i64 x7_3 ∧ Aside0 (coamingref06_Pack.l1 kq l0 l1 x5_3 x6_1 x7_3 = some r) ∧ Aside0 (kq ≤ kj2) ∧ Aside0 (Kd.R (Kd.int .u8) 5 w' w.heap.size (fun _ => True) v5 x5_3) ∧ Aside0 (Below w.heap.size w w'))
        case atStart => exact ⟨(x5_1), (wrap64 (t271 - 1)), (by first | rfl | (simp; done) | (simp [*]; done)), H', ⟨Nat.le_refl _⟩, ⟨by (with_reducible repeat (first | apply Kd.R_alloc | apply Kd.R_drewN | apply Kd.R_drew)); exact HO_5.out⟩, ⟨Rg.b2⟩⟩
        case round =>
         clear H'
         try clear c1
         try clear p2
         try clear q2
         try clear hx2
         try clear c4
         try clear c4b0
         try clear c5
         try clear c6
         try clear c6b0
         try clear p6
         try clear c7
         try clear c7b0
         try clear hx270_0
         try clear p2
         try clear p270
         try clear q270
         obtain ⟨x5_3, x7_3, rfl, HA, HK3, HO_5, HB⟩ := hrel
         cases gk with
         | zero => exact absurd HA.out (by simp [coamingref06_Pack.l1])
         | succ k3 =>
          have H := HA.out
          clear HA
          simp only [coamingref06_Pack.l1] at H
          by_cases c9 : x7_3 ≥ 0
          ·rw [if_pos c9] at H
           have c9b0 : decide (0 ≤ x7_3) = true := decide_eq_true c9
           clear c9
           by_cases c10 : 0 ≤ x6_1
           ·rw [if_pos c10] at H
            have c10b0 : decide (0 ≤ x6_1) = true := decide_eq_true c10
            clear c10
            by_cases c11 : x6_1 < (l1.length : Int)
            ·rw [if_pos c11] at H
             have c11b0 : decide (x6_1 < (l1.length : Int)) = true := decide_eq_true c11
             clear c11
             obtain ⟨ji12, hji12⟩ : ∃ j_ : Int, (IntKind.u64.wrap (wrap64 (8 * x7_3))) = j_ := ⟨_, rfl⟩
             replace H : (if 0 ≤ (ji12) then (if x5_3.length < 140737488355328 then (coamingref06_Pack.l1 k3 l0 l1 (x5_3 ++ [(shr .u64 (rd l1 x6_1) (ji12)) % 256]) x6_1 (wrap64 (x7_3 - 1))) else (none)) else (none)) = some r := by first | (rw [hji12] at H; exact H) | (simp only [hji12] at H ⊢; exact H)
             by_cases c13 : 0 ≤ (ji12)
             ·rw [if_pos c13] at H
              have c13b0 := eq_true c13
              have c13b1 : decide (0 ≤ (ji12)) = true := decide_eq_true c13
              clear c13
              obtain ⟨ji14, hji14⟩ : ∃ j_ : Int, (shr .u64 (rd l1 x6_1) (ji12)) = j_ := ⟨_, rfl⟩
              replace H : (if x5_3.length < 140737488355328 then (coamingref06_Pack.l1 k3 l0 l1 (x5_3 ++ [(ji14) % 256]) x6_1 (wrap64 (x7_3 - 1))) else (none)) = some r := by first | (rw [hji14] at H; exact H) | (simp only [hji14] at H ⊢; exact H)
              have hji14_ : ((rd l1 x6_1) / 2 ^ min (ji12).toNat 64) = ji14 := hji14
              have hji14z : (ji12) ≤ 64 → ((rd l1 x6_1) / 2 ^ (ji12).toNat) = ji14 := shr_small hji14
              by_cases c15 : x5_3.length < 140737488355328
              ·rw [if_pos c15] at H
               have LMc15 := az c15
               clear c15
               obtain ⟨y273, hy273⟩ : ∃ y_ : List Int, y_ = (x5_3 ++ [(ji14) % 256]) := ⟨_, rfl⟩
               replace H : (coamingref06_Pack.l1 k3 l0 l1 y273 x6_1 (wrap64 (x7_3 - 1))) = some r := by first | (rw [hy273]; with_reducible exact H) | (have H2_ := (Option.bind_some _ _).symm.trans H; rw [hy273]; with_reducible exact H2_) | (have H2_ := (Option.bind_some _ _).symm.trans H; with_reducible exact H2_) | with_reducible exact H | (rw [hy273]; exact H) | exact H
               have Ny273 := az hy273
               clear hy273
               have H' := az H
               clear H
               have p272 : 0 ≤ (x6_1 : Int) := of_decide_eq_true (by first | (with_reducible assumption) | assumption)
               have q272 : x6_1 < (l1.length : Int) := of_decide_eq_true (by first | (with_reducible assumption) | assumption)
               obtain ⟨ad272, e272, hx272_0⟩ := Kd.at_int HR1.out x6_1 p272 q272
               cases e272
               replace hx272_0 := (HB.out.cell (World.block_lt_of_cell? w _ hx272_0)).trans hx272_0
               replace p272 := eq_true p272
               replace q272 := eq_true q272
               go_wp2_with (first | ((with_reducible refine gate_builtin (b := .append) (xs := #[.tmp 30, .tmp 40]) rfl ?_); (try (refine gate_guard (by rfl) ?_; dsimp only)); at_builtin; refine Kd.R_append (Kd.int .u8) (w0 := w) w.heap.size rfl (.tmp 30) (.tmp 40) 35 5 (.int .u8 0) 1 rfl Tryz.underlying35 info5 rfl (by decide) (by omega) u5 x5_3 ((ji14) % 256) [.int .u8 ((ji14) % 256)] (fun _ => True) (fun _ => False) rfl rfl ?aP (fun _ hk => hk.elim) ?aF ?aO ?aB ?aS ?aL ?_; (case aP => exact rfl); (case aB => exact (Rg.b2)); (case aF => exact (fun _ _ => trivial)); (case aO => exact (by (with_reducible repeat (first | apply Kd.R_alloc | apply Kd.R_drewN | apply Kd.R_drew)); exact HO_5.out)); (case aS => exact (below_size (Rg.b2))); (case aL => have := LMc15.out; omega); intro v274 w16 ho hb hg hat; rw [← Ny273.out] at ho; have n0_ := az (hb); have n1_ := az (ho); clear HB; clear HO_5; have HB := n0_; have HO275 := n1_; clear n0_ n1_; clear ho hb hg hat))
               go_roundg k3
               case measure => have := HK1.out; have := HJ2.out; have := HK3.out; omega
               case rel => exact ⟨(y273), (wrap64 (x7_3 - 1)), (by first | rfl | (simp; done) | (simp [*]; done)), H', ⟨by have := HK1.out; have := HJ2.out; have := HK3.out; omega⟩, ⟨by (with_reducible repeat (first | apply Kd.R_alloc | apply Kd.R_drewN | apply Kd.R_drew)); exact HO275.out⟩, ⟨Rg.b2⟩⟩
              ·rw [if_neg c15] at H
               exact absurd H (by simp)
             ·rw [if_neg c13] at H
              exact absurd H (by simp)
            ·rw [if_neg c11] at H
             exact absurd H (by simp)
           ·rw [if_neg c10] at H
            exact absurd H (by simp)
          ·rw [if_neg c9] at H
           have c9b0 : decide (0 ≤ x7_3) = false := decide_eq_false c9
           clear c9
           have H' := az H
           clear H
           go_wp2
           go_roundg k3
           case measure => have := HK1.out; have := HJ2.out; have := HK3.out; omega
           case rel => exact ⟨(x5_3), (wrap64 (x6_1 + 1)), (by first | rfl | (simp; done) | (simp [*]; done)), H', ⟨by have := HK1.out; have := HJ2.out; have := HK3.out; omega⟩, ⟨by (with_reducible repeat (first | apply Kd.R_alloc | apply Kd.R_drewN | apply Kd.R_drew)); exact HO_5.out⟩, ⟨Rg.b2⟩⟩
       ·rw [if_neg c7] at H
        exact absurd H (by simp)
      ·rw [if_neg c6] at H
       exact absurd H (by simp)
     ·replace c5 := Bool.eq_false_iff.mpr c5
      subst c5
      have H1 : (some x5_1) = some r := by rw [if_neg (show ¬ (false = true) by decide)] at H; exact H
      clear H
      have H := H1
      clear H1
      obtain rfl := Option.some.inj H
      go_wp2
      go_ret
      exact ⟨_, by first | rfl | (simp [errW_none, errW_some] <;> rfl) | (simp [*, errW_none, errW_some] <;> rfl), by (with_reducible repeat (first | apply Kd.R_alloc | apply Kd.R_drewN | apply Kd.R_drew)); exact HO_5.out, Rg.b2⟩
def req_form.f  : Option (List Int) := some (([4, 2, 2, 8, 8, 4] : List Int))
theorem req_form.calls  (r : List Int) (w : World) (h : req_form.f  = some r) :
  Calls Tryz.prog 94 #[] w fun e w' => ∃ v0_ : Value, e = .returned (v0_) ∧ Kd.R (Kd.int .i64) 3 w' w.heap.size (fun _ => True) v0_ r ∧ Below w.heap.size w w' := by
 have HB := az (Below.refl w.heap.size w)
 have H : (some (([4, 2, 2, 8, 8, 4] : List Int))) = some r := h
 clear h
 obtain ⟨y276, hy276⟩ : ∃ y_ : List Int, y_ = (([4, 2, 2, 8, 8, 4] : List Int)) := ⟨_, rfl⟩
 replace H : (some y276) = some r := by first | (rw [hy276]; with_reducible exact H) | (have H2_ := (Option.bind_some _ _).symm.trans H; rw [hy276]; with_reducible exact H2_) | (have H2_ := (Option.bind_some _ _).symm.trans H; with_reducible exact H2_) | with_reducible exact H | (rw [hy276]; exact H) | exact H
 have Ny276 := az hy276
 clear hy276
 obtain rfl := Option.some.inj H
 go_enter Tryz.func94, Tryz.ntmps94
 go_wp2_with (first | ((with_reducible refine gate_dst (N := 1) rfl ?_); refine Kd.R_lit (Kd.int .i64) _ 3 ?hg (N := 1) ?hd (xs := ([4, 2, 2, 8, 8, 4] : List Int)) (inner := [.int .i64 4, .int .i64 2, .int .i64 2, .int .i64 8, .int .i64 8, .int .i64 4]) (ok := fun _ => True) (okp := fun _ => True) ?hr ?hp (fun _ hk => hk) trivial (Below.refl _ _) (Nat.le_refl _) (by simp) ?_; (case hd => rfl); (case hg => rfl); (case hr => first | (go_simp; done) | (go_simp; rfl) | (go_simp; simp only [IntKind.wrap_u32, Int.emod_add_emod, Int.add_emod_emod])); (case hp => exact (Reps.one (show Kd.M (Kd.int .i64) _ _ _ 4 [.int .i64 4] from rfl) (Reps.one (show Kd.M (Kd.int .i64) _ _ _ 2 [.int .i64 2] from rfl) (Reps.one (show Kd.M (Kd.int .i64) _ _ _ 2 [.int .i64 2] from rfl) (Reps.one (show Kd.M (Kd.int .i64) _ _ _ 8 [.int .i64 8] from rfl) (Reps.one (show Kd.M (Kd.int .i64) _ _ _ 8 [.int .i64 8] from rfl) (Reps.one (show Kd.M (Kd.int .i64) _ _ _ 4 [.int .i64 4] from rfl) (Reps.none _ _)))))))); intro v277 w1 ho2 hb hg_ hnew_; clear hg_ hnew_; (first | rw [← Ny276.out] at ho2 | (simp only [Int.reduceToNat] at ho2; rw [← Ny276.out] at ho2)); have n0_ := az (Kd.R_lower ho2 (below_size (Rg.b2))); have n1_ := az (below_step (Rg.b2) hb); clear HB; have HO278 := n0_; have HB := n1_; clear n0_ n1_; clear hb ho2))
 go_ret
 exact ⟨_, by first | rfl | (simp [errW_none, errW_some] <;> rfl) | (simp [*, errW_none, errW_some] <;> rfl), by (with_reducible repeat (first | apply Kd.R_alloc | apply Kd.R_drewN | apply Kd.R_drew)); exact HO278.out, Rg.b2⟩
def coamingref00_SameBytes.f (l0 : List Int) (l1 : List Int) : Option (Bool) := some ((strOfNums l0).toList == (strOfNums l1).toList)
theorem coamingref00_SameBytes.calls (A0 : Option Addr) (c0 : Nat) (l0 : List Int) (A1 : Option Addr) (c1 : Nat) (l1 : List Int) (r : Bool) (w : World) (hr0 : Kd.C (Kd.int .u8) w A0 l0.length l0) (hc0 : l0.length ≤ c0) (hr1 : Kd.C (Kd.int .u8) w A1 l1.length l1) (hc1 : l1.length ≤ c1) (h : coamingref00_SameBytes.f l0 l1 = some r) :
  Calls Tryz.prog 21 #[.slice A0 l0.length c0, .slice A1 l1.length c1] w fun e w' => e = .returned (.bool r) ∧ Drawn0 w w' := by
 have HR0 := az hr0
 have HC0 := az hc0
 clear hr0 hc0
 have HR1 := az hr1
 have HC1 := az hc1
 clear hr1 hc1
 have H : (some ((strOfNums l0).toList == (strOfNums l1).toList)) = some r := h
 clear h
 obtain rfl := Option.some.inj H
 have hcv3 := Kd.C_string (P := Tryz.prog) (A := A0) (c := c0) Tryz.underlying35 Tryz.underlying5 Tryz.underlying9 HR0.out
 have hcv4 := Kd.C_string (P := Tryz.prog) (A := A1) (c := c1) Tryz.underlying35 Tryz.underlying5 Tryz.underlying9 HR1.out
 go_enter Tryz.func21, Tryz.ntmps21
 go_wp2
 go_ret
 exact ⟨by first | rfl | (simp; done) | (simp [*]; done), by repeat (first | exact Drawn0.refl _ | apply Drawn0.step)⟩
end Go.Proofs.YtgljicdpcapgnaaGreatDoor.PBase
namespace Go.Proofs.YtgljicdpcapgnaaGreatDoor.PBase
open Go.RowKit Go.Proofs.YtgljicdpcapgnaaGreatDoorW.PrintWords Go.Proofs.YtgljicdpcapgnaaGreatDoorW.PrintLast Go.Proofs.YtgljicdpcapgnaaGreatDoorW.PrintMore
attribute [local go_sem] max2_int min2_int max_two min_two max_three min_three max_four min_four   -- for this text's walks alone
def conn_refused.f (a0 : Int) : Option (Int) := if a0 = 74 then (some 2147483651) else (if a0 = 50 then (some 2147483654) else (if a0 = 51 then (some 2147483654) else (some 2147483650)))
theorem conn_refused.calls (a0 : Int) (r : Int) (w : World) (h : conn_refused.f a0 = some r) :
  Calls Tryz.prog 90 #[.int .u16 a0] w fun e w' => e = .returned (.int .u32 r) ∧ Drawn0 w w' := by
 have H : (if a0 = 74 then (some 2147483651) else (if a0 = 50 then (some 2147483654) else (if a0 = 51 then (some 2147483654) else (some 2147483650)))) = some r := h
 clear h
 by_cases c2 : a0 = 74
 ·rw [if_pos c2] at H
  have c2b0 : (a0 == 74) = true := beq_iff_eq.mpr c2
  have c2b1 : (a0 != 74) = false := bne_eq_false_iff_eq.mpr c2
  clear c2
  obtain rfl := Option.some.inj H
  go_enter Tryz.func90, Tryz.ntmps90
  go_wp2
  go_ret
  exact ⟨by first | rfl | (simp; done) | (simp [*]; done), by repeat (first | exact Drawn0.refl _ | apply Drawn0.step)⟩
 ·rw [if_neg c2] at H
  have c2b0 : (a0 == 74) = false := beq_eq_false_iff_ne.mpr c2
  have c2b1 : (a0 != 74) = true := bne_iff_ne.mpr c2
  by_cases c3 : a0 = 50
  ·rw [if_pos c3] at H
   have c3b0 : (a0 == 50) = true := beq_iff_eq.mpr c3
   have c3b1 : (a0 != 50) = false := bne_eq_false_iff_eq.mpr c3
   clear c3
   obtain rfl := Option.some.inj H
   go_enter Tryz.func90, Tryz.ntmps90
   go_wp2
   go_ret
   exact ⟨by first | rfl | (simp; done) | (simp [*]; done), by repeat (first | exact Drawn0.refl _ | apply Drawn0.step)⟩
  ·rw [if_neg c3] at H
   have c3b0 : (a0 == 50) = false := beq_eq_false_iff_ne.mpr c3
   have c3b1 : (a0 != 50) = true := bne_iff_ne.mpr c3
   by_cases c4 : a0 = 51
   ·rw [if_pos c4] at H
    have c4b0 : (a0 == 51) = true := beq_iff_eq.mpr c4
    have c4b1 : (a0 != 51) = false := bne_eq_false_iff_eq.mpr c4
    clear c4
    obtain rfl := Option.some.inj H
    go_enter Tryz.func90, Tryz.ntmps90
    go_wp2
    go_ret
    exact ⟨by first | rfl | (simp; done) | (simp [*]; done), by repeat (first | exact Drawn0.refl _ | apply Drawn0.step)⟩
   ·rw [if_neg c4] at H
    have c4b0 : (a0 == 51) = false := beq_eq_false_iff_ne.mpr c4
    have c4b1 : (a0 != 51) = true := bne_iff_ne.mpr c4
    obtain rfl := Option.some.inj H
    go_enter Tryz.func90, Tryz.ntmps90
    go_wp2
    go_ret
    exact ⟨by first | rfl | (simp; done) | (simp [*]; done), by repeat (first | exact Drawn0.refl _ | apply Drawn0.step)⟩
end Go.Proofs.YtgljicdpcapgnaaGreatDoor.PBase
namespace Go.Proofs.YtgljicdpcapgnaaGreatDoor.Sp
open Go.RowKit Go.Proofs.YtgljicdpcapgnaaGreatDoor.PBase Go.Proofs.YtgljicdpcapgnaaGreatDoorW.PrintWords Go.Proofs.YtgljicdpcapgnaaGreatDoorW.PrintLast Go.Proofs.YtgljicdpcapgnaaGreatDoorW.PrintMore
theorem w64 (n : Int) (h0 : -9223372036854775808 ≤ n) (h1 : n ≤ 9223372036854775807) : wrap64 n = n := by unfold wrap64; omega
theorem and1 (x : Int) (h0 : 0 ≤ x) (h1 : x < 256) : Go.bits .and .u8 x 1 = x % 2 := bits_mask .u8 8 (by decide) wraps_u8 1 (by decide) x h0 (by omega)
theorem bit_at (l : List Int) : ∀ p, p < 8 * l.length → (bitsOf l).getD p 0 = l.getD (p / 8) 0 / 2 ^ (7 - p % 8) % 2 := by
  induction l with
  | nil => intro p h; simp at h
  | cons x l ih =>
    intro p h
    rw [bitsOf_cons]
    match p, h with
    | 0, _ => simp [bits8]
    | 1, _ => simp [bits8]
    | 2, _ => simp [bits8]
    | 3, _ => simp [bits8]
    | 4, _ => simp [bits8]
    | 5, _ => simp [bits8]
    | 6, _ => simp [bits8]
    | 7, _ => simp [bits8]
    | q + 8, h =>
      have h1 : (q + 8) / 8 = q / 8 + 1 := by omega
      have h2 : (q + 8) % 8 = q % 8 := by omega
      rw [h1, h2, List.getD_cons_succ, ← ih q (by simp only [List.length_cons] at h; omega)]
      simp [bits8, List.getD_eq_getElem?_getD]
theorem rd_byte (l : List Int) (hb : Bytes l) (i : Int) : 0 ≤ rd l i ∧ rd l i ≤ 255 := by
  unfold rd
  by_cases h : i.toNat < l.length
  · rw [List.getD_eq_getElem?_getD, List.getElem?_eq_getElem h]
    exact hb _ (List.getElem_mem h)
  · rw [List.getD_eq_getElem?_getD, List.getElem?_eq_none (by omega)]
    simp
theorem w_in (l : List Int) (hl : l.length ≤ 1000000) (hb : Bytes l) (k : Nat) (x : ByteArray) (i n p : Int) (h0 : 0 ≤ p) (h1 : p < i + 5) (h2 : i ≤ 8 * l.length) (hn0 : 0 ≤ n) (hn1 : n < 1024) :
    coamingref04_Write.l1 (k + 1) l x i n p = coamingref04_Write.l1 k l x i (2 * n + (bitsOf l).getD p.toNat 0) (p + 1) := by
  have e1 : wrap64 (i + 5) = i + 5 := w64 _ (by omega) (by omega)
  have e2 : wrap64 (8 * (l.length : Int)) = 8 * l.length := w64 _ (by omega) (by omega)
  have e3 : wrap64 (p + 1) = p + 1 := w64 _ (by omega) (by omega)
  have e4 : wrap64 (2 * n) = 2 * n := w64 _ (by omega) (by omega)
  have e5 : wrap64 (2 * n + 1) = 2 * n + 1 := w64 _ (by omega) (by omega)
  rw [coamingref04_Write.l1, e1, e2, e3, e4, e5, if_pos h1]
  by_cases hp : p < 8 * (l.length : Int)
  · have f1 : wrap64 (Int.tdiv p 8) = p / 8 := by rw [Int.tdiv_eq_ediv_of_nonneg h0]; exact w64 _ (by omega) (by omega)
    have f2 : IntKind.u64.wrap (wrap64 (7 - Int.tmod p 8)) = 7 - p % 8 := by rw [Int.tmod_eq_emod_of_nonneg h0, w64 _ (by omega) (by omega)]; exact Bt.wraps_u64 _ (by omega) (by omega)
    rw [if_pos hp, f1, f2, if_pos (by omega), if_pos (by omega), if_pos (by omega)]
    have f3 : shr .u8 (rd l (p / 8)) (7 - p % 8) = rd l (p / 8) / 2 ^ (7 - p.toNat % 8) := by
      unfold shr
      have : (7 - p % 8).toNat = 7 - p.toNat % 8 := by omega
      rw [this, Nat.min_eq_left (by show 7 - p.toNat % 8 ≤ 8; omega)]
    have f4 : rd l (p / 8) = l.getD (p.toNat / 8) 0 := by unfold rd; rw [show (p / 8).toNat = p.toNat / 8 by omega]
    have hby := rd_byte l hb (p / 8)
    have g0 : 0 ≤ rd l (p / 8) / 2 ^ (7 - p.toNat % 8) := Int.ediv_nonneg hby.1 (Int.le_of_lt (Int.pow_pos (by decide)))
    have g1 : rd l (p / 8) / 2 ^ (7 - p.toNat % 8) ≤ rd l (p / 8) := Int.ediv_le_self _ hby.1
    rw [f3, and1 _ g0 (by omega)]
    have f5 := bit_at l p.toNat (by omega)
    rw [← f4] at f5
    rw [f5]
    generalize rd l (p / 8) / 2 ^ (7 - p.toNat % 8) % 2 = b at *
    have hb2 : b = 0 ∨ b = 1 := by
      have := BitsOf l
      rw [List.getD_eq_getElem?_getD, List.getElem?_eq_getElem (by rw [bitsOf_length]; omega)] at f5
      have h9 : 0 ≤ b ∧ b ≤ 1 := by rw [← f5]; exact this _ (List.getElem_mem _)
      omega
    rcases hb2 with rfl | rfl
    · rw [if_neg (by decide), Int.add_zero]
    · rw [if_pos rfl]
  · rw [if_neg hp]
    have : (bitsOf l).getD p.toNat 0 = 0 := by
      rw [List.getD_eq_getElem?_getD, List.getElem?_eq_none (by rw [bitsOf_length]; omega)]; rfl
    rw [this, Int.add_zero]
theorem sgs_extract (n : Int) (h0 : 0 ≤ n) (h1 : n < 32) : (ByteArray.mk #[97, 98, 99, 100, 101, 102, 103, 104, 105, 106, 107, 108, 109, 110, 111, 112, 113, 114, 115, 116, 117, 118, 119, 120, 121, 122, 50, 51, 52, 53, 54, 55]).extract n.toNat (n + 1).toNat = ⟨#[sg n]⟩ := by
  have h : ∀ i : Fin 32, ((ByteArray.mk #[97, 98, 99, 100, 101, 102, 103, 104, 105, 106, 107, 108, 109, 110, 111, 112, 113, 114, 115, 116, 117, 118, 119, 120, 121, 122, 50, 51, 52, 53, 54, 55]).extract i.val (i.val + 1)).data = #[sg (i.val : Int)] := by decide
  have h2 := h ⟨n.toNat, by omega⟩
  have e1 : (n + 1).toNat = n.toNat + 1 := by omega
  rw [e1]
  apply ByteArray.ext
  rw [h2]
  simp only [Int.toNat_of_nonneg h0]
theorem getD01 {l : List Int} (h : Bits l) (i : Nat) : 0 ≤ l.getD i 0 ∧ l.getD i 0 ≤ 1 := by
  rw [List.getD_eq_getElem?_getD]
  cases e : l[i]? with
  | none => simp
  | some b => exact h b (List.mem_of_getElem? e)
theorem w_five (l : List Int) (hl : l.length ≤ 1000000) (hb : Bytes l) (k : Nat) (x : ByteArray) (i : Int) (h0 : 0 ≤ i) (h2 : i < 8 * l.length) (hx : x.size ≤ 100000000) :
    coamingref04_Write.l0 (k + 7) l x i = coamingref04_Write.l0 k l (x ++ ⟨#[sg (16 * (bitsOf l).getD i.toNat 0 + 8 * (bitsOf l).getD (i + 1).toNat 0 + 4 * (bitsOf l).getD (i + 1 + 1).toNat 0 + 2 * (bitsOf l).getD (i + 1 + 1 + 1).toNat 0 + (bitsOf l).getD (i + 1 + 1 + 1 + 1).toNat 0)]⟩) (i + 5) := by
  have hB := BitsOf l
  have b0 := getD01 hB i.toNat
  have b1 := getD01 hB (i + 1).toNat
  have b2 := getD01 hB (i + 1 + 1).toNat
  have b3 := getD01 hB (i + 1 + 1 + 1).toNat
  have b4 := getD01 hB (i + 1 + 1 + 1 + 1).toNat
  rw [coamingref04_Write.l0, w64 (8 * (l.length : Int)) (by omega) (by omega), if_pos h2]
  rw [w_in l hl hb _ x i 0 i h0 (by omega) (by omega) (by omega) (by omega)]
  rw [w_in l hl hb _ x i _ (i + 1) (by omega) (by omega) (by omega) (by omega) (by omega)]
  rw [w_in l hl hb _ x i _ (i + 1 + 1) (by omega) (by omega) (by omega) (by omega) (by omega)]
  rw [w_in l hl hb _ x i _ (i + 1 + 1 + 1) (by omega) (by omega) (by omega) (by omega) (by omega)]
  rw [w_in l hl hb _ x i _ (i + 1 + 1 + 1 + 1) (by omega) (by omega) (by omega) (by omega) (by omega)]
  generalize (bitsOf l).getD i.toNat 0 = a0 at *
  generalize (bitsOf l).getD (i + 1).toNat 0 = a1 at *
  generalize (bitsOf l).getD (i + 1 + 1).toNat 0 = a2 at *
  generalize (bitsOf l).getD (i + 1 + 1 + 1).toNat 0 = a3 at *
  generalize (bitsOf l).getD (i + 1 + 1 + 1 + 1).toNat 0 = a4 at *
  rw [show 2 * (2 * (2 * (2 * (2 * 0 + a0) + a1) + a2) + a3) + a4 = 16 * a0 + 8 * a1 + 4 * a2 + 2 * a3 + a4 by omega]
  have g0 : 0 ≤ 16 * a0 + 8 * a1 + 4 * a2 + 2 * a3 + a4 := by omega
  have g1 : 16 * a0 + 8 * a1 + 4 * a2 + 2 * a3 + a4 < 32 := by omega
  generalize 16 * a0 + 8 * a1 + 4 * a2 + 2 * a3 + a4 = n at *
  rw [coamingref04_Write.l1, w64 (i + 5) (by omega) (by omega), if_neg (by omega), w64 (n + 1) (by omega) (by omega), if_pos g0, if_pos (by omega), if_pos (by omega), sgs_extract n g0 g1]
  rw [if_pos (by show x.size + 1 ≤ _; omega)]
theorem ba_append (x : ByteArray) (a : UInt8) (l : List UInt8) : (x ++ ⟨#[a]⟩) ++ (⟨l.toArray⟩ : ByteArray) = x ++ ⟨(a :: l).toArray⟩ := by
  apply ByteArray.ext
  simp [ByteArray.data_append]
theorem w_all (l : List Int) (hl : l.length ≤ 1000000) (hb : Bytes l) (d : Nat) : ∀ (k : Nat) (x : ByteArray) (i : Nat), 8 * l.length ≤ i + d → 7 * d < k → x.size + d ≤ 100000000 →
    coamingref04_Write.l0 k l x i = some (x ++ ⟨(enc ((bitsOf l).drop i)).toArray⟩) := by
  induction d with
  | zero =>
    intro k x i h hk hx
    obtain ⟨k, rfl⟩ : ∃ m, k = m + 1 := ⟨k - 1, by omega⟩
    rw [coamingref04_Write.l0, w64 (8 * (l.length : Int)) (by omega) (by omega), if_neg (by omega), List.drop_of_length_le (by rw [bitsOf_length]; omega)]
    congr 1
    apply ByteArray.ext
    simp [enc, ByteArray.data_append]
  | succ d ih =>
    intro k x i h hk hx
    by_cases hi : i < 8 * l.length
    · obtain ⟨k, rfl⟩ : ∃ m, k = m + 7 := ⟨k - 7, by omega⟩
      rw [w_five l hl hb k x i (by omega) (by omega) (by omega)]
      have e5 : ((i : Int) + 5) = ((i + 5 : Nat) : Int) := by omega
      rw [e5, ih k _ (i + 5) (by omega) (by omega) (by rw [ByteArray.size_append]; show x.size + 1 + d ≤ _; omega)]
      rw [enc_step ((bitsOf l).drop i) (by intro e; have := congrArg List.length e; rw [List.length_drop, bitsOf_length] at this; simp at this; omega)]
      rw [ba_append]
      congr 3
      simp only [List.getD_eq_getElem?_getD, List.getElem?_drop, List.drop_drop]
      rfl
    · obtain ⟨k, rfl⟩ : ∃ m, k = m + 1 := ⟨k - 1, by omega⟩
      rw [coamingref04_Write.l0, w64 (8 * (l.length : Int)) (by omega) (by omega), if_neg (by omega), List.drop_of_length_le (by rw [bitsOf_length]; omega)]
      congr 1
      apply ByteArray.ext
      simp [enc, ByteArray.data_append]
theorem refWrite_is (l : List Int) (hl : l.length ≤ 1000000) (hb : Bytes l) (k : Nat) (hk : 56 * l.length < k) : coamingref04_Write.f k l = some ⟨(enc (bitsOf l)).toArray⟩ := by
  unfold coamingref04_Write.f
  have h := w_all l hl hb (8 * l.length) k ⟨#[]⟩ 0 (by omega) (by omega) (by show 0 + 8 * l.length ≤ _; omega)
  rw [show ((0 : Nat) : Int) = 0 from rfl] at h
  rw [h]
  congr 1
def bs (s : ByteArray) : List Int := s.data.toList.map fun c => (c.toNat : Int)
theorem bs_length (s : ByteArray) : (bs s).length = s.size := by simp [bs]
theorem bs_drop (s : ByteArray) (i : Nat) (h : i < s.size) : (bs s).drop i = bt s i :: (bs s).drop (i + 1) := by
  rw [List.drop_eq_getElem_cons (by rw [bs_length]; exact h)]
  congr 1
  simp [bs, bt, h]
  rfl
theorem number_is (k : Nat) (c : Int) (h0 : 0 ≤ c) (h1 : c ≤ 255) (hk : 0 < k) : spell_number.f k c = some (match dg c with | some d => (d, true) | none => (0, false)) := by
  obtain ⟨k, rfl⟩ : ∃ m, k = m + 1 := ⟨k - 1, by omega⟩
  have h : ∀ c : Fin 256, spell_number.f 1 (c.val : Int) = some (match dg (c.val : Int) with | some d => (d, true) | none => (0, false)) := by decide +kernel
  have h2 := h ⟨c.toNat, by omega⟩
  simp only [Int.toNat_of_nonneg h0] at h2
  unfold spell_number.f at h2 ⊢
  simp only [spell_number.j0] at h2 ⊢
  exact h2
theorem sign_is (k : Nat) (c : Int) (h0 : 0 ≤ c) (h1 : c ≤ 255) (hk : 40 ≤ k) : coamingref04_sign.f k c = some ((dg c).getD (-1)) := by
  have h : ∀ c : Fin 256, coamingref04_sign.f 40 (c.val : Int) = some ((dg (c.val : Int)).getD (-1)) := by decide +kernel
  have h2 := h ⟨c.toNat, by omega⟩
  simp only [Int.toNat_of_nonneg h0] at h2
  have mono : ∀ d, coamingref04_sign.f (40 + d) c = some ((dg c).getD (-1)) := by
    intro d
    induction d with
    | zero => exact h2
    | succ d ih => exact coamingref04_sign.mono c (40 + d) _ ih
  have := mono (k - 40)
  rwa [show 40 + (k - 40) = k by omega] at this
theorem number_some (k : Nat) (c v : Int) (h0 : 0 ≤ c) (h1 : c ≤ 255) (hk : 0 < k) (h : dg c = some v) : spell_number.f k c = some (v, true) := by rw [number_is k c h0 h1 hk, h]
theorem number_none (k : Nat) (c : Int) (h0 : 0 ≤ c) (h1 : c ≤ 255) (hk : 0 < k) (h : dg c = none) : spell_number.f k c = some (0, false) := by rw [number_is k c h0 h1 hk, h]
theorem sign_some (k : Nat) (c v : Int) (h0 : 0 ≤ c) (h1 : c ≤ 255) (hk : 40 ≤ k) (h : dg c = some v) : coamingref04_sign.f k c = some v := by rw [sign_is k c h0 h1 hk, h]; rfl
theorem sign_none (k : Nat) (c : Int) (h0 : 0 ≤ c) (h1 : c ≤ 255) (hk : 40 ≤ k) (h : dg c = none) : coamingref04_sign.f k c = some (-1) := by rw [sign_is k c h0 h1 hk, h]; rfl
theorem fold_none {α : Type} {c : Int} {cs : List Int} {z : α} {f : List Int → α} (h : dg c = none) : (digits (c :: cs)).elim z f = z := by rw [digits, h]; rfl
theorem fold_some {α : Type} {c v : Int} {cs : List Int} {z : α} {f : List Int → α} (h : dg c = some v) : (digits (c :: cs)).elim z f = (digits cs).elim z (fun ds => f (v :: ds)) := by
  rw [digits, h]
  cases digits cs <;> rfl
theorem val_foldl (B : List Int) : ∀ a : Int, B.foldl (fun h b => 2 * h + b) a = a * 2 ^ B.length + val B := by
  induction B with
  | nil => intro a; simp [val]
  | cons b B ih =>
    intro a
    have h1 := ih (2 * a + b)
    have h2 := ih (2 * 0 + b)
    simp only [List.foldl_cons, val, List.length_cons] at *
    rw [h1, h2, Int.pow_succ, show (2 : Int) * 0 + b = b by omega, Int.add_mul]
    rw [show a * (2 ^ B.length * 2) = 2 * a * 2 ^ B.length by rw [Int.mul_comm (2 ^ B.length) 2, ← Int.mul_assoc, Int.mul_comm a 2]]
    omega
theorem val_append (A B : List Int) : val (A ++ B) = val A * 2 ^ B.length + val B := by
  show (A ++ B).foldl _ 0 = _
  rw [List.foldl_append]
  exact val_foldl B _
theorem val_range (B : List Int) (h : Bits B) : 0 ≤ val B ∧ val B < 2 ^ B.length := by
  induction B with
  | nil => simp [val]
  | cons b B ih =>
    have hb := h.head
    have := ih h.tail
    have e : val (b :: B) = b * 2 ^ B.length + val B := by rw [← val_foldl B b]; simp [val]
    rw [e, List.length_cons, Int.pow_succ]
    have hp : (0 : Int) < 2 ^ B.length := Int.pow_pos (by decide)
    rcases (by omega : b = 0 ∨ b = 1) with rfl | rfl <;> omega
theorem val_bits5 (d : Int) (h0 : 0 ≤ d) (h1 : d < 32) : val (bits5 d) = d := by simp only [val, bits5, List.foldl]; omega
theorem val_five (R : List Int) (d : Int) (h0 : 0 ≤ d) (h1 : d < 32) : val (R ++ bits5 d) = val R * 32 + d := by
  rw [val_append, val_bits5 d h0 h1]
  rfl
theorem val_split (L : List Int) (h : Bits L) (n : Nat) (hn : L.length = 8 + n) : val L / 2 ^ n = val (L.take 8) ∧ val L % 2 ^ n = val (L.drop 8) := by
  have e := val_append (L.take 8) (L.drop 8)
  rw [List.take_append_drop, List.length_drop, show L.length - 8 = n by omega] at e
  have hb : Bits (L.take 8 ++ L.drop 8) := by rw [List.take_append_drop]; exact h
  have hr := val_range _ hb.right
  rw [List.length_drop, show L.length - 8 = n by omega] at hr
  have hp : (0 : Int) < 2 ^ n := Int.pow_pos (by decide)
  rw [e]
  constructor
  · rw [Int.add_comm, Int.add_mul_ediv_right _ _ (by omega), Int.ediv_eq_zero_of_lt hr.1 hr.2]
    omega
  · rw [Int.add_comm, Int.add_mul_emod_self_right, Int.emod_eq_of_lt hr.1 hr.2]
theorem pow7 : ∀ m, m < 8 → (2 : Int) ^ m ≤ 128 := by decide
theorem pow12 : ∀ m, m < 13 → (2 : Int) ^ m ≤ 4096 := by decide
theorem pow_le7 (R : List Int) (h : Bits R) (hl : R.length < 8) : 0 ≤ val R ∧ val R < 128 := by
  have := val_range R h
  have h2 := pow7 R.length hl
  omega
theorem pow_le12 (L : List Int) (h : Bits L) (hl : L.length ≤ 12) : 0 ≤ val L ∧ val L < 4096 := by
  have := val_range L h
  have h2 := pow12 L.length (by omega)
  omega
theorem five_length (R : List Int) (v : Int) : (R ++ bits5 v).length = R.length + 5 := by simp [bits5]
theorem rd_or (R : List Int) (v : Int) (hR : Bits R) (hl : R.length < 8) (h0 : 0 ≤ v) (h1 : v < 32) : Go.bits .or .u64 (IntKind.u64.wrap (val R * 32)) v = val (R ++ bits5 v) := by
  have hr := pow_le7 R hR hl
  rw [Bt.wraps_u64 _ (by omega) (by omega), Bt.or_u64 5 _ _ (by omega) (by omega) (by omega) h0 (by omega) (by omega), val_five R v h0 h1]
theorem rd_shr (k : IntKind) (hk : k.bits = 64) (L : List Int) (h : Bits L) (h8 : 8 ≤ L.length) (hl : L.length ≤ 12) : shr k (val L) ((L.drop 8).length : Nat) % 256 = val (L.take 8) := by
  have hn : (L.drop 8).length ≤ 4 := by rw [List.length_drop]; omega
  have hs := (val_split L h (L.drop 8).length (by rw [List.length_drop]; omega)).1
  have hb' : Bits (L.take 8 ++ L.drop 8) := by rw [List.take_append_drop]; exact h
  have hv := val8_of _ hb'.left (by rw [List.length_take]; omega)
  unfold shr
  rw [Int.toNat_natCast, Nat.min_eq_left (by omega), hs]
  omega
theorem rd_mask (L : List Int) (h : Bits L) (h8 : 8 ≤ L.length) (hl : L.length ≤ 12) : Go.bits .and .u64 (val L) (IntKind.u64.wrap (shl .u64 1 ((L.drop 8).length : Nat) - 1)) = val (L.drop 8) := by
  have hn : (L.drop 8).length ≤ 4 := by rw [List.length_drop]; omega
  have hs := (val_split L h (L.drop 8).length (by rw [List.length_drop]; omega)).2
  have hL := pow_le12 L h hl
  have e8 : shl .u64 1 ((L.drop 8).length : Nat) = IntKind.u64.wrap (2 ^ ((L.drop 8).length : Int).toNat) := by
    unfold shl
    rw [Int.toNat_natCast, Nat.min_eq_left (by show _ ≤ 64; omega), Int.one_mul]
  rw [e8, Bt.mask_low _ _ hL.1 (by omega) (by omega) (by omega), Int.toNat_natCast, hs]
theorem rd_one (n : Nat) (hn : n ≤ 4) : shl .i64 1 (n : Int) = 2 ^ n := by
  have h : ∀ n, n < 5 → shl .i64 1 ((n : Nat) : Int) = 2 ^ n := by decide
  exact h n (by omega)
theorem rd_tmod (L : List Int) (h : Bits L) (h8 : 8 ≤ L.length) (hl : L.length ≤ 12) : Int.tmod (val L) (shl .i64 1 ((L.drop 8).length : Nat)) = val (L.drop 8) := by
  have hn : (L.drop 8).length ≤ 4 := by rw [List.length_drop]; omega
  have hL := pow_le12 L h hl
  rw [rd_one _ hn, Int.tmod_eq_emod_of_nonneg hL.1]
  exact (val_split L h (L.drop 8).length (by rw [List.length_drop]; omega)).2
theorem drop8_length (L : List Int) (h8 : 8 ≤ L.length) (hl : L.length ≤ 12) : wrap64 ((L.length : Nat) - 8 : Int) = ((L.drop 8).length : Nat) := by
  rw [w64 _ (by omega) (by omega), List.length_drop]; omega
def finR (p : List Int × List Int) : List Int × Int := if 5 ≤ p.2.length then ([], 40) else if val p.2 = 0 then (p.1, 0) else ([], 40)
theorem read_end (s : ByteArray) (k : Nat) (o R : List Int) (i : Nat) (hi : ¬ i < s.size) : spell_Read.l0 (k + 1) s o (val R) R.length s.size i = some ((digits ((bs s).drop i)).elim ([], 40) fun ds => finR (take8 ds o R)) := by
  rw [spell_Read.l0, if_neg (by omega), List.drop_of_length_le (by rw [bs_length]; omega)]
  show _ = some (finR (o, R))
  unfold finR
  by_cases h5 : 5 ≤ R.length
  · rw [if_pos (by omega), if_pos (show 5 ≤ (o, R).2.length from h5)]
  · rw [if_neg (by omega), if_neg (show ¬ 5 ≤ (o, R).2.length from h5)]
    by_cases hv : val R = 0
    · rw [if_pos hv, if_pos (show val (o, R).2 = 0 from hv)]
    · rw [if_neg hv, if_neg (show ¬ val (o, R).2 = 0 from hv)]
theorem read_all (s : ByteArray) (hs : s.size ≤ 1000000) (d : Nat) : ∀ (k : Nat) (o R : List Int) (i : Nat), s.size ≤ i + d → d + 1 < k → Bits R → R.length < 8 → o.length + d ≤ 10000000 →
    spell_Read.l0 k s o (val R) R.length s.size i = some ((digits ((bs s).drop i)).elim ([], 40) fun ds => finR (take8 ds o R)) := by
  induction d with
  | zero =>
    intro k o R i h hk hR hl ho
    obtain ⟨k, rfl⟩ : ∃ m, k = m + 1 := ⟨k - 1, by omega⟩
    exact read_end s k o R i (by omega)
  | succ d ih =>
    intro k o R i h hk hR hl ho
    obtain ⟨k, rfl⟩ : ∃ m, k = m + 1 := ⟨k - 1, by omega⟩
    by_cases hi : i < s.size
    · rw [spell_Read.l0, if_pos (by omega), if_pos (by omega), if_pos (by omega)]
      have hb := bt_range s i
      rw [bs_drop s i hi]
      cases hd : dg (bt s i) with
      | none => rw [number_none k _ hb.1 hb.2 (by omega) hd, Option.bind_some, if_neg (by decide), fold_none hd]
      | some v =>
        have hv := dg_range hd
        have e3 : wrap64 ((R.length : Int) + 5) = ((R ++ bits5 v).length : Nat) := by rw [w64 _ (by omega) (by omega), five_length]; omega
        have e4 : wrap64 ((i : Int) + 1) = ((i + 1 : Nat) : Int) := by rw [w64 _ (by omega) (by omega)]; omega
        have hL : Bits (R ++ bits5 v) := hR.append (Bits5 v)
        have hLl := five_length R v
        rw [number_some k _ v hb.1 hb.2 (by omega) hd, Option.bind_some, if_pos rfl, fold_some hd]
        rw [rd_or R v hR hl hv.1 hv.2, e3, e4]
        clear e3 e4
        by_cases h8 : 8 ≤ R.length + 5
        · have hb' : Bits ((R ++ bits5 v).take 8 ++ (R ++ bits5 v).drop 8) := by rw [List.take_append_drop]; exact hL
          have f1 := drop8_length (R ++ bits5 v) (by omega) (by omega)
          have f2 := rd_shr .u64 rfl (R ++ bits5 v) hL (by omega) (by omega)
          have f3 := rd_mask (R ++ bits5 v) hL (by omega) (by omega)
          have c1 : ((R ++ bits5 v).length : Int) ≥ 8 := by omega
          have c2 : (0 : Int) ≤ (((R ++ bits5 v).drop 8).length : Nat) := by omega
          have c3 : o.length < 140737488355328 := by omega
          rw [if_pos c1]
          rw [f1]
          rw [if_pos c2]
          rw [if_pos c3]
          rw [f2]
          rw [f3]
          clear f1 f2 f3 c3
          rw [ih k _ _ (i + 1) (by omega) (by omega) hb'.right (by rw [List.length_drop]; omega) (by rw [List.length_append, List.length_singleton]; omega)]
          have e9 : ∀ ds, take8 (v :: ds) o R = take8 ds (o ++ [val ((R ++ bits5 v).take 8)]) ((R ++ bits5 v).drop 8) := fun ds => by rw [take8, if_pos h8]
          simp only [e9]
        · rw [if_neg (by omega)]
          rw [ih k _ _ (i + 1) (by omega) (by omega) hL (by omega) (by omega)]
          have e9 : ∀ ds, take8 (v :: ds) o R = take8 ds o (R ++ bits5 v) := fun ds => by rw [take8, if_neg h8]
          simp only [e9]
    · exact read_end s k o R i hi
theorem read_is (s : ByteArray) (hs : s.size ≤ 1000000) (k : Nat) (hk : s.size + 1 < k) : spell_Read.f k s = some (readOf (bs s)) := by
  unfold spell_Read.f
  have h := read_all s hs s.size k [] [] 0 (by omega) hk (by intro b h; simp at h) (by simp) (by simp; omega)
  rw [show spell_Read.l0 k s [] 0 0 s.size 0 = spell_Read.l0 k s [] (val []) (([] : List Int).length : Nat) s.size ((0 : Nat) : Int) from rfl, h]
  unfold readOf finR
  rw [List.drop_zero]
  cases digits (bs s) <;> rfl
theorem toList_mk (l : List UInt8) : (ByteArray.mk l.toArray).toList = l := by
  rw [Go.ByteArray.toList_eq]
theorem toList_data' (s : ByteArray) : s.toList = s.data.toList := Go.ByteArray.toList_eq s
def finS (s : ByteArray) (o : List Int) : List Int × Int := if enc (bitsOf o) = s.data.toList then (o, 0) else ([], 40)
theorem ref_end (s : ByteArray) (k : Nat) (o R : List Int) (i : Nat) (hi : ¬ i < s.size) (hk : 600000 < k) (ho : o.length ≤ 10000) (hb : Bytes o) : coamingref04_Read.l0 (k + 1) s o (val R) R.length i = some ((digits ((bs s).drop i)).elim ([], 40) fun ds => finS s (take8 ds o R).1) := by
  rw [coamingref04_Read.l0, if_neg (by omega), List.drop_of_length_le (by rw [bs_length]; omega), refWrite_is o (by omega) hb k (by omega)]
  show _ = some (finS s o)
  unfold finS
  rw [Option.bind_some, toList_mk, toList_data']
  split <;> rfl
theorem ref_all (s : ByteArray) (hs : s.size ≤ 10000) (d : Nat) : ∀ (k : Nat) (o R : List Int) (i : Nat), s.size ≤ i + d → d + 600001 < k → Bits R → R.length < 8 → o.length + d ≤ 10000 → Bytes o →
    coamingref04_Read.l0 k s o (val R) R.length i = some ((digits ((bs s).drop i)).elim ([], 40) fun ds => finS s (take8 ds o R).1) := by
  induction d with
  | zero =>
    intro k o R i h hk hR hl ho hb
    obtain ⟨k, rfl⟩ : ∃ m, k = m + 1 := ⟨k - 1, by omega⟩
    exact ref_end s k o R i (by omega) (by omega) (by omega) hb
  | succ d ih =>
    intro k o R i h hk hR hl ho hby
    obtain ⟨k, rfl⟩ : ∃ m, k = m + 1 := ⟨k - 1, by omega⟩
    by_cases hi : i < s.size
    · rw [coamingref04_Read.l0, if_pos (by omega), if_pos (by omega)]
      have hb := bt_range s i
      rw [bs_drop s i hi]
      cases hd : dg (bt s i) with
      | none => rw [sign_none k _ hb.1 hb.2 (by omega) hd, Option.bind_some, if_pos (by decide), fold_none hd]
      | some v =>
        have hv := dg_range hd
        have hr := pow_le7 R hR hl
        have c0 : ¬ v < 0 := by omega
        have e2 : wrap64 (wrap64 (val R * 32) + v) = val (R ++ bits5 v) := by rw [w64 (val R * 32) (by omega) (by omega), w64 _ (by omega) (by omega), val_five R v hv.1 hv.2]
        have e3 : wrap64 ((R.length : Int) + 5) = ((R ++ bits5 v).length : Nat) := by rw [w64 _ (by omega) (by omega), five_length]; omega
        have e4 : wrap64 ((i : Int) + 1) = ((i + 1 : Nat) : Int) := by rw [w64 _ (by omega) (by omega)]; omega
        have hL : Bits (R ++ bits5 v) := hR.append (Bits5 v)
        have hLl := five_length R v
        rw [sign_some k _ v hb.1 hb.2 (by omega) hd, Option.bind_some, fold_some hd]
        rw [if_neg c0, e2, e3, e4]
        clear e2 e3 e4
        by_cases h8 : 8 ≤ R.length + 5
        · have hb' : Bits ((R ++ bits5 v).take 8 ++ (R ++ bits5 v).drop 8) := by rw [List.take_append_drop]; exact hL
          have hn : ((R ++ bits5 v).drop 8).length ≤ 4 := by rw [List.length_drop]; omega
          have hp : (0 : Int) < 2 ^ ((R ++ bits5 v).drop 8).length := Int.pow_pos (by decide)
          have hv8 := val8_of _ hb'.left (by rw [List.length_take]; omega)
          have e5 : IntKind.u64.wrap (((R ++ bits5 v).drop 8).length : Nat) = (((R ++ bits5 v).drop 8).length : Nat) := Bt.wraps_u64 _ (by omega) (by omega)
          have f1 := drop8_length (R ++ bits5 v) (by omega) (by omega)
          have f2 := rd_shr .i64 rfl (R ++ bits5 v) hL (by omega) (by omega)
          have f3 := rd_tmod (R ++ bits5 v) hL (by omega) (by omega)
          have c1 : ((R ++ bits5 v).length : Int) ≥ 8 := by omega
          have c2 : (0 : Int) ≤ (((R ++ bits5 v).drop 8).length : Nat) := by omega
          have c3 : o.length < 140737488355328 := by omega
          have c4 : ¬ shl .i64 1 (((R ++ bits5 v).drop 8).length : Nat) = 0 := by rw [rd_one _ hn]; omega
          rw [if_pos c1, f1, e5, if_pos c2, if_pos c3, if_neg c4, f2, f3]
          clear f1 f2 f3 e5 c4 c3
          rw [ih k _ _ (i + 1) (by omega) (by omega) hb'.right (by omega) (by rw [List.length_append, List.length_singleton]; omega) (fun x hx => by
            rcases List.mem_append.1 hx with hx | hx
            · exact hby x hx
            · rw [List.mem_singleton.1 hx]; exact hv8.2)]
          have e9 : ∀ ds, take8 (v :: ds) o R = take8 ds (o ++ [val ((R ++ bits5 v).take 8)]) ((R ++ bits5 v).drop 8) := fun ds => by rw [take8, if_pos h8]
          simp only [e9]
        · rw [if_neg (by omega)]
          rw [ih k _ _ (i + 1) (by omega) (by omega) hL (by omega) (by omega) hby]
          have e9 : ∀ ds, take8 (v :: ds) o R = take8 ds o (R ++ bits5 v) := fun ds => by rw [take8, if_neg h8]
          simp only [e9]
    · exact ref_end s k o R i hi (by omega) (by omega) hby
theorem map_nat_inj {a b : List UInt8} (h : a.map (fun c => (c.toNat : Int)) = b.map (fun c => (c.toNat : Int))) : a = b := by
  induction a generalizing b with
  | nil => cases b with
    | nil => rfl
    | cons _ _ => simp at h
  | cons x a ih => cases b with
    | nil => simp at h
    | cons y b =>
      simp only [List.map_cons, List.cons.injEq] at h
      rw [ih h.2]
      congr 1
      exact UInt8.toNat_inj.1 (by omega)
theorem readOf_ref (s : ByteArray) : ((digits (bs s)).elim ([], 40) fun ds => finS s (take8 ds [] []).1) = readOf (bs s) := by
  unfold readOf
  cases h : digits (bs s) with
  | none => rfl
  | some ds =>
    have hb := read_back h
    have hm := (digits_of h).2.1
    have e : s.data.toList = ds.map sg := map_nat_inj (by rw [List.map_map]; exact hm.symm)
    show finS s (take8 ds [] []).1 = _
    unfold finS
    rw [e]
    by_cases hc : enc (bitsOf (take8 ds [] []).1) = ds.map sg
    · obtain ⟨h1, h2⟩ := hb.1 hc
      rw [if_pos hc]
      show _ = if 5 ≤ (take8 ds [] []).2.length then _ else _
      rw [if_neg (by omega), if_pos h2]
    · rw [if_neg hc]
      show _ = if 5 ≤ (take8 ds [] []).2.length then _ else _
      by_cases h1 : 5 ≤ (take8 ds [] []).2.length
      · rw [if_pos h1]
      · rw [if_neg h1]
        by_cases h2 : val (take8 ds [] []).2 = 0
        · exact absurd (hb.2 ⟨by omega, h2⟩) hc
        · rw [if_neg h2]
theorem refRead_is (s : ByteArray) (hs : s.size ≤ 10000) (k : Nat) (hk : 700000 < k) : coamingref04_Read.f k s = some (readOf (bs s)) := by
  unfold coamingref04_Read.f
  have h := ref_all s hs s.size k [] [] 0 (by omega) (by omega) (by intro b h; simp at h) (by simp) (by simp; omega) (by intro b h; simp at h)
  rw [show coamingref04_Read.l0 k s [] 0 0 0 = coamingref04_Read.l0 k s [] (val []) (([] : List Int).length : Nat) ((0 : Nat) : Int) from rfl, h, List.drop_zero, readOf_ref]
theorem readOf_ok (s : ByteArray) (h : (readOf (bs s)).2 = 0) : enc (bitsOf (readOf (bs s)).1) = s.data.toList ∧ Bytes (readOf (bs s)).1 ∧ (readOf (bs s)).1.length ≤ s.size := by
  rw [← readOf_ref] at h ⊢
  cases hd : digits (bs s) with
  | none => rw [hd] at h; cases h
  | some ds =>
    rw [hd] at h
    have h' : (finS s (take8 ds [] []).1).2 = 0 := h
    show enc (bitsOf (finS s (take8 ds [] []).1).1) = _ ∧ Bytes (finS s (take8 ds [] []).1).1 ∧ (finS s (take8 ds [] []).1).1.length ≤ _
    unfold finS at h' ⊢
    split at h'
    · rename_i hc
      obtain ⟨t1, t2, t3, t4, t5⟩ := take8_spec ds [] [] (by intro b h; simp at h) (by simp) (by intro b h; simp at h)
      rw [if_pos hc]
      have := (digits_of hd).2.2
      rw [bs_length] at this
      exact ⟨hc, t4, by simp at t5; show (take8 ds [] []).1.length ≤ _; omega⟩
    · cases h'
theorem readOf_code (l : List Int) : (readOf l).2 = 0 ∨ (readOf l).2 = 40 := by
  unfold readOf
  cases digits l with
  | none => exact .inr rfl
  | some ds =>
    have key : ∀ p : List Int × List Int, (finR p).2 = 0 ∨ (finR p).2 = 40 := by
      intro p
      unfold finR
      split
      · exact .inr rfl
      · split
        · exact .inl rfl
        · exact .inr rfl
    exact key (take8 ds [] [])
theorem bytes_of_wf {l : List Int} (h : ∀ x ∈ l, (Lit.int .u8 x).wf = true) : Bytes l := fun x hx => by
  have := h x hx
  simpa [Lit.wf, IntKind.min, IntKind.max, IntKind.signed, IntKind.bits] using this
end Go.Proofs.YtgljicdpcapgnaaGreatDoor.Sp
namespace Go.Proofs.YtgljicdpcapgnaaGreatDoor.Sh
def rot (v : Int) (n : Nat) : Int := bits .or .u32 (IntKind.u32.wrap (v * 2 ^ (32 - n))) (v / 2 ^ n)
def m32 (x : Int) : Int := x % 4294967296
def s0 (a : Int) : Int := bits .xor .u32 (bits .xor .u32 (rot a 7) (rot a 18)) (a / 8)
def s1 (b : Int) : Int := bits .xor .u32 (bits .xor .u32 (rot b 17) (rot b 19)) (b / 1024)
def keys : List Int := [
  0x428a2f98, 0x71374491, 0xb5c0fbcf, 0xe9b5dba5, 0x3956c25b, 0x59f111f1, 0x923f82a4, 0xab1c5ed5,
  0xd807aa98, 0x12835b01, 0x243185be, 0x550c7dc3, 0x72be5d74, 0x80deb1fe, 0x9bdc06a7, 0xc19bf174,
  0xe49b69c1, 0xefbe4786, 0x0fc19dc6, 0x240ca1cc, 0x2de92c6f, 0x4a7484aa, 0x5cb0a9dc, 0x76f988da,
  0x983e5152, 0xa831c66d, 0xb00327c8, 0xbf597fc7, 0xc6e00bf3, 0xd5a79147, 0x06ca6351, 0x14292967,
  0x27b70a85, 0x2e1b2138, 0x4d2c6dfc, 0x53380d13, 0x650a7354, 0x766a0abb, 0x81c2c92e, 0x92722c85,
  0xa2bfe8a1, 0xa81a664b, 0xc24b8b70, 0xc76c51a3, 0xd192e819, 0xd6990624, 0xf40e3585, 0x106aa070,
  0x19a4c116, 0x1e376c08, 0x2748774c, 0x34b0bcb5, 0x391c0cb3, 0x4ed8aa4a, 0x5b9cca4f, 0x682e6ff3,
  0x748f82ee, 0x78a5636f, 0x84c87814, 0x8cc70208, 0x90befffa, 0xa4506ceb, 0xbef9a3f7, 0xc67178f2]
def four (p : List Int) (t : Nat) : Int := p.getD (4 * t) 0 * 16777216 + p.getD (4 * t + 1) 0 * 65536 + p.getD (4 * t + 2) 0 * 256 + p.getD (4 * t + 3) 0
def next (w : List Int) (t : Nat) : Int := m32 (m32 (m32 (w.getD (t - 16) 0 + s0 (w.getD (t - 15) 0)) + w.getD (t - 7) 0) + s1 (w.getD (t - 2) 0))
def words (p : List Int) : Nat → List Int
  | 0 => []
  | t + 1 => words p t ++ [if t < 16 then four p t else next (words p t) t]
def big1 (e : Int) : Int := bits .xor .u32 (bits .xor .u32 (rot e 6) (rot e 11)) (rot e 25)
def big0 (a : Int) : Int := bits .xor .u32 (bits .xor .u32 (rot a 2) (rot a 13)) (rot a 22)
def ch (e f g : Int) : Int := bits .xor .u32 (bits .and .u32 e f) (bits .andNot .u32 g e)
def maj (a b c : Int) : Int := bits .xor .u32 (bits .xor .u32 (bits .and .u32 a b) (bits .and .u32 a c)) (bits .and .u32 b c)
structure V where
  (a b c d e f g h : Int)
def V.x (v : V) (k w : Int) : Int := m32 (m32 (m32 (m32 (v.h + big1 v.e) + ch v.e v.f v.g) + k) + w)
def V.y (v : V) : Int := m32 (big0 v.a + maj v.a v.b v.c)
def V.rnd (v : V) (k w : Int) : V := ⟨m32 (v.x k w + v.y), v.a, v.b, v.c, m32 (v.d + v.x k w), v.e, v.f, v.g⟩
def V.list (v : V) : List Int := [v.a, v.b, v.c, v.d, v.e, v.f, v.g, v.h]
def V.add (v s : V) : V := ⟨m32 (s.a + v.a), m32 (s.b + v.b), m32 (s.c + v.c), m32 (s.d + v.d), m32 (s.e + v.e), m32 (s.f + v.f), m32 (s.g + v.g), m32 (s.h + v.h)⟩
def v0 : V := ⟨0x6a09e667, 0xbb67ae85, 0x3c6ef372, 0xa54ff53a, 0x510e527f, 0x9b05688c, 0x1f83d9ab, 0x5be0cd19⟩
def rounds (ws : List Int) (v : V) : Nat → V
  | 0 => v
  | t + 1 => (rounds ws v t).rnd (keys.getD t 0) (ws.getD t 0)
def comp (s : V) (p : List Int) : V := (rounds (words p 64) s 64).add s
def feed (bs : List Int) : Nat → V
  | 0 => v0
  | k + 1 => comp (feed bs k) ((bs.drop (64 * k)).take 64)
def state (bs : List Int) : V := feed bs (bs.length / 64)
def tail (bs : List Int) : List Int := bs.drop (64 * (bs.length / 64))
def be8 (x : Int) : List Int := (List.range 8).map fun i => x / 2 ^ (56 - 8 * i) % 256
def zeros (n : Nat) : Nat := (119 - n % 64) % 64
def padded (bs : List Int) : List Int := bs ++ [128] ++ List.replicate (zeros bs.length) 0 ++ be8 (bs.length * 8)
def outs (s : V) : List Int := (List.range 32).map fun i => s.list.getD (i / 4) 0 / 2 ^ (24 - i % 4 * 8) % 256
def dig (bs : List Int) : List Int := outs (state (padded bs))
abbrev Bytes (l : List Int) : Prop := ∀ x ∈ l, 0 ≤ x ∧ x ≤ 255
theorem words_length (p : List Int) (t : Nat) : (words p t).length = t := by
  induction t with
  | zero => rfl
  | succ t ih => simp [words, ih]
theorem words_prefix (p : List Int) (t k : Nat) (h : t ≤ k) : (words p k).take t = words p t := by
  induction k with
  | zero => obtain rfl : t = 0 := by omega
            rfl
  | succ k ih =>
    by_cases ht : t = k + 1
    · subst ht
      rw [List.take_of_length_le (by rw [words_length]; exact Nat.le_refl _)]
    · rw [words, List.take_append_of_le_length (by rw [words_length]; omega), ih (by omega)]
theorem words_at (p : List Int) (t k i : Nat) (h : t ≤ k) (hi : i < t) : (words p k).getD i 0 = (words p t).getD i 0 := by
  rw [← words_prefix p t k h, List.getD_eq_getElem?_getD, List.getD_eq_getElem?_getD, List.getElem?_take, if_pos hi]
theorem feed_app (bs c : List Int) (k : Nat) (h : 64 * k ≤ bs.length) : feed (bs ++ c) k = feed bs k := by
  induction k with
  | zero => rfl
  | succ k ih =>
    rw [feed, feed, ih (by omega), List.drop_append_of_le_length (by omega), List.take_append_of_le_length (by rw [List.length_drop]; omega)]
theorem tail_length (bs : List Int) : (tail bs).length = bs.length % 64 := by
  rw [tail, List.length_drop]; omega
theorem state_full (bs c : List Int) (h : bs.length % 64 + c.length = 64) : state (bs ++ c) = comp (state bs) (tail bs ++ c) ∧ tail (bs ++ c) = [] := by
  have e : (bs ++ c).length / 64 = bs.length / 64 + 1 := by rw [List.length_append]; omega
  constructor
  · unfold state
    rw [e, feed, feed_app _ _ _ (by omega), List.drop_append_of_le_length (by omega)]
    congr 1
    rw [List.take_of_length_le]
    · rfl
    · rw [List.length_append, List.length_drop]; omega
  · unfold tail
    rw [e]
    exact List.drop_of_length_le (by rw [List.length_append]; omega)
theorem state_part (bs c : List Int) (h : bs.length % 64 + c.length < 64) : state (bs ++ c) = state bs ∧ tail (bs ++ c) = tail bs ++ c := by
  have e : (bs ++ c).length / 64 = bs.length / 64 := by rw [List.length_append]; omega
  constructor
  · unfold state
    rw [e, feed_app _ _ _ (by omega)]
  · unfold tail
    rw [e, List.drop_append_of_le_length (by omega)]
theorem list_length (v : V) : v.list.length = 8 := rfl
theorem be8_length (x : Int) : (be8 x).length = 8 := by simp [be8]
theorem outs_length (s : V) : (outs s).length = 32 := by simp [outs]
theorem be8_bytes (x : Int) (h : 0 ≤ x) : Bytes (be8 x) := by
  intro y hy
  simp only [be8, List.mem_map] at hy
  obtain ⟨i, _, rfl⟩ := hy
  omega
theorem padded_bytes (bs : List Int) (h : Bytes bs) : Bytes (padded bs) := by
  intro y hy
  simp only [padded, List.mem_append, List.mem_cons, List.not_mem_nil, or_false, List.mem_replicate] at hy
  rcases hy with ((hy | rfl) | ⟨_, rfl⟩) | hy
  · exact h y hy
  · omega
  · omega
  · exact be8_bytes _ (by omega) y hy
theorem bits_or_comm (k : IntKind) (x y : Int) : bits .or k x y = bits .or k y x := by simp only [bits, BitVec.or_comm]
end Go.Proofs.YtgljicdpcapgnaaGreatDoor.Sh
namespace Go.Proofs.YtgljicdpcapgnaaGreatDoor
open Go.RowKit Go.Proofs.YtgljicdpcapgnaaGreatDoorW.PrintWords
namespace Sh
def u32s (l : List Int) : Array Value := (l.map (Value.int .u32)).toArray
def hc (s p : List Int) (n : Int) : Array Value := (s.map (Value.int .u32) ++ p.map (Value.int .u8) ++ [Value.int .u64 n]).toArray
theorem hc_sum (s p : List Int) (n : Int) (i : Nat) (hs : i < s.length) : (hc s p n)[i]? = some (.int .u32 (s.getD i 0)) := by
  simp [hc, List.getElem?_append, hs, List.getD_eq_getElem?_getD, List.getElem?_eq_getElem hs]
theorem hc_rest (s p : List Int) (n : Int) (i : Nat) (hs : i < p.length) : (hc s p n)[s.length + i]? = some (.int .u8 (p.getD i 0)) := by
  simp [hc, List.getElem?_append, hs, List.getD_eq_getElem?_getD, List.getElem?_eq_getElem hs]
theorem hc_rest' (s : V) (p : List Int) (n : Int) (i : Nat) {o : Nat} (ho : o = 8) (hs : i < p.length) : (hc s.list p n)[o + i]? = some (.int .u8 (p.getD i 0)) := by
  subst ho
  exact hc_rest s.list p n i hs
theorem u32s_at (l : List Int) (i : Nat) (h : i < l.length) : (u32s l)[i]? = some (.int .u32 (l.getD i 0)) := by
  simp [u32s, List.getD_eq_getElem?_getD, List.getElem?_eq_getElem h]
theorem hc_n (s p : List Int) (n : Int) : (hc s p n)[s.length + p.length]? = some (.int .u64 n) := by
  simp [hc, List.getElem?_append]
theorem cellAt {w : World} {b : Nat} {C : Array Value} {t : TypeId} {fr : Nat × Nat} (h : w.heap[b]? = some (.cells C t fr)) (i : Nat) (v : Value) (hv : C[i]? = some v) : w.cell? ⟨b, i, none⟩ = some v := by
  unfold World.cell?
  rw [h]
  exact hv
theorem frozenAt {w : World} {b : Nat} {C : Array Value} {t : TypeId} (h : w.heap[b]? = some (.cells C t (0, 0))) (i : Nat) : w.frozen? ⟨b, i, none⟩ = false := by
  unfold World.frozen?
  rw [h]
  simp
theorem gb_refl (w : World) (r : Option Nat) : w.grownBy w r := ⟨rfl, rfl, rfl, Nat.le_refl _, fun _ _ _ => rfl⟩
theorem gb_trans {a b c : World} {r : Option Nat} (h : a.grownBy b r) (k : b.grownBy c r) : a.grownBy c r :=
  ⟨k.os.trans h.os, k.tape.trans h.tape, k.output.trans h.output, Nat.le_trans h.size k.size, fun i hi hr => (k.block i (Nat.lt_of_lt_of_le hi h.size) hr).trans (h.block i hi hr)⟩
theorem gb_below {a b c : World} {r : Option Nat} (h : a.grownBy b r) (k : Below a.heap.size b c) : a.grownBy c r :=
  ⟨k.os.trans h.os, k.tape.trans h.tape, k.output.trans h.output, Nat.le_trans h.size k.size, fun i hi hr => (k.block i hi).trans (h.block i hi hr)⟩
theorem gb_of_below {a b : World} {r : Option Nat} (k : Below a.heap.size a b) : a.grownBy b r := gb_below (gb_refl a r) k
theorem gb_set {a b : World} {k : Nat} (h : a.grownBy b (some k)) (i : Nat) (v : Value) : a.grownBy (b.setCell ⟨k, i, none⟩ v) (some k) := by
  refine gb_trans h ⟨rfl, rfl, rfl, ?_, fun j hj hr => Below.heap_setCell _ _ _ _ (fun e => hr (by rw [e]))⟩
  exact ((Below.refl 0 b).setCell (p := ⟨k, i, none⟩) (Nat.zero_le _) v).size
theorem row_set {w : World} {b : Nat} {C : Array Value} {t : TypeId} (h : w.heap[b]? = some (.cells C t (0, 0))) (i : Nat) (v : Value) : (w.setCell ⟨b, i, none⟩ v).heap[b]? = some (.cells (C.setIfInBounds i v) t (0, 0)) :=
  heap_setCell_same w b i C t v h
theorem row_far {w : World} {b : Nat} {o : Obj} (h : w.heap[b]? = some o) (k : Nat) (hk : b ≠ k) (i : Nat) (v : Value) : (w.setCell ⟨k, i, none⟩ v).heap[b]? = some o :=
  (Below.heap_setCell _ _ _ _ hk).trans h
theorem ror_7 (v : Int) : PBase.sha_ror.f v 7 = some (rot v 7) := by kernel_rfl
theorem ror_18 (v : Int) : PBase.sha_ror.f v 18 = some (rot v 18) := by kernel_rfl
theorem ror_17 (v : Int) : PBase.sha_ror.f v 17 = some (rot v 17) := by kernel_rfl
theorem ror_19 (v : Int) : PBase.sha_ror.f v 19 = some (rot v 19) := by kernel_rfl
theorem ror_6 (v : Int) : PBase.sha_ror.f v 6 = some (rot v 6) := by kernel_rfl
theorem ror_11 (v : Int) : PBase.sha_ror.f v 11 = some (rot v 11) := by kernel_rfl
theorem ror_25 (v : Int) : PBase.sha_ror.f v 25 = some (rot v 25) := by kernel_rfl
theorem ror_2 (v : Int) : PBase.sha_ror.f v 2 = some (rot v 2) := by kernel_rfl
theorem ror_13 (v : Int) : PBase.sha_ror.f v 13 = some (rot v 13) := by kernel_rfl
theorem ror_22 (v : Int) : PBase.sha_ror.f v 22 = some (rot v 22) := by kernel_rfl
theorem reads_at {w : World} {b o : Nat} {C : Array Value} {e : TypeId} {fr : Nat × Nat} (h : w.heap[b]? = some (.cells C e fr)) (k : IntKind) (xs : List Int) (hC : ∀ j, j < xs.length → C[o + j]? = some (.int k (xs.getD j 0))) (hl : xs.length ≤ 9223372036854775807) : Kd.C (Kd.int k) w (some ⟨b, o, none⟩) xs.length xs := by
  refine Kd.C_of_reads (d := 0) ⟨rfl, hl, fun hn => ⟨_, rfl, fun j hj => ?_⟩⟩
  have e1 : (⟨b, o, none⟩ : Addr).add j = ⟨b, o + j, none⟩ := by unfold Addr.add; split <;> simp_all
  rw [e1]
  unfold World.cell?
  rw [h]
  exact hC j hj
theorem slice_rest (b o : Nat) (k : IntKind) (i : Int) (l : Nat) (hi : i = l) (hl : l < 64) (W : World) :
    (Instr.sliceAt 165 (.pointer (some ⟨b, o, none⟩)) (some (.int k i)) none none).run Tryz.prog W = .ok (.slice (some ⟨b, o + l, none⟩) (64 - l) (64 - l)) W := by
  subst hi
  rw [run_sliceAt_array_l W 165 ⟨b, o, none⟩ (by kernel_rfl) k (l : Int) (by omega) (by rw [show Tryz.prog.arrayLen 165 = 64 by kernel_rfl]; omega)]
  rw [show Tryz.prog.arrayLen 165 = 64 by kernel_rfl, show Tryz.prog.elem 165 = 5 by kernel_rfl]
  rw [show (sizeOf 5).run Tryz.prog W = .ok 1 W by kernel_rfl]
  simp only [Result.andThen, slicedAt, Int.toNat_natCast]
  rw [if_neg (by omega)]
  congr 3
  unfold Addr.add
  simp
theorem four_is (p : List Int) (t : Nat) (hp : p.length = 64) (ht : t < 16) (hb : Bytes p) : PBase.sha_four.f (p.drop (4 * t)) = some (four p t) := by
  have hl : (p.drop (4 * t)).length = 64 - 4 * t := by rw [List.length_drop, hp]
  unfold PBase.sha_four.f
  rw [if_pos (by omega), if_pos (by omega), if_pos (by omega), if_pos (by omega)]
  have hr : ∀ j : Nat, j < 4 → rd (p.drop (4 * t)) j = p.getD (4 * t + j) 0 ∧ 0 ≤ p.getD (4 * t + j) 0 ∧ p.getD (4 * t + j) 0 ≤ 255 := by
    intro j hj
    have h1 : 4 * t + j < p.length := by omega
    have h2 : p.getD (4 * t + j) 0 = p[4 * t + j] := by rw [List.getD_eq_getElem?_getD, List.getElem?_eq_getElem h1]; rfl
    refine ⟨?_, ?_⟩
    · simp [rd, List.getD_eq_getElem?_getD]
    · rw [h2]; exact hb _ (List.getElem_mem h1)
  obtain ⟨e0, a0, b0⟩ := hr 0 (by decide)
  obtain ⟨e1, a1, b1⟩ := hr 1 (by decide)
  obtain ⟨e2, a2, b2⟩ := hr 2 (by decide)
  obtain ⟨e3, a3, b3⟩ := hr 3 (by decide)
  rw [show rd (p.drop (4 * t)) 0 = p.getD (4 * t + 0) 0 from e0, show rd (p.drop (4 * t)) 1 = p.getD (4 * t + 1) 0 from e1, show rd (p.drop (4 * t)) 2 = p.getD (4 * t + 2) 0 from e2, show rd (p.drop (4 * t)) 3 = p.getD (4 * t + 3) 0 from e3]
  unfold four
  rw [Nat.add_zero] at *
  generalize p.getD (4 * t) 0 = x0 at *
  generalize p.getD (4 * t + 1) 0 = x1 at *
  generalize p.getD (4 * t + 2) 0 = x2 at *
  generalize p.getD (4 * t + 3) 0 = x3 at *
  rw [show x0 % 4294967296 * 16777216 % 4294967296 = x0 * 16777216 by omega, show x1 % 4294967296 * 65536 % 4294967296 = x1 * 65536 by omega, show x2 % 4294967296 * 256 % 4294967296 = x2 * 256 by omega, show x3 % 4294967296 = x3 by omega]
  rw [Bt.or_u32 24 (x0 * 16777216) (x1 * 65536) (by omega) (by omega) (by omega) (by omega) (by omega) (by omega)]
  rw [Bt.or_u32 16 (x0 * 16777216 + x1 * 65536) (x2 * 256) (by omega) (by omega) (by omega) (by omega) (by omega) (by omega)]
  rw [Bt.or_u32 8 (x0 * 16777216 + x1 * 65536 + x2 * 256) x3 (by omega) (by omega) (by omega) (by omega) (by omega) (by omega)]
end Sh
theorem sha_ror.quiet (v : Int) (n r : Int) (w : World) (h : PBase.sha_ror.f v n = some r) :
    Calls Tryz.prog 128 #[.int .u32 v, .int .i64 n] w fun e w' => e = .returned (.int .u32 r) ∧ ∃ m, w' = w.drewN m := (PBase.sha_ror.calls v n r w h).mono fun _ _ ⟨he, hd⟩ => ⟨he, hd.out⟩
end Go.Proofs.YtgljicdpcapgnaaGreatDoor
namespace Go.Proofs.YtgljicdpcapgnaaGreatDoor
open Go.RowKit Go.Proofs.YtgljicdpcapgnaaGreatDoorW.PrintWords Go.Proofs.YtgljicdpcapgnaaGreatDoorW.PrintLast
namespace Sh
structure Mx (w : World) (hb : Nat) (C : Array Value) (p : List Int) (t : Nat) (B : Array Value) (ws : List Int) (wr : World) : Prop where
  h : wr.heap[hb]? = some (.cells C 178 (0, 0))
  bw : wr.heap[w.heap.size]? = some (.cells (u32s ws) 180 (0, 0))
  bv : wr.heap[w.heap.size + 1]? = some (.cells B 176 (0, 0))
  ks : ∀ i, i < 64 → wr.cell? ⟨0, i, none⟩ = some (.int .u32 (keys.getD i 0))
  g : Below w.heap.size w wr
  len : ws.length = 64
  wt : ws.take t = words p t
  lt : hb < w.heap.size
  hb0 : hb ≠ 0
theorem u32s_set (l : List Int) (i : Nat) (x : Int) : (u32s l).setIfInBounds i (.int .u32 x) = u32s (l.set i x) := by
  simp [u32s, List.map_set]
theorem quiet_then {P : Program} {f : FuncId} {args : Array Value} {W : World} {k a : Nat} {v : Value}
    (h : Calls P f args (W.drewN (k + a)) fun e w' => e = .returned v ∧ ∃ m, w' = (W.drewN (k + a)).drewN m) : Calls P f args (W.drewN (k + a)) fun e w'' => e = .returned v ∧ ∃ n, w'' = W.drewN (k + n) :=
  h.mono fun _ _ ⟨he, m, hm⟩ => ⟨he, a + m, by rw [hm, World.drewN_drewN, Nat.add_assoc]⟩
theorem getD_set_here (l : List Int) (i : Nat) (x : Int) (h : i < (l.set i x).length) : (l.set i x).getD i 0 = x := by
  rw [List.length_set] at h
  simp [List.getD_eq_getElem?_getD, List.getElem?_set, h]
theorem u32s_here (l : List Int) (i : Nat) (x : Int) (h : i < (l.set i x).length) : (u32s (l.set i x))[i]? = some (.int .u32 x) := by
  rw [u32s_at _ _ h]
  rw [List.length_set] at h
  simp [List.getD_eq_getElem?_getD, List.getElem?_set, h]
theorem Mx.drewN {w : World} {hb : Nat} {C : Array Value} {p : List Int} {t : Nat} {B : Array Value} {ws : List Int} {wr : World} (h : Mx w hb C p t B ws wr) (m : Nat) : Mx w hb C p t B ws (wr.drewN m) :=
  ⟨h.h, h.bw, h.bv, h.ks, ⟨h.g.os, h.g.tape, h.g.output, h.g.size, h.g.block⟩, h.len, h.wt, h.lt, h.hb0⟩
theorem Mx.drew {w : World} {hb : Nat} {C : Array Value} {p : List Int} {t : Nat} {B : Array Value} {ws : List Int} {wr : World} (h : Mx w hb C p t B ws wr) : Mx w hb C p t B ws wr.drew :=
  ⟨h.h, h.bw, h.bv, h.ks, ⟨h.g.os, h.g.tape, h.g.output, h.g.size, h.g.block⟩, h.len, h.wt, h.lt, h.hb0⟩
theorem Mx.far {w : World} {hb : Nat} {C : Array Value} {p : List Int} {t : Nat} {B : Array Value} {ws : List Int} {wr : World} (h : Mx w hb C p t B ws wr) (k i : Nat) (v : Value) (hk : w.heap.size ≤ k) : (wr.setCell ⟨k, i, none⟩ v).heap[hb]? = some (.cells C 178 (0, 0)) ∧ (∀ j, j < 64 → (wr.setCell ⟨k, i, none⟩ v).cell? ⟨0, j, none⟩ = some (.int .u32 (keys.getD j 0))) ∧ Below w.heap.size w (wr.setCell ⟨k, i, none⟩ v) := by
  refine ⟨row_far h.h k (by have := h.lt; omega) i v, fun j hj => ?_, h.g.setCell (p := ⟨k, i, none⟩) hk v⟩
  exact (World.cell?_of_block (Below.heap_setCell _ _ _ _ (by show 0 ≠ k; have := h.lt; omega))).trans (h.ks j hj)
theorem Mx.word {w : World} {hb : Nat} {C : Array Value} {p : List Int} {t : Nat} {B : Array Value} {ws : List Int} {wr : World} (h : Mx w hb C p t B ws wr) (ht : t < 64) (x : Int) (hx : x = if t < 16 then four p t else next (words p t) t) : Mx w hb C p (t + 1) B (ws.set t x) (wr.setCell ⟨w.heap.size, t, none⟩ (.int .u32 x)) := by
  obtain ⟨f1, f2, f3⟩ := h.far w.heap.size t (.int .u32 x) (Nat.le_refl _)
  refine ⟨f1, ?_, row_far h.bv _ (by omega) _ _, f2, f3, by rw [List.length_set]; exact h.len, ?_, h.lt, h.hb0⟩
  · rw [row_set h.bw, u32s_set]
  · rw [words, ← hx, ← h.wt, List.take_add_one, List.take_set_of_le (Nat.le_refl t)]
    simp [h.len, ht]
theorem set8 (a b c d e f g h x0 x1 x2 x3 x4 x5 x6 x7 : Int) : ((((((((u32s [a, b, c, d, e, f, g, h]).setIfInBounds 0 (.int .u32 x0)).setIfInBounds 1 (.int .u32 x1)).setIfInBounds 2 (.int .u32 x2)).setIfInBounds 3 (.int .u32 x3)).setIfInBounds 4 (.int .u32 x4)).setIfInBounds 5 (.int .u32 x5)).setIfInBounds 6 (.int .u32 x6)).setIfInBounds 7 (.int .u32 x7) = u32s [x0, x1, x2, x3, x4, x5, x6, x7] := by simp [u32s]
theorem Mx.vset {w : World} {hb : Nat} {C : Array Value} {p : List Int} {t : Nat} {B : Array Value} {ws : List Int} {wr : World} (h : Mx w hb C p t B ws wr) (i : Nat) (v : Value) : Mx w hb C p t (B.setIfInBounds i v) ws (wr.setCell ⟨w.heap.size + 1, i, none⟩ v) := by
  obtain ⟨f1, f2, f3⟩ := h.far (w.heap.size + 1) i v (Nat.le_succ _)
  exact ⟨f1, row_far h.bw _ (by omega) _ _, row_set h.bv i v, f2, f3, h.len, h.wt, h.lt, h.hb0⟩
theorem Mx.vec {w : World} {hb : Nat} {C : Array Value} {p : List Int} {s : V} {t : Nat} {v : V} {ws : List Int} {W : World} (h : Mx w hb C p (t + 1) (u32s v.list) ws W) (hv : rounds (words p 64) s t = v) (ht : t < 64) (kx x xa xe : Int) (hk : keys.getD t 0 = kx) (hx : ws.getD t 0 = x)
    (ha : xa = (v.rnd kx x).a) (he : xe = (v.rnd kx x).e) :
    Mx w hb C p (t + 1) (u32s (rounds (words p 64) s (t + 1)).list) ws ((((((((W.setCell ⟨w.heap.size + 1, 0, none⟩ (.int .u32 xa)).setCell ⟨w.heap.size + 1, 1, none⟩ (.int .u32 v.a)).setCell ⟨w.heap.size + 1, 2, none⟩ (.int .u32 v.b)).setCell ⟨w.heap.size + 1, 3, none⟩ (.int .u32 v.c)).setCell ⟨w.heap.size + 1, 4, none⟩ (.int .u32 xe)).setCell ⟨w.heap.size + 1, 5, none⟩ (.int .u32 v.e)).setCell ⟨w.heap.size + 1, 6, none⟩ (.int .u32 v.f)).setCell ⟨w.heap.size + 1, 7, none⟩ (.int .u32 v.g)) := by
  have hx2 : (words p 64).getD t 0 = x := by
    rw [words_at p (t + 1) 64 t (by omega) (by omega), ← h.wt, ← hx, List.getD_eq_getElem?_getD, List.getD_eq_getElem?_getD, List.getElem?_take, if_pos (by omega)]
  have e : rounds (words p 64) s (t + 1) = v.rnd kx x := by
    rw [rounds, hv, hk, hx2]
  have h8 := (((((((Mx.vset (B := u32s [v.a, v.b, v.c, v.d, v.e, v.f, v.g, v.h]) h 0 (.int .u32 xa)).vset 1 (.int .u32 v.a)).vset 2 (.int .u32 v.b)).vset 3 (.int .u32 v.c)).vset 4 (.int .u32 xe)).vset 5 (.int .u32 v.e)).vset 6 (.int .u32 v.f)).vset 7 (.int .u32 v.g)
  rw [set8] at h8
  have e2 : (v.rnd kx x).list = [xa, v.a, v.b, v.c, xe, v.e, v.f, v.g] := by unfold V.list; rw [ha, he]; rfl
  rw [e, e2]
  exact h8
structure M2 (w : World) (hb : Nat) (C B : Array Value) (wr : World) : Prop where
  h : wr.heap[hb]? = some (.cells C 178 (0, 0))
  bv : wr.heap[w.heap.size + 1]? = some (.cells B 176 (0, 0))
  g : w.grownBy wr (some hb)
  lt : hb < w.heap.size
theorem M2.set {w : World} {hb : Nat} {C B : Array Value} {wr : World} (h : M2 w hb C B wr) (i : Nat) (v : Value) : M2 w hb (C.setIfInBounds i v) B (wr.drew.setCell ⟨hb, i, none⟩ v) :=
  ⟨row_set (w := wr.drew) h.h i v, row_far (w := wr.drew) h.bv hb (by have := h.lt; omega) i v, gb_set (b := wr.drew) ⟨h.g.os, h.g.tape, h.g.output, h.g.size, h.g.block⟩ i v, h.lt⟩
def some8 (v s : V) (k : Nat) : List Int := (v.add s).list.take k ++ s.list.drop k
theorem some8_length (v s : V) (k : Nat) (hk : k ≤ 8) : (some8 v s k).length = 8 := by
  unfold some8; rw [List.length_append, List.length_take, List.length_drop, list_length, list_length]; omega
theorem some8_at (v s : V) (k : Nat) (hk : k < 8) : (some8 v s k).getD k 0 = s.list.getD k 0 ∧ (some8 v s k).set k (IntKind.u32.wrap (s.list.getD k 0 + v.list.getD k 0)) = some8 v s (k + 1) := by
  rw [IntKind.wrap_u32]
  match k, hk with
  | 0, _ => exact ⟨rfl, rfl⟩
  | 1, _ => exact ⟨rfl, rfl⟩
  | 2, _ => exact ⟨rfl, rfl⟩
  | 3, _ => exact ⟨rfl, rfl⟩
  | 4, _ => exact ⟨rfl, rfl⟩
  | 5, _ => exact ⟨rfl, rfl⟩
  | 6, _ => exact ⟨rfl, rfl⟩
  | 7, _ => exact ⟨rfl, rfl⟩
theorem hc_set (s p : List Int) (n : Int) (i : Nat) (x : Int) (h : i < s.length) : (hc s p n).setIfInBounds i (.int .u32 x) = hc (s.set i x) p n := by
  simp [hc, List.map_set, List.set_append, h]
end Sh
theorem mix_.calls (hb : Nat) (s : Sh.V) (p : List Int) (n : Int) (w : World) (hp : p.length = 64) (hby : Sh.Bytes p) (hh : w.heap[hb]? = some (.cells (Sh.hc s.list p n) 178 (0, 0))) (hb0 : hb ≠ 0)
  (hk : ∀ i, i < 64 → w.cell? ⟨0, i, none⟩ = some (.int .u32 (Sh.keys.getD i 0))) :
  Calls Tryz.prog 125 #[.pointer (some ⟨hb, 0, none⟩)] w fun e w' => e = .returned (.tuple #[]) ∧ w'.heap[hb]? = some (.cells (Sh.hc (Sh.comp s p).list p n) 178 (0, 0)) ∧ w.grownBy w' (some hb) := by
 have HH := az hh
 have HK := az hk
 have hlt : hb < w.heap.size := (Array.getElem?_eq_some_iff.1 hh).1
 clear hh hk
 have c0 : w.cell? ⟨hb, 0, none⟩ = some (.int .u32 s.a) := Sh.cellAt HH.out 0 _ (Sh.hc_sum s.list p n 0 (by rw [Sh.list_length]; decide))
 have c1 : w.cell? ⟨hb, 1, none⟩ = some (.int .u32 s.b) := Sh.cellAt HH.out 1 _ (Sh.hc_sum s.list p n 1 (by rw [Sh.list_length]; decide))
 have c2 : w.cell? ⟨hb, 2, none⟩ = some (.int .u32 s.c) := Sh.cellAt HH.out 2 _ (Sh.hc_sum s.list p n 2 (by rw [Sh.list_length]; decide))
 have c3 : w.cell? ⟨hb, 3, none⟩ = some (.int .u32 s.d) := Sh.cellAt HH.out 3 _ (Sh.hc_sum s.list p n 3 (by rw [Sh.list_length]; decide))
 have c4 : w.cell? ⟨hb, 4, none⟩ = some (.int .u32 s.e) := Sh.cellAt HH.out 4 _ (Sh.hc_sum s.list p n 4 (by rw [Sh.list_length]; decide))
 have c5 : w.cell? ⟨hb, 5, none⟩ = some (.int .u32 s.f) := Sh.cellAt HH.out 5 _ (Sh.hc_sum s.list p n 5 (by rw [Sh.list_length]; decide))
 have c6 : w.cell? ⟨hb, 6, none⟩ = some (.int .u32 s.g) := Sh.cellAt HH.out 6 _ (Sh.hc_sum s.list p n 6 (by rw [Sh.list_length]; decide))
 have c7 : w.cell? ⟨hb, 7, none⟩ = some (.int .u32 s.h) := Sh.cellAt HH.out 7 _ (Sh.hc_sum s.list p n 7 (by rw [Sh.list_length]; decide))
 go_enter Tryz.func125, Tryz.ntmps125
 go_wp2_with fail
 clear c0 c1 c2 c3 c4 c5 c6 c7
 go_loopw [16] (fun v16 wr => ∃ (t : Nat) (ws : List Int), v16 = .int .i64 t ∧ t ≤ 64 ∧ Aside0 (Sh.Mx w hb (Sh.hc s.list p n) p t (Sh.u32s (Sh.rounds (Sh.words p 64) s t).list) ws wr)) (fun i _ => 64 - (intOf i).toNat)
 case atStart =>
  refine ⟨0, List.replicate 64 0, rfl, by omega, ⟨?_⟩⟩
  refine ⟨?_, ?_, ?_, ?_, ?_, rfl, rfl, hlt, hb0⟩
  ·exact (Below.heap_alloc _ _ _ (by show hb < (w.heap.push _).size; simp; omega)).trans ((Below.heap_alloc _ _ _ hlt).trans HH.out)
  ·refine (Below.heap_alloc _ _ _ (by show w.heap.size < (w.heap.push _).size; simp)).trans ?_
   exact heap_alloc_new _ _
  ·have := heap_alloc_new (w.alloc (.cells (Sh.u32s (List.replicate 64 0)) 180)) (.cells (Sh.u32s s.list) 176)
   have e : (w.alloc (.cells (Sh.u32s (List.replicate 64 0)) 180)).heap.size = w.heap.size + 1 := by show (w.heap.push _).size = _; simp
   rw [e] at this
   exact this
  ·intro i hi
   exact (((below_alloc (below_alloc (Below.refl _ _) _) _).cell (World.block_lt_of_cell? w _ (HK.out i hi)))).trans (HK.out i hi)
  ·exact below_alloc (below_alloc (Below.refl _ _) _) _
 case round =>
  obtain ⟨t, ws, rfl, ht, HM⟩ := hrel
  by_cases hlt : t < 64
  ·by_cases h16 : t < 16
   ·have hs := Sh.slice_rest hb 8 .i64 (4 * (t : Int)) (4 * t) (by omega) (by omega)
    have hlen : (p.drop (4 * t)).length = 64 - 4 * t := by rw [List.length_drop, hp]
    have HC := az (Sh.reads_at (o := 8 + 4 * t) HM.out.h .u8 (p.drop (4 * t)) (fun j hj => by rw [hlen] at hj; rw [Nat.add_assoc, Sh.hc_rest' _ _ _ _ rfl (by omega)]; simp [List.getD_eq_getElem?_getD]) (by omega))
    have HF := PBase.sha_four.calls (some ⟨hb, 8 + 4 * t, none⟩) (64 - 4 * t) (p.drop (4 * t)) (Sh.four p t) wr HC.out (by omega) (Sh.four_is p t hp h16 hby)
    rw [hlen] at HF
    have HF' := az HF
    clear HF HC
    have ct : wr.cell? ⟨w.heap.size, t, none⟩ = some (.int .u32 (ws.getD t 0)) := Sh.cellAt HM.out.bw _ _ (Sh.u32s_at _ _ (by rw [HM.out.len]; omega))
    have cf : wr.frozen? ⟨w.heap.size, t, none⟩ = false := Sh.frozenAt HM.out.bw t
    go_wp2_with fail
    refine HF'.out.mono ?_
    rintro e w1 ⟨rfl, hd⟩
    obtain ⟨m, rfl⟩ := hd.out
    clear hd HF'
    have HM2 := az (Sh.Mx.word (HM.out.drewN m) hlt (Sh.four p t) (by rw [if_pos h16]))
    go_wp2_with fail
    generalize Sh.four p t = x at *
    generalize (wr.drewN m).setCell ⟨w.heap.size, t, none⟩ (.int .u32 x) = W at *
    clear ct cf hs
    obtain ⟨v, HV⟩ : ∃ v, Aside0 (Sh.rounds (Sh.words p 64) s t = v) := ⟨_, ⟨rfl⟩⟩
    obtain ⟨kx, HKX⟩ : ∃ k, Aside0 (Sh.keys.getD t 0 = k) := ⟨_, ⟨rfl⟩⟩
    have b0 : W.cell? ⟨w.heap.size + 1, 0, none⟩ = some (.int .u32 v.a) := Sh.cellAt HM2.out.bv 0 _ (by rw [HV.out]; rfl)
    have b1 : W.cell? ⟨w.heap.size + 1, 1, none⟩ = some (.int .u32 v.b) := Sh.cellAt HM2.out.bv 1 _ (by rw [HV.out]; rfl)
    have b2 : W.cell? ⟨w.heap.size + 1, 2, none⟩ = some (.int .u32 v.c) := Sh.cellAt HM2.out.bv 2 _ (by rw [HV.out]; rfl)
    have b3 : W.cell? ⟨w.heap.size + 1, 3, none⟩ = some (.int .u32 v.d) := Sh.cellAt HM2.out.bv 3 _ (by rw [HV.out]; rfl)
    have b4 : W.cell? ⟨w.heap.size + 1, 4, none⟩ = some (.int .u32 v.e) := Sh.cellAt HM2.out.bv 4 _ (by rw [HV.out]; rfl)
    have b5 : W.cell? ⟨w.heap.size + 1, 5, none⟩ = some (.int .u32 v.f) := Sh.cellAt HM2.out.bv 5 _ (by rw [HV.out]; rfl)
    have b6 : W.cell? ⟨w.heap.size + 1, 6, none⟩ = some (.int .u32 v.g) := Sh.cellAt HM2.out.bv 6 _ (by rw [HV.out]; rfl)
    have b7 : W.cell? ⟨w.heap.size + 1, 7, none⟩ = some (.int .u32 v.h) := Sh.cellAt HM2.out.bv 7 _ (by rw [HV.out]; rfl)
    have f0 : W.frozen? ⟨w.heap.size + 1, 0, none⟩ = false := Sh.frozenAt HM2.out.bv 0
    have f1 : W.frozen? ⟨w.heap.size + 1, 1, none⟩ = false := Sh.frozenAt HM2.out.bv 1
    have f2 : W.frozen? ⟨w.heap.size + 1, 2, none⟩ = false := Sh.frozenAt HM2.out.bv 2
    have f3 : W.frozen? ⟨w.heap.size + 1, 3, none⟩ = false := Sh.frozenAt HM2.out.bv 3
    have f4 : W.frozen? ⟨w.heap.size + 1, 4, none⟩ = false := Sh.frozenAt HM2.out.bv 4
    have f5 : W.frozen? ⟨w.heap.size + 1, 5, none⟩ = false := Sh.frozenAt HM2.out.bv 5
    have f6 : W.frozen? ⟨w.heap.size + 1, 6, none⟩ = false := Sh.frozenAt HM2.out.bv 6
    have f7 : W.frozen? ⟨w.heap.size + 1, 7, none⟩ = false := Sh.frozenAt HM2.out.bv 7
    have bk : W.cell? ⟨0, t, none⟩ = some (.int .u32 kx) := by rw [← HKX.out]; exact HM2.out.ks t hlt
    have bx : W.cell? ⟨w.heap.size, t, none⟩ = some (.int .u32 x) := Sh.cellAt HM2.out.bw t _ (Sh.u32s_here ws t x (by rw [HM2.out.len]; exact hlt))
    go_wp2_with fail
    go_quiet (fail)
    go_wp2_with fail
    go_quiet (first | exact Sh.quiet_then (sha_ror.quiet _ _ _ _ (Sh.ror_6 _)) | exact Sh.quiet_then (sha_ror.quiet _ _ _ _ (Sh.ror_11 _)) | exact Sh.quiet_then (sha_ror.quiet _ _ _ _ (Sh.ror_25 _)))
    go_wp2_with fail
    go_quiet (first | exact Sh.quiet_then (sha_ror.quiet _ _ _ _ (Sh.ror_2 _)) | exact Sh.quiet_then (sha_ror.quiet _ _ _ _ (Sh.ror_13 _)) | exact Sh.quiet_then (sha_ror.quiet _ _ _ _ (Sh.ror_22 _)))
    go_wp2_with fail
    refine ⟨⟨t + 1, ws.set t x, rfl, by omega, ⟨?_⟩⟩, by simp [intOf]; omega⟩
    refine Sh.Mx.vec (s := s) (v := v) (HV.out ▸ HM2.out.drewN _) HV.out hlt kx x _ _ HKX.out ?_ ?_ ?_
    ·exact Sh.getD_set_here ws t x (by rw [HM2.out.len]; exact hlt)
    ·simp only [Sh.V.rnd, Sh.V.x, Sh.V.y, Sh.m32, Sh.big1, Sh.big0, Sh.ch, Sh.maj, Int.emod_add_emod, Int.add_emod_emod]
    ·simp only [Sh.V.rnd, Sh.V.x, Sh.V.y, Sh.m32, Sh.big1, Sh.big0, Sh.ch, Sh.maj, Int.emod_add_emod, Int.add_emod_emod]
   ·obtain ⟨a15, A15⟩ : ∃ a, Aside0 (a = t - 15) := ⟨_, ⟨rfl⟩⟩
    obtain ⟨a2, A2⟩ : ∃ a, Aside0 (a = t - 2) := ⟨_, ⟨rfl⟩⟩
    obtain ⟨a16, A16⟩ : ∃ a, Aside0 (a = t - 16) := ⟨_, ⟨rfl⟩⟩
    obtain ⟨a7, A7⟩ : ∃ a, Aside0 (a = t - 7) := ⟨_, ⟨rfl⟩⟩
    have k15 : (a15 : Int) < 64 := by have := A15.out; omega
    have k2 : (a2 : Int) < 64 := by have := A2.out; omega
    have k16 : (a16 : Int) < 64 := by have := A16.out; omega
    have k7 : (a7 : Int) < 64 := by have := A7.out; omega
    have i15 : wr.cell? ⟨w.heap.size, a15, none⟩ = some (.int .u32 (ws.getD a15 0)) := Sh.cellAt HM.out.bw _ _ (Sh.u32s_at _ _ (by rw [HM.out.len]; omega))
    have i2 : wr.cell? ⟨w.heap.size, a2, none⟩ = some (.int .u32 (ws.getD a2 0)) := Sh.cellAt HM.out.bw _ _ (Sh.u32s_at _ _ (by rw [HM.out.len]; omega))
    obtain ⟨x15, X15⟩ : ∃ x, Aside0 (ws.getD a15 0 = x) := ⟨_, ⟨rfl⟩⟩
    obtain ⟨x2, X2⟩ : ∃ x, Aside0 (ws.getD a2 0 = x) := ⟨_, ⟨rfl⟩⟩
    rw [X15.out] at i15
    rw [X2.out] at i2
    have w15 : IntKind.i64.wrap ((t : Int) - 15) = a15 := by have := A15.out; rw [IntKind.wrap_i64]; omega
    have w2 : IntKind.i64.wrap ((t : Int) - 2) = a2 := by have := A2.out; rw [IntKind.wrap_i64]; omega
    have w16 : IntKind.i64.wrap ((t : Int) - 16) = a16 := by have := A16.out; rw [IntKind.wrap_i64]; omega
    have w7 : IntKind.i64.wrap ((t : Int) - 7) = a7 := by have := A7.out; rw [IntKind.wrap_i64]; omega
    go_wp2_with fail
    go_quiet (fail)
    clear i15 i2 w15 w2 k15 k2
    have i16 : wr.cell? ⟨w.heap.size, a16, none⟩ = some (.int .u32 (ws.getD a16 0)) := Sh.cellAt HM.out.bw _ _ (Sh.u32s_at _ _ (by rw [HM.out.len]; omega))
    have i7 : wr.cell? ⟨w.heap.size, a7, none⟩ = some (.int .u32 (ws.getD a7 0)) := Sh.cellAt HM.out.bw _ _ (Sh.u32s_at _ _ (by rw [HM.out.len]; omega))
    obtain ⟨x16, X16⟩ : ∃ x, Aside0 (ws.getD a16 0 = x) := ⟨_, ⟨rfl⟩⟩
    obtain ⟨x7, X7⟩ : ∃ x, Aside0 (ws.getD a7 0 = x) := ⟨_, ⟨rfl⟩⟩
    rw [X16.out] at i16
    rw [X7.out] at i7
    have I16 := az (show (wr.drewN nq).drew.cell? ⟨w.heap.size, a16, none⟩ = some (.int .u32 x16) from i16)
    have I7 := az (show (wr.drewN nq).drew.cell? ⟨w.heap.size, a7, none⟩ = some (.int .u32 x7) from i7)
    clear i16 i7
    have ct : wr.cell? ⟨w.heap.size, t, none⟩ = some (.int .u32 (ws.getD t 0)) := Sh.cellAt HM.out.bw _ _ (Sh.u32s_at _ _ (by rw [HM.out.len]; omega))
    have cf : wr.frozen? ⟨w.heap.size, t, none⟩ = false := Sh.frozenAt HM.out.bw t
    have CT := az ct
    have CF := az cf
    clear ct cf
    go_wp2_with fail
    refine wp_region_noPanic ?_
    refine Rg.s1 30 (fun w' => w'.cell? ⟨w.heap.size, a16, none⟩ = some (.int .u32 x16) ∧ w'.cell? ⟨w.heap.size, a7, none⟩ = some (.int .u32 x7)) [29] (⟨I16.out, I7.out⟩) #[false, false, false, false, false, false, false, false, false, false, false, false, false, false, false, false, false, false, false, false, false, false, false, false, false, false, false, false, false, false] (fun hHeld => ?_)
    refine Rg.p1 0 (.some 38) ?_
    refine Rg.p1 1 (.some 39) ?_
    refine Rg.p1 2 (.some 40) ?_
    refine Rg.p1 3 (.some 41) ?_
    refine Rg.t1 4 (.some 42) hHeld ?_ (hy := by intro w' hS'; (obtain ⟨hS0, _⟩ := hS'; go_simp); first | done | with_reducible rfl)
    refine Rg.p1 5 (.some 43) ?_
    refine Rg.p1 7 (.some 45) ?_
    refine Rg.p1 10 (.some 48) ?_
    refine Rg.p1 11 (.some 49) ?_
    refine Rg.p1 14 (.some 52) ?_
    refine Rg.p1 15 (.some 53) ?_
    refine Rg.p1 16 (.some 54) ?_
    refine Rg.t1 17 (.some 55) hHeld ?_ (hy := by intro w' hS'; (obtain ⟨_, hS1⟩ := hS'; go_simp); first | done | with_reducible rfl)
    refine Rg.p1 19 (.some 57) ?_
    refine Rg.p1 21 (.some 59) ?_
    refine Rg.p1 24 (.some 62) ?_
    refine Rg.p1 25 (.some 63) ?_
    refine Rg.o1 6 (.some 44) (fun K hK => ?_)
    refine call_ 128 #[.int .u32 x15, .int .i64 7] (by rfl) rfl (by go_simp) ?_
    refine (sha_ror.quiet x15 7 _ _ (Sh.ror_7 _)).mono ?_
    rintro e w' ⟨rfl, m6, rfl⟩
    refine ⟨_, rfl, ?_⟩
    refine hK.out _ _ hHeld (fun hHeld => ?_)
    clear hK K
    refine Rg.n1 ?_
    refine Rg.o1 8 (.some 46) (fun K hK => ?_)
    refine call_ 128 #[.int .u32 x15, .int .i64 18] (by rfl) rfl (by go_simp) ?_
    refine (sha_ror.quiet x15 18 _ _ (Sh.ror_18 _)).mono ?_
    rintro e w' ⟨rfl, m8, rfl⟩
    refine ⟨_, rfl, ?_⟩
    refine hK.out _ _ hHeld (fun hHeld => ?_)
    clear hK K
    refine Rg.n1 ?_
    refine Rg.p1 9 (.some 47) ?_
    refine Rg.p1 12 (.some 50) ?_
    refine Rg.p1 13 (.some 51) ?_
    refine Rg.p1 18 (.some 56) ?_
    refine Rg.o1 20 (.some 58) (fun K hK => ?_)
    refine call_ 128 #[.int .u32 x2, .int .i64 17] (by rfl) rfl (by go_simp) ?_
    refine (sha_ror.quiet x2 17 _ _ (Sh.ror_17 _)).mono ?_
    rintro e w' ⟨rfl, m20, rfl⟩
    refine ⟨_, rfl, ?_⟩
    refine hK.out _ _ hHeld (fun hHeld => ?_)
    clear hK K
    refine Rg.n1 ?_
    refine Rg.o1 22 (.some 60) (fun K hK => ?_)
    refine call_ 128 #[.int .u32 x2, .int .i64 19] (by rfl) rfl (by go_simp) ?_
    refine (sha_ror.quiet x2 19 _ _ (Sh.ror_19 _)).mono ?_
    rintro e w' ⟨rfl, m22, rfl⟩
    refine ⟨_, rfl, ?_⟩
    refine hK.out _ _ hHeld (fun hHeld => ?_)
    clear hK K
    refine Rg.n1 ?_
    refine Rg.p1 23 (.some 61) ?_
    refine Rg.p1 26 (.some 64) ?_
    refine Rg.p1 27 (.some 65) ?_
    refine Rg.p1 28 (.some 66) ?_
    refine Rg.l1 29 none (fun K hK => ?_)
    have ct := CT.out
    have cf := CF.out
    refine skip_ (w1 := (((((wr.drewN nq).drew.drewN m6).drewN m8).drewN m20).drewN m22).setCell ⟨w.heap.size, t, none⟩ (.int .u32 (IntKind.u32.wrap (IntKind.u32.wrap (IntKind.u32.wrap (x16 + bits .xor .u32 (bits .xor .u32 (Sh.rot x15 7) (Sh.rot x15 18)) (x15 / 8)) + x7) + bits .xor .u32 (bits .xor .u32 (Sh.rot x2 17) (Sh.rot x2 19)) (x2 / 1024))))) (by rfl) rfl (by go_simp) ?_
    clear ct cf
    refine hK.out _ _ ?_
    clear hK K
    refine Rg.d1 ?_
    have HM2 := az (Sh.Mx.word (((((HM.out.drewN nq).drew.drewN m6).drewN m8).drewN m20).drewN m22) hlt (IntKind.u32.wrap (IntKind.u32.wrap (IntKind.u32.wrap (x16 + bits .xor .u32 (bits .xor .u32 (Sh.rot x15 7) (Sh.rot x15 18)) (x15 / 8)) + x7) + bits .xor .u32 (bits .xor .u32 (Sh.rot x2 17) (Sh.rot x2 19)) (x2 / 1024))) (by
     rw [if_neg h16]
     have hw : ∀ a, a < t → (Sh.words p t).getD a 0 = ws.getD a 0 := by
      intro a ha
      rw [← HM.out.wt, List.getD_eq_getElem?_getD, List.getD_eq_getElem?_getD, List.getElem?_take, if_pos ha]
     have := A15.out
     have := A2.out
     have := A16.out
     have := A7.out
     unfold Sh.next
     rw [hw _ (by omega), hw _ (by omega), hw _ (by omega), hw _ (by omega), ← A15.out, ← A2.out, ← A16.out, ← A7.out, X15.out, X2.out, X16.out, X7.out]
     simp only [IntKind.wrap_u32, Sh.m32, Sh.s0, Sh.s1]))
    generalize IntKind.u32.wrap (IntKind.u32.wrap (IntKind.u32.wrap (x16 + bits .xor .u32 (bits .xor .u32 (Sh.rot x15 7) (Sh.rot x15 18)) (x15 / 8)) + x7) + bits .xor .u32 (bits .xor .u32 (Sh.rot x2 17) (Sh.rot x2 19)) (x2 / 1024)) = x at *
    generalize (((((wr.drewN nq).drew.drewN m6).drewN m8).drewN m20).drewN m22).setCell ⟨w.heap.size, t, none⟩ (.int .u32 x) = W at *
    clear CT CF I16 I7 A15 A2 A16 A7 X15 X2 X16 X7 w16 w7 k16 k7 hHeld
    refine NoPanic.normal ?_
    obtain ⟨v, HV⟩ : ∃ v, Aside0 (Sh.rounds (Sh.words p 64) s t = v) := ⟨_, ⟨rfl⟩⟩
    obtain ⟨kx, HKX⟩ : ∃ k, Aside0 (Sh.keys.getD t 0 = k) := ⟨_, ⟨rfl⟩⟩
    have b0 : W.cell? ⟨w.heap.size + 1, 0, none⟩ = some (.int .u32 v.a) := Sh.cellAt HM2.out.bv 0 _ (by rw [HV.out]; rfl)
    have b1 : W.cell? ⟨w.heap.size + 1, 1, none⟩ = some (.int .u32 v.b) := Sh.cellAt HM2.out.bv 1 _ (by rw [HV.out]; rfl)
    have b2 : W.cell? ⟨w.heap.size + 1, 2, none⟩ = some (.int .u32 v.c) := Sh.cellAt HM2.out.bv 2 _ (by rw [HV.out]; rfl)
    have b3 : W.cell? ⟨w.heap.size + 1, 3, none⟩ = some (.int .u32 v.d) := Sh.cellAt HM2.out.bv 3 _ (by rw [HV.out]; rfl)
    have b4 : W.cell? ⟨w.heap.size + 1, 4, none⟩ = some (.int .u32 v.e) := Sh.cellAt HM2.out.bv 4 _ (by rw [HV.out]; rfl)
    have b5 : W.cell? ⟨w.heap.size + 1, 5, none⟩ = some (.int .u32 v.f) := Sh.cellAt HM2.out.bv 5 _ (by rw [HV.out]; rfl)
    have b6 : W.cell? ⟨w.heap.size + 1, 6, none⟩ = some (.int .u32 v.g) := Sh.cellAt HM2.out.bv 6 _ (by rw [HV.out]; rfl)
    have b7 : W.cell? ⟨w.heap.size + 1, 7, none⟩ = some (.int .u32 v.h) := Sh.cellAt HM2.out.bv 7 _ (by rw [HV.out]; rfl)
    have f0 : W.frozen? ⟨w.heap.size + 1, 0, none⟩ = false := Sh.frozenAt HM2.out.bv 0
    have f1 : W.frozen? ⟨w.heap.size + 1, 1, none⟩ = false := Sh.frozenAt HM2.out.bv 1
    have f2 : W.frozen? ⟨w.heap.size + 1, 2, none⟩ = false := Sh.frozenAt HM2.out.bv 2
    have f3 : W.frozen? ⟨w.heap.size + 1, 3, none⟩ = false := Sh.frozenAt HM2.out.bv 3
    have f4 : W.frozen? ⟨w.heap.size + 1, 4, none⟩ = false := Sh.frozenAt HM2.out.bv 4
    have f5 : W.frozen? ⟨w.heap.size + 1, 5, none⟩ = false := Sh.frozenAt HM2.out.bv 5
    have f6 : W.frozen? ⟨w.heap.size + 1, 6, none⟩ = false := Sh.frozenAt HM2.out.bv 6
    have f7 : W.frozen? ⟨w.heap.size + 1, 7, none⟩ = false := Sh.frozenAt HM2.out.bv 7
    have bk : W.cell? ⟨0, t, none⟩ = some (.int .u32 kx) := by rw [← HKX.out]; exact HM2.out.ks t hlt
    have bx : W.cell? ⟨w.heap.size, t, none⟩ = some (.int .u32 x) := Sh.cellAt HM2.out.bw t _ (Sh.u32s_here ws t x (by rw [HM2.out.len]; exact hlt))
    go_wp2_with fail
    go_quiet (fail)
    go_wp2_with fail
    go_quiet (first | exact Sh.quiet_then (sha_ror.quiet _ _ _ _ (Sh.ror_6 _)) | exact Sh.quiet_then (sha_ror.quiet _ _ _ _ (Sh.ror_11 _)) | exact Sh.quiet_then (sha_ror.quiet _ _ _ _ (Sh.ror_25 _)))
    go_wp2_with fail
    go_quiet (first | exact Sh.quiet_then (sha_ror.quiet _ _ _ _ (Sh.ror_2 _)) | exact Sh.quiet_then (sha_ror.quiet _ _ _ _ (Sh.ror_13 _)) | exact Sh.quiet_then (sha_ror.quiet _ _ _ _ (Sh.ror_22 _)))
    go_wp2_with fail
    refine ⟨⟨t + 1, ws.set t x, rfl, by omega, ⟨?_⟩⟩, by simp [intOf]; omega⟩
    refine Sh.Mx.vec (s := s) (v := v) (HV.out ▸ HM2.out.drewN _) HV.out hlt kx x _ _ HKX.out ?_ ?_ ?_
    ·exact Sh.getD_set_here ws t x (by rw [HM2.out.len]; exact hlt)
    ·simp only [Sh.V.rnd, Sh.V.x, Sh.V.y, Sh.m32, Sh.big1, Sh.big0, Sh.ch, Sh.maj, Int.emod_add_emod, Int.add_emod_emod]
    ·simp only [Sh.V.rnd, Sh.V.x, Sh.V.y, Sh.m32, Sh.big1, Sh.big0, Sh.ch, Sh.maj, Int.emod_add_emod, Int.add_emod_emod]
  ·obtain rfl : t = 64 := by omega
   obtain ⟨v, HV⟩ : ∃ v, Aside0 (Sh.rounds (Sh.words p 64) s 64 = v) := ⟨_, ⟨rfl⟩⟩
   have HM1 : Aside0 (Sh.M2 w hb (Sh.hc (Sh.some8 v s 0) p n) (Sh.u32s v.list) wr) := ⟨⟨HM.out.h, by rw [← HV.out]; exact HM.out.bv, Sh.gb_of_below HM.out.g, HM.out.lt⟩⟩
   have HCO : Aside0 (Sh.comp s p = v.add s) := ⟨by rw [Sh.comp, HV.out]⟩
   clear HM HV ht hlt HH HK
   go_wp2_with fail
   go_loopw [143] (fun v143 wr => ∃ k : Nat, v143 = .int .i64 k ∧ k ≤ 8 ∧ Aside0 (Sh.M2 w hb (Sh.hc (Sh.some8 v s k) p n) (Sh.u32s v.list) wr)) (fun i _ => 8 - (intOf i).toNat)
   case atStart => exact ⟨0, rfl, by omega, HM1⟩
   case round =>
    clear HM1
    obtain ⟨k, rfl, hk, HM⟩ := hrel
    by_cases hlt : k < 8
    ·have hl8 := Sh.some8_length v s k hk
     obtain ⟨e1, e2⟩ := Sh.some8_at v s k hlt
     have I1 : Aside0 (wr.drew.cell? ⟨hb, k, none⟩ = some (.int .u32 (s.list.getD k 0))) := ⟨by rw [← e1]; exact Sh.cellAt (w := wr.drew) HM.out.h k _ (Sh.hc_sum _ _ _ _ (by rw [hl8]; exact hlt))⟩
     have I2 : Aside0 (wr.drew.cell? ⟨w.heap.size + 1, k, none⟩ = some (.int .u32 (v.list.getD k 0))) := ⟨Sh.cellAt (w := wr.drew) HM.out.bv k _ (Sh.u32s_at _ _ (by rw [Sh.list_length]; exact hlt))⟩
     have CF : Aside0 (wr.drew.frozen? ⟨hb, k, none⟩ = false) := ⟨Sh.frozenAt (w := wr.drew) HM.out.h k⟩
     have E2 := az e2
     clear e1 e2 hl8
     generalize s.list.getD k 0 = y at *
     generalize v.list.getD k 0 = z at *
     go_wp2_with fail
     refine wp_region_noPanic ?_
     refine Rg.s1 14 (fun w' => w'.cell? ⟨hb, k, none⟩ = some (.int .u32 y) ∧ w'.cell? ⟨w.heap.size + 1, k, none⟩ = some (.int .u32 z)) [13] (⟨I1.out, I2.out⟩) #[false, false, false, false, false, false, false, false, false, false, false, false, false, false] (fun hHeld => ?_)
     refine Rg.p1 0 (.some 146) ?_
     refine Rg.p1 1 (.some 147) ?_
     refine Rg.p1 2 (.some 148) ?_
     refine Rg.p1 3 (.some 149) ?_
     refine Rg.p1 4 (.some 150) ?_
     refine Rg.t1 5 (.some 151) hHeld ?_ (hy := by intro w' hS'; (obtain ⟨hS0, _⟩ := hS'; go_simp); first | done | with_reducible rfl)
     refine Rg.p1 6 (.some 152) ?_
     refine Rg.p1 7 (.some 153) ?_
     refine Rg.t1 8 (.some 154) hHeld ?_ (hy := by intro w' hS'; (obtain ⟨_, hS1⟩ := hS'; go_simp); first | done | with_reducible rfl)
     refine Rg.p1 9 (.some 155) ?_
     refine Rg.p1 10 (.some 156) ?_
     refine Rg.p1 11 (.some 157) ?_
     refine Rg.p1 12 (.some 158) ?_
     refine Rg.l1 13 none (fun K hK => ?_)
     have ct := I1.out
     have cf := CF.out
     refine skip_ (w1 := wr.drew.setCell ⟨hb, k, none⟩ (.int .u32 (IntKind.u32.wrap (y + z)))) (by rfl) rfl (by go_simp) ?_
     clear ct cf
     refine hK.out _ _ ?_
     clear hK K
     refine Rg.d1 ?_
     have HM2 : Aside0 (Sh.M2 w hb (Sh.hc (Sh.some8 v s (k + 1)) p n) (Sh.u32s v.list) (wr.drew.setCell ⟨hb, k, none⟩ (.int .u32 (IntKind.u32.wrap (y + z))))) := ⟨by
      have := HM.out.set k (.int .u32 (IntKind.u32.wrap (y + z)))
      rw [Sh.hc_set _ _ _ _ _ (by rw [Sh.some8_length v s k hk]; exact hlt), E2.out] at this
      exact this⟩
     clear HM I1 I2 CF E2 hHeld
     refine NoPanic.normal ?_
     go_wp2_with fail
     exact ⟨⟨k + 1, by go_num, by omega, HM2⟩, by simp [intOf]; omega⟩
    ·obtain rfl : k = 8 := by omega
     go_wp2_with fail
     refine ⟨rfl, .tuple #[], by simp [results, Tryz.results125, go_sem], rfl, ?_, HM.out.g⟩
     rw [HCO.out]
     exact HM.out.h
end Go.Proofs.YtgljicdpcapgnaaGreatDoor
