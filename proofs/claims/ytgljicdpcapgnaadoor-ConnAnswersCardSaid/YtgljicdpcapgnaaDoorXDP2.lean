/- What the law's proof stands on, part 2: Bits, SpellW, SpellMath, Clone, WireN, WireT, Lit, WireK, WireP, PBasex0, PBasex1, PBasex3, PBasex4 (laid together by wip/pack.py). -/
import Derived.Test.YtgljicdpcapgnaaDoorProg
import Derived.Test.YtgljicdpcapgnaaDoorXDP1
import Derived.Outline
import Derived.WalkSpells
import Derived.Laws.EntriesVeiled
import Derived.WalkLawsBesides
import Derived.Recover
import Derived.Deep.DeepFit
import Derived.Lib.Slices
namespace Go.Proofs.YtgljicdpcapgnaaDoor.Bt
theorem wraps_u64 (n : Int) (h0 : 0 ≤ n) (h1 : n < 2 ^ 64) : IntKind.u64.wrap n = n := by
  have e : IntKind.u64.wrap n = n % 18446744073709551616 := by simp [IntKind.wrap, IntKind.bits, IntKind.signed]
  rw [e]; omega
theorem wraps_u32 (n : Int) (h0 : 0 ≤ n) (h1 : n < 2 ^ 32) : IntKind.u32.wrap n = n := by rw [IntKind.wrap_u32]; omega
theorem or_u64 (i : Nat) (x y : Int) (h0 : 0 ≤ x) (hx : x % 2 ^ i = 0) (h1 : x < 2 ^ 64) (h2 : 0 ≤ y) (h3 : y < 2 ^ i) (h4 : y < 2 ^ 64) : bits .or .u64 x y = x + y :=
  bits_join .u64 64 (by decide) wraps_u64 i x y h0 hx h1 h2 h3 h4
theorem or_u32 (i : Nat) (x y : Int) (h0 : 0 ≤ x) (hx : x % 2 ^ i = 0) (h1 : x < 2 ^ 32) (h2 : 0 ≤ y) (h3 : y < 2 ^ i) (h4 : y < 2 ^ 32) : bits .or .u32 x y = x + y :=
  bits_join .u32 32 (by decide) wraps_u32 i x y h0 hx h1 h2 h3 h4
theorem mask_u64 (i : Nat) (hi : i ≤ 64) (x : Int) (h0 : 0 ≤ x) (h1 : x < 2 ^ 64) : bits .and .u64 x (2 ^ i - 1) = x % 2 ^ i :=
  bits_mask .u64 64 (by decide) wraps_u64 i hi x h0 h1
theorem or_256 (h x : Int) (h0 : 0 ≤ h) (h1 : h < 72057594037927936) (h2 : 0 ≤ x) (h3 : x ≤ 255) : bits .or .u64 (h * 256) x = h * 256 + x :=
  or_u64 8 _ _ (by omega) (by omega) (by omega) h2 (by omega) (by omega)
theorem low_u64 (n : Int) (h0 : 0 ≤ n) (h1 : n < 64) : IntKind.u64.wrap (IntKind.u64.wrap (2 ^ n.toNat) - 1) = 2 ^ n.toNat - 1 := by
  obtain ⟨m, rfl⟩ := Int.eq_ofNat_of_zero_le h0
  have hm : m < 64 := by omega
  have h2 : (2 : Int) ^ m < 2 ^ 64 := by exact_mod_cast Nat.pow_lt_pow_right (by decide : 1 < 2) hm
  have h3 : (0 : Int) < 2 ^ m := Int.pow_pos (by decide)
  rw [Int.toNat_natCast, wraps_u64 _ (by omega) h2, wraps_u64 _ (by omega) (by omega)]
theorem mask_low (h n : Int) (h0 : 0 ≤ h) (h1 : h < 2 ^ 64) (n0 : 0 ≤ n) (n1 : n < 64) : bits .and .u64 h (IntKind.u64.wrap (IntKind.u64.wrap (2 ^ n.toNat) - 1)) = h % 2 ^ n.toNat := by
  rw [low_u64 n n0 n1]
  exact mask_u64 n.toNat (by omega) h h0 h1
end Go.Proofs.YtgljicdpcapgnaaDoor.Bt
set_option linter.unusedVariables false
set_option linter.unusedSimpArgs false
namespace Go.Proofs.YtgljicdpcapgnaaDoor
open Go.RowKit Go.Proofs.YtgljicdpcapgnaaDoorW.PrintWords
def sgs : List UInt8 := [97, 98, 99, 100, 101, 102, 103, 104, 105, 106, 107, 108, 109, 110, 111, 112, 113, 114, 115, 116, 117, 118, 119, 120, 121, 122, 50, 51, 52, 53, 54, 55]
def sg (i : Int) : UInt8 := sgs.getD i.toNat 0
end Go.Proofs.YtgljicdpcapgnaaDoor
set_option linter.unusedVariables false
set_option linter.unusedSimpArgs false
namespace Go.Proofs.YtgljicdpcapgnaaDoor.Sp
open Go.RowKit
def bits8 (x : Int) : List Int := [x / 128 % 2, x / 64 % 2, x / 32 % 2, x / 16 % 2, x / 8 % 2, x / 4 % 2, x / 2 % 2, x % 2]
def bits5 (x : Int) : List Int := [x / 16 % 2, x / 8 % 2, x / 4 % 2, x / 2 % 2, x % 2]
def bitsOf (l : List Int) : List Int := l.flatMap bits8
def enc : List Int → List UInt8
  | [] => []
  | [a] => [sg (16 * a)]
  | [a, b] => [sg (16 * a + 8 * b)]
  | [a, b, c] => [sg (16 * a + 8 * b + 4 * c)]
  | [a, b, c, d] => [sg (16 * a + 8 * b + 4 * c + 2 * d)]
  | a :: b :: c :: d :: e :: r => sg (16 * a + 8 * b + 4 * c + 2 * d + e) :: enc r
def val (l : List Int) : Int := l.foldl (fun h b => 2 * h + b) 0
def Bits (l : List Int) : Prop := ∀ b ∈ l, 0 ≤ b ∧ b ≤ 1
def Bytes (l : List Int) : Prop := ∀ x ∈ l, 0 ≤ x ∧ x ≤ 255
theorem Bits8 (x : Int) : Bits (bits8 x) := by
  intro b hb
  simp only [bits8, List.mem_cons, List.not_mem_nil, or_false] at hb
  omega
theorem Bits5 (x : Int) : Bits (bits5 x) := by
  intro b hb
  simp only [bits5, List.mem_cons, List.not_mem_nil, or_false] at hb
  omega
theorem Bits.append {a b : List Int} (ha : Bits a) (hb : Bits b) : Bits (a ++ b) := fun x hx => (List.mem_append.1 hx).elim (ha x) (hb x)
theorem Bits.left {a b : List Int} (h : Bits (a ++ b)) : Bits a := fun x hx => h x (List.mem_append_left _ hx)
theorem Bits.right {a b : List Int} (h : Bits (a ++ b)) : Bits b := fun x hx => h x (List.mem_append_right _ hx)
theorem Bits.head {a : Int} {l : List Int} (h : Bits (a :: l)) : 0 ≤ a ∧ a ≤ 1 := h a List.mem_cons_self
theorem Bits.tail {a : Int} {l : List Int} (h : Bits (a :: l)) : Bits l := fun x hx => h x (List.mem_cons_of_mem _ hx)
theorem Bytes.head {a : Int} {l : List Int} (h : Bytes (a :: l)) : 0 ≤ a ∧ a ≤ 255 := h a List.mem_cons_self
theorem Bytes.tail {a : Int} {l : List Int} (h : Bytes (a :: l)) : Bytes l := fun x hx => h x (List.mem_cons_of_mem _ hx)
theorem bitsOf_cons (x : Int) (l : List Int) : bitsOf (x :: l) = bits8 x ++ bitsOf l := by simp [bitsOf]
theorem bitsOf_append (a b : List Int) : bitsOf (a ++ b) = bitsOf a ++ bitsOf b := by simp [bitsOf]
theorem bitsOf_length (l : List Int) : (bitsOf l).length = 8 * l.length := by
  induction l with
  | nil => rfl
  | cons x l ih => rw [bitsOf_cons, List.length_append, ih]; simp [bits8]; omega
theorem BitsOf (l : List Int) : Bits (bitsOf l) := by
  induction l with
  | nil => intro b hb; simp [bitsOf] at hb
  | cons x l ih => rw [bitsOf_cons]; exact (Bits8 x).append ih
theorem five {P : List Int → Prop} (h0 : P []) (h1 : ∀ a, P [a]) (h2 : ∀ a b, P [a, b]) (h3 : ∀ a b c, P [a, b, c]) (h4 : ∀ a b c d, P [a, b, c, d])
    (h5 : ∀ a b c d e r, P r → P (a :: b :: c :: d :: e :: r)) : ∀ l, P l
  | [] => h0
  | [a] => h1 a
  | [a, b] => h2 a b
  | [a, b, c] => h3 a b c
  | [a, b, c, d] => h4 a b c d
  | a :: b :: c :: d :: e :: r => h5 a b c d e r (five h0 h1 h2 h3 h4 h5 r)
theorem enc_length (B : List Int) : (enc B).length = (B.length + 4) / 5 := by
  refine five (P := fun B => (enc B).length = (B.length + 4) / 5) rfl (fun _ => by simp [enc]) (fun _ _ => by simp [enc]) (fun _ _ _ => by simp [enc]) (fun _ _ _ _ => by simp [enc]) ?_ B
  intro a b c d e r ih
  simp only [enc, List.length_cons, ih]
  omega
theorem sg_inj : ∀ i j : Int, 0 ≤ i → i < 32 → 0 ≤ j → j < 32 → sg i = sg j → i = j := by
  have h : ∀ i j : Fin 32, sg (i.val : Int) = sg (j.val : Int) → i = j := by decide
  intro i j h0 h1 h2 h3 e
  have := h ⟨i.toNat, by omega⟩ ⟨j.toNat, by omega⟩ (by show sg ((i.toNat : Nat) : Int) = sg ((j.toNat : Nat) : Int); rw [Int.toNat_of_nonneg h0, Int.toNat_of_nonneg h2]; exact e)
  have h4 : i.toNat = j.toNat := congrArg Fin.val this
  omega
theorem enc_pad (B : List Int) : ∀ z, z < 5 → (B.length + z) % 5 = 0 → enc (B ++ List.replicate z 0) = enc B := by
  refine five (P := fun B => ∀ z, z < 5 → (B.length + z) % 5 = 0 → enc (B ++ List.replicate z 0) = enc B) ?_ ?_ ?_ ?_ ?_ ?_ B
  · intro z hz h; obtain rfl : z = 0 := by simp at h; omega
    rfl
  · intro a z hz h; obtain rfl : z = 4 := by simp at h; omega
    simp [enc, List.replicate]
  · intro a b z hz h; obtain rfl : z = 3 := by simp at h; omega
    simp [enc, List.replicate]
  · intro a b c z hz h; obtain rfl : z = 2 := by simp at h; omega
    simp [enc, List.replicate]
  · intro a b c d z hz h; obtain rfl : z = 1 := by simp at h; omega
    simp [enc, List.replicate]
  · intro a b c d e r ih z hz h
    simp only [List.cons_append, enc]
    rw [ih z hz (by simp only [List.length_cons] at h; omega)]
theorem val_zero (R : List Int) (h : Bits R) (hv : val R = 0) : R = List.replicate R.length 0 := by
  have key : ∀ (R : List Int) (a : Int), Bits R → 0 ≤ a → R.foldl (fun h b => 2 * h + b) a = 0 → a = 0 ∧ R = List.replicate R.length 0 := by
    intro R
    induction R with
    | nil => intro a _ _ h; exact ⟨h, rfl⟩
    | cons b R ih =>
      intro a hb ha h
      obtain ⟨h1, h2⟩ := ih (2 * a + b) hb.tail (by have := hb.head; omega) h
      have := hb.head
      refine ⟨by omega, ?_⟩
      obtain rfl : b = 0 := by omega
      rw [List.length_cons, List.replicate_succ, ← h2]
  exact (key R 0 h (Int.le_refl _) hv).2
theorem enc_same (B : List Int) : ∀ R, Bits B → Bits R → (B.length + R.length) % 5 = 0 → enc (B ++ R) = enc B → R.length < 5 ∧ val R = 0 := by
  refine five (P := fun B => ∀ R, Bits B → Bits R → (B.length + R.length) % 5 = 0 → enc (B ++ R) = enc B → R.length < 5 ∧ val R = 0) ?_ ?_ ?_ ?_ ?_ ?_ B
  · intro R _ _ _ h
    have h1 := congrArg List.length h
    rw [List.nil_append, enc_length] at h1
    have : R = [] := List.eq_nil_of_length_eq_zero (by simp [enc] at h1; omega)
    subst this
    exact ⟨by simp, rfl⟩
  · intro a R hB hR hl h
    have h1 := congrArg List.length h
    rw [enc_length] at h1
    simp [enc] at h1 hl
    match R, hR, h, (by omega : R.length = 4) with
    | [p, q, r, s], hR, h, _ =>
      have ha := hB.head; have hp := hR.head; have hq := hR.tail.head; have hr := hR.tail.tail.head; have hs := hR.tail.tail.tail.head
      simp only [List.cons_append, List.nil_append, enc, List.cons.injEq, and_true] at h
      have := sg_inj _ _ (by omega) (by omega) (by omega) (by omega) h
      exact ⟨by simp, by simp only [val, List.foldl]; omega⟩
  · intro a b R hB hR hl h
    have h1 := congrArg List.length h
    rw [enc_length] at h1
    simp [enc] at h1 hl
    match R, hR, h, (by omega : R.length = 3) with
    | [q, r, s], hR, h, _ =>
      have ha := hB.head; have hb := hB.tail.head; have hq := hR.head; have hr := hR.tail.head; have hs := hR.tail.tail.head
      simp only [List.cons_append, List.nil_append, enc, List.cons.injEq, and_true] at h
      have := sg_inj _ _ (by omega) (by omega) (by omega) (by omega) h
      exact ⟨by simp, by simp only [val, List.foldl]; omega⟩
  · intro a b c R hB hR hl h
    have h1 := congrArg List.length h
    rw [enc_length] at h1
    simp [enc] at h1 hl
    match R, hR, h, (by omega : R.length = 2) with
    | [r, s], hR, h, _ =>
      have ha := hB.head; have hb := hB.tail.head; have hc := hB.tail.tail.head; have hr := hR.head; have hs := hR.tail.head
      simp only [List.cons_append, List.nil_append, enc, List.cons.injEq, and_true] at h
      have := sg_inj _ _ (by omega) (by omega) (by omega) (by omega) h
      exact ⟨by simp, by simp only [val, List.foldl]; omega⟩
  · intro a b c d R hB hR hl h
    have h1 := congrArg List.length h
    rw [enc_length] at h1
    simp [enc] at h1 hl
    match R, hR, h, (by omega : R.length = 1) with
    | [s], hR, h, _ =>
      have ha := hB.head; have hb := hB.tail.head; have hc := hB.tail.tail.head; have hd := hB.tail.tail.tail.head; have hs := hR.head
      simp only [List.cons_append, List.nil_append, enc, List.cons.injEq, and_true] at h
      have := sg_inj _ _ (by omega) (by omega) (by omega) (by omega) h
      exact ⟨by simp, by simp only [val, List.foldl]; omega⟩
  · intro a b c d e r ih R hB hR hl h
    simp only [List.cons_append, enc, List.cons.injEq, true_and] at h
    exact ih R hB.tail.tail.tail.tail.tail hR (by simp only [List.length_cons] at hl; omega) h
def dg (c : Int) : Option Int := if 97 ≤ c ∧ c ≤ 122 then some (c - 97) else if 50 ≤ c ∧ c ≤ 55 then some (c - 50 + 26) else none
def digits : List Int → Option (List Int)
  | [] => some []
  | c :: cs => (dg c).bind fun d => (digits cs).map (d :: ·)
def take8 : List Int → List Int → List Int → List Int × List Int
  | [], o, R => (o, R)
  | d :: ds, o, R => if 8 ≤ R.length + 5 then take8 ds (o ++ [val ((R ++ bits5 d).take 8)]) ((R ++ bits5 d).drop 8) else take8 ds o (R ++ bits5 d)
theorem dg_range {c d : Int} (h : dg c = some d) : 0 ≤ d ∧ d < 32 := by
  unfold dg at h
  split at h
  · obtain rfl := Option.some.inj h; omega
  · split at h
    · obtain rfl := Option.some.inj h; omega
    · cases h
theorem sg_dg {c d : Int} (h : dg c = some d) : ((sg d).toNat : Int) = c := by
  have h1 : ∀ i : Fin 26, ((sg (i.val : Int)).toNat : Int) = i.val + 97 := by decide
  have h2 : ∀ i : Fin 6, ((sg ((i.val : Int) + 26)).toNat : Int) = i.val + 50 := by decide
  unfold dg at h
  split at h
  · obtain rfl := Option.some.inj h
    have := h1 ⟨(c - 97).toNat, by omega⟩
    simp only [Int.toNat_of_nonneg (show 0 ≤ c - 97 by omega)] at this
    omega
  · split at h
    · obtain rfl := Option.some.inj h
      have := h2 ⟨(c - 50).toNat, by omega⟩
      simp only [Int.toNat_of_nonneg (show 0 ≤ c - 50 by omega)] at this
      omega
    · cases h
theorem val8 (a b c d e f g h : Int) (ha : 0 ≤ a ∧ a ≤ 1) (hb : 0 ≤ b ∧ b ≤ 1) (hc : 0 ≤ c ∧ c ≤ 1) (hd : 0 ≤ d ∧ d ≤ 1) (he : 0 ≤ e ∧ e ≤ 1) (hf : 0 ≤ f ∧ f ≤ 1) (hg : 0 ≤ g ∧ g ≤ 1) (hh : 0 ≤ h ∧ h ≤ 1) :
    bits8 (val [a, b, c, d, e, f, g, h]) = [a, b, c, d, e, f, g, h] ∧ 0 ≤ val [a, b, c, d, e, f, g, h] ∧ val [a, b, c, d, e, f, g, h] ≤ 255 := by
  have e : val [a, b, c, d, e, f, g, h] = 128 * a + 64 * b + 32 * c + 16 * d + 8 * e + 4 * f + 2 * g + h := by simp only [val, List.foldl]; omega
  rw [e]
  refine ⟨?_, by omega, by omega⟩
  simp only [bits8, List.cons.injEq, and_true]
  refine ⟨?_, ?_, ?_, ?_, ?_, ?_, ?_, ?_⟩ <;> omega
theorem val8_of (B : List Int) (hB : Bits B) (hl : B.length = 8) : bits8 (val B) = B ∧ 0 ≤ val B ∧ val B ≤ 255 := by
  match B, hl with
  | [a, b, c, d, e, f, g, h], _ => exact val8 a b c d e f g h hB.head hB.tail.head hB.tail.tail.head hB.tail.tail.tail.head hB.tail.tail.tail.tail.head hB.tail.tail.tail.tail.tail.head hB.tail.tail.tail.tail.tail.tail.head hB.tail.tail.tail.tail.tail.tail.tail.head
theorem take8_spec (ds : List Int) : ∀ o R, Bits R → R.length < 8 → Bytes o → bitsOf (take8 ds o R).1 ++ (take8 ds o R).2 = bitsOf o ++ R ++ ds.flatMap bits5 ∧ Bits (take8 ds o R).2 ∧ (take8 ds o R).2.length < 8 ∧ Bytes (take8 ds o R).1 ∧ (take8 ds o R).1.length ≤ o.length + ds.length := by
  induction ds with
  | nil => intro o R hR hl ho; simp [take8, hR, hl, ho]
  | cons d ds ih =>
    intro o R hR hl ho
    have hb : Bits (R ++ bits5 d) := hR.append (Bits5 d)
    have hlen : (R ++ bits5 d).length = R.length + 5 := by simp [bits5]
    rw [take8]
    split
    · rename_i h8
      have hb' : Bits ((R ++ bits5 d).take 8 ++ (R ++ bits5 d).drop 8) := by rw [List.take_append_drop]; exact hb
      obtain ⟨h1, h2, h3⟩ := val8_of _ hb'.left (by rw [List.length_take, hlen]; omega)
      obtain ⟨i1, i2, i3, i4, i5⟩ := ih (o ++ [val ((R ++ bits5 d).take 8)]) ((R ++ bits5 d).drop 8) hb'.right (by rw [List.length_drop, hlen]; omega) (fun x hx => by
        rcases List.mem_append.1 hx with hx | hx
        · exact ho x hx
        · rw [List.mem_singleton.1 hx]; exact ⟨h2, h3⟩)
      refine ⟨?_, i2, i3, i4, ?_⟩
      · rw [i1, bitsOf_append]
        have e : bitsOf [val ((R ++ bits5 d).take 8)] = (R ++ bits5 d).take 8 := by rw [bitsOf_cons, h1]; simp [bitsOf]
        rw [e]
        simp only [List.flatMap_cons]
        have : (R ++ bits5 d).take 8 ++ (R ++ bits5 d).drop 8 = R ++ bits5 d := List.take_append_drop 8 _
        rw [List.append_assoc (bitsOf o), this]
        simp [List.append_assoc]
      · simp at i5 ⊢; omega
    · obtain ⟨i1, i2, i3, i4, i5⟩ := ih o (R ++ bits5 d) hb (by rw [hlen]; omega) ho
      refine ⟨?_, i2, i3, i4, by simp; omega⟩
      rw [i1]
      simp [List.append_assoc]
theorem enc_digits (ds : List Int) (h : ∀ d ∈ ds, 0 ≤ d ∧ d < 32) : enc (ds.flatMap bits5) = ds.map sg := by
  induction ds with
  | nil => rfl
  | cons d ds ih =>
    have hd := h d List.mem_cons_self
    simp only [List.flatMap_cons, bits5, List.cons_append, List.nil_append, enc, List.map_cons]
    rw [show 16 * (d / 16 % 2) + 8 * (d / 8 % 2) + 4 * (d / 4 % 2) + 2 * (d / 2 % 2) + d % 2 = d by omega]
    congr 1
    exact ih (fun x hx => h x (List.mem_cons_of_mem _ hx))
theorem digits_of {cs ds : List Int} (h : digits cs = some ds) : (∀ d ∈ ds, 0 ≤ d ∧ d < 32) ∧ ds.map (fun d => ((sg d).toNat : Int)) = cs ∧ ds.length = cs.length := by
  induction cs generalizing ds with
  | nil => obtain rfl := Option.some.inj h; simp
  | cons c cs ih =>
    unfold digits at h
    obtain ⟨d, hd, h⟩ := Option.bind_eq_some_iff.1 h
    obtain ⟨ds', hds, rfl⟩ := Option.map_eq_some_iff.1 h
    obtain ⟨i1, i2, i3⟩ := ih hds
    refine ⟨?_, ?_, by simp [i3]⟩
    · intro x hx
      rcases List.mem_cons.1 hx with rfl | hx
      · exact dg_range hd
      · exact i1 x hx
    · rw [List.map_cons, i2, sg_dg hd]
theorem flat5_length (ds : List Int) : (ds.flatMap bits5).length = 5 * ds.length := by
  induction ds with
  | nil => rfl
  | cons d ds ih => simp only [List.flatMap_cons, List.length_append, ih, bits5, List.length_cons, List.length_nil]; omega
def readOf (cs : List Int) : List Int × Int := match digits cs with
  | none => ([], 40)
  | some ds => if 5 ≤ (take8 ds [] []).2.length then ([], 40) else if val (take8 ds [] []).2 = 0 then ((take8 ds [] []).1, 0) else ([], 40)
theorem read_back {cs ds : List Int} (h : digits cs = some ds) : (enc (bitsOf (take8 ds [] []).1) = ds.map sg ↔ (take8 ds [] []).2.length < 5 ∧ val (take8 ds [] []).2 = 0) := by
  obtain ⟨h1, h2, h3⟩ := digits_of h
  obtain ⟨t1, t2, t3, t4, t5⟩ := take8_spec ds [] [] (by intro b h; simp at h) (by simp) (by intro b h; simp at h)
  have t1' : bitsOf (take8 ds [] []).1 ++ (take8 ds [] []).2 = ds.flatMap bits5 := by simpa [bitsOf] using t1
  have hlen : ((bitsOf (take8 ds [] []).1).length + (take8 ds [] []).2.length) % 5 = 0 := by rw [← List.length_append, t1', flat5_length]; omega
  have he : enc (bitsOf (take8 ds [] []).1 ++ (take8 ds [] []).2) = ds.map sg := by rw [t1', enc_digits ds h1]
  constructor
  · intro hs
    exact enc_same _ _ (BitsOf _) t2 hlen (he.trans hs.symm)
  · intro ⟨hs, hv⟩
    rw [← he]
    have hz := val_zero _ t2 hv
    rw [hz]
    exact (enc_pad _ _ hs hlen).symm
end Go.Proofs.YtgljicdpcapgnaaDoor.Sp
set_option linter.unusedVariables false
set_option linter.unusedSimpArgs false
namespace Go.Proofs.YtgljicdpcapgnaaDoor
open Go.RowKit Go.Proofs.YtgljicdpcapgnaaDoorW.PrintWords Go.Proofs.YtgljicdpcapgnaaDoorW.PrintLast
namespace Cl
theorem infoByte : (Tryd.prog.info? 5).map (fun i => (i.zero, i.size, i.bytes)) = some (some (.int .u8 0), 1, 1) := by kernel_rfl
end Cl
def clone_.f (l : List Int) : Option (List Int) := if l.length < 140737488355328 then some l else none
set_option maxHeartbeats 1000000 in
set_option maxRecDepth 100000 in
theorem clone_.calls (A0 : Option Addr) (c0 : Nat) (l0 : List Int) (r : List Int) (w : World) (hr0 : Kd.C (Kd.int .u8) w A0 l0.length l0) (hc0 : l0.length ≤ c0) (h : clone_.f l0 = some r) :
  Calls Tryd.prog 41 #[.slice A0 l0.length c0] w fun e w' => ∃ v0_ : Value, e = .returned (v0_) ∧ Kd.R (Kd.int .u8) 5 w' w.heap.size (fun _ => True) v0_ r ∧ Below w.heap.size w w' := by
 have HL : Aside0 (l0.length < 140737488355328 ∧ l0 = r) := ⟨by
  unfold clone_.f at h
  by_cases c : l0.length < 140737488355328
  ·rw [if_pos c] at h; exact ⟨c, Option.some.inj h⟩
  ·rw [if_neg c] at h; cases h⟩
 clear h
 have HR0 := Aside0.mk hr0
 have heq := fun (w : World) => Lib.run_eql_slice_nil (P := Tryd.prog) w 23 5 A0 l0.length c0 0 0 Tryd.underlying23
 cases A0 with
 | none =>
  have HE : Aside0 (l0 = []) := ⟨by
   rcases Nat.eq_zero_or_pos l0.length with h0 | h0
   ·exact List.eq_nil_of_length_eq_zero h0
   ·obtain ⟨ad, e, _⟩ := hr0.2.2 h0; cases e⟩
  clear hr0
  go_enter Tryd.func41, Tryd.ntmps41
  go_wp2_with fail
  go_ret
  refine ⟨_, rfl, ?_, Below.refl _ _⟩
  rw [← HL.out.2, HE.out]
  exact Kd.R_nil _ _ _ _ _
 | some ad =>
  clear hr0
  go_enter Tryd.func41, Tryd.ntmps41
  have HM := Aside0.mk (World.ownsRow_made (base := w.heap.size) (e := 5) (size := 1) w #[] 0 (Nat.le_refl _) (by unfold maxLen; omega) rfl)
  go_wp2_with (at_builtin; refine Kd.R_append_rows (Kd.int .u8) (w0 := w) w.heap.size rfl (.tmp 5) (.tmp 6) 23 5 (.int .u8 0) 1 rfl Tryd.underlying23 Cl.infoByte rfl (by decide) (by omega) (.slice (some ⟨w.heap.size, 0, none⟩) 0 0) ([] : List Int) l0 _ _ _ (fun _ => True) (fun _ => False) rfl rfl ?aO ?aR (fun _ _ h => h) (fun _ h => h.elim) (fun _ _ => trivial) ?aB ?aS ?aL ?_)
  case aO => exact Kd.R_of_own HM.out (fun _ _ => trivial)
  case aR => exact Kd.C_below HR0.out (below_alloc (Below.refl _ _) _)
  case aB => exact below_alloc (Below.refl _ _) _
  case aS => simp
  case aL => have := HL.out.1; simp; omega
  intro v1 w1 ho hb _ _
  have HO := Aside0.mk ho
  have HB := Aside0.mk hb
  clear ho hb
  go_wp2_with fail
  go_ret
  refine ⟨_, rfl, ?_, HB.out⟩
  rw [← HL.out.2]
  exact HO.out
end Go.Proofs.YtgljicdpcapgnaaDoor
set_option linter.unusedVariables false
set_option linter.unusedSimpArgs false
namespace Go.Proofs.YtgljicdpcapgnaaDoor
open Go.RowKit Go.Proofs.YtgljicdpcapgnaaDoorW.PrintWords Go.Proofs.YtgljicdpcapgnaaDoorW.PrintLast
namespace Wi
def Cuts (A : Option Addr) (bs : List Int) (A' : Option Addr) (n : Nat) : Prop := ∀ W : World, Kd.C (Kd.int .u8) W A bs.length bs → Kd.C (Kd.int .u8) W A' (bs.drop n).length (bs.drop n)
def wd (n : Int) : Nat := if n = 1 then 1 else if n = 2 then 2 else if n = 4 then 4 else 8
def num (bs : List Int) : Int := bs.foldl (fun n x => n * 256 + x) 0
def Bytes (l : List Int) : Prop := ∀ x ∈ l, 0 ≤ x ∧ x ≤ 255
theorem Bytes.take {l : List Int} (h : Bytes l) (n : Nat) : Bytes (l.take n) := fun x hx => h x (List.mem_of_mem_take hx)
theorem Bytes.drop {l : List Int} (h : Bytes l) (n : Nat) : Bytes (l.drop n) := fun x hx => h x (List.mem_of_mem_drop hx)
theorem num_snoc (l : List Int) (x : Int) : num (l ++ [x]) = num l * 256 + x := by simp [num]
theorem num_range (l : List Int) : Bytes l → 0 ≤ num l ∧ num l < 256 ^ l.length := by
  have key : ∀ (l r : List Int), Bytes (l ++ r) → 0 ≤ num l → num l < 256 ^ l.length → 0 ≤ num (l ++ r) ∧ num (l ++ r) < 256 ^ (l ++ r).length := by
    intro l r
    induction r generalizing l with
    | nil => intro _ h0 h1; rw [List.append_nil]; exact ⟨h0, h1⟩
    | cons x r ih =>
      intro hb h0 h1
      have hx := hb x (by simp)
      have := ih (l ++ [x]) (by rw [List.append_assoc]; exact hb) (by rw [num_snoc]; omega) (by rw [num_snoc, List.length_append, List.length_singleton, Int.pow_succ]; omega)
      rw [List.append_assoc] at this
      exact this
  intro h
  have := key [] l h (by simp [num]) (by simp [num])
  simpa using this
theorem pow256 : ∀ m, m < 8 → (256 : Int) ^ m ≤ 72057594037927936 := by decide
theorem take_snoc (l : List Int) (i : Nat) (h : i < l.length) : l.take (i + 1) = l.take i ++ [rd l i] := by
  rw [List.take_succ_eq_append_getElem h]
  simp [rd, List.getD_eq_getElem?_getD, List.getElem?_eq_getElem h]
theorem infoByte' : ∃ i, Tryd.prog.info? 5 = some i ∧ i.size = 1 := by
  obtain ⟨i, hi, _, h, _⟩ := info_parts Cl.infoByte
  exact ⟨i, hi, h⟩
end Wi
set_option maxHeartbeats 1000000 in
set_option maxRecDepth 100000 in
theorem Wi.number_short (g : Nat) (A : Option Addr) (c : Nat) (bs : List Int) (n : Nat) (hn : n ≤ 8) (w : World) (hg : w.heap[g]? = some (.cells #[.slice A bs.length c] 144 (0, 0))) (hl : bs.length < n) :
  Calls Tryd.prog 78 #[.pointer (some ⟨g, 0, none⟩), .int .i64 n] w fun e w' => (∃ u pv, e = .panicked [{ v := .iface u pv, recovered := false }]) ∧ w' = w := by
 have hc : w.cell? ⟨g, 0, none⟩ = some (.slice A bs.length c) := by unfold World.cell?; rw [hg]; rfl
 clear hg
 go_enter Tryd.func78, Tryd.ntmps78
 go_wp2_with fail
 exact ⟨rfl, ⟨_, _, rfl⟩, rfl⟩
set_option maxHeartbeats 1000000 in
set_option maxRecDepth 100000 in
theorem Wi.number_long (g : Nat) (A : Option Addr) (c : Nat) (bs : List Int) (n : Nat) (hn : n ≤ 8) (hn1 : 1 ≤ n) (w : World) (hg : w.heap[g]? = some (.cells #[.slice A bs.length c] 144 (0, 0))) (hl : n ≤ bs.length) (hC : Kd.C (Kd.int .u8) w A bs.length bs) (hcap : bs.length ≤ c) (hb : Wi.Bytes bs) :
  Calls Tryd.prog 78 #[.pointer (some ⟨g, 0, none⟩), .int .i64 n] w fun e w' => e = .returned (.int .u64 (Wi.num (bs.take n))) ∧ ∃ A' c', w' = w.setCell ⟨g, 0, none⟩ (.slice A' (bs.drop n).length c') ∧ (bs.drop n).length ≤ c' ∧ Wi.Cuts A bs A' n := by
 have hc : w.cell? ⟨g, 0, none⟩ = some (.slice A bs.length c) := by unfold World.cell?; rw [hg]; rfl
 have hfz : w.frozen? ⟨g, 0, none⟩ = false := by unfold World.frozen?; rw [hg]; simp
 obtain ⟨ti, hti, htz⟩ := Wi.infoByte'
 obtain ⟨A', hs, hr, hcl⟩ := print_drop_of (P := Tryd.prog) (Value.int .u8) 0 23 5 .i64 Tryd.underlying23 hti htz A c bs n (by omega) (by omega) hcap
 rw [Int.toNat_natCast] at hr hcl
 have hs' : ∀ W : World, (Instr.slice 23 (.slice A bs.length c) (some (.int .i64 (n : Int))) none none).run Tryd.prog W = .ok (.slice A' (bs.drop n).length (c - n)) W := fun W => by have := hs W; rw [Int.toNat_natCast] at this; exact this
 obtain ⟨dl, HDL⟩ : ∃ dl, Aside0 ((bs.drop n).length = dl) := ⟨_, ⟨rfl⟩⟩
 rw [HDL.out] at hs'
 have HC' : Aside0 (Wi.Cuts A bs A' n) := ⟨fun W h => Kd.C_of_reads (h1 := fun _ => rfl) (hr W (Kd.reads_of_C h))⟩
 have HCL := Aside0.mk hcl
 have HCC := Aside0.mk hC
 have HBB := Aside0.mk hb
 clear hg hr hcl hs hti htz hC hb
 go_enter Tryd.func78, Tryd.ntmps78
 go_wp2_with fail
 go_loop [4, 6, 30] (fun v4 v6 v30 => ∃ (i : Nat) (m : Int), v30 = .int .i64 i ∧ v4 = .int .u64 m ∧ i ≤ n ∧ 0 ≤ m ∧ Aside0 (m < 256 ^ i) ∧ Aside0 (m = Wi.num (bs.take i))) (fun _ _ i => n - (intOf i).toNat)
 case atStart => exact ⟨0, 0, rfl, rfl, Nat.zero_le _, Int.le_refl _, ⟨by simp⟩, ⟨by simp [Wi.num]⟩⟩
 case round =>
  obtain ⟨i, m, rfl, rfl, hi, hm0, HM1, HM⟩ := hrel
  by_cases hlt : i < n
  ·obtain ⟨ad, e, hx⟩ := Kd.at_int HCC.out i (by omega) (by omega)
   cases e
   have hx' : w.cell? (ad.add i) = some (.int .u8 (rd bs i)) := by simpa using hx
   have hrg : 0 ≤ rd bs ↑i ∧ rd bs ↑i ≤ 255 := by
    have : rd bs ↑i = bs[i] := by simp [rd, List.getD_eq_getElem?_getD, List.getElem?_eq_getElem (show i < bs.length by omega)]
    rw [this]; exact HBB.out _ (List.getElem_mem _)
   clear hx
   have HS := Aside0.mk (Wi.take_snoc bs i (by omega))
   obtain ⟨x, HX⟩ : ∃ x, Aside0 (rd bs ↑i = x) := ⟨_, ⟨rfl⟩⟩
   rw [HX.out] at hx' hrg HS
   obtain ⟨hx0, hx1⟩ := hrg
   have hmb : m < 72057594037927936 := by have := HM1.out; have := Wi.pow256 i (by omega); omega
   have ho := Bt.or_256 m x hm0 hmb hx0 hx1
   go_wp2_with fail
   go_round
   case rel => exact ⟨i + 1, m * 256 + x, by go_num, rfl, by omega, by clear ho; omega, ⟨by have := HM1.out; rw [Int.pow_succ]; clear ho; omega⟩, ⟨by rw [HS.out, Wi.num_snoc, ← HM.out]⟩⟩
   case measure => simp [intOf]; omega
  ·obtain rfl : i = n := by omega
   go_wp2_with fail
   go_ret
   have hd : dl = bs.length - i := by rw [← HDL.out, List.length_drop]
   have hcl := HCL.out
   rw [List.length_drop] at hcl
   refine ⟨by rw [HM.out]; rfl, A', c - i, ?_, by omega, HC'.out⟩
   rw [hd]
end Go.Proofs.YtgljicdpcapgnaaDoor
set_option linter.unusedVariables false
set_option linter.unusedSimpArgs false
namespace Go.Proofs.YtgljicdpcapgnaaDoor
open Go.RowKit Go.Proofs.YtgljicdpcapgnaaDoorW.PrintWords Go.Proofs.YtgljicdpcapgnaaDoorW.PrintLast
namespace Wi
def takes : List Int → List Int → List Int → List Int × List Int × Bool
  | b, [], acc => (acc, b, true)
  | b, w :: ws, acc => if b.length < wd w then ([], [], false) else takes (b.drop (wd w)) ws (acc ++ [num (b.take (wd w))])
theorem info64 : (Tryd.prog.info? 42).map (fun i => (i.zero, i.size, i.bytes)) = some (some (.int .u64 0), 1, 8) := by kernel_rfl
theorem width_is (n : Int) (w : World) : Calls Tryd.prog 52 #[.int .i64 n] w fun e w' => e = .returned (.int .i64 (wd n)) ∧ w = w' := by
 by_cases h1 : n = 1
 ·subst h1
  go_enter Tryd.func52, Tryd.ntmps52
  go_wp2
  go_ret
  exact ⟨rfl, rfl⟩
 by_cases h2 : n = 2
 ·subst h2
  go_enter Tryd.func52, Tryd.ntmps52
  go_wp2
  go_ret
  exact ⟨rfl, rfl⟩
 by_cases h4 : n = 4
 ·subst h4
  go_enter Tryd.func52, Tryd.ntmps52
  go_wp2
  go_ret
  exact ⟨rfl, rfl⟩
 have b1 : (n == 1) = false := beq_eq_false_iff_ne.mpr h1
 have b2 : (n == 2) = false := beq_eq_false_iff_ne.mpr h2
 have b4 : (n == 4) = false := beq_eq_false_iff_ne.mpr h4
 have hw : Aside0 (wd n = 8) := ⟨by unfold wd; rw [if_neg h1, if_neg h2, if_neg h4]⟩
 clear h1 h2 h4
 go_enter Tryd.func52, Tryd.ntmps52
 go_wp2
 go_ret
 exact ⟨by rw [hw.out]; rfl, rfl⟩
theorem catch_panicking (p0 p1 p2 : Addr) (x0 x1 x2 : Value) (u : TypeId) (pv : Value) (older : List PanicEntry) (w : World)
    (h0 : w.cell? p0 = some x0) (z0 : w.frozen? p0 = false) (h1 : (w.setCell p0 (.slice none 0 0)).cell? p1 = some x1) (z1 : (w.setCell p0 (.slice none 0 0)).frozen? p1 = false)
    (h2 : ((w.setCell p0 (.slice none 0 0)).setCell p1 (.slice none 0 0)).cell? p2 = some x2) (z2 : ((w.setCell p0 (.slice none 0 0)).setCell p1 (.slice none 0 0)).frozen? p2 = false) :
    CallsD Tryd.prog 77 #[.pointer (some p0), .pointer (some p1), .pointer (some p2)] (.panicking ({ v := .iface u pv, recovered := false } :: older)) w fun e u' w' =>
      e = .returned (.tuple #[]) ∧ u' = .panicking ({ v := .iface u pv, recovered := true } :: older) ∧ w' = ((w.setCell p0 (.slice none 0 0)).setCell p1 (.slice none 0 0)).setCell p2 (.bool false) := by
  refine callsD_of_wpS Tryd.func77 rfl fun c₀ cs hu => ?_
  apply wpS_seq
  apply wpS_region
  simp [wpOpsS, go_sem, recoverD, hu, Tryd.ntmps77, Exit.thenS]
  apply wpS_seq
  apply wpS_region
  simp [wpOpsS, go_sem, Exit.thenS]
  refine wpS_cond (t := true) (by simp [Act.eval, Array.replicate]) ?_
  simp only [if_true]
  apply wpS_region
  simp [wpOpsS, go_sem, h0, z0, h1, z1, h2, z2, bodyPostS, results, Tryd.results77]
theorem catch_idle (p0 p1 p2 : Addr) (w : World) :
    CallsD Tryd.prog 77 #[.pointer (some p0), .pointer (some p1), .pointer (some p2)] .returning w fun e u' w' => e = .returned (.tuple #[]) ∧ u' = .returning ∧ w' = w := by
  refine callsD_of_wpS Tryd.func77 rfl fun c₀ cs hu => ?_
  apply wpS_seq
  apply wpS_region
  simp [wpOpsS, go_sem, recoverD, hu, Tryd.ntmps77, Exit.thenS]
  apply wpS_seq
  apply wpS_region
  simp [wpOpsS, go_sem, Exit.thenS]
  refine wpS_cond (t := false) (by simp [Act.eval, Array.replicate]) ?_
  simp only [Bool.false_eq_true, if_false]
  refine wpS_of_wp (wp_skip ?_)
  cases c₀
  simp_all [bodyPostS, results, Tryd.results77]
end Wi
end Go.Proofs.YtgljicdpcapgnaaDoor
set_option linter.unusedVariables false
namespace Go.Proofs.YtgljicdpcapgnaaDoor.Lit
open Go.RowKit Go.Proofs.YtgljicdpcapgnaaDoorW.PrintWords
theorem cell_new (w : World) (C : Array Value) (e : TypeId) (fr : Nat × Nat) (j : Nat) : (w.alloc (.cells C e fr)).cell? ⟨w.heap.size, j, none⟩ = C[j]? := by
  have h : (w.alloc (.cells C e fr)).heap[w.heap.size]? = some (.cells C e fr) := by show (w.heap.push _)[w.heap.size]? = _; simp
  unfold World.cell?
  rw [h]
  rfl
theorem reads_block {w : World} {b : Nat} {C : Array Value} {e : TypeId} {fr : Nat × Nat} (h : w.heap[b]? = some (.cells C e fr)) (k : IntKind) (xs : List Int) (hC : C.toList = xs.map (Value.int k)) (hl : xs.length ≤ 9223372036854775807) : Kd.C (Kd.int k) w (some ⟨b, 0, none⟩) xs.length xs := by
  refine Kd.C_of_reads (d := 0) ⟨rfl, hl, fun hn => ⟨_, rfl, fun j hj => ?_⟩⟩
  have e1 : (⟨b, 0, none⟩ : Addr).add j = ⟨b, j, none⟩ := add_plain b j
  rw [e1]
  unfold World.cell?
  rw [h]
  show C[j]? = _
  have e2 : C[j]? = (xs.map (Value.int k))[j]? := by rw [← hC]; simp
  simp [e2, List.getElem?_eq_getElem hj, List.getD_eq_getElem?_getD]
theorem reads_new (w : World) (C : Array Value) (e : TypeId) (fr : Nat × Nat) (k : IntKind) (xs : List Int) (hC : C.toList = xs.map (Value.int k)) (hl : xs.length ≤ 9223372036854775807) : Kd.C (Kd.int k) (w.alloc (.cells C e fr)) (some ⟨w.heap.size, 0, none⟩) xs.length xs :=
  reads_block (C := C) (e := e) (fr := fr) (by show (w.heap.push _)[w.heap.size]? = _; simp) k xs hC hl
end Go.Proofs.YtgljicdpcapgnaaDoor.Lit
set_option linter.unusedVariables false
set_option linter.unusedSimpArgs false
namespace Go.Proofs.YtgljicdpcapgnaaDoor
open Go.RowKit Go.Proofs.YtgljicdpcapgnaaDoorW.PrintWords Go.Proofs.YtgljicdpcapgnaaDoorW.PrintLast
namespace Wi
section
variable {P : Program} {ops : Array Oper}
theorem callp_ {oi : Oper} {N : Option Tmp} {a : Act} {w : World} {K : Act → World → Prop} {Q : Exit → Act → World → Prop} (f : FuncId) (args : Array Value) (hw : Region.wanted oi (yielded ops a.tmps) = true) (hN : oi.dst = N) (hrun : (execOp a.eval oi).run P w = .ok (.enter f args) w)
    (h : Calls P f args w fun e w' => (∃ v, e = .returned v ∧ K (a.put N v) w') ∨ ∃ c, e = .panicked c ∧ Q (.panic c) a w') : if Region.wanted oi (yielded ops a.tmps) = true then Oper.wp P oi a w K Q else K (a.put N undef) w := by
  rw [if_pos hw]
  subst hN
  unfold Oper.wp
  rw [hrun, Oper.upon_enter]
  refine h.mono fun e w'' hh => ?_
  rcases hh with ⟨v, rfl, hk⟩ | ⟨c, rfl, hk⟩
  · exact hk
  · exact hk
end
def Pk (p0 p1 p2 : Value) (D : List Deferred) (W : World) : Exit → Act → World → Prop
  | .panic c, a, w' => (∃ u pv, c = [{ v := .iface u pv, recovered := false }]) ∧ a.tmps[4]? = some p0 ∧ a.tmps[5]? = some p1 ∧ a.tmps[6]? = some p2 ∧ a.defers = D ∧ w' = W
  | _, _, _ => False
theorem Pk.put {p0 p1 p2 : Value} {D : List Deferred} {W : World} {c : List PanicEntry} {a : Act} {w : World} {d : Nat} {v : Value} (hd : 6 < d) (h : Pk p0 p1 p2 D W (.panic c) (a.put (some d) v) w) : Pk p0 p1 p2 D W (.panic c) a w := by
  obtain ⟨h1, h2, h3, h4, h5, h6⟩ := h
  simp only [Act.put, Array.getElem?_setIfInBounds] at h2 h3 h4 h5
  rw [if_neg (by omega)] at h2 h3 h4
  exact ⟨h1, h2, h3, h4, h5, h6⟩
structure Own (w : World) (v : Value) (acc : List Int) (A : Option Addr) (c : Nat) (rest : List Int) (wr : World) : Prop where
  b0 : wr.heap[w.heap.size]? = some (.cells #[v] 84 (0, 0))
  b1 : wr.heap[w.heap.size + 1]? = some (.cells #[.slice none 0 0] 23 (0, 0))
  b2 : wr.heap[w.heap.size + 1 + 1]? = some (.cells #[.bool false] 4 (0, 0))
  b3 : wr.heap[w.heap.size + 1 + 1 + 1]? = some (.cells #[.slice A rest.length c] 144 (0, 0))
  r : Kd.R (Kd.int .u64) 42 wr w.heap.size (fun k => w.heap.size + 1 + 1 + 1 < k) v acc
  reads : Kd.C (Kd.int .u8) w A rest.length rest
  cap : rest.length ≤ c
  below : Below w.heap.size w wr
theorem cell0 {w : World} {b : Nat} {v : Value} {t : TypeId} (h : w.heap[b]? = some (.cells #[v] t (0, 0))) : w.cell? ⟨b, 0, none⟩ = some v := by unfold World.cell?; rw [h]; rfl
theorem frozen0 {w : World} {b : Nat} {v : Value} {t : TypeId} (h : w.heap[b]? = some (.cells #[v] t (0, 0))) : w.frozen? ⟨b, 0, none⟩ = false := by unfold World.frozen?; rw [h]; simp
theorem block_set {w : World} {b : Nat} {v u : Value} {t : TypeId} (h : w.heap[b]? = some (.cells #[v] t (0, 0))) : (w.setCell ⟨b, 0, none⟩ u).heap[b]? = some (.cells #[u] t (0, 0)) := by
  rw [heap_setCell_same w b 0 #[v] t u h]
  rfl
theorem Own.step {w : World} {v : Value} {acc : List Int} {A : Option Addr} {c : Nat} {rest : List Int} {wr : World} (h : Own w v acc A c rest wr) {wn : World} (hb : ∀ k, k < wr.heap.size → wn.heap[k]? = wr.heap[k]?) (hB : Below w.heap.size w wn) : Own w v acc A c rest wn := by
  have lt : ∀ {k : Nat} {o : Obj}, wr.heap[k]? = some o → k < wr.heap.size := fun e => (Array.getElem?_eq_some_iff.1 e).1
  exact ⟨(hb _ (lt h.b0)).trans h.b0, (hb _ (lt h.b1)).trans h.b1, (hb _ (lt h.b2)).trans h.b2, (hb _ (lt h.b3)).trans h.b3, Kd.R_step h.r (fun k _ hk => hb k hk), h.reads, h.cap, hB⟩
theorem Own.drew {w : World} {v : Value} {acc : List Int} {A : Option Addr} {c : Nat} {rest : List Int} {wr : World} (h : Own w v acc A c rest wr) : Own w v acc A c rest wr.drew := h.step (fun _ _ => rfl) (below_drew h.below)
theorem Own.cut {w : World} {v : Value} {acc : List Int} {A A' : Option Addr} {c c' n : Nat} {rest : List Int} {wr : World} (h : Own w v acc A c rest wr) (hc : Cuts A rest A' n) (h1 : (rest.drop n).length ≤ c') :
    Own w v acc A' c' (rest.drop n) (wr.setCell ⟨w.heap.size + 1 + 1 + 1, 0, none⟩ (.slice A' (rest.drop n).length c')) :=
  ⟨(Below.heap_setCell _ _ _ _ (by show w.heap.size ≠ w.heap.size + 1 + 1 + 1; omega)).trans h.b0, (Below.heap_setCell _ _ _ _ (by show w.heap.size + 1 ≠ w.heap.size + 1 + 1 + 1; omega)).trans h.b1, (Below.heap_setCell _ _ _ _ (by show w.heap.size + 1 + 1 ≠ w.heap.size + 1 + 1 + 1; omega)).trans h.b2, block_set h.b3,
    Kd.R_far (p := ⟨w.heap.size + 1 + 1 + 1, 0, none⟩) h.r (fun k hk => by show k ≠ w.heap.size + 1 + 1 + 1; omega) _, hc _ h.reads, h1, h.below.setCell (p := ⟨w.heap.size + 1 + 1 + 1, 0, none⟩) (by show w.heap.size ≤ w.heap.size + 1 + 1 + 1; omega) _⟩
theorem Own.app {w : World} {v v1 : Value} {acc acc' : List Int} {A : Option Addr} {c : Nat} {rest : List Int} {W w2 : World} (h : Own w v acc A c rest W) (hr : Kd.R (Kd.int .u64) 42 w2 w.heap.size (fun k => w.heap.size + 1 + 1 + 1 < k) v1 acc') (hb : Below w.heap.size w w2) (hg : W.grownBy w2 v.ownBlock) :
    Own w v1 acc' A c rest (w2.setCell ⟨w.heap.size, 0, none⟩ v1) ∧ w2.heap[w.heap.size]? = some (.cells #[v] 84 (0, 0)) := by
  have lt : ∀ {k : Nat} {o : Obj}, W.heap[k]? = some o → k < W.heap.size := fun e => (Array.getElem?_eq_some_iff.1 e).1
  have ne : ∀ k, k ≤ w.heap.size + 1 + 1 + 1 → some k ≠ v.ownBlock := fun k hk e => by have := h.r.1 k e.symm; omega
  have g0 := (hg.block _ (lt h.b0) (ne _ (by omega))).trans h.b0
  have g1 := (hg.block _ (lt h.b1) (ne _ (by omega))).trans h.b1
  have g2 := (hg.block _ (lt h.b2) (ne _ (by omega))).trans h.b2
  have g3 := (hg.block _ (lt h.b3) (ne _ (by omega))).trans h.b3
  exact ⟨⟨block_set g0, (Below.heap_setCell _ _ _ _ (by show w.heap.size + 1 ≠ w.heap.size; omega)).trans g1, (Below.heap_setCell _ _ _ _ (by show w.heap.size + 1 + 1 ≠ w.heap.size; omega)).trans g2, (Below.heap_setCell _ _ _ _ (by show w.heap.size + 1 + 1 + 1 ≠ w.heap.size; omega)).trans g3,
    Kd.R_far (p := ⟨w.heap.size, 0, none⟩) hr (fun k hk => by show k ≠ w.heap.size; omega) _, h.reads, h.cap, hb.setCell (p := ⟨w.heap.size, 0, none⟩) (Nat.le_refl _) _⟩, g0⟩
theorem four (h : Array Obj) (a b c d : Obj) : ((((h.push a).push b).push c).push d)[h.size]? = some a ∧ ((((h.push a).push b).push c).push d)[h.size + 1]? = some b ∧ ((((h.push a).push b).push c).push d)[h.size + 1 + 1]? = some c ∧ ((((h.push a).push b).push c).push d)[h.size + 1 + 1 + 1]? = some d := by
  refine ⟨?_, ?_, ?_, ?_⟩ <;> simp only [Array.getElem?_push, Array.size_push, if_true] <;> (repeat (first | rw [if_neg (by omega)] | rw [if_pos (by omega)]))
theorem wd_range (n : Int) : 1 ≤ wd n ∧ wd n ≤ 8 := by unfold wd; split <;> (try split) <;> (try split) <;> omega
end Wi
def wire_Take.f (l0 l1 : List Int) : Option (List Int × List Int × Bool) := if l0.length ≤ 1099511627776 ∧ l1.length ≤ 1099511627776 ∧ ∀ x ∈ l0, 0 ≤ x ∧ x ≤ 255 then some (Wi.takes l0 l1 []) else none
set_option maxHeartbeats 2000000 in
set_option maxRecDepth 100000 in
theorem wire_Take.calls (A0 : Option Addr) (c0 : Nat) (l0 : List Int) (A1 : Option Addr) (c1 : Nat) (l1 : List Int) (r1 : List Int) (r2 : List Int) (r3 : Bool) (w : World) (hr0 : Kd.C (Kd.int .u8) w A0 l0.length l0) (hc0 : l0.length ≤ c0) (hr1 : Kd.C (Kd.int .i64) w A1 l1.length l1) (hc1 : l1.length ≤ c1) (h : wire_Take.f l0 l1 = some (r1, r2, r3)) :
    Calls Tryd.prog 65 #[.slice A0 l0.length c0, .slice A1 l1.length c1] w fun e w' => ∃ v0_ v1_ : Value, e = .returned (.tuple #[v0_, v1_, .bool r3]) ∧ Kd.R (Kd.int .u64) 42 w' w.heap.size (fun _ => True) v0_ r1 ∧ Kd.R (Kd.int .u8) 5 w' w.heap.size (fun _ => True) v1_ r2 ∧ Below w.heap.size w w' := by
  have hmf : ∀ (fn : Fn) (first cap : Array Value) (w : World), (Instr.makeFunc fn first cap).run Tryd.prog w = .ok (.func fn first cap) w := fun _ _ _ _ => rfl
  have HR0 := Aside0.mk hr0
  have HR1 := Aside0.mk hr1
  clear hr0 hr1
  have HF := Aside0.mk h
  clear h
  go_enter_defers Tryd.func65, Tryd.ntmps65
  go_wp2_with fail
  have hbytes : ∀ x ∈ l0, 0 ≤ x ∧ x ≤ 255 := by
    have h := HF.out
    unfold wire_Take.f at h
    split at h
    · rename_i hc; exact hc.2.2
    · cases h
  have hlen0 : l0.length ≤ 1099511627776 := by
    have h := HF.out
    unfold wire_Take.f at h
    split at h
    · rename_i hc; exact hc.1
    · cases h
  have hlen1 : l1.length ≤ 1099511627776 := by
    have h := HF.out
    unfold wire_Take.f at h
    split at h
    · rename_i hc; exact hc.2.1
    · cases h
  have HT : Aside0 (Wi.takes l0 l1 [] = (r1, r2, r3)) := ⟨by
    have h := HF.out
    unfold wire_Take.f at h
    rw [if_pos ⟨hlen0, hlen1, hbytes⟩] at h
    exact Option.some.inj h⟩
  have HY := Aside0.mk hbytes
  clear hbytes HF
  go_loopw [16] (fun v16 wr => ∃ (k : Nat) (v : Value) (acc : List Int) (A : Option Addr) (c : Nat) (rest : List Int), v16 = .int .i64 k ∧ k ≤ l1.length ∧ Aside0 (Wi.takes rest (l1.drop k) acc = (r1, r2, r3)) ∧ Aside0 (Wi.Bytes rest) ∧ Aside0 (acc.length = k) ∧ Aside0 (rest.length ≤ l0.length) ∧ Aside0 (Wi.Own w v acc A c rest wr)) (fun i _ => l1.length - (intOf i).toNat)
  case atStart =>
    refine ⟨0, .slice none 0 0, [], A0, c0, l0, rfl, by omega, ⟨HT.out⟩, ⟨HY.out⟩, ⟨rfl⟩, ⟨Nat.le_refl _⟩, ⟨?_⟩⟩
    refine ⟨?_, ?_, ?_, ?_, Kd.R_nil _ _ _ _ _, HR0.out, hc0, ?_⟩
    · exact (Wi.four w.heap _ _ _ _).1
    · exact (Wi.four w.heap _ _ _ _).2.1
    · exact (Wi.four w.heap _ _ _ _).2.2.1
    · exact (Wi.four w.heap _ _ _ _).2.2.2
    · exact below_alloc (below_alloc (below_alloc (below_alloc (Below.refl _ _) _) _) _) _
  case round =>
    obtain ⟨k, v, acc, A, c, rest, rfl, hk, HA, HBy, HAL, HRL, HO⟩ := hrel
    by_cases hlt : k < l1.length
    · obtain ⟨ad, e, hx⟩ := Kd.at_int HR1.out k (by omega) (by omega)
      cases e
      have hx' : wr.cell? (ad.add k) = some (.int .i64 (rd l1 k)) := by simpa using (HO.out.below.cell (World.block_lt_of_cell? w _ hx)).trans hx
      clear hx
      obtain ⟨x, HX⟩ : ∃ x, Aside0 (rd l1 ↑k = x) := ⟨_, ⟨rfl⟩⟩
      rw [HX.out] at hx'
      have HD : Aside0 (l1.drop k = x :: l1.drop (k + 1)) := ⟨by rw [← HX.out, List.drop_eq_getElem_cons hlt]; simp [rd, List.getD_eq_getElem?_getD, List.getElem?_eq_getElem hlt]⟩
      go_wp2_with fail
      by_cases hs : Wi.wd x ≤ rest.length
      · refine wp_region_noPanic ?_
        have hwd := Wi.wd_range x
        obtain ⟨Av, cv, hvv⟩ := Kd.R_slice HO.out.r
        subst hvv
        refine start_ (n := 8) (S := (fun w' => w'.cell? ⟨w.heap.size, 0, none⟩ = some (.slice Av acc.length cv))) (ds := [7]) #[false, false, false, false, false, false, false, false] (by kernel_rfl) rfl rfl (Wi.cell0 HO.out.drew.b0) (fun hHeld => ?_)
        refine pure_ (i := 1) (N := (some 21)) (v := ?_) (a' := ?_) #[false, true, false, false, false, false, false, false] rfl rfl (by kernel_rfl) (fun _ _ _ h => h) (Or.inl ⟨by rfl, ?_⟩) ?_ ?_
        rotate_left
        · intro w'
          go_simp
          first | done | with_reducible rfl
        rotate_left
        · simp only [Act.put, List.setIfInBounds_toArray, List.set_cons_zero, List.set_cons_succ]
          rfl
        refine pure_ (i := 2) (N := (some 22)) (v := ?_) (a' := ?_) #[false, true, true, false, false, false, false, false] rfl rfl (by kernel_rfl) (fun _ _ _ h => h) (Or.inl ⟨by rfl, ?_⟩) ?_ ?_
        rotate_left
        · intro w'
          go_simp
          first | done | with_reducible rfl
        rotate_left
        · simp only [Act.put, List.setIfInBounds_toArray, List.set_cons_zero, List.set_cons_succ]
          rfl
        refine take_ (i := 0) (N := (some 20)) (v := ?_) (a' := ?_) #[true, true, true, false, false, false, false, false] rfl rfl (by kernel_rfl) (fun _ _ _ h => h) (Or.inl ⟨by rfl, ?_⟩) hHeld ?_ ?_
        rotate_left
        · intro w' hS'
          go_simp
          first | done | with_reducible rfl
        rotate_left
        · simp only [Act.put, List.setIfInBounds_toArray, List.set_cons_zero, List.set_cons_succ]
          rfl
        refine one_ (i := 3) (N := (some 23)) #[true, true, true, true, false, false, false, false] rfl rfl (by kernel_rfl) (by decide) (fun K hK => ?_)
        refine call_ 52 #[.int .i64 x] (by rfl) rfl (by go_simp) ?_
        refine (Wi.width_is x _).mono ?_
        rintro e w' ⟨rfl, rfl⟩
        refine ⟨_, rfl, ?_⟩
        refine hK.out _ _ hHeld (fun hHeld => ?_)
        clear hK K
        refine norm_ (a' := ?_) ?_ ?_
        rotate_left
        · show Act.put _ (some 23) _ = _
          simp only [Act.put, List.setIfInBounds_toArray, List.set_cons_zero, List.set_cons_succ]
          rfl
        refine one_ (i := 4) (N := (some 24)) #[true, true, true, true, true, false, false, false] rfl rfl (by kernel_rfl) (by decide) (fun K hK => ?_)
        refine call_ 78 #[.pointer (some ⟨w.heap.size + 1 + 1 + 1, 0, none⟩), .int .i64 (Wi.wd x)] (by rfl) rfl (by go_simp) ?_
        refine (Wi.number_long _ A c rest (Wi.wd x) hwd.2 hwd.1 _ HO.out.drew.b3 hs (Kd.C_below HO.out.reads HO.out.drew.below) HO.out.cap HBy.out).mono ?_
        rintro e w' ⟨rfl, A', c', rfl, hc1, hcut⟩
        have HO1 := Aside0.mk (HO.out.drew.cut hcut hc1)
        refine ⟨_, rfl, ?_⟩
        refine hK.out _ _ (Wi.cell0 HO1.out.b0) (fun hHeld => ?_)
        clear hK K
        refine norm_ (a' := ?_) ?_ ?_
        rotate_left
        · show Act.put _ (some 24) _ = _
          simp only [Act.put, List.setIfInBounds_toArray, List.set_cons_zero, List.set_cons_succ]
          rfl
        refine one_ (i := 5) (N := (some 25)) #[true, true, true, true, true, true, false, false] rfl rfl (by kernel_rfl) (by decide) (fun K hK => ?_)
        refine value_ (w1 := (World.setCell wr.drew ⟨w.heap.size + 1 + 1 + 1, 0, none⟩ (.slice A' (rest.drop (Wi.wd x)).length c')).alloc (.cells #[.int .u64 (Wi.num (rest.take (Wi.wd x)))] 42)) (v := .slice (some ⟨(World.setCell wr.drew ⟨w.heap.size + 1 + 1 + 1, 0, none⟩ (.slice A' (rest.drop (Wi.wd x)).length c')).heap.size, 0, none⟩) 1 1) (by rfl) rfl (by go_simp) ?_
        have HO2 := Aside0.mk (HO1.out.step (wn := (World.setCell wr.drew ⟨w.heap.size + 1 + 1 + 1, 0, none⟩ (.slice A' (rest.drop (Wi.wd x)).length c')).alloc (.cells #[.int .u64 (Wi.num (rest.take (Wi.wd x)))] 42)) (fun k hk => Below.heap_alloc _ _ _ hk) (HO1.out.below.alloc HO1.out.below.size _))
        refine hK.out _ _ (Wi.cell0 HO2.out.b0) (fun hHeld => ?_)
        clear hK K
        refine norm_ (a' := ?_) ?_ ?_
        rotate_left
        · show Act.put _ (some 25) _ = _
          simp only [Act.put, List.setIfInBounds_toArray, List.set_cons_zero, List.set_cons_succ]
          rfl
        generalize (World.setCell wr.drew ⟨w.heap.size + 1 + 1 + 1, 0, none⟩ (.slice A' (rest.drop (Wi.wd x)).length c')) = w1 at *
        refine one_ (i := 6) (N := (some 26)) #[true, true, true, true, true, true, true, false] rfl rfl (by kernel_rfl) (by decide) (fun K hK => ?_)
        refine Kd.R_append_step (Kd.int .u64) (w0 := w) (W := w1) w.heap.size (by rfl) (.tmp 20) (.tmp 25) 84 42 (.int .u64 0) 8 rfl Tryd.underlying84 Wi.info64 rfl (by decide) (by omega) (.slice Av acc.length cv) acc (Wi.num (rest.take (Wi.wd x))) [.int .u64 (Wi.num (rest.take (Wi.wd x)))] (fun k => w.heap.size + 1 + 1 + 1 < k) (fun _ => False) rfl rfl rfl (fun _ h => h.elim) ?hfresh HO1.out.r HO1.out.below HO1.out.below.size ?hl ?_
        case hfresh => intro k hk; have := (Array.getElem?_eq_some_iff.1 HO1.out.b3).1; omega
        case hl => have := HAL.out; omega
        intro v1 w2 hr2 hb2 hg2 _
        have HP := Aside0.mk (HO1.out.app hr2 hb2 hg2)
        obtain ⟨Av1, cv1, hv1⟩ := Kd.R_slice hr2
        subst hv1
        clear hr2 hb2 hg2
        refine hK.out _ _ (Wi.cell0 HP.out.2) (fun hHeld => ?_)
        clear hK K
        refine norm_ (a' := ?_) ?_ ?_
        rotate_left
        · show Act.put _ (some 26) _ = _
          simp only [Act.put, List.setIfInBounds_toArray, List.set_cons_zero, List.set_cons_succ]
          rfl
        refine last_ (i := 7) (N := none) #[true, true, true, true, true, true, true, true] rfl rfl (by kernel_rfl) (by decide) (fun K hK => ?_)
        have hc0' := Wi.cell0 HP.out.2
        have hf0' := Wi.frozen0 HP.out.2
        refine skip_ (w1 := w2.setCell ⟨w.heap.size, 0, none⟩ (.slice Av1 (acc ++ [Wi.num (rest.take (Wi.wd x))]).length cv1)) (by rfl) rfl (by go_simp) ?_
        clear hc0' hf0'
        refine hK.out _ _ ?_
        clear hK K
        refine done_ (by kernel_rfl) ?_
        have HQ := Aside0.mk HP.out.1
        clear hHeld HP HO1 HO2
        refine NoPanic.normal ?_
        go_wp2_with fail
        go_roundw
        case rel =>
          refine ⟨k + 1, .slice Av1 (acc ++ [Wi.num (rest.take (Wi.wd x))]).length cv1, acc ++ [Wi.num (rest.take (Wi.wd x))], A', c', rest.drop (Wi.wd x), by go_num, by omega, ⟨?_⟩, ⟨HBy.out.drop _⟩, ⟨?_⟩, ⟨?_⟩, ⟨by simpa using HQ.out⟩⟩
          · rw [← HA.out, HD.out, Wi.takes, if_neg (by omega)]
          · rw [List.length_append, HAL.out]; rfl
          · have := HRL.out; rw [List.length_drop]; omega
        case measure => simp [intOf]; omega
      · refine Code.wp_mono (Q := Wi.Pk (.pointer (some ⟨w.heap.size, 0, none⟩)) (.pointer (some ⟨w.heap.size + 1, 0, none⟩)) (.pointer (some ⟨w.heap.size + 1 + 1, 0, none⟩)) [{ target := .fn (.func 77) #[.pointer (some ⟨w.heap.size, 0, none⟩), .pointer (some ⟨w.heap.size + 1, 0, none⟩), .pointer (some ⟨w.heap.size + 1 + 1, 0, none⟩)], args := #[] }] wr.drew) ?hq ?_
        case hq =>
          intro e a' w' hp
          cases e with
          | panic ch =>
            obtain ⟨⟨u, pv, rfl⟩, p4, p5, p6, pd, rfl⟩ := hp
            have HZ : Aside0 (r1 = [] ∧ r2 = [] ∧ r3 = false) := ⟨by
              have h := HA.out
              rw [HD.out, Wi.takes, if_pos (by omega)] at h
              cases h
              exact ⟨rfl, rfl, rfl⟩⟩
            obtain ⟨e1, e2, e3⟩ := HZ.out
            subst e1; subst e2; subst e3
            have HW := Aside0.mk HO.out.drew
            have c0 := Wi.cell0 HW.out.b0
            have z0 := Wi.frozen0 HW.out.b0
            have k1 := Eq.trans (Below.heap_setCell wr.drew ⟨w.heap.size, 0, none⟩ (.slice none 0 0) (w.heap.size + 1) (by show w.heap.size + 1 ≠ w.heap.size; omega)) HW.out.b1
            have k2 := Eq.trans (Below.heap_setCell wr.drew ⟨w.heap.size, 0, none⟩ (.slice none 0 0) (w.heap.size + 1 + 1) (by show w.heap.size + 1 + 1 ≠ w.heap.size; omega)) HW.out.b2
            have k2' := Eq.trans (Below.heap_setCell (wr.drew.setCell ⟨w.heap.size, 0, none⟩ (.slice none 0 0)) ⟨w.heap.size + 1, 0, none⟩ (.slice none 0 0) (w.heap.size + 1 + 1) (by show w.heap.size + 1 + 1 ≠ w.heap.size + 1; omega)) k2
            have k0 := Wi.block_set (u := .slice none 0 0) HW.out.b0
            show Leaves _ _ a'.tmps _ a'.defers (.panicking _) _
            rw [pd]
            clear HA HR0 HR1 HT HBy HAL HRL
            refine leaves_cons (f := 77) (args := #[.pointer (some ⟨w.heap.size, 0, none⟩), .pointer (some ⟨w.heap.size + 1, 0, none⟩), .pointer (some ⟨w.heap.size + 1 + 1, 0, none⟩)]) (by simp) (by simp [go_sem]) ?_
            refine (Wi.catch_panicking ⟨w.heap.size, 0, none⟩ ⟨w.heap.size + 1, 0, none⟩ ⟨w.heap.size + 1 + 1, 0, none⟩ _ _ _ u pv [] _ c0 z0 (Wi.cell0 k1) (Wi.frozen0 k1) (Wi.cell0 k2') (Wi.frozen0 k2')).mono ?_
            rintro e' u' w' ⟨rfl, rfl, rfl⟩
            have m1 := Wi.block_set (u := .slice none 0 0) k1
            have m0 := Eq.trans (Below.heap_setCell (wr.drew.setCell ⟨w.heap.size, 0, none⟩ (.slice none 0 0)) ⟨w.heap.size + 1, 0, none⟩ (.slice none 0 0) (w.heap.size) (by show w.heap.size ≠ w.heap.size + 1; omega)) k0
            have n0 := Eq.trans (Below.heap_setCell ((wr.drew.setCell ⟨w.heap.size, 0, none⟩ (.slice none 0 0)).setCell ⟨w.heap.size + 1, 0, none⟩ (.slice none 0 0)) ⟨w.heap.size + 1 + 1, 0, none⟩ (.bool false) (w.heap.size) (by show w.heap.size ≠ w.heap.size + 1 + 1; omega)) m0
            have n1 := Eq.trans (Below.heap_setCell ((wr.drew.setCell ⟨w.heap.size, 0, none⟩ (.slice none 0 0)).setCell ⟨w.heap.size + 1, 0, none⟩ (.slice none 0 0)) ⟨w.heap.size + 1 + 1, 0, none⟩ (.bool false) (w.heap.size + 1) (by show w.heap.size + 1 ≠ w.heap.size + 1 + 1; omega)) m1
            have n2 := Wi.block_set (u := .bool false) k2'
            have d0 := Wi.cell0 n0
            have d1 := Wi.cell0 n1
            have d2 := Wi.cell0 n2
            clear c0 z0 k1 k2 k2' k0 m1 m0 n0 n1 n2
            have hB := ((HW.out.below.setCell (p := ⟨w.heap.size, 0, none⟩) (Nat.le_refl _) (.slice none 0 0)).setCell (p := ⟨w.heap.size + 1, 0, none⟩) (by show w.heap.size ≤ w.heap.size + 1; omega) (.slice none 0 0)).setCell (p := ⟨w.heap.size + 1 + 1, 0, none⟩) (by show w.heap.size ≤ w.heap.size + 1 + 1; omega) (.bool false)
            generalize ((wr.drew.setCell ⟨w.heap.size, 0, none⟩ (.slice none 0 0)).setCell ⟨w.heap.size + 1, 0, none⟩ (.slice none 0 0)).setCell ⟨w.heap.size + 1 + 1, 0, none⟩ (.bool false) = WW at d0 d1 d2 hB ⊢
            refine ⟨.tuple #[.slice none 0 0, .slice none 0 0, .bool false], by simp [results, Tryd.results65, go_sem, Act.eval, p4, p5, p6, d0, d1, d2], ?_⟩
            refine ⟨_, _, rfl, Kd.R_nil _ _ _ _ _, Kd.R_nil _ _ _ _ _, ?_⟩
            exact hB
          | normal => exact hp.elim
          | ret => exact hp.elim
          | exit _ => exact hp.elim
          | goto _ => exact hp.elim
          | outgrown => exact hp.elim
        have hwd := Wi.wd_range x
        obtain ⟨Av, cv, hvv⟩ := Kd.R_slice HO.out.r
        subst hvv
        refine start_ (n := 8) (S := (fun w' => w'.cell? ⟨w.heap.size, 0, none⟩ = some (.slice Av acc.length cv))) (ds := [7]) #[false, false, false, false, false, false, false, false] (by kernel_rfl) rfl rfl (Wi.cell0 HO.out.drew.b0) (fun hHeld => ?_)
        refine pure_ (i := 1) (N := (some 21)) (v := ?_) (a' := ?_) #[false, true, false, false, false, false, false, false] rfl rfl (by kernel_rfl) (fun _ _ _ h => Wi.Pk.put (by decide) h) (Or.inl ⟨by rfl, ?_⟩) ?_ ?_
        rotate_left
        · intro w'
          go_simp
          first | done | with_reducible rfl
        rotate_left
        · simp only [Act.put, List.setIfInBounds_toArray, List.set_cons_zero, List.set_cons_succ]
          rfl
        refine pure_ (i := 2) (N := (some 22)) (v := ?_) (a' := ?_) #[false, true, true, false, false, false, false, false] rfl rfl (by kernel_rfl) (fun _ _ _ h => Wi.Pk.put (by decide) h) (Or.inl ⟨by rfl, ?_⟩) ?_ ?_
        rotate_left
        · intro w'
          go_simp
          first | done | with_reducible rfl
        rotate_left
        · simp only [Act.put, List.setIfInBounds_toArray, List.set_cons_zero, List.set_cons_succ]
          rfl
        refine take_ (i := 0) (N := (some 20)) (v := ?_) (a' := ?_) #[true, true, true, false, false, false, false, false] rfl rfl (by kernel_rfl) (fun _ _ _ h => Wi.Pk.put (by decide) h) (Or.inl ⟨by rfl, ?_⟩) hHeld ?_ ?_
        rotate_left
        · intro w' hS'
          go_simp
          first | done | with_reducible rfl
        rotate_left
        · simp only [Act.put, List.setIfInBounds_toArray, List.set_cons_zero, List.set_cons_succ]
          rfl
        refine one_ (i := 3) (N := (some 23)) #[true, true, true, true, false, false, false, false] rfl rfl (by kernel_rfl) (by decide) (fun K hK => ?_)
        refine call_ 52 #[.int .i64 x] (by rfl) rfl (by go_simp) ?_
        refine (Wi.width_is x _).mono ?_
        rintro e w' ⟨rfl, rfl⟩
        refine ⟨_, rfl, ?_⟩
        refine hK.out _ _ hHeld (fun hHeld => ?_)
        clear hK K
        refine norm_ (a' := ?_) ?_ ?_
        rotate_left
        · show Act.put _ (some 23) _ = _
          simp only [Act.put, List.setIfInBounds_toArray, List.set_cons_zero, List.set_cons_succ]
          rfl
        refine one_ (i := 4) (N := (some 24)) #[true, true, true, true, true, false, false, false] rfl rfl (by kernel_rfl) (by decide) (fun K hK => ?_)
        refine Wi.callp_ 78 #[.pointer (some ⟨w.heap.size + 1 + 1 + 1, 0, none⟩), .int .i64 (Wi.wd x)] (by rfl) rfl (by go_simp) ?_
        refine (Wi.number_short _ A c rest (Wi.wd x) hwd.2 _ HO.out.drew.b3 (by omega)).mono ?_
        rintro e w' ⟨⟨u, pv, rfl⟩, rfl⟩
        exact .inr ⟨_, rfl, ⟨u, pv, rfl⟩, rfl, rfl, rfl, rfl, rfl⟩
    · go_wp2_with fail
      refine wp_region_noPanic ?_
      obtain ⟨Av, cv, hvv⟩ := Kd.R_slice HO.out.r
      subst hvv
      refine start_ (n := 9) (S := (fun w' => w'.cell? ⟨w.heap.size, 0, none⟩ = some (.slice Av acc.length cv) ∧ w'.cell? ⟨w.heap.size + 1 + 1 + 1, 0, none⟩ = some (.slice A rest.length c))) (ds := [6, 7, 8]) #[false, false, false, false, false, false, false, false, false] (by kernel_rfl) rfl rfl ⟨Wi.cell0 HO.out.drew.b0, Wi.cell0 HO.out.drew.b3⟩ (fun hHeld => ?_)
      refine take_ (i := 0) (N := (some 28)) (v := ?_) (a' := ?_) #[true, false, false, false, false, false, false, false, false] rfl rfl (by kernel_rfl) (fun _ _ _ h => h) (Or.inl ⟨by rfl, ?_⟩) hHeld ?_ ?_
      rotate_left
      · intro w' hS'
        (obtain ⟨hS0, _⟩ := hS'; go_simp)
        first | done | with_reducible rfl
      rotate_left
      · simp only [Act.put, List.setIfInBounds_toArray, List.set_cons_zero, List.set_cons_succ]
        rfl
      refine pure_ (i := 1) (N := (some 29)) (v := ?_) (a' := ?_) #[true, true, false, false, false, false, false, false, false] rfl rfl (by kernel_rfl) (fun _ _ _ h => h) (Or.inl ⟨by rfl, ?_⟩) ?_ ?_
      rotate_left
      · intro w'
        go_simp
        first | done | with_reducible rfl
      rotate_left
      · simp only [Act.put, List.setIfInBounds_toArray, List.set_cons_zero, List.set_cons_succ]
        rfl
      refine pure_ (i := 2) (N := (some 30)) (v := ?_) (a' := ?_) #[true, true, true, false, false, false, false, false, false] rfl rfl (by kernel_rfl) (fun _ _ _ h => h) (Or.inl ⟨by rfl, ?_⟩) ?_ ?_
      rotate_left
      · intro w'
        go_simp
        first | done | with_reducible rfl
      rotate_left
      · simp only [Act.put, List.setIfInBounds_toArray, List.set_cons_zero, List.set_cons_succ]
        rfl
      refine pure_ (i := 3) (N := (some 31)) (v := ?_) (a' := ?_) #[true, true, true, true, false, false, false, false, false] rfl rfl (by kernel_rfl) (fun _ _ _ h => h) (Or.inl ⟨by rfl, ?_⟩) ?_ ?_
      rotate_left
      · intro w'
        go_simp
        first | done | with_reducible rfl
      rotate_left
      · simp only [Act.put, List.setIfInBounds_toArray, List.set_cons_zero, List.set_cons_succ]
        rfl
      refine take_ (i := 4) (N := (some 32)) (v := ?_) (a' := ?_) #[true, true, true, true, true, false, false, false, false] rfl rfl (by kernel_rfl) (fun _ _ _ h => h) (Or.inl ⟨by rfl, ?_⟩) hHeld ?_ ?_
      rotate_left
      · intro w' hS'
        (obtain ⟨_, hS1⟩ := hS'; go_simp)
        first | done | with_reducible rfl
      rotate_left
      · simp only [Act.put, List.setIfInBounds_toArray, List.set_cons_zero, List.set_cons_succ]
        rfl
      refine one_ (i := 5) (N := (some 33)) #[true, true, true, true, true, true, false, false, false] rfl rfl (by kernel_rfl) (by decide) (fun K hK => ?_)
      refine call_ 41 #[.slice A rest.length c] (by rfl) rfl (by go_simp) ?_
      refine (clone_.calls A c rest rest _ (Kd.C_below HO.out.reads HO.out.drew.below) HO.out.cap (by unfold clone_.f; rw [if_pos (by have := HRL.out; omega)])).mono ?_
      rintro e w1 ⟨v1, rfl, hr1, hb1⟩
      have HO1 := Aside0.mk (HO.out.drew.step (fun k hk => hb1.block k hk) (below_then HO.out.drew.below HO.out.drew.below.size hb1))
      have HR1' := Aside0.mk hr1
      have HB1 := Aside0.mk hb1
      obtain ⟨Av1, cv1, hv1⟩ := Kd.R_slice hr1
      subst hv1
      clear hr1 hb1
      refine ⟨_, rfl, ?_⟩
      refine hK.out _ _ ⟨Wi.cell0 HO1.out.b0, Wi.cell0 HO1.out.b3⟩ (fun hHeld => ?_)
      clear hK K
      refine norm_ (a' := ?_) ?_ ?_
      rotate_left
      · show Act.put _ (some 33) _ = _
        simp only [Act.put, List.setIfInBounds_toArray, List.set_cons_zero, List.set_cons_succ]
        rfl
      have b0 := HO1.out.b0
      have b1 := HO1.out.b1
      have b2 := HO1.out.b2
      refine last_ (i := 6) (N := none) #[true, true, true, true, true, true, true, false, false] rfl rfl (by kernel_rfl) (by decide) (fun K hK => ?_)
      have hc0' := Wi.cell0 b0
      have hf0' := Wi.frozen0 b0
      refine skip_ (w1 := w1.setCell ⟨w.heap.size, 0, none⟩ (.slice Av acc.length cv)) (by rfl) rfl (by go_simp) ?_
      clear hc0' hf0'
      refine hK.out _ _ ?_
      clear hK K
      have k0 := Wi.block_set (u := .slice Av acc.length cv) b0
      have k1 := Eq.trans (Below.heap_setCell w1 ⟨w.heap.size, 0, none⟩ (.slice Av acc.length cv) (w.heap.size + 1) (by show w.heap.size + 1 ≠ w.heap.size; omega)) b1
      have k2 := Eq.trans (Below.heap_setCell w1 ⟨w.heap.size, 0, none⟩ (.slice Av acc.length cv) (w.heap.size + 1 + 1) (by show w.heap.size + 1 + 1 ≠ w.heap.size; omega)) b2
      clear b0 b1 b2
      refine last_ (i := 7) (N := none) #[true, true, true, true, true, true, true, true, false] rfl rfl (by kernel_rfl) (by decide) (fun K hK => ?_)
      have hc0' := Wi.cell0 k1
      have hf0' := Wi.frozen0 k1
      refine skip_ (w1 := (w1.setCell ⟨w.heap.size, 0, none⟩ (.slice Av acc.length cv)).setCell ⟨w.heap.size + 1, 0, none⟩ (.slice Av1 rest.length cv1)) (by rfl) rfl (by go_simp) ?_
      clear hc0' hf0'
      refine hK.out _ _ ?_
      clear hK K
      have m1 := Wi.block_set (u := .slice Av1 rest.length cv1) k1
      have m0 := Eq.trans (Below.heap_setCell (w1.setCell ⟨w.heap.size, 0, none⟩ (.slice Av acc.length cv)) ⟨w.heap.size + 1, 0, none⟩ (.slice Av1 rest.length cv1) (w.heap.size) (by show w.heap.size ≠ w.heap.size + 1; omega)) k0
      have m2 := Eq.trans (Below.heap_setCell (w1.setCell ⟨w.heap.size, 0, none⟩ (.slice Av acc.length cv)) ⟨w.heap.size + 1, 0, none⟩ (.slice Av1 rest.length cv1) (w.heap.size + 1 + 1) (by show w.heap.size + 1 + 1 ≠ w.heap.size + 1; omega)) k2
      clear k0 k1 k2
      refine last_ (i := 8) (N := none) #[true, true, true, true, true, true, true, true, true] rfl rfl (by kernel_rfl) (by decide) (fun K hK => ?_)
      have hc0' := Wi.cell0 m2
      have hf0' := Wi.frozen0 m2
      refine skip_ (w1 := ((w1.setCell ⟨w.heap.size, 0, none⟩ (.slice Av acc.length cv)).setCell ⟨w.heap.size + 1, 0, none⟩ (.slice Av1 rest.length cv1)).setCell ⟨w.heap.size + 1 + 1, 0, none⟩ (.bool true)) (by rfl) rfl (by go_simp) ?_
      clear hc0' hf0'
      refine hK.out _ _ ?_
      clear hK K
      have n0 := Eq.trans (Below.heap_setCell ((w1.setCell ⟨w.heap.size, 0, none⟩ (.slice Av acc.length cv)).setCell ⟨w.heap.size + 1, 0, none⟩ (.slice Av1 rest.length cv1)) ⟨w.heap.size + 1 + 1, 0, none⟩ (.bool true) (w.heap.size) (by show w.heap.size ≠ w.heap.size + 1 + 1; omega)) m0
      have n1 := Eq.trans (Below.heap_setCell ((w1.setCell ⟨w.heap.size, 0, none⟩ (.slice Av acc.length cv)).setCell ⟨w.heap.size + 1, 0, none⟩ (.slice Av1 rest.length cv1)) ⟨w.heap.size + 1 + 1, 0, none⟩ (.bool true) (w.heap.size + 1) (by show w.heap.size + 1 ≠ w.heap.size + 1 + 1; omega)) m1
      have n2 := Wi.block_set (u := .bool true) m2
      have d0 := Wi.cell0 n0
      have d1 := Wi.cell0 n1
      have d2 := Wi.cell0 n2
      clear m0 m1 m2 n0 n1 n2
      refine done_ (by kernel_rfl) ?_
      refine NoPanic.normal ?_
      have HRR : Aside0 (r1 = acc ∧ r2 = rest ∧ r3 = true) := ⟨by
        have h := HA.out
        rw [List.drop_eq_nil_of_le (by omega), Wi.takes] at h
        cases h
        exact ⟨rfl, rfl, rfl⟩⟩
      obtain ⟨e1, e2, e3⟩ := HRR.out
      subst e1; subst e2; subst e3
      clear HA HT HR0 HR1 HBy HAL HRL
      have hR1 : Kd.R (Kd.int .u64) 42 (((w1.setCell ⟨w.heap.size, 0, none⟩ (.slice Av r1.length cv)).setCell ⟨w.heap.size + 1, 0, none⟩ (.slice Av1 r2.length cv1)).setCell ⟨w.heap.size + 1 + 1, 0, none⟩ (.bool true)) w.heap.size (fun _ => True) (.slice Av r1.length cv) r1 := Kd.R_mono (Kd.R_far (p := ⟨w.heap.size + 1 + 1, 0, none⟩) (Kd.R_far (p := ⟨w.heap.size + 1, 0, none⟩) (Kd.R_far (p := ⟨w.heap.size, 0, none⟩) HO1.out.r (fun k hk => by show k ≠ w.heap.size; omega) _) (fun k hk => by show k ≠ w.heap.size + 1; omega) _) (fun k hk => by show k ≠ w.heap.size + 1 + 1; omega) _) (fun _ _ => trivial)
      have hl3 : w.heap.size + 1 + 1 + 1 < wr.drew.heap.size := (Array.getElem?_eq_some_iff.1 HO.out.drew.b3).1
      have hR2 : Kd.R (Kd.int .u8) 5 (((w1.setCell ⟨w.heap.size, 0, none⟩ (.slice Av r1.length cv)).setCell ⟨w.heap.size + 1, 0, none⟩ (.slice Av1 r2.length cv1)).setCell ⟨w.heap.size + 1 + 1, 0, none⟩ (.bool true)) w.heap.size (fun _ => True) (.slice Av1 r2.length cv1) r2 := Kd.R_lower (Kd.R_mono (Kd.R_far (p := ⟨w.heap.size + 1 + 1, 0, none⟩) (Kd.R_far (p := ⟨w.heap.size + 1, 0, none⟩) (Kd.R_far (p := ⟨w.heap.size, 0, none⟩) (Kd.R_bound HR1'.out) (fun k hk => by have := hk.2.1; show k ≠ w.heap.size; omega) _) (fun k hk => by have := hk.2.1; show k ≠ w.heap.size + 1; omega) _) (fun k hk => by have := hk.2.1; show k ≠ w.heap.size + 1 + 1; omega) _) (fun _ _ => trivial)) (by omega)
      have hB := ((HO1.out.below.setCell (p := ⟨w.heap.size, 0, none⟩) (Nat.le_refl _) (.slice Av r1.length cv)).setCell (p := ⟨w.heap.size + 1, 0, none⟩) (by show w.heap.size ≤ w.heap.size + 1; omega) (.slice Av1 r2.length cv1)).setCell (p := ⟨w.heap.size + 1 + 1, 0, none⟩) (by show w.heap.size ≤ w.heap.size + 1 + 1; omega) (.bool true)
      clear HO1 HB1 HR1' hHeld HO
      generalize ((w1.setCell ⟨w.heap.size, 0, none⟩ (.slice Av r1.length cv)).setCell ⟨w.heap.size + 1, 0, none⟩ (.slice Av1 r2.length cv1)).setCell ⟨w.heap.size + 1 + 1, 0, none⟩ (.bool true) = WW at d0 d1 d2 hB hR1 hR2 ⊢
      have HX1 := Aside0.mk hR1
      have HX2 := Aside0.mk hR2
      have HX3 := Aside0.mk hB
      clear hR1 hR2 hB
      go_wp2_with fail
      refine leaves_cons (f := 77) (args := #[.pointer (some ⟨w.heap.size, 0, none⟩), .pointer (some ⟨w.heap.size + 1, 0, none⟩), .pointer (some ⟨w.heap.size + 1 + 1, 0, none⟩)]) (by simp) (by simp [go_sem]) ?_
      refine (Wi.catch_idle ⟨w.heap.size, 0, none⟩ ⟨w.heap.size + 1, 0, none⟩ ⟨w.heap.size + 1 + 1, 0, none⟩ _).mono ?_
      rintro e' u' w' ⟨rfl, rfl, rfl⟩
      refine ⟨.tuple #[.slice Av r1.length cv, .slice Av1 r2.length cv1, .bool true], by simp [results, Tryd.results65, go_sem, Act.eval, d0, d1, d2], ?_⟩
      exact ⟨_, _, rfl, HX1.out, HX2.out, HX3.out⟩
end Go.Proofs.YtgljicdpcapgnaaDoor
namespace Go.Proofs.YtgljicdpcapgnaaDoor
open Go.RowKit Go.Proofs.YtgljicdpcapgnaaDoorW.PrintWords Go.Proofs.YtgljicdpcapgnaaDoorW.PrintLast Go.Proofs.YtgljicdpcapgnaaDoorW.PrintMore
attribute [local go_sem] max2_int min2_int max_two min_two max_three min_three max_four min_four
set_option linter.unusedVariables false
set_option linter.unusedSimpArgs false
def wire_width.f (a0 : Int) : Option (Int) := if a0 = 1 then (some a0) else (if a0 = 2 then (some a0) else (if a0 = 4 then (some a0) else (some 8)))
set_option maxHeartbeats 8000000 in
set_option maxRecDepth 100000 in
theorem wire_width.calls (a0 : Int) (r : Int) (w : World) (h : wire_width.f a0 = some r) :
  Calls Tryd.prog 52 #[.int .i64 a0] w fun e w' => e = .returned (.int .i64 r) ∧ Drawn0 w w' := by
 have H : (if a0 = 1 then (some a0) else (if a0 = 2 then (some a0) else (if a0 = 4 then (some a0) else (some 8)))) = some r := h
 clear h
 by_cases c2 : a0 = 1
 ·rw [if_pos c2] at H
  have c2b0 : (a0 == 1) = true := beq_iff_eq.mpr c2
  have c2b1 : (a0 != 1) = false := bne_eq_false_iff_eq.mpr c2
  clear c2
  obtain rfl := Option.some.inj H
  go_enter Tryd.func52, Tryd.ntmps52
  go_wp2
  go_ret
  exact ⟨by first | rfl | (simp; done) | (simp [*]; done), by repeat (first | exact Drawn0.refl _ | apply Drawn0.step)⟩
 ·rw [if_neg c2] at H
  have c2b0 : (a0 == 1) = false := beq_eq_false_iff_ne.mpr c2
  have c2b1 : (a0 != 1) = true := bne_iff_ne.mpr c2
  by_cases c3 : a0 = 2
  ·rw [if_pos c3] at H
   have c3b0 : (a0 == 2) = true := beq_iff_eq.mpr c3
   have c3b1 : (a0 != 2) = false := bne_eq_false_iff_eq.mpr c3
   clear c3
   obtain rfl := Option.some.inj H
   go_enter Tryd.func52, Tryd.ntmps52
   go_wp2
   go_ret
   exact ⟨by first | rfl | (simp; done) | (simp [*]; done), by repeat (first | exact Drawn0.refl _ | apply Drawn0.step)⟩
  ·rw [if_neg c3] at H
   have c3b0 : (a0 == 2) = false := beq_eq_false_iff_ne.mpr c3
   have c3b1 : (a0 != 2) = true := bne_iff_ne.mpr c3
   by_cases c4 : a0 = 4
   ·rw [if_pos c4] at H
    have c4b0 : (a0 == 4) = true := beq_iff_eq.mpr c4
    have c4b1 : (a0 != 4) = false := bne_eq_false_iff_eq.mpr c4
    clear c4
    obtain rfl := Option.some.inj H
    go_enter Tryd.func52, Tryd.ntmps52
    go_wp2
    go_ret
    exact ⟨by first | rfl | (simp; done) | (simp [*]; done), by repeat (first | exact Drawn0.refl _ | apply Drawn0.step)⟩
   ·rw [if_neg c4] at H
    have c4b0 : (a0 == 4) = false := beq_eq_false_iff_ne.mpr c4
    have c4b1 : (a0 != 4) = true := bne_iff_ne.mpr c4
    obtain rfl := Option.some.inj H
    go_enter Tryd.func52, Tryd.ntmps52
    go_wp2
    go_ret
    exact ⟨by first | rfl | (simp; done) | (simp [*]; done), by repeat (first | exact Drawn0.refl _ | apply Drawn0.step)⟩
mutual
def wire_Pack.l0 : Nat → List Int → List Int → List Int → Int → Int → Option (List Int)
  | 0, _, _, _, _, _ => none
  | k + 1, x0, x1, x5, x12, x13 => if x13 < x12 then (if 0 ≤ x13 then (if x13 < (x0.length : Int) then ((wire_width.f (rd x0 x13)).bind fun t102 => (wire_Pack.l1 k x0 x1 x5 x13 (wrap64 (8 * t102)) x12 x13)) else (none)) else (none)) else (some x5)
def wire_Pack.l1 : Nat → List Int → List Int → List Int → Int → Int → Int → Int → Option (List Int)
  | 0, _, _, _, _, _, _, _ => none
  | k + 1, x0, x1, x5, x6, x7, x12, x13 => if x7 > 0 then (if 0 ≤ x6 then (if x6 < (x1.length : Int) then (if 0 ≤ (wrap64 (x7 - 8)) then (if x5.length < 140737488355328 then (wire_Pack.l1 k x0 x1 (x5 ++ [(shr .u64 (rd x1 x6) (wrap64 (x7 - 8))) % 256]) x6 (wrap64 (x7 - 8)) x12 x13) else (none)) else (none)) else (none)) else (none)) else (wire_Pack.l0 k x0 x1 x5 x12 (wrap64 (x13 + 1)))
end
def wire_Pack.f (k : Nat) (l0 : List Int) (l1 : List Int) : Option (List Int) := wire_Pack.l0 k l0 l1 ([] : List Int) (mn (l0.length : Int) (l1.length : Int)) 0
set_option maxHeartbeats 8000000 in
set_option maxRecDepth 100000 in
theorem wire_Pack.calls (k : Nat) (A0 : Option Addr) (c0 : Nat) (l0 : List Int) (A1 : Option Addr) (c1 : Nat) (l1 : List Int) (r : List Int) (w : World) (hr0 : Kd.C (Kd.int .i64) w A0 l0.length l0) (hc0 : l0.length ≤ c0) (hr1 : Kd.C (Kd.int .u64) w A1 l1.length l1) (hc1 : l1.length ≤ c1) (h : wire_Pack.f k l0 l1 = some r) :
    Calls Tryd.prog 38 #[.slice A0 l0.length c0, .slice A1 l1.length c1] w fun e w' => ∃ v0_ : Value, e = .returned (v0_) ∧ Kd.R (Kd.int .u8) 5 w' w.heap.size (fun _ => True) v0_ r ∧ Below w.heap.size w w' := by
  have HR0 := Aside0.mk hr0
  have HC0 := Aside0.mk hc0
  clear hr0 hc0
  have HR1 := Aside0.mk hr1
  have HC1 := Aside0.mk hc1
  clear hr1 hc1
  have HB := Aside0.mk (Below.refl w.heap.size w)
  have H : (wire_Pack.l0 k l0 l1 ([] : List Int) (mn (l0.length : Int) (l1.length : Int)) 0) = some r := h
  clear h
  obtain ⟨ji3, hji3⟩ : ∃ j_ : Int, (mn (l0.length : Int) (l1.length : Int)) = j_ := ⟨_, rfl⟩
  replace H : (wire_Pack.l0 k l0 l1 ([] : List Int) ji3 0) = some r := by first | (rw [hji3] at H; exact H) | (simp only [hji3] at H ⊢; exact H)
  (try (have hji3l : 0 ≤ ji3 := by (rw [← hji3]; unfold mn; (repeat' split) <;> omega)))
  (try (have hji3m : 0 ≤ ji3 := by omega))
  have hji3_ : (if (l1.length : Int) < (l0.length : Int) then (l1.length : Int) else (l0.length : Int)) = ji3 := hji3
  have H' := Aside0.mk H
  clear H
  go_enter Tryd.func38, Tryd.ntmps38
  go_wp2
  all_goals
    first
      | (have emn : (l0.length : Int) = ji3 := by rw [← hji3]; unfold mn; rw [if_neg (by omega)])
      | (have emn : (l1.length : Int) = ji3 := by rw [← hji3]; unfold mn; rw [if_pos (by omega)])
    rw [emn]
    clear emn
    clear hji3_
    rename_i hKK
    have HKK := Aside0.mk hKK
    clear hKK
    clear h
    go_loopg [5, 13] k (fun kq v5 v13 w' => ∃ (x5_1 : List Int) (x13_1 : Int), v13 = .int .i64 x13_1 ∧ Aside0 (wire_Pack.l0 kq l0 l1 x5_1 ji3 x13_1 = some r) ∧ Aside0 (kq ≤ k) ∧ Aside0 (Kd.R (Kd.int .u8) 5 w' w.heap.size (fun _ => True) v5 x5_1) ∧ Aside0 (Below w.heap.size w w'))
    case atStart => exact ⟨(([] : List Int)), (0), (by first | rfl | (simp; done) | (simp [*]; done)), H', ⟨Nat.le_refl _⟩, ⟨by first | exact Kd.R_nil _ _ _ _ _ | exact Kd.N_nil _ _ _ _ _ | exact Kd.V_nil _ _ _ _ _ | exact Kd.Q_nil _ _ _ _ _ | exact Kd.S_nil _ _ _ _ _⟩, ⟨by repeat (first | (with_reducible first | exact HB.out | apply below_alloc | apply pw_below_drewN | apply below_drew1) | exact HB.out)⟩⟩
    case round =>
      clear H'
      try clear c1
      try clear p2
      obtain ⟨x5_1, x13_1, rfl, HA, HK1, HO_5, HB⟩ := hrel
      cases gk with
      | zero => exact absurd HA.out (by simp [wire_Pack.l0])
      | succ k1 =>
        have H := HA.out
        clear HA
        simp only [wire_Pack.l0] at H
        by_cases c4 : x13_1 < ji3
        · rw [if_pos c4] at H
          have c4b0 : decide (x13_1 < ji3) = true := decide_eq_true c4
          clear c4
          by_cases c5 : 0 ≤ x13_1
          · rw [if_pos c5] at H
            have c5b0 : decide (0 ≤ x13_1) = true := decide_eq_true c5
            clear c5
            by_cases c6 : x13_1 < (l0.length : Int)
            · rw [if_pos c6] at H
              have c6b0 : decide (x13_1 < (l0.length : Int)) = true := decide_eq_true c6
              clear c6
              replace H := Option.bind_eq_some_iff.mp H
              obtain ⟨t102, A70, H⟩ := H
              replace H : (wire_Pack.l1 k1 l0 l1 x5_1 x13_1 (wrap64 (8 * t102)) ji3 x13_1) = some r := H
              have A7 := Aside0.mk A70
              clear A70
              have H' := Aside0.mk H
              clear H
              have p101 : 0 ≤ (x13_1 : Int) := of_decide_eq_true (by first | (with_reducible assumption) | assumption)
              have q101 : x13_1 < (l0.length : Int) := of_decide_eq_true (by first | (with_reducible assumption) | assumption)
              obtain ⟨ad101, e101, hx101_0⟩ := Kd.at_int HR0.out x13_1 p101 q101
              cases e101
              replace hx101_0 := (HB.out.cell (World.block_lt_of_cell? w _ hx101_0)).trans hx101_0
              replace p101 := eq_true p101
              replace q101 := eq_true q101
              go_wp2_with (first | ((with_reducible refine gate_callee (f := 52) rfl ?_); refine goesL_ (some 20) rfl rfl Tryd.func52 (by kernel_rfl) rfl #[.int .i64 (rd l0 x13_1)] rfl (by (try simp only [List.map_toArray, List.map_cons, List.map_nil]); first | done | rfl | (simp only [List.length_drop, List.length_take]; rfl)) ?_; (with_reducible refine (wire_width.calls (rd l0 x13_1) t102 _ A7.out).mono ?_); rintro e w' ⟨rfl, ⟨nd, rfl⟩⟩; refine ⟨_, rfl, ?_⟩))
              go_loopg [5, 7] k1 (fun kq v5 v7 w' => ∃ (x5_2 : List Int) (x7_2 : Int), v7 = .int .i64 x7_2 ∧ Aside0 (wire_Pack.l1 kq l0 l1 x5_2 x13_1 x7_2 ji3 x13_1 = some r) ∧ Aside0 (kq ≤ k1) ∧ Aside0 (Kd.R (Kd.int .u8) 5 w' w.heap.size (fun _ => True) v5 x5_2) ∧ Aside0 (Below w.heap.size w w'))
              case atStart => exact ⟨(x5_1), (wrap64 (8 * t102)), (by first | rfl | (simp; done) | (simp [*]; done)), H', ⟨Nat.le_refl _⟩, ⟨by (with_reducible repeat (first | apply Kd.R_alloc | apply Kd.R_drewN | apply Kd.R_drew)); exact HO_5.out⟩, ⟨by repeat (first | (with_reducible first | exact HB.out | apply below_alloc | apply pw_below_drewN | apply below_drew1) | exact HB.out)⟩⟩
              case round =>
                clear H'
                try clear c1
                try clear p1
                try clear q1
                try clear hx1
                try clear p2
                try clear c4
                try clear c4b0
                try clear c5
                try clear c5b0
                try clear c6
                try clear c6b0
                try clear p6
                try clear hx101_0
                try clear p101
                try clear p2
                try clear q101
                obtain ⟨x5_2, x7_2, rfl, HA, HK2, HO_5, HB⟩ := hrel
                cases gk with
                | zero => exact absurd HA.out (by simp [wire_Pack.l1])
                | succ k2 =>
                  have H := HA.out
                  clear HA
                  simp only [wire_Pack.l1] at H
                  by_cases c8 : x7_2 > 0
                  · rw [if_pos c8] at H
                    have c8b0 : decide (0 < x7_2) = true := decide_eq_true c8
                    clear c8
                    by_cases c9 : 0 ≤ x13_1
                    · rw [if_pos c9] at H
                      have c9b0 : decide (0 ≤ x13_1) = true := decide_eq_true c9
                      clear c9
                      by_cases c10 : x13_1 < (l1.length : Int)
                      · rw [if_pos c10] at H
                        have c10b0 : decide (x13_1 < (l1.length : Int)) = true := decide_eq_true c10
                        clear c10
                        obtain ⟨ji11, hji11⟩ : ∃ j_ : Int, (wrap64 (x7_2 - 8)) = j_ := ⟨_, rfl⟩
                        replace H : (if 0 ≤ (ji11) then (if x5_2.length < 140737488355328 then (wire_Pack.l1 k2 l0 l1 (x5_2 ++ [(shr .u64 (rd l1 x13_1) (ji11)) % 256]) x13_1 ji11 ji3 x13_1) else (none)) else (none)) = some r := by first | (rw [hji11] at H; exact H) | (simp only [hji11] at H ⊢; exact H)
                        have hji11w : (IntKind.i64.wrap (x7_2 - 8)) = ji11 := (i64_w _).trans hji11
                        by_cases c12 : 0 ≤ (ji11)
                        · rw [if_pos c12] at H
                          have c12b0 := eq_true c12
                          have c12b1 : decide (0 ≤ (ji11)) = true := decide_eq_true c12
                          clear c12
                          obtain ⟨ji13, hji13⟩ : ∃ j_ : Int, (shr .u64 (rd l1 x13_1) (ji11)) = j_ := ⟨_, rfl⟩
                          replace H : (if x5_2.length < 140737488355328 then (wire_Pack.l1 k2 l0 l1 (x5_2 ++ [(ji13) % 256]) x13_1 ji11 ji3 x13_1) else (none)) = some r := by first | (rw [hji13] at H; exact H) | (simp only [hji13] at H ⊢; exact H)
                          have hji13_ : ((rd l1 x13_1) / 2 ^ min (ji11).toNat 64) = ji13 := hji13
                          have hji13z : (ji11) ≤ 64 → ((rd l1 x13_1) / 2 ^ (ji11).toNat) = ji13 := shr_small hji13
                          by_cases c14 : x5_2.length < 140737488355328
                          · rw [if_pos c14] at H
                            have LMc14 := Aside0.mk c14
                            clear c14
                            obtain ⟨y104, hy104⟩ : ∃ y_ : List Int, y_ = (x5_2 ++ [(ji13) % 256]) := ⟨_, rfl⟩
                            replace H : (wire_Pack.l1 k2 l0 l1 y104 x13_1 ji11 ji3 x13_1) = some r := by first | (rw [hy104]; with_reducible exact H) | (have H2_ := (Option.bind_some _ _).symm.trans H; rw [hy104]; with_reducible exact H2_) | (have H2_ := (Option.bind_some _ _).symm.trans H; with_reducible exact H2_) | with_reducible exact H | (rw [hy104]; exact H) | exact H
                            have Ny104 := Aside0.mk hy104
                            clear hy104
                            have H' := Aside0.mk H
                            clear H
                            have p103 : 0 ≤ (x13_1 : Int) := of_decide_eq_true (by first | (with_reducible assumption) | assumption)
                            have q103 : x13_1 < (l1.length : Int) := of_decide_eq_true (by first | (with_reducible assumption) | assumption)
                            obtain ⟨ad103, e103, hx103_0⟩ := Kd.at_int HR1.out x13_1 p103 q103
                            cases e103
                            replace hx103_0 := (HB.out.cell (World.block_lt_of_cell? w _ hx103_0)).trans hx103_0
                            replace p103 := eq_true p103
                            replace q103 := eq_true q103
                            go_wp2_with (first | ((with_reducible refine gate_builtin (b := .append) (xs := #[.tmp 26, .tmp 34]) rfl ?_); at_builtin; refine Kd.R_append (Kd.int .u8) (w0 := w) w.heap.size rfl (.tmp 26) (.tmp 34) 23 5 (.int .u8 0) 1 rfl Tryd.underlying23 Cl.infoByte rfl (by decide) (by omega) u5 x5_2 ((ji13) % 256) [.int .u8 ((ji13) % 256)] (fun _ => True) (fun _ => False) rfl rfl ?aP (fun _ hk => hk.elim) ?aF ?aO ?aB ?aS ?aL ?_; (case aP => exact rfl); (case aB => exact (by repeat (first | (with_reducible first | exact HB.out | apply below_alloc | apply pw_below_drewN | apply below_drew1) | exact HB.out))); (case aF => exact (fun _ _ => trivial)); (case aO => exact (by (with_reducible repeat (first | apply Kd.R_alloc | apply Kd.R_drewN | apply Kd.R_drew)); exact HO_5.out)); (case aS => exact (below_size (by repeat (first | (with_reducible first | exact HB.out | apply below_alloc | apply pw_below_drewN | apply below_drew1) | exact HB.out)))); (case aL => have := LMc14.out; omega); intro v105 w15 ho hb hg hat; rw [← Ny104.out] at ho; have n0_ := Aside0.mk (hb); have n1_ := Aside0.mk (ho); clear HB; clear HO_5; have HB := n0_; have HO106 := n1_; clear n0_ n1_; clear ho hb hg hat))
                            go_roundg k2
                            case measure => have := HK1.out; have := HK2.out; omega
                            case rel => exact ⟨(y104), (ji11), (by first | rfl | (simp; done) | (simp only [← hji11] <;> (first | rfl | simp)) | (simp [*]; done)), H', ⟨by have := HK1.out; have := HK2.out; omega⟩, ⟨by (with_reducible repeat (first | apply Kd.R_alloc | apply Kd.R_drewN | apply Kd.R_drew)); exact HO106.out⟩, ⟨by repeat (first | (with_reducible first | exact HB.out | apply below_alloc | apply pw_below_drewN | apply below_drew1) | exact HB.out)⟩⟩
                          · rw [if_neg c14] at H
                            exact absurd H (by simp)
                        · rw [if_neg c12] at H
                          exact absurd H (by simp)
                      · rw [if_neg c10] at H
                        exact absurd H (by simp)
                    · rw [if_neg c9] at H
                      exact absurd H (by simp)
                  · rw [if_neg c8] at H
                    have c8b0 : decide (0 < x7_2) = false := decide_eq_false c8
                    clear c8
                    have H' := Aside0.mk H
                    clear H
                    go_wp2
                    go_roundg k2
                    case measure => have := HK1.out; have := HK2.out; omega
                    case rel => exact ⟨(x5_2), (wrap64 (x13_1 + 1)), (by first | rfl | (simp; done) | (simp [*]; done)), H', ⟨by have := HK1.out; have := HK2.out; omega⟩, ⟨by (with_reducible repeat (first | apply Kd.R_alloc | apply Kd.R_drewN | apply Kd.R_drew)); exact HO_5.out⟩, ⟨by repeat (first | (with_reducible first | exact HB.out | apply below_alloc | apply pw_below_drewN | apply below_drew1) | exact HB.out)⟩⟩
            · rw [if_neg c6] at H
              exact absurd H (by simp)
          · rw [if_neg c5] at H
            exact absurd H (by simp)
        · rw [if_neg c4] at H
          have c4b0 : decide (x13_1 < ji3) = false := decide_eq_false c4
          clear c4
          obtain rfl := Option.some.inj H
          go_wp2
          refine HKK.out _ _ ?_
          go_wp2
          go_ret
          exact ⟨_, by first | rfl | (simp [errW_none, errW_some] <;> rfl) | (simp only [← hji3]; first | rfl | (simp [errW_none, errW_some] <;> rfl)) | (simp [*, errW_none, errW_some] <;> rfl), by (with_reducible repeat (first | apply Kd.R_alloc | apply Kd.R_drewN | apply Kd.R_drew)); exact HO_5.out, by repeat (first | (with_reducible first | exact HB.out | apply below_alloc | apply pw_below_drewN | apply below_drew1) | exact HB.out)⟩
end Go.Proofs.YtgljicdpcapgnaaDoor
namespace Go.Proofs.YtgljicdpcapgnaaDoor.PBase
open Go.RowKit Go.Proofs.YtgljicdpcapgnaaDoorW.PrintWords Go.Proofs.YtgljicdpcapgnaaDoorW.PrintLast Go.Proofs.YtgljicdpcapgnaaDoorW.PrintMore
attribute [local go_sem] max2_int min2_int max_two min_two max_three min_three max_four min_four   -- for this text's walks alone
set_option linter.unusedVariables false
set_option linter.unusedSimpArgs false
def errW : Option Int → Value
 | none => .nilIface
 | some c => .iface 0 (.int .i64 c)
theorem errW_none : errW none = .nilIface := rfl
theorem errW_some (c : Int) : errW (some c) = .iface 0 (.int .i64 c) := rfl
theorem info5 : (Tryd.prog.info? 5).map (fun i => (i.zero, i.size, i.bytes)) = some (some (.int .u8 0), 1, 1) := by kernel_rfl
theorem info33 : (Tryd.prog.info? 33).map (fun i => (i.zero, i.size, i.bytes)) = some (some (.int .u32 0), 1, 4) := by kernel_rfl
theorem info56 : (Tryd.prog.info? 56).map (fun i => (i.zero, i.size, i.bytes)) = some (some (.int .u16 0), 1, 2) := by kernel_rfl
structure S58 where
 f0 : Int
 f1 : (List Int)
 f2 : Int
 f3 : Int
 f4 : (List Int)
def z58 : S58 := ⟨(0 : Int), ([] : List Int), (0 : Int), (0 : Int), ([] : List Int)⟩
def k58 : Kd S58 := Kd.iso (Kd.pair (Kd.int .u32) (Kd.pair (Kd.slice 5 (Kd.int .u8)) (Kd.pair (Kd.int .u64) (Kd.pair (Kd.int .u64) (Kd.slice 33 (Kd.int .u32)))))) (fun x : S58 => (x.f0, x.f1, x.f2, x.f3, x.f4))
theorem k58_open {w : World} {x : S58} {cs : List Value} (h : k58.K w x cs) : ∃ A1 c1 A4 c4, cs = [.int .u32 x.f0, .slice A1 x.f1.length c1, .int .u64 x.f2, .int .u64 x.f3, .slice A4 x.f4.length c4] ∧ x.f1.length ≤ c1 ∧ (Kd.int .u8).C w A1 x.f1.length x.f1 ∧ x.f4.length ≤ c4 ∧ (Kd.int .u32).C w A4 x.f4.length x.f4 := by
 obtain ⟨_, _, rfl, rfl, ⟨_, _, rfl, ⟨A1, c1, rfl, l1, g1⟩, ⟨_, _, rfl, rfl, ⟨_, _, rfl, rfl, ⟨A4, c4, rfl, l4, g4⟩⟩⟩⟩⟩ := h
 exact ⟨A1, c1, A4, c4, rfl, l1, g1, l4, g4⟩
theorem k58_mk (w : World) (x : S58) {A1 : Option Addr} {c1 : Nat} (l1 : x.f1.length ≤ c1) (g1 : (Kd.int .u8).C w A1 x.f1.length x.f1) {A4 : Option Addr} {c4 : Nat} (l4 : x.f4.length ≤ c4) (g4 : (Kd.int .u32).C w A4 x.f4.length x.f4) : k58.K w x [.int .u32 x.f0, .slice A1 x.f1.length c1, .int .u64 x.f2, .int .u64 x.f3, .slice A4 x.f4.length c4] := ⟨[.int .u32 x.f0], [.slice A1 x.f1.length c1, .int .u64 x.f2, .int .u64 x.f3, .slice A4 x.f4.length c4], rfl, rfl, ⟨[.slice A1 x.f1.length c1], [.int .u64 x.f2, .int .u64 x.f3, .slice A4 x.f4.length c4], rfl, ⟨A1, c1, rfl, l1, g1⟩, ⟨[.int .u64 x.f2], [.int .u64 x.f3, .slice A4 x.f4.length c4], rfl, rfl, ⟨[.int .u64 x.f3], [.slice A4 x.f4.length c4], rfl, rfl, ⟨A4, c4, rfl, l4, g4⟩⟩⟩⟩⟩
theorem k58_mkM (w : World) (base : Nat) (ok : Nat → Prop) (x : S58) {v1 : Value} (g1 : (Kd.int .u8).R 5 w base ok v1 x.f1) {v4 : Value} (g4 : (Kd.int .u32).R 33 w base ok v4 x.f4) : k58.M w base ok x [.int .u32 x.f0, v1, .int .u64 x.f2, .int .u64 x.f3, v4] := ⟨[.int .u32 x.f0], [v1, .int .u64 x.f2, .int .u64 x.f3, v4], rfl, rfl, ⟨[v1], [.int .u64 x.f2, .int .u64 x.f3, v4], rfl, ⟨v1, rfl, g1⟩, ⟨[.int .u64 x.f2], [.int .u64 x.f3, v4], rfl, rfl, ⟨[.int .u64 x.f3], [v4], rfl, rfl, ⟨v4, rfl, g4⟩⟩⟩⟩⟩
def rd_T58 (xs : List S58) (i : Int) : S58 := xs.getD i.toNat z58
theorem at_T58 {w : World} {A : Option Addr} {n : Nat} {xs : List S58} (h : Kd.C k58 w A n xs) (i : Int) (h0 : 0 ≤ i) (h1 : i < n) : ∃ ad A1 c1 A4 c4, A = some ad ∧ w.cell? (ad.add (i.toNat * 5)) = some (.int .u32 (rd_T58 xs i).f0) ∧ w.cell? ⟨(ad.add (i.toNat * 5)).block, (ad.add (i.toNat * 5)).off + 1, none⟩ = some (.slice A1 (rd_T58 xs i).f1.length c1) ∧ w.cell? ⟨(ad.add (i.toNat * 5)).block, (ad.add (i.toNat * 5)).off + 2, none⟩ = some (.int .u64 (rd_T58 xs i).f2) ∧ w.cell? ⟨(ad.add (i.toNat * 5)).block, (ad.add (i.toNat * 5)).off + 3, none⟩ = some (.int .u64 (rd_T58 xs i).f3) ∧ w.cell? ⟨(ad.add (i.toNat * 5)).block, (ad.add (i.toNat * 5)).off + 4, none⟩ = some (.slice A4 (rd_T58 xs i).f4.length c4) ∧ (rd_T58 xs i).f1.length ≤ c1 ∧ (Kd.int .u8).C w A1 (rd_T58 xs i).f1.length (rd_T58 xs i).f1 ∧ (rd_T58 xs i).f4.length ≤ c4 ∧ (Kd.int .u32).C w A4 (rd_T58 xs i).f4.length (rd_T58 xs i).f4 := by
 obtain ⟨ad, c, e, _, hK, hc0⟩ := Kd.C_get h z58 i h0 h1
 have hc : ∀ j u, c[j]? = some u → w.cell? (ad.add (i.toNat * 5 + j)) = some u := hc0
 obtain ⟨A1, c1, A4, c4, rfl, l1, g1, l4, g4⟩ := k58_open hK
 exact ⟨ad, A1, c1, A4, c4, e, hc 0 _ rfl, by rw [← add_field _ _ 1 (by omega)]; exact hc 1 _ rfl, by rw [← add_field _ _ 2 (by omega)]; exact hc 2 _ rfl, by rw [← add_field _ _ 3 (by omega)]; exact hc 3 _ rfl, by rw [← add_field _ _ 4 (by omega)]; exact hc 4 _ rfl, l1, g1, l4, g4⟩
structure S61 where
 f0 : Int
 f1 : Int
 f2 : Int
 f3 : Int
 f4 : Int
 f5 : (List Int)
def z61 : S61 := ⟨(0 : Int), (0 : Int), (0 : Int), (0 : Int), (0 : Int), ([] : List Int)⟩
def k61 : Kd S61 := Kd.iso (Kd.pair (Kd.int .u16) (Kd.pair (Kd.int .u16) (Kd.pair (Kd.int .u64) (Kd.pair (Kd.int .u64) (Kd.pair (Kd.int .u32) (Kd.slice 5 (Kd.int .u8))))))) (fun x : S61 => (x.f0, x.f1, x.f2, x.f3, x.f4, x.f5))
theorem k61_open {w : World} {x : S61} {cs : List Value} (h : k61.K w x cs) : ∃ A5 c5, cs = [.int .u16 x.f0, .int .u16 x.f1, .int .u64 x.f2, .int .u64 x.f3, .int .u32 x.f4, .slice A5 x.f5.length c5] ∧ x.f5.length ≤ c5 ∧ (Kd.int .u8).C w A5 x.f5.length x.f5 := by
 obtain ⟨_, _, rfl, rfl, ⟨_, _, rfl, rfl, ⟨_, _, rfl, rfl, ⟨_, _, rfl, rfl, ⟨_, _, rfl, rfl, ⟨A5, c5, rfl, l5, g5⟩⟩⟩⟩⟩⟩ := h
 exact ⟨A5, c5, rfl, l5, g5⟩
def rd_T61 (xs : List S61) (i : Int) : S61 := xs.getD i.toNat z61
theorem at_T61 {w : World} {A : Option Addr} {n : Nat} {xs : List S61} (h : Kd.C k61 w A n xs) (i : Int) (h0 : 0 ≤ i) (h1 : i < n) : ∃ ad A5 c5, A = some ad ∧ w.cell? (ad.add (i.toNat * 6)) = some (.int .u16 (rd_T61 xs i).f0) ∧ w.cell? ⟨(ad.add (i.toNat * 6)).block, (ad.add (i.toNat * 6)).off + 1, none⟩ = some (.int .u16 (rd_T61 xs i).f1) ∧ w.cell? ⟨(ad.add (i.toNat * 6)).block, (ad.add (i.toNat * 6)).off + 2, none⟩ = some (.int .u64 (rd_T61 xs i).f2) ∧ w.cell? ⟨(ad.add (i.toNat * 6)).block, (ad.add (i.toNat * 6)).off + 3, none⟩ = some (.int .u64 (rd_T61 xs i).f3) ∧ w.cell? ⟨(ad.add (i.toNat * 6)).block, (ad.add (i.toNat * 6)).off + 4, none⟩ = some (.int .u32 (rd_T61 xs i).f4) ∧ w.cell? ⟨(ad.add (i.toNat * 6)).block, (ad.add (i.toNat * 6)).off + 5, none⟩ = some (.slice A5 (rd_T61 xs i).f5.length c5) ∧ (rd_T61 xs i).f5.length ≤ c5 ∧ (Kd.int .u8).C w A5 (rd_T61 xs i).f5.length (rd_T61 xs i).f5 := by
 obtain ⟨ad, c, e, _, hK, hc0⟩ := Kd.C_get h z61 i h0 h1
 have hc : ∀ j u, c[j]? = some u → w.cell? (ad.add (i.toNat * 6 + j)) = some u := hc0
 obtain ⟨A5, c5, rfl, l5, g5⟩ := k61_open hK
 exact ⟨ad, A5, c5, e, hc 0 _ rfl, by rw [← add_field _ _ 1 (by omega)]; exact hc 1 _ rfl, by rw [← add_field _ _ 2 (by omega)]; exact hc 2 _ rfl, by rw [← add_field _ _ 3 (by omega)]; exact hc 3 _ rfl, by rw [← add_field _ _ 4 (by omega)]; exact hc 4 _ rfl, by rw [← add_field _ _ 5 (by omega)]; exact hc 5 _ rfl, l5, g5⟩
end Go.Proofs.YtgljicdpcapgnaaDoor.PBase
namespace Go.Proofs.YtgljicdpcapgnaaDoor.PBase
open Go.RowKit Go.Proofs.YtgljicdpcapgnaaDoorW.PrintWords Go.Proofs.YtgljicdpcapgnaaDoorW.PrintLast Go.Proofs.YtgljicdpcapgnaaDoorW.PrintMore
attribute [local go_sem] max2_int min2_int max_two min_two max_three min_three max_four min_four   -- for this text's walks alone
set_option linter.unusedVariables false
set_option linter.unusedSimpArgs false
def bits_RotateLeft32.f (a0 : Int) (a1 : Int) : Option (Int) := if 0 ≤ (Go.bits .and .u64 (IntKind.u64.wrap (a1)) 31) then (if 0 ≤ (IntKind.u64.wrap (32 - (Go.bits .and .u64 (IntKind.u64.wrap (a1)) 31))) then (some (Go.bits .or .u32 (shl .u32 a0 (Go.bits .and .u64 (IntKind.u64.wrap (a1)) 31)) (shr .u32 a0 (IntKind.u64.wrap (32 - (Go.bits .and .u64 (IntKind.u64.wrap (a1)) 31)))))) else (none)) else (none)
set_option maxHeartbeats 8000000 in
set_option maxRecDepth 100000 in
theorem bits_RotateLeft32.calls (a0 : Int) (a1 : Int) (r : Int) (w : World) (h : bits_RotateLeft32.f a0 a1 = some r) :
  Calls Tryd.prog 92 #[.int .u32 a0, .int .i64 a1] w fun e w' => e = .returned (.int .u32 r) ∧ Drawn0 w w' := by
 have H : (if 0 ≤ (Go.bits .and .u64 (IntKind.u64.wrap (a1)) 31) then (if 0 ≤ (IntKind.u64.wrap (32 - (Go.bits .and .u64 (IntKind.u64.wrap (a1)) 31))) then (some (Go.bits .or .u32 (shl .u32 a0 (Go.bits .and .u64 (IntKind.u64.wrap (a1)) 31)) (shr .u32 a0 (IntKind.u64.wrap (32 - (Go.bits .and .u64 (IntKind.u64.wrap (a1)) 31)))))) else (none)) else (none)) = some r := h
 clear h
 obtain ⟨ji3, hji3⟩ : ∃ j_ : Int, (Go.bits .and .u64 (IntKind.u64.wrap (a1)) 31) = j_ := ⟨_, rfl⟩
 replace H : (if 0 ≤ (ji3) then (if 0 ≤ (IntKind.u64.wrap (32 - (ji3))) then (some (Go.bits .or .u32 (shl .u32 a0 (ji3)) (shr .u32 a0 (IntKind.u64.wrap (32 - (ji3)))))) else (none)) else (none)) = some r := by first | (rw [hji3] at H; exact H) | (simp only [hji3] at H ⊢; exact H)
 by_cases c4 : 0 ≤ (ji3)
 ·rw [if_pos c4] at H
  have c4b0 := eq_true c4
  have c4b1 : decide (0 ≤ (ji3)) = true := decide_eq_true c4
  clear c4
  obtain ⟨ji5, hji5⟩ : ∃ j_ : Int, (shl .u32 a0 (ji3)) = j_ := ⟨_, rfl⟩
  replace H : (if 0 ≤ (IntKind.u64.wrap (32 - (ji3))) then (some (Go.bits .or .u32 (ji5) (shr .u32 a0 (IntKind.u64.wrap (32 - (ji3)))))) else (none)) = some r := by first | (rw [hji5] at H; exact H) | (simp only [hji5] at H ⊢; exact H)
  have hji5_ : (IntKind.u32.wrap (a0 * 2 ^ min (ji3).toNat 32)) = ji5 := hji5
  have hji5z : (ji3) ≤ 32 → (IntKind.u32.wrap (a0 * 2 ^ (ji3).toNat)) = ji5 := shl_small hji5
  obtain ⟨ji6, hji6⟩ : ∃ j_ : Int, (IntKind.u64.wrap (32 - (ji3))) = j_ := ⟨_, rfl⟩
  replace H : (if 0 ≤ (ji6) then (some (Go.bits .or .u32 (ji5) (shr .u32 a0 (ji6)))) else (none)) = some r := by first | (rw [hji6] at H; exact H) | (simp only [hji6] at H ⊢; exact H)
  by_cases c7 : 0 ≤ (ji6)
  ·rw [if_pos c7] at H
   have c7b0 := eq_true c7
   have c7b1 : decide (0 ≤ (ji6)) = true := decide_eq_true c7
   clear c7
   obtain ⟨ji8, hji8⟩ : ∃ j_ : Int, (shr .u32 a0 (ji6)) = j_ := ⟨_, rfl⟩
   replace H : (some (Go.bits .or .u32 (ji5) (ji8))) = some r := by first | (rw [hji8] at H; exact H) | (simp only [hji8] at H ⊢; exact H)
   have hji8_ : (a0 / 2 ^ min (ji6).toNat 32) = ji8 := hji8
   have hji8z : (ji6) ≤ 32 → (a0 / 2 ^ (ji6).toNat) = ji8 := shr_small hji8
   obtain rfl := Option.some.inj H
   go_enter Tryd.func92, Tryd.ntmps92
   go_wp2
   go_ret
   exact ⟨by first | rfl | (simp; done) | (simp only [← hji3, ← hji5, ← hji6, ← hji8] <;> (first | rfl | simp)) | (simp [*]; done), by repeat (first | exact Drawn0.refl _ | apply Drawn0.step)⟩
  ·rw [if_neg c7] at H
   exact absurd H (by simp)
 ·rw [if_neg c4] at H
  exact absurd H (by simp)
def sha_ror.f (a0 : Int) (a1 : Int) : Option (Int) := (bits_RotateLeft32.f a0 (wrap64 (-a1))).bind fun t101 => (some t101)
set_option maxHeartbeats 8000000 in
set_option maxRecDepth 100000 in
theorem sha_ror.calls (a0 : Int) (a1 : Int) (r : Int) (w : World) (h : sha_ror.f a0 a1 = some r) :
  Calls Tryd.prog 89 #[.int .u32 a0, .int .i64 a1] w fun e w' => e = .returned (.int .u32 r) ∧ Drawn0 w w' := by
 have H : ((bits_RotateLeft32.f a0 (wrap64 (-a1))).bind fun t101 => (some t101)) = some r := h
 clear h
 replace H := Option.bind_eq_some_iff.mp H
 obtain ⟨t101, A30, H⟩ := H
 replace H : (some t101) = some r := H
 have A3 := Aside0.mk A30
 clear A30
 obtain rfl := Option.some.inj H
 go_enter Tryd.func89, Tryd.ntmps89
 go_wp2_with (first | ((with_reducible refine gate_callee (f := 92) rfl ?_); refine goesL_ (some 8) rfl rfl Tryd.func92 (by kernel_rfl) rfl #[.int .u32 a0, .int .i64 (wrap64 (-a1))] rfl (by (try simp only [List.map_toArray, List.map_cons, List.map_nil]); first | done | rfl | (simp only [List.length_drop, List.length_take]; rfl) | (simp only [List.length_drop, List.length_take]; (repeat rw [Nat.min_eq_left (by simp only [eq_iff_iff, iff_true] at *; omega)]); rfl)) ?_; (with_reducible refine (bits_RotateLeft32.calls a0 (wrap64 (-a1)) t101 _ A3.out).mono ?_); rintro e w' ⟨rfl, ⟨nd, rfl⟩⟩; refine ⟨_, rfl, ?_⟩))
 go_ret
 exact ⟨by first | rfl | (simp; done) | (simp [*]; done), by repeat (first | exact Drawn0.refl _ | apply Drawn0.step)⟩
def sha_four.f (l0 : List Int) : Option (Int) := if 0 < (l0.length : Int) then (if 1 < (l0.length : Int) then (if 2 < (l0.length : Int) then (if 3 < (l0.length : Int) then (some (Go.bits .or .u32 (Go.bits .or .u32 (Go.bits .or .u32 ((((rd l0 0) % 4294967296) * 16777216) % 4294967296) ((((rd l0 1) % 4294967296) * 65536) % 4294967296)) ((((rd l0 2) % 4294967296) * 256) % 4294967296)) ((rd l0 3) % 4294967296))) else (none)) else (none)) else (none)) else (none)
set_option maxHeartbeats 8000000 in
set_option maxRecDepth 100000 in
theorem sha_four.calls (A0 : Option Addr) (c0 : Nat) (l0 : List Int) (r : Int) (w : World) (hr0 : Kd.C (Kd.int .u8) w A0 l0.length l0) (hc0 : l0.length ≤ c0) (h : sha_four.f l0 = some r) :
  Calls Tryd.prog 88 #[.slice A0 l0.length c0] w fun e w' => e = .returned (.int .u32 r) ∧ Drawn0 w w' := by
 have HR0 := Aside0.mk hr0
 have HC0 := Aside0.mk hc0
 clear hr0 hc0
 have H : (if 0 < (l0.length : Int) then (if 1 < (l0.length : Int) then (if 2 < (l0.length : Int) then (if 3 < (l0.length : Int) then (some (Go.bits .or .u32 (Go.bits .or .u32 (Go.bits .or .u32 ((((rd l0 0) % 4294967296) * 16777216) % 4294967296) ((((rd l0 1) % 4294967296) * 65536) % 4294967296)) ((((rd l0 2) % 4294967296) * 256) % 4294967296)) ((rd l0 3) % 4294967296))) else (none)) else (none)) else (none)) else (none)) = some r := h
 clear h
 by_cases c2 : 0 < (l0.length : Int)
 ·rw [if_pos c2] at H
  have c2b0 : decide (0 < (l0.length : Int)) = true := decide_eq_true c2
  have c2b1 : decide (0 < l0.length) = true := decide_eq_true (by omega)
  clear c2
  by_cases c3 : 1 < (l0.length : Int)
  ·rw [if_pos c3] at H
   have c3b0 : decide (1 < (l0.length : Int)) = true := decide_eq_true c3
   have c3b1 : decide (1 < l0.length) = true := decide_eq_true (by omega)
   clear c3
   by_cases c4 : 2 < (l0.length : Int)
   ·rw [if_pos c4] at H
    have c4b0 : decide (2 < (l0.length : Int)) = true := decide_eq_true c4
    have c4b1 : decide (2 < l0.length) = true := decide_eq_true (by omega)
    clear c4
    by_cases c5 : 3 < (l0.length : Int)
    ·rw [if_pos c5] at H
     have c5b0 : decide (3 < (l0.length : Int)) = true := decide_eq_true c5
     have c5b1 : decide (3 < l0.length) = true := decide_eq_true (by omega)
     clear c5
     obtain rfl := Option.some.inj H
     have p102 : 0 ≤ (0 : Int) := (by omega)
     have q102 : 0 < (l0.length : Int) := of_decide_eq_true (by first | (with_reducible assumption) | assumption)
     obtain ⟨ad102, e102, hx102_0⟩ := Kd.at_int HR0.out 0 p102 q102
     cases e102
     have qi102 : (0 < l0.length) = True := eq_true (by omega)
     (try rw [show ((0 : Int)).toNat = 0 from rfl] at hx102_0)
     (try rw [Addr.add_zero'] at hx102_0)
     replace p102 := eq_true p102
     replace q102 := eq_true q102
     have p103 : 0 ≤ (1 : Int) := (by omega)
     have q103 : 1 < (l0.length : Int) := of_decide_eq_true (by first | (with_reducible assumption) | assumption)
     obtain ⟨ad103, e103, hx103_0⟩ := Kd.at_int HR0.out 1 p103 q103
     obtain rfl : ad102 = ad103 := (by injection e103)
     (try simp only [show (1 : Int).toNat = 1 from rfl, Nat.reduceMul, Nat.reduceEqDiff, Go.Addr.add, ↓reduceIte] at hx103_0)
     have qi103 : (1 < l0.length) = True := eq_true (by omega)
     (try rw [show ((1 : Int)).toNat = 1 from rfl] at hx103_0)
     replace p103 := eq_true p103
     replace q103 := eq_true q103
     have p104 : 0 ≤ (2 : Int) := (by omega)
     have q104 : 2 < (l0.length : Int) := of_decide_eq_true (by first | (with_reducible assumption) | assumption)
     obtain ⟨ad104, e104, hx104_0⟩ := Kd.at_int HR0.out 2 p104 q104
     obtain rfl : ad102 = ad104 := (by injection e104)
     (try simp only [show (2 : Int).toNat = 2 from rfl, Nat.reduceMul, Nat.reduceEqDiff, Go.Addr.add, ↓reduceIte] at hx104_0)
     have qi104 : (2 < l0.length) = True := eq_true (by omega)
     (try rw [show ((2 : Int)).toNat = 2 from rfl] at hx104_0)
     replace p104 := eq_true p104
     replace q104 := eq_true q104
     have p105 : 0 ≤ (3 : Int) := (by omega)
     have q105 : 3 < (l0.length : Int) := of_decide_eq_true (by first | (with_reducible assumption) | assumption)
     obtain ⟨ad105, e105, hx105_0⟩ := Kd.at_int HR0.out 3 p105 q105
     obtain rfl : ad102 = ad105 := (by injection e105)
     (try simp only [show (3 : Int).toNat = 3 from rfl, Nat.reduceMul, Nat.reduceEqDiff, Go.Addr.add, ↓reduceIte] at hx105_0)
     have qi105 : (3 < l0.length) = True := eq_true (by omega)
     (try rw [show ((3 : Int)).toNat = 3 from rfl] at hx105_0)
     replace p105 := eq_true p105
     replace q105 := eq_true q105
     go_enter Tryd.func88, Tryd.ntmps88
     go_wp2
     repeat (go_quiet (fail); try go_wp2)
     go_ret
     exact ⟨by first | rfl | (simp; done) | (simp [*]; done), by repeat (first | exact Drawn0.refl _ | apply Drawn0.step)⟩
    ·rw [if_neg c5] at H
     exact absurd H (by simp)
   ·rw [if_neg c4] at H
    exact absurd H (by simp)
  ·rw [if_neg c3] at H
   exact absurd H (by simp)
 ·rw [if_neg c2] at H
  exact absurd H (by simp)
end Go.Proofs.YtgljicdpcapgnaaDoor.PBase
namespace Go.Proofs.YtgljicdpcapgnaaDoor.PBase
open Go.RowKit Go.Proofs.YtgljicdpcapgnaaDoorW.PrintWords Go.Proofs.YtgljicdpcapgnaaDoorW.PrintLast Go.Proofs.YtgljicdpcapgnaaDoorW.PrintMore
attribute [local go_sem] max2_int min2_int max_two min_two max_three min_three max_four min_four   -- for this text's walks alone
set_option linter.unusedVariables false
set_option linter.unusedSimpArgs false
def mac_Same.l0 : Nat → List Int → List Int → Int → Int → Int → Option (Bool)
 | 0, _, _, _, _, _ => none
 | k + 1, x0, x1, x5, x13, x14 => if x14 < x13 then (if 0 ≤ x14 then (if x14 < (x0.length : Int) then (if x14 < (x1.length : Int) then (mac_Same.l0 k x0 x1 (Go.bits .or .u8 x5 (Go.bits .xor .u8 (rd x0 x14) (rd x1 x14))) x13 (wrap64 (x14 + 1))) else (none)) else (none)) else (none)) else (some (x5 == 0))
def mac_Same.f (k : Nat) (l0 : List Int) (l1 : List Int) : Option (Bool) := if (l0.length : Int) = (l1.length : Int) then (mac_Same.l0 k l0 l1 0 (l0.length : Int) 0) else (some false)
set_option maxHeartbeats 8000000 in
set_option maxRecDepth 100000 in
theorem mac_Same.calls (k : Nat) (A0 : Option Addr) (c0 : Nat) (l0 : List Int) (A1 : Option Addr) (c1 : Nat) (l1 : List Int) (r : Bool) (w : World) (hr0 : Kd.C (Kd.int .u8) w A0 l0.length l0) (hc0 : l0.length ≤ c0) (hr1 : Kd.C (Kd.int .u8) w A1 l1.length l1) (hc1 : l1.length ≤ c1) (h : mac_Same.f k l0 l1 = some r) :
  Calls Tryd.prog 45 #[.slice A0 l0.length c0, .slice A1 l1.length c1] w fun e w' => e = .returned (.bool r) ∧ Drawn0 w w' := by
 have HR0 := Aside0.mk hr0
 have HC0 := Aside0.mk hc0
 clear hr0 hc0
 have HR1 := Aside0.mk hr1
 have HC1 := Aside0.mk hc1
 clear hr1 hc1
 have H : (if (l0.length : Int) = (l1.length : Int) then (mac_Same.l0 k l0 l1 0 (l0.length : Int) 0) else (some false)) = some r := h
 clear h
 by_cases c3 : (l0.length : Int) = (l1.length : Int)
 ·rw [if_pos c3] at H
  have c3b0 : ((l0.length : Int) == (l1.length : Int)) = true := beq_iff_eq.mpr c3
  have c3b1 : ((l0.length : Int) != (l1.length : Int)) = false := bne_eq_false_iff_eq.mpr c3
  have c3b2 : (l0.length == l1.length) = true := by first | simpa using c3 | (simp at c3 ⊢; omega)
  clear c3
  have H' := Aside0.mk H
  clear H
  go_enter Tryd.func45, Tryd.ntmps45
  go_wp2
  repeat (go_quiet (fail); try go_wp2)
  go_loopg [5, 14] k (fun kq v5 v14 w' => ∃ (x5_1 : Int) (x14_1 : Int), v5 = .int .u8 x5_1 ∧ v14 = .int .i64 x14_1 ∧ Aside0 (mac_Same.l0 kq l0 l1 x5_1 (l0.length : Int) x14_1 = some r) ∧ Aside0 (kq ≤ k) ∧ Drawn0 w w')
  case atStart => exact ⟨(0), (0), (by first | rfl | (simp; done) | (simp [*]; done)), (by first | rfl | (simp; done) | (simp [*]; done)), H', ⟨Nat.le_refl _⟩, by repeat (first | exact Drawn0.refl _ | apply Drawn0.step)⟩
  case round =>
   clear H'
   try clear c1
   try clear p2
   try clear c3
   try clear c3b0
   try clear c3b1
   try clear c3b2
   obtain ⟨x5_1, x14_1, rfl, rfl, HA, HK1, ⟨m1, rfl⟩⟩ := hrel
   cases gk with
   | zero => exact absurd HA.out (by simp [mac_Same.l0])
   | succ k1 =>
    have H := HA.out
    clear HA
    simp only [mac_Same.l0] at H
    by_cases c4 : x14_1 < (l0.length : Int)
    ·rw [if_pos c4] at H
     have c4b0 : decide (x14_1 < (l0.length : Int)) = true := decide_eq_true c4
     clear c4
     by_cases c5 : 0 ≤ x14_1
     ·rw [if_pos c5] at H
      have c5b0 : decide (0 ≤ x14_1) = true := decide_eq_true c5
      clear c5
      by_cases c6 : x14_1 < (l0.length : Int)
      ·rw [if_pos c6] at H
       have c6b0 : decide (x14_1 < (l0.length : Int)) = true := decide_eq_true c6
       clear c6
       by_cases c7 : x14_1 < (l1.length : Int)
       ·rw [if_pos c7] at H
        have c7b0 : decide (x14_1 < (l1.length : Int)) = true := decide_eq_true c7
        clear c7
        have H' := Aside0.mk H
        clear H
        have p171 : 0 ≤ (x14_1 : Int) := of_decide_eq_true (by first | (with_reducible assumption) | assumption)
        have q171 : x14_1 < (l0.length : Int) := of_decide_eq_true (by first | (with_reducible assumption) | assumption)
        obtain ⟨ad171, e171, hx171_0⟩ := Kd.at_int HR0.out x14_1 p171 q171
        cases e171
        replace p171 := eq_true p171
        replace q171 := eq_true q171
        have p172 : 0 ≤ (x14_1 : Int) := of_decide_eq_true (by first | (with_reducible assumption) | assumption)
        have q172 : x14_1 < (l1.length : Int) := of_decide_eq_true (by first | (with_reducible assumption) | assumption)
        obtain ⟨ad172, e172, hx172_0⟩ := Kd.at_int HR1.out x14_1 p172 q172
        cases e172
        replace p172 := eq_true p172
        replace q172 := eq_true q172
        go_wp2
        repeat (go_quiet (fail); try go_wp2)
        go_roundg k1
        case measure => have := HK1.out; omega
        case rel => exact ⟨(Go.bits .or .u8 x5_1 (Go.bits .xor .u8 (rd l0 x14_1) (rd l1 x14_1))), (wrap64 (x14_1 + 1)), (by first | rfl | (simp; done) | (simp [*]; done)), (by first | rfl | (simp; done) | (simp [*]; done)), H', ⟨by have := HK1.out; omega⟩, by repeat (first | exact Drawn0.refl _ | apply Drawn0.step)⟩
       ·rw [if_neg c7] at H
        exact absurd H (by simp)
      ·rw [if_neg c6] at H
       exact absurd H (by simp)
     ·rw [if_neg c5] at H
      exact absurd H (by simp)
    ·rw [if_neg c4] at H
     have c4b0 : decide (x14_1 < (l0.length : Int)) = false := decide_eq_false c4
     clear c4
     obtain rfl := Option.some.inj H
     go_wp2
     repeat (go_quiet (fail); try go_wp2)
     go_ret
     exact ⟨by first | rfl | (simp; done) | (simp [*]; done), by repeat (first | exact Drawn0.refl _ | apply Drawn0.step)⟩
 ·rw [if_neg c3] at H
  have c3b0 : ((l0.length : Int) == (l1.length : Int)) = false := beq_eq_false_iff_ne.mpr c3
  have c3b1 : ((l0.length : Int) != (l1.length : Int)) = true := bne_iff_ne.mpr c3
  have c3b2 : (l0.length == l1.length) = false := by first | simpa using c3 | (simp at c3 ⊢; omega)
  obtain rfl := Option.some.inj H
  go_enter Tryd.func45, Tryd.ntmps45
  go_wp2
  repeat (go_quiet (fail); try go_wp2)
  go_ret
  exact ⟨by first | rfl | (simp; done) | (simp [*]; done), by repeat (first | exact Drawn0.refl _ | apply Drawn0.step)⟩
def spell_number.j0 : Nat → Int → Bool → Option (Int × Bool)
 | 0, _, _ => none
 | k + 1, x0, x4 => if x4 = true then (some ((x0 - 97) % 256, true)) else (if x0 ≥ 50 then (if x0 ≤ 55 then (some (((x0 - 50) % 256) + 26, true)) else (some (0, false))) else (some (0, false)))
def spell_number.f (k : Nat) (a0 : Int) : Option (Int × Bool) := if a0 ≥ 97 then (spell_number.j0 k a0 (decide (a0 ≤ 122))) else (spell_number.j0 k a0 false)
set_option maxHeartbeats 8000000 in
set_option maxRecDepth 100000 in
theorem spell_number.calls (k : Nat) (a0 : Int) (r1 : Int) (r2 : Bool) (w : World) (h : spell_number.f k a0 = some (r1, r2)) :
  Calls Tryd.prog 72 #[.int .u8 a0] w fun e w' => e = .returned (.tuple #[.int .u64 r1, .bool r2]) ∧ Drawn0 w w' := by
 have H : (if a0 ≥ 97 then (spell_number.j0 k a0 (decide (a0 ≤ 122))) else (spell_number.j0 k a0 false)) = some (r1, r2) := h
 clear h
 have HC2 := Aside0.mk H
 clear H
 go_enter Tryd.func72, Tryd.ntmps72
 go_upto_region 1 with (fail)
 go_cut [4] (fun v4 wc => ∃ (kq : Nat) (x4_1 : Bool), v4 = .bool x4_1 ∧ Aside0 (spell_number.j0 kq a0 x4_1 = some (r1, r2)) ∧ Aside0 (kq ≤ k) ∧ Drawn0 w wc)
 case first =>
  have H := HC2.out
  clear HC2
  by_cases c3 : a0 ≥ 97
  ·rw [if_pos c3] at H
   have c3b0 : decide (97 ≤ a0) = true := decide_eq_true c3
   clear c3
   (first | rw [c3b0] | (simp only [i64_w, i32_w]; rw [c3b0]) | skip)
   have H' := Aside0.mk H
   clear H
   go_wp2
   go_meet
   case rel => exact ⟨_, (decide (a0 ≤ 122)), (by first | rfl | (simp; done) | (simp [*]; done)), H', ⟨by first | omega | exact Nat.le_refl _⟩, by repeat (first | exact Drawn0.refl _ | apply Drawn0.step)⟩
  ·rw [if_neg c3] at H
   have c3b0 : decide (97 ≤ a0) = false := decide_eq_false c3
   clear c3
   (first | rw [c3b0] | (simp only [i64_w, i32_w]; rw [c3b0]) | skip)
   have H' := Aside0.mk H
   clear H
   go_wp2
   go_meet
   case rel => exact ⟨_, (false), (by first | rfl | (simp; done) | (simp [*]; done)), H', ⟨by first | omega | exact Nat.le_refl _⟩, by repeat (first | exact Drawn0.refl _ | apply Drawn0.step)⟩
 case rest =>
  clear HC2
  try clear p2
  try clear c3
  try clear c3b0
  obtain ⟨kq, x4_1, rfl, HA, HJ1, ⟨mc1, rfl⟩⟩ := hcut
  cases kq with
  | zero => exact absurd HA.out (by simp [spell_number.j0])
  | succ kj1 =>
   have H := HA.out
   clear HA
   simp only [spell_number.j0] at H
   by_cases c4 : x4_1 = true
   ·subst c4
    have H1 : (some ((a0 - 97) % 256, true)) = some (r1, r2) := by rw [if_pos rfl] at H; exact H
    clear H
    have H := H1
    clear H1
    simp only [Option.some.injEq, Prod.mk.injEq] at H
    obtain ⟨rfl, rfl⟩ := H
    go_wp2
    go_ret2
    exact ⟨by first | rfl | (simp; done) | (simp [*]; done), by repeat (first | exact Drawn0.refl _ | apply Drawn0.step)⟩
   ·replace c4 := Bool.eq_false_iff.mpr c4
    subst c4
    have H1 : (if a0 ≥ 50 then (if a0 ≤ 55 then (some (((a0 - 50) % 256) + 26, true)) else (some (0, false))) else (some (0, false))) = some (r1, r2) := by rw [if_neg (show ¬ (false = true) by decide)] at H; exact H
    clear H
    have H := H1
    clear H1
    by_cases c5 : a0 ≥ 50
    ·rw [if_pos c5] at H
     have c5b0 : decide (50 ≤ a0) = true := decide_eq_true c5
     clear c5
     by_cases c6 : a0 ≤ 55
     ·rw [if_pos c6] at H
      have c6b0 : decide (a0 ≤ 55) = true := decide_eq_true c6
      clear c6
      simp only [Option.some.injEq, Prod.mk.injEq] at H
      obtain ⟨rfl, rfl⟩ := H
      go_wp2
      go_ret2
      exact ⟨by first | rfl | (simp; done) | (simp [*]; done), by repeat (first | exact Drawn0.refl _ | apply Drawn0.step)⟩
     ·rw [if_neg c6] at H
      have c6b0 : decide (a0 ≤ 55) = false := decide_eq_false c6
      clear c6
      simp only [Option.some.injEq, Prod.mk.injEq] at H
      obtain ⟨rfl, rfl⟩ := H
      go_wp2
      go_ret2
      exact ⟨by first | rfl | (simp; done) | (simp [*]; done), by repeat (first | exact Drawn0.refl _ | apply Drawn0.step)⟩
    ·rw [if_neg c5] at H
     have c5b0 : decide (50 ≤ a0) = false := decide_eq_false c5
     clear c5
     simp only [Option.some.injEq, Prod.mk.injEq] at H
     obtain ⟨rfl, rfl⟩ := H
     go_wp2
     go_ret2
     exact ⟨by first | rfl | (simp; done) | (simp [*]; done), by repeat (first | exact Drawn0.refl _ | apply Drawn0.step)⟩
def spell_Read.l0 : Nat → ByteArray → List Int → Int → Int → Int → Int → Option (List Int × Int)
 | 0, _, _, _, _, _, _ => none
 | k + 1, x0, x4, x5, x6, x11, x12 => if x12 < x11 then (if 0 ≤ x12 then (if x12 < (x0.size : Int) then ((spell_number.f k (bt x0 x12)).bind fun bt173 => (if bt173.2 = true then (if (wrap64 (x6 + 5)) ≥ 8 then (if 0 ≤ (wrap64 ((wrap64 (x6 + 5)) - 8)) then (if x4.length < 140737488355328 then (spell_Read.l0 k x0 (x4 ++ [(shr .u64 (Go.bits .or .u64 (IntKind.u64.wrap (x5 * 32)) bt173.1) (wrap64 ((wrap64 (x6 + 5)) - 8))) % 256]) (Go.bits .and .u64 (Go.bits .or .u64 (IntKind.u64.wrap (x5 * 32)) bt173.1) (IntKind.u64.wrap ((shl .u64 1 (wrap64 ((wrap64 (x6 + 5)) - 8))) - 1))) (wrap64 ((wrap64 (x6 + 5)) - 8)) x11 (wrap64 (x12 + 1))) else (none)) else (none)) else (spell_Read.l0 k x0 x4 (Go.bits .or .u64 (IntKind.u64.wrap (x5 * 32)) bt173.1) (wrap64 (x6 + 5)) x11 (wrap64 (x12 + 1)))) else (some (([] : List Int), 40)))) else (none)) else (none)) else (if x6 ≥ 5 then (some (([] : List Int), 40)) else (if x5 = 0 then (some (x4, 0)) else (some (([] : List Int), 40))))
def spell_Read.f (k : Nat) (a0 : ByteArray) : Option (List Int × Int) := spell_Read.l0 k a0 ([] : List Int) 0 0 (a0.size : Int) 0
set_option maxHeartbeats 8000000 in
set_option maxRecDepth 100000 in
theorem spell_Read.calls (k : Nat) (a0 : ByteArray) (r1 : List Int) (r2 : Int) (w : World) (h : spell_Read.f k a0 = some (r1, r2)) :
  Calls Tryd.prog 57 #[.string a0] w fun e w' => ∃ v0_ : Value, e = .returned (.tuple #[v0_, .int .u16 r2]) ∧ Kd.R (Kd.int .u8) 5 w' w.heap.size (fun _ => True) v0_ r1 ∧ Below w.heap.size w w' := by
 have HB := Aside0.mk (Below.refl w.heap.size w)
 have H : (spell_Read.l0 k a0 ([] : List Int) 0 0 (a0.size : Int) 0) = some (r1, r2) := h
 clear h
 have H' := Aside0.mk H
 clear H
 go_enter Tryd.func57, Tryd.ntmps57
 go_wp2
 go_loopg [4, 5, 6, 12] k (fun kq v4 v5 v6 v12 w' => ∃ (x4_1 : List Int) (x5_1 : Int) (x6_1 : Int) (x12_1 : Int), v5 = .int .u64 x5_1 ∧ v6 = .int .i64 x6_1 ∧ v12 = .int .i64 x12_1 ∧ Aside0 (spell_Read.l0 kq a0 x4_1 x5_1 x6_1 (a0.size : Int) x12_1 = some (r1, r2)) ∧ Aside0 (kq ≤ k) ∧ Aside0 (Kd.R (Kd.int .u8) 5 w' w.heap.size (fun _ => True) v4 x4_1) ∧ Aside0 (Below w.heap.size w w'))
 case atStart => exact ⟨(([] : List Int)), (0), (0), (0), (by first | rfl | (simp; done) | (simp [*]; done)), (by first | rfl | (simp; done) | (simp [*]; done)), (by first | rfl | (simp; done) | (simp [*]; done)), H', ⟨Nat.le_refl _⟩, ⟨by first | exact Kd.R_nil _ _ _ _ _ | exact Kd.N_nil _ _ _ _ _ | exact Kd.V_nil _ _ _ _ _ | exact Kd.Q_nil _ _ _ _ _ | exact Kd.S_nil _ _ _ _ _⟩, ⟨by repeat (first | (with_reducible first | exact HB.out | apply below_alloc | apply pw_below_drewN | apply below_drew1) | exact HB.out)⟩⟩
 case round =>
  clear H'
  obtain ⟨x4_1, x5_1, x6_1, x12_1, rfl, rfl, rfl, HA, HK1, HO_4, HB⟩ := hrel
  cases gk with
  | zero => exact absurd HA.out (by simp [spell_Read.l0])
  | succ k1 =>
   have H := HA.out
   clear HA
   simp only [spell_Read.l0] at H
   by_cases c2 : x12_1 < (a0.size : Int)
   ·rw [if_pos c2] at H
    have c2b0 : decide (x12_1 < (a0.size : Int)) = true := decide_eq_true c2
    clear c2
    by_cases c3 : 0 ≤ x12_1
    ·rw [if_pos c3] at H
     have c3b0 : decide (0 ≤ x12_1) = true := decide_eq_true c3
     clear c3
     by_cases c4 : x12_1 < (a0.size : Int)
     ·rw [if_pos c4] at H
      have c4b0 : decide (x12_1 < (a0.size : Int)) = true := decide_eq_true c4
      clear c4
      replace H := Option.bind_eq_some_iff.mp H
      obtain ⟨⟨t173, t174⟩, A60, H⟩ := H
      replace H : (if t174 = true then (if (wrap64 (x6_1 + 5)) ≥ 8 then (if 0 ≤ (wrap64 ((wrap64 (x6_1 + 5)) - 8)) then (if x4_1.length < 140737488355328 then (spell_Read.l0 k1 a0 (x4_1 ++ [(shr .u64 (Go.bits .or .u64 (IntKind.u64.wrap (x5_1 * 32)) t173) (wrap64 ((wrap64 (x6_1 + 5)) - 8))) % 256]) (Go.bits .and .u64 (Go.bits .or .u64 (IntKind.u64.wrap (x5_1 * 32)) t173) (IntKind.u64.wrap ((shl .u64 1 (wrap64 ((wrap64 (x6_1 + 5)) - 8))) - 1))) (wrap64 ((wrap64 (x6_1 + 5)) - 8)) (a0.size : Int) (wrap64 (x12_1 + 1))) else (none)) else (none)) else (spell_Read.l0 k1 a0 x4_1 (Go.bits .or .u64 (IntKind.u64.wrap (x5_1 * 32)) t173) (wrap64 (x6_1 + 5)) (a0.size : Int) (wrap64 (x12_1 + 1)))) else (some (([] : List Int), 40))) = some (r1, r2) := H
      have A6 := Aside0.mk A60
      clear A60
      by_cases c7 : t174 = true
      ·subst c7
       have H1 : (if (wrap64 (x6_1 + 5)) ≥ 8 then (if 0 ≤ (wrap64 ((wrap64 (x6_1 + 5)) - 8)) then (if x4_1.length < 140737488355328 then (spell_Read.l0 k1 a0 (x4_1 ++ [(shr .u64 (Go.bits .or .u64 (IntKind.u64.wrap (x5_1 * 32)) t173) (wrap64 ((wrap64 (x6_1 + 5)) - 8))) % 256]) (Go.bits .and .u64 (Go.bits .or .u64 (IntKind.u64.wrap (x5_1 * 32)) t173) (IntKind.u64.wrap ((shl .u64 1 (wrap64 ((wrap64 (x6_1 + 5)) - 8))) - 1))) (wrap64 ((wrap64 (x6_1 + 5)) - 8)) (a0.size : Int) (wrap64 (x12_1 + 1))) else (none)) else (none)) else (spell_Read.l0 k1 a0 x4_1 (Go.bits .or .u64 (IntKind.u64.wrap (x5_1 * 32)) t173) (wrap64 (x6_1 + 5)) (a0.size : Int) (wrap64 (x12_1 + 1)))) = some (r1, r2) := by rw [if_pos rfl] at H; exact H
       clear H
       have H := H1
       clear H1
       by_cases c8 : (wrap64 (x6_1 + 5)) ≥ 8
       ·rw [if_pos c8] at H
        have c8b0 : decide (8 ≤ (wrap64 (x6_1 + 5))) = true := decide_eq_true c8
        clear c8
        obtain ⟨ji9, hji9⟩ : ∃ j_ : Int, (wrap64 ((wrap64 (x6_1 + 5)) - 8)) = j_ := ⟨_, rfl⟩
        replace H : (if 0 ≤ (ji9) then (if x4_1.length < 140737488355328 then (spell_Read.l0 k1 a0 (x4_1 ++ [(shr .u64 (Go.bits .or .u64 (IntKind.u64.wrap (x5_1 * 32)) t173) (ji9)) % 256]) (Go.bits .and .u64 (Go.bits .or .u64 (IntKind.u64.wrap (x5_1 * 32)) t173) (IntKind.u64.wrap ((shl .u64 1 (ji9)) - 1))) ji9 (a0.size : Int) (wrap64 (x12_1 + 1))) else (none)) else (none)) = some (r1, r2) := by first | (rw [hji9] at H; exact H) | (simp only [hji9] at H ⊢; exact H)
        (try rw [hji9] at A6)
        have hji9w : (IntKind.i64.wrap ((wrap64 (x6_1 + 5)) - 8)) = ji9 := (i64_w _).trans hji9
        by_cases c10 : 0 ≤ (ji9)
        ·rw [if_pos c10] at H
         have c10b0 := eq_true c10
         have c10b1 : decide (0 ≤ (ji9)) = true := decide_eq_true c10
         clear c10
         obtain ⟨ji11, hji11⟩ : ∃ j_ : Int, (shr .u64 (Go.bits .or .u64 (IntKind.u64.wrap (x5_1 * 32)) t173) (ji9)) = j_ := ⟨_, rfl⟩
         replace H : (if x4_1.length < 140737488355328 then (spell_Read.l0 k1 a0 (x4_1 ++ [(ji11) % 256]) (Go.bits .and .u64 (Go.bits .or .u64 (IntKind.u64.wrap (x5_1 * 32)) t173) (IntKind.u64.wrap ((shl .u64 1 (ji9)) - 1))) ji9 (a0.size : Int) (wrap64 (x12_1 + 1))) else (none)) = some (r1, r2) := by first | (rw [hji11] at H; exact H) | (simp only [hji11] at H ⊢; exact H)
         (try rw [hji11] at A6)
         have hji11_ : ((Go.bits .or .u64 (IntKind.u64.wrap (x5_1 * 32)) t173) / 2 ^ min (ji9).toNat 64) = ji11 := hji11
         have hji11z : (ji9) ≤ 64 → ((Go.bits .or .u64 (IntKind.u64.wrap (x5_1 * 32)) t173) / 2 ^ (ji9).toNat) = ji11 := shr_small hji11
         by_cases c12 : x4_1.length < 140737488355328
         ·rw [if_pos c12] at H
          have LMc12 := Aside0.mk c12
          clear c12
          obtain ⟨y175, hy175⟩ : ∃ y_ : List Int, y_ = (x4_1 ++ [(ji11) % 256]) := ⟨_, rfl⟩
          replace H : (spell_Read.l0 k1 a0 y175 (Go.bits .and .u64 (Go.bits .or .u64 (IntKind.u64.wrap (x5_1 * 32)) t173) (IntKind.u64.wrap ((shl .u64 1 (ji9)) - 1))) ji9 (a0.size : Int) (wrap64 (x12_1 + 1))) = some (r1, r2) := by first | (rw [hy175]; with_reducible exact H) | (have H2_ := (Option.bind_some _ _).symm.trans H; rw [hy175]; with_reducible exact H2_) | (have H2_ := (Option.bind_some _ _).symm.trans H; with_reducible exact H2_) | with_reducible exact H | (rw [hy175]; exact H) | exact H
          have Ny175 := Aside0.mk hy175
          clear hy175
          have c13b0 := eq_true (of_decide_eq_true (by first | (with_reducible assumption) | assumption) : 0 ≤ (ji9))
          obtain ⟨ji14, hji14⟩ : ∃ j_ : Int, (shl .u64 1 (ji9)) = j_ := ⟨_, rfl⟩
          replace H : (spell_Read.l0 k1 a0 y175 (Go.bits .and .u64 (Go.bits .or .u64 (IntKind.u64.wrap (x5_1 * 32)) t173) (IntKind.u64.wrap ((ji14) - 1))) ji9 (a0.size : Int) (wrap64 (x12_1 + 1))) = some (r1, r2) := by first | (rw [hji14] at H; exact H) | (simp only [hji14] at H ⊢; exact H)
          (try rw [hji14] at A6)
          have hji14_ : (IntKind.u64.wrap (1 * 2 ^ min (ji9).toNat 64)) = ji14 := hji14
          have hji14z : (ji9) ≤ 64 → (IntKind.u64.wrap (1 * 2 ^ (ji9).toNat)) = ji14 := shl_small hji14
          have hji14u : (IntKind.u64.wrap (2 ^ min (ji9).toNat 64)) = ji14 := by have h_ := hji14_; rw [Int.one_mul] at h_; exact h_
          have hji14v : (ji9) ≤ 64 → (IntKind.u64.wrap (2 ^ (ji9).toNat)) = ji14 := fun hle_ => by have h_ := hji14z hle_; rw [Int.one_mul] at h_; exact h_
          have H' := Aside0.mk H
          clear H
          have p5 : 0 ≤ (x12_1 : Int) := of_decide_eq_true (by first | (with_reducible assumption) | assumption)
          have q5 : x12_1 < (a0.size : Int) := of_decide_eq_true (by first | (with_reducible assumption) | assumption)
          have hx5 := bt_at a0 x12_1
          replace p5 := eq_true p5
          replace q5 := eq_true q5
          go_wp2_with (first | ((with_reducible refine gate_callee (f := 72) rfl ?_); refine goesL_ (some 19) rfl rfl Tryd.func72 (by kernel_rfl) rfl #[.int .u8 (bt a0 x12_1)] rfl (by (try simp only [List.map_toArray, List.map_cons, List.map_nil]); first | done | rfl | (simp only [List.length_drop, List.length_take]; rfl) | (simp only [List.length_drop, List.length_take]; (repeat rw [Nat.min_eq_left (by simp only [eq_iff_iff, iff_true] at *; omega)]); rfl)) ?_; (with_reducible refine (spell_number.calls k1 (bt a0 x12_1) t173 true _ A6.out).mono ?_); rintro e w' ⟨rfl, ⟨nd, rfl⟩⟩; refine ⟨_, rfl, ?_⟩) | ((with_reducible refine gate_builtin (b := .append) (xs := #[.tmp 34, .tmp 39]) rfl ?_); at_builtin; refine Kd.R_append (Kd.int .u8) (w0 := w) w.heap.size rfl (.tmp 34) (.tmp 39) 23 5 (.int .u8 0) 1 rfl Tryd.underlying23 info5 rfl (by decide) (by omega) u4 x4_1 ((ji11) % 256) [.int .u8 ((ji11) % 256)] (fun _ => True) (fun _ => False) rfl rfl ?aP (fun _ hk => hk.elim) ?aF ?aO ?aB ?aS ?aL ?_; (case aP => exact rfl); (case aB => exact (by repeat (first | (with_reducible first | exact HB.out | apply below_alloc | apply pw_below_drewN | apply below_drew1) | exact HB.out))); (case aF => exact (fun _ _ => trivial)); (case aO => exact (by (with_reducible repeat (first | apply Kd.R_alloc | apply Kd.R_drewN | apply Kd.R_drew)); exact HO_4.out)); (case aS => exact (below_size (by repeat (first | (with_reducible first | exact HB.out | apply below_alloc | apply pw_below_drewN | apply below_drew1) | exact HB.out)))); (case aL => have := LMc12.out; omega); intro v176 w15 ho hb hg hat; rw [← Ny175.out] at ho; have n0_ := Aside0.mk (hb); have n1_ := Aside0.mk (ho); clear HB; clear HO_4; have HB := n0_; have HO177 := n1_; clear n0_ n1_; clear ho hb hg hat))
          go_roundg k1
          case measure => have := HK1.out; omega
          case rel => exact ⟨(y175), (Go.bits .and .u64 (Go.bits .or .u64 (IntKind.u64.wrap (x5_1 * 32)) t173) (IntKind.u64.wrap ((ji14) - 1))), (ji9), (wrap64 (x12_1 + 1)), (by first | rfl | (simp; done) | (simp only [← hji14] <;> (first | rfl | simp)) | (simp [*]; done)), (by first | rfl | (simp; done) | (simp only [← hji9] <;> (first | rfl | simp)) | (simp [*]; done)), (by first | rfl | (simp; done) | (simp [*]; done)), H', ⟨by have := HK1.out; omega⟩, ⟨by (with_reducible repeat (first | apply Kd.R_alloc | apply Kd.R_drewN | apply Kd.R_drew)); exact HO177.out⟩, ⟨by repeat (first | (with_reducible first | exact HB.out | apply below_alloc | apply pw_below_drewN | apply below_drew1) | exact HB.out)⟩⟩
         ·rw [if_neg c12] at H
          exact absurd H (by simp)
        ·rw [if_neg c10] at H
         exact absurd H (by simp)
       ·rw [if_neg c8] at H
        have c8b0 : decide (8 ≤ (wrap64 (x6_1 + 5))) = false := decide_eq_false c8
        clear c8
        have H' := Aside0.mk H
        clear H
        have p5 : 0 ≤ (x12_1 : Int) := of_decide_eq_true (by first | (with_reducible assumption) | assumption)
        have q5 : x12_1 < (a0.size : Int) := of_decide_eq_true (by first | (with_reducible assumption) | assumption)
        have hx5 := bt_at a0 x12_1
        replace p5 := eq_true p5
        replace q5 := eq_true q5
        go_wp2_with (first | ((with_reducible refine gate_callee (f := 72) rfl ?_); refine goesL_ (some 19) rfl rfl Tryd.func72 (by kernel_rfl) rfl #[.int .u8 (bt a0 x12_1)] rfl (by (try simp only [List.map_toArray, List.map_cons, List.map_nil]); first | done | rfl | (simp only [List.length_drop, List.length_take]; rfl) | (simp only [List.length_drop, List.length_take]; (repeat rw [Nat.min_eq_left (by simp only [eq_iff_iff, iff_true] at *; omega)]); rfl)) ?_; (with_reducible refine (spell_number.calls k1 (bt a0 x12_1) t173 true _ A6.out).mono ?_); rintro e w' ⟨rfl, ⟨nd, rfl⟩⟩; refine ⟨_, rfl, ?_⟩))
        go_roundg k1
        case measure => have := HK1.out; omega
        case rel => exact ⟨(x4_1), (Go.bits .or .u64 (IntKind.u64.wrap (x5_1 * 32)) t173), (wrap64 (x6_1 + 5)), (wrap64 (x12_1 + 1)), (by first | rfl | (simp; done) | (simp [*]; done)), (by first | rfl | (simp; done) | (simp [*]; done)), (by first | rfl | (simp; done) | (simp [*]; done)), H', ⟨by have := HK1.out; omega⟩, ⟨by (with_reducible repeat (first | apply Kd.R_alloc | apply Kd.R_drewN | apply Kd.R_drew)); exact HO_4.out⟩, ⟨by repeat (first | (with_reducible first | exact HB.out | apply below_alloc | apply pw_below_drewN | apply below_drew1) | exact HB.out)⟩⟩
      ·replace c7 := Bool.eq_false_iff.mpr c7
       subst c7
       have H1 : (some (([] : List Int), 40)) = some (r1, r2) := by rw [if_neg (show ¬ (false = true) by decide)] at H; exact H
       clear H
       have H := H1
       clear H1
       simp only [Option.some.injEq, Prod.mk.injEq] at H
       obtain ⟨rfl, rfl⟩ := H
       have p5 : 0 ≤ (x12_1 : Int) := of_decide_eq_true (by first | (with_reducible assumption) | assumption)
       have q5 : x12_1 < (a0.size : Int) := of_decide_eq_true (by first | (with_reducible assumption) | assumption)
       have hx5 := bt_at a0 x12_1
       replace p5 := eq_true p5
       replace q5 := eq_true q5
       go_wp2_with (first | ((with_reducible refine gate_callee (f := 72) rfl ?_); refine goesL_ (some 19) rfl rfl Tryd.func72 (by kernel_rfl) rfl #[.int .u8 (bt a0 x12_1)] rfl (by (try simp only [List.map_toArray, List.map_cons, List.map_nil]); first | done | rfl | (simp only [List.length_drop, List.length_take]; rfl) | (simp only [List.length_drop, List.length_take]; (repeat rw [Nat.min_eq_left (by simp only [eq_iff_iff, iff_true] at *; omega)]); rfl)) ?_; (with_reducible refine (spell_number.calls k1 (bt a0 x12_1) t173 false _ A6.out).mono ?_); rintro e w' ⟨rfl, ⟨nd, rfl⟩⟩; refine ⟨_, rfl, ?_⟩))
       go_ret2
       exact ⟨_, by first | rfl | (simp [errW_none, errW_some] <;> rfl) | (simp [*, errW_none, errW_some] <;> rfl), by first | exact Kd.R_nil _ _ _ _ _ | exact Kd.N_nil _ _ _ _ _ | exact Kd.V_nil _ _ _ _ _ | exact Kd.Q_nil _ _ _ _ _ | exact Kd.S_nil _ _ _ _ _, by repeat (first | (with_reducible first | exact HB.out | apply below_alloc | apply pw_below_drewN | apply below_drew1) | exact HB.out)⟩
     ·rw [if_neg c4] at H
      exact absurd H (by simp)
    ·rw [if_neg c3] at H
     exact absurd H (by simp)
   ·rw [if_neg c2] at H
    have c2b0 : decide (x12_1 < (a0.size : Int)) = false := decide_eq_false c2
    clear c2
    by_cases c16 : x6_1 ≥ 5
    ·rw [if_pos c16] at H
     have c16b0 : decide (5 ≤ x6_1) = true := decide_eq_true c16
     clear c16
     simp only [Option.some.injEq, Prod.mk.injEq] at H
     obtain ⟨rfl, rfl⟩ := H
     go_wp2
     go_ret2
     exact ⟨_, by first | rfl | (simp [errW_none, errW_some] <;> rfl) | (simp [*, errW_none, errW_some] <;> rfl), by first | exact Kd.R_nil _ _ _ _ _ | exact Kd.N_nil _ _ _ _ _ | exact Kd.V_nil _ _ _ _ _ | exact Kd.Q_nil _ _ _ _ _ | exact Kd.S_nil _ _ _ _ _, by repeat (first | (with_reducible first | exact HB.out | apply below_alloc | apply pw_below_drewN | apply below_drew1) | exact HB.out)⟩
    ·rw [if_neg c16] at H
     have c16b0 : decide (5 ≤ x6_1) = false := decide_eq_false c16
     clear c16
     by_cases c17 : x5_1 = 0
     ·rw [if_pos c17] at H
      have c17b0 : (x5_1 == 0) = true := beq_iff_eq.mpr c17
      have c17b1 : (x5_1 != 0) = false := bne_eq_false_iff_eq.mpr c17
      clear c17
      simp only [Option.some.injEq, Prod.mk.injEq] at H
      obtain ⟨rfl, rfl⟩ := H
      go_wp2
      go_ret2
      exact ⟨_, by first | rfl | (simp [errW_none, errW_some] <;> rfl) | (simp [*, errW_none, errW_some] <;> rfl), by (with_reducible repeat (first | apply Kd.R_alloc | apply Kd.R_drewN | apply Kd.R_drew)); exact HO_4.out, by repeat (first | (with_reducible first | exact HB.out | apply below_alloc | apply pw_below_drewN | apply below_drew1) | exact HB.out)⟩
     ·rw [if_neg c17] at H
      have c17b0 : (x5_1 == 0) = false := beq_eq_false_iff_ne.mpr c17
      have c17b1 : (x5_1 != 0) = true := bne_iff_ne.mpr c17
      simp only [Option.some.injEq, Prod.mk.injEq] at H
      obtain ⟨rfl, rfl⟩ := H
      go_wp2
      go_ret2
      exact ⟨_, by first | rfl | (simp [errW_none, errW_some] <;> rfl) | (simp [*, errW_none, errW_some] <;> rfl), by first | exact Kd.R_nil _ _ _ _ _ | exact Kd.N_nil _ _ _ _ _ | exact Kd.V_nil _ _ _ _ _ | exact Kd.Q_nil _ _ _ _ _ | exact Kd.S_nil _ _ _ _ _, by repeat (first | (with_reducible first | exact HB.out | apply below_alloc | apply pw_below_drewN | apply below_drew1) | exact HB.out)⟩
def pass_read.f (k : Nat) (a0 : ByteArray) : Option (List Int × Bool) := (spell_Read.f k a0).bind fun bt179 => (if bt179.2 = 0 then (if (bt179.1.length : Int) = 50 then (if 0 < (bt179.1.length : Int) then (if (rd bt179.1 0) = 1 then (if 17 < (bt179.1.length : Int) then (some (bt179.1, decide ((rd bt179.1 17) ≤ 1))) else (none)) else (some (bt179.1, false))) else (none)) else (some (bt179.1, false))) else (some (bt179.1, false)))
set_option maxHeartbeats 8000000 in
set_option maxRecDepth 100000 in
theorem pass_read.calls (k : Nat) (a0 : ByteArray) (r1 : List Int) (r2 : Bool) (w : World) (h : pass_read.f k a0 = some (r1, r2)) :
  Calls Tryd.prog 42 #[.string a0] w fun e w' => ∃ v0_ : Value, e = .returned (.tuple #[v0_, .bool r2]) ∧ Kd.R (Kd.int .u8) 5 w' w.heap.size (fun _ => True) v0_ r1 ∧ Below w.heap.size w w' := by
 have HB := Aside0.mk (Below.refl w.heap.size w)
 have H : ((spell_Read.f k a0).bind fun bt179 => (if bt179.2 = 0 then (if (bt179.1.length : Int) = 50 then (if 0 < (bt179.1.length : Int) then (if (rd bt179.1 0) = 1 then (if 17 < (bt179.1.length : Int) then (some (bt179.1, decide ((rd bt179.1 17) ≤ 1))) else (none)) else (some (bt179.1, false))) else (none)) else (some (bt179.1, false))) else (some (bt179.1, false)))) = some (r1, r2) := h
 clear h
 replace H := Option.bind_eq_some_iff.mp H
 obtain ⟨⟨t179, t180⟩, A20, H⟩ := H
 replace H : (if t180 = 0 then (if (t179.length : Int) = 50 then (if 0 < (t179.length : Int) then (if (rd t179 0) = 1 then (if 17 < (t179.length : Int) then (some (t179, decide ((rd t179 17) ≤ 1))) else (none)) else (some (t179, false))) else (none)) else (some (t179, false))) else (some (t179, false))) = some (r1, r2) := H
 have A2 := Aside0.mk A20
 clear A20
 by_cases c3 : t180 = 0
 ·rw [if_pos c3] at H
  have c3b0 : (t180 == 0) = true := beq_iff_eq.mpr c3
  have c3b1 : (t180 != 0) = false := bne_eq_false_iff_eq.mpr c3
  clear c3
  by_cases c4 : (t179.length : Int) = 50
  ·rw [if_pos c4] at H
   have c4b0 : ((t179.length : Int) == 50) = true := beq_iff_eq.mpr c4
   have c4b1 : ((t179.length : Int) != 50) = false := bne_eq_false_iff_eq.mpr c4
   clear c4
   by_cases c5 : 0 < (t179.length : Int)
   ·rw [if_pos c5] at H
    have c5b0 : decide (0 < (t179.length : Int)) = true := decide_eq_true c5
    have c5b1 : decide (0 < t179.length) = true := decide_eq_true (by omega)
    clear c5
    by_cases c6 : (rd t179 0) = 1
    ·rw [if_pos c6] at H
     have c6b0 : ((rd t179 0) == 1) = true := beq_iff_eq.mpr c6
     have c6b1 : ((rd t179 0) != 1) = false := bne_eq_false_iff_eq.mpr c6
     clear c6
     by_cases c7 : 17 < (t179.length : Int)
     ·rw [if_pos c7] at H
      have c7b0 : decide (17 < (t179.length : Int)) = true := decide_eq_true c7
      have c7b1 : decide (17 < t179.length) = true := decide_eq_true (by omega)
      clear c7
      simp only [Option.some.injEq, Prod.mk.injEq] at H
      obtain ⟨rfl, rfl⟩ := H
      go_enter Tryd.func42, Tryd.ntmps42
      go_wp2_with (first | (go_at_call 57; (with_reducible refine (spell_Read.calls k a0 t179 t180 _ A2.out).mono ?_); rintro e w8 ⟨v181, rfl, ho0, hb⟩; have n0_ := Aside0.mk (Kd.R_lower ho0 (below_size (by repeat (first | (with_reducible first | exact HB.out | apply below_alloc | apply pw_below_drewN | apply below_drew1) | exact HB.out)))); have n1_ := Aside0.mk (below_step (by repeat (first | (with_reducible first | exact HB.out | apply below_alloc | apply pw_below_drewN | apply below_drew1) | exact HB.out)) hb); clear HB; have HO182 := n0_; have HB := n1_; clear n0_ n1_; (try clear hb); (try clear hb2); (try clear hk); (try clear hi); (try clear ho0); obtain ⟨Ao9, co9, eo9⟩ := Kd.R_slice HO182.out; subst eo9; have p183 : 0 ≤ (0 : Int) := (by omega); have q183 : 0 < (t179.length : Int) := of_decide_eq_true (by first | (with_reducible assumption) | assumption); obtain ⟨ad183, e183, hx183_0⟩ := Kd.at_int (Kd.R_reads' HO182.out).2.2 0 p183 q183; cases e183; have qi183 : (0 < t179.length) = True := eq_true (by omega); (try rw [show ((0 : Int)).toNat = 0 from rfl] at hx183_0); (try rw [Addr.add_zero'] at hx183_0); replace p183 := eq_true p183; replace q183 := eq_true q183; have p184 : 0 ≤ (17 : Int) := (by omega); have q184 : 17 < (t179.length : Int) := of_decide_eq_true (by first | (with_reducible assumption) | assumption); obtain ⟨ad184, e184, hx184_0⟩ := Kd.at_int (Kd.R_reads' HO182.out).2.2 17 p184 q184; obtain rfl : ad183 = ad184 := (by injection e184); (try simp only [show (17 : Int).toNat = 17 from rfl, Nat.reduceMul, Nat.reduceEqDiff, Go.Addr.add, ↓reduceIte] at hx184_0); have qi184 : (17 < t179.length) = True := eq_true (by omega); (try rw [show ((17 : Int)).toNat = 17 from rfl] at hx184_0); replace p184 := eq_true p184; replace q184 := eq_true q184))
      repeat (go_quiet (first | (go_at_call 57; (with_reducible refine (spell_Read.calls k a0 t179 t180 _ A2.out).mono ?_); rintro e w8 ⟨v181, rfl, ho0, hb⟩; have n0_ := Aside0.mk (Kd.R_lower ho0 (below_size (by repeat (first | (with_reducible first | exact HB.out | apply below_alloc | apply pw_below_drewN | apply below_drew1) | exact HB.out)))); have n1_ := Aside0.mk (below_step (by repeat (first | (with_reducible first | exact HB.out | apply below_alloc | apply pw_below_drewN | apply below_drew1) | exact HB.out)) hb); clear HB; have HO182 := n0_; have HB := n1_; clear n0_ n1_; (try clear hb); (try clear hb2); (try clear hk); (try clear hi); (try clear ho0); obtain ⟨Ao9, co9, eo9⟩ := Kd.R_slice HO182.out; subst eo9; have p183 : 0 ≤ (0 : Int) := (by omega); have q183 : 0 < (t179.length : Int) := of_decide_eq_true (by first | (with_reducible assumption) | assumption); obtain ⟨ad183, e183, hx183_0⟩ := Kd.at_int (Kd.R_reads' HO182.out).2.2 0 p183 q183; cases e183; have qi183 : (0 < t179.length) = True := eq_true (by omega); (try rw [show ((0 : Int)).toNat = 0 from rfl] at hx183_0); (try rw [Addr.add_zero'] at hx183_0); replace p183 := eq_true p183; replace q183 := eq_true q183; have p184 : 0 ≤ (17 : Int) := (by omega); have q184 : 17 < (t179.length : Int) := of_decide_eq_true (by first | (with_reducible assumption) | assumption); obtain ⟨ad184, e184, hx184_0⟩ := Kd.at_int (Kd.R_reads' HO182.out).2.2 17 p184 q184; obtain rfl : ad183 = ad184 := (by injection e184); (try simp only [show (17 : Int).toNat = 17 from rfl, Nat.reduceMul, Nat.reduceEqDiff, Go.Addr.add, ↓reduceIte] at hx184_0); have qi184 : (17 < t179.length) = True := eq_true (by omega); (try rw [show ((17 : Int)).toNat = 17 from rfl] at hx184_0); replace p184 := eq_true p184; replace q184 := eq_true q184)); try go_wp2_with (first | (go_at_call 57; (with_reducible refine (spell_Read.calls k a0 t179 t180 _ A2.out).mono ?_); rintro e w8 ⟨v181, rfl, ho0, hb⟩; have n0_ := Aside0.mk (Kd.R_lower ho0 (below_size (by repeat (first | (with_reducible first | exact HB.out | apply below_alloc | apply pw_below_drewN | apply below_drew1) | exact HB.out)))); have n1_ := Aside0.mk (below_step (by repeat (first | (with_reducible first | exact HB.out | apply below_alloc | apply pw_below_drewN | apply below_drew1) | exact HB.out)) hb); clear HB; have HO182 := n0_; have HB := n1_; clear n0_ n1_; (try clear hb); (try clear hb2); (try clear hk); (try clear hi); (try clear ho0); obtain ⟨Ao9, co9, eo9⟩ := Kd.R_slice HO182.out; subst eo9; have p183 : 0 ≤ (0 : Int) := (by omega); have q183 : 0 < (t179.length : Int) := of_decide_eq_true (by first | (with_reducible assumption) | assumption); obtain ⟨ad183, e183, hx183_0⟩ := Kd.at_int (Kd.R_reads' HO182.out).2.2 0 p183 q183; cases e183; have qi183 : (0 < t179.length) = True := eq_true (by omega); (try rw [show ((0 : Int)).toNat = 0 from rfl] at hx183_0); (try rw [Addr.add_zero'] at hx183_0); replace p183 := eq_true p183; replace q183 := eq_true q183; have p184 : 0 ≤ (17 : Int) := (by omega); have q184 : 17 < (t179.length : Int) := of_decide_eq_true (by first | (with_reducible assumption) | assumption); obtain ⟨ad184, e184, hx184_0⟩ := Kd.at_int (Kd.R_reads' HO182.out).2.2 17 p184 q184; obtain rfl : ad183 = ad184 := (by injection e184); (try simp only [show (17 : Int).toNat = 17 from rfl, Nat.reduceMul, Nat.reduceEqDiff, Go.Addr.add, ↓reduceIte] at hx184_0); have qi184 : (17 < t179.length) = True := eq_true (by omega); (try rw [show ((17 : Int)).toNat = 17 from rfl] at hx184_0); replace p184 := eq_true p184; replace q184 := eq_true q184)))
      go_ret2
      exact ⟨_, by first | rfl | (simp [errW_none, errW_some] <;> rfl) | (simp [*, errW_none, errW_some] <;> rfl), by (with_reducible repeat (first | apply Kd.R_alloc | apply Kd.R_drewN | apply Kd.R_drew)); exact HO182.out, by repeat (first | (with_reducible first | exact HB.out | apply below_alloc | apply pw_below_drewN | apply below_drew1) | exact HB.out)⟩
     ·rw [if_neg c7] at H
      exact absurd H (by simp)
    ·rw [if_neg c6] at H
     have c6b0 : ((rd t179 0) == 1) = false := beq_eq_false_iff_ne.mpr c6
     have c6b1 : ((rd t179 0) != 1) = true := bne_iff_ne.mpr c6
     simp only [Option.some.injEq, Prod.mk.injEq] at H
     obtain ⟨rfl, rfl⟩ := H
     go_enter Tryd.func42, Tryd.ntmps42
     go_wp2_with (first | (go_at_call 57; (with_reducible refine (spell_Read.calls k a0 t179 t180 _ A2.out).mono ?_); rintro e w10 ⟨v181, rfl, ho0, hb⟩; have n0_ := Aside0.mk (Kd.R_lower ho0 (below_size (by repeat (first | (with_reducible first | exact HB.out | apply below_alloc | apply pw_below_drewN | apply below_drew1) | exact HB.out)))); have n1_ := Aside0.mk (below_step (by repeat (first | (with_reducible first | exact HB.out | apply below_alloc | apply pw_below_drewN | apply below_drew1) | exact HB.out)) hb); clear HB; have HO182 := n0_; have HB := n1_; clear n0_ n1_; (try clear hb); (try clear hb2); (try clear hk); (try clear hi); (try clear ho0); obtain ⟨Ao11, co11, eo11⟩ := Kd.R_slice HO182.out; subst eo11; have p183 : 0 ≤ (0 : Int) := (by omega); have q183 : 0 < (t179.length : Int) := of_decide_eq_true (by first | (with_reducible assumption) | assumption); obtain ⟨ad183, e183, hx183_0⟩ := Kd.at_int (Kd.R_reads' HO182.out).2.2 0 p183 q183; cases e183; have qi183 : (0 < t179.length) = True := eq_true (by omega); (try rw [show ((0 : Int)).toNat = 0 from rfl] at hx183_0); (try rw [Addr.add_zero'] at hx183_0); replace p183 := eq_true p183; replace q183 := eq_true q183))
     repeat (go_quiet (first | (go_at_call 57; (with_reducible refine (spell_Read.calls k a0 t179 t180 _ A2.out).mono ?_); rintro e w10 ⟨v181, rfl, ho0, hb⟩; have n0_ := Aside0.mk (Kd.R_lower ho0 (below_size (by repeat (first | (with_reducible first | exact HB.out | apply below_alloc | apply pw_below_drewN | apply below_drew1) | exact HB.out)))); have n1_ := Aside0.mk (below_step (by repeat (first | (with_reducible first | exact HB.out | apply below_alloc | apply pw_below_drewN | apply below_drew1) | exact HB.out)) hb); clear HB; have HO182 := n0_; have HB := n1_; clear n0_ n1_; (try clear hb); (try clear hb2); (try clear hk); (try clear hi); (try clear ho0); obtain ⟨Ao11, co11, eo11⟩ := Kd.R_slice HO182.out; subst eo11; have p183 : 0 ≤ (0 : Int) := (by omega); have q183 : 0 < (t179.length : Int) := of_decide_eq_true (by first | (with_reducible assumption) | assumption); obtain ⟨ad183, e183, hx183_0⟩ := Kd.at_int (Kd.R_reads' HO182.out).2.2 0 p183 q183; cases e183; have qi183 : (0 < t179.length) = True := eq_true (by omega); (try rw [show ((0 : Int)).toNat = 0 from rfl] at hx183_0); (try rw [Addr.add_zero'] at hx183_0); replace p183 := eq_true p183; replace q183 := eq_true q183)); try go_wp2_with (first | (go_at_call 57; (with_reducible refine (spell_Read.calls k a0 t179 t180 _ A2.out).mono ?_); rintro e w10 ⟨v181, rfl, ho0, hb⟩; have n0_ := Aside0.mk (Kd.R_lower ho0 (below_size (by repeat (first | (with_reducible first | exact HB.out | apply below_alloc | apply pw_below_drewN | apply below_drew1) | exact HB.out)))); have n1_ := Aside0.mk (below_step (by repeat (first | (with_reducible first | exact HB.out | apply below_alloc | apply pw_below_drewN | apply below_drew1) | exact HB.out)) hb); clear HB; have HO182 := n0_; have HB := n1_; clear n0_ n1_; (try clear hb); (try clear hb2); (try clear hk); (try clear hi); (try clear ho0); obtain ⟨Ao11, co11, eo11⟩ := Kd.R_slice HO182.out; subst eo11; have p183 : 0 ≤ (0 : Int) := (by omega); have q183 : 0 < (t179.length : Int) := of_decide_eq_true (by first | (with_reducible assumption) | assumption); obtain ⟨ad183, e183, hx183_0⟩ := Kd.at_int (Kd.R_reads' HO182.out).2.2 0 p183 q183; cases e183; have qi183 : (0 < t179.length) = True := eq_true (by omega); (try rw [show ((0 : Int)).toNat = 0 from rfl] at hx183_0); (try rw [Addr.add_zero'] at hx183_0); replace p183 := eq_true p183; replace q183 := eq_true q183)))
     go_ret2
     exact ⟨_, by first | rfl | (simp [errW_none, errW_some] <;> rfl) | (simp [*, errW_none, errW_some] <;> rfl), by (with_reducible repeat (first | apply Kd.R_alloc | apply Kd.R_drewN | apply Kd.R_drew)); exact HO182.out, by repeat (first | (with_reducible first | exact HB.out | apply below_alloc | apply pw_below_drewN | apply below_drew1) | exact HB.out)⟩
   ·rw [if_neg c5] at H
    exact absurd H (by simp)
  ·rw [if_neg c4] at H
   have c4b0 : ((t179.length : Int) == 50) = false := beq_eq_false_iff_ne.mpr c4
   have c4b1 : ((t179.length : Int) != 50) = true := bne_iff_ne.mpr c4
   simp only [Option.some.injEq, Prod.mk.injEq] at H
   obtain ⟨rfl, rfl⟩ := H
   go_enter Tryd.func42, Tryd.ntmps42
   go_wp2_with (first | (go_at_call 57; (with_reducible refine (spell_Read.calls k a0 t179 t180 _ A2.out).mono ?_); rintro e w12 ⟨v181, rfl, ho0, hb⟩; have n0_ := Aside0.mk (Kd.R_lower ho0 (below_size (by repeat (first | (with_reducible first | exact HB.out | apply below_alloc | apply pw_below_drewN | apply below_drew1) | exact HB.out)))); have n1_ := Aside0.mk (below_step (by repeat (first | (with_reducible first | exact HB.out | apply below_alloc | apply pw_below_drewN | apply below_drew1) | exact HB.out)) hb); clear HB; have HO182 := n0_; have HB := n1_; clear n0_ n1_; (try clear hb); (try clear hb2); (try clear hk); (try clear hi); (try clear ho0); obtain ⟨Ao13, co13, eo13⟩ := Kd.R_slice HO182.out; subst eo13))
   repeat (go_quiet (first | (go_at_call 57; (with_reducible refine (spell_Read.calls k a0 t179 t180 _ A2.out).mono ?_); rintro e w12 ⟨v181, rfl, ho0, hb⟩; have n0_ := Aside0.mk (Kd.R_lower ho0 (below_size (by repeat (first | (with_reducible first | exact HB.out | apply below_alloc | apply pw_below_drewN | apply below_drew1) | exact HB.out)))); have n1_ := Aside0.mk (below_step (by repeat (first | (with_reducible first | exact HB.out | apply below_alloc | apply pw_below_drewN | apply below_drew1) | exact HB.out)) hb); clear HB; have HO182 := n0_; have HB := n1_; clear n0_ n1_; (try clear hb); (try clear hb2); (try clear hk); (try clear hi); (try clear ho0); obtain ⟨Ao13, co13, eo13⟩ := Kd.R_slice HO182.out; subst eo13)); try go_wp2_with (first | (go_at_call 57; (with_reducible refine (spell_Read.calls k a0 t179 t180 _ A2.out).mono ?_); rintro e w12 ⟨v181, rfl, ho0, hb⟩; have n0_ := Aside0.mk (Kd.R_lower ho0 (below_size (by repeat (first | (with_reducible first | exact HB.out | apply below_alloc | apply pw_below_drewN | apply below_drew1) | exact HB.out)))); have n1_ := Aside0.mk (below_step (by repeat (first | (with_reducible first | exact HB.out | apply below_alloc | apply pw_below_drewN | apply below_drew1) | exact HB.out)) hb); clear HB; have HO182 := n0_; have HB := n1_; clear n0_ n1_; (try clear hb); (try clear hb2); (try clear hk); (try clear hi); (try clear ho0); obtain ⟨Ao13, co13, eo13⟩ := Kd.R_slice HO182.out; subst eo13)))
   go_ret2
   exact ⟨_, by first | rfl | (simp [errW_none, errW_some] <;> rfl) | (simp [*, errW_none, errW_some] <;> rfl), by (with_reducible repeat (first | apply Kd.R_alloc | apply Kd.R_drewN | apply Kd.R_drew)); exact HO182.out, by repeat (first | (with_reducible first | exact HB.out | apply below_alloc | apply pw_below_drewN | apply below_drew1) | exact HB.out)⟩
 ·rw [if_neg c3] at H
  have c3b0 : (t180 == 0) = false := beq_eq_false_iff_ne.mpr c3
  have c3b1 : (t180 != 0) = true := bne_iff_ne.mpr c3
  simp only [Option.some.injEq, Prod.mk.injEq] at H
  obtain ⟨rfl, rfl⟩ := H
  go_enter Tryd.func42, Tryd.ntmps42
  go_wp2_with (first | (go_at_call 57; (with_reducible refine (spell_Read.calls k a0 t179 t180 _ A2.out).mono ?_); rintro e w14 ⟨v181, rfl, ho0, hb⟩; have n0_ := Aside0.mk (Kd.R_lower ho0 (below_size (by repeat (first | (with_reducible first | exact HB.out | apply below_alloc | apply pw_below_drewN | apply below_drew1) | exact HB.out)))); have n1_ := Aside0.mk (below_step (by repeat (first | (with_reducible first | exact HB.out | apply below_alloc | apply pw_below_drewN | apply below_drew1) | exact HB.out)) hb); clear HB; have HO182 := n0_; have HB := n1_; clear n0_ n1_; (try clear hb); (try clear hb2); (try clear hk); (try clear hi); (try clear ho0)))
  repeat (go_quiet (first | (go_at_call 57; (with_reducible refine (spell_Read.calls k a0 t179 t180 _ A2.out).mono ?_); rintro e w14 ⟨v181, rfl, ho0, hb⟩; have n0_ := Aside0.mk (Kd.R_lower ho0 (below_size (by repeat (first | (with_reducible first | exact HB.out | apply below_alloc | apply pw_below_drewN | apply below_drew1) | exact HB.out)))); have n1_ := Aside0.mk (below_step (by repeat (first | (with_reducible first | exact HB.out | apply below_alloc | apply pw_below_drewN | apply below_drew1) | exact HB.out)) hb); clear HB; have HO182 := n0_; have HB := n1_; clear n0_ n1_; (try clear hb); (try clear hb2); (try clear hk); (try clear hi); (try clear ho0))); try go_wp2_with (first | (go_at_call 57; (with_reducible refine (spell_Read.calls k a0 t179 t180 _ A2.out).mono ?_); rintro e w14 ⟨v181, rfl, ho0, hb⟩; have n0_ := Aside0.mk (Kd.R_lower ho0 (below_size (by repeat (first | (with_reducible first | exact HB.out | apply below_alloc | apply pw_below_drewN | apply below_drew1) | exact HB.out)))); have n1_ := Aside0.mk (below_step (by repeat (first | (with_reducible first | exact HB.out | apply below_alloc | apply pw_below_drewN | apply below_drew1) | exact HB.out)) hb); clear HB; have HO182 := n0_; have HB := n1_; clear n0_ n1_; (try clear hb); (try clear hb2); (try clear hk); (try clear hi); (try clear ho0))))
  go_ret2
  exact ⟨_, by first | rfl | (simp [errW_none, errW_some] <;> rfl) | (simp [*, errW_none, errW_some] <;> rfl), by (with_reducible repeat (first | apply Kd.R_alloc | apply Kd.R_drewN | apply Kd.R_drew)); exact HO182.out, by repeat (first | (with_reducible first | exact HB.out | apply below_alloc | apply pw_below_drewN | apply below_drew1) | exact HB.out)⟩
def pass_number.l0 : Nat → Int → List Int → Int → Int → Option (Int)
 | 0, _, _, _, _ => none
 | k + 1, x2, x5, x6, x7 => if x7 < x6 then (if 0 ≤ x7 then (if x7 < (x5.length : Int) then (pass_number.l0 k (Go.bits .or .u64 (IntKind.u64.wrap (x2 * 256)) (IntKind.u64.wrap (rd x5 x7))) x5 x6 (wrap64 (x7 + 1))) else (none)) else (none)) else (some x2)
def pass_number.f (k : Nat) (l0 : List Int) : Option (Int) := pass_number.l0 k 0 l0 (l0.length : Int) 0
set_option maxHeartbeats 8000000 in
set_option maxRecDepth 100000 in
theorem pass_number.calls (k : Nat) (A0 : Option Addr) (c0 : Nat) (l0 : List Int) (r : Int) (w : World) (hr0 : Kd.C (Kd.int .u8) w A0 l0.length l0) (hc0 : l0.length ≤ c0) (h : pass_number.f k l0 = some r) :
  Calls Tryd.prog 58 #[.slice A0 l0.length c0] w fun e w' => e = .returned (.int .u64 r) ∧ Drawn0 w w' := by
 have HR0 := Aside0.mk hr0
 have HC0 := Aside0.mk hc0
 clear hr0 hc0
 have H : (pass_number.l0 k 0 l0 (l0.length : Int) 0) = some r := h
 clear h
 have H' := Aside0.mk H
 clear H
 go_enter Tryd.func58, Tryd.ntmps58
 go_wp2
 go_loopg [2, 7] k (fun kq v2 v7 w' => ∃ (x2_1 : Int) (x7_1 : Int), v2 = .int .u64 x2_1 ∧ v7 = .int .i64 x7_1 ∧ Aside0 (pass_number.l0 kq x2_1 l0 (l0.length : Int) x7_1 = some r) ∧ Aside0 (kq ≤ k) ∧ Drawn0 w w')
 case atStart => exact ⟨(0), (0), (by first | rfl | (simp; done) | (simp [*]; done)), (by first | rfl | (simp; done) | (simp [*]; done)), H', ⟨Nat.le_refl _⟩, by repeat (first | exact Drawn0.refl _ | apply Drawn0.step)⟩
 case round =>
  clear H'
  obtain ⟨x2_1, x7_1, rfl, rfl, HA, HK1, ⟨m1, rfl⟩⟩ := hrel
  cases gk with
  | zero => exact absurd HA.out (by simp [pass_number.l0])
  | succ k1 =>
   have H := HA.out
   clear HA
   simp only [pass_number.l0] at H
   by_cases c2 : x7_1 < (l0.length : Int)
   ·rw [if_pos c2] at H
    have c2b0 : decide (x7_1 < (l0.length : Int)) = true := decide_eq_true c2
    clear c2
    by_cases c3 : 0 ≤ x7_1
    ·rw [if_pos c3] at H
     have c3b0 : decide (0 ≤ x7_1) = true := decide_eq_true c3
     clear c3
     by_cases c4 : x7_1 < (l0.length : Int)
     ·rw [if_pos c4] at H
      have c4b0 : decide (x7_1 < (l0.length : Int)) = true := decide_eq_true c4
      clear c4
      have H' := Aside0.mk H
      clear H
      have p185 : 0 ≤ (x7_1 : Int) := of_decide_eq_true (by first | (with_reducible assumption) | assumption)
      have q185 : x7_1 < (l0.length : Int) := of_decide_eq_true (by first | (with_reducible assumption) | assumption)
      obtain ⟨ad185, e185, hx185_0⟩ := Kd.at_int HR0.out x7_1 p185 q185
      cases e185
      replace p185 := eq_true p185
      replace q185 := eq_true q185
      go_wp2
      go_roundg k1
      case measure => have := HK1.out; omega
      case rel => exact ⟨(Go.bits .or .u64 (IntKind.u64.wrap (x2_1 * 256)) (IntKind.u64.wrap (rd l0 x7_1))), (wrap64 (x7_1 + 1)), (by first | rfl | (simp; done) | (simp [*]; done)), (by first | rfl | (simp; done) | (simp [*]; done)), H', ⟨by have := HK1.out; omega⟩, by repeat (first | exact Drawn0.refl _ | apply Drawn0.step)⟩
     ·rw [if_neg c4] at H
      exact absurd H (by simp)
    ·rw [if_neg c3] at H
     exact absurd H (by simp)
   ·rw [if_neg c2] at H
    have c2b0 : decide (x7_1 < (l0.length : Int)) = false := decide_eq_false c2
    clear c2
    obtain rfl := Option.some.inj H
    go_wp2
    go_ret
    exact ⟨by first | rfl | (simp; done) | (simp [*]; done), by repeat (first | exact Drawn0.refl _ | apply Drawn0.step)⟩
end Go.Proofs.YtgljicdpcapgnaaDoor.PBase
namespace Go.Proofs.YtgljicdpcapgnaaDoor.PBase
open Go.RowKit Go.Proofs.YtgljicdpcapgnaaDoorW.PrintWords Go.Proofs.YtgljicdpcapgnaaDoorW.PrintLast Go.Proofs.YtgljicdpcapgnaaDoorW.PrintMore
attribute [local go_sem] max2_int min2_int max_two min_two max_three min_three max_four min_four   -- for this text's walks alone
set_option linter.unusedVariables false
set_option linter.unusedSimpArgs false
def pass_token.f (k : Nat) (l0 : List Int) : Option (Int × Int × Bool × Int) := if 1 ≤ 5 then (if 5 ≤ (l0.length : Int) then ((pass_number.f k ((l0.take 5).drop 1)).bind fun t188 => (if 5 ≤ 9 then (if 9 ≤ (l0.length : Int) then ((pass_number.f k ((l0.take 9).drop 5)).bind fun t190 => (if 9 ≤ 17 then (if 17 ≤ (l0.length : Int) then ((pass_number.f k ((l0.take 17).drop 9)).bind fun t192 => (if 17 < (l0.length : Int) then (some ((t188) % 4294967296, (t190) % 4294967296, ((rd l0 17) == 1), t192)) else (none))) else (none)) else (none))) else (none)) else (none))) else (none)) else (none)
def pass_token.T1 : Bool × List (List Nat × List Nat) := (true, [([], []), ([0], [0]), ([1], [1]), ([2], [2]), ([], []), ([4], [4]), ([5, 2], [5]), ([6], [6]), ([], []), ([8], [8]), ([9, 6], [9]), ([], []), ([11], [11]), ([12], [12]), ([13], [13]), ([3, 7, 10, 14], [3, 7, 10, 14]), ([15, 10, 0, 1, 2, 3, 4, 5, 6, 7, 8, 9, 10, 11, 12, 13, 14, 15], [15])])
def pass_token.B1 : List Nat := [0, 1, 3, 7, 0, 16, 55, 119, 0, 256, 887, 0, 2048, 6144, 14336, 32767, 65535]
theorem pass_token.tab1 : rtab .any (opsOf Tryd.f43 1) = pass_token.T1 := by kernel_rfl
theorem pass_token.bits1 : waitsOk pass_token.T1.2 pass_token.B1 = true := by kernel_rfl
set_option maxHeartbeats 8000000 in
set_option maxRecDepth 100000 in
theorem pass_token.calls (k : Nat) (A0 : Option Addr) (c0 : Nat) (l0 : List Int) (r1 : Int) (r2 : Int) (r3 : Bool) (r4 : Int) (w : World) (hr0 : Kd.C (Kd.int .u8) w A0 l0.length l0) (hc0 : l0.length ≤ c0) (h : pass_token.f k l0 = some (r1, r2, r3, r4)) :
  Calls Tryd.prog 43 #[.slice A0 l0.length c0] w fun e w' => e = .returned (.agg #[.int .u32 r1, .int .u32 r2, .bool r3, .int .u64 r4]) ∧ Below w.heap.size w w' := by
 have hu55 := Tryd.underlying55
 have HR0 := Aside0.mk hr0
 have HC0 := Aside0.mk hc0
 clear hr0 hc0
 have HB := Aside0.mk (Below.refl w.heap.size w)
 have H : (if 1 ≤ 5 then (if 5 ≤ (l0.length : Int) then ((pass_number.f k ((l0.take 5).drop 1)).bind fun t188 => (if 5 ≤ 9 then (if 9 ≤ (l0.length : Int) then ((pass_number.f k ((l0.take 9).drop 5)).bind fun t190 => (if 9 ≤ 17 then (if 17 ≤ (l0.length : Int) then ((pass_number.f k ((l0.take 17).drop 9)).bind fun t192 => (if 17 < (l0.length : Int) then (some ((t188) % 4294967296, (t190) % 4294967296, ((rd l0 17) == 1), t192)) else (none))) else (none)) else (none))) else (none)) else (none))) else (none)) else (none)) = some (r1, r2, r3, r4) := h
 clear h
 by_cases c2 : 1 ≤ 5
 ·rw [if_pos c2] at H
  have c2b0 := eq_true c2
  have c2b1 : decide (1 ≤ 5) = true := decide_eq_true c2
  clear c2
  by_cases c3 : 5 ≤ (l0.length : Int)
  ·rw [if_pos c3] at H
   have c3b0 := eq_true c3
   have c3b1 : decide (5 ≤ (l0.length : Int)) = true := decide_eq_true c3
   clear c3
   replace H := Option.bind_eq_some_iff.mp H
   obtain ⟨t188, A40, H⟩ := H
   replace H : (if 5 ≤ 9 then (if 9 ≤ (l0.length : Int) then ((pass_number.f k ((l0.take 9).drop 5)).bind fun t190 => (if 9 ≤ 17 then (if 17 ≤ (l0.length : Int) then ((pass_number.f k ((l0.take 17).drop 9)).bind fun t192 => (if 17 < (l0.length : Int) then (some ((t188) % 4294967296, (t190) % 4294967296, ((rd l0 17) == 1), t192)) else (none))) else (none)) else (none))) else (none)) else (none)) = some (r1, r2, r3, r4) := H
   have A4 := Aside0.mk A40
   clear A40
   by_cases c5 : 5 ≤ 9
   ·rw [if_pos c5] at H
    have c5b0 := eq_true c5
    have c5b1 : decide (5 ≤ 9) = true := decide_eq_true c5
    clear c5
    by_cases c6 : 9 ≤ (l0.length : Int)
    ·rw [if_pos c6] at H
     have c6b0 := eq_true c6
     have c6b1 : decide (9 ≤ (l0.length : Int)) = true := decide_eq_true c6
     clear c6
     replace H := Option.bind_eq_some_iff.mp H
     obtain ⟨t190, A70, H⟩ := H
     replace H : (if 9 ≤ 17 then (if 17 ≤ (l0.length : Int) then ((pass_number.f k ((l0.take 17).drop 9)).bind fun t192 => (if 17 < (l0.length : Int) then (some ((t188) % 4294967296, (t190) % 4294967296, ((rd l0 17) == 1), t192)) else (none))) else (none)) else (none)) = some (r1, r2, r3, r4) := H
     have A7 := Aside0.mk A70
     clear A70
     by_cases c8 : 9 ≤ 17
     ·rw [if_pos c8] at H
      have c8b0 := eq_true c8
      have c8b1 : decide (9 ≤ 17) = true := decide_eq_true c8
      clear c8
      by_cases c9 : 17 ≤ (l0.length : Int)
      ·rw [if_pos c9] at H
       have c9b0 := eq_true c9
       have c9b1 : decide (17 ≤ (l0.length : Int)) = true := decide_eq_true c9
       clear c9
       replace H := Option.bind_eq_some_iff.mp H
       obtain ⟨t192, A100, H⟩ := H
       replace H : (if 17 < (l0.length : Int) then (some ((t188) % 4294967296, (t190) % 4294967296, ((rd l0 17) == 1), t192)) else (none)) = some (r1, r2, r3, r4) := H
       have A10 := Aside0.mk A100
       clear A100
       by_cases c11 : 17 < (l0.length : Int)
       ·rw [if_pos c11] at H
        have c11b0 : decide (17 < (l0.length : Int)) = true := decide_eq_true c11
        have c11b1 : decide (17 < l0.length) = true := decide_eq_true (by omega)
        clear c11
        simp only [Option.some.injEq, Prod.mk.injEq] at H
        obtain ⟨rfl, rfl, rfl, rfl⟩ := H
        go_enter Tryd.func43, Tryd.ntmps43
        try go_wp2_with (first | ((with_reducible refine gate_dst (N := 2) rfl ?_); refine box_event ?hg (N := 2) ?hd (cs := #[.int .u32 0, .int .u32 0, .bool false, .int .u64 0]) (t := 55) ?hr ?_; (case hd => rfl); (case hg => rfl); (case hr => first | (go_simp; done) | (go_simp; rfl) | (go_simp; simp only [IntKind.wrap_u32, Int.emod_add_emod, Int.add_emod_emod])); intro gb186 hg w12 hbox hb; have n0_ := Aside0.mk (below_step (by repeat (first | (with_reducible first | exact HB.out | apply below_alloc | apply pw_below_drewN | apply below_drew1) | exact HB.out)) hb); have n1_ := Aside0.mk (hbox); have n2_ := Aside0.mk ((by rw [hg]; exact (below_size (by repeat (first | (with_reducible first | exact HB.out | apply below_alloc | apply pw_below_drewN | apply below_drew1) | exact HB.out))) : w.heap.size ≤ gb186)); have n3_ := Aside0.mk ((by rw [hg]; exact (below_size (by repeat (first | (with_reducible first | exact HB.out | apply below_alloc | apply pw_below_drewN | apply below_drew1) | exact HB.out))) : w.heap.size ≤ gb186)); clear HB; have HB := n0_; have BK186 := n1_; have GW186 := n2_; have GE186 := n3_; clear n0_ n1_ n2_ n3_; clear hb hbox hg))
        have n0_ := Aside0.mk (blk_drew BK186.out)
        have n1_ := Aside0.mk (below_drew1 HB.out)
        clear BK186
        clear HB
        have BK186 := n0_
        have HB := n1_
        clear n0_ n1_
        obtain ⟨i014, hi014, _, hsz14, _⟩ := info_parts info5
        obtain ⟨A14, hcut14, hA14, hC14⟩ := print_mid_of (P := Tryd.prog) (Value.int .u8) 0 23 5 .i64 .i64 Tryd.underlying23 hi014 hsz14 A0 c0 l0 1 5 (by omega) (by first | omega | exact of_decide_eq_true (by first | (with_reducible assumption) | assumption)) (of_decide_eq_true (by first | (with_reducible assumption) | assumption)) HC0.out
        have HR187 := Aside0.mk (Kd.C_of_reads (h1 := fun _ => rfl) (hA14 _ (Kd.reads_of_C HR0.out)))
        have HC187 := Aside0.mk hC14
        clear hA14 hC14 hi014 hsz14
        obtain ⟨i015, hi015, _, hsz15, _⟩ := info_parts info5
        obtain ⟨A15, hcut15, hA15, hC15⟩ := print_mid_of (P := Tryd.prog) (Value.int .u8) 0 23 5 .i64 .i64 Tryd.underlying23 hi015 hsz15 A0 c0 l0 5 9 (by omega) (by first | omega | exact of_decide_eq_true (by first | (with_reducible assumption) | assumption)) (of_decide_eq_true (by first | (with_reducible assumption) | assumption)) HC0.out
        have HR189 := Aside0.mk (Kd.C_of_reads (h1 := fun _ => rfl) (hA15 _ (Kd.reads_of_C HR0.out)))
        have HC189 := Aside0.mk hC15
        clear hA15 hC15 hi015 hsz15
        obtain ⟨i016, hi016, _, hsz16, _⟩ := info_parts info5
        obtain ⟨A16, hcut16, hA16, hC16⟩ := print_mid_of (P := Tryd.prog) (Value.int .u8) 0 23 5 .i64 .i64 Tryd.underlying23 hi016 hsz16 A0 c0 l0 9 17 (by omega) (by first | omega | exact of_decide_eq_true (by first | (with_reducible assumption) | assumption)) (of_decide_eq_true (by first | (with_reducible assumption) | assumption)) HC0.out
        have HR191 := Aside0.mk (Kd.C_of_reads (h1 := fun _ => rfl) (hA16 _ (Kd.reads_of_C HR0.out)))
        have HC191 := Aside0.mk hC16
        clear hA16 hC16 hi016 hsz16
        have p193 : 0 ≤ (17 : Int) := (by omega)
        have q193 : 17 < (l0.length : Int) := of_decide_eq_true (by first | (with_reducible assumption) | assumption)
        obtain ⟨ad193, e193, hx193_0⟩ := Kd.at_int HR0.out 17 p193 q193
        have hw193_0 := hx193_0
        (try rw [show ((17 : Int)).toNat = 17 from rfl] at hw193_0)
        (try rw [show 17 * 1 = 17 from rfl] at hw193_0)
        (try simp only [Nat.reduceMul, Nat.reduceEqDiff, Go.Addr.add, ↓reduceIte] at hw193_0)
        cases e193
        (try simp only [show (17 : Int).toNat = 17 from rfl, Nat.reduceMul, Nat.reduceEqDiff, Go.Addr.add, ↓reduceIte] at hx193_0)
        have qi193 : (17 < l0.length) = True := eq_true (by omega)
        (try rw [show ((17 : Int)).toNat = 17 from rfl] at hx193_0)
        replace hx193_0 := (HB.out.cell (World.block_lt_of_cell? w _ hx193_0)).trans hx193_0
        replace p193 := eq_true p193
        replace q193 := eq_true q193
        refine start_ (n := 17) (S := fun w' => w'.cell? ⟨ad193.block, ad193.off + 17, none⟩ = some (.int .u8 (rd l0 17))) (ds := []) #[false, false, false, false, false, false, false, false, false, false, false, false, false, false, false, false, false] (by kernel_rfl) rfl rfl (((HB.out.cell (World.block_lt_of_cell? w _ hw193_0)).trans hw193_0)) (fun hHeld => ?_); refine with_tabW pass_token.tab1 pass_token.bits1 (fun HT_ HW_ => ?_)
        generalize w12.drew = w13 at BK186 HB HR187 HR189 HR191 hx193_0 hHeld ⊢
        refine pure_ (i := 0) (N := some 3) (v := ?_) (a' := ?_) #[true, false, false, false, false, false, false, false, false, false, false, false, false, false, false, false, false] rfl rfl (any_of HT_.out (by kernel_rfl)) (fun _ _ _ h => h) (Or.inl ⟨by rfl, ?_⟩) ?_ ?_
        rotate_left
        ·intro w'
         go_simp
         with_reducible rfl
        rotate_left
        ·simp only [Act.put, List.setIfInBounds_toArray, List.set_cons_zero, List.set_cons_succ, i64_w, i32_w]
         rfl
        refine pure_ (i := 1) (N := some 4) (v := ?_) (a' := ?_) #[true, true, false, false, false, false, false, false, false, false, false, false, false, false, false, false, false] rfl rfl (any_of HT_.out (by kernel_rfl)) (fun _ _ _ h => h) (Or.inl ⟨by rfl, ?_⟩) ?_ ?_
        rotate_left
        ·intro w'
         go_simp
         with_reducible rfl
        rotate_left
        ·simp only [Act.put, List.setIfInBounds_toArray, List.set_cons_zero, List.set_cons_succ, i64_w, i32_w]
         rfl
        refine pure_ (i := 4) (N := some 7) (v := ?_) (a' := ?_) #[true, true, false, false, true, false, false, false, false, false, false, false, false, false, false, false, false] rfl rfl (any_of HT_.out (by kernel_rfl)) (fun _ _ _ h => h) (Or.inl ⟨by rfl, ?_⟩) ?_ ?_
        rotate_left
        ·intro w'
         go_simp
         with_reducible rfl
        rotate_left
        ·simp only [Act.put, List.setIfInBounds_toArray, List.set_cons_zero, List.set_cons_succ, i64_w, i32_w]
         rfl
        refine pure_ (i := 5) (N := some 8) (v := ?_) (a' := ?_) #[true, true, false, false, true, true, false, false, false, false, false, false, false, false, false, false, false] rfl rfl (any_of HT_.out (by kernel_rfl)) (fun _ _ _ h => h) (Or.inl ⟨by rfl, ?_⟩) ?_ ?_
        rotate_left
        ·intro w'
         go_simp
         with_reducible rfl
        rotate_left
        ·simp only [Act.put, List.setIfInBounds_toArray, List.set_cons_zero, List.set_cons_succ, i64_w, i32_w]
         rfl
        refine pure_ (i := 8) (N := some 11) (v := ?_) (a' := ?_) #[true, true, false, false, true, true, false, false, true, false, false, false, false, false, false, false, false] rfl rfl (any_of HT_.out (by kernel_rfl)) (fun _ _ _ h => h) (Or.inl ⟨by rfl, ?_⟩) ?_ ?_
        rotate_left
        ·intro w'
         go_simp
         with_reducible rfl
        rotate_left
        ·simp only [Act.put, List.setIfInBounds_toArray, List.set_cons_zero, List.set_cons_succ, i64_w, i32_w]
         rfl
        refine pure_ (i := 9) (N := some 12) (v := ?_) (a' := ?_) #[true, true, false, false, true, true, false, false, true, true, false, false, false, false, false, false, false] rfl rfl (any_of HT_.out (by kernel_rfl)) (fun _ _ _ h => h) (Or.inl ⟨by rfl, ?_⟩) ?_ ?_
        rotate_left
        ·intro w'
         go_simp
         with_reducible rfl
        rotate_left
        ·simp only [Act.put, List.setIfInBounds_toArray, List.set_cons_zero, List.set_cons_succ, i64_w, i32_w]
         rfl
        refine pure_ (i := 11) (N := some 14) (v := ?_) (a' := ?_) #[true, true, false, false, true, true, false, false, true, true, false, true, false, false, false, false, false] rfl rfl (any_of HT_.out (by kernel_rfl)) (fun _ _ _ h => h) (Or.inl ⟨by rfl, ?_⟩) ?_ ?_
        rotate_left
        ·intro w'
         go_simp
         with_reducible rfl
        rotate_left
        ·simp only [Act.put, List.setIfInBounds_toArray, List.set_cons_zero, List.set_cons_succ, i64_w, i32_w]
         rfl
        refine pure_ (i := 12) (N := some 15) (v := ?_) (a' := ?_) #[true, true, false, false, true, true, false, false, true, true, false, true, true, false, false, false, false] rfl rfl (any_of HT_.out (by kernel_rfl)) (fun _ _ _ h => h) (Or.inl ⟨by rfl, ?_⟩) ?_ ?_
        rotate_left
        ·intro w'
         go_simp
         with_reducible rfl
        rotate_left
        ·simp only [Act.put, List.setIfInBounds_toArray, List.set_cons_zero, List.set_cons_succ, i64_w, i32_w]
         rfl
        refine take_ (i := 13) (N := some 16) (v := ?_) (a' := ?_) #[true, true, false, false, true, true, false, false, true, true, false, true, true, true, false, false, false] rfl rfl (take_ofW HT_.out HW_.out (by kernel_rfl)) (fun _ _ _ h => h) (Or.inl ⟨by rfl, ?_⟩) hHeld ?_ ?_
        rotate_left
        ·intro w' s0
         go_simp
         with_reducible rfl
        rotate_left
        ·simp only [Act.put, List.setIfInBounds_toArray, List.set_cons_zero, List.set_cons_succ, i64_w, i32_w]
         rfl
        refine pure_ (i := 14) (N := some 17) (v := ?_) (a' := ?_) #[true, true, false, false, true, true, false, false, true, true, false, true, true, true, true, false, false] rfl rfl (any_of HT_.out (by kernel_rfl)) (fun _ _ _ h => h) (Or.inl ⟨by rfl, ?_⟩) ?_ ?_
        rotate_left
        ·intro w'
         go_simp
         with_reducible rfl
        rotate_left
        ·simp only [Act.put, List.setIfInBounds_toArray, List.set_cons_zero, List.set_cons_succ, i64_w, i32_w]
         rfl
        refine one_ (i := 2) (N := some 5) #[true, true, true, false, true, true, false, false, true, true, false, true, true, true, true, false, false] rfl rfl (one_of HT_.out (by kernel_rfl)) (by decide) (fun K hK => ?_)
        refine goes_ Tryd.func58 (by kernel_rfl) rfl #[.slice A14 ((l0.take 5).drop 1).length (c0 - 1)] (by rfl) rfl rfl (by (try simp only [List.map_toArray, List.map_cons, List.map_nil]); first | done | (rw [show ((l0.take 5).drop 1).length = (5 - 1) from (by rw [List.length_drop, List.length_take]; have h_ : (5 : Int) ≤ (l0.length : Int) := of_decide_eq_true (by first | (with_reducible assumption) | assumption); omega)] <;> rfl) | rfl | (simp only [List.length_drop, List.length_take]; rfl) | (simp only [List.length_drop, List.length_take]; (repeat rw [Nat.min_eq_left (by simp only [eq_iff_iff, iff_true] at *; omega)]); rfl)) ?_
        with_reducible refine (pass_number.calls k _ _ ((l0.take 5).drop 1) t188 _ ?side1 ?side2 A4.out).mono ?_
        (case side1 => repeat (first | exact (Kd.C_below HR187.out HB.out) | (with_reducible refine Kd.C_alloc ?_ _) | (with_reducible refine Kd.C_drewN ?_ _) | (with_reducible refine Kd.C_drew ?_)))
        (case side2 => exact HC187.out)
        rintro e w' ⟨rfl, ⟨nd, rfl⟩⟩
        refine ⟨_, rfl, ?_⟩
        refine hK.out _ _ (((HB.out.cell (World.block_lt_of_cell? w _ hw193_0)).trans hw193_0)) (fun hHeld => ?_)
        clear hK K
        refine norm_ (a' := ?_) ?_ ?_
        rotate_left
        ·show Act.put _ (some 5) _ = _
         simp only [Act.put, List.setIfInBounds_toArray, List.set_cons_zero, List.set_cons_succ, i64_w, i32_w]
         rfl
        refine pure_ (i := 3) (N := some 6) (v := ?_) (a' := ?_) #[true, true, true, true, true, true, false, false, true, true, false, true, true, true, true, false, false] rfl rfl (any_of HT_.out (by kernel_rfl)) (fun _ _ _ h => h) (Or.inl ⟨by rfl, ?_⟩) ?_ ?_
        rotate_left
        ·intro w'
         go_simp
         with_reducible rfl
        rotate_left
        ·simp only [Act.put, List.setIfInBounds_toArray, List.set_cons_zero, List.set_cons_succ, i64_w, i32_w]
         rfl
        refine one_ (i := 6) (N := some 9) #[true, true, true, true, true, true, true, false, true, true, false, true, true, true, true, false, false] rfl rfl (one_of HT_.out (by kernel_rfl)) (by decide) (fun K hK => ?_)
        refine goes_ Tryd.func58 (by kernel_rfl) rfl #[.slice A15 ((l0.take 9).drop 5).length (c0 - 5)] (by rfl) rfl rfl (by (try simp only [List.map_toArray, List.map_cons, List.map_nil]); first | done | (rw [show ((l0.take 9).drop 5).length = (9 - 5) from (by rw [List.length_drop, List.length_take]; have h_ : (9 : Int) ≤ (l0.length : Int) := of_decide_eq_true (by first | (with_reducible assumption) | assumption); omega)] <;> rfl) | rfl | (simp only [List.length_drop, List.length_take]; rfl) | (simp only [List.length_drop, List.length_take]; (repeat rw [Nat.min_eq_left (by simp only [eq_iff_iff, iff_true] at *; omega)]); rfl)) ?_
        with_reducible refine (pass_number.calls k _ _ ((l0.take 9).drop 5) t190 _ ?side1 ?side2 A7.out).mono ?_
        (case side1 => repeat (first | exact (Kd.C_below HR189.out (by repeat (first | (with_reducible first | exact HB.out | apply below_alloc | apply pw_below_drewN | apply below_drew1 | refine below_set ?_ GE186.out) | exact HB.out))) | (with_reducible refine Kd.C_alloc ?_ _) | (with_reducible refine Kd.C_drewN ?_ _) | (with_reducible refine Kd.C_drew ?_)))
        (case side2 => exact HC189.out)
        rintro e w' ⟨rfl, ⟨nd, rfl⟩⟩
        refine ⟨_, rfl, ?_⟩
        refine hK.out _ _ (((HB.out.cell (World.block_lt_of_cell? w _ hw193_0)).trans hw193_0)) (fun hHeld => ?_)
        clear hK K
        refine norm_ (a' := ?_) ?_ ?_
        rotate_left
        ·show Act.put _ (some 9) _ = _
         simp only [Act.put, List.setIfInBounds_toArray, List.set_cons_zero, List.set_cons_succ, i64_w, i32_w]
         rfl
        refine pure_ (i := 7) (N := some 10) (v := ?_) (a' := ?_) #[true, true, true, true, true, true, true, true, true, true, false, true, true, true, true, false, false] rfl rfl (any_of HT_.out (by kernel_rfl)) (fun _ _ _ h => h) (Or.inl ⟨by rfl, ?_⟩) ?_ ?_
        rotate_left
        ·intro w'
         go_simp
         with_reducible rfl
        rotate_left
        ·simp only [Act.put, List.setIfInBounds_toArray, List.set_cons_zero, List.set_cons_succ, i64_w, i32_w]
         rfl
        refine one_ (i := 10) (N := some 13) #[true, true, true, true, true, true, true, true, true, true, true, true, true, true, true, false, false] rfl rfl (one_of HT_.out (by kernel_rfl)) (by decide) (fun K hK => ?_)
        refine goes_ Tryd.func58 (by kernel_rfl) rfl #[.slice A16 ((l0.take 17).drop 9).length (c0 - 9)] (by rfl) rfl rfl (by (try simp only [List.map_toArray, List.map_cons, List.map_nil]); first | done | (rw [show ((l0.take 17).drop 9).length = (17 - 9) from (by rw [List.length_drop, List.length_take]; have h_ : (17 : Int) ≤ (l0.length : Int) := of_decide_eq_true (by first | (with_reducible assumption) | assumption); omega)] <;> rfl) | rfl | (simp only [List.length_drop, List.length_take]; rfl) | (simp only [List.length_drop, List.length_take]; (repeat rw [Nat.min_eq_left (by simp only [eq_iff_iff, iff_true] at *; omega)]); rfl)) ?_
        with_reducible refine (pass_number.calls k _ _ ((l0.take 17).drop 9) t192 _ ?side1 ?side2 A10.out).mono ?_
        (case side1 => repeat (first | exact (Kd.C_below HR191.out (by repeat (first | (with_reducible first | exact HB.out | apply below_alloc | apply pw_below_drewN | apply below_drew1 | refine below_set ?_ GE186.out) | exact HB.out))) | (with_reducible refine Kd.C_alloc ?_ _) | (with_reducible refine Kd.C_drewN ?_ _) | (with_reducible refine Kd.C_drew ?_)))
        (case side2 => exact HC191.out)
        rintro e w' ⟨rfl, ⟨nd, rfl⟩⟩
        refine ⟨_, rfl, ?_⟩
        refine hK.out _ _ (((HB.out.cell (World.block_lt_of_cell? w _ hw193_0)).trans hw193_0)) (fun hHeld => ?_)
        clear hK K
        refine norm_ (a' := ?_) ?_ ?_
        rotate_left
        ·show Act.put _ (some 13) _ = _
         simp only [Act.put, List.setIfInBounds_toArray, List.set_cons_zero, List.set_cons_succ, i64_w, i32_w]
         rfl
        refine pure_ (i := 15) (N := some 18) (v := ?_) (a' := ?_) #[true, true, true, true, true, true, true, true, true, true, true, true, true, true, true, true, false] rfl rfl (any_of HT_.out (by kernel_rfl)) (fun _ _ _ h => h) (Or.inl ⟨by rfl, ?_⟩) ?_ ?_
        rotate_left
        ·intro w'
         go_simp
         with_reducible rfl
        rotate_left
        ·simp only [Act.put, List.setIfInBounds_toArray, List.set_cons_zero, List.set_cons_succ, i64_w, i32_w]
         rfl
        refine one_ (i := 16) (N := none) #[true, true, true, true, true, true, true, true, true, true, true, true, true, true, true, true, true] rfl rfl (one_of HT_.out (by kernel_rfl)) (by decide) (fun K hK => ?_)
        have hs17 : w13.cell? ⟨gb186, 0, none⟩ = some (.int .u32 0) := (blk_cell BK186.out 0).trans rfl
        have hfs17 := blk_frozen BK186.out 0
        have hs18 : w13.cell? ⟨gb186, 1, none⟩ = some (.int .u32 0) := (blk_cell BK186.out 1).trans rfl
        have hfs18 := blk_frozen BK186.out 1
        have hs19 : w13.cell? ⟨gb186, 2, none⟩ = some (.bool false) := (blk_cell BK186.out 2).trans rfl
        have hfs19 := blk_frozen BK186.out 2
        have hs20 : w13.cell? ⟨gb186, 3, none⟩ = some (.int .u64 0) := (blk_cell BK186.out 3).trans rfl
        have hfs20 := blk_frozen BK186.out 3
        refine skip_ (w1 := ?_) (by rfl) rfl ?_ ?_
        rotate_left
        ·go_simp
         rfl
        refine hK.out _ _ (((cell_far (p := ⟨gb186, _, none⟩) (by first | exact Nat.ne_of_lt (Nat.lt_of_lt_of_le (by have := World.block_lt_of_cell? _ _ hw193_0; first | rwa [add_block] at this | exact this) GW186.out) | (rw [add_block]; exact Nat.ne_of_lt (Nat.lt_of_lt_of_le (by have := World.block_lt_of_cell? _ _ hw193_0; first | rwa [add_block] at this | exact this) GW186.out)) | (show (Addr.add _ _).block ≠ _; rw [add_block]; exact Nat.ne_of_lt (Nat.lt_of_lt_of_le (by have := World.block_lt_of_cell? _ _ hw193_0; first | rwa [add_block] at this | exact this) GW186.out)) | (dsimp only; exact Nat.ne_of_lt (Nat.lt_of_lt_of_le (by have := World.block_lt_of_cell? _ _ hw193_0; first | rwa [add_block] at this | exact this) GW186.out))) _).trans (((cell_far (p := ⟨gb186, _, none⟩) (by first | exact Nat.ne_of_lt (Nat.lt_of_lt_of_le (by have := World.block_lt_of_cell? _ _ hw193_0; first | rwa [add_block] at this | exact this) GW186.out) | (rw [add_block]; exact Nat.ne_of_lt (Nat.lt_of_lt_of_le (by have := World.block_lt_of_cell? _ _ hw193_0; first | rwa [add_block] at this | exact this) GW186.out)) | (show (Addr.add _ _).block ≠ _; rw [add_block]; exact Nat.ne_of_lt (Nat.lt_of_lt_of_le (by have := World.block_lt_of_cell? _ _ hw193_0; first | rwa [add_block] at this | exact this) GW186.out)) | (dsimp only; exact Nat.ne_of_lt (Nat.lt_of_lt_of_le (by have := World.block_lt_of_cell? _ _ hw193_0; first | rwa [add_block] at this | exact this) GW186.out))) _).trans (((cell_far (p := ⟨gb186, _, none⟩) (by first | exact Nat.ne_of_lt (Nat.lt_of_lt_of_le (by have := World.block_lt_of_cell? _ _ hw193_0; first | rwa [add_block] at this | exact this) GW186.out) | (rw [add_block]; exact Nat.ne_of_lt (Nat.lt_of_lt_of_le (by have := World.block_lt_of_cell? _ _ hw193_0; first | rwa [add_block] at this | exact this) GW186.out)) | (show (Addr.add _ _).block ≠ _; rw [add_block]; exact Nat.ne_of_lt (Nat.lt_of_lt_of_le (by have := World.block_lt_of_cell? _ _ hw193_0; first | rwa [add_block] at this | exact this) GW186.out)) | (dsimp only; exact Nat.ne_of_lt (Nat.lt_of_lt_of_le (by have := World.block_lt_of_cell? _ _ hw193_0; first | rwa [add_block] at this | exact this) GW186.out))) _).trans (((cell_far (p := ⟨gb186, _, none⟩) (by first | exact Nat.ne_of_lt (Nat.lt_of_lt_of_le (by have := World.block_lt_of_cell? _ _ hw193_0; first | rwa [add_block] at this | exact this) GW186.out) | (rw [add_block]; exact Nat.ne_of_lt (Nat.lt_of_lt_of_le (by have := World.block_lt_of_cell? _ _ hw193_0; first | rwa [add_block] at this | exact this) GW186.out)) | (show (Addr.add _ _).block ≠ _; rw [add_block]; exact Nat.ne_of_lt (Nat.lt_of_lt_of_le (by have := World.block_lt_of_cell? _ _ hw193_0; first | rwa [add_block] at this | exact this) GW186.out)) | (dsimp only; exact Nat.ne_of_lt (Nat.lt_of_lt_of_le (by have := World.block_lt_of_cell? _ _ hw193_0; first | rwa [add_block] at this | exact this) GW186.out))) _).trans (hHeld))))))))) (fun hHeld => ?_)
        clear hK K
        refine done_ (done_of HT_.out (by kernel_rfl)) ?_
        try go_wp2
        refine bodyPost_ret (results_cell_row rfl _ _ gb186 55 #[.int .u32 ((t188) % 4294967296), .int .u32 ((t190) % 4294967296), .bool ((rd l0 17) == 1), .int .u64 t192] (0, 0) _ rfl (by (with_reducible repeat (first | refine blk_drewN ?_ _ | refine blk_drew ?_ | refine blk_alloc ?_ _)); refine blk_put (cs := #[.int .u32 ((t188) % 4294967296), .int .u32 ((t190) % 4294967296), .bool ((rd l0 17) == 1), .int .u64 0]) ?_ 3 _ rfl; (with_reducible repeat (first | refine blk_drewN ?_ _ | refine blk_drew ?_ | refine blk_alloc ?_ _)); refine blk_put (cs := #[.int .u32 ((t188) % 4294967296), .int .u32 ((t190) % 4294967296), .bool false, .int .u64 0]) ?_ 2 _ rfl; (with_reducible repeat (first | refine blk_drewN ?_ _ | refine blk_drew ?_ | refine blk_alloc ?_ _)); refine blk_put (cs := #[.int .u32 ((t188) % 4294967296), .int .u32 0, .bool false, .int .u64 0]) ?_ 1 _ rfl; (with_reducible repeat (first | refine blk_drewN ?_ _ | refine blk_drew ?_ | refine blk_alloc ?_ _)); refine blk_put (cs := #[.int .u32 0, .int .u32 0, .bool false, .int .u64 0]) ?_ 0 _ rfl; (with_reducible repeat (first | refine blk_drewN ?_ _ | refine blk_drew ?_ | refine blk_alloc ?_ _)); exact BK186.out) Tryd.underlying55 rfl (by kernel_rfl)) rfl ?_
        exact ⟨by first | rfl | (simp [errW_none, errW_some] <;> rfl) | (simp [*, errW_none, errW_some] <;> rfl), by repeat (first | (with_reducible first | exact HB.out | apply below_alloc | apply pw_below_drewN | apply below_drew1 | refine below_set ?_ GE186.out) | exact HB.out)⟩
       ·rw [if_neg c11] at H
        exact absurd H (by simp)
      ·rw [if_neg c9] at H
       exact absurd H (by simp)
     ·rw [if_neg c8] at H
      exact absurd H (by simp)
    ·rw [if_neg c6] at H
     exact absurd H (by simp)
   ·rw [if_neg c5] at H
    exact absurd H (by simp)
  ·rw [if_neg c3] at H
   exact absurd H (by simp)
 ·rw [if_neg c2] at H
  exact absurd H (by simp)
def coamingref00_Tenants.l0 : Nat → List (S58) → Int → Option (Bool)
 | 0, _, _ => none
 | k + 1, x0, x3 => if x3 < (x0.length : Int) then (if 0 ≤ x3 then (if (((rd_T58 x0 x3).f1).length : Int) > 200 then (some false) else (if (((rd_T58 x0 x3).f4).length : Int) > 50 then (some false) else (coamingref00_Tenants.l0 k x0 (wrap64 (x3 + 1))))) else (none)) else (some true)
def coamingref00_Tenants.f (k : Nat) (l0 : List (S58)) : Option (Bool) := if (l0.length : Int) > 70 then (some false) else (coamingref00_Tenants.l0 k l0 0)
set_option maxHeartbeats 8000000 in
set_option maxRecDepth 100000 in
theorem coamingref00_Tenants.calls (k : Nat) (A0 : Option Addr) (c0 : Nat) (l0 : List (S58)) (r : Bool) (w : World) (hr0 : Kd.C k58 w A0 l0.length l0) (hc0 : l0.length ≤ c0) (h : coamingref00_Tenants.f k l0 = some r) :
  Calls Tryd.prog 28 #[.slice A0 l0.length c0] w fun e w' => e = .returned (.bool r) ∧ Drawn0 w w' := by
 have HR0 := Aside0.mk hr0
 have HC0 := Aside0.mk hc0
 clear hr0 hc0
 have H : (if (l0.length : Int) > 70 then (some false) else (coamingref00_Tenants.l0 k l0 0)) = some r := h
 clear h
 by_cases c2 : (l0.length : Int) > 70
 ·rw [if_pos c2] at H
  have c2b0 : decide (70 < (l0.length : Int)) = true := decide_eq_true c2
  have c2b1 : decide (70 < l0.length) = true := decide_eq_true (by omega)
  clear c2
  obtain rfl := Option.some.inj H
  go_enter Tryd.func28, Tryd.ntmps28
  go_wp2
  go_ret
  exact ⟨by first | rfl | (simp; done) | (simp [*]; done), by repeat (first | exact Drawn0.refl _ | apply Drawn0.step)⟩
 ·rw [if_neg c2] at H
  have c2b0 : decide (70 < (l0.length : Int)) = false := decide_eq_false c2
  have c2b1 : decide (70 < l0.length) = false := decide_eq_false (by omega)
  clear c2
  have H' := Aside0.mk H
  clear H
  go_enter Tryd.func28, Tryd.ntmps28
  go_wp2
  go_loopg [3] k (fun kq v3 w' => ∃ (x3_1 : Int), v3 = .int .i64 x3_1 ∧ Aside0 (coamingref00_Tenants.l0 kq l0 x3_1 = some r) ∧ Aside0 (kq ≤ k) ∧ Drawn0 w w')
  case atStart => exact ⟨(0), (by first | rfl | (simp; done) | (simp [*]; done)), H', ⟨Nat.le_refl _⟩, by repeat (first | exact Drawn0.refl _ | apply Drawn0.step)⟩
  case round =>
   clear H'
   try clear c2
   try clear c2b0
   try clear c2b1
   try clear p2
   obtain ⟨x3_1, rfl, HA, HK1, ⟨m1, rfl⟩⟩ := hrel
   cases gk with
   | zero => exact absurd HA.out (by simp [coamingref00_Tenants.l0])
   | succ k1 =>
    have H := HA.out
    clear HA
    simp only [coamingref00_Tenants.l0] at H
    by_cases c3 : x3_1 < (l0.length : Int)
    ·rw [if_pos c3] at H
     have c3b0 : decide (x3_1 < (l0.length : Int)) = true := decide_eq_true c3
     clear c3
     by_cases c4 : 0 ≤ x3_1
     ·rw [if_pos c4] at H
      have c4b0 : decide (0 ≤ x3_1) = true := decide_eq_true c4
      clear c4
      by_cases c5 : (((rd_T58 l0 x3_1).f1).length : Int) > 200
      ·rw [if_pos c5] at H
       have c5b0 : decide (200 < (((rd_T58 l0 x3_1).f1).length : Int)) = true := decide_eq_true c5
       have c5b1 : decide (200 < ((rd_T58 l0 x3_1).f1).length) = true := decide_eq_true (by omega)
       clear c5
       obtain rfl := Option.some.inj H
       have p225 : 0 ≤ (x3_1 : Int) := of_decide_eq_true (by first | (with_reducible assumption) | assumption)
       have q225 : x3_1 < (l0.length : Int) := of_decide_eq_true (by first | (with_reducible assumption) | assumption)
       obtain ⟨ad225, A225_1, c225_1, A225_4, c225_4, e225, hx225_0, hx225_1, hx225_2, hx225_3, hx225_4, hl225_1, hi225_1, hl225_4, hi225_4⟩ := at_T58 HR0.out x3_1 p225 q225
       cases e225
       have HR225_1 := Aside0.mk hi225_1
       have HC225_1 := Aside0.mk hl225_1
       clear hi225_1 hl225_1
       have HR225_4 := Aside0.mk hi225_4
       have HC225_4 := Aside0.mk hl225_4
       clear hi225_4 hl225_4
       replace p225 := eq_true p225
       replace q225 := eq_true q225
       go_wp2
       go_ret
       exact ⟨by first | rfl | (simp; done) | (simp [*]; done), by repeat (first | exact Drawn0.refl _ | apply Drawn0.step)⟩
      ·rw [if_neg c5] at H
       have c5b0 : decide (200 < (((rd_T58 l0 x3_1).f1).length : Int)) = false := decide_eq_false c5
       have c5b1 : decide (200 < ((rd_T58 l0 x3_1).f1).length) = false := decide_eq_false (by omega)
       clear c5
       by_cases c6 : (((rd_T58 l0 x3_1).f4).length : Int) > 50
       ·rw [if_pos c6] at H
        have c6b0 : decide (50 < (((rd_T58 l0 x3_1).f4).length : Int)) = true := decide_eq_true c6
        have c6b1 : decide (50 < ((rd_T58 l0 x3_1).f4).length) = true := decide_eq_true (by omega)
        clear c6
        obtain rfl := Option.some.inj H
        have p225 : 0 ≤ (x3_1 : Int) := of_decide_eq_true (by first | (with_reducible assumption) | assumption)
        have q225 : x3_1 < (l0.length : Int) := of_decide_eq_true (by first | (with_reducible assumption) | assumption)
        obtain ⟨ad225, A225_1, c225_1, A225_4, c225_4, e225, hx225_0, hx225_1, hx225_2, hx225_3, hx225_4, hl225_1, hi225_1, hl225_4, hi225_4⟩ := at_T58 HR0.out x3_1 p225 q225
        cases e225
        have HR225_1 := Aside0.mk hi225_1
        have HC225_1 := Aside0.mk hl225_1
        clear hi225_1 hl225_1
        have HR225_4 := Aside0.mk hi225_4
        have HC225_4 := Aside0.mk hl225_4
        clear hi225_4 hl225_4
        replace p225 := eq_true p225
        replace q225 := eq_true q225
        have p226 : 0 ≤ (x3_1 : Int) := of_decide_eq_true (by first | (with_reducible assumption) | assumption)
        have q226 : x3_1 < (l0.length : Int) := of_decide_eq_true (by first | (with_reducible assumption) | assumption)
        obtain ⟨ad226, A226_1, c226_1, A226_4, c226_4, e226, hx226_0, hx226_1, hx226_2, hx226_3, hx226_4, hl226_1, hi226_1, hl226_4, hi226_4⟩ := at_T58 HR0.out x3_1 p226 q226
        obtain rfl : ad225 = ad226 := (by injection e226)
        have HR226_1 := Aside0.mk hi226_1
        have HC226_1 := Aside0.mk hl226_1
        clear hi226_1 hl226_1
        have HR226_4 := Aside0.mk hi226_4
        have HC226_4 := Aside0.mk hl226_4
        clear hi226_4 hl226_4
        replace p226 := eq_true p226
        replace q226 := eq_true q226
        have ea_ := Option.some.inj (hx225_1.symm.trans hx226_1)
        injection ea_ with ea_ en_ ec_
        subst ea_
        subst ec_
        clear en_
        have ea_ := Option.some.inj (hx225_4.symm.trans hx226_4)
        injection ea_ with ea_ en_ ec_
        subst ea_
        subst ec_
        clear en_
        go_wp2
        go_ret
        exact ⟨by first | rfl | (simp; done) | (simp [*]; done), by repeat (first | exact Drawn0.refl _ | apply Drawn0.step)⟩
       ·rw [if_neg c6] at H
        have c6b0 : decide (50 < (((rd_T58 l0 x3_1).f4).length : Int)) = false := decide_eq_false c6
        have c6b1 : decide (50 < ((rd_T58 l0 x3_1).f4).length) = false := decide_eq_false (by omega)
        clear c6
        have H' := Aside0.mk H
        clear H
        have p225 : 0 ≤ (x3_1 : Int) := of_decide_eq_true (by first | (with_reducible assumption) | assumption)
        have q225 : x3_1 < (l0.length : Int) := of_decide_eq_true (by first | (with_reducible assumption) | assumption)
        obtain ⟨ad225, A225_1, c225_1, A225_4, c225_4, e225, hx225_0, hx225_1, hx225_2, hx225_3, hx225_4, hl225_1, hi225_1, hl225_4, hi225_4⟩ := at_T58 HR0.out x3_1 p225 q225
        cases e225
        have HR225_1 := Aside0.mk hi225_1
        have HC225_1 := Aside0.mk hl225_1
        clear hi225_1 hl225_1
        have HR225_4 := Aside0.mk hi225_4
        have HC225_4 := Aside0.mk hl225_4
        clear hi225_4 hl225_4
        replace p225 := eq_true p225
        replace q225 := eq_true q225
        have p226 : 0 ≤ (x3_1 : Int) := of_decide_eq_true (by first | (with_reducible assumption) | assumption)
        have q226 : x3_1 < (l0.length : Int) := of_decide_eq_true (by first | (with_reducible assumption) | assumption)
        obtain ⟨ad226, A226_1, c226_1, A226_4, c226_4, e226, hx226_0, hx226_1, hx226_2, hx226_3, hx226_4, hl226_1, hi226_1, hl226_4, hi226_4⟩ := at_T58 HR0.out x3_1 p226 q226
        obtain rfl : ad225 = ad226 := (by injection e226)
        have HR226_1 := Aside0.mk hi226_1
        have HC226_1 := Aside0.mk hl226_1
        clear hi226_1 hl226_1
        have HR226_4 := Aside0.mk hi226_4
        have HC226_4 := Aside0.mk hl226_4
        clear hi226_4 hl226_4
        replace p226 := eq_true p226
        replace q226 := eq_true q226
        have ea_ := Option.some.inj (hx225_1.symm.trans hx226_1)
        injection ea_ with ea_ en_ ec_
        subst ea_
        subst ec_
        clear en_
        have ea_ := Option.some.inj (hx225_4.symm.trans hx226_4)
        injection ea_ with ea_ en_ ec_
        subst ea_
        subst ec_
        clear en_
        go_wp2
        go_roundg k1
        case measure => have := HK1.out; omega
        case rel => exact ⟨(wrap64 (x3_1 + 1)), (by first | rfl | (simp; done) | (simp [*]; done)), H', ⟨by have := HK1.out; omega⟩, by repeat (first | exact Drawn0.refl _ | apply Drawn0.step)⟩
     ·rw [if_neg c4] at H
      exact absurd H (by simp)
    ·rw [if_neg c3] at H
     have c3b0 : decide (x3_1 < (l0.length : Int)) = false := decide_eq_false c3
     clear c3
     obtain rfl := Option.some.inj H
     go_wp2
     go_ret
     exact ⟨by first | rfl | (simp; done) | (simp [*]; done), by repeat (first | exact Drawn0.refl _ | apply Drawn0.step)⟩
def slices_Index_uint32_uint32.l0 : Nat → List Int → Int → Int → Int → Option (Int)
 | 0, _, _, _, _ => none
 | k + 1, x0, x1, x7, x8 => if x8 < x7 then (if 0 ≤ x8 then (if x8 < (x0.length : Int) then (if x1 = (rd x0 x8) then (some x8) else (slices_Index_uint32_uint32.l0 k x0 x1 x7 (wrap64 (x8 + 1)))) else (none)) else (none)) else (some (-1))
def slices_Index_uint32_uint32.f (k : Nat) (l0 : List Int) (a1 : Int) : Option (Int) := slices_Index_uint32_uint32.l0 k l0 a1 (l0.length : Int) 0
set_option maxHeartbeats 8000000 in
set_option maxRecDepth 100000 in
theorem slices_Index_uint32_uint32.calls (k : Nat) (A0 : Option Addr) (c0 : Nat) (l0 : List Int) (a1 : Int) (r : Int) (w : World) (hr0 : Kd.C (Kd.int .u32) w A0 l0.length l0) (hc0 : l0.length ≤ c0) (h : slices_Index_uint32_uint32.f k l0 a1 = some r) :
  Calls Tryd.prog 63 #[.slice A0 l0.length c0, .int .u32 a1] w fun e w' => e = .returned (.int .i64 r) ∧ Drawn0 w w' := by
 have HR0 := Aside0.mk hr0
 have HC0 := Aside0.mk hc0
 clear hr0 hc0
 have H : (slices_Index_uint32_uint32.l0 k l0 a1 (l0.length : Int) 0) = some r := h
 clear h
 have H' := Aside0.mk H
 clear H
 go_enter Tryd.func63, Tryd.ntmps63
 go_wp2
 go_loopg [8] k (fun kq v8 w' => ∃ (x8_1 : Int), v8 = .int .i64 x8_1 ∧ Aside0 (slices_Index_uint32_uint32.l0 kq l0 a1 (l0.length : Int) x8_1 = some r) ∧ Aside0 (kq ≤ k) ∧ Drawn0 w w')
 case atStart => exact ⟨(0), (by first | rfl | (simp; done) | (simp [*]; done)), H', ⟨Nat.le_refl _⟩, by repeat (first | exact Drawn0.refl _ | apply Drawn0.step)⟩
 case round =>
  clear H'
  try clear p2
  obtain ⟨x8_1, rfl, HA, HK1, ⟨m1, rfl⟩⟩ := hrel
  cases gk with
  | zero => exact absurd HA.out (by simp [slices_Index_uint32_uint32.l0])
  | succ k1 =>
   have H := HA.out
   clear HA
   simp only [slices_Index_uint32_uint32.l0] at H
   by_cases c3 : x8_1 < (l0.length : Int)
   ·rw [if_pos c3] at H
    have c3b0 : decide (x8_1 < (l0.length : Int)) = true := decide_eq_true c3
    clear c3
    by_cases c4 : 0 ≤ x8_1
    ·rw [if_pos c4] at H
     have c4b0 : decide (0 ≤ x8_1) = true := decide_eq_true c4
     clear c4
     by_cases c5 : x8_1 < (l0.length : Int)
     ·rw [if_pos c5] at H
      have c5b0 : decide (x8_1 < (l0.length : Int)) = true := decide_eq_true c5
      clear c5
      by_cases c6 : a1 = (rd l0 x8_1)
      ·rw [if_pos c6] at H
       have c6b0 : (a1 == (rd l0 x8_1)) = true := beq_iff_eq.mpr c6
       have c6b1 : (a1 != (rd l0 x8_1)) = false := bne_eq_false_iff_eq.mpr c6
       clear c6
       obtain rfl := Option.some.inj H
       have p227 : 0 ≤ (x8_1 : Int) := of_decide_eq_true (by first | (with_reducible assumption) | assumption)
       have q227 : x8_1 < (l0.length : Int) := of_decide_eq_true (by first | (with_reducible assumption) | assumption)
       obtain ⟨ad227, e227, hx227_0⟩ := Kd.at_int HR0.out x8_1 p227 q227
       cases e227
       replace p227 := eq_true p227
       replace q227 := eq_true q227
       go_wp2
       go_ret
       exact ⟨by first | rfl | (simp; done) | (simp [*]; done), by repeat (first | exact Drawn0.refl _ | apply Drawn0.step)⟩
      ·rw [if_neg c6] at H
       have c6b0 : (a1 == (rd l0 x8_1)) = false := beq_eq_false_iff_ne.mpr c6
       have c6b1 : (a1 != (rd l0 x8_1)) = true := bne_iff_ne.mpr c6
       have H' := Aside0.mk H
       clear H
       have p227 : 0 ≤ (x8_1 : Int) := of_decide_eq_true (by first | (with_reducible assumption) | assumption)
       have q227 : x8_1 < (l0.length : Int) := of_decide_eq_true (by first | (with_reducible assumption) | assumption)
       obtain ⟨ad227, e227, hx227_0⟩ := Kd.at_int HR0.out x8_1 p227 q227
       cases e227
       replace p227 := eq_true p227
       replace q227 := eq_true q227
       go_wp2
       go_roundg k1
       case measure => have := HK1.out; omega
       case rel => exact ⟨(wrap64 (x8_1 + 1)), (by first | rfl | (simp; done) | (simp [*]; done)), H', ⟨by have := HK1.out; omega⟩, by repeat (first | exact Drawn0.refl _ | apply Drawn0.step)⟩
     ·rw [if_neg c5] at H
      exact absurd H (by simp)
    ·rw [if_neg c4] at H
     exact absurd H (by simp)
   ·rw [if_neg c3] at H
    have c3b0 : decide (x8_1 < (l0.length : Int)) = false := decide_eq_false c3
    clear c3
    obtain rfl := Option.some.inj H
    go_wp2
    go_ret
    exact ⟨by first | rfl | (simp; done) | (simp [*]; done), by repeat (first | exact Drawn0.refl _ | apply Drawn0.step)⟩
def slices_Contains_uint32_uint32.f (k : Nat) (l0 : List Int) (a1 : Int) : Option (Bool) := (slices_Index_uint32_uint32.f k l0 a1).bind fun t228 => (some (decide (t228 ≥ 0)))
set_option maxHeartbeats 8000000 in
set_option maxRecDepth 100000 in
theorem slices_Contains_uint32_uint32.calls (k : Nat) (A0 : Option Addr) (c0 : Nat) (l0 : List Int) (a1 : Int) (r : Bool) (w : World) (hr0 : Kd.C (Kd.int .u32) w A0 l0.length l0) (hc0 : l0.length ≤ c0) (h : slices_Contains_uint32_uint32.f k l0 a1 = some r) :
  Calls Tryd.prog 46 #[.slice A0 l0.length c0, .int .u32 a1] w fun e w' => e = .returned (.bool r) ∧ Drawn0 w w' := by
 have HR0 := Aside0.mk hr0
 have HC0 := Aside0.mk hc0
 clear hr0 hc0
 have H : ((slices_Index_uint32_uint32.f k l0 a1).bind fun t228 => (some (decide (t228 ≥ 0)))) = some r := h
 clear h
 replace H := Option.bind_eq_some_iff.mp H
 obtain ⟨t228, A30, H⟩ := H
 replace H : (some (decide (t228 ≥ 0))) = some r := H
 have A3 := Aside0.mk A30
 clear A30
 obtain rfl := Option.some.inj H
 go_enter Tryd.func46, Tryd.ntmps46
 go_wp2_with (first | ((with_reducible refine gate_callee (f := 63) rfl ?_); refine goesL_ (some 7) rfl rfl Tryd.func63 (by kernel_rfl) rfl #[.slice A0 l0.length c0, .int .u32 a1] rfl (by (try simp only [List.map_toArray, List.map_cons, List.map_nil]); first | done | rfl | (simp only [List.length_drop, List.length_take]; rfl) | (simp only [List.length_drop, List.length_take]; (repeat rw [Nat.min_eq_left (by simp only [eq_iff_iff, iff_true] at *; omega)]); rfl)) ?_; (with_reducible refine (slices_Index_uint32_uint32.calls k _ _ l0 a1 t228 _ ?side1 ?side2 A3.out).mono ?_); (case side1 => repeat (first | exact HR0.out | (with_reducible refine Kd.C_alloc ?_ _) | (with_reducible refine Kd.C_drewN ?_ _) | (with_reducible refine Kd.C_drew ?_))); (case side2 => exact HC0.out); rintro e w' ⟨rfl, ⟨nd, rfl⟩⟩; refine ⟨_, rfl, ?_⟩))
 go_ret
 exact ⟨by first | rfl | (simp; done) | (simp [*]; done), by repeat (first | exact Drawn0.refl _ | apply Drawn0.step)⟩
end Go.Proofs.YtgljicdpcapgnaaDoor.PBase
