/- spell's functions, as they were printed, are the plain ones. -/
import Derived.Test.YtojecbigcamedaaSpellMath
import Derived.Test.YtojecbigcamedaaPBasex
set_option linter.unusedVariables false
set_option linter.unusedSimpArgs false
namespace Go.Proofs.Ytojecbigcamedaa.Sp
open Go.RowKit Go.Proofs.Ytojecbigcamedaa.PBase Go.Proofs.YtojecbigcamedaaW.PrintWords Go.Proofs.YtojecbigcamedaaW.PrintLast Go.Proofs.YtojecbigcamedaaW.PrintMore

theorem w64 (n : Int) (h0 : -9223372036854775808 ≤ n) (h1 : n ≤ 9223372036854775807) : wrap64 n = n := by unfold wrap64; omega
theorem and1 (x : Int) (h0 : 0 ≤ x) (h1 : x < 256) : Go.bits .and .u8 x 1 = x % 2 := bits_mask .u8 8 (by decide) wraps_u8 1 (by decide) x h0 (by omega)

theorem bit_at (l : List Int) : ∀ p, p < 8 * l.length → (bitsOf l).getD p 0 = l.getD (p / 8) 0 / 2 ^ (7 - p % 8) % 2 := by
  induction l with
  | nil => intro p h; simp at h
  | cons x l ih =>
    intro p h
    rw [bitsOf_cons]
    match p, h with
    | 0, _ => simp [bits8]
    | 1, _ => simp [bits8]
    | 2, _ => simp [bits8]
    | 3, _ => simp [bits8]
    | 4, _ => simp [bits8]
    | 5, _ => simp [bits8]
    | 6, _ => simp [bits8]
    | 7, _ => simp [bits8]
    | q + 8, h =>
      have h1 : (q + 8) / 8 = q / 8 + 1 := by omega
      have h2 : (q + 8) % 8 = q % 8 := by omega
      rw [h1, h2, List.getD_cons_succ, ← ih q (by simp only [List.length_cons] at h; omega)]
      simp [bits8, List.getD_eq_getElem?_getD]

theorem rd_byte (l : List Int) (hb : Bytes l) (i : Int) : 0 ≤ rd l i ∧ rd l i ≤ 255 := by
  unfold rd
  by_cases h : i.toNat < l.length
  · rw [List.getD_eq_getElem?_getD, List.getElem?_eq_getElem h]
    exact hb _ (List.getElem_mem h)
  · rw [List.getD_eq_getElem?_getD, List.getElem?_eq_none (by omega)]
    simp

theorem w_in (l : List Int) (hl : l.length ≤ 1000000) (hb : Bytes l) (k : Nat) (x : ByteArray) (i n p : Int) (h0 : 0 ≤ p) (h1 : p < i + 5) (h2 : i ≤ 8 * l.length) (hn0 : 0 ≤ n) (hn1 : n < 1024) :
    coamingref04_Write.l1 (k + 1) l x i n p = coamingref04_Write.l1 k l x i (2 * n + (bitsOf l).getD p.toNat 0) (p + 1) := by
  have e1 : wrap64 (i + 5) = i + 5 := w64 _ (by omega) (by omega)
  have e2 : wrap64 (8 * (l.length : Int)) = 8 * l.length := w64 _ (by omega) (by omega)
  have e3 : wrap64 (p + 1) = p + 1 := w64 _ (by omega) (by omega)
  have e4 : wrap64 (2 * n) = 2 * n := w64 _ (by omega) (by omega)
  have e5 : wrap64 (2 * n + 1) = 2 * n + 1 := w64 _ (by omega) (by omega)
  rw [coamingref04_Write.l1, e1, e2, e3, e4, e5, if_pos h1]
  by_cases hp : p < 8 * (l.length : Int)
  · have f1 : wrap64 (Int.tdiv p 8) = p / 8 := by rw [Int.tdiv_eq_ediv_of_nonneg h0]; exact w64 _ (by omega) (by omega)
    have f2 : IntKind.u64.wrap (wrap64 (7 - Int.tmod p 8)) = 7 - p % 8 := by rw [Int.tmod_eq_emod_of_nonneg h0, w64 _ (by omega) (by omega)]; exact Bt.wraps_u64 _ (by omega) (by omega)
    rw [if_pos hp, f1, f2, if_pos (by omega), if_pos (by omega), if_pos (by omega)]
    have f3 : shr .u8 (rd l (p / 8)) (7 - p % 8) = rd l (p / 8) / 2 ^ (7 - p.toNat % 8) := by
      unfold shr
      have : (7 - p % 8).toNat = 7 - p.toNat % 8 := by omega
      rw [this, Nat.min_eq_left (by show 7 - p.toNat % 8 ≤ 8; omega)]
    have f4 : rd l (p / 8) = l.getD (p.toNat / 8) 0 := by unfold rd; rw [show (p / 8).toNat = p.toNat / 8 by omega]
    have hby := rd_byte l hb (p / 8)
    have g0 : 0 ≤ rd l (p / 8) / 2 ^ (7 - p.toNat % 8) := Int.ediv_nonneg hby.1 (Int.le_of_lt (Int.pow_pos (by decide)))
    have g1 : rd l (p / 8) / 2 ^ (7 - p.toNat % 8) ≤ rd l (p / 8) := Int.ediv_le_self _ hby.1
    rw [f3, and1 _ g0 (by omega)]
    have f5 := bit_at l p.toNat (by omega)
    rw [← f4] at f5
    rw [f5]
    generalize rd l (p / 8) / 2 ^ (7 - p.toNat % 8) % 2 = b at *
    have hb2 : b = 0 ∨ b = 1 := by
      have := BitsOf l
      rw [List.getD_eq_getElem?_getD, List.getElem?_eq_getElem (by rw [bitsOf_length]; omega)] at f5
      have h9 : 0 ≤ b ∧ b ≤ 1 := by rw [← f5]; exact this _ (List.getElem_mem _)
      omega
    rcases hb2 with rfl | rfl
    · rw [if_neg (by decide), Int.add_zero]
    · rw [if_pos rfl]
  · rw [if_neg hp]
    have : (bitsOf l).getD p.toNat 0 = 0 := by
      rw [List.getD_eq_getElem?_getD, List.getElem?_eq_none (by rw [bitsOf_length]; omega)]; rfl
    rw [this, Int.add_zero]

theorem sgs_extract (n : Int) (h0 : 0 ≤ n) (h1 : n < 32) : (ByteArray.mk #[97, 98, 99, 100, 101, 102, 103, 104, 105, 106, 107, 108, 109, 110, 111, 112, 113, 114, 115, 116, 117, 118, 119, 120, 121, 122, 50, 51, 52, 53, 54, 55]).extract n.toNat (n + 1).toNat = ⟨#[sg n]⟩ := by
  have h : ∀ i : Fin 32, ((ByteArray.mk #[97, 98, 99, 100, 101, 102, 103, 104, 105, 106, 107, 108, 109, 110, 111, 112, 113, 114, 115, 116, 117, 118, 119, 120, 121, 122, 50, 51, 52, 53, 54, 55]).extract i.val (i.val + 1)).data = #[sg (i.val : Int)] := by decide
  have h2 := h ⟨n.toNat, by omega⟩
  have e1 : (n + 1).toNat = n.toNat + 1 := by omega
  rw [e1]
  apply ByteArray.ext
  rw [h2]
  simp only [Int.toNat_of_nonneg h0]

theorem getD01 {l : List Int} (h : Bits l) (i : Nat) : 0 ≤ l.getD i 0 ∧ l.getD i 0 ≤ 1 := by
  rw [List.getD_eq_getElem?_getD]
  cases e : l[i]? with
  | none => simp
  | some b => exact h b (List.mem_of_getElem? e)

theorem w_five (l : List Int) (hl : l.length ≤ 1000000) (hb : Bytes l) (k : Nat) (x : ByteArray) (i : Int) (h0 : 0 ≤ i) (h2 : i < 8 * l.length) (hx : x.size ≤ 100000000) :
    coamingref04_Write.l0 (k + 7) l x i = coamingref04_Write.l0 k l (x ++ ⟨#[sg (16 * (bitsOf l).getD i.toNat 0 + 8 * (bitsOf l).getD (i + 1).toNat 0 + 4 * (bitsOf l).getD (i + 1 + 1).toNat 0 + 2 * (bitsOf l).getD (i + 1 + 1 + 1).toNat 0 + (bitsOf l).getD (i + 1 + 1 + 1 + 1).toNat 0)]⟩) (i + 5) := by
  have hB := BitsOf l
  have b0 := getD01 hB i.toNat
  have b1 := getD01 hB (i + 1).toNat
  have b2 := getD01 hB (i + 1 + 1).toNat
  have b3 := getD01 hB (i + 1 + 1 + 1).toNat
  have b4 := getD01 hB (i + 1 + 1 + 1 + 1).toNat
  rw [coamingref04_Write.l0, w64 (8 * (l.length : Int)) (by omega) (by omega), if_pos h2]
  rw [w_in l hl hb _ x i 0 i h0 (by omega) (by omega) (by omega) (by omega)]
  rw [w_in l hl hb _ x i _ (i + 1) (by omega) (by omega) (by omega) (by omega) (by omega)]
  rw [w_in l hl hb _ x i _ (i + 1 + 1) (by omega) (by omega) (by omega) (by omega) (by omega)]
  rw [w_in l hl hb _ x i _ (i + 1 + 1 + 1) (by omega) (by omega) (by omega) (by omega) (by omega)]
  rw [w_in l hl hb _ x i _ (i + 1 + 1 + 1 + 1) (by omega) (by omega) (by omega) (by omega) (by omega)]
  generalize (bitsOf l).getD i.toNat 0 = a0 at *
  generalize (bitsOf l).getD (i + 1).toNat 0 = a1 at *
  generalize (bitsOf l).getD (i + 1 + 1).toNat 0 = a2 at *
  generalize (bitsOf l).getD (i + 1 + 1 + 1).toNat 0 = a3 at *
  generalize (bitsOf l).getD (i + 1 + 1 + 1 + 1).toNat 0 = a4 at *
  rw [show 2 * (2 * (2 * (2 * (2 * 0 + a0) + a1) + a2) + a3) + a4 = 16 * a0 + 8 * a1 + 4 * a2 + 2 * a3 + a4 by omega]
  have g0 : 0 ≤ 16 * a0 + 8 * a1 + 4 * a2 + 2 * a3 + a4 := by omega
  have g1 : 16 * a0 + 8 * a1 + 4 * a2 + 2 * a3 + a4 < 32 := by omega
  generalize 16 * a0 + 8 * a1 + 4 * a2 + 2 * a3 + a4 = n at *
  rw [coamingref04_Write.l1, w64 (i + 5) (by omega) (by omega), if_neg (by omega), w64 (n + 1) (by omega) (by omega), if_pos g0, if_pos (by omega), if_pos (by omega), sgs_extract n g0 g1]
  rw [if_pos (by show x.size + 1 ≤ _; omega)]

theorem ba_append (x : ByteArray) (a : UInt8) (l : List UInt8) : (x ++ ⟨#[a]⟩) ++ (⟨l.toArray⟩ : ByteArray) = x ++ ⟨(a :: l).toArray⟩ := by
  apply ByteArray.ext
  simp [ByteArray.data_append]

theorem w_all (l : List Int) (hl : l.length ≤ 1000000) (hb : Bytes l) (d : Nat) : ∀ (k : Nat) (x : ByteArray) (i : Nat), 8 * l.length ≤ i + d → 7 * d < k → x.size + d ≤ 100000000 →
    coamingref04_Write.l0 k l x i = some (x ++ ⟨(enc ((bitsOf l).drop i)).toArray⟩) := by
  induction d with
  | zero =>
    intro k x i h hk hx
    obtain ⟨k, rfl⟩ : ∃ m, k = m + 1 := ⟨k - 1, by omega⟩
    rw [coamingref04_Write.l0, w64 (8 * (l.length : Int)) (by omega) (by omega), if_neg (by omega), List.drop_of_length_le (by rw [bitsOf_length]; omega)]
    congr 1
    apply ByteArray.ext
    simp [enc, ByteArray.data_append]
  | succ d ih =>
    intro k x i h hk hx
    by_cases hi : i < 8 * l.length
    · obtain ⟨k, rfl⟩ : ∃ m, k = m + 7 := ⟨k - 7, by omega⟩
      rw [w_five l hl hb k x i (by omega) (by omega) (by omega)]
      have e5 : ((i : Int) + 5) = ((i + 5 : Nat) : Int) := by omega
      rw [e5, ih k _ (i + 5) (by omega) (by omega) (by rw [ByteArray.size_append]; show x.size + 1 + d ≤ _; omega)]
      rw [enc_step ((bitsOf l).drop i) (by intro e; have := congrArg List.length e; rw [List.length_drop, bitsOf_length] at this; simp at this; omega)]
      rw [ba_append]
      congr 3
      simp only [List.getD_eq_getElem?_getD, List.getElem?_drop, List.drop_drop]
      rfl
    · obtain ⟨k, rfl⟩ : ∃ m, k = m + 1 := ⟨k - 1, by omega⟩
      rw [coamingref04_Write.l0, w64 (8 * (l.length : Int)) (by omega) (by omega), if_neg (by omega), List.drop_of_length_le (by rw [bitsOf_length]; omega)]
      congr 1
      apply ByteArray.ext
      simp [enc, ByteArray.data_append]

theorem refWrite_is (l : List Int) (hl : l.length ≤ 1000000) (hb : Bytes l) (k : Nat) (hk : 56 * l.length < k) : coamingref04_Write.f k l = some ⟨(enc (bitsOf l)).toArray⟩ := by
  unfold coamingref04_Write.f
  have h := w_all l hl hb (8 * l.length) k ⟨#[]⟩ 0 (by omega) (by omega) (by show 0 + 8 * l.length ≤ _; omega)
  rw [show ((0 : Nat) : Int) = 0 from rfl] at h
  rw [h]
  congr 1

/-! ### reading -/
def bs (s : ByteArray) : List Int := s.data.toList.map fun c => (c.toNat : Int)
theorem bs_length (s : ByteArray) : (bs s).length = s.size := by simp [bs]
theorem bs_drop (s : ByteArray) (i : Nat) (h : i < s.size) : (bs s).drop i = bt s i :: (bs s).drop (i + 1) := by
  rw [List.drop_eq_getElem_cons (by rw [bs_length]; exact h)]
  congr 1
  simp [bs, bt, h]
  rfl
theorem number_is (k : Nat) (c : Int) (h0 : 0 ≤ c) (h1 : c ≤ 255) (hk : 0 < k) : spell_number.f k c = some (match dg c with | some d => (d, true) | none => (0, false)) := by
  obtain ⟨k, rfl⟩ : ∃ m, k = m + 1 := ⟨k - 1, by omega⟩
  have h : ∀ c : Fin 256, spell_number.f 1 (c.val : Int) = some (match dg (c.val : Int) with | some d => (d, true) | none => (0, false)) := by decide +kernel
  have h2 := h ⟨c.toNat, by omega⟩
  simp only [Int.toNat_of_nonneg h0] at h2
  unfold spell_number.f at h2 ⊢
  simp only [spell_number.j0] at h2 ⊢
  exact h2
theorem sign_is (k : Nat) (c : Int) (h0 : 0 ≤ c) (h1 : c ≤ 255) (hk : 40 ≤ k) : coamingref04_sign.f k c = some ((dg c).getD (-1)) := by
  have h : ∀ c : Fin 256, coamingref04_sign.f 40 (c.val : Int) = some ((dg (c.val : Int)).getD (-1)) := by decide +kernel
  have h2 := h ⟨c.toNat, by omega⟩
  simp only [Int.toNat_of_nonneg h0] at h2
  have mono : ∀ d, coamingref04_sign.f (40 + d) c = some ((dg c).getD (-1)) := by
    intro d
    induction d with
    | zero => exact h2
    | succ d ih => exact coamingref04_sign.mono c (40 + d) _ ih
  have := mono (k - 40)
  rwa [show 40 + (k - 40) = k by omega] at this

theorem number_some (k : Nat) (c v : Int) (h0 : 0 ≤ c) (h1 : c ≤ 255) (hk : 0 < k) (h : dg c = some v) : spell_number.f k c = some (v, true) := by rw [number_is k c h0 h1 hk, h]
theorem number_none (k : Nat) (c : Int) (h0 : 0 ≤ c) (h1 : c ≤ 255) (hk : 0 < k) (h : dg c = none) : spell_number.f k c = some (0, false) := by rw [number_is k c h0 h1 hk, h]
theorem sign_some (k : Nat) (c v : Int) (h0 : 0 ≤ c) (h1 : c ≤ 255) (hk : 40 ≤ k) (h : dg c = some v) : coamingref04_sign.f k c = some v := by rw [sign_is k c h0 h1 hk, h]; rfl
theorem sign_none (k : Nat) (c : Int) (h0 : 0 ≤ c) (h1 : c ≤ 255) (hk : 40 ≤ k) (h : dg c = none) : coamingref04_sign.f k c = some (-1) := by rw [sign_is k c h0 h1 hk, h]; rfl
/-- what a fold of signs comes to, one by one -/
theorem fold_none {α : Type} {c : Int} {cs : List Int} {z : α} {f : List Int → α} (h : dg c = none) : (digits (c :: cs)).elim z f = z := by rw [digits, h]; rfl
theorem fold_some {α : Type} {c v : Int} {cs : List Int} {z : α} {f : List Int → α} (h : dg c = some v) : (digits (c :: cs)).elim z f = (digits cs).elim z (fun ds => f (v :: ds)) := by
  rw [digits, h]
  cases digits cs <;> rfl

end Go.Proofs.Ytojecbigcamedaa.Sp
