/- spell.Read is the plain one. -/
import Derived.Test.YtojecbigcamedaaSpellFns
set_option linter.unusedVariables false
set_option linter.unusedSimpArgs false
namespace Go.Proofs.Ytojecbigcamedaa.Sp
open Go.RowKit Go.Proofs.Ytojecbigcamedaa.PBase Go.Proofs.YtojecbigcamedaaW.PrintWords Go.Proofs.YtojecbigcamedaaW.PrintLast Go.Proofs.YtojecbigcamedaaW.PrintMore

theorem val_foldl (B : List Int) : ∀ a : Int, B.foldl (fun h b => 2 * h + b) a = a * 2 ^ B.length + val B := by
  induction B with
  | nil => intro a; simp [val]
  | cons b B ih =>
    intro a
    have h1 := ih (2 * a + b)
    have h2 := ih (2 * 0 + b)
    simp only [List.foldl_cons, val, List.length_cons] at *
    rw [h1, h2, Int.pow_succ, show (2 : Int) * 0 + b = b by omega, Int.add_mul]
    rw [show a * (2 ^ B.length * 2) = 2 * a * 2 ^ B.length by rw [Int.mul_comm (2 ^ B.length) 2, ← Int.mul_assoc, Int.mul_comm a 2]]
    omega
theorem val_append (A B : List Int) : val (A ++ B) = val A * 2 ^ B.length + val B := by
  show (A ++ B).foldl _ 0 = _
  rw [List.foldl_append]
  exact val_foldl B _
theorem val_range (B : List Int) (h : Bits B) : 0 ≤ val B ∧ val B < 2 ^ B.length := by
  induction B with
  | nil => simp [val]
  | cons b B ih =>
    have hb := h.head
    have := ih h.tail
    have e : val (b :: B) = b * 2 ^ B.length + val B := by rw [← val_foldl B b]; simp [val]
    rw [e, List.length_cons, Int.pow_succ]
    have hp : (0 : Int) < 2 ^ B.length := Int.pow_pos (by decide)
    rcases (by omega : b = 0 ∨ b = 1) with rfl | rfl <;> omega
theorem val_bits5 (d : Int) (h0 : 0 ≤ d) (h1 : d < 32) : val (bits5 d) = d := by simp only [val, bits5, List.foldl]; omega
theorem val_five (R : List Int) (d : Int) (h0 : 0 ≤ d) (h1 : d < 32) : val (R ++ bits5 d) = val R * 32 + d := by
  rw [val_append, val_bits5 d h0 h1]
  rfl
/-- eight bits go, the others stay -/
theorem val_split (L : List Int) (h : Bits L) (n : Nat) (hn : L.length = 8 + n) : val L / 2 ^ n = val (L.take 8) ∧ val L % 2 ^ n = val (L.drop 8) := by
  have e := val_append (L.take 8) (L.drop 8)
  rw [List.take_append_drop, List.length_drop, show L.length - 8 = n by omega] at e
  have hb : Bits (L.take 8 ++ L.drop 8) := by rw [List.take_append_drop]; exact h
  have hr := val_range _ hb.right
  rw [List.length_drop, show L.length - 8 = n by omega] at hr
  have hp : (0 : Int) < 2 ^ n := Int.pow_pos (by decide)
  rw [e]
  constructor
  · rw [Int.add_comm, Int.add_mul_ediv_right _ _ (by omega), Int.ediv_eq_zero_of_lt hr.1 hr.2]
    omega
  · rw [Int.add_comm, Int.add_mul_emod_self_right, Int.emod_eq_of_lt hr.1 hr.2]
theorem pow7 : ∀ m, m < 8 → (2 : Int) ^ m ≤ 128 := by decide
theorem pow12 : ∀ m, m < 13 → (2 : Int) ^ m ≤ 4096 := by decide
theorem pow_le7 (R : List Int) (h : Bits R) (hl : R.length < 8) : 0 ≤ val R ∧ val R < 128 := by
  have := val_range R h
  have h2 := pow7 R.length hl
  omega
theorem pow_le12 (L : List Int) (h : Bits L) (hl : L.length ≤ 12) : 0 ≤ val L ∧ val L < 4096 := by
  have := val_range L h
  have h2 := pow12 L.length (by omega)
  omega
theorem five_length (R : List Int) (v : Int) : (R ++ bits5 v).length = R.length + 5 := by simp [bits5]
theorem rd_or (R : List Int) (v : Int) (hR : Bits R) (hl : R.length < 8) (h0 : 0 ≤ v) (h1 : v < 32) : Go.bits .or .u64 (IntKind.u64.wrap (val R * 32)) v = val (R ++ bits5 v) := by
  have hr := pow_le7 R hR hl
  rw [Bt.wraps_u64 _ (by omega) (by omega), Bt.or_u64 5 _ _ (by omega) (by omega) (by omega) h0 (by omega) (by omega), val_five R v h0 h1]
theorem rd_shr (k : IntKind) (hk : k.bits = 64) (L : List Int) (h : Bits L) (h8 : 8 ≤ L.length) (hl : L.length ≤ 12) : shr k (val L) ((L.drop 8).length : Nat) % 256 = val (L.take 8) := by
  have hn : (L.drop 8).length ≤ 4 := by rw [List.length_drop]; omega
  have hs := (val_split L h (L.drop 8).length (by rw [List.length_drop]; omega)).1
  have hb' : Bits (L.take 8 ++ L.drop 8) := by rw [List.take_append_drop]; exact h
  have hv := val8_of _ hb'.left (by rw [List.length_take]; omega)
  unfold shr
  rw [Int.toNat_natCast, Nat.min_eq_left (by omega), hs]
  omega
theorem rd_mask (L : List Int) (h : Bits L) (h8 : 8 ≤ L.length) (hl : L.length ≤ 12) : Go.bits .and .u64 (val L) (IntKind.u64.wrap (shl .u64 1 ((L.drop 8).length : Nat) - 1)) = val (L.drop 8) := by
  have hn : (L.drop 8).length ≤ 4 := by rw [List.length_drop]; omega
  have hs := (val_split L h (L.drop 8).length (by rw [List.length_drop]; omega)).2
  have hL := pow_le12 L h hl
  have e8 : shl .u64 1 ((L.drop 8).length : Nat) = IntKind.u64.wrap (2 ^ ((L.drop 8).length : Int).toNat) := by
    unfold shl
    rw [Int.toNat_natCast, Nat.min_eq_left (by show _ ≤ 64; omega), Int.one_mul]
  rw [e8, Bt.mask_low _ _ hL.1 (by omega) (by omega) (by omega), Int.toNat_natCast, hs]
theorem rd_one (n : Nat) (hn : n ≤ 4) : shl .i64 1 (n : Int) = 2 ^ n := by
  have h : ∀ n, n < 5 → shl .i64 1 ((n : Nat) : Int) = 2 ^ n := by decide
  exact h n (by omega)
theorem rd_tmod (L : List Int) (h : Bits L) (h8 : 8 ≤ L.length) (hl : L.length ≤ 12) : Int.tmod (val L) (shl .i64 1 ((L.drop 8).length : Nat)) = val (L.drop 8) := by
  have hn : (L.drop 8).length ≤ 4 := by rw [List.length_drop]; omega
  have hL := pow_le12 L h hl
  rw [rd_one _ hn, Int.tmod_eq_emod_of_nonneg hL.1]
  exact (val_split L h (L.drop 8).length (by rw [List.length_drop]; omega)).2
theorem drop8_length (L : List Int) (h8 : 8 ≤ L.length) (hl : L.length ≤ 12) : wrap64 ((L.length : Nat) - 8 : Int) = ((L.drop 8).length : Nat) := by
  rw [w64 _ (by omega) (by omega), List.length_drop]; omega

def finR (p : List Int × List Int) : List Int × Int := if 5 ≤ p.2.length then ([], 40) else if val p.2 = 0 then (p.1, 0) else ([], 40)
theorem read_end (s : ByteArray) (k : Nat) (o R : List Int) (i : Nat) (hi : ¬ i < s.size) : spell_Read.l0 (k + 1) s o (val R) R.length s.size i = some ((digits ((bs s).drop i)).elim ([], 40) fun ds => finR (take8 ds o R)) := by
  rw [spell_Read.l0, if_neg (by omega), List.drop_of_length_le (by rw [bs_length]; omega)]
  show _ = some (finR (o, R))
  unfold finR
  by_cases h5 : 5 ≤ R.length
  · rw [if_pos (by omega), if_pos (show 5 ≤ (o, R).2.length from h5)]
  · rw [if_neg (by omega), if_neg (show ¬ 5 ≤ (o, R).2.length from h5)]
    by_cases hv : val R = 0
    · rw [if_pos hv, if_pos (show val (o, R).2 = 0 from hv)]
    · rw [if_neg hv, if_neg (show ¬ val (o, R).2 = 0 from hv)]
set_option maxHeartbeats 1000000 in
theorem read_all (s : ByteArray) (hs : s.size ≤ 1000000) (d : Nat) : ∀ (k : Nat) (o R : List Int) (i : Nat), s.size ≤ i + d → d + 1 < k → Bits R → R.length < 8 → o.length + d ≤ 10000000 →
    spell_Read.l0 k s o (val R) R.length s.size i = some ((digits ((bs s).drop i)).elim ([], 40) fun ds => finR (take8 ds o R)) := by
  induction d with
  | zero =>
    intro k o R i h hk hR hl ho
    obtain ⟨k, rfl⟩ : ∃ m, k = m + 1 := ⟨k - 1, by omega⟩
    exact read_end s k o R i (by omega)
  | succ d ih =>
    intro k o R i h hk hR hl ho
    obtain ⟨k, rfl⟩ : ∃ m, k = m + 1 := ⟨k - 1, by omega⟩
    by_cases hi : i < s.size
    · rw [spell_Read.l0, if_pos (by omega), if_pos (by omega), if_pos (by omega)]
      have hb := bt_range s i
      rw [bs_drop s i hi]
      cases hd : dg (bt s i) with
      | none => rw [number_none k _ hb.1 hb.2 (by omega) hd, Option.bind_some, if_neg (by decide), fold_none hd]
      | some v =>
        have hv := dg_range hd
        have e3 : wrap64 ((R.length : Int) + 5) = ((R ++ bits5 v).length : Nat) := by rw [w64 _ (by omega) (by omega), five_length]; omega
        have e4 : wrap64 ((i : Int) + 1) = ((i + 1 : Nat) : Int) := by rw [w64 _ (by omega) (by omega)]; omega
        have hL : Bits (R ++ bits5 v) := hR.append (Bits5 v)
        have hLl := five_length R v
        rw [number_some k _ v hb.1 hb.2 (by omega) hd, Option.bind_some, if_pos rfl, fold_some hd]
        rw [rd_or R v hR hl hv.1 hv.2, e3, e4]
        clear e3 e4
        by_cases h8 : 8 ≤ R.length + 5
        · have hb' : Bits ((R ++ bits5 v).take 8 ++ (R ++ bits5 v).drop 8) := by rw [List.take_append_drop]; exact hL
          have f1 := drop8_length (R ++ bits5 v) (by omega) (by omega)
          have f2 := rd_shr .u64 rfl (R ++ bits5 v) hL (by omega) (by omega)
          have f3 := rd_mask (R ++ bits5 v) hL (by omega) (by omega)
          have c1 : ((R ++ bits5 v).length : Int) ≥ 8 := by omega
          have c2 : (0 : Int) ≤ (((R ++ bits5 v).drop 8).length : Nat) := by omega
          have c3 : o.length < 140737488355328 := by omega
          rw [if_pos c1]
          rw [f1]
          rw [if_pos c2]
          rw [if_pos c3]
          rw [f2]
          rw [f3]
          clear f1 f2 f3 c3
          rw [ih k _ _ (i + 1) (by omega) (by omega) hb'.right (by rw [List.length_drop]; omega) (by rw [List.length_append, List.length_singleton]; omega)]
          have e9 : ∀ ds, take8 (v :: ds) o R = take8 ds (o ++ [val ((R ++ bits5 v).take 8)]) ((R ++ bits5 v).drop 8) := fun ds => by rw [take8, if_pos h8]
          simp only [e9]
        · rw [if_neg (by omega)]
          rw [ih k _ _ (i + 1) (by omega) (by omega) hL (by omega) (by omega)]
          have e9 : ∀ ds, take8 (v :: ds) o R = take8 ds o (R ++ bits5 v) := fun ds => by rw [take8, if_neg h8]
          simp only [e9]
    · exact read_end s k o R i hi

theorem read_is (s : ByteArray) (hs : s.size ≤ 1000000) (k : Nat) (hk : s.size + 1 < k) : spell_Read.f k s = some (readOf (bs s)) := by
  unfold spell_Read.f
  have h := read_all s hs s.size k [] [] 0 (by omega) hk (by intro b h; simp at h) (by simp) (by simp; omega)
  rw [show spell_Read.l0 k s [] 0 0 s.size 0 = spell_Read.l0 k s [] (val []) (([] : List Int).length : Nat) s.size ((0 : Nat) : Int) from rfl, h]
  unfold readOf finR
  rw [List.drop_zero]
  cases digits (bs s) <;> rfl


end Go.Proofs.Ytojecbigcamedaa.Sp
