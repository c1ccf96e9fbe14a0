/- What the law's proof stands on, part 4: PassP, MacD, MacO, MacR, PassI, Clone, Clone32, PassN, PassO, PassQ, MacS, PassC, PassK, PassRow, PassL1 (laid together by wip/pack.py). -/
import Derived.Test.YtabdnlecpndfjaaDoorProg
import Derived.Test.YtabdnlecpndfjaaDoorRows
import Derived.Test.YtabdnlecpndfjaaDoorCards
import Derived.Test.YtabdnlecpndfjaaDoorTie
import Derived.Test.YtabdnlecpndfjaaDoorXPassLooksP3
import Derived.WalkSpells
import Derived.ProofKit
import Derived.LaidMore
import Derived.OpenShut
import Derived.Stop.Joined
import Derived.SevenTiedAt
import Derived.SizedLaws
set_option linter.unusedVariables false
set_option linter.unusedSimpArgs false
namespace Go.Proofs.YtabdnlecpndfjaaDoor.Ps
open Go.RowKit Go.Proofs.YtabdnlecpndfjaaDoor.PBase Go.Proofs.YtabdnlecpndfjaaDoorW.PrintWords Go.Proofs.YtabdnlecpndfjaaDoorW.PrintLast Go.Proofs.YtabdnlecpndfjaaDoorW.PrintMore
theorem pow8 : ∀ n : Nat, n < 8 → (2 : Int) ^ (8 * n) = 256 ^ n := by decide
theorem shr8 (x : Int) (n : Nat) (hn : n < 8) : shr .u64 x ((8 * n : Nat) : Int) % 256 = x / 256 ^ n % 256 := by
  unfold shr
  rw [Int.toNat_natCast, Nat.min_eq_left (by show 8 * n ≤ 64; omega), pow8 n hn]
theorem big_l (x : Int) : ∀ (n k : Nat) (out : List Int), n ≤ 8 → n < k → out.length + n ≤ 1000 → pass_big.l0 k out x ((n : Int) - 1) = some (out ++ be n x)
  | 0, k, out, _, hk, _ => by
    obtain ⟨k, rfl⟩ : ∃ m, k = m + 1 := ⟨k - 1, by omega⟩
    rw [pass_big.l0, if_neg (by omega), be, List.append_nil]
  | n + 1, k, out, hn, hk, ho => by
    obtain ⟨k, rfl⟩ : ∃ m, k = m + 1 := ⟨k - 1, by omega⟩
    have e0 : ((n + 1 : Nat) : Int) - 1 = (n : Int) := by omega
    have e1 : wrap64 (8 * (n : Int)) = ((8 * n : Nat) : Int) := by unfold wrap64; omega
    have e2 : wrap64 ((n : Int) - 1) = (n : Int) - 1 := by unfold wrap64; omega
    rw [pass_big.l0, e0, e1, e2]
    clear e0 e1 e2
    rw [if_pos (by omega), if_pos (by omega), if_pos (by omega), shr8 x n (by omega), big_l x n k _ (by omega) (by omega) (by rw [List.length_append, List.length_singleton]; omega), be, List.append_assoc, List.singleton_append]
theorem big_is (k : Nat) (hk : 9 < k) (out : List Int) (x : Int) (n : Nat) (hn : n ≤ 8) (ho : out.length ≤ 990) : pass_big.f k out x (n : Int) = some (out ++ be n x) := by
  have e : wrap64 ((n : Int) - 1) = (n : Int) - 1 := by unfold wrap64; omega
  unfold pass_big.f
  rw [e]
  exact big_l x n k out hn (by omega) (by omega)
theorem body_is (k : Nat) (hk : 9 < k) (t : Tk) (h : TkWf t) : pass_body.f k t.1 t.2.1 t.2.2.1 t.2.2.2 = some (body t) := by
  obtain ⟨w1, w2, w3⟩ := h
  obtain ⟨a, b, c, d⟩ := t
  simp only at w1 w2 w3
  unfold pass_body.f
  rw [Bt.wraps_u64 a (by omega) (by omega), Bt.wraps_u64 b (by omega) (by omega)]
  have h1 := big_is k hk [1] a 4 (by decide) (by simp)
  have h2 := big_is k hk ([1] ++ be 4 a) b 4 (by decide) (by simp [be_len])
  have h3 := big_is k hk ([1] ++ be 4 a ++ be 4 b) d 8 (by decide) (by simp [be_len])
  rw [show (4 : Int) = ((4 : Nat) : Int) from rfl, show (8 : Int) = ((8 : Nat) : Int) from rfl, h1, Option.bind_some, h2, Option.bind_some, h3, Option.bind_some]
  have hl : ([1] ++ be 4 a ++ be 4 b ++ be 8 d).length < 140737488355328 := by simp [be_len]
  cases c
  · rw [if_neg (show ¬ false = true from Bool.false_ne_true), if_pos hl]
    simp [body, flag]
  · rw [if_pos rfl, if_pos hl]
    simp [body, flag]
theorem rd_drop (l : List Int) (i : Nat) (hi : i < l.length) : rd l (i : Int) = l[i] ∧ l.drop i = l[i] :: l.drop (i + 1) := by
  refine ⟨by simp [rd, List.getD_eq_getElem?_getD, List.getElem?_eq_getElem hi], List.drop_eq_getElem_cons hi⟩
theorem or_step (n x : Int) (h0 : 0 ≤ n) (h1 : n < 72057594037927936) (hx : 0 ≤ x ∧ x ≤ 255) : Go.bits .or .u64 (IntKind.u64.wrap (n * 256)) (IntKind.u64.wrap x) = n * 256 + x := by
  rw [Bt.wraps_u64 _ (by omega) (by omega), Bt.wraps_u64 x (by omega) (by omega), Bt.or_256 n x h0 h1 hx.1 hx.2]
theorem fr_le (a : Int) (ha : 0 ≤ a) (l : List Int) (h : Sh.Bytes l) (m : Nat) (hm : a < 256 ^ m) : 0 ≤ fr a l ∧ fr a l < 256 ^ (m + l.length) := by
  have hn := num_range l h
  rw [fr_is]
  have p := pow_pos l.length
  have q0 : 0 ≤ a * 256 ^ l.length := Int.mul_nonneg ha (by omega)
  have q1 : a * 256 ^ l.length ≤ (256 ^ m - 1) * 256 ^ l.length := Int.mul_le_mul_of_nonneg_right (by omega) (by omega)
  rw [Int.sub_mul, ← Int.pow_add, Int.one_mul] at q1
  change 0 ≤ _ + num l ∧ _ + num l < _
  omega
theorem pow_le7 (m : Nat) (h : m ≤ 7) : (256 : Int) ^ m ≤ 256 ^ 7 := pow_mono m 7 h
theorem number_l (l : List Int) (hb : Sh.Bytes l) (h8 : l.length ≤ 8) : ∀ (d i k : Nat), i + d = l.length → d < k → pass_number.l0 k (fr 0 (l.take i)) l (l.length : Int) i = some (num l)
  | 0, i, k, hi, hk => by
    obtain ⟨k, rfl⟩ : ∃ m, k = m + 1 := ⟨k - 1, by omega⟩
    rw [pass_number.l0, if_neg (by omega), List.take_of_length_le (by omega)]
    rfl
  | d + 1, i, k, hi, hk => by
    obtain ⟨k, rfl⟩ : ∃ m, k = m + 1 := ⟨k - 1, by omega⟩
    have hlt : i < l.length := by omega
    have e1 : wrap64 ((i : Int) + 1) = ((i + 1 : Nat) : Int) := by unfold wrap64; omega
    obtain ⟨hr, _⟩ := rd_drop l i hlt
    have hbt := hb _ (List.getElem_mem hlt)
    have hf := fr_le 0 (by omega) (l.take i) (fun x hx => hb x (List.mem_of_mem_take hx)) 0 (by simp)
    have hp : (256 : Int) ^ (0 + (l.take i).length) ≤ 256 ^ 7 := pow_le7 _ (by rw [List.length_take]; omega)
    have hp7 : (256 : Int) ^ 7 = 72057594037927936 := by decide
    rw [pass_number.l0, e1, hr, or_step _ _ hf.1 (by omega) hbt]
    clear e1
    rw [if_pos (by omega), if_pos (by omega), if_pos (by omega)]
    have e2 : fr 0 (l.take i) * 256 + l[i] = fr 0 (l.take (i + 1)) := by
      rw [List.take_succ_eq_append_getElem hlt, fr_append]
      rfl
    rw [e2]
    exact number_l l hb h8 d (i + 1) k (by omega) (by omega)
theorem number_is (l : List Int) (hb : Sh.Bytes l) (h8 : l.length ≤ 8) (k : Nat) (hk : 9 < k) : pass_number.f k l = some (num l) := number_l l hb h8 l.length 0 k (by omega) (by omega)
theorem rnumber_l (l : List Int) (hb : Sh.Bytes l) (h8 : l.length ≤ 8) : ∀ (d i k : Nat), i + d = l.length → d < k → coamingref05_number.l0 k l (fr 0 (l.take i)) i = some (num l)
  | 0, i, k, hi, hk => by
    obtain ⟨k, rfl⟩ : ∃ m, k = m + 1 := ⟨k - 1, by omega⟩
    rw [coamingref05_number.l0, if_neg (by omega), List.take_of_length_le (by omega)]
    rfl
  | d + 1, i, k, hi, hk => by
    obtain ⟨k, rfl⟩ : ∃ m, k = m + 1 := ⟨k - 1, by omega⟩
    have hlt : i < l.length := by omega
    have e1 : wrap64 ((i : Int) + 1) = ((i + 1 : Nat) : Int) := by unfold wrap64; omega
    obtain ⟨hr, _⟩ := rd_drop l i hlt
    have hbt := hb _ (List.getElem_mem hlt)
    have hf := fr_le 0 (by omega) (l.take i) (fun x hx => hb x (List.mem_of_mem_take hx)) 0 (by simp)
    have hp : (256 : Int) ^ (0 + (l.take i).length) ≤ 256 ^ 7 := pow_le7 _ (by rw [List.length_take]; omega)
    have hp7 : (256 : Int) ^ 7 = 72057594037927936 := by decide
    rw [coamingref05_number.l0, e1, hr, or_step _ _ hf.1 (by omega) hbt]
    clear e1
    rw [if_pos (by omega), if_pos (by omega)]
    have e2 : fr 0 (l.take i) * 256 + l[i] = fr 0 (l.take (i + 1)) := by
      rw [List.take_succ_eq_append_getElem hlt, fr_append]
      rfl
    rw [e2]
    exact rnumber_l l hb h8 d (i + 1) k (by omega) (by omega)
theorem rnumber_is (l : List Int) (hb : Sh.Bytes l) (h8 : l.length ≤ 8) (k : Nat) (hk : 9 < k) : coamingref05_number.f k l = some (num l) := rnumber_l l hb h8 l.length 0 k (by omega) (by omega)
theorem part (l : List Int) (i n : Nat) : (l.take (i + n)).drop i = (l.drop i).take n := by rw [List.drop_take]; congr 1; omega
theorem part_bytes (l : List Int) (hb : Sh.Bytes l) (i n : Nat) : Sh.Bytes ((l.drop i).take n) := fun x hx => hb x (List.mem_of_mem_drop (List.mem_of_mem_take hx))
theorem part_len (l : List Int) (i n : Nat) : ((l.drop i).take n).length ≤ n := by rw [List.length_take]; omega
theorem rd_nat (l : List Int) (i : Nat) : rd l (i : Int) = l.getD i 0 := by simp [rd, List.getD_eq_getElem?_getD]
theorem token_is (b : List Int) (hb : Sh.Bytes b) (hl : 18 ≤ b.length) (k : Nat) (hk : 9 < k) : pass_token.f k b = some (tok b) := by
  have h1 := number_is _ (part_bytes b hb 1 4) (by have := part_len b 1 4; omega) k hk
  have h2 := number_is _ (part_bytes b hb 5 4) (by have := part_len b 5 4; omega) k hk
  have h3 := number_is _ (part_bytes b hb 9 8) (by have := part_len b 9 8; omega) k hk
  obtain ⟨⟨a0, a1⟩, ⟨b0, b1⟩, _⟩ := tok_wf b hb
  simp only [tok] at a0 a1 b0 b1
  rw [← part] at h1 h2 h3
  unfold pass_token.f
  rw [if_pos (by omega), if_pos (by omega), h1, Option.bind_some, if_pos (by omega), if_pos (by omega), h2, Option.bind_some, if_pos (by omega), if_pos (by omega), h3, Option.bind_some, if_pos (by omega)]
  rw [part, part, part, show (17 : Int) = ((17 : Nat) : Int) from rfl, rd_nat, Int.emod_eq_of_lt a0 a1, Int.emod_eq_of_lt b0 b1]
  rfl
theorem got_bytes (s : ByteArray) : Sh.Bytes (got s) := by
  rcases Sp.readOf_code (Sp.bs s) with h | h
  · exact (Sp.readOf_ok s h).2.1
  · have : got s = [] := by
      unfold got
      unfold Sp.readOf at h ⊢
      cases hd : Sp.digits (Sp.bs s) with
      | none => rfl
      | some ds =>
        rw [hd] at h
        dsimp only at h ⊢
        split at h
        · rename_i c; rw [if_pos c]
        · rename_i c
          split at h
          · cases h
          · rename_i c2; rw [if_neg c, if_neg c2]
    rw [this]
    intro x hx; cases hx
theorem read_is (s : ByteArray) (hs : s.size ≤ 1000000) (k : Nat) (hk : s.size + 1 < k) : pass_read.f k s = some (got s, is s) := by
  unfold pass_read.f
  rw [Sp.read_is s hs k hk, Option.bind_some]
  unfold is form got
  generalize Sp.readOf (Sp.bs s) = p
  obtain ⟨b, e⟩ := p
  dsimp only
  by_cases h0 : e = 0
  · rw [if_pos h0]
    by_cases h1 : b.length = 50
    · rw [if_pos (by omega), if_pos (by omega), show rd b 0 = b.getD 0 0 from rd_nat b 0, show rd b 17 = b.getD 17 0 from rd_nat b 17]
      by_cases h2 : b.getD 0 0 = 1
      · rw [if_pos h2, if_pos (by omega)]
        simp only [h0, h1, h2, decide_true, Bool.true_and, true_and]
      · rw [if_neg h2]
        simp only [h2, false_and, and_false, decide_false, Bool.and_false]
    · rw [if_neg (by omega)]
      simp [h1]
  · rw [if_neg h0]
    simp [h0]
theorem look_is (s : ByteArray) (hs : s.size ≤ 1000000) (k : Nat) (hk : s.size + 10 < k) : pass_Look.f k s = some ((look s).1.1, (look s).1.2.1, (look s).1.2.2.1, (look s).1.2.2.2, (look s).2) := by
  unfold pass_Look.f look
  rw [read_is s hs k (by omega), Option.bind_some]
  dsimp only
  by_cases h : is s = true
  · obtain ⟨h1, h2, h3⟩ := got_of s h
    have hl : (got s).length = 50 := by
      unfold form at h1
      rw [decide_eq_true_eq] at h1
      exact h1.1
    rw [if_pos h, if_pos h, token_is _ h2 (by omega) k (by omega)]
    rfl
  · rw [if_neg h, if_neg h]
    rfl
theorem rlook_is (s : ByteArray) (hs : s.size ≤ 10000) (k : Nat) (hk : 700000 < k) : coamingref05_Look.f k s = some ((look s).1.1, (look s).1.2.1, (look s).1.2.2.1, (look s).1.2.2.2, (look s).2) := by
  have key : ∀ (b : List Int) (c : Bool), (c = false → form b = true ∧ Sh.Bytes b) → coamingref05_Look.j0 k b c = some (if c = true then (0, 0, false, 0, 50) else ((tok b).1, (tok b).2.1, (tok b).2.2.1, (tok b).2.2.2, 0)) := by
    intro b c hc
    obtain ⟨m, rfl⟩ : ∃ m, k = m + 1 := ⟨k - 1, by omega⟩
    rw [coamingref05_Look.j0]
    cases c
    · obtain ⟨h1, hb⟩ := hc rfl
      have hl : b.length = 50 := by
        unfold form at h1
        rw [decide_eq_true_eq] at h1
        exact h1.1
      have h1 := rnumber_is _ (part_bytes b hb 1 4) (by have := part_len b 1 4; omega) m (by omega)
      have h2 := rnumber_is _ (part_bytes b hb 5 4) (by have := part_len b 5 4; omega) m (by omega)
      have h3 := rnumber_is _ (part_bytes b hb 9 8) (by have := part_len b 9 8; omega) m (by omega)
      obtain ⟨⟨a0, a1⟩, ⟨b0, b1⟩, _⟩ := tok_wf b hb
      simp only [tok] at a0 a1 b0 b1
      rw [← part] at h1 h2 h3
      rw [if_neg (by decide), if_pos (by omega), if_pos (by omega), h1, Option.bind_some, if_pos (by omega), if_pos (by omega), h2, Option.bind_some, if_pos (by omega), if_pos (by omega), h3, Option.bind_some, if_pos (by omega)]
      rw [part, part, part, show (17 : Int) = ((17 : Nat) : Int) from rfl, rd_nat, Int.emod_eq_of_lt a0 a1, Int.emod_eq_of_lt b0 b1]
      rfl
    · rw [if_pos rfl, if_pos rfl]
  have hgb := got_bytes s
  unfold coamingref05_Look.f look
  rw [Sp.refRead_is s hs k hk, Option.bind_some]
  unfold is
  unfold got at hgb ⊢
  unfold form at key ⊢
  generalize Sp.readOf (Sp.bs s) = p at hgb ⊢
  obtain ⟨b, e⟩ := p
  dsimp only at hgb ⊢
  by_cases h0 : e = 0
  · rw [if_pos h0]
    by_cases h1 : b.length = 50
    · rw [if_pos (by omega), if_pos (by omega), show rd b 0 = b.getD 0 0 from rd_nat b 0, show rd b 17 = b.getD 17 0 from rd_nat b 17]
      by_cases h2 : b.getD 0 0 = 1
      · rw [if_pos h2, if_pos (by omega), key b _ (by
          intro h
          rw [decide_eq_false_iff_not] at h
          exact ⟨by rw [decide_eq_true_eq]; exact ⟨h1, h2, by omega⟩, hgb⟩)]
        by_cases h3 : b.getD 17 0 ≤ 1
        · rw [if_neg (by rw [decide_eq_true_eq]; omega), if_pos (by simp only [Bool.and_eq_true, decide_eq_true_eq]; exact ⟨h0, h1, h2, h3⟩)]
        · rw [if_pos (by rw [decide_eq_true_eq]; omega), if_neg (by simp only [Bool.and_eq_true, decide_eq_true_eq]; exact fun h => h3 h.2.2.2)]
          rfl
      · rw [if_neg h2, key b _ (fun h => by cases h), if_pos rfl, if_neg (by simp only [Bool.and_eq_true, decide_eq_true_eq]; exact fun h => h2 h.2.2.1)]
        rfl
    · rw [if_neg (by omega), key b _ (fun h => by cases h), if_pos rfl, if_neg (by simp only [Bool.and_eq_true, decide_eq_true_eq]; exact fun h => h1 h.2.1)]
      rfl
  · rw [if_neg h0, key b _ (fun h => by cases h), if_pos rfl, if_neg (by simp only [Bool.and_eq_true, decide_eq_true_eq]; exact fun h => h0 h.1)]
    rfl
theorem index_l (l : List Int) (x : Int) (hl : l.length ≤ 1000000) : ∀ (d i k : Nat), i + d = l.length → d < k → ∃ r, slices_Index_uint32_uint32.l0 k l x (l.length : Int) i = some r ∧ (0 ≤ r ↔ x ∈ l.drop i)
  | 0, i, k, hi, hk => by
    obtain ⟨k, rfl⟩ : ∃ m, k = m + 1 := ⟨k - 1, by omega⟩
    refine ⟨-1, by rw [slices_Index_uint32_uint32.l0, if_neg (by omega)], ?_⟩
    rw [List.drop_of_length_le (by omega)]
    simp
  | d + 1, i, k, hi, hk => by
    obtain ⟨k, rfl⟩ : ∃ m, k = m + 1 := ⟨k - 1, by omega⟩
    have hlt : i < l.length := by omega
    have e1 : wrap64 ((i : Int) + 1) = ((i + 1 : Nat) : Int) := by unfold wrap64; omega
    obtain ⟨hr, hd⟩ := rd_drop l i hlt
    rw [slices_Index_uint32_uint32.l0, e1, hr, hd]
    clear e1
    rw [if_pos (by omega), if_pos (by omega), if_pos (by omega)]
    by_cases h : x = l[i]
    · rw [if_pos h]
      exact ⟨_, rfl, by rw [← h]; simp⟩
    · rw [if_neg h]
      obtain ⟨r, h1, h2⟩ := index_l l x hl d (i + 1) k (by omega) (by omega)
      refine ⟨r, h1, h2.trans ?_⟩
      rw [List.mem_cons]
      exact ⟨Or.inr, fun h' => h'.resolve_left h⟩
theorem contains_is (l : List Int) (x : Int) (hl : l.length ≤ 1000000) (k : Nat) (hk : l.length < k) : slices_Contains_uint32_uint32.f k l x = some (decide (x ∈ l)) := by
  obtain ⟨r, h1, h2⟩ := index_l l x hl l.length 0 k (by omega) hk
  unfold slices_Contains_uint32_uint32.f slices_Index_uint32_uint32.f
  rw [show (0 : Int) = ((0 : Nat) : Int) from rfl, h1, Option.bind_some]
  rw [List.drop_zero] at h2
  congr 1
  rw [decide_eq_decide]
  exact h2
end Go.Proofs.YtabdnlecpndfjaaDoor.Ps
set_option linter.unusedVariables false
set_option linter.unusedSimpArgs false
namespace Go.Proofs.YtabdnlecpndfjaaDoor
open Go.RowKit Go.Proofs.YtabdnlecpndfjaaDoorW.PrintWords Go.Proofs.YtabdnlecpndfjaaDoorW.PrintLast Go.Proofs.YtabdnlecpndfjaaDoorW.PrintMore
namespace Sh
def Rows (w : World) (B : Option Addr) (n : Nat) (ps : Nat → List Int) (As : Nat → Option Addr) (Cs : Nat → Nat) : Prop :=
  ∀ i, i < n → ∃ ad, B = some ad ∧ w.cell? (ad.add i) = some (.slice (As i) (ps i).length (Cs i)) ∧ (ps i).length ≤ Cs i ∧ Bytes (ps i) ∧ Kd.C (Kd.int .u8) w (As i) (ps i).length (ps i)
theorem slice_all (b : Nat) (W : World) :
    (Instr.sliceAt 80 (.pointer (some ⟨b, 0, none⟩)) none none none).run Tryd.prog W = .ok (.slice (some ⟨b, 0, none⟩) 64 64) W := by
  rw [run_sliceAt_array_all W 80 ⟨b, 0, none⟩ (by kernel_rfl)]
  rw [show Tryd.prog.arrayLen 80 = 64 by kernel_rfl, show Tryd.prog.elem 80 = 5 by kernel_rfl]
  rw [show (sizeOf 5).run Tryd.prog W = .ok 1 W by kernel_rfl]
  simp [Result.andThen, slicedAt, Addr.add]
structure Md (w : World) (L : List Int) (wr : World) : Prop where
  k : wr.heap[w.heap.size]? = some (.cells (u8s L) 80 (0, 0))
  o : wr.heap[w.heap.size + 1]? = some (.cells (u8s (List.replicate 32 0)) 59 (0, 0))
  g : Below w.heap.size w wr
theorem Md.put {w : World} {L : List Int} {wr : World} (h : Md w L wr) (k : Nat) (x : Int) : Md w (L.set k x) (wr.setCell ⟨w.heap.size, k, none⟩ (.int .u8 x)) :=
  ⟨by rw [row_set h.k, u8s_set], row_far h.o _ (by omega) _ _, h.g.setCell (p := ⟨w.heap.size, k, none⟩) (Nat.le_refl _) _⟩
structure Mp (w : World) (hb : Nat) (acc r : List Int) (wr : World) : Prop where
  h : Ha wr hb acc r
  o : wr.heap[w.heap.size + 1]? = some (.cells (u8s (List.replicate 32 0)) 59 (0, 0))
  g : Below w.heap.size w wr
  n : w.heap.size + 1 < hb
theorem Mp.next {w : World} {hb : Nat} {acc r acc2 r2 : List Int} {wr W : World} (h : Mp w hb acc r wr) (h2 : Ha W hb acc2 r2) (hg : wr.grownBy W (some hb)) : Mp w hb acc2 r2 W :=
  ⟨h2, (hg.block _ (Array.getElem?_eq_some_iff.1 h.o).1 (fun e => by have := Option.some.inj e; have := h.n; omega)).trans h.o, below_of_gb h.g hg (by have := h.n; omega), h.n⟩
end Sh
set_option maxHeartbeats 1600000 in
set_option maxRecDepth 100000 in
theorem digest_.calls (kb : List Int) (t : Int) (B : Option Addr) (n c : Nat) (ps : Nat → List Int) (As : Nat → Option Addr) (Cs : Nat → Nat) (w : World) (hk : Sh.Ks w) (hl : kb.length = 64) (hby : Sh.Bytes kb) (hn : n ≤ 9223372036854775807)
    (hr : Sh.Rows w B n ps As Cs) (hlen : ∀ i, i ≤ n → (Sh.cat ps i).length ≤ 1099510000000) :
    Calls Tryd.prog 42 #[.agg (Sh.u8s kb), .int .u8 t, .slice B n c] w fun e w' => e = .returned (.agg (Sh.u8s (Sh.dig (Sh.turn kb t ++ Sh.cat ps n)))) ∧ Below w.heap.size w w' := by
  have HR := Aside0.mk hr
  have HK := Aside0.mk hk
  have HBY := Aside0.mk hby
  have HLN := Aside0.mk hlen
  have HL := Aside0.mk hl
  clear hr hk hby hlen hl
  obtain ⟨K, HKB⟩ : ∃ K, Aside0 (Sh.u8s kb = K) := ⟨_, ⟨rfl⟩⟩
  rw [HKB.out]
  have HM0 : Aside0 (Sh.Md w (Sh.some64 kb t 0) ((w.alloc (.cells K 80)).alloc (.cells (Sh.u8s (List.replicate 32 0)) 59))) := ⟨by
    refine ⟨?_, ?_, below_alloc (below_alloc (Below.refl _ _) _) _⟩
    · rw [← HKB.out]
      exact (Below.heap_alloc _ _ _ (by show w.heap.size < (w.heap.push _).size; simp)).trans (heap_alloc_new _ _)
    · have := heap_alloc_new (w.alloc (.cells K 80)) (.cells (Sh.u8s (List.replicate 32 0)) 59)
      rwa [show (w.alloc (.cells K 80)).heap.size = w.heap.size + 1 by show (w.heap.push _).size = _; simp] at this⟩
  go_enter Tryd.func42, Tryd.ntmps42
  go_wp2_with fail
  go_loopw [11] (fun v11 wr => ∃ k : Nat, v11 = .int .i64 k ∧ k ≤ 64 ∧ Aside0 (Sh.Md w (Sh.some64 kb t k) wr)) (fun v _ => 64 - (intOf v).toNat)
  case atStart => exact ⟨0, rfl, by omega, HM0⟩
  case round =>
    clear HM0
    obtain ⟨k, rfl, hk, HM⟩ := hrel
    by_cases hlt : k < 64
    · obtain ⟨e1, e2⟩ := Sh.some64_at kb t k (by rw [HL.out]; exact hlt)
      have cu := Sh.cellAt HM.out.k k _ (Sh.u8s_at _ k (by rw [Sh.some64_length, HL.out]; exact hlt))
      have fu := Sh.frozenAt HM.out.k k
      rw [e1] at cu
      have HN2 : Aside0 (Sh.Md w (Sh.some64 kb t (k + 1)) (wr.setCell ⟨w.heap.size, k, none⟩ (.int .u8 (bits .xor .u8 (kb.getD k 0) t)))) := ⟨by
        have := HM.out.put k (bits .xor .u8 (kb.getD k 0) t)
        rwa [e2] at this⟩
      clear e1 e2 HM
      generalize kb.getD k 0 = y at *
      go_wp2_with fail
      exact ⟨⟨k + 1, by go_num, by omega, HN2⟩, by simp [intOf]; omega⟩
    · obtain rfl : k = 64 := by omega
      have HT : Aside0 (Sh.Md w (Sh.turn kb t) wr) := ⟨by
        have := HM.out
        rwa [Sh.some64, List.take_of_length_le (by rw [Sh.turn_length, HL.out]; exact Nat.le_refl _), List.drop_of_length_le (by rw [HL.out]; exact Nat.le_refl _), List.append_nil] at this⟩
      clear HM hlt hk
      obtain ⟨wq, rfl⟩ : ∃ q : World, q = wr := ⟨_, rfl⟩
      go_wp2_with fail
      refine (new_.calls wq).mono ?_
      rintro e w2 ⟨rfl, h2, hb2⟩
      obtain ⟨hb, HHB⟩ : ∃ b, Aside0 (wq.heap.size = b) := ⟨_, ⟨rfl⟩⟩
      have HP2 : Aside0 (Sh.Mp w hb [] (List.replicate 64 0) w2) := ⟨⟨by rw [← HHB.out]; exact h2, (hb2.block _ (Array.getElem?_eq_some_iff.1 HT.out.o).1).trans HT.out.o, below_then HT.out.g HT.out.g.size hb2, by rw [← HHB.out]; exact (Array.getElem?_eq_some_iff.1 HT.out.o).1⟩⟩
      have HC2 : Aside0 (Kd.C (Kd.int .u8) w2 (some ⟨w.heap.size, 0, none⟩) 64 (Sh.turn kb t)) := ⟨by
        have hk2 : w2.heap[w.heap.size]? = some (.cells (Sh.u8s (Sh.turn kb t)) 80 (0, 0)) := (hb2.block _ (Array.getElem?_eq_some_iff.1 HT.out.k).1).trans HT.out.k
        have := Lit.reads_block hk2 .u8 (Sh.turn kb t) (by simp [Sh.u8s]) (by rw [Sh.turn_length, HL.out]; decide)
        rwa [Sh.turn_length, HL.out] at this⟩
      rw [HHB.out]
      clear h2 hb2 HT HHB
      have hsl := Sh.slice_all w.heap.size
      have HF : Aside0 (Calls Tryd.prog 40 #[.pointer (some ⟨hb, 0, none⟩), .slice (some ⟨w.heap.size, 0, none⟩) 64 64] w2 fun e w' => e = .returned (.tuple #[]) ∧ (∃ rest', Sh.Ha w' hb (Sh.turn kb t) rest') ∧ w2.grownBy w' (some hb)) := ⟨by
        have hTL : (Sh.turn kb t).length = 64 := by rw [Sh.turn_length, HL.out]
        have := write_.calls hb [] _ (some ⟨w.heap.size, 0, none⟩) 64 (Sh.turn kb t) w2 HP2.out.h (by have := HP2.out.n; omega) (HK.out.below HP2.out.g) (by rw [hTL]; exact HC2.out) (by rw [hTL]; exact Nat.le_refl _) (fun _ a e => by obtain rfl := Option.some.inj e; show w.heap.size ≠ hb; have := HP2.out.n; omega) (Sh.turn_bytes _ _) (by rw [hTL]; simp)
        rw [hTL, List.nil_append] at this
        exact this⟩
      go_wp2_with fail
      refine HF.out.mono ?_
      rintro e w3 ⟨rfl, ⟨r3, h3⟩, g3⟩
      have HP3 : Aside0 (Sh.Mp w hb (Sh.turn kb t ++ Sh.cat ps 0) r3 w3) := ⟨by rw [Sh.cat, List.append_nil]; exact HP2.out.next h3 g3⟩
      clear h3 g3 HF HP2 HC2 hsl
      go_wp2_with fail
      go_loopw [27] (fun v27 wr => ∃ (i : Nat) (r : List Int), v27 = .int .i64 i ∧ i ≤ n ∧ Aside0 (Sh.Mp w hb (Sh.turn kb t ++ Sh.cat ps i) r wr)) (fun v _ => n - (intOf v).toNat)
      case atStart => exact ⟨0, r3, rfl, Nat.zero_le _, HP3⟩
      case round =>
        clear HP3
        obtain ⟨i, r, rfl, hi, HP⟩ := hrel
        by_cases hlt : i < n
        · obtain ⟨ad, e1, hcell, hlc, hpb, hpC⟩ := HR.out i hlt
          subst e1
          obtain ⟨L, HLL⟩ : ∃ L, Aside0 ((ps i).length = L) := ⟨_, ⟨rfl⟩⟩
          rw [HLL.out] at hcell hlc
          obtain ⟨Ai, HAi⟩ : ∃ a, Aside0 (As i = a) := ⟨_, ⟨rfl⟩⟩
          obtain ⟨Ci, HCi⟩ : ∃ a, Aside0 (Cs i = a) := ⟨_, ⟨rfl⟩⟩
          have hx : wr.cell? (ad.add i) = some (.slice Ai L Ci) := by
            rw [← HAi.out, ← HCi.out]
            exact (HP.out.g.cell (World.block_lt_of_cell? w _ hcell)).trans hcell
          have HF : Aside0 (Calls Tryd.prog 40 #[.pointer (some ⟨hb, 0, none⟩), .slice Ai L Ci] wr fun e w' => e = .returned (.tuple #[]) ∧ (∃ rest', Sh.Ha w' hb (Sh.turn kb t ++ Sh.cat ps (i + 1)) rest') ∧ wr.grownBy w' (some hb)) := ⟨by
            rw [HAi.out] at hpC
            have hlen := HLN.out (i + 1) hlt
            rw [Sh.cat, List.length_append] at hlen
            have := write_.calls hb (Sh.turn kb t ++ Sh.cat ps i) r Ai Ci (ps i) wr HP.out.h (by have := HP.out.n; omega) (HK.out.below HP.out.g) (Kd.C_below hpC HP.out.g) (by rw [HLL.out, ← HCi.out]; exact hlc)
              (fun hl a e => Sh.far_of_C hpC hl e (by have := HP.out.n; omega)) hpb (by rw [List.length_append, Sh.turn_length, HL.out]; omega)
            rw [HLL.out, List.append_assoc] at this
            exact this⟩
          clear hcell hlc hpb hpC
          go_wp2_with fail
          refine HF.out.mono ?_
          rintro e w4 ⟨rfl, ⟨r4, h4⟩, g4⟩
          have HP4 := Aside0.mk (HP.out.next h4 g4)
          clear h4 g4 HF HP hx
          go_wp2_with fail
          exact ⟨⟨i + 1, r4, by go_num, by omega, HP4⟩, by simp [intOf]; omega⟩
        · obtain rfl : i = n := by omega
          obtain ⟨D, HDD⟩ : ∃ D, Aside0 (Sh.u8s (Sh.dig (Sh.turn kb t ++ Sh.cat ps i)) = D) := ⟨_, ⟨rfl⟩⟩
          have HF : Aside0 (Calls Tryd.prog 41 #[.pointer (some ⟨hb, 0, none⟩)] wr fun e w' => e = .returned (.agg D) ∧ Below wr.heap.size wr w') := ⟨by
            have := sum_.calls hb (Sh.turn kb t ++ Sh.cat ps i) r wr HP.out.h (HK.out.below HP.out.g) (Sh.app_bytes (Sh.turn_bytes _ _) (Sh.cat_bytes ps i (fun j hj => (HR.out j hj).choose_spec.2.2.2.1) i (Nat.le_refl _))) (by rw [List.length_append, Sh.turn_length, HL.out]; have := HLN.out i (Nat.le_refl _); omega)
            rw [HDD.out] at this
            exact this⟩
          go_wp2_with fail
          refine HF.out.mono ?_
          rintro e w4 ⟨rfl, hb4⟩
          have HB4 : Aside0 (Below w.heap.size w w4) := ⟨below_then HP.out.g HP.out.g.size hb4⟩
          have HO4 : Aside0 (w4.heap[w.heap.size + 1]? = some (.cells (Sh.u8s (List.replicate 32 0)) 59 (0, 0))) := ⟨(hb4.block _ (Array.getElem?_eq_some_iff.1 HP.out.o).1).trans HP.out.o⟩
          clear hb4 HF HP
          have hl32 := Sh.dig_length (Sh.turn kb t ++ Sh.cat ps i)
          have hDs : D.size = 32 := by rw [← HDD.out]; simp [Sh.u8s, hl32]
          have HS : Aside0 ((Tryd.prog.info? 59).map (·.size) = some D.size) := ⟨by rw [hDs]; kernel_rfl⟩
          have HZ2 : Aside0 ((Sh.u8s (List.replicate 32 0)).size = D.size) := ⟨by rw [hDs]; rfl⟩
          have HONE : Aside0 (D.all (·.oneCell') = true) := ⟨by rw [← HDD.out]; simp [Sh.u8s, Value.oneCell']⟩
          clear hDs hl32
          go_wp2_with (refine wpList_store_row rfl 59 (.tmp 6) (.tmp 36) rfl (w.heap.size + 1) D rfl rfl 59 _ HO4.out HS.out HZ2.out HONE.out ?_)
          refine ⟨rfl, .agg D, ?_, by rw [HDD.out], below_setRow HB4.out (Nat.le_succ _) D⟩
          exact results_cell_row rfl _ _ (w.heap.size + 1) 59 D (0, 0) _ rfl (setRow_heap w4 (w.heap.size + 1) _ D _ _ HO4.out) Tryd.underlying59 rfl HS.out
end Go.Proofs.YtabdnlecpndfjaaDoor
set_option linter.unusedVariables false
set_option linter.unusedSimpArgs false
namespace Go.Proofs.YtabdnlecpndfjaaDoor
open Go.RowKit Go.Proofs.YtabdnlecpndfjaaDoorW.PrintWords Go.Proofs.YtabdnlecpndfjaaDoorW.PrintLast Go.Proofs.YtabdnlecpndfjaaDoorW.PrintMore
namespace Sh
theorem Rows.below {w W : World} {B : Option Addr} {n : Nat} {ps : Nat → List Int} {As : Nat → Option Addr} {Cs : Nat → Nat} (h : Rows w B n ps As Cs) (hb : Below w.heap.size w W) : Rows W B n ps As Cs := fun i hi => by
  obtain ⟨ad, h1, h2, h3, h4, h5⟩ := h i hi
  exact ⟨ad, h1, (hb.cell (World.block_lt_of_cell? w _ h2)).trans h2, h3, h4, Kd.C_below h5 hb⟩
theorem row_fill (l : List Int) (n m : Nat) (hm : l.length = m) : ((u8s (List.replicate n 0)).toList.take 0 ++ (l.map (Value.int .u8) ++ (u8s (List.replicate n 0)).toList.drop (0 + m))).toArray = u8s (l ++ List.replicate (n - m) 0) := by
  unfold u8s
  rw [List.take_zero, List.nil_append, Nat.zero_add, List.toList_toArray, List.map_append, ← List.map_drop, List.drop_replicate]
set_option maxRecDepth 100000 in
theorem copy64 {W : World} {g : Nat} (ty : TypeId) (A : Option Addr) (m c2 : Nat) (l : List Int) (hg : W.heap[g]? = some (.cells (u8s (List.replicate 64 0)) 80 (0, 0))) (hC : Kd.C (Kd.int .u8) W A m l) (hm : l.length = m) (h64 : m ≤ 64) :
    ∃ W', (Builtin.copy_ #[22, 22] ty #[.slice (some ⟨g, 0, none⟩) 64 64, .slice A m c2]).run Tryd.prog W = .ok (goInt m) W' ∧ W'.heap[g]? = some (.cells (u8s (l ++ List.replicate (64 - m) 0)) 80 (0, 0)) ∧ W.grownBy W' (some g) := by
  by_cases h0 : m = 0
  · subst h0
    obtain rfl := List.eq_nil_of_length_eq_zero hm
    exact ⟨W, run_copy_none (P := Tryd.prog) W 22 22 ty 5 _ _ 64 64 0 c2 (by kernel_rfl) (by kernel_rfl) (by simp), hg, gb_refl _ _⟩
  · obtain ⟨_, _, h3⟩ := Kd.reads_of_C (d := (0 : Int)) hC
    obtain ⟨ad, rfl, hcell⟩ := h3 (by omega)
    have hrun := run_copy_row (P := Tryd.prog) W 22 22 ty 5 g 0 64 64 ad m c2 (u8s (List.replicate 64 0)) 80 (l.map (Value.int .u8)) (by kernel_rfl) (by kernel_rfl) hg (by rw [List.length_map, hm]; exact (Nat.min_eq_left h64).symm)
      (fun j v hv => by
        rw [List.getElem?_map] at hv
        have hj : j < l.length := by
          rcases Nat.lt_or_ge j l.length with h | h
          · exact h
          · rw [List.getElem?_eq_none h] at hv; cases hv
        rw [hcell j (by omega)]
        rw [List.getElem?_eq_getElem hj] at hv
        rw [← hv, List.getD_eq_getElem?_getD, List.getElem?_eq_getElem hj]
        rfl)
      (by simp [u8s]; omega) (by intro v hv; simp only [List.mem_map] at hv; obtain ⟨x, _, rfl⟩ := hv; rfl)
    refine ⟨_, ?_, ?_, gb_row (gb_refl _ _) (u8s (l ++ List.replicate (64 - m) 0))⟩
    · rw [hrun, List.length_map, hm]
      congr 2
      rw [List.append_assoc]
      exact row_fill l 64 m hm
    · exact setRow_heap W g _ _ _ _ hg
theorem wpList_copy64 {ops : Array Oper} {rest : List Oper} {o : Oper} {a : Act} {W : World} {Q : Exit → Act → World → Prop} (hgd : o.guard = none) (d s : Operand)
    (ho : o.op = .call { callee := .builtin .copy, args := #[d, s], argTypes := #[22, 22] }) (g : Nat) (A : Option Addr) (m c2 : Nat) (l : List Int) (hd : a.eval d = .slice (some ⟨g, 0, none⟩) 64 64) (hs : a.eval s = .slice A m c2)
    (hg : W.heap[g]? = some (.cells (u8s (List.replicate 64 0)) 80 (0, 0))) (hC : Kd.C (Kd.int .u8) W A m l) (hm : l.length = m) (h64 : m ≤ 64)
    (h : ∀ W', W'.heap[g]? = some (.cells (u8s (l ++ List.replicate (64 - m) 0)) 80 (0, 0)) → W.grownBy W' (some g) → wpList Tryd.prog ops Q rest (a.put o.dst (goInt m)) W') : wpList Tryd.prog ops Q (o :: rest) a W := by
  refine wpList_plain hgd fun K hK => ?_
  obtain ⟨W', hrun, h1, h2⟩ := copy64 (g := g) o.type A m c2 l hg hC hm h64
  unfold Oper.wp
  simp [execOp, ho, resolve, invoke, builtin, hd, hs, hrun, Result.andThen]
  exact hK _ _ (h W' h1 h2)
theorem step_copy64 {ops : Array Oper} {o : Oper} {a : Act} {W : World} {K : Act → World → Prop} {Q : Exit → Act → World → Prop} {E : Prop} (hgd : o.guard = none) (d s : Operand)
    (ho : o.op = .call { callee := .builtin .copy, args := #[d, s], argTypes := #[22, 22] }) (g : Nat) (A : Option Addr) (m c2 : Nat) (l : List Int) (hd : a.eval d = .slice (some ⟨g, 0, none⟩) 64 64) (hs : a.eval s = .slice A m c2)
    (hg : W.heap[g]? = some (.cells (u8s (List.replicate 64 0)) 80 (0, 0))) (hC : Kd.C (Kd.int .u8) W A m l) (hm : l.length = m) (h64 : m ≤ 64)
    (h : ∀ W', W'.heap[g]? = some (.cells (u8s (l ++ List.replicate (64 - m) 0)) 80 (0, 0)) → W.grownBy W' (some g) → K (a.put o.dst (goInt m)) W') : if Region.wanted o (yielded ops a.tmps) = true then Oper.wp Tryd.prog o a W K Q else E := by
  have hw : Region.wanted o (yielded ops a.tmps) = true := by simp [Region.wanted, hgd]
  rw [if_pos hw]
  obtain ⟨W', hrun, h1, h2⟩ := copy64 (g := g) o.type A m c2 l hg hC hm h64
  unfold Oper.wp
  simp [execOp, ho, resolve, invoke, builtin, hd, hs, hrun, Result.andThen]
  exact h W' h1 h2
theorem slice_all32 (b : Nat) (W : World) :
    (Instr.sliceAt 59 (.pointer (some ⟨b, 0, none⟩)) none none none).run Tryd.prog W = .ok (.slice (some ⟨b, 0, none⟩) 32 32) W := by
  rw [run_sliceAt_array_all W 59 ⟨b, 0, none⟩ (by kernel_rfl)]
  rw [show Tryd.prog.arrayLen 59 = 32 by kernel_rfl, show Tryd.prog.elem 59 = 5 by kernel_rfl]
  rw [show (sizeOf 5).run Tryd.prog W = .ok 1 W by kernel_rfl]
  simp [Result.andThen, slicedAt, Addr.add]
theorem load64_exec {oi : Oper} {x : Operand} {a : Act} {w' : World} {b : Nat} {D : Array Value} (ho : oi.op = .load 80 x) (hx : a.eval x = .pointer (some ⟨b, 0, none⟩)) (hg : w'.heap[b]? = some (.cells D 80 (0, 0))) (hi : (Tryd.prog.info? 80).map (·.size) = some D.size) :
    (execOp a.eval oi).run Tryd.prog w' = .ok (.value (.agg D)) w' := by
  unfold execOp
  simp only [ho, hx, Instr.loadAt, Instr.sureAddr, Sem.run_bind, Sem.run_pure, Result.andThen_ok, run_loadVar_row w' b 80 80 D (0, 0) _ hg Tryd.underlying80 rfl hi]
theorem store_exec {oi : Oper} {x y : Operand} {a : Act} {w' : World} {b : Nat} {C D : Array Value} (ho : oi.op = .store 59 x y) (hx : a.eval x = .pointer (some ⟨b, 0, none⟩)) (hy : a.eval y = .agg D) (hg : w'.heap[b]? = some (.cells C 59 (0, 0))) (hi : (Tryd.prog.info? 59).map (·.size) = some D.size)
    (hold : C.size = D.size) (h1 : D.all (·.oneCell') = true) : (execOp a.eval oi).run Tryd.prog w' = .ok .skip (w'.setRow b D) := by
  unfold execOp
  simp only [ho, hx, hy, Instr.storeAt, Instr.sureAddr, Sem.run_bind, Sem.run_pure, Result.andThen_ok, run_storeVar_row w' b 59 59 C D hg hi hold h1]
theorem store_new (w5 : World) (D : Array Value) : ((w5.alloc (.cells (u8s (List.replicate 32 0)) 59)).setRow w5.heap.size D).heap[w5.heap.size]? = some (.cells D 59 (0, 0)) ∧ Below w5.heap.size w5 ((w5.alloc (.cells (u8s (List.replicate 32 0)) 59)).setRow w5.heap.size D) :=
  ⟨setRow_heap _ _ _ _ _ _ (heap_alloc_new w5 _), below_setRow (below_alloc (Below.refl _ _) _) (Nat.le_refl _) D⟩
theorem dig_info (l : List Int) : (Tryd.prog.info? 59).map (·.size) = some (u8s (dig l)).size := by
  rw [show (u8s (dig l)).size = 32 by simp [u8s, dig_length l]]
  kernel_rfl
theorem dig_zeros (l : List Int) : (u8s (List.replicate 32 0)).size = (u8s (dig l)).size := by
  rw [show (u8s (dig l)).size = 32 by simp [u8s, dig_length l]]
  rfl
theorem dig_one (l : List Int) : (u8s (dig l)).all (·.oneCell') = true := by simp [u8s, Value.oneCell']
theorem info64 (l : List Int) (h : l.length = 64) : (Tryd.prog.info? 80).map (·.size) = some (u8s l).size := by
  rw [show (u8s l).size = 64 by simp [u8s, h]]
  kernel_rfl
theorem below_step2 {w W W2 : World} (h : Below w.heap.size w W) (hb : Below W.heap.size W W2) : Below w.heap.size w W2 := below_then h h.size hb
theorem one_row {W : World} {b m : Nat} {l : List Int} (hw : W.cell? ⟨b, 0, none⟩ = some (.slice (some ⟨m, 0, none⟩) 32 32)) (hl : l.length = 32) (hb : Bytes l) (hC : Kd.C (Kd.int .u8) W (some ⟨m, 0, none⟩) 32 l) : Rows W (some ⟨b, 0, none⟩) 1 (fun _ => l) (fun _ => some ⟨m, 0, none⟩) (fun _ => 32) := fun i hi => by
  obtain rfl : i = 0 := by omega
  refine ⟨_, rfl, ?_, by rw [hl]; exact Nat.le_refl _, hb, by rw [hl]; exact hC⟩
  rw [hl, Addr.add_zero']
  exact hw
end Sh
set_option maxHeartbeats 1600000 in
set_option maxRecDepth 100000 in
theorem of_.calls (A : Option Addr) (c : Nat) (key : List Int) (B : Option Addr) (n cB : Nat) (ps : Nat → List Int) (As : Nat → Option Addr) (Cs : Nat → Nat) (w : World) (hk : Sh.Ks w) (hrk : Kd.C (Kd.int .u8) w A key.length key) (hc : key.length ≤ c) (hby : Sh.Bytes key) (hlk : key.length ≤ 1099510000000) (hn : n ≤ 9223372036854775807)
    (hr : Sh.Rows w B n ps As Cs) (hlen : ∀ i, i ≤ n → (Sh.cat ps i).length ≤ 1099510000000) :
    Calls Tryd.prog 25 #[.slice A key.length c, .slice B n cB] w fun e w' => e = .returned (.agg (Sh.u8s (Sh.hm key (Sh.cat ps n)))) ∧ Below w.heap.size w w' := by
  have HR := Aside0.mk hr
  have HK := Aside0.mk hk
  have HRK := Aside0.mk hrk
  have HBY := Aside0.mk hby
  have HLN := Aside0.mk hlen
  clear hr hk hrk hby hlen
  obtain ⟨N, HN⟩ : ∃ N, Aside0 (key.length = N) := ⟨_, ⟨rfl⟩⟩
  have hcN : N ≤ c := by rw [← HN.out]; exact hc
  have hlN : N ≤ 1099510000000 := by rw [← HN.out]; exact hlk
  rw [HN.out]
  obtain ⟨W0, HW0⟩ : ∃ W, Aside0 ((w.alloc (.cells (Sh.u8s (List.replicate 32 0)) 59)).alloc (.cells (Sh.u8s (List.replicate 64 0)) 80) = W) := ⟨_, ⟨rfl⟩⟩
  have HO0 : Aside0 (W0.heap[w.heap.size]? = some (.cells (Sh.u8s (List.replicate 32 0)) 59 (0, 0))) := ⟨by
    rw [← HW0.out]
    exact (Below.heap_alloc _ _ _ (by show w.heap.size < (w.heap.push _).size; simp)).trans (heap_alloc_new _ _)⟩
  have HK0 : Aside0 (W0.heap[w.heap.size + 1]? = some (.cells (Sh.u8s (List.replicate 64 0)) 80 (0, 0))) := ⟨by
    rw [← HW0.out]
    have := heap_alloc_new (w.alloc (.cells (Sh.u8s (List.replicate 32 0)) 59)) (.cells (Sh.u8s (List.replicate 64 0)) 80)
    rwa [show (w.alloc (.cells (Sh.u8s (List.replicate 32 0)) 59)).heap.size = w.heap.size + 1 by show (w.heap.push _).size = _; simp] at this⟩
  have HB0 : Aside0 (Below w.heap.size w W0) := ⟨by rw [← HW0.out]; exact below_alloc (below_alloc (Below.refl _ _) _) _⟩
  obtain ⟨KB, HKBd⟩ : ∃ K, Aside0 (Sh.u8s (Sh.kblock key) = K) := ⟨_, ⟨rfl⟩⟩
  have HI64 : Aside0 ((Tryd.prog.info? 80).map (·.size) = some KB.size) := ⟨by rw [← HKBd.out]; exact Sh.info64 _ (Sh.kblock_length key)⟩
  obtain ⟨D1, HD1⟩ : ∃ D, Aside0 (Sh.u8s (Sh.dig (Sh.turn (Sh.kblock key) 54 ++ Sh.cat ps n)) = D) := ⟨_, ⟨rfl⟩⟩
  have HI1 : Aside0 ((Tryd.prog.info? 59).map (·.size) = some D1.size) := ⟨by rw [← HD1.out]; exact Sh.dig_info _⟩
  have HZ1 : Aside0 ((Sh.u8s (List.replicate 32 0)).size = D1.size) := ⟨by rw [← HD1.out]; exact Sh.dig_zeros _⟩
  have HE1 : Aside0 (D1.all (·.oneCell') = true) := ⟨by rw [← HD1.out]; exact Sh.dig_one _⟩
  go_enter Tryd.func25, Tryd.ntmps25
  by_cases h64 : 64 < N
  · go_wp2_with fail
    change Calls _ _ _ ((w.alloc (.cells (Sh.u8s (List.replicate 32 0)) 59)).alloc (.cells (Sh.u8s (List.replicate 64 0)) 80)) _
    rw [HW0.out]
    refine (new_.calls W0).mono ?_
    rintro e w1 ⟨rfl, h1, hb1⟩
    obtain ⟨hb, HHB⟩ : ∃ b, Aside0 (W0.heap.size = b) := ⟨_, ⟨rfl⟩⟩
    have HNB : Aside0 (w.heap.size + 1 < hb) := ⟨by rw [← HHB.out]; exact (Array.getElem?_eq_some_iff.1 HK0.out).1⟩
    rw [HHB.out] at h1 ⊢
    have H1 := Aside0.mk h1
    have HB1 : Aside0 (Below w.heap.size w w1) := ⟨below_then HB0.out HB0.out.size hb1⟩
    have HK1 : Aside0 (w1.heap[w.heap.size + 1]? = some (.cells (Sh.u8s (List.replicate 64 0)) 80 (0, 0)) ∧ w1.heap[w.heap.size]? = some (.cells (Sh.u8s (List.replicate 32 0)) 59 (0, 0))) := ⟨(hb1.block _ (Array.getElem?_eq_some_iff.1 HK0.out).1).trans HK0.out, (hb1.block _ (Array.getElem?_eq_some_iff.1 HO0.out).1).trans HO0.out⟩
    clear h1 hb1 HHB HB0 HK0 HO0 HW0
    have HF : Aside0 (Calls Tryd.prog 40 #[.pointer (some ⟨hb, 0, none⟩), .slice A N c] w1 fun e w' => e = .returned (.tuple #[]) ∧ (∃ rest', Sh.Ha w' hb key rest') ∧ w1.grownBy w' (some hb)) := ⟨by
      have := write_.calls hb [] _ A c key w1 H1.out (by have := HNB.out; omega) (HK.out.below HB1.out) (Kd.C_below HRK.out HB1.out) (by rw [HN.out]; exact hcN) (fun hl a e => Sh.far_of_C HRK.out hl e (by have := HNB.out; omega)) HBY.out (by rw [HN.out]; simp; omega)
      rw [HN.out, List.nil_append] at this
      exact this⟩
    go_wp2_with fail
    refine HF.out.mono ?_
    rintro e w2 ⟨rfl, ⟨r2, h2⟩, g2⟩
    have H2 := Aside0.mk h2
    have HB2 : Aside0 (Below w.heap.size w w2) := ⟨Sh.below_of_gb HB1.out g2 (by have := HNB.out; omega)⟩
    have HK2 : Aside0 (w2.heap[w.heap.size + 1]? = some (.cells (Sh.u8s (List.replicate 64 0)) 80 (0, 0)) ∧ w2.heap[w.heap.size]? = some (.cells (Sh.u8s (List.replicate 32 0)) 59 (0, 0))) := ⟨(g2.block _ (Array.getElem?_eq_some_iff.1 HK1.out.1).1 (fun e => by have := Option.some.inj e; have := HNB.out; omega)).trans HK1.out.1, (g2.block _ (Array.getElem?_eq_some_iff.1 HK1.out.2).1 (fun e => by have := Option.some.inj e; have := HNB.out; omega)).trans HK1.out.2⟩
    clear h2 g2 HF HB1 HK1 H1
    obtain ⟨D0, HD0⟩ : ∃ D, Aside0 (Sh.u8s (Sh.dig key) = D) := ⟨_, ⟨rfl⟩⟩
    have HI0 : Aside0 ((Tryd.prog.info? 59).map (·.size) = some D0.size) := ⟨by rw [← HD0.out]; exact Sh.dig_info _⟩
    have HZ0 : Aside0 ((Sh.u8s (List.replicate 32 0)).size = D0.size) := ⟨by rw [← HD0.out]; exact Sh.dig_zeros _⟩
    have HE0 : Aside0 (D0.all (·.oneCell') = true) := ⟨by rw [← HD0.out]; exact Sh.dig_one _⟩
    have HF : Aside0 (Calls Tryd.prog 41 #[.pointer (some ⟨hb, 0, none⟩)] w2 fun e w' => e = .returned (.agg D0) ∧ Below w2.heap.size w2 w') := ⟨by
      have := sum_.calls hb key r2 w2 H2.out (HK.out.below HB2.out) HBY.out (by rw [HN.out]; omega)
      rw [HD0.out] at this
      exact this⟩
    go_wp2_with fail
    refine HF.out.mono ?_
    rintro e w3 ⟨rfl, hb3⟩
    have HB3 : Aside0 (Below w.heap.size w w3) := ⟨below_then HB2.out HB2.out.size hb3⟩
    have HK3 : Aside0 (w3.heap[w.heap.size + 1]? = some (.cells (Sh.u8s (List.replicate 64 0)) 80 (0, 0)) ∧ w3.heap[w.heap.size]? = some (.cells (Sh.u8s (List.replicate 32 0)) 59 (0, 0))) := ⟨(hb3.block _ (Array.getElem?_eq_some_iff.1 HK2.out.1).1).trans HK2.out.1, (hb3.block _ (Array.getElem?_eq_some_iff.1 HK2.out.2).1).trans HK2.out.2⟩
    have HX3 := Aside0.mk (Sh.store_new w3 D0)
    have HO4 : Aside0 ((w3.alloc (.cells (Sh.u8s (List.replicate 32 0)) 59)).heap[w3.heap.size]? = some (.cells (Sh.u8s (List.replicate 32 0)) 59 (0, 0))) := ⟨heap_alloc_new w3 _⟩
    clear hb3 HF HB2 HK2 H2
    go_wp2_with (refine wpList_store_row rfl 59 (.tmp 7) (.tmp 17) rfl w3.heap.size D0 rfl rfl 59 _ HO4.out HI0.out HZ0.out HE0.out ?_; generalize hWq : World.setRow _ w3.heap.size D0 = W4; have HX4 : Aside0 (W4.heap[w3.heap.size]? = some (.cells D0 59 (0, 0)) ∧ Below w3.heap.size w3 W4) := ⟨by rw [← hWq]; exact HX3.out⟩; clear hWq)
    obtain ⟨b7, HB7⟩ : ∃ b, Aside0 (w3.heap.size = b) := ⟨_, ⟨rfl⟩⟩
    have HC7 : Aside0 (Kd.C (Kd.int .u8) W4.drew (some ⟨b7, 0, none⟩) 32 (Sh.dig key)) := ⟨by
      have h7 : W4.drew.heap[b7]? = some (.cells D0 59 (0, 0)) := by rw [← HB7.out]; exact HX4.out.1
      have := Lit.reads_block h7 .u8 (Sh.dig key) (by rw [← HD0.out]; simp [Sh.u8s]) (by rw [Sh.dig_length]; decide)
      rwa [Sh.dig_length] at this⟩
    have HK4 : Aside0 (W4.drew.heap[w.heap.size + 1]? = some (.cells (Sh.u8s (List.replicate 64 0)) 80 (0, 0)) ∧ W4.drew.heap[w.heap.size]? = some (.cells (Sh.u8s (List.replicate 32 0)) 59 (0, 0))) := ⟨(HX4.out.2.block _ (Array.getElem?_eq_some_iff.1 HK3.out.1).1).trans HK3.out.1, (HX4.out.2.block _ (Array.getElem?_eq_some_iff.1 HK3.out.2).1).trans HK3.out.2⟩
    have HG4 : Aside0 (Below w.heap.size w W4.drew) := ⟨(below_then HB3.out HB3.out.size HX4.out.2).drew⟩
    rw [HB7.out]
    clear HX4 HX3 HO4 HK3 HB3 HB7 HD0 HI0 HZ0 HE0
    have hs1 := Sh.slice_all (w.heap.size + 1)
    have hs2 := Sh.slice_all32 b7
    go_wp2_with fail
    refine wp_region_noPanic ?_
    refine start_ (n := 3) (S := (fun _ => True)) (ds := [2]) #[false, false, false] (by kernel_rfl) rfl rfl trivial (fun hHeld => ?_)
    refine pure_ (i := 0) (N := (some 18)) (v := ?_) (a' := ?_) #[true, false, false] rfl rfl (by kernel_rfl) (fun _ _ _ h => h) (Or.inl ⟨by rfl, ?_⟩) ?_ ?_
    rotate_left
    · intro w'
      go_simp
      with_reducible rfl
    rotate_left
    · simp only [Act.put, List.setIfInBounds_toArray, List.set_cons_zero, List.set_cons_succ]
      rfl
    refine pure_ (i := 1) (N := (some 19)) (v := ?_) (a' := ?_) #[true, true, false] rfl rfl (by kernel_rfl) (fun _ _ _ h => h) (Or.inl ⟨by rfl, ?_⟩) ?_ ?_
    rotate_left
    · intro w'
      go_simp
      with_reducible rfl
    rotate_left
    · simp only [Act.put, List.setIfInBounds_toArray, List.set_cons_zero, List.set_cons_succ]
      rfl
    refine last_ (i := 2) (N := (some 20)) #[true, true, true] rfl rfl (by kernel_rfl) (by decide) (fun K hK => ?_)
    refine Sh.step_copy64 rfl (.tmp 18) (.tmp 19) rfl (w.heap.size + 1) (some ⟨b7, 0, none⟩) 32 32 (Sh.dig key) rfl rfl HK4.out.1 HC7.out (Sh.dig_length key) (by decide) ?_
    intro W hkw hgw
    have HKW : Aside0 (W.heap[w.heap.size + 1]? = some (.cells KB 80 (0, 0))) := ⟨by rw [hkw, ← HKBd.out, Sh.kblock, if_pos (by rw [HN.out]; exact h64)]⟩
    have HOW : Aside0 (W.heap[w.heap.size]? = some (.cells (Sh.u8s (List.replicate 32 0)) 59 (0, 0))) := ⟨(hgw.block _ (Array.getElem?_eq_some_iff.1 HK4.out.2).1 (fun e => by have := Option.some.inj e; omega)).trans HK4.out.2⟩
    have HGW : Aside0 (Below w.heap.size w W) := ⟨Sh.below_of_gb HG4.out hgw (Nat.le_succ _)⟩
    clear hkw hgw
    refine hK.out _ _ ?_
    clear hK K
    refine norm_ (a' := ?_) ?_ ?_
    rotate_left
    · show Act.put _ (some 20) _ = _
      simp only [Act.put, List.setIfInBounds_toArray, List.set_cons_zero, List.set_cons_succ]
      rfl
    refine done_ (by kernel_rfl) ?_
    clear hs1 hs2 HK4 HC7 HG4
    refine NoPanic.normal ?_
    go_wp2_with (refine wpList_load_row rfl 80 (.tmp 5) rfl (w.heap.size + 1) rfl 80 KB (0, 0) _ HKW.out Tryd.underlying80 rfl HI64.out ?_)
    have HF : Aside0 (Calls Tryd.prog 42 #[.agg KB, .int .u8 54, .slice B n cB] W fun e w' => e = .returned (.agg D1) ∧ Below W.heap.size W w') := ⟨by
      have := digest_.calls (Sh.kblock key) 54 B n cB ps As Cs W (HK.out.below HGW.out) (Sh.kblock_length key) (Sh.kblock_bytes key HBY.out) hn (HR.out.below HGW.out) HLN.out
      rw [HKBd.out, HD1.out] at this
      exact this⟩
    refine HF.out.mono ?_
    rintro e w5 ⟨rfl, hb5⟩
    have HB5 : Aside0 (Below w.heap.size w w5) := ⟨below_then HGW.out HGW.out.size hb5⟩
    have HK5 : Aside0 (w5.heap[w.heap.size + 1]? = some (.cells KB 80 (0, 0))) := ⟨(hb5.block _ (Array.getElem?_eq_some_iff.1 HKW.out).1).trans HKW.out⟩
    have HO5 : Aside0 (w5.heap[w.heap.size]? = some (.cells (Sh.u8s (List.replicate 32 0)) 59 (0, 0))) := ⟨(hb5.block _ (Array.getElem?_eq_some_iff.1 HOW.out).1).trans HOW.out⟩
    have HX5 := Aside0.mk (Sh.store_new w5 D1)
    have HO6 : Aside0 ((w5.alloc (.cells (Sh.u8s (List.replicate 32 0)) 59)).heap[w5.heap.size]? = some (.cells (Sh.u8s (List.replicate 32 0)) 59 (0, 0))) := ⟨heap_alloc_new w5 _⟩
    clear hb5 HF HKW HOW
    go_wp2_with (refine wpList_store_row rfl 59 (.tmp 8) (.tmp 26) rfl w5.heap.size D1 rfl rfl 59 _ HO6.out HI1.out HZ1.out HE1.out ?_; generalize hWq : World.setRow _ w5.heap.size D1 = W6; have HX6 : Aside0 (W6.heap[w5.heap.size]? = some (.cells D1 59 (0, 0)) ∧ Below w5.heap.size w5 W6) := ⟨by rw [← hWq]; exact HX5.out⟩; clear hWq)
    obtain ⟨b8, HB8⟩ : ∃ b, Aside0 (w5.heap.size = b) := ⟨_, ⟨rfl⟩⟩
    have HX8 : Aside0 (W6.heap[b8]? = some (.cells D1 59 (0, 0))) := ⟨by rw [← HB8.out]; exact HX6.out.1⟩
    have HK6 : Aside0 (W6.heap[w.heap.size + 1]? = some (.cells KB 80 (0, 0))) := ⟨(HX6.out.2.block _ (Array.getElem?_eq_some_iff.1 HK5.out).1).trans HK5.out⟩
    have HO7 : Aside0 (W6.heap[w.heap.size]? = some (.cells (Sh.u8s (List.replicate 32 0)) 59 (0, 0))) := ⟨(HX6.out.2.block _ (Array.getElem?_eq_some_iff.1 HO5.out).1).trans HO5.out⟩
    have HG6 : Aside0 (Below w.heap.size w W6) := ⟨below_then HB5.out HB5.out.size HX6.out.2⟩
    rw [HB8.out]
    clear HX6 HK5 HO5 HO6 HX5 HB5 HB8
    have hsl := Sh.slice_all32 b8
    obtain ⟨D2, HD2⟩ : ∃ D, Aside0 (Sh.u8s (Sh.hm key (Sh.cat ps n)) = D) := ⟨_, ⟨rfl⟩⟩
    have HI2 : Aside0 ((Tryd.prog.info? 59).map (·.size) = some D2.size) := ⟨by rw [← HD2.out]; exact Sh.dig_info _⟩
    have HZ2 : Aside0 ((Sh.u8s (List.replicate 32 0)).size = D2.size) := ⟨by rw [← HD2.out]; exact Sh.dig_zeros _⟩
    have HE2 : Aside0 (D2.all (·.oneCell') = true) := ⟨by rw [← HD2.out]; exact Sh.dig_one _⟩
    have HRUN : Aside0 (∀ W9 b9, Below W6.heap.size W6 W9 → W9.cell? ⟨b9, 0, none⟩ = some (.slice (some ⟨b8, 0, none⟩) 32 32) → Calls Tryd.prog 42 #[.agg KB, .int .u8 92, .slice (some ⟨b9, 0, none⟩) 1 1] W9 fun e w' => e = .returned (.agg D2) ∧ Below W9.heap.size W9 w') := ⟨fun W9 b9 hW hcell => by
      have hb := below_then HG6.out HG6.out.size hW
      have h8 : W9.heap[b8]? = some (.cells D1 59 (0, 0)) := (hW.block _ (Array.getElem?_eq_some_iff.1 HX8.out).1).trans HX8.out
      have hC : Kd.C (Kd.int .u8) W9 (some ⟨b8, 0, none⟩) 32 (Sh.dig (Sh.turn (Sh.kblock key) 54 ++ Sh.cat ps n)) := by
        have := Lit.reads_block h8 .u8 (Sh.dig (Sh.turn (Sh.kblock key) 54 ++ Sh.cat ps n)) (by rw [← HD1.out]; simp [Sh.u8s]) (by rw [Sh.dig_length]; decide)
        rwa [Sh.dig_length] at this
      have := digest_.calls (Sh.kblock key) 92 (some ⟨b9, 0, none⟩) 1 1 (fun _ => Sh.dig (Sh.turn (Sh.kblock key) 54 ++ Sh.cat ps n)) (fun _ => some ⟨b8, 0, none⟩) (fun _ => 32) W9 (HK.out.below hb) (Sh.kblock_length key) (Sh.kblock_bytes key HBY.out) (by decide)
        (Sh.one_row hcell (Sh.dig_length _) (Sh.dig_bytes _) hC) (fun i hi => by
          rcases (show i = 0 ∨ i = 1 by omega) with rfl | rfl
          · simp [Sh.cat]
          · simp [Sh.cat, Sh.dig_length])
      rw [HKBd.out] at this
      have e : Sh.u8s (Sh.dig (Sh.turn (Sh.kblock key) 92 ++ Sh.cat (fun _ => Sh.dig (Sh.turn (Sh.kblock key) 54 ++ Sh.cat ps n)) 1)) = D2 := by rw [← HD2.out]; rfl
      rw [e] at this
      exact this⟩
    have HKX : Aside0 (∀ W, Below W6.heap.size W6 W → W.heap[w.heap.size + 1]? = some (.cells KB 80 (0, 0)) ∧ W.heap[w.heap.size]? = some (.cells (Sh.u8s (List.replicate 32 0)) 59 (0, 0))) := ⟨fun W hW => ⟨(hW.block _ (Array.getElem?_eq_some_iff.1 HK6.out).1).trans HK6.out, (hW.block _ (Array.getElem?_eq_some_iff.1 HO7.out).1).trans HO7.out⟩⟩
    clear HK6 HO7 HX8 HD1
    go_wp2_with fail
    refine wp_region_noPanic ?_
    refine start_ (n := 5) (S := (fun w' => Below W6.heap.size W6 w')) (ds := [4]) #[false, false, false, false, false] (by kernel_rfl) rfl rfl (Below.refl _ _).drew (fun hHeld => ?_)
    refine take_ (i := 0) (N := (some 27)) (v := ?_) (a' := ?_) #[true, false, false, false, false] rfl rfl (by kernel_rfl) (fun _ _ _ h => h) (Or.inl ⟨by rfl, ?_⟩) hHeld ?_ ?_
    rotate_left
    · intro w' hS'
      (refine (Sh.load64_exec (x := .tmp 5) rfl rfl (HKX.out _ hS').1 HI64.out).trans ?_)
      with_reducible rfl
    rotate_left
    · simp only [Act.put, List.setIfInBounds_toArray, List.set_cons_zero, List.set_cons_succ]
      rfl
    refine pure_ (i := 1) (N := (some 28)) (v := ?_) (a' := ?_) #[true, true, false, false, false] rfl rfl (by kernel_rfl) (fun _ _ _ h => h) (Or.inl ⟨by rfl, ?_⟩) ?_ ?_
    rotate_left
    · intro w'
      go_simp
      with_reducible rfl
    rotate_left
    · simp only [Act.put, List.setIfInBounds_toArray, List.set_cons_zero, List.set_cons_succ]
      rfl
    refine one_ (i := 2) (N := (some 29)) #[true, true, true, false, false] rfl rfl (by kernel_rfl) (by decide) (fun K hK => ?_)
    refine value_ (w1 := W6.drew.alloc (.cells #[.slice (some ⟨b8, 0, none⟩) 32 32] 22)) (v := .slice (some ⟨W6.drew.heap.size, 0, none⟩) 1 1) (by rfl) rfl (by go_simp) ?_
    have HQ : Aside0 (Below W6.heap.size W6 (W6.drew.alloc (.cells #[.slice (some ⟨b8, 0, none⟩) 32 32] 22))) := ⟨((Below.refl _ W6).drew).alloc (Nat.le_refl _) _⟩
    refine hK.out _ _ HQ.out (fun hHeld => ?_)
    clear hK K
    refine norm_ (a' := ?_) ?_ ?_
    rotate_left
    · show Act.put _ (some 29) _ = _
      simp only [Act.put, List.setIfInBounds_toArray, List.set_cons_zero, List.set_cons_succ]
      rfl
    refine one_ (i := 3) (N := (some 30)) #[true, true, true, true, false] rfl rfl (by kernel_rfl) (by decide) (fun K hK => ?_)
    refine call_ 42 #[.agg KB, .int .u8 92, .slice (some ⟨W6.drew.heap.size, 0, none⟩) 1 1] (by rfl) rfl (by go_simp) ?_
    refine (HRUN.out _ _ hHeld (Lit.cell_new W6.drew #[.slice (some ⟨b8, 0, none⟩) 32 32] 22 (0, 0) 0)).mono ?_
    rintro e w9 ⟨rfl, hb9⟩
    have HQ2 := Aside0.mk (Sh.below_step2 hHeld hb9)
    clear hb9
    refine ⟨_, rfl, ?_⟩
    refine hK.out _ _ HQ2.out (fun hHeld => ?_)
    clear hK K
    refine norm_ (a' := ?_) ?_ ?_
    rotate_left
    · show Act.put _ (some 30) _ = _
      simp only [Act.put, List.setIfInBounds_toArray, List.set_cons_zero, List.set_cons_succ]
      rfl
    refine last_ (i := 4) (N := none) #[true, true, true, true, true] rfl rfl (by kernel_rfl) (by decide) (fun K hK => ?_)
    refine skip_ (w1 := w9.setRow w.heap.size D2) (by rfl) rfl (Sh.store_exec (x := .tmp 4) (y := .tmp 30) rfl rfl rfl (HKX.out _ HQ2.out).2 HI2.out HZ2.out HE2.out) ?_
    refine hK.out _ _ ?_
    clear hK K
    refine done_ (by kernel_rfl) ?_
    have HBF : Aside0 (Below w.heap.size w (w9.setRow w.heap.size D2)) := ⟨below_setRow (below_then HG6.out HG6.out.size HQ2.out) (Nat.le_refl _) D2⟩
    have HOF : Aside0 ((w9.setRow w.heap.size D2).heap[w.heap.size]? = some (.cells D2 59 (0, 0))) := ⟨setRow_heap w9 w.heap.size _ D2 _ _ (HKX.out _ HQ2.out).2⟩
    generalize w9.setRow w.heap.size D2 = WF at *
    refine NoPanic.normal ?_
    go_wp2_with fail
    refine ⟨rfl, .agg D2, ?_, by rw [HD2.out], HBF.out⟩
    exact results_cell_row rfl _ _ w.heap.size 59 D2 (0, 0) _ rfl HOF.out Tryd.underlying59 rfl HI2.out
  · have hs1 := Sh.slice_all (w.heap.size + 1)
    have HK0' : Aside0 (((w.alloc (.cells (Sh.u8s (List.replicate 32 0)) 59)).alloc (.cells (Sh.u8s (List.replicate 64 0)) 80)).heap[w.heap.size + 1]? = some (.cells (Sh.u8s (List.replicate 64 0)) 80 (0, 0))) := ⟨by rw [HW0.out]; exact HK0.out⟩
    have HC0' : Aside0 (Kd.C (Kd.int .u8) ((w.alloc (.cells (Sh.u8s (List.replicate 32 0)) 59)).alloc (.cells (Sh.u8s (List.replicate 64 0)) 80)) A N key) := ⟨by
      rw [HW0.out]
      have := Kd.C_below HRK.out HB0.out
      rwa [HN.out] at this⟩
    go_wp2_with (first | (refine Sh.wpList_copy64 rfl (.tmp 21) (.tmp 22) rfl (w.heap.size + 1) A N c key rfl rfl HK0'.out HC0'.out HN.out (by omega) ?_; intro W hkw hgw; have HKW : Aside0 (W.heap[w.heap.size + 1]? = some (.cells KB 80 (0, 0))) := ⟨by rw [hkw, ← HKBd.out, Sh.kblock, if_neg (by rw [HN.out]; exact h64), HN.out]⟩; have HGW0 : Aside0 (W0.grownBy W (some (w.heap.size + 1))) := ⟨HW0.out ▸ hgw⟩; clear hkw hgw) | (refine wpList_load_row rfl 80 (.tmp 5) rfl (w.heap.size + 1) rfl 80 KB (0, 0) _ HKW.out Tryd.underlying80 rfl HI64.out ?_))
    have HOW : Aside0 (W.heap[w.heap.size]? = some (.cells (Sh.u8s (List.replicate 32 0)) 59 (0, 0))) := ⟨(HGW0.out.block _ (Array.getElem?_eq_some_iff.1 HO0.out).1 (fun e => by have := Option.some.inj e; omega)).trans HO0.out⟩
    have HGW : Aside0 (Below w.heap.size w W) := ⟨Sh.below_of_gb HB0.out HGW0.out (Nat.le_succ _)⟩
    clear hs1 HK0' HC0' HGW0 HO0 HK0 HB0 HW0
    have HF : Aside0 (Calls Tryd.prog 42 #[.agg KB, .int .u8 54, .slice B n cB] W fun e w' => e = .returned (.agg D1) ∧ Below W.heap.size W w') := ⟨by
      have := digest_.calls (Sh.kblock key) 54 B n cB ps As Cs W (HK.out.below HGW.out) (Sh.kblock_length key) (Sh.kblock_bytes key HBY.out) hn (HR.out.below HGW.out) HLN.out
      rw [HKBd.out, HD1.out] at this
      exact this⟩
    refine HF.out.mono ?_
    rintro e w5 ⟨rfl, hb5⟩
    have HB5 : Aside0 (Below w.heap.size w w5) := ⟨below_then HGW.out HGW.out.size hb5⟩
    have HK5 : Aside0 (w5.heap[w.heap.size + 1]? = some (.cells KB 80 (0, 0))) := ⟨(hb5.block _ (Array.getElem?_eq_some_iff.1 HKW.out).1).trans HKW.out⟩
    have HO5 : Aside0 (w5.heap[w.heap.size]? = some (.cells (Sh.u8s (List.replicate 32 0)) 59 (0, 0))) := ⟨(hb5.block _ (Array.getElem?_eq_some_iff.1 HOW.out).1).trans HOW.out⟩
    have HX5 := Aside0.mk (Sh.store_new w5 D1)
    have HO6 : Aside0 ((w5.alloc (.cells (Sh.u8s (List.replicate 32 0)) 59)).heap[w5.heap.size]? = some (.cells (Sh.u8s (List.replicate 32 0)) 59 (0, 0))) := ⟨heap_alloc_new w5 _⟩
    clear hb5 HF HKW HOW
    go_wp2_with (refine wpList_store_row rfl 59 (.tmp 8) (.tmp 26) rfl w5.heap.size D1 rfl rfl 59 _ HO6.out HI1.out HZ1.out HE1.out ?_; generalize hWq : World.setRow _ w5.heap.size D1 = W6; have HX6 : Aside0 (W6.heap[w5.heap.size]? = some (.cells D1 59 (0, 0)) ∧ Below w5.heap.size w5 W6) := ⟨by rw [← hWq]; exact HX5.out⟩; clear hWq)
    obtain ⟨b8, HB8⟩ : ∃ b, Aside0 (w5.heap.size = b) := ⟨_, ⟨rfl⟩⟩
    have HX8 : Aside0 (W6.heap[b8]? = some (.cells D1 59 (0, 0))) := ⟨by rw [← HB8.out]; exact HX6.out.1⟩
    have HK6 : Aside0 (W6.heap[w.heap.size + 1]? = some (.cells KB 80 (0, 0))) := ⟨(HX6.out.2.block _ (Array.getElem?_eq_some_iff.1 HK5.out).1).trans HK5.out⟩
    have HO7 : Aside0 (W6.heap[w.heap.size]? = some (.cells (Sh.u8s (List.replicate 32 0)) 59 (0, 0))) := ⟨(HX6.out.2.block _ (Array.getElem?_eq_some_iff.1 HO5.out).1).trans HO5.out⟩
    have HG6 : Aside0 (Below w.heap.size w W6) := ⟨below_then HB5.out HB5.out.size HX6.out.2⟩
    rw [HB8.out]
    clear HX6 HK5 HO5 HO6 HX5 HB5 HB8
    have hsl := Sh.slice_all32 b8
    obtain ⟨D2, HD2⟩ : ∃ D, Aside0 (Sh.u8s (Sh.hm key (Sh.cat ps n)) = D) := ⟨_, ⟨rfl⟩⟩
    have HI2 : Aside0 ((Tryd.prog.info? 59).map (·.size) = some D2.size) := ⟨by rw [← HD2.out]; exact Sh.dig_info _⟩
    have HZ2 : Aside0 ((Sh.u8s (List.replicate 32 0)).size = D2.size) := ⟨by rw [← HD2.out]; exact Sh.dig_zeros _⟩
    have HE2 : Aside0 (D2.all (·.oneCell') = true) := ⟨by rw [← HD2.out]; exact Sh.dig_one _⟩
    have HRUN : Aside0 (∀ W9 b9, Below W6.heap.size W6 W9 → W9.cell? ⟨b9, 0, none⟩ = some (.slice (some ⟨b8, 0, none⟩) 32 32) → Calls Tryd.prog 42 #[.agg KB, .int .u8 92, .slice (some ⟨b9, 0, none⟩) 1 1] W9 fun e w' => e = .returned (.agg D2) ∧ Below W9.heap.size W9 w') := ⟨fun W9 b9 hW hcell => by
      have hb := below_then HG6.out HG6.out.size hW
      have h8 : W9.heap[b8]? = some (.cells D1 59 (0, 0)) := (hW.block _ (Array.getElem?_eq_some_iff.1 HX8.out).1).trans HX8.out
      have hC : Kd.C (Kd.int .u8) W9 (some ⟨b8, 0, none⟩) 32 (Sh.dig (Sh.turn (Sh.kblock key) 54 ++ Sh.cat ps n)) := by
        have := Lit.reads_block h8 .u8 (Sh.dig (Sh.turn (Sh.kblock key) 54 ++ Sh.cat ps n)) (by rw [← HD1.out]; simp [Sh.u8s]) (by rw [Sh.dig_length]; decide)
        rwa [Sh.dig_length] at this
      have := digest_.calls (Sh.kblock key) 92 (some ⟨b9, 0, none⟩) 1 1 (fun _ => Sh.dig (Sh.turn (Sh.kblock key) 54 ++ Sh.cat ps n)) (fun _ => some ⟨b8, 0, none⟩) (fun _ => 32) W9 (HK.out.below hb) (Sh.kblock_length key) (Sh.kblock_bytes key HBY.out) (by decide)
        (Sh.one_row hcell (Sh.dig_length _) (Sh.dig_bytes _) hC) (fun i hi => by
          rcases (show i = 0 ∨ i = 1 by omega) with rfl | rfl
          · simp [Sh.cat]
          · simp [Sh.cat, Sh.dig_length])
      rw [HKBd.out] at this
      have e : Sh.u8s (Sh.dig (Sh.turn (Sh.kblock key) 92 ++ Sh.cat (fun _ => Sh.dig (Sh.turn (Sh.kblock key) 54 ++ Sh.cat ps n)) 1)) = D2 := by rw [← HD2.out]; rfl
      rw [e] at this
      exact this⟩
    have HKX : Aside0 (∀ W, Below W6.heap.size W6 W → W.heap[w.heap.size + 1]? = some (.cells KB 80 (0, 0)) ∧ W.heap[w.heap.size]? = some (.cells (Sh.u8s (List.replicate 32 0)) 59 (0, 0))) := ⟨fun W hW => ⟨(hW.block _ (Array.getElem?_eq_some_iff.1 HK6.out).1).trans HK6.out, (hW.block _ (Array.getElem?_eq_some_iff.1 HO7.out).1).trans HO7.out⟩⟩
    clear HK6 HO7 HX8 HD1
    go_wp2_with fail
    refine wp_region_noPanic ?_
    refine start_ (n := 5) (S := (fun w' => Below W6.heap.size W6 w')) (ds := [4]) #[false, false, false, false, false] (by kernel_rfl) rfl rfl (Below.refl _ _).drew (fun hHeld => ?_)
    refine take_ (i := 0) (N := (some 27)) (v := ?_) (a' := ?_) #[true, false, false, false, false] rfl rfl (by kernel_rfl) (fun _ _ _ h => h) (Or.inl ⟨by rfl, ?_⟩) hHeld ?_ ?_
    rotate_left
    · intro w' hS'
      (refine (Sh.load64_exec (x := .tmp 5) rfl rfl (HKX.out _ hS').1 HI64.out).trans ?_)
      with_reducible rfl
    rotate_left
    · simp only [Act.put, List.setIfInBounds_toArray, List.set_cons_zero, List.set_cons_succ]
      rfl
    refine pure_ (i := 1) (N := (some 28)) (v := ?_) (a' := ?_) #[true, true, false, false, false] rfl rfl (by kernel_rfl) (fun _ _ _ h => h) (Or.inl ⟨by rfl, ?_⟩) ?_ ?_
    rotate_left
    · intro w'
      go_simp
      with_reducible rfl
    rotate_left
    · simp only [Act.put, List.setIfInBounds_toArray, List.set_cons_zero, List.set_cons_succ]
      rfl
    refine one_ (i := 2) (N := (some 29)) #[true, true, true, false, false] rfl rfl (by kernel_rfl) (by decide) (fun K hK => ?_)
    refine value_ (w1 := W6.drew.alloc (.cells #[.slice (some ⟨b8, 0, none⟩) 32 32] 22)) (v := .slice (some ⟨W6.drew.heap.size, 0, none⟩) 1 1) (by rfl) rfl (by go_simp) ?_
    have HQ : Aside0 (Below W6.heap.size W6 (W6.drew.alloc (.cells #[.slice (some ⟨b8, 0, none⟩) 32 32] 22))) := ⟨((Below.refl _ W6).drew).alloc (Nat.le_refl _) _⟩
    refine hK.out _ _ HQ.out (fun hHeld => ?_)
    clear hK K
    refine norm_ (a' := ?_) ?_ ?_
    rotate_left
    · show Act.put _ (some 29) _ = _
      simp only [Act.put, List.setIfInBounds_toArray, List.set_cons_zero, List.set_cons_succ]
      rfl
    refine one_ (i := 3) (N := (some 30)) #[true, true, true, true, false] rfl rfl (by kernel_rfl) (by decide) (fun K hK => ?_)
    refine call_ 42 #[.agg KB, .int .u8 92, .slice (some ⟨W6.drew.heap.size, 0, none⟩) 1 1] (by rfl) rfl (by go_simp) ?_
    refine (HRUN.out _ _ hHeld (Lit.cell_new W6.drew #[.slice (some ⟨b8, 0, none⟩) 32 32] 22 (0, 0) 0)).mono ?_
    rintro e w9 ⟨rfl, hb9⟩
    have HQ2 := Aside0.mk (Sh.below_step2 hHeld hb9)
    clear hb9
    refine ⟨_, rfl, ?_⟩
    refine hK.out _ _ HQ2.out (fun hHeld => ?_)
    clear hK K
    refine norm_ (a' := ?_) ?_ ?_
    rotate_left
    · show Act.put _ (some 30) _ = _
      simp only [Act.put, List.setIfInBounds_toArray, List.set_cons_zero, List.set_cons_succ]
      rfl
    refine last_ (i := 4) (N := none) #[true, true, true, true, true] rfl rfl (by kernel_rfl) (by decide) (fun K hK => ?_)
    refine skip_ (w1 := w9.setRow w.heap.size D2) (by rfl) rfl (Sh.store_exec (x := .tmp 4) (y := .tmp 30) rfl rfl rfl (HKX.out _ HQ2.out).2 HI2.out HZ2.out HE2.out) ?_
    refine hK.out _ _ ?_
    clear hK K
    refine done_ (by kernel_rfl) ?_
    have HBF : Aside0 (Below w.heap.size w (w9.setRow w.heap.size D2)) := ⟨below_setRow (below_then HG6.out HG6.out.size HQ2.out) (Nat.le_refl _) D2⟩
    have HOF : Aside0 ((w9.setRow w.heap.size D2).heap[w.heap.size]? = some (.cells D2 59 (0, 0))) := ⟨setRow_heap w9 w.heap.size _ D2 _ _ (HKX.out _ HQ2.out).2⟩
    generalize w9.setRow w.heap.size D2 = WF at *
    refine NoPanic.normal ?_
    go_wp2_with fail
    refine ⟨rfl, .agg D2, ?_, by rw [HD2.out], HBF.out⟩
    exact results_cell_row rfl _ _ w.heap.size 59 D2 (0, 0) _ rfl HOF.out Tryd.underlying59 rfl HI2.out
end Go.Proofs.YtabdnlecpndfjaaDoor
set_option linter.unusedVariables false
set_option linter.unusedSimpArgs false
namespace Go.Proofs.YtabdnlecpndfjaaDoor
open Go.RowKit Go.Proofs.YtabdnlecpndfjaaDoorW.PrintWords Go.Proofs.YtabdnlecpndfjaaDoorW.PrintLast Go.Proofs.YtabdnlecpndfjaaDoorW.PrintMore
namespace Sh
structure Two (w3 : World) (v7 v8 : Value) (a7 a8 : List Int) (wr : World) : Prop where
  r7 : Kd.R (Kd.int .u8) 5 wr w3.heap.size (fun k => some k ≠ v8.ownBlock) v7 a7
  r8 : Kd.R (Kd.int .u8) 5 wr w3.heap.size (fun k => some k ≠ v7.ownBlock) v8 a8
  g : Below w3.heap.size w3 wr
theorem own_lt {w : World} {e base : Nat} {ok : Nat → Prop} {v : Value} {xs : List Int} (h : Kd.R (Kd.int .u8) e w base ok v xs) (k : Nat) (hk : v.ownBlock = some k) : k < w.heap.size := ((Kd.R_bound h).1 k hk).2.2.1
theorem keep_other {w3 wr w4 : World} {v7 v7' v8 : Value} {a8 : List Int} (h : Kd.R (Kd.int .u8) 5 wr w3.heap.size (fun k => some k ≠ v7.ownBlock) v8 a8) (hg : wr.grownBy w4 v7.ownBlock) (hat : v7'.ownBlock = v7.ownBlock ∨ ∃ b, v7'.ownBlock = some b ∧ wr.heap.size ≤ b) : Kd.R (Kd.int .u8) 5 w4 w3.heap.size (fun k => some k ≠ v7'.ownBlock) v8 a8 := by
  refine Kd.R_mono (Kd.R_step (Kd.R_bound h) (fun k hk hlt => hg.block k hlt hk.1)) (fun k hk => ?_)
  rcases hat with e | ⟨b, e, hb⟩
  · rw [e]; exact hk.1
  · rw [e]
    intro e2
    have := Option.some.inj e2
    have := hk.2.2.1
    omega
theorem Two.first {w3 wr w4 : World} {v7 v8 v7' : Value} {a7 a8 a7' : List Int} (h : Two w3 v7 v8 a7 a8 wr) (hr : Kd.R (Kd.int .u8) 5 w4 w3.heap.size (fun k => some k ≠ v8.ownBlock) v7' a7') (hb : Below w3.heap.size w3 w4) (hg : wr.grownBy w4 v7.ownBlock) (hat : v7'.ownBlock = v7.ownBlock ∨ ∃ b, v7'.ownBlock = some b ∧ wr.heap.size ≤ b) : Two w3 v7' v8 a7' a8 w4 :=
  ⟨hr, keep_other h.r8 hg hat, hb⟩
theorem Two.below {w3 wr w4 : World} {v7 v8 : Value} {a7 a8 : List Int} (h : Two w3 v7 v8 a7 a8 wr) (hb : Below wr.heap.size wr w4) : Two w3 v7 v8 a7 a8 w4 :=
  ⟨Kd.R_step h.r7 (fun k _ hk => hb.block k hk), Kd.R_step h.r8 (fun k _ hk => hb.block k hk), below_then h.g h.g.size hb⟩
end Sh
end Go.Proofs.YtabdnlecpndfjaaDoor
set_option linter.unusedVariables false
set_option linter.unusedSimpArgs false
namespace Go.Proofs.YtabdnlecpndfjaaDoor
open Go.RowKit Go.Proofs.YtabdnlecpndfjaaDoor.PBase Go.Proofs.YtabdnlecpndfjaaDoorW.PrintWords Go.Proofs.YtabdnlecpndfjaaDoorW.PrintLast Go.Proofs.YtabdnlecpndfjaaDoorW.PrintMore
namespace Sh
theorem one_rows {W : World} {b c : Nat} {A : Option Addr} {l : List Int} (hw : W.cell? ⟨b, 0, none⟩ = some (.slice A l.length c)) (hc : l.length ≤ c) (hb : Bytes l) (hC : Kd.C (Kd.int .u8) W A l.length l) : Rows W (some ⟨b, 0, none⟩) 1 (fun _ => l) (fun _ => A) (fun _ => c) := fun i hi => by
  obtain rfl : i = 0 := by omega
  refine ⟨_, rfl, ?_, hc, hb, hC⟩
  rw [Addr.add_zero']
  exact hw
theorem cat_one (l : List Int) (i : Nat) (hi : i ≤ 1) : (cat (fun _ => l) i).length ≤ l.length := by
  rcases (show i = 0 ∨ i = 1 by omega) with rfl | rfl
  · simp [cat]
  · simp [cat]
theorem of1_ {A0 A1 : Option Addr} {c0 c1 n0 n1 : Nat} {key b : List Int} {D : Array Value} {W : World} {bs : Nat} (hk : Ks W) (h0 : Kd.C (Kd.int .u8) W A0 key.length key) (hn0 : key.length = n0) (hc0 : n0 ≤ c0) (hy0 : Bytes key) (hl0 : n0 ≤ 1099510000000) (h1 : Kd.C (Kd.int .u8) W A1 b.length b) (hn1 : b.length = n1) (hc1 : n1 ≤ c1) (hy1 : Bytes b) (hl1 : n1 ≤ 1099510000000)
    (hcell : W.cell? ⟨bs, 0, none⟩ = some (.slice A1 n1 c1)) (hD : u8s (hm key b) = D) : Calls Tryd.prog 25 #[.slice A0 n0 c0, .slice (some ⟨bs, 0, none⟩) 1 1] W fun e w' => e = .returned (.agg D) ∧ Below W.heap.size W w' := by
  subst hn0; subst hn1; subst hD
  exact of_.calls A0 c0 key (some ⟨bs, 0, none⟩) 1 1 (fun _ => b) (fun _ => A1) (fun _ => c1) W hk h0 hc0 hy0 hl0 (by decide) (one_rows hcell hc1 hy1 h1) (fun i hi => Nat.le_trans (cat_one b i hi) hl1)
theorem tag_reads {W : World} {b : Nat} {key bd : List Int} {D : Array Value} {t : TypeId} (hD : u8s (hm key bd) = D) (h : W.heap[b]? = some (.cells D t (0, 0))) : Kd.C (Kd.int .u8) W (some ⟨b, 0, none⟩) 32 (hm key bd) := by
  have := Lit.reads_block h .u8 (hm key bd) (by rw [← hD]; simp [u8s]) (by unfold hm; rw [dig_length]; decide)
  rwa [show (hm key bd).length = 32 from dig_length _] at this
theorem tag_info {key bd : List Int} {D : Array Value} (hD : u8s (hm key bd) = D) : (Tryd.prog.info? 59).map (·.size) = some D.size ∧ (u8s (List.replicate 32 0)).size = D.size ∧ D.all (·.oneCell') = true := by
  subst hD
  exact ⟨dig_info _, dig_zeros _, dig_one _⟩
end Sh
namespace Ps
theorem sizeTk : (Tryd.prog.info? 26).map (·.size) = some 4 := by kernel_rfl
abbrev tkc (t : Tk) : List Value := [.int .u32 t.1, .int .u32 t.2.1, .bool t.2.2.1, .int .u64 t.2.2.2]
theorem write_ {A : Option Addr} {n c : Nat} {l : List Int} {W : World} (h : Kd.C (Kd.int .u8) W A l.length l) (hn : l.length = n) (hc : n ≤ c) (hm : n ≤ 1099511627776) (hb : Sh.Bytes l) :
    Calls Tryd.prog 26 #[.slice A n c] W fun e w' => e = .returned (.string (txt l)) ∧ Below W.heap.size W w' := by
  subst hn
  exact spell_Write.calls A c l _ W h hc (Sp.write_is l hm hb)
end Ps
set_option maxHeartbeats 1600000 in
set_option maxRecDepth 100000 in
theorem issue_.calls (A0 : Option Addr) (n0 c0 : Nat) (key : List Int) (a b : Int) (ro : Bool) (d : Int) (w : World) (hk : Sh.Ks w) (hr : Kd.C (Kd.int .u8) w A0 key.length key) (hn : key.length = n0) (hc : n0 ≤ c0) (hby : Sh.Bytes key) (hl : n0 ≤ 1099510000000) (hw : Ps.TkWf (a, b, ro, d)) :
    Calls Tryd.prog 11 #[.slice A0 n0 c0, .agg #[.int .u32 a, .int .u32 b, .bool ro, .int .u64 d]] w fun e w' => e = .returned (.string (Ps.iss key (a, b, ro, d))) ∧ Below w.heap.size w w' := by
  have HR := Aside0.mk hr
  have HK := Aside0.mk hk
  have HBY := Aside0.mk hby
  have HN := Aside0.mk hn
  have HW := Aside0.mk hw
  clear hr hk hby hn hw
  go_enter Tryd.func11, Tryd.ntmps11
  obtain ⟨b0, HB0⟩ : ∃ b, Aside0 (w.heap.size = b) := ⟨_, ⟨rfl⟩⟩
  have hrun : (Instr.loadAt 26 (.pointer (some ⟨w.heap.size, 0, none⟩))).run Tryd.prog (w.alloc (.cells #[.int .u32 a, .int .u32 b, .bool ro, .int .u64 d] 26)) = .ok (.agg #[.int .u32 a, .int .u32 b, .bool ro, .int .u64 d]) (w.alloc (.cells #[.int .u32 a, .int .u32 b, .bool ro, .int .u64 d] 26)) := Wk.run_load_blk (P := Tryd.prog) 26 w.heap.size 0 (Ps.tkc (a, b, ro, d)) _ (Wk.Blk.new w 26 (Ps.tkc (a, b, ro, d))) rfl Tryd.underlying26 rfl Ps.sizeTk
  go_wp2_with (refine Wk.load rfl 26 (.tmp 3) rfl _ (.pointer (some ⟨w.heap.size, 0, none⟩)) rfl hrun ?_)
  generalize hWq : World.alloc w _ = W1
  have HB1 : Aside0 (Below w.heap.size w W1) := ⟨by rw [← hWq]; exact below_alloc (Below.refl _ _) _⟩
  clear hWq hrun
  refine (pass_body.calls 10 a b ro d _ W1 (Ps.body_is 10 (by decide) (a, b, ro, d) HW.out)).mono ?_
  rintro e w2 ⟨v2, rfl, hR2, hb2⟩
  obtain ⟨A2, c2, rfl⟩ := Kd.R_slice hR2
  obtain ⟨_, hc2, hC2⟩ : ∃ _ : True, (Ps.body (a, b, ro, d)).length ≤ c2 ∧ Kd.C (Kd.int .u8) w2 A2 (Ps.body (a, b, ro, d)).length (Ps.body (a, b, ro, d)) := by
    obtain ⟨A', c', he, h1, h2⟩ := Kd.R_reads hR2
    injection he with e1 e2 e3
    subst e1; subst e3
    exact ⟨trivial, h1, h2⟩
  obtain ⟨bd, HBD⟩ : ∃ l, Aside0 (Ps.body (a, b, ro, d) = l) := ⟨_, ⟨rfl⟩⟩
  obtain ⟨n2, HN2⟩ : ∃ n, Aside0 (bd.length = n) := ⟨_, ⟨rfl⟩⟩
  have HL2 : Aside0 (n2 = 18) := ⟨by rw [← HN2.out, ← HBD.out]; exact Ps.body_len _⟩
  have HBB : Aside0 (Sh.Bytes bd) := ⟨by rw [← HBD.out]; exact Ps.body_bytes _⟩
  rw [HBD.out, HN2.out] at hR2 hc2 ⊢
  rw [HBD.out] at hC2
  have HR2 := Aside0.mk (Kd.R_lower hR2 HB1.out.size)
  have HC2 := Aside0.mk hC2
  have HCL := Aside0.mk hc2
  have HB2 := Aside0.mk (below_then HB1.out HB1.out.size hb2)
  clear hR2 hC2 hb2 hc2 HB1
  go_wp2_with fail
  generalize hWq : World.alloc w2 _ = W3
  have hcell : W3.cell? ⟨w2.heap.size, 0, none⟩ = some (.slice A2 n2 c2) := by rw [← hWq]; exact Lit.cell_new w2 #[.slice A2 n2 c2] 22 (0, 0) 0
  have HB3' : Aside0 (Below w2.heap.size w2 W3) := ⟨by rw [← hWq]; exact below_alloc (Below.refl _ _) _⟩
  have HB3 : Aside0 (Below w.heap.size w W3) := ⟨below_then HB2.out HB2.out.size HB3'.out⟩
  have HR3 := Aside0.mk (Kd.R_below HR2.out HB3'.out)
  have HC3 := Aside0.mk (Kd.C_below HC2.out HB3'.out)
  obtain ⟨bs, HBS⟩ : ∃ b, Aside0 (w2.heap.size = b) := ⟨_, ⟨rfl⟩⟩
  rw [HBS.out] at hcell ⊢
  have HCELL := Aside0.mk hcell
  clear hWq hcell HB2 HR2 HC2 HB3' HBS
  obtain ⟨D, HDD⟩ : ∃ D, Aside0 (Sh.u8s (Sh.hm key bd) = D) := ⟨_, ⟨rfl⟩⟩
  refine (Sh.of1_ (HK.out.below HB3.out) (Kd.C_below HR.out HB3.out) HN.out hc HBY.out hl HC3.out HN2.out HCL.out HBB.out (by rw [HL2.out]; decide) HCELL.out HDD.out).mono ?_
  rintro e w4 ⟨rfl, hb4⟩
  have HB4 := Aside0.mk (below_then HB3.out HB3.out.size hb4)
  have HR4 := Aside0.mk (Kd.R_below HR3.out hb4)
  have HIF := Aside0.mk (Sh.tag_info HDD.out)
  have HX4 := Aside0.mk (Sh.store_new w4 D)
  have HO4 : Aside0 ((w4.alloc (.cells (Sh.u8s (List.replicate 32 0)) 59)).heap[w4.heap.size]? = some (.cells (Sh.u8s (List.replicate 32 0)) 59 (0, 0))) := ⟨heap_alloc_new w4 _⟩
  clear hb4 HB3 HR3 HC3 HCELL
  go_wp2_with (first
    | (refine wpList_store_row rfl 59 (.tmp 6) (.tmp 12) rfl w4.heap.size D rfl rfl 59 _ HO4.out HIF.out.1 HIF.out.2.1 HIF.out.2.2 ?_; generalize hWq : World.setRow _ w4.heap.size D = W5; have HX5 : Aside0 (W5.heap[w4.heap.size]? = some (.cells D 59 (0, 0)) ∧ Below w4.heap.size w4 W5) := ⟨by rw [← hWq]; exact HX4.out⟩; have HB5 := Aside0.mk (below_then HB4.out HB4.out.size HX5.out.2); have HR5 := Aside0.mk (Kd.R_below HR4.out HX5.out.2); have HC5 := Aside0.mk (Sh.tag_reads HDD.out HX5.out.1); have hs5 := Sh.slice_all32 w4.heap.size; clear hWq)
    | (at_builtin; refine Kd.R_append_rows (Kd.int .u8) (w0 := w) w.heap.size rfl (.tmp 13) (.tmp 14) 22 5 (.int .u8 0) 1 rfl Tryd.underlying22 Bld.infoByte rfl (by decide) (by omega) (.slice A2 n2 c2) bd (Sh.hm key bd) (some ⟨w4.heap.size, 0, none⟩) 32 32 (fun _ => True) (fun _ => False) rfl rfl HR5.out HC5.out (fun _ _ h => h) (fun _ h => h.elim) (fun _ _ => trivial) HB5.out HB5.out.size (by rw [HN2.out, HL2.out]; decide) ?_; intro v6 w6 ho hb hg _; have HR6 := Aside0.mk ho; have HB6 := Aside0.mk hb; clear ho hb hg))
  have hL6 : (bd ++ Sh.hm key bd).length = 50 := by rw [List.length_append, HN2.out, HL2.out, Ps.hm_len]
  obtain ⟨A6, c6, rfl, hc6, hC6⟩ : ∃ A c, v6 = .slice A 50 c ∧ 50 ≤ c ∧ Kd.C (Kd.int .u8) w6 A (bd ++ Sh.hm key bd).length (bd ++ Sh.hm key bd) := by
    obtain ⟨A', c', he, h1, h2⟩ := Kd.R_reads HR6.out
    exact ⟨A', c', by rw [he, hL6], by omega, h2⟩
  refine (Ps.write_ hC6 hL6 hc6 (by decide) (Sh.app_bytes HBB.out (Ps.hm_bytes _ _))).mono ?_
  rintro e w7 ⟨rfl, hb7⟩
  have HB7 := Aside0.mk (below_then HB6.out HB6.out.size hb7)
  have HT : Aside0 (Ps.txt (bd ++ Sh.hm key bd) = Ps.iss key (a, b, ro, d)) := ⟨by unfold Ps.iss Ps.sealed; rw [HBD.out]⟩
  rw [HT.out]
  clear hb7 hC6 hL6
  go_wp2_with fail
  go_ret
  exact ⟨rfl, HB7.out⟩
end Go.Proofs.YtabdnlecpndfjaaDoor
set_option linter.unusedVariables false
set_option linter.unusedSimpArgs false
namespace Go.Proofs.YtabdnlecpndfjaaDoor
open Go.RowKit Go.Proofs.YtabdnlecpndfjaaDoorW.PrintWords Go.Proofs.YtabdnlecpndfjaaDoorW.PrintLast
namespace Cl
theorem infoByte : (Tryd.prog.info? 5).map (fun i => (i.zero, i.size, i.bytes)) = some (some (.int .u8 0), 1, 1) := by kernel_rfl
end Cl
def clone_.f (l : List Int) : Option (List Int) := if l.length < 140737488355328 then some l else none
set_option maxHeartbeats 1000000 in
set_option maxRecDepth 100000 in
theorem clone_.calls (A0 : Option Addr) (c0 : Nat) (l0 : List Int) (r : List Int) (w : World) (hr0 : Kd.C (Kd.int .u8) w A0 l0.length l0) (hc0 : l0.length ≤ c0) (h : clone_.f l0 = some r) :
    Calls Tryd.prog 50 #[.slice A0 l0.length c0] w fun e w' => ∃ v0_ : Value, e = .returned (v0_) ∧ Kd.R (Kd.int .u8) 5 w' w.heap.size (fun _ => True) v0_ r ∧ Below w.heap.size w w' := by
  have HL : Aside0 (l0.length < 140737488355328 ∧ l0 = r) := ⟨by
    unfold clone_.f at h
    by_cases c : l0.length < 140737488355328
    · rw [if_pos c] at h; exact ⟨c, Option.some.inj h⟩
    · rw [if_neg c] at h; cases h⟩
  clear h
  have HR0 := Aside0.mk hr0
  have heq := fun (w : World) => Lib.run_eql_slice_nil (P := Tryd.prog) w 22 5 A0 l0.length c0 0 0 Tryd.underlying22
  cases A0 with
  | none =>
    have HE : Aside0 (l0 = []) := ⟨by
      rcases Nat.eq_zero_or_pos l0.length with h0 | h0
      · exact List.eq_nil_of_length_eq_zero h0
      · obtain ⟨ad, e, _⟩ := hr0.2.2 h0; cases e⟩
    clear hr0
    go_enter Tryd.func50, Tryd.ntmps50
    go_wp2_with fail
    go_ret
    refine ⟨_, rfl, ?_, Below.refl _ _⟩
    rw [← HL.out.2, HE.out]
    exact Kd.R_nil _ _ _ _ _
  | some ad =>
    clear hr0
    go_enter Tryd.func50, Tryd.ntmps50
    have HM := Aside0.mk (World.ownsRow_made (base := w.heap.size) (e := 5) (size := 1) w #[] 0 (Nat.le_refl _) (by unfold maxLen; omega) rfl)
    go_wp2_with (at_builtin; refine Kd.R_append_rows (Kd.int .u8) (w0 := w) w.heap.size rfl (.tmp 5) (.tmp 6) 22 5 (.int .u8 0) 1 rfl Tryd.underlying22 Cl.infoByte rfl (by decide) (by omega) (.slice (some ⟨w.heap.size, 0, none⟩) 0 0) ([] : List Int) l0 _ _ _ (fun _ => True) (fun _ => False) rfl rfl ?aO ?aR (fun _ _ h => h) (fun _ h => h.elim) (fun _ _ => trivial) ?aB ?aS ?aL ?_)
    case aO => exact Kd.R_of_own HM.out (fun _ _ => trivial)
    case aR => exact Kd.C_below HR0.out (below_alloc (Below.refl _ _) _)
    case aB => exact below_alloc (Below.refl _ _) _
    case aS => simp
    case aL => have := HL.out.1; simp; omega
    intro v1 w1 ho hb _ _
    have HO := Aside0.mk ho
    have HB := Aside0.mk hb
    clear ho hb
    go_wp2_with fail
    go_ret
    refine ⟨_, rfl, ?_, HB.out⟩
    rw [← HL.out.2]
    exact HO.out
end Go.Proofs.YtabdnlecpndfjaaDoor
set_option linter.unusedVariables false
set_option linter.unusedSimpArgs false
namespace Go.Proofs.YtabdnlecpndfjaaDoor
open Go.RowKit Go.Proofs.YtabdnlecpndfjaaDoorW.PrintWords Go.Proofs.YtabdnlecpndfjaaDoorW.PrintLast
namespace Cl32
theorem infoByte : (Tryd.prog.info? 23).map (fun i => (i.zero, i.size, i.bytes)) = some (some (.int .u32 0), 1, 4) := by kernel_rfl
end Cl32
def clone32_.f (l : List Int) : Option (List Int) := if l.length < 1099511627776 then some l else none
set_option maxHeartbeats 1000000 in
set_option maxRecDepth 100000 in
theorem clone32_.calls (A0 : Option Addr) (c0 : Nat) (l0 : List Int) (r : List Int) (w : World) (hr0 : Kd.C (Kd.int .u32) w A0 l0.length l0) (hc0 : l0.length ≤ c0) (h : clone32_.f l0 = some r) :
    Calls Tryd.prog 51 #[.slice A0 l0.length c0] w fun e w' => ∃ v0_ : Value, e = .returned (v0_) ∧ Kd.R (Kd.int .u32) 23 w' w.heap.size (fun _ => True) v0_ r ∧ Below w.heap.size w w' := by
  have HL : Aside0 (l0.length < 1099511627776 ∧ l0 = r) := ⟨by
    unfold clone32_.f at h
    by_cases c : l0.length < 1099511627776
    · rw [if_pos c] at h; exact ⟨c, Option.some.inj h⟩
    · rw [if_neg c] at h; cases h⟩
  clear h
  have HR0 := Aside0.mk hr0
  have heq := fun (w : World) => Lib.run_eql_slice_nil (P := Tryd.prog) w 37 23 A0 l0.length c0 0 0 Tryd.underlying37
  cases A0 with
  | none =>
    have HE : Aside0 (l0 = []) := ⟨by
      rcases Nat.eq_zero_or_pos l0.length with h0 | h0
      · exact List.eq_nil_of_length_eq_zero h0
      · obtain ⟨ad, e, _⟩ := hr0.2.2 h0; cases e⟩
    clear hr0
    go_enter Tryd.func51, Tryd.ntmps51
    go_wp2_with fail
    go_ret
    refine ⟨_, rfl, ?_, Below.refl _ _⟩
    rw [← HL.out.2, HE.out]
    exact Kd.R_nil _ _ _ _ _
  | some ad =>
    clear hr0
    go_enter Tryd.func51, Tryd.ntmps51
    have HM := Aside0.mk (World.ownsRow_made (base := w.heap.size) (e := 23) (size := 1) w #[] 0 (Nat.le_refl _) (by unfold maxLen; omega) rfl)
    go_wp2_with (at_builtin; refine Kd.R_append_rows (Kd.int .u32) (w0 := w) w.heap.size rfl (.tmp 5) (.tmp 6) 37 23 (.int .u32 0) 4 rfl Tryd.underlying37 Cl32.infoByte rfl (by decide) (by omega) (.slice (some ⟨w.heap.size, 0, none⟩) 0 0) ([] : List Int) l0 _ _ _ (fun _ => True) (fun _ => False) rfl rfl ?aO ?aR (fun _ _ h => h) (fun _ h => h.elim) (fun _ _ => trivial) ?aB ?aS ?aL ?_)
    case aO => exact Kd.R_of_own HM.out (fun _ _ => trivial)
    case aR => exact Kd.C_below HR0.out (below_alloc (Below.refl _ _) _)
    case aB => exact below_alloc (Below.refl _ _) _
    case aS => simp
    case aL => have := HL.out.1; simp; omega
    intro v1 w1 ho hb _ _
    have HO := Aside0.mk ho
    have HB := Aside0.mk hb
    clear ho hb
    go_wp2_with fail
    go_ret
    refine ⟨_, rfl, ?_, HB.out⟩
    rw [← HL.out.2]
    exact HO.out
end Go.Proofs.YtabdnlecpndfjaaDoor
set_option linter.unusedVariables false
set_option linter.unusedSimpArgs false
namespace Go.Proofs.YtabdnlecpndfjaaDoor
open Go.RowKit Go.Proofs.YtabdnlecpndfjaaDoor.PBase Go.Proofs.YtabdnlecpndfjaaDoorW.PrintWords Go.Proofs.YtabdnlecpndfjaaDoorW.PrintLast Go.Proofs.YtabdnlecpndfjaaDoorW.PrintMore
namespace Ps
theorem sizeSl : (Tryd.prog.info? 22).map (·.size) = some 1 := by kernel_rfl
theorem sizeSm : (Tryd.prog.info? 37).map (·.size) = some 1 := by kernel_rfl
abbrev tv (i q s : Int) (v0 v1 : Value) : List Value := [.int .u32 i, v0, .int .u64 q, .int .u64 s, v1]
end Ps
set_option maxHeartbeats 2000000 in
set_option maxRecDepth 100000 in
theorem lent_.calls (i q s : Int) (A0 : Option Addr) (n0 c0 : Nat) (l0 : List Int) (A1 : Option Addr) (n1 c1 : Nat) (l1 : List Int) (w : World) (h0 : Kd.C (Kd.int .u8) w A0 l0.length l0) (hn0 : l0.length = n0) (hc0 : n0 ≤ c0) (hm0 : n0 < 140737488355328) (h1 : Kd.C (Kd.int .u32) w A1 l1.length l1) (hn1 : l1.length = n1) (hc1 : n1 ≤ c1) (hm1 : n1 < 1099511627776) :
    Calls Tryd.prog 34 #[.agg #[.int .u32 i, .slice A0 n0 c0, .int .u64 q, .int .u64 s, .slice A1 n1 c1]] w fun e w' => ∃ A2 c2 A3 c3, e = .returned (.agg #[.int .u32 i, .slice A2 n0 c2, .int .u64 q, .int .u64 s, .slice A3 n1 c3]) ∧ n0 ≤ c2 ∧ n1 ≤ c3 ∧ Kd.R (Kd.int .u8) 5 w' w.heap.size (fun _ => True) (.slice A2 n0 c2) l0 ∧ Kd.R (Kd.int .u32) 23 w' w.heap.size (fun _ => True) (.slice A3 n1 c3) l1 ∧ Below w.heap.size w w' := by
  have H0 := Aside0.mk h0
  have H1 := Aside0.mk h1
  have HN0 := Aside0.mk hn0
  have HN1 := Aside0.mk hn1
  have HM0 := Aside0.mk hm0
  have HM1 := Aside0.mk hm1
  clear h0 h1 hn0 hn1 hm0 hm1
  go_enter Tryd.func34, Tryd.ntmps34
  go_wp2_with fail
  generalize hWq : World.alloc (World.alloc w _) _ = W0
  have HB0 : Aside0 (Below w.heap.size w W0) := ⟨by rw [← hWq]; exact below_alloc (below_alloc (Below.refl _ _) _) _⟩
  have HX0 : Aside0 (Wk.Blk W0 w.heap.size 42 (Ps.tv i q s (.slice A0 n0 c0) (.slice A1 n1 c1))) := ⟨by rw [← hWq]; exact (Wk.Blk.new w _ (Ps.tv i q s (.slice A0 n0 c0) (.slice A1 n1 c1))).alloc _⟩
  have HY0 : Aside0 (Wk.Blk W0 (w.heap.size + 1) 42 Ps.z5) := ⟨by rw [← hWq]; exact ⟨heap_alloc2_new w _ _⟩⟩
  have HSL := Aside0.mk Ps.sizeSl
  have HSM := Aside0.mk Ps.sizeSm
  have HSZ := Aside0.mk Ps.sizeTn
  clear hWq
  refine wp_region_noPanic ?_
  refine start_ (n := 10) (S := (fun w' => Below W0.heap.size W0 w')) (ds := [7, 9]) #[false, false, false, false, false, false, false, false, false, false] (by kernel_rfl) rfl rfl (Below.refl _ _).drew (fun hHeld => ?_)
  refine pure_ (i := 0) (N := (some 3)) (v := ?_) (a' := ?_) #[true, false, false, false, false, false, false, false, false, false] rfl rfl (by kernel_rfl) (fun _ _ _ h => h) (Or.inl ⟨by rfl, ?_⟩) ?_ ?_
  rotate_left
  · intro w'
    go_simp
    with_reducible rfl
  rotate_left
  · simp only [Act.put, List.setIfInBounds_toArray, List.set_cons_zero, List.set_cons_succ]
    rfl
  refine take_ (i := 1) (N := (some 4)) (v := ?_) (a' := ?_) #[true, true, false, false, false, false, false, false, false, false] rfl rfl (by kernel_rfl) (fun _ _ _ h => h) (Or.inl ⟨by rfl, ?_⟩) hHeld ?_ ?_
  rotate_left
  · intro w' hS'
    (have c1 := (HX0.out.below_ hS').at_ 1 rfl; go_simp)
    with_reducible rfl
  rotate_left
  · simp only [Act.put, List.setIfInBounds_toArray, List.set_cons_zero, List.set_cons_succ]
    rfl
  refine pure_ (i := 3) (N := (some 6)) (v := ?_) (a' := ?_) #[true, true, false, true, false, false, false, false, false, false] rfl rfl (by kernel_rfl) (fun _ _ _ h => h) (Or.inl ⟨by rfl, ?_⟩) ?_ ?_
  rotate_left
  · intro w'
    go_simp
    with_reducible rfl
  rotate_left
  · simp only [Act.put, List.setIfInBounds_toArray, List.set_cons_zero, List.set_cons_succ]
    rfl
  refine take_ (i := 4) (N := (some 7)) (v := ?_) (a' := ?_) #[true, true, false, true, true, false, false, false, false, false] rfl rfl (by kernel_rfl) (fun _ _ _ h => h) (Or.inl ⟨by rfl, ?_⟩) hHeld ?_ ?_
  rotate_left
  · intro w' hS'
    (have c1 := (HX0.out.below_ hS').at_ 4 rfl; go_simp)
    with_reducible rfl
  rotate_left
  · simp only [Act.put, List.setIfInBounds_toArray, List.set_cons_zero, List.set_cons_succ]
    rfl
  refine one_ (i := 2) (N := (some 5)) #[true, true, true, true, true, false, false, false, false, false] rfl rfl (by kernel_rfl) (by decide) (fun K hK => ?_)
  refine call_ 50 #[.slice A0 n0 c0] (by rfl) rfl (by go_simp) ?_
  have HCC := clone_.calls A0 c0 l0 l0 W0.drew (Kd.C_below H0.out (below_drew HB0.out)) (by rw [HN0.out]; exact hc0) (by unfold clone_.f; rw [if_pos (by rw [HN0.out]; exact HM0.out)])
  rw [HN0.out] at HCC
  refine HCC.mono ?_
  rintro e w2 ⟨v2, rfl, rv, bv⟩
  obtain ⟨A2, c2, rfl⟩ := Kd.R_slice rv
  rw [HN0.out] at rv ⊢
  have HV2 := Aside0.mk rv
  have HB2 := Aside0.mk (below_then hHeld hHeld.size bv)
  clear rv bv HCC
  refine ⟨_, rfl, ?_⟩
  refine hK.out _ _ HB2.out (fun hHeld => ?_)
  clear hK K
  refine norm_ (a' := ?_) ?_ ?_
  rotate_left
  · show Act.put _ (some 5) _ = _
    simp only [Act.put, List.setIfInBounds_toArray, List.set_cons_zero, List.set_cons_succ]
    rfl
  refine pure_ (i := 6) (N := (some 9)) (v := ?_) (a' := ?_) #[true, true, true, true, true, false, true, false, false, false] rfl rfl (by kernel_rfl) (fun _ _ _ h => h) (Or.inl ⟨by rfl, ?_⟩) ?_ ?_
  rotate_left
  · intro w'
    go_simp
    with_reducible rfl
  rotate_left
  · simp only [Act.put, List.setIfInBounds_toArray, List.set_cons_zero, List.set_cons_succ]
    rfl
  refine one_ (i := 5) (N := (some 8)) #[true, true, true, true, true, true, true, false, false, false] rfl rfl (by kernel_rfl) (by decide) (fun K hK => ?_)
  refine call_ 51 #[.slice A1 n1 c1] (by rfl) rfl (by go_simp) ?_
  have HCC := clone32_.calls A1 c1 l1 l1 w2 (Kd.C_below H1.out (below_then HB0.out HB0.out.size HB2.out)) (by rw [HN1.out]; exact hc1) (by unfold clone32_.f; rw [if_pos (by rw [HN1.out]; exact HM1.out)])
  rw [HN1.out] at HCC
  refine HCC.mono ?_
  rintro e w3 ⟨v3, rfl, rv, bv⟩
  obtain ⟨A3, c3, rfl⟩ := Kd.R_slice rv
  rw [HN1.out] at rv ⊢
  have HV3 := Aside0.mk rv
  have HU3 := Aside0.mk (Kd.R_below HV2.out bv)
  have HB3 := Aside0.mk (below_then hHeld hHeld.size bv)
  clear rv bv HCC
  refine ⟨_, rfl, ?_⟩
  refine hK.out _ _ HB3.out (fun hHeld => ?_)
  clear hK K
  refine norm_ (a' := ?_) ?_ ?_
  rotate_left
  · show Act.put _ (some 8) _ = _
    simp only [Act.put, List.setIfInBounds_toArray, List.set_cons_zero, List.set_cons_succ]
    rfl
  refine last_ (i := 7) (N := none) #[true, true, true, true, true, true, true, true, false, false] rfl rfl (by kernel_rfl) (by decide) (fun K hK => ?_)
  refine Wk.store_step (by rfl) rfl 22 (.tmp 9) (.tmp 5) rfl w.heap.size 1 (.slice A2 n0 c2) [.slice A2 n0 c2] rfl rfl rfl 42 _ (HX0.out.below_ hHeld) HSL.out (Nat.le_of_ble_eq_true rfl) rfl ?_
  intro w4 hX hO
  have HX4 := Aside0.mk (show Wk.Blk w4 w.heap.size 42 (Ps.tv i q s (.slice A2 n0 c2) (.slice A1 n1 c1)) from hX)
  have HO4 := Aside0.mk hO
  have HY4 := Aside0.mk ((HY0.out.below_ hHeld).only hO (Nat.ne_of_gt (Nat.lt_succ_self _)))
  clear hX hO
  refine hK.out _ _ ?_
  clear hK K
  refine pure_ (i := 8) (N := (some 10)) (v := ?_) (a' := ?_) #[true, true, true, true, true, true, true, true, true, false] rfl rfl (by kernel_rfl) (fun _ _ _ h => h) (Or.inl ⟨by rfl, ?_⟩) ?_ ?_
  rotate_left
  · intro w'
    go_simp
    with_reducible rfl
  rotate_left
  · simp only [Act.put, List.setIfInBounds_toArray, List.set_cons_zero, List.set_cons_succ]
    rfl
  refine last_ (i := 9) (N := none) #[true, true, true, true, true, true, true, true, true, true] rfl rfl (by kernel_rfl) (by decide) (fun K hK => ?_)
  refine Wk.store_step (by rfl) rfl 37 (.tmp 10) (.tmp 8) rfl w.heap.size 4 (.slice A3 n1 c3) [.slice A3 n1 c3] rfl rfl rfl 42 _ HX4.out HSM.out (Nat.le_of_ble_eq_true rfl) rfl ?_
  intro w5 hX hO
  have HX5 := Aside0.mk (show Wk.Blk w5 w.heap.size 42 (Ps.tv i q s (.slice A2 n0 c2) (.slice A3 n1 c3)) from hX)
  have HO5 := Aside0.mk hO
  have HY5 := Aside0.mk (HY4.out.only hO (Nat.ne_of_gt (Nat.lt_succ_self _)))
  clear hX hO
  refine hK.out _ _ ?_
  clear hK K
  refine done_ (by kernel_rfl) ?_
  refine NoPanic.normal ?_
  go_wp2_with (first
    | refine Wk.load rfl 42 (.tmp 1) rfl (.agg (Ps.tv i q s (.slice A2 n0 c2) (.slice A3 n1 c3)).toArray) (.pointer (some ⟨w.heap.size, 0, none⟩)) rfl (Wk.run_load_blk 42 w.heap.size 0 _ _ HX5.out rfl Tryd.underlying42 rfl HSZ.out) ?_
    | (refine Wk.store_all rfl rfl 42 (.tmp 2) (.tmp 11) rfl (w.heap.size + 1) (Ps.tv i q s (.slice A2 n0 c2) (.slice A3 n1 c3)) rfl rfl 42 _ HY5.out HSZ.out rfl rfl ?_; intro w6 hX hO; have HX := Aside0.mk hX; have HO := Aside0.mk hO; clear hX hO))
  refine bodyPost_ret (Wk.res_c rfl _ (w.heap.size + 1) 42 _ _ rfl HX.out Tryd.underlying42 rfl HSZ.out) rfl ?_
  have hne : ∀ q, q ∈ 5 :: (Kd.int .u8).E → q ≠ 42 := by decide
  have hne' : ∀ q, q ∈ 23 :: (Kd.int .u32).E → q ≠ 42 := by decide
  have hXX := HX0.out.below_ HB3.out
  have hB3 := below_then HB0.out HB0.out.size HB3.out
  have hB4 := Wk.Only.below hB3 HO4.out (Nat.le_refl _)
  have hB5 := Wk.Only.below hB4 HO5.out (Nat.le_refl _)
  have hR := Wk.R_only (Wk.R_only (Wk.R_only HU3.out hXX hne HO4.out) HX4.out hne HO5.out) HY5.out hne HO.out
  have hR' := Wk.R_only (Wk.R_only (Wk.R_only HV3.out hXX hne' HO4.out) HX4.out hne' HO5.out) HY5.out hne' HO.out
  have c2' : n0 ≤ c2 := by
    obtain ⟨A', c', he, h1, _⟩ := Kd.R_reads hR
    injection he with e1 e2 e3
    omega
  have c3' : n1 ≤ c3 := by
    obtain ⟨A', c', he, h1, _⟩ := Kd.R_reads hR'
    injection he with e1 e2 e3
    omega
  exact ⟨A2, c2, A3, c3, rfl, c2', c3', Kd.R_lower hR HB0.out.size, Kd.R_lower hR' (Nat.le_trans HB0.out.size HB2.out.size), Wk.Only.below hB5 HO.out (Nat.le_succ _)⟩
end Go.Proofs.YtabdnlecpndfjaaDoor
set_option linter.unusedVariables false
set_option linter.unusedSimpArgs false
namespace Go.Proofs.YtabdnlecpndfjaaDoor
open Go.RowKit Go.Proofs.YtabdnlecpndfjaaDoor.PBase Go.Proofs.YtabdnlecpndfjaaDoorW.PrintWords Go.Proofs.YtabdnlecpndfjaaDoorW.PrintLast Go.Proofs.YtabdnlecpndfjaaDoorW.PrintMore
namespace Ps
def NewPost (w : World) (n : Nat) (l : List Tn) (e : Ending) (w' : World) : Prop :=
  Below w.heap.size w w' ∧ ((64 < n ∧ e = .returned (.tuple #[.pointer none, .int .u16 3])) ∨ (n ≤ 64 ∧ good [] l = false ∧ e = .returned (.tuple #[.pointer none, .int .u16 1])) ∨ (n ≤ 64 ∧ good [] l = true ∧ ∃ p, e = .returned (.tuple #[.pointer (some ⟨p, 0, none⟩), .int .u16 0]) ∧ Tb w' w.heap.size p l))
theorem sizeTab : (Tryd.prog.info? 71).map (·.size) = some 1 := by kernel_rfl
theorem good_step (acc xs : List Tn) (x : Tn) (h : find acc x.f0 = none) (hk : 0 < x.f1.length) : good acc (x :: xs) = good (acc ++ [x]) xs := by
  rw [good, h]
  simp [hk]
theorem good_there (acc xs : List Tn) (x : Tn) {y : Tn} (h : find acc x.f0 = some y) : good acc (x :: xs) = false := by
  rw [good, h]
  simp
theorem good_bare (acc xs : List Tn) (x : Tn) (hk : x.f1.length = 0) : good acc (x :: xs) = false := by
  rw [good, hk]
  simp
end Ps
set_option maxHeartbeats 3000000 in
set_option maxRecDepth 100000 in
theorem new_pass.calls (A : Option Addr) (n c : Nat) (l : List Ps.Tn) (w : World) (hC : Ps.kTn.C w A l.length l) (hn : l.length = n) (hw : ∀ x ∈ l, Ps.TnWf x) :
    Calls Tryd.prog 15 #[.slice A n c] w (Ps.NewPost w n l) := by
  have HC := Aside0.mk hC
  have HN := Aside0.mk hn
  have HW := Aside0.mk hw
  clear hC hn hw
  go_enter Tryd.func15, Tryd.ntmps15
  have HSZ := Aside0.mk Ps.sizeTn
  have HST := Aside0.mk Ps.sizeTab
  by_cases h64 : 64 < n
  · go_wp2_with fail
    go_ret2
    exact ⟨Below.refl _ _, .inl ⟨h64, rfl⟩⟩
  · have hmm := @run_makeMap Tryd.prog
    go_wp2_with fail
    clear hmm
    obtain ⟨bm, HBM⟩ : ∃ b, Aside0 (w.heap.size = b) := ⟨_, ⟨rfl⟩⟩
    obtain ⟨pt, HPT⟩ : ∃ b, Aside0 (w.heap.size + 1 = b) := ⟨_, ⟨rfl⟩⟩
    generalize hWq : World.alloc (World.alloc w _) _ = W0
    have HT0 : Aside0 (Ps.Tm W0 bm []) := ⟨by rw [← hWq, ← HBM.out]; exact (Ps.Tm.made w).below (below_alloc (Below.refl _ _) _)⟩
    have HP0 : Aside0 (Wk.Blk W0 pt 71 [.map (some bm)]) := ⟨by rw [← hWq, ← HPT.out, ← HBM.out]; exact ⟨heap_alloc2_new w _ _⟩⟩
    have HB0 : Aside0 (Below w.heap.size w W0) := ⟨by rw [← hWq]; exact below_alloc (below_alloc (Below.refl _ _) _) _⟩
    clear hWq
    rw [HPT.out, HBM.out]
    have HBP : Aside0 (w.heap.size ≤ bm ∧ w.heap.size ≤ pt ∧ pt ≠ bm) := ⟨by rw [← HPT.out, ← HBM.out]; omega⟩
    go_loopw [17] (fun v wr => ∃ k : Nat, v = .int .i64 k ∧ k ≤ n ∧ Aside0 (Ps.Tm wr bm (l.take k)) ∧ Aside0 (Wk.Blk wr pt 71 [.map (some bm)]) ∧ Aside0 (Below w.heap.size w wr) ∧ Aside0 (Ps.good (l.take k) (l.drop k) = Ps.good [] l)) (fun v _ => n - (intOf v).toNat)
    case atStart => exact ⟨0, rfl, Nat.zero_le _, HT0, HP0, HB0, ⟨rfl⟩⟩
    case round =>
      clear HT0 HP0 HB0 HBM HPT
      obtain ⟨k, rfl, hk, HT, HP, HB, HG⟩ := hrel
      by_cases hlt : k < n
      · have hki : k < l.length := by rw [HN.out]; exact hlt
        obtain ⟨ad, A0, c0, A1, c1, hA, hld, -, hl0, hl1, g0, g1⟩ := Ps.row_get HC.out k hki rfl
        subst hA
        have HTK := Aside0.mk (List.take_succ_eq_append_getElem hki)
        have HDK := Aside0.mk (List.drop_eq_getElem_cons hki)
        have hwf := HW.out _ (List.getElem_mem hki)
        obtain ⟨x, HX⟩ : ∃ x, Aside0 (l[k] = x) := ⟨_, ⟨rfl⟩⟩
        rw [HX.out] at hld hl0 hl1 g0 g1 HTK HDK hwf
        obtain ⟨i, l0, q, s, l1⟩ := x
        obtain ⟨⟨hi0, hi1⟩, hm0, hm1, hby⟩ := hwf
        change 0 ≤ i at hi0
        change i < 4294967296 at hi1
        change l0.length ≤ 1000 at hm0
        change l1.length ≤ 1000 at hm1
        obtain ⟨n0, HN0⟩ : ∃ n, Aside0 (l0.length = n) := ⟨_, ⟨rfl⟩⟩
        obtain ⟨n1, HN1⟩ : ∃ n, Aside0 (l1.length = n) := ⟨_, ⟨rfl⟩⟩
        simp only [Ps.tnc] at hld hl0 hl1 g0 g1
        rw [HN0.out] at hm0 hl0
        rw [HN1.out] at hm1 hl1
        have HLD : Aside0 (∀ w', Below w.heap.size w w' → (Instr.loadAt 42 (.pointer (some (ad.add (k * 5))))).run Tryd.prog w' = .ok (.agg (Ps.tv i q s (.slice A0 n0 c0) (.slice A1 n1 c1)).toArray) w') := ⟨fun w' hb => by have := hld w' hb; rw [HN0.out, HN1.out] at this; exact this⟩
        have HG0 := Aside0.mk g0
        have HG1 := Aside0.mk g1
        have HBY := Aside0.mk hby
        clear hld g0 g1 hby
        go_wp2_with (first
          | refine Wk.load rfl 42 (.tmp 19) rfl _ (.pointer (some (ad.add (k * 5)))) rfl (HLD.out wr HB.out) ?_
          | (refine Wk.store_all rfl rfl 42 (.tmp 6) (.tmp 20) rfl wr.heap.size (Ps.tv i q s (.slice A0 n0 c0) (.slice A1 n1 c1)) rfl rfl 42 Ps.z5 (Wk.Blk.new wr 42 Ps.z5) HSZ.out rfl rfl ?_; intro w1 hX hO; have HX1 := Aside0.mk hX; have HO1 := Aside0.mk hO; clear hX hO))
        have HF1 := Aside0.mk (Wk.Only.fresh HB.out HB.out.size HO1.out)
        have HT1 := Aside0.mk (HT.out.below HF1.out.2.2)
        have HP1 := Aside0.mk (HP.out.below_ HF1.out.2.2)
        have HLK : Aside0 ((l.take k).length = k) := ⟨by rw [List.length_take]; omega⟩
        clear HT HP HO1
        rcases HT1.out.look i hi0 hi1 with ⟨hf, hlo⟩ | ⟨y, B0, d0, B1, d1, hf, hlo, -⟩
        · have HLO := Aside0.mk hlo
          have HFD := Aside0.mk hf
          clear hlo hf
          refine wp_region_noPanic ?_
          refine start_ (n := 13) (S := (fun w' => Below w1.heap.size w1 w')) (ds := [11]) #[false, false, false, false, false, false, false, false, false, false, false, false, false] (by kernel_rfl) rfl rfl (Below.refl _ _).drew (fun hHeld => ?_)
          refine pure_ (i := 0) (N := (some 22)) (v := ?_) (a' := ?_) #[true, false, false, false, false, false, false, false, false, false, false, false, false] rfl rfl (by kernel_rfl) (fun _ _ _ h => h) (Or.inl ⟨by rfl, ?_⟩) ?_ ?_
          rotate_left
          · intro w'
            go_simp
            with_reducible rfl
          rotate_left
          · simp only [Act.put, List.setIfInBounds_toArray, List.set_cons_zero, List.set_cons_succ]
            rfl
          refine pure_ (i := 1) (N := (some 23)) (v := ?_) (a' := ?_) #[true, true, false, false, false, false, false, false, false, false, false, false, false] rfl rfl (by kernel_rfl) (fun _ _ _ h => h) (Or.inl ⟨by rfl, ?_⟩) ?_ ?_
          rotate_left
          · intro w'
            go_simp
            with_reducible rfl
          rotate_left
          · simp only [Act.put, List.setIfInBounds_toArray, List.set_cons_zero, List.set_cons_succ]
            rfl
          refine pure_ (i := 2) (N := (some 24)) (v := ?_) (a' := ?_) #[true, true, true, false, false, false, false, false, false, false, false, false, false] rfl rfl (by kernel_rfl) (fun _ _ _ h => h) (Or.inl ⟨by rfl, ?_⟩) ?_ ?_
          rotate_left
          · intro w'
            go_simp
            with_reducible rfl
          rotate_left
          · simp only [Act.put, List.setIfInBounds_toArray, List.set_cons_zero, List.set_cons_succ]
            rfl
          refine take_ (i := 3) (N := (some 25)) (v := ?_) (a' := ?_) #[true, true, true, true, false, false, false, false, false, false, false, false, false] rfl rfl (by kernel_rfl) (fun _ _ _ h => h) (Or.inl ⟨by rfl, ?_⟩) hHeld ?_ ?_
          rotate_left
          · intro w' hS'
            (have c1 := (HP1.out.below_ hS').at_ 0 rfl; go_simp)
            with_reducible rfl
          rotate_left
          · simp only [Act.put, List.setIfInBounds_toArray, List.set_cons_zero, List.set_cons_succ]
            rfl
          refine pure_ (i := 4) (N := (some 26)) (v := ?_) (a' := ?_) #[true, true, true, true, true, false, false, false, false, false, false, false, false] rfl rfl (by kernel_rfl) (fun _ _ _ h => h) (Or.inl ⟨by rfl, ?_⟩) ?_ ?_
          rotate_left
          · intro w'
            go_simp
            with_reducible rfl
          rotate_left
          · simp only [Act.put, List.setIfInBounds_toArray, List.set_cons_zero, List.set_cons_succ]
            rfl
          refine take_ (i := 5) (N := (some 27)) (v := ?_) (a' := ?_) #[true, true, true, true, true, true, false, false, false, false, false, false, false] rfl rfl (by kernel_rfl) (fun _ _ _ h => h) (Or.inl ⟨by rfl, ?_⟩) hHeld ?_ ?_
          rotate_left
          · intro w' hS'
            (have c1 := (HX1.out.below_ hS').at_ 0 rfl; go_simp)
            with_reducible rfl
          rotate_left
          · simp only [Act.put, List.setIfInBounds_toArray, List.set_cons_zero, List.set_cons_succ]
            rfl
          refine take_ (i := 6) (N := (some 28)) (v := ?_) (a' := ?_) #[true, true, true, true, true, true, true, false, false, false, false, false, false] rfl rfl (by kernel_rfl) (fun _ _ _ h => h) (Or.inl ⟨by rfl, ?_⟩) hHeld ?_ ?_
          rotate_left
          · intro w' hS'
            (have c1 := HLO.out w' hS'; go_simp)
            with_reducible rfl
          rotate_left
          · simp only [Act.put, List.setIfInBounds_toArray, List.set_cons_zero, List.set_cons_succ]
            rfl
          refine pure_ (i := 7) (N := (some 21)) (v := ?_) (a' := ?_) #[true, true, true, true, true, true, true, true, false, false, false, false, false] rfl rfl (by kernel_rfl) (fun _ _ _ h => h) (Or.inl ⟨by rfl, ?_⟩) ?_ ?_
          rotate_left
          · intro w'
            go_simp
            with_reducible rfl
          rotate_left
          · simp only [Act.put, List.setIfInBounds_toArray, List.set_cons_zero, List.set_cons_succ]
            rfl
          refine pure_ (i := 8) (N := (some 29)) (v := ?_) (a' := ?_) #[true, true, true, true, true, true, true, true, true, false, false, false, false] rfl rfl (by kernel_rfl) (fun _ _ _ h => h) (Or.inl ⟨by rfl, ?_⟩) ?_ ?_
          rotate_left
          · intro w'
            go_simp
            with_reducible rfl
          rotate_left
          · simp only [Act.put, List.setIfInBounds_toArray, List.set_cons_zero, List.set_cons_succ]
            rfl
          refine pure_ (i := 9) (N := (some 30)) (v := ?_) (a' := ?_) #[true, true, true, true, true, true, true, true, true, true, false, false, false] rfl rfl (by kernel_rfl) (fun _ _ _ h => h) (Or.inl ⟨by rfl, ?_⟩) ?_ ?_
          rotate_left
          · intro w'
            go_simp
            with_reducible rfl
          rotate_left
          · simp only [Act.put, List.setIfInBounds_toArray, List.set_cons_zero, List.set_cons_succ]
            rfl
          refine one_ (i := 10) (N := (some 7)) #[true, true, true, true, true, true, true, true, true, true, true, false, false] rfl rfl (by kernel_rfl) (by decide) (fun K hK => ?_)
          refine value_ (w1 := w1.drew.alloc (.cells Ps.z5.toArray 42)) (v := .pointer (some ⟨w1.drew.heap.size, 0, none⟩)) (by rfl) rfl (by go_simp) ?_
          refine hK.out _ _ (hHeld.alloc hHeld.size _) (fun hHeld => ?_)
          clear hK K
          refine norm_ (a' := ?_) ?_ ?_
          rotate_left
          · show Act.put _ (some 7) _ = _
            simp only [Act.put, List.setIfInBounds_toArray, List.set_cons_zero, List.set_cons_succ]
            rfl
          refine last_ (i := 11) (N := none) #[true, true, true, true, true, true, true, true, true, true, true, true, false] rfl rfl (by kernel_rfl) (by decide) (fun K hK => ?_)
          refine Wk.store_all_step (by rfl) rfl 42 (.tmp 7) (.tmp 29) rfl w1.drew.heap.size Ps.z5 rfl rfl 42 Ps.z5 (Wk.Blk.new w1.drew 42 Ps.z5) HSZ.out rfl rfl ?_
          intro w2 hX hO
          have HX2 := Aside0.mk hX
          have HO2 := Aside0.mk hO
          clear hX hO
          refine hK.out _ _ ?_
          clear hK K
          refine pure_ (i := 12) (N := (some 8)) (v := ?_) (a' := ?_) #[true, true, true, true, true, true, true, true, true, true, true, true, true] rfl rfl (by kernel_rfl) (fun _ _ _ h => h) (Or.inl ⟨by rfl, ?_⟩) ?_ ?_
          rotate_left
          · intro w'
            go_simp
            with_reducible rfl
          rotate_left
          · simp only [Act.put, List.setIfInBounds_toArray, List.set_cons_zero, List.set_cons_succ]
            rfl
          refine done_ (by kernel_rfl) ?_
          refine NoPanic.normal ?_
          have HF2 := Aside0.mk (Wk.Only.fresh (w := w1.drew) HF1.out.2.1.drew (Nat.le_trans HF1.out.2.1.size (Nat.le_refl _)) HO2.out)
          have HX12 := Aside0.mk (HX1.out.below_ (Below.trans (Below.refl _ _).drew HF2.out.2.2))
          have HP12 := Aside0.mk (HP1.out.below_ (Below.trans (Below.refl _ _).drew HF2.out.2.2))
          have HT12 := Aside0.mk (HT1.out.below (Below.trans (Below.refl _ _).drew HF2.out.2.2))
          have c1 := HX12.out.at_ 1 rfl
          clear HX1 HP1 HT1 HO2 HX2 hHeld HLO
          by_cases hz : n0 = 0
          · have hzI : (n0 : Int) = 0 := by omega
            go_wp2_with fail
            go_ret2
            refine ⟨HF2.out.2.1, .inr (.inl ⟨by omega, ?_, rfl⟩)⟩
            rw [← HG.out, HDK.out]
            exact Ps.good_bare _ _ _ (by show l0.length = 0; rw [HN0.out]; exact hz)
          · have hzI : ¬ (n0 : Int) = 0 := by omega
            go_wp2_with fail
            clear c1
            refine wp_region_noPanic ?_
            refine start_ (n := 9) (S := (fun w' => Below w2.heap.size w2 w')) (ds := [8]) #[false, false, false, false, false, false, false, false, false] (by kernel_rfl) rfl rfl (Below.refl _ _).drew (fun hHeld => ?_)
            refine pure_ (i := 0) (N := (some 38)) (v := ?_) (a' := ?_) #[true, false, false, false, false, false, false, false, false] rfl rfl (by kernel_rfl) (fun _ _ _ h => h) (Or.inl ⟨by rfl, ?_⟩) ?_ ?_
            rotate_left
            · intro w'
              go_simp
              with_reducible rfl
            rotate_left
            · simp only [Act.put, List.setIfInBounds_toArray, List.set_cons_zero, List.set_cons_succ]
              rfl
            refine pure_ (i := 1) (N := (some 39)) (v := ?_) (a' := ?_) #[true, true, false, false, false, false, false, false, false] rfl rfl (by kernel_rfl) (fun _ _ _ h => h) (Or.inl ⟨by rfl, ?_⟩) ?_ ?_
            rotate_left
            · intro w'
              go_simp
              with_reducible rfl
            rotate_left
            · simp only [Act.put, List.setIfInBounds_toArray, List.set_cons_zero, List.set_cons_succ]
              rfl
            refine pure_ (i := 2) (N := (some 40)) (v := ?_) (a' := ?_) #[true, true, true, false, false, false, false, false, false] rfl rfl (by kernel_rfl) (fun _ _ _ h => h) (Or.inl ⟨by rfl, ?_⟩) ?_ ?_
            rotate_left
            · intro w'
              go_simp
              with_reducible rfl
            rotate_left
            · simp only [Act.put, List.setIfInBounds_toArray, List.set_cons_zero, List.set_cons_succ]
              rfl
            refine take_ (i := 3) (N := (some 41)) (v := ?_) (a' := ?_) #[true, true, true, true, false, false, false, false, false] rfl rfl (by kernel_rfl) (fun _ _ _ h => h) (Or.inl ⟨by rfl, ?_⟩) hHeld ?_ ?_
            rotate_left
            · intro w' hS'
              (have c1 := (HP12.out.below_ hS').at_ 0 rfl; go_simp)
              with_reducible rfl
            rotate_left
            · simp only [Act.put, List.setIfInBounds_toArray, List.set_cons_zero, List.set_cons_succ]
              rfl
            refine pure_ (i := 4) (N := (some 42)) (v := ?_) (a' := ?_) #[true, true, true, true, true, false, false, false, false] rfl rfl (by kernel_rfl) (fun _ _ _ h => h) (Or.inl ⟨by rfl, ?_⟩) ?_ ?_
            rotate_left
            · intro w'
              go_simp
              with_reducible rfl
            rotate_left
            · simp only [Act.put, List.setIfInBounds_toArray, List.set_cons_zero, List.set_cons_succ]
              rfl
            refine take_ (i := 5) (N := (some 43)) (v := ?_) (a' := ?_) #[true, true, true, true, true, true, false, false, false] rfl rfl (by kernel_rfl) (fun _ _ _ h => h) (Or.inl ⟨by rfl, ?_⟩) hHeld ?_ ?_
            rotate_left
            · intro w' hS'
              (have c1 := (HX12.out.below_ hS').at_ 0 rfl; go_simp)
              with_reducible rfl
            rotate_left
            · simp only [Act.put, List.setIfInBounds_toArray, List.set_cons_zero, List.set_cons_succ]
              rfl
            refine take_ (i := 6) (N := (some 44)) (v := ?_) (a' := ?_) #[true, true, true, true, true, true, true, false, false] rfl rfl (by kernel_rfl) (fun _ _ _ h => h) (Or.inl ⟨by rfl, ?_⟩) hHeld ?_ ?_
            rotate_left
            · intro w' hS'
              (have hl := Wk.run_load_blk (P := Tryd.prog) 42 wr.heap.size 0 (Ps.tv i q s (.slice A0 n0 c0) (.slice A1 n1 c1)) _ (HX12.out.below_ hS') rfl Tryd.underlying42 rfl HSZ.out; refine (Wk.exec_load 42 (.tmp 6) rfl _ _ rfl hl).trans ?_)
              with_reducible rfl
            rotate_left
            · simp only [Act.put, List.setIfInBounds_toArray, List.set_cons_zero, List.set_cons_succ]
              rfl
            refine one_ (i := 7) (N := (some 45)) #[true, true, true, true, true, true, true, true, false] rfl rfl (by kernel_rfl) (by decide) (fun K hK => ?_)
            refine call_ 34 #[.agg #[.int .u32 i, .slice A0 n0 c0, .int .u64 q, .int .u64 s, .slice A1 n1 c1]] (by rfl) rfl (by go_simp) ?_
            refine (lent_.calls i q s A0 n0 c0 l0 A1 n1 c1 l1 w2.drew (Kd.C_below HG0.out (below_drew HF2.out.2.1)) HN0.out hl0 (by omega) (Kd.C_below HG1.out (below_drew HF2.out.2.1)) HN1.out hl1 (by omega)).mono ?_
            rintro e w3 ⟨A2, c2, A3, c3, rfl, hc2, hc3, hR2, hR3, hb3⟩
            have HR2 := Aside0.mk hR2
            have HR3 := Aside0.mk hR3
            have HC2 := Aside0.mk hc2
            have HC3 := Aside0.mk hc3
            have HB3 := Aside0.mk (below_then hHeld hHeld.size hb3)
            clear hR2 hR3 hc2 hc3 hb3
            have HUP : Aside0 (∃ W', (Instr.mapUpdate 69 (.map (some bm)) (.int .u32 i) (.agg #[.int .u32 i, .slice A2 n0 c2, .int .u64 q, .int .u64 s, .slice A3 n1 c3])).run Tryd.prog w3 = .ok () W' ∧ Ps.Tm W' bm (l.take (k + 1)) ∧ w3.grownBy W' (some bm)) := ⟨by
              rw [HTK.out]
              have hbm : bm < w2.drew.heap.size := HT12.out.lt
              refine (HT12.out.below HB3.out).update ⟨i, l0, q, s, l1⟩ _ ⟨hi0, hi1⟩ (by rw [HLK.out]; unfold maxLen; omega) HFD.out ⟨A2, c2, A3, c3, ?_, ?_, ?_, ?_, ?_⟩
              · simp only [Ps.tnc]
                rw [HN0.out, HN1.out]
              · show l0.length ≤ c2
                rw [HN0.out]; exact HC2.out
              · show l1.length ≤ c3
                rw [HN1.out]; exact HC3.out
              · show Kd.F (Kd.int .u8) w3 (fun k => bm < k) A2 l0.length l0
                rw [HN0.out]
                exact Kd.F_mono (Kd.R_F (Kd.R_bound HR2.out)) (fun j hj => Nat.lt_of_lt_of_le hbm hj.2.1)
              · show Kd.F (Kd.int .u32) w3 (fun k => bm < k) A3 l1.length l1
                rw [HN1.out]
                exact Kd.F_mono (Kd.R_F (Kd.R_bound HR3.out)) (fun j hj => Nat.lt_of_lt_of_le hbm hj.2.1)⟩
            obtain ⟨w4, hrun4, ht4, hg4⟩ := HUP.out
            have HRN := Aside0.mk hrun4
            have HT4 := Aside0.mk ht4
            have HG4 := Aside0.mk hg4
            clear hrun4 ht4 hg4 HUP
            refine ⟨_, rfl, ?_⟩
            refine hK.out _ _ HB3.out (fun hHeld => ?_)
            clear hK K
            refine norm_ (a' := ?_) ?_ ?_
            rotate_left
            · show Act.put _ (some 45) _ = _
              simp only [Act.put, List.setIfInBounds_toArray, List.set_cons_zero, List.set_cons_succ]
              rfl
            refine last_ (i := 8) (N := none) #[true, true, true, true, true, true, true, true, true] rfl rfl (by kernel_rfl) (by decide) (fun K hK => ?_)
            refine Ps.map_step (w' := w4) (by rfl) rfl 69 (.tmp 41) (.tmp 43) (.tmp 45) rfl (.map (some bm)) (.int .u32 i) (.agg #[.int .u32 i, .slice A2 n0 c2, .int .u64 q, .int .u64 s, .slice A3 n1 c3]) rfl rfl rfl HRN.out ?_
            refine hK.out _ _ ?_
            clear hK K
            refine done_ (by kernel_rfl) ?_
            refine NoPanic.normal ?_
            have hlI : (k : Int) < 64 := by omega
            go_wp2_with fail
            have hb3 := below_then HF2.out.2.1 HF2.out.2.1.size HB3.out
            refine ⟨⟨k + 1, ?_, by omega, HT4, ⟨(HP12.out.below_ HB3.out).grown HG4.out (fun he => HBP.out.2.2 (Option.some.inj he))⟩, ⟨hb3.grown HG4.out hb3.size (fun j hj => by cases hj; exact HBP.out.1)⟩, ⟨?_⟩⟩, ?_⟩
            · simp
            · rw [HTK.out, ← HG.out, HDK.out]
              exact (Ps.good_step _ _ _ HFD.out (by show 0 < l0.length; rw [HN0.out]; omega)).symm
            · simp [intOf]; omega
        · have HLO := Aside0.mk hlo
          have HFD := Aside0.mk hf
          clear hlo hf
          refine wp_region_noPanic ?_
          refine start_ (n := 13) (S := (fun w' => Below w1.heap.size w1 w')) (ds := [11]) #[false, false, false, false, false, false, false, false, false, false, false, false, false] (by kernel_rfl) rfl rfl (Below.refl _ _).drew (fun hHeld => ?_)
          refine pure_ (i := 0) (N := (some 22)) (v := ?_) (a' := ?_) #[true, false, false, false, false, false, false, false, false, false, false, false, false] rfl rfl (by kernel_rfl) (fun _ _ _ h => h) (Or.inl ⟨by rfl, ?_⟩) ?_ ?_
          rotate_left
          · intro w'
            go_simp
            with_reducible rfl
          rotate_left
          · simp only [Act.put, List.setIfInBounds_toArray, List.set_cons_zero, List.set_cons_succ]
            rfl
          refine pure_ (i := 1) (N := (some 23)) (v := ?_) (a' := ?_) #[true, true, false, false, false, false, false, false, false, false, false, false, false] rfl rfl (by kernel_rfl) (fun _ _ _ h => h) (Or.inl ⟨by rfl, ?_⟩) ?_ ?_
          rotate_left
          · intro w'
            go_simp
            with_reducible rfl
          rotate_left
          · simp only [Act.put, List.setIfInBounds_toArray, List.set_cons_zero, List.set_cons_succ]
            rfl
          refine pure_ (i := 2) (N := (some 24)) (v := ?_) (a' := ?_) #[true, true, true, false, false, false, false, false, false, false, false, false, false] rfl rfl (by kernel_rfl) (fun _ _ _ h => h) (Or.inl ⟨by rfl, ?_⟩) ?_ ?_
          rotate_left
          · intro w'
            go_simp
            with_reducible rfl
          rotate_left
          · simp only [Act.put, List.setIfInBounds_toArray, List.set_cons_zero, List.set_cons_succ]
            rfl
          refine take_ (i := 3) (N := (some 25)) (v := ?_) (a' := ?_) #[true, true, true, true, false, false, false, false, false, false, false, false, false] rfl rfl (by kernel_rfl) (fun _ _ _ h => h) (Or.inl ⟨by rfl, ?_⟩) hHeld ?_ ?_
          rotate_left
          · intro w' hS'
            (have c1 := (HP1.out.below_ hS').at_ 0 rfl; go_simp)
            with_reducible rfl
          rotate_left
          · simp only [Act.put, List.setIfInBounds_toArray, List.set_cons_zero, List.set_cons_succ]
            rfl
          refine pure_ (i := 4) (N := (some 26)) (v := ?_) (a' := ?_) #[true, true, true, true, true, false, false, false, false, false, false, false, false] rfl rfl (by kernel_rfl) (fun _ _ _ h => h) (Or.inl ⟨by rfl, ?_⟩) ?_ ?_
          rotate_left
          · intro w'
            go_simp
            with_reducible rfl
          rotate_left
          · simp only [Act.put, List.setIfInBounds_toArray, List.set_cons_zero, List.set_cons_succ]
            rfl
          refine take_ (i := 5) (N := (some 27)) (v := ?_) (a' := ?_) #[true, true, true, true, true, true, false, false, false, false, false, false, false] rfl rfl (by kernel_rfl) (fun _ _ _ h => h) (Or.inl ⟨by rfl, ?_⟩) hHeld ?_ ?_
          rotate_left
          · intro w' hS'
            (have c1 := (HX1.out.below_ hS').at_ 0 rfl; go_simp)
            with_reducible rfl
          rotate_left
          · simp only [Act.put, List.setIfInBounds_toArray, List.set_cons_zero, List.set_cons_succ]
            rfl
          refine take_ (i := 6) (N := (some 28)) (v := ?_) (a' := ?_) #[true, true, true, true, true, true, true, false, false, false, false, false, false] rfl rfl (by kernel_rfl) (fun _ _ _ h => h) (Or.inl ⟨by rfl, ?_⟩) hHeld ?_ ?_
          rotate_left
          · intro w' hS'
            (have c1 := HLO.out w' hS'; go_simp)
            with_reducible rfl
          rotate_left
          · simp only [Act.put, List.setIfInBounds_toArray, List.set_cons_zero, List.set_cons_succ]
            rfl
          refine pure_ (i := 7) (N := (some 21)) (v := ?_) (a' := ?_) #[true, true, true, true, true, true, true, true, false, false, false, false, false] rfl rfl (by kernel_rfl) (fun _ _ _ h => h) (Or.inl ⟨by rfl, ?_⟩) ?_ ?_
          rotate_left
          · intro w'
            go_simp
            with_reducible rfl
          rotate_left
          · simp only [Act.put, List.setIfInBounds_toArray, List.set_cons_zero, List.set_cons_succ]
            rfl
          refine pure_ (i := 8) (N := (some 29)) (v := ?_) (a' := ?_) #[true, true, true, true, true, true, true, true, true, false, false, false, false] rfl rfl (by kernel_rfl) (fun _ _ _ h => h) (Or.inl ⟨by rfl, ?_⟩) ?_ ?_
          rotate_left
          · intro w'
            go_simp
            with_reducible rfl
          rotate_left
          · simp only [Act.put, List.setIfInBounds_toArray, List.set_cons_zero, List.set_cons_succ]
            rfl
          refine pure_ (i := 9) (N := (some 30)) (v := ?_) (a' := ?_) #[true, true, true, true, true, true, true, true, true, true, false, false, false] rfl rfl (by kernel_rfl) (fun _ _ _ h => h) (Or.inl ⟨by rfl, ?_⟩) ?_ ?_
          rotate_left
          · intro w'
            go_simp
            with_reducible rfl
          rotate_left
          · simp only [Act.put, List.setIfInBounds_toArray, List.set_cons_zero, List.set_cons_succ]
            rfl
          refine one_ (i := 10) (N := (some 7)) #[true, true, true, true, true, true, true, true, true, true, true, false, false] rfl rfl (by kernel_rfl) (by decide) (fun K hK => ?_)
          refine value_ (w1 := w1.drew.alloc (.cells Ps.z5.toArray 42)) (v := .pointer (some ⟨w1.drew.heap.size, 0, none⟩)) (by rfl) rfl (by go_simp) ?_
          refine hK.out _ _ (hHeld.alloc hHeld.size _) (fun hHeld => ?_)
          clear hK K
          refine norm_ (a' := ?_) ?_ ?_
          rotate_left
          · show Act.put _ (some 7) _ = _
            simp only [Act.put, List.setIfInBounds_toArray, List.set_cons_zero, List.set_cons_succ]
            rfl
          refine last_ (i := 11) (N := none) #[true, true, true, true, true, true, true, true, true, true, true, true, false] rfl rfl (by kernel_rfl) (by decide) (fun K hK => ?_)
          refine Wk.store_all_step (by rfl) rfl 42 (.tmp 7) (.tmp 29) rfl w1.drew.heap.size (Ps.tnc y B0 d0 B1 d1) rfl rfl 42 Ps.z5 (Wk.Blk.new w1.drew 42 Ps.z5) HSZ.out rfl rfl ?_
          intro w2 hX hO
          have HX2 := Aside0.mk hX
          have HO2 := Aside0.mk hO
          clear hX hO
          refine hK.out _ _ ?_
          clear hK K
          refine pure_ (i := 12) (N := (some 8)) (v := ?_) (a' := ?_) #[true, true, true, true, true, true, true, true, true, true, true, true, true] rfl rfl (by kernel_rfl) (fun _ _ _ h => h) (Or.inl ⟨by rfl, ?_⟩) ?_ ?_
          rotate_left
          · intro w'
            go_simp
            with_reducible rfl
          rotate_left
          · simp only [Act.put, List.setIfInBounds_toArray, List.set_cons_zero, List.set_cons_succ]
            rfl
          refine done_ (by kernel_rfl) ?_
          refine NoPanic.normal ?_
          have HF2 := Aside0.mk (Wk.Only.fresh (w := w1.drew) HF1.out.2.1.drew (Nat.le_trans HF1.out.2.1.size (Nat.le_refl _)) HO2.out)
          go_wp2_with fail
          go_ret2
          refine ⟨HF2.out.2.1, .inr (.inl ⟨by omega, ?_, rfl⟩)⟩
          rw [← HG.out, HDK.out]
          exact Ps.good_there _ _ _ HFD.out
      · obtain rfl : k = n := by omega
        go_wp2_with fail
        go_ret2
        refine ⟨HB.out, .inr (.inr ⟨by omega, ?_, pt, rfl, bm, HBP.out.2.1, HBP.out.1, HP.out, ?_⟩)⟩
        · rw [← HG.out, List.drop_of_length_le (by rw [HN.out]; exact Nat.le_refl _)]
          rfl
        · have := HT.out
          rwa [List.take_of_length_le (by rw [HN.out]; exact Nat.le_refl _)] at this
end Go.Proofs.YtabdnlecpndfjaaDoor
set_option linter.unusedVariables false
set_option linter.unusedSimpArgs false
namespace Go.Proofs.YtabdnlecpndfjaaDoor
open Go.RowKit Go.Proofs.YtabdnlecpndfjaaDoor.PBase Go.Proofs.YtabdnlecpndfjaaDoorW.PrintWords Go.Proofs.YtabdnlecpndfjaaDoorW.PrintLast Go.Proofs.YtabdnlecpndfjaaDoorW.PrintMore
namespace Ps
theorem find_mem {l : List Tn} {id : Int} {x : Tn} (h : find l id = some x) : x ∈ l ∧ x.f0 = id := by
  unfold find at h
  exact ⟨List.mem_of_find?_eq_some h, by simpa using List.find?_some h⟩
theorem zn_wf : TnWf zn := ⟨⟨Int.le_refl _, by show (0 : Int) < 4294967296; decide⟩, by show 0 ≤ 1000; decide, by show 0 ≤ 1000; decide, fun x h => by cases h⟩
theorem got_wf {l : List Tn} (hW : ∀ x ∈ l, TnWf x) (id : Int) : TnWf ((find l id).getD zn) := by
  cases h : find l id with
  | none => exact zn_wf
  | some x => exact hW x (find_mem h).1
theorem Tm.looks {W : World} {b : Nat} {l : List Tn} (h : Tm W b l) (id : Int) (h0 : 0 ≤ id) (h1 : id < 4294967296) :
    ∃ A0 c0 A1 c1, (∀ W', Below W.heap.size W W' → (Instr.lookup 69 (.map (some b)) (.int .u32 id) true).run Tryd.prog W' = .ok (.tuple #[.agg (tnc ((find l id).getD zn) A0 c0 A1 c1).toArray, .bool (find l id).isSome]) W') ∧ ((find l id).getD zn).f1.length ≤ c0 ∧ ((find l id).getD zn).f4.length ≤ c1 ∧ Kd.C (Kd.int .u8) W A0 ((find l id).getD zn).f1.length ((find l id).getD zn).f1 ∧ Kd.C (Kd.int .u32) W A1 ((find l id).getD zn).f4.length ((find l id).getD zn).f4 := by
  rcases h.look id h0 h1 with ⟨hf, hr⟩ | ⟨x, A0, c0, A1, c1, hf, hr, l0, l1, g0, g1⟩
  · rw [hf]
    exact ⟨none, 0, none, 0, hr, Nat.le_refl _, Nat.le_refl _, Kd.C_nil _ _, Kd.C_nil _ _⟩
  · rw [hf]
    exact ⟨A0, c0, A1, c1, hr, l0, l1, g0, g1⟩
end Ps
end Go.Proofs.YtabdnlecpndfjaaDoor
set_option linter.unusedVariables false
set_option linter.unusedSimpArgs false
namespace Go.Proofs.YtabdnlecpndfjaaDoor
open Go.RowKit Go.Proofs.YtabdnlecpndfjaaDoorW.PrintWords
namespace Sh
open PBase
theorem wrap_toNat (x : BitVec 8) : IntKind.u8.wrap (x.toNat : Int) = (x.toNat : Int) := by
  rw [IntKind.wrap_u8]
  have := x.isLt
  omega
theorem ofInt_wrap (x : BitVec 8) : BitVec.ofInt 8 (IntKind.u8.wrap (x.toNat : Int)) = x := by
  rw [wrap_toNat]
  apply BitVec.eq_of_toNat_eq
  rw [BitVec.ofInt_natCast, BitVec.toNat_ofNat]
  exact Nat.mod_eq_of_lt x.isLt
theorem ofInt_inj (a b : Int) (ha : 0 ≤ a ∧ a ≤ 255) (hb : 0 ≤ b ∧ b ≤ 255) (h : BitVec.ofInt 8 a = BitVec.ofInt 8 b) : a = b := by
  obtain ⟨m, rfl⟩ := Int.eq_ofNat_of_zero_le ha.1
  obtain ⟨n, rfl⟩ := Int.eq_ofNat_of_zero_le hb.1
  have := congrArg BitVec.toNat h
  rw [BitVec.ofInt_natCast, BitVec.ofInt_natCast, BitVec.toNat_ofNat, BitVec.toNat_ofNat, Nat.mod_eq_of_lt (by omega), Nat.mod_eq_of_lt (by omega)] at this
  rw [this]
theorem or_xor_zero (x a b : Int) (hx : 0 ≤ x ∧ x ≤ 255) (ha : 0 ≤ a ∧ a ≤ 255) (hb : 0 ≤ b ∧ b ≤ 255) : bits .or .u8 x (bits .xor .u8 a b) = 0 ↔ x = 0 ∧ a = b := by
  have hxor : BitVec.ofInt 8 (bits .xor .u8 a b) = BitVec.ofInt 8 a ^^^ BitVec.ofInt 8 b := ofInt_wrap (BitVec.ofInt 8 a ^^^ BitVec.ofInt 8 b)
  have hor : bits .or .u8 x (bits .xor .u8 a b) = ((BitVec.ofInt 8 x ||| (BitVec.ofInt 8 a ^^^ BitVec.ofInt 8 b)).toNat : Int) := by
    rw [← hxor]
    exact wrap_toNat (BitVec.ofInt 8 x ||| BitVec.ofInt 8 (bits .xor .u8 a b))
  rw [hor]
  constructor
  · intro h
    have h0 : BitVec.ofInt 8 x ||| (BitVec.ofInt 8 a ^^^ BitVec.ofInt 8 b) = 0#8 := by
      apply BitVec.eq_of_toNat_eq
      have : (BitVec.ofInt 8 x ||| (BitVec.ofInt 8 a ^^^ BitVec.ofInt 8 b)).toNat = 0 := by omega
      rw [this]; rfl
    rw [BitVec.or_eq_zero_iff, BitVec.xor_eq_zero_iff] at h0
    refine ⟨ofInt_inj x 0 hx (by omega) (h0.1.trans rfl), ofInt_inj a b ha hb h0.2⟩
  · rintro ⟨rfl, rfl⟩
    rw [BitVec.xor_self]
    rfl
theorem rd_nat' (l : List Int) (i : Nat) : rd l (i : Int) = l.getD i 0 := by simp [rd, List.getD_eq_getElem?_getD]
theorem same_loop (l0 l1 : List Int) (h : l0.length = l1.length) (hm : l0.length ≤ 4611686018427387904) (hb0 : Bytes l0) (hb1 : Bytes l1) : ∀ (d i k : Nat) (x : Int), i + d = l0.length → d < k → (0 ≤ x ∧ x ≤ 255) →
    mac_Same.l0 k l0 l1 x (l0.length : Int) i = some (decide (x = 0 ∧ l0.drop i = l1.drop i))
  | 0, i, k, x, hi, hk, hx => by
    obtain ⟨k, rfl⟩ : ∃ m, k = m + 1 := ⟨k - 1, by omega⟩
    rw [mac_Same.l0, if_neg (by omega), List.drop_of_length_le (by omega), List.drop_of_length_le (by omega)]
    simp [Bool.beq_eq_decide_eq]
  | d + 1, i, k, x, hi, hk, hx => by
    obtain ⟨k, rfl⟩ : ∃ m, k = m + 1 := ⟨k - 1, by omega⟩
    have h0 : i < l0.length := by omega
    have h1 : i < l1.length := by omega
    have e1 : wrap64 ((i : Int) + 1) = ((i + 1 : Nat) : Int) := by unfold wrap64; omega
    rw [mac_Same.l0, e1]
    clear e1
    rw [if_pos (by omega), if_pos (by omega), if_pos (by omega), if_pos (by omega), rd_nat', rd_nat']
    have g0 : l0.getD i 0 = l0[i] := by rw [List.getD_eq_getElem?_getD, List.getElem?_eq_getElem h0]; rfl
    have g1 : l1.getD i 0 = l1[i] := by rw [List.getD_eq_getElem?_getD, List.getElem?_eq_getElem h1]; rfl
    have b0 := hb0 _ (List.getElem_mem h0)
    have b1 := hb1 _ (List.getElem_mem h1)
    rw [same_loop l0 l1 h hm hb0 hb1 d (i + 1) k _ (by omega) (by omega) ⟨bits_lo_u8 _ _ _, bits_hi_u8 _ _ _⟩, g0, g1]
    rw [List.drop_eq_getElem_cons h0, List.drop_eq_getElem_cons h1]
    congr 1
    rw [decide_eq_decide, or_xor_zero x _ _ hx b0 b1, List.cons.injEq, and_assoc]
theorem same_is (l0 l1 : List Int) (hm : l0.length ≤ 4611686018427387904) (hb0 : Bytes l0) (hb1 : Bytes l1) (k : Nat) (hk : l0.length < k) : mac_Same.f k l0 l1 = some (decide (l0 = l1)) := by
  unfold mac_Same.f
  by_cases h : l0.length = l1.length
  · rw [if_pos (by omega)]
    have := same_loop l0 l1 h hm hb0 hb1 l0.length 0 k 0 (by omega) hk (by omega)
    rw [List.drop_zero, List.drop_zero] at this
    refine this.trans ?_
    simp
  · rw [if_neg (by omega)]
    have : l0 ≠ l1 := fun e => h (by rw [e])
    simp [this]
end Sh
theorem same_.calls (A0 : Option Addr) (c0 : Nat) (l0 : List Int) (A1 : Option Addr) (c1 : Nat) (l1 : List Int) (w : World) (hr0 : Kd.C (Kd.int .u8) w A0 l0.length l0) (hc0 : l0.length ≤ c0) (hr1 : Kd.C (Kd.int .u8) w A1 l1.length l1) (hc1 : l1.length ≤ c1)
    (hm : l0.length ≤ 4611686018427387904) (hb0 : Sh.Bytes l0) (hb1 : Sh.Bytes l1) :
    Calls Tryd.prog 35 #[.slice A0 l0.length c0, .slice A1 l1.length c1] w fun e w' => e = .returned (.bool (decide (l0 = l1))) ∧ ∃ m, w' = w.drewN m :=
  (PBase.mac_Same.calls (l0.length + 1) A0 c0 l0 A1 c1 l1 _ w hr0 hc0 hr1 hc1 (Sh.same_is l0 l1 hm hb0 hb1 _ (Nat.lt_succ_self _))).mono fun _ _ ⟨h1, h2⟩ => ⟨h1, h2.out⟩
end Go.Proofs.YtabdnlecpndfjaaDoor
set_option linter.unusedVariables false
set_option linter.unusedSimpArgs false
namespace Go.Proofs.YtabdnlecpndfjaaDoor
open Go.RowKit Go.Proofs.YtabdnlecpndfjaaDoor.PBase Go.Proofs.YtabdnlecpndfjaaDoorW.PrintWords Go.Proofs.YtabdnlecpndfjaaDoorW.PrintLast Go.Proofs.YtabdnlecpndfjaaDoorW.PrintMore
namespace Ps
theorem same1_ {A0 A1 : Option Addr} {n0 n1 c0 c1 : Nat} {l0 l1 : List Int} {w : World} (h0 : Kd.C (Kd.int .u8) w A0 l0.length l0) (hn0 : l0.length = n0) (hc0 : n0 ≤ c0) (h1 : Kd.C (Kd.int .u8) w A1 l1.length l1) (hn1 : l1.length = n1) (hc1 : n1 ≤ c1) (hm : n0 ≤ 4611686018427387904) (hb0 : Sh.Bytes l0) (hb1 : Sh.Bytes l1) {b : Bool} (hb : decide (l0 = l1) = b) :
    Calls Tryd.prog 35 #[.slice A0 n0 c0, .slice A1 n1 c1] w fun e w' => e = .returned (.bool b) ∧ Below w.heap.size w w' := by
  subst hn0; subst hn1; subst hb
  exact (same_.calls A0 c0 l0 A1 c1 l1 w h0 hc0 h1 hc1 hm hb0 hb1).mono (fun _ _ ⟨a, m, hm⟩ => ⟨a, by rw [hm]; exact pw_below_drewN (Below.refl _ _) m⟩)
theorem cont_ {A : Option Addr} {n c : Nat} {l : List Int} {x : Int} {w : World} (h : Kd.C (Kd.int .u32) w A l.length l) (hn : l.length = n) (hc : n ≤ c) (hm : n ≤ 1000000) {b : Bool} (hb : decide (x ∈ l) = b) :
    Calls Tryd.prog 36 #[.slice A n c, .int .u32 x] w fun e w' => e = .returned (.bool b) ∧ Below w.heap.size w w' := by
  subst hn; subst hb
  exact (slices_Contains_uint32_uint32.calls (l.length + 1) A c l x _ w h hc (contains_is l x hm _ (Nat.lt_succ_self _))).mono (fun _ _ ⟨a, h⟩ => ⟨a, by obtain ⟨m, hm⟩ := h.out; rw [hm]; exact pw_below_drewN (Below.refl _ _) m⟩)
theorem token_ {A : Option Addr} {n c : Nat} {l : List Int} {w : World} (h : Kd.C (Kd.int .u8) w A l.length l) (hn : l.length = n) (hc : n ≤ c) (hb : Sh.Bytes l) (h18 : 18 ≤ n) {a b d : Int} {ro : Bool} (ht : tok l = (a, b, ro, d)) :
    Calls Tryd.prog 31 #[.slice A n c] w fun e w' => e = .returned (.agg #[.int .u32 a, .int .u32 b, .bool ro, .int .u64 d]) ∧ Below w.heap.size w w' := by
  subst hn
  exact pass_token.calls 10 A c l a b ro d w h hc ((token_is l hb h18 10 (by decide)).trans (by rw [ht]))
theorem cutTo {A : Option Addr} {n c : Nat} {l : List Int} (hn : l.length = n) (h : 18 ≤ n) (hc : n ≤ c) : ∀ W : World, (Instr.slice 22 (.slice A n c) none (some (.int .i64 18)) none).run Tryd.prog W = .ok (.slice A 18 c) W := by
  subst hn
  exact Wk.cut_to_ 22 5 .i64 Tryd.underlying22 (by kernel_rfl) A c l 18 18 rfl h hc
theorem cutFrom {A : Option Addr} {n c : Nat} {l : List Int} (hn : l.length = n) (h : 18 ≤ n) (hc : n ≤ c) : ∃ A' : Option Addr, (∀ W : World, (Instr.slice 22 (.slice A n c) (some (.int .i64 18)) none none).run Tryd.prog W = .ok (.slice A' (n - 18) (c - 18)) W) ∧
      ∀ W : World, Kd.C (Kd.int .u8) W A l.length l → Kd.C (Kd.int .u8) W A' (l.drop 18).length (l.drop 18) := by
  subst hn
  exact Wk.cut_from_ 22 5 .i64 Tryd.underlying22 (by kernel_rfl) .u8 A c l 18 18 rfl h hc
abbrev zt4 : List Value := [.int .u32 0, .int .u32 0, .bool false, .int .u64 0]
def ChPost (w : World) (l : List Tn) (s : ByteArray) (e : Ending) (w' : World) : Prop :=
  e = .returned (.tuple #[.agg (tkc (check l s).1).toArray, .int .u16 (check l s).2]) ∧ Below w.heap.size w w'
theorem check_form {l : List Tn} {s : ByteArray} (h : ¬ is s = true) : check l s = (zt, 50) := if_neg h
theorem check_none {l : List Tn} {s : ByteArray} (h : is s = true) (hf : find l (tok (got s)).1 = none) : check l s = (zt, 51) := by
  unfold check
  rw [if_pos h, hf]
theorem check_some {l : List Tn} {s : ByteArray} (h : is s = true) {x : Tn} (hf : find l (tok (got s)).1 = some x) : check l s = verdict x (got s) := by
  unfold check
  rw [if_pos h, hf]
end Ps
set_option maxHeartbeats 4000000 in
set_option maxRecDepth 100000 in
theorem check_.calls (p base : Nat) (l : List Ps.Tn) (s : ByteArray) (w : World) (hk : Sh.Ks w) (hT : Ps.Tb w base p l) (hs : s.size ≤ 1000000) (hW : ∀ x ∈ l, Ps.TnWf x) :
    Calls Tryd.prog 16 #[.pointer (some ⟨p, 0, none⟩), .string s] w (Ps.ChPost w l s) := by
  obtain ⟨bm, _, _, hP, hM⟩ := hT
  have HP := Aside0.mk hP
  have HM := Aside0.mk hM
  have HK := Aside0.mk hk
  have HW := Aside0.mk hW
  have HSZ := Aside0.mk Ps.sizeTn
  have HSK := Aside0.mk Ps.sizeTk
  have HZ4 : Aside0 (Below w.heap.size w (w.alloc (.cells Ps.zt4.toArray 26))) := ⟨below_alloc (Below.refl _ _) _⟩
  have HX4 : Aside0 (Wk.Blk (w.alloc (.cells Ps.zt4.toArray 26)) w.heap.size 26 Ps.zt4) := ⟨Wk.Blk.new w _ Ps.zt4⟩
  clear hP hM hk hW
  go_enter Tryd.func16, Tryd.ntmps16
  go_wp2_with fail
  refine (pass_read.calls (s.size + 2) s (Ps.got s) (Ps.is s) _ (Ps.read_is s hs _ (Nat.lt_succ_self _))).mono ?_
  rintro e w2 ⟨v2, rfl, hR2, hb2⟩
  obtain ⟨A2, c2, rfl⟩ := Kd.R_slice hR2
  obtain ⟨m, HMM⟩ : ∃ n, Aside0 ((Ps.got s).length = n) := ⟨_, ⟨rfl⟩⟩
  have HX2 := Aside0.mk (HX4.out.below_ hb2)
  have HB2 := Aside0.mk (below_then HZ4.out HZ4.out.size hb2)
  obtain ⟨hc2, hC2⟩ : (Ps.got s).length ≤ c2 ∧ Kd.C (Kd.int .u8) w2 A2 (Ps.got s).length (Ps.got s) := by
    obtain ⟨A', c', he, h1, h2⟩ := Kd.R_reads hR2
    injection he with e1 e2 e3
    subst e1; subst e3
    exact ⟨h1, h2⟩
  rw [HMM.out] at hc2 ⊢
  have HC2 := Aside0.mk hC2
  obtain ⟨fi, HFI⟩ : ∃ b, Aside0 (Ps.is s = b) := ⟨_, ⟨rfl⟩⟩
  rw [HFI.out]
  clear hR2 hb2 hC2 HZ4 HX4
  cases fi with
  | false =>
    go_wp2_with (refine Wk.store_all rfl rfl 26 (.tmp 4) (.tmp 19) rfl w.heap.size Ps.zt4 rfl rfl 26 _ HX2.out HSK.out rfl rfl ?_; intro wz hX hO; have HXZ := Aside0.mk hX; have HOZ := Aside0.mk hO; clear hX hO)
    refine bodyPost_ret (Wk.res_ct rfl _ w.heap.size 26 _ _ rfl HXZ.out Tryd.underlying26 rfl HSK.out) rfl ?_
    refine ⟨?_, Wk.Only.below HB2.out HOZ.out (Nat.le_refl _)⟩
    rw [Ps.check_form (by rw [HFI.out]; exact Bool.false_ne_true)]
    rfl
  | true =>
    obtain ⟨hfm, hgb, -⟩ := Ps.got_of s HFI.out
    have hm50 : m = 50 := by
      unfold Ps.form at hfm
      rw [decide_eq_true_eq] at hfm
      rw [← HMM.out]
      exact hfm.1
    have HGB := Aside0.mk hgb
    have HM50 := Aside0.mk hm50
    have hwf := Ps.tok_wf _ hgb
    obtain ⟨tk, HTK⟩ : ∃ t, Aside0 (Ps.tok (Ps.got s) = t) := ⟨_, ⟨rfl⟩⟩
    rw [HTK.out] at hwf
    obtain ⟨ti, se, ro, sz⟩ := tk
    have HTW : Aside0 ((0 ≤ ti ∧ ti < 4294967296) ∧ (0 ≤ se ∧ se < 4294967296) ∧ (0 ≤ sz ∧ sz < 18446744073709551616)) := ⟨hwf⟩
    clear hwf
    clear hfm hgb hm50 hs
    go_wp2_with fail
    refine (Ps.token_ HC2.out HMM.out hc2 HGB.out (by rw [HM50.out]; decide) HTK.out).mono ?_
    rintro e w3 ⟨rfl, hb3⟩
    have HB3 := Aside0.mk (below_then HB2.out HB2.out.size hb3)
    have HX3 := Aside0.mk (HX2.out.below_ hb3)
    have HC3 := Aside0.mk (Kd.C_below HC2.out hb3)
    clear hb3 HX2 HC2 HB2
    go_wp2_with fail
    generalize hWq : World.alloc w3 _ = w4
    have HB4 : Aside0 (Below w.heap.size w w4) := ⟨by rw [← hWq]; exact HB3.out.alloc HB3.out.size _⟩
    have HBD : Aside0 (Below w3.heap.size w3 w4) := ⟨by rw [← hWq]; exact below_alloc (Below.refl _ _) _⟩
    have HK4 : Aside0 (Wk.Blk w4 w3.heap.size 26 (Ps.tkc (ti, se, ro, sz))) := ⟨by rw [← hWq]; exact Wk.Blk.new w3 _ (Ps.tkc (ti, se, ro, sz))⟩
    have HX4 := Aside0.mk (HX3.out.below_ HBD.out)
    have HC4 := Aside0.mk (Kd.C_below HC3.out HBD.out)
    have HP4 := Aside0.mk (HP.out.below_ HB4.out)
    obtain ⟨g8, HG8⟩ : ∃ b, Aside0 (w3.heap.size = b) := ⟨_, ⟨rfl⟩⟩
    rw [HG8.out] at HK4 ⊢
    clear hWq HB3 HX3 HC3 HBD HG8 HP
    obtain ⟨A0, d0, A1, d1, hlo, hc0, hc1, g0, g1⟩ := (HM.out.below HB4.out).looks ti HTW.out.1.1 HTW.out.1.2
    obtain ⟨hwf, hwn⟩ : Ps.TnWf ((Ps.find l ti).getD Ps.zn) ∧ ((Ps.find l ti).isSome = true → Ps.find l ti = some ((Ps.find l ti).getD Ps.zn)) := ⟨Ps.got_wf HW.out ti, fun h => by
      obtain ⟨y, hy⟩ := Option.isSome_iff_exists.1 h
      rw [hy]; rfl⟩
    obtain ⟨fd, HFD⟩ : ∃ b, Aside0 ((Ps.find l ti).isSome = b) := ⟨_, ⟨rfl⟩⟩
    obtain ⟨x, HXX⟩ : ∃ x, Aside0 ((Ps.find l ti).getD Ps.zn = x) := ⟨_, ⟨rfl⟩⟩
    rw [HXX.out] at hlo hc0 hc1 g0 g1 hwf hwn
    rw [HFD.out] at hlo hwn
    have HFN := Aside0.mk hwn
    obtain ⟨i, l0, q, sx, l1⟩ := x
    obtain ⟨_, hm0, hm1, hby⟩ := hwf
    change l0.length ≤ 1000 at hm0
    change l1.length ≤ 1000 at hm1
    simp only [Ps.tnc] at hlo hc0 hc1 g0 g1
    have HG0 := Aside0.mk g0
    have HG1 := Aside0.mk g1
    have HBY : Aside0 (Sh.Bytes l0) := ⟨hby⟩
    obtain ⟨n0, HN0⟩ : ∃ n, Aside0 (l0.length = n) := ⟨_, ⟨rfl⟩⟩
    obtain ⟨n1, HN1⟩ : ∃ n, Aside0 (l1.length = n) := ⟨_, ⟨rfl⟩⟩
    rw [HN0.out] at hm0 hc0 hlo
    rw [HN1.out] at hm1 hc1 hlo
    have HLO := Aside0.mk hlo
    clear g0 g1 hby hlo hwn HXX
    refine wp_region_noPanic ?_
    refine start_ (n := 13) (S := (fun w' => Below w4.heap.size w4 w')) (ds := [11]) #[false, false, false, false, false, false, false, false, false, false, false, false, false] (by kernel_rfl) rfl rfl (Below.refl _ _).drew (fun hHeld => ?_)
    refine pure_ (i := 0) (N := (some 23)) (v := ?_) (a' := ?_) #[true, false, false, false, false, false, false, false, false, false, false, false, false] rfl rfl (by kernel_rfl) (fun _ _ _ h => h) (Or.inl ⟨by rfl, ?_⟩) ?_ ?_
    rotate_left
    · intro w'
      go_simp
      with_reducible rfl
    rotate_left
    · simp only [Act.put, List.setIfInBounds_toArray, List.set_cons_zero, List.set_cons_succ]
      rfl
    refine pure_ (i := 1) (N := (some 24)) (v := ?_) (a' := ?_) #[true, true, false, false, false, false, false, false, false, false, false, false, false] rfl rfl (by kernel_rfl) (fun _ _ _ h => h) (Or.inl ⟨by rfl, ?_⟩) ?_ ?_
    rotate_left
    · intro w'
      go_simp
      with_reducible rfl
    rotate_left
    · simp only [Act.put, List.setIfInBounds_toArray, List.set_cons_zero, List.set_cons_succ]
      rfl
    refine pure_ (i := 2) (N := (some 25)) (v := ?_) (a' := ?_) #[true, true, true, false, false, false, false, false, false, false, false, false, false] rfl rfl (by kernel_rfl) (fun _ _ _ h => h) (Or.inl ⟨by rfl, ?_⟩) ?_ ?_
    rotate_left
    · intro w'
      go_simp
      with_reducible rfl
    rotate_left
    · simp only [Act.put, List.setIfInBounds_toArray, List.set_cons_zero, List.set_cons_succ]
      rfl
    refine take_ (i := 3) (N := (some 26)) (v := ?_) (a' := ?_) #[true, true, true, true, false, false, false, false, false, false, false, false, false] rfl rfl (by kernel_rfl) (fun _ _ _ h => h) (Or.inl ⟨by rfl, ?_⟩) hHeld ?_ ?_
    rotate_left
    · intro w' hS'
      (have c1 := (HP4.out.below_ hS').at_ 0 rfl; go_simp)
      with_reducible rfl
    rotate_left
    · simp only [Act.put, List.setIfInBounds_toArray, List.set_cons_zero, List.set_cons_succ]
      rfl
    refine pure_ (i := 4) (N := (some 27)) (v := ?_) (a' := ?_) #[true, true, true, true, true, false, false, false, false, false, false, false, false] rfl rfl (by kernel_rfl) (fun _ _ _ h => h) (Or.inl ⟨by rfl, ?_⟩) ?_ ?_
    rotate_left
    · intro w'
      go_simp
      with_reducible rfl
    rotate_left
    · simp only [Act.put, List.setIfInBounds_toArray, List.set_cons_zero, List.set_cons_succ]
      rfl
    refine take_ (i := 5) (N := (some 28)) (v := ?_) (a' := ?_) #[true, true, true, true, true, true, false, false, false, false, false, false, false] rfl rfl (by kernel_rfl) (fun _ _ _ h => h) (Or.inl ⟨by rfl, ?_⟩) hHeld ?_ ?_
    rotate_left
    · intro w' hS'
      (have c1 := (HK4.out.below_ hS').at_ 0 rfl; go_simp)
      with_reducible rfl
    rotate_left
    · simp only [Act.put, List.setIfInBounds_toArray, List.set_cons_zero, List.set_cons_succ]
      rfl
    refine take_ (i := 6) (N := (some 29)) (v := ?_) (a' := ?_) #[true, true, true, true, true, true, true, false, false, false, false, false, false] rfl rfl (by kernel_rfl) (fun _ _ _ h => h) (Or.inl ⟨by rfl, ?_⟩) hHeld ?_ ?_
    rotate_left
    · intro w' hS'
      (have c1 := HLO.out w' hS'; go_simp)
      with_reducible rfl
    rotate_left
    · simp only [Act.put, List.setIfInBounds_toArray, List.set_cons_zero, List.set_cons_succ]
      rfl
    refine pure_ (i := 7) (N := (some 22)) (v := ?_) (a' := ?_) #[true, true, true, true, true, true, true, true, false, false, false, false, false] rfl rfl (by kernel_rfl) (fun _ _ _ h => h) (Or.inl ⟨by rfl, ?_⟩) ?_ ?_
    rotate_left
    · intro w'
      go_simp
      with_reducible rfl
    rotate_left
    · simp only [Act.put, List.setIfInBounds_toArray, List.set_cons_zero, List.set_cons_succ]
      rfl
    refine pure_ (i := 8) (N := (some 30)) (v := ?_) (a' := ?_) #[true, true, true, true, true, true, true, true, true, false, false, false, false] rfl rfl (by kernel_rfl) (fun _ _ _ h => h) (Or.inl ⟨by rfl, ?_⟩) ?_ ?_
    rotate_left
    · intro w'
      go_simp
      with_reducible rfl
    rotate_left
    · simp only [Act.put, List.setIfInBounds_toArray, List.set_cons_zero, List.set_cons_succ]
      rfl
    refine pure_ (i := 9) (N := (some 31)) (v := ?_) (a' := ?_) #[true, true, true, true, true, true, true, true, true, true, false, false, false] rfl rfl (by kernel_rfl) (fun _ _ _ h => h) (Or.inl ⟨by rfl, ?_⟩) ?_ ?_
    rotate_left
    · intro w'
      go_simp
      with_reducible rfl
    rotate_left
    · simp only [Act.put, List.setIfInBounds_toArray, List.set_cons_zero, List.set_cons_succ]
      rfl
    refine one_ (i := 10) (N := (some 9)) #[true, true, true, true, true, true, true, true, true, true, true, false, false] rfl rfl (by kernel_rfl) (by decide) (fun K hK => ?_)
    refine value_ (w1 := w4.drew.alloc (.cells Ps.z5.toArray 42)) (v := .pointer (some ⟨w4.drew.heap.size, 0, none⟩)) (by rfl) rfl (by go_simp) ?_
    refine hK.out _ _ (hHeld.alloc hHeld.size _) (fun hHeld => ?_)
    clear hK K
    refine norm_ (a' := ?_) ?_ ?_
    rotate_left
    · show Act.put _ (some 9) _ = _
      simp only [Act.put, List.setIfInBounds_toArray, List.set_cons_zero, List.set_cons_succ]
      rfl
    refine last_ (i := 11) (N := none) #[true, true, true, true, true, true, true, true, true, true, true, true, false] rfl rfl (by kernel_rfl) (by decide) (fun K hK => ?_)
    refine Wk.store_all_step (by rfl) rfl 42 (.tmp 9) (.tmp 30) rfl w4.drew.heap.size (Ps.tv i q sx (.slice A0 n0 d0) (.slice A1 n1 d1)) rfl rfl 42 Ps.z5 (Wk.Blk.new w4.drew 42 Ps.z5) HSZ.out rfl rfl ?_
    intro w5 hX hO
    have HX9 := Aside0.mk hX
    have HO5 := Aside0.mk hO
    clear hX hO
    refine hK.out _ _ ?_
    clear hK K
    refine pure_ (i := 12) (N := (some 10)) (v := ?_) (a' := ?_) #[true, true, true, true, true, true, true, true, true, true, true, true, true] rfl rfl (by kernel_rfl) (fun _ _ _ h => h) (Or.inl ⟨by rfl, ?_⟩) ?_ ?_
    rotate_left
    · intro w'
      go_simp
      with_reducible rfl
    rotate_left
    · simp only [Act.put, List.setIfInBounds_toArray, List.set_cons_zero, List.set_cons_succ]
      rfl
    refine done_ (by kernel_rfl) ?_
    refine NoPanic.normal ?_
    have HF5 := Aside0.mk (Wk.Only.fresh (w := w4.drew) HB4.out.drew HB4.out.size HO5.out)
    have HBD : Aside0 (Below w4.heap.size w4 w5) := ⟨Below.trans (Below.refl _ _).drew HF5.out.2.2⟩
    have HB5 : Aside0 (Below w.heap.size w w5) := ⟨HF5.out.2.1⟩
    have HX5 := Aside0.mk (HX4.out.below_ HBD.out)
    have HK5 := Aside0.mk (HK4.out.below_ HBD.out)
    have HC5 := Aside0.mk (Kd.C_below HC4.out HBD.out)
    have HG05 := Aside0.mk (Kd.C_below HG0.out HBD.out)
    have HG15 := Aside0.mk (Kd.C_below HG1.out HBD.out)
    obtain ⟨g9, HG9⟩ : ∃ b, Aside0 (w4.drew.heap.size = b) := ⟨_, ⟨rfl⟩⟩
    rw [HG9.out] at HX9 ⊢
    clear HBD HF5 HO5 HX4 HK4 HC4 HP4 HB4 HG0 HG1 HLO HG9 hHeld HM
    cases fd with
    | false =>
      go_wp2_with (refine Wk.store_all rfl rfl 26 (.tmp 4) (.tmp 34) rfl w.heap.size Ps.zt4 rfl rfl 26 _ HX5.out HSK.out rfl rfl ?_; intro wz hX hO; have HXZ := Aside0.mk hX; have HOZ := Aside0.mk hO; clear hX hO)
      refine bodyPost_ret (Wk.res_ct rfl _ w.heap.size 26 _ _ rfl HXZ.out Tryd.underlying26 rfl HSK.out) rfl ?_
      refine ⟨?_, Wk.Only.below HB5.out HOZ.out (Nat.le_refl _)⟩
      rw [Ps.check_none HFI.out (by rw [HTK.out]; exact Option.isNone_iff_eq_none.1 (by have := HFD.out; rw [Option.isNone_iff_eq_none]; cases h : Ps.find l ti with | none => rfl | some y => rw [h] at this; cases this))]
      rfl
    | true =>
      have HFS : Aside0 (Ps.check l s = Ps.verdict ⟨i, l0, q, sx, l1⟩ (Ps.got s)) := ⟨Ps.check_some HFI.out (by rw [HTK.out]; exact HFN.out rfl)⟩
      clear HFN HFD
      go_wp2_with fail
      have hcut := Ps.cutTo (A := A2) HMM.out (by rw [HM50.out]; decide) hc2
      obtain ⟨A3, hcutf, hcf⟩ := Ps.cutFrom (A := A2) HMM.out (by rw [HM50.out]; decide) hc2
      have HCF : Aside0 (∀ W : World, Kd.C (Kd.int .u8) W A2 (Ps.got s).length (Ps.got s) → Kd.C (Kd.int .u8) W A3 ((Ps.got s).drop 18).length ((Ps.got s).drop 18)) := ⟨hcf⟩
      clear hcf
      obtain ⟨bd, HBD⟩ : ∃ l, Aside0 ((Ps.got s).take 18 = l) := ⟨_, ⟨rfl⟩⟩
      have HBL : Aside0 (bd.length = 18) := ⟨by rw [← HBD.out, List.length_take, HMM.out, HM50.out]; rfl⟩
      have HBB : Aside0 (Sh.Bytes bd) := ⟨by rw [← HBD.out]; exact fun x hx => HGB.out x (List.mem_of_mem_take hx)⟩
      have HCT : Aside0 (∀ W : World, Kd.C (Kd.int .u8) W A2 (Ps.got s).length (Ps.got s) → Kd.C (Kd.int .u8) W A2 bd.length bd) := ⟨fun W h => by
        rw [← HBD.out]
        exact Kd.C_take h (by rw [HMM.out, HM50.out]; decide)⟩
      obtain ⟨D, HDD⟩ : ∃ D, Aside0 (Sh.u8s (Sh.hm l0 bd) = D) := ⟨_, ⟨rfl⟩⟩
      have HIF := Aside0.mk (Sh.tag_info HDD.out)
      have HOF : Aside0 (∀ (W : World) (b : Nat), Below w5.heap.size w5 W → W.cell? ⟨b, 0, none⟩ = some (.slice A2 18 c2) → Calls Tryd.prog 25 #[.slice A0 n0 d0, .slice (some ⟨b, 0, none⟩) 1 1] W fun e w' => e = .returned (.agg D) ∧ Below W.heap.size W w') := ⟨fun W b hb hc =>
        Sh.of1_ (HK.out.below (below_then HB5.out HB5.out.size hb)) (Kd.C_below HG05.out hb) HN0.out hc0 HBY.out (by omega) (HCT.out W (Kd.C_below HC5.out hb)) HBL.out (by have := HM50.out; omega) HBB.out (by decide) hc HDD.out⟩
      refine wp_region_noPanic ?_
      refine start_ (n := 8) (S := (fun w' => Below w5.heap.size w5 w')) (ds := [7]) #[false, false, false, false, false, false, false, false] (by kernel_rfl) rfl rfl (Below.refl _ _).drew (fun hHeld => ?_)
      refine pure_ (i := 0) (N := (some 35)) (v := ?_) (a' := ?_) #[true, false, false, false, false, false, false, false] rfl rfl (by kernel_rfl) (fun _ _ _ h => h) (Or.inl ⟨by rfl, ?_⟩) ?_ ?_
      rotate_left
      · intro w'
        go_simp
        with_reducible rfl
      rotate_left
      · simp only [Act.put, List.setIfInBounds_toArray, List.set_cons_zero, List.set_cons_succ]
        rfl
      refine take_ (i := 1) (N := (some 36)) (v := ?_) (a' := ?_) #[true, true, false, false, false, false, false, false] rfl rfl (by kernel_rfl) (fun _ _ _ h => h) (Or.inl ⟨by rfl, ?_⟩) hHeld ?_ ?_
      rotate_left
      · intro w' hS'
        (have c1 := (HX9.out.below_ hS').at_ 1 rfl; go_simp)
        with_reducible rfl
      rotate_left
      · simp only [Act.put, List.setIfInBounds_toArray, List.set_cons_zero, List.set_cons_succ]
        rfl
      refine pure_ (i := 2) (N := (some 37)) (v := ?_) (a' := ?_) #[true, true, true, false, false, false, false, false] rfl rfl (by kernel_rfl) (fun _ _ _ h => h) (Or.inl ⟨by rfl, ?_⟩) ?_ ?_
      rotate_left
      · intro w'
        go_simp
        with_reducible rfl
      rotate_left
      · simp only [Act.put, List.setIfInBounds_toArray, List.set_cons_zero, List.set_cons_succ]
        rfl
      refine pure_ (i := 3) (N := (some 38)) (v := ?_) (a' := ?_) #[true, true, true, true, false, false, false, false] rfl rfl (by kernel_rfl) (fun _ _ _ h => h) (Or.inl ⟨by rfl, ?_⟩) ?_ ?_
      rotate_left
      · intro w'
        (have h1 := hcut w'; go_simp)
        with_reducible rfl
      rotate_left
      · simp only [Act.put, List.setIfInBounds_toArray, List.set_cons_zero, List.set_cons_succ]
        rfl
      have HH := Aside0.mk hHeld
      generalize w5.drew = w6 at hHeld HH ⊢
      refine join_ (σ := Nat × Nat) (fuel' := 1) #[true, true, true, true, true, true, true, false] (fun s => [(39, .slice (some ⟨s.1, 0, none⟩) 1 1), (40, .agg D), (11, .pointer (some ⟨s.2, 0, none⟩))]) (fun s w' => Below w6.heap.size w6 w' ∧ w6.heap.size ≤ s.2 ∧ w'.heap[s.2]? = some (.cells (Sh.u8s (List.replicate 32 0)) 59 (0, 0))) ?_ (fun hJ => ?_)
      · rintro ⟨b4, b11⟩ w7 ⟨hB7, hge, hO7⟩
        refine norm_ (a' := ?_) ?_ ?_
        rotate_left
        · show Act.put (Act.put (Act.put _ (some 39) _) (some 40) _) (some 11) _ = _
          simp only [Act.put, List.setIfInBounds_toArray, List.set_cons_zero, List.set_cons_succ]
          rfl
        change w7.heap[b11]? = _ at hO7
        change w6.heap.size ≤ b11 at hge
        refine last_ (i := 7) (N := none) #[true, true, true, true, true, true, true, true] rfl rfl (by kernel_rfl) (by decide) (fun K hK => ?_)
        refine skip_ (w1 := w7.setRow b11 D) (by rfl) rfl (Sh.store_exec rfl rfl rfl hO7 HIF.out.1 HIF.out.2.1 HIF.out.2.2) ?_
        have HD8 : Aside0 ((w7.setRow b11 D).heap[b11]? = some (.cells D 59 (0, 0))) := ⟨setRow_heap _ _ _ _ _ _ hO7⟩
        have HB8 : Aside0 (Below w5.heap.size w5 (w7.setRow b11 D)) := ⟨below_then HH.out HH.out.size (below_setRow hB7 hge D)⟩
        generalize w7.setRow b11 D = w8 at HD8 HB8 ⊢
        refine hK.out _ _ ?_
        clear hK K hO7 hge hB7
        refine done_ (by kernel_rfl) ?_
        refine NoPanic.normal ?_
        have HX8 := Aside0.mk (HX5.out.below_ HB8.out)
        have HK8 := Aside0.mk (HK5.out.below_ HB8.out)
        have HX98 := Aside0.mk (HX9.out.below_ HB8.out)
        have HC8 := Aside0.mk (HCF.out _ (Kd.C_below HC5.out HB8.out))
        have HG18 := Aside0.mk (Kd.C_below HG15.out HB8.out)
        have HB58 := Aside0.mk (below_then HB5.out HB5.out.size HB8.out)
        have HT8 := Aside0.mk (Sh.tag_reads HDD.out HD8.out)
        have hsl := Sh.slice_all32 b11
        clear hHeld hcut
        clear HX5 HK5 HX9 HC5 HG15 HB5 HG05 HOF HCT HH HB8 HD8
        go_wp2_with fail
        refine wp_region_noPanic ?_
        refine start_ (n := 6) (S := (fun w' => Below w8.heap.size w8 w')) (ds := []) #[false, false, false, false, false, false] (by kernel_rfl) rfl rfl (Below.refl _ _).drew (fun hHeld => ?_)
        refine pure_ (i := 0) (N := (some 42)) (v := ?_) (a' := ?_) #[true, false, false, false, false, false] rfl rfl (by kernel_rfl) (fun _ _ _ h => h) (Or.inl ⟨by rfl, ?_⟩) ?_ ?_
        rotate_left
        · intro w'
          (have h1 := hsl w'; go_simp)
          with_reducible rfl
        rotate_left
        · simp only [Act.put, List.setIfInBounds_toArray, List.set_cons_zero, List.set_cons_succ]
          rfl
        refine pure_ (i := 1) (N := (some 43)) (v := ?_) (a' := ?_) #[true, true, false, false, false, false] rfl rfl (by kernel_rfl) (fun _ _ _ h => h) (Or.inl ⟨by rfl, ?_⟩) ?_ ?_
        rotate_left
        · intro w'
          go_simp
          with_reducible rfl
        rotate_left
        · simp only [Act.put, List.setIfInBounds_toArray, List.set_cons_zero, List.set_cons_succ]
          rfl
        refine pure_ (i := 2) (N := (some 44)) (v := ?_) (a' := ?_) #[true, true, true, false, false, false] rfl rfl (by kernel_rfl) (fun _ _ _ h => h) (Or.inl ⟨by rfl, ?_⟩) ?_ ?_
        rotate_left
        · intro w'
          (have h1 := hcutf w'; go_simp)
          with_reducible rfl
        rotate_left
        · simp only [Act.put, List.setIfInBounds_toArray, List.set_cons_zero, List.set_cons_succ]
          rfl
        refine one_ (i := 3) (N := (some 45)) #[true, true, true, true, false, false] rfl rfl (by kernel_rfl) (by decide) (fun K hK => ?_)
        refine call_ 35 #[.slice (some ⟨b11, 0, none⟩) 32 32, .slice A3 (m - 18) (c2 - 18)] (by rfl) rfl (by go_simp) ?_
        obtain ⟨sm, HSM⟩ : ∃ b, Aside0 (decide (Sh.hm l0 bd = (Ps.got s).drop 18) = b) := ⟨_, ⟨rfl⟩⟩
        refine (Ps.same1_ (Kd.C_below HT8.out hHeld) (Ps.hm_len _ _) (Nat.le_refl _) (Kd.C_below HC8.out hHeld) (by rw [List.length_drop, HMM.out]) (by omega) (by decide) (Ps.hm_bytes _ _) (fun x hx => HGB.out x (List.mem_of_mem_drop hx)) HSM.out).mono ?_
        rintro e w9 ⟨rfl, hb9⟩
        have HB9 := Aside0.mk (below_then hHeld hHeld.size hb9)
        clear hb9
        refine ⟨_, rfl, ?_⟩
        refine hK.out _ _ HB9.out (fun hHeld => ?_)
        clear hK K
        refine norm_ (a' := ?_) ?_ ?_
        rotate_left
        · show Act.put _ (some 45) _ = _
          simp only [Act.put, List.setIfInBounds_toArray, List.set_cons_zero, List.set_cons_succ]
          rfl
        refine pure_ (i := 4) (N := (some 46)) (v := ?_) (a' := ?_) #[true, true, true, true, true, false] rfl rfl (by kernel_rfl) (fun _ _ _ h => h) (Or.inl ⟨by rfl, ?_⟩) ?_ ?_
        rotate_left
        · intro w'
          go_simp
          with_reducible rfl
        rotate_left
        · simp only [Act.put, List.setIfInBounds_toArray, List.set_cons_zero, List.set_cons_succ]
          rfl
        refine pure_ (i := 5) (N := (some 41)) (v := ?_) (a' := ?_) #[true, true, true, true, true, true] rfl rfl (by kernel_rfl) (fun _ _ _ h => h) (Or.inl ⟨by rfl, ?_⟩) ?_ ?_
        rotate_left
        · intro w'
          go_simp
          with_reducible rfl
        rotate_left
        · simp only [Act.put, List.setIfInBounds_toArray, List.set_cons_zero, List.set_cons_succ]
          rfl
        refine done_ (by kernel_rfl) ?_
        refine NoPanic.normal ?_
        have HX9 := Aside0.mk (HX8.out.below_ HB9.out)
        have HB59 := Aside0.mk (below_then HB58.out HB58.out.size HB9.out)
        have HG19 := Aside0.mk (Kd.C_below HG18.out HB9.out)
        have HK9 := Aside0.mk (HK8.out.below_ HB9.out)
        have HX99 := Aside0.mk (HX98.out.below_ HB9.out)
        clear HX8 HK8 HX98 HC8 HG18 HB58 HT8 hHeld hsl HB9 hcutf
        cases sm with
        | false =>
          go_wp2_with (refine Wk.store_all rfl rfl 26 (.tmp 4) (.tmp 47) rfl w.heap.size Ps.zt4 rfl rfl 26 _ HX9.out HSK.out rfl rfl ?_; intro wz hX hO; have HXZ := Aside0.mk hX; have HOZ := Aside0.mk hO; clear hX hO)
          refine bodyPost_ret (Wk.res_ct rfl _ w.heap.size 26 _ _ rfl HXZ.out Tryd.underlying26 rfl HSK.out) rfl ?_
          refine ⟨?_, Wk.Only.below HB59.out HOZ.out (Nat.le_refl _)⟩
          rw [HFS.out, Ps.verdict, if_pos (by rw [HBD.out]; exact of_decide_eq_false HSM.out)]
          rfl
        | true =>
          have HV1 : Aside0 (Ps.check l s = if (Ps.tok (Ps.got s)).2.1 ∈ l1 then (Ps.zt, 53) else if (Ps.tok (Ps.got s)).2.2.2 = 0 ∨ (Ps.tok (Ps.got s)).2.2.2 > sx then (Ps.zt, 54) else (Ps.tok (Ps.got s), 0)) := ⟨by
            rw [HFS.out, Ps.verdict, if_neg (by rw [HBD.out]; exact fun h => h (of_decide_eq_true HSM.out))]⟩
          have c1 := HX99.out.at_ 4 rfl
          have c2 := HK9.out.at_ 1 rfl
          go_wp2_with fail
          obtain ⟨cn, HCN⟩ : ∃ b, Aside0 (decide (se ∈ l1) = b) := ⟨_, ⟨rfl⟩⟩
          refine (Ps.cont_ HG19.out HN1.out hc1 (by omega) HCN.out).mono ?_
          rintro e w10 ⟨rfl, hb10⟩
          have HX10 := Aside0.mk (HX9.out.below_ hb10)
          have HB10 := Aside0.mk (below_then HB59.out HB59.out.size hb10)
          have HK10 := Aside0.mk (HK9.out.below_ hb10)
          have HX910 := Aside0.mk (HX99.out.below_ hb10)
          clear HX9 HB59 HK9 HX99 HG19 hb10 c1 c2
          have HV2 : Aside0 (Ps.check l s = if se ∈ l1 then (Ps.zt, 53) else if sz = 0 ∨ sz > sx then (Ps.zt, 54) else ((ti, se, ro, sz), 0)) := ⟨by
            have := HV1.out
            rw [HTK.out] at this
            exact this⟩
          cases cn with
          | true =>
            go_wp2_with (refine Wk.store_all rfl rfl 26 (.tmp 4) (.tmp 54) rfl w.heap.size Ps.zt4 rfl rfl 26 _ HX10.out HSK.out rfl rfl ?_; intro wz hX hO; have HXZ := Aside0.mk hX; have HOZ := Aside0.mk hO; clear hX hO)
            refine bodyPost_ret (Wk.res_ct rfl _ w.heap.size 26 _ _ rfl HXZ.out Tryd.underlying26 rfl HSK.out) rfl ?_
            refine ⟨?_, Wk.Only.below HB10.out HOZ.out (Nat.le_refl _)⟩
            rw [HV2.out, if_pos (of_decide_eq_true HCN.out)]
            rfl
          | false =>
            have HV3 : Aside0 (Ps.check l s = if sz = 0 ∨ sz > sx then (Ps.zt, 54) else ((ti, se, ro, sz), 0)) := ⟨by rw [HV2.out, if_neg (of_decide_eq_false HCN.out)]⟩
            have c3 := HK10.out.at_ 3 rfl
            have c4 := HX910.out.at_ 3 rfl
            by_cases hz : sz = 0
            · have hzb : (sz == 0) = true := by simpa using hz
              go_wp2_with (refine Wk.store_all rfl rfl 26 (.tmp 4) (.tmp 64) rfl w.heap.size Ps.zt4 rfl rfl 26 _ HX10.out HSK.out rfl rfl ?_; intro wz hX hO; have HXZ := Aside0.mk hX; have HOZ := Aside0.mk hO; clear hX hO)
              refine bodyPost_ret (Wk.res_ct rfl _ w.heap.size 26 _ _ rfl HXZ.out Tryd.underlying26 rfl HSK.out) rfl ?_
              refine ⟨?_, Wk.Only.below HB10.out HOZ.out (Nat.le_refl _)⟩
              rw [HV3.out, if_pos (.inl hz)]
              rfl
            · have hzb : (sz == 0) = false := by simpa using hz
              by_cases hx : sz > sx
              · have hxb : sx < sz := hx
                go_wp2_with (refine Wk.store_all rfl rfl 26 (.tmp 4) (.tmp 64) rfl w.heap.size Ps.zt4 rfl rfl 26 _ HX10.out HSK.out rfl rfl ?_; intro wz hX hO; have HXZ := Aside0.mk hX; have HOZ := Aside0.mk hO; clear hX hO)
                refine bodyPost_ret (Wk.res_ct rfl _ w.heap.size 26 _ _ rfl HXZ.out Tryd.underlying26 rfl HSK.out) rfl ?_
                refine ⟨?_, Wk.Only.below HB10.out HOZ.out (Nat.le_refl _)⟩
                rw [HV3.out, if_pos (.inr hx)]
                rfl
              · have hrun : (Instr.loadAt 26 (.pointer (some ⟨g8, 0, none⟩))).run Tryd.prog w10 = .ok (.agg (Ps.tkc (ti, se, ro, sz)).toArray) w10 := Wk.run_load_blk (P := Tryd.prog) 26 g8 0 (Ps.tkc (ti, se, ro, sz)) _ HK10.out rfl Tryd.underlying26 rfl HSK.out
                go_wp2_with (first
                  | refine Wk.load rfl 26 (.tmp 8) rfl _ (.pointer (some ⟨g8, 0, none⟩)) rfl hrun ?_
                  | (refine Wk.store_all rfl rfl 26 (.tmp 4) (.tmp 65) rfl w.heap.size (Ps.tkc (ti, se, ro, sz)) rfl rfl 26 _ HX10.out HSK.out rfl rfl ?_; intro wz hX hO; have HXZ := Aside0.mk hX; have HOZ := Aside0.mk hO; clear hX hO))
                refine bodyPost_ret (Wk.res_ct rfl _ w.heap.size 26 _ _ rfl HXZ.out Tryd.underlying26 rfl HSK.out) rfl ?_
                refine ⟨?_, Wk.Only.below HB10.out HOZ.out (Nat.le_refl _)⟩
                rw [HV3.out, if_neg (fun h => h.elim hz (fun h => by omega))]
                rfl
      · have HHW : Aside0 (Below w6.heap.size w6 w6) := ⟨Below.refl _ _⟩
        refine two_ (i := 4) (j := 6) (Ni := some 39) (Nj := some 11) #[true, true, true, true, true, false, false, false] #[true, true, true, true, false, false, true, false] rfl rfl rfl rfl (by kernel_rfl) (by decide) (by decide) (fun K hK => ?_) (fun K hK => ?_)
        · refine value_ (w1 := w6.alloc (.cells #[.slice A2 18 c2] 22)) (v := .slice (some ⟨w6.heap.size, 0, none⟩) 1 1) (by rfl) rfl (by first | (go_simp; done) | (go_simp; rfl)) ?_
          have hce : (w6.alloc (.cells #[.slice A2 18 c2] 22)).cell? ⟨w6.heap.size, 0, none⟩ = some (.slice A2 18 c2) := Lit.cell_new w6 #[.slice A2 18 c2] 22 (0, 0) 0
          have hbn : Below w6.heap.size w6 (w6.alloc (.cells #[.slice A2 18 c2] 22)) := below_alloc (Below.refl _ _) _
          generalize World.alloc w6 (.cells #[.slice A2 18 c2] 22) = w4_w6 at *
          have HCE := Aside0.mk hce
          have hbt : Below w5.heap.size w5 w4_w6 := below_then hHeld hHeld.size hbn
          have HHN := Aside0.mk (below_then HHW.out HHW.out.size hbn)
          refine hK.out _ _ hbt (fun hHeld => ?_)
          clear hK K hbt hbn hce
          clear HHW; have HHW := HHN; clear HHN
          refine norm_ (a' := ?_) ?_ ?_
          rotate_left
          · show Act.put _ (some 39) _ = _
            simp only [Act.put, List.setIfInBounds_toArray, List.set_cons_zero, List.set_cons_succ]
            rfl
          refine two_ (i := 5) (j := 6) (Ni := some 40) (Nj := some 11) #[true, true, true, true, true, true, false, false] #[true, true, true, true, true, false, true, false] rfl rfl rfl rfl (by kernel_rfl) (by decide) (by decide) (fun K hK => ?_) (fun K hK => ?_)
          · refine call_ 25 #[.slice A0 n0 d0, .slice (some ⟨w6.heap.size, 0, none⟩) 1 1] (by rfl) rfl (by go_simp) ?_
            refine (HOF.out w4_w6 w6.heap.size hHeld HCE.out).mono ?_
            rintro e w5_w4_w6 ⟨rfl, hbn⟩
            refine ⟨_, rfl, ?_⟩
            have hbt : Below w5.heap.size w5 w5_w4_w6 := below_then hHeld hHeld.size hbn
            have HHN := Aside0.mk (below_then HHW.out HHW.out.size hbn)
            have HCE' := Aside0.mk ((hbn.cell (World.block_lt_of_cell? _ _ HCE.out)).trans HCE.out)
            refine hK.out _ _ hbt (fun hHeld => ?_)
            clear hK K hbt hbn
            clear HCE; have HCE := HCE'; clear HCE'
            clear HHW; have HHW := HHN; clear HHN
            refine norm_ (a' := ?_) ?_ ?_
            rotate_left
            · show Act.put _ (some 40) _ = _
              simp only [Act.put, List.setIfInBounds_toArray, List.set_cons_zero, List.set_cons_succ]
              rfl
            refine one_ (i := 6) (N := some 11) #[true, true, true, true, true, true, true, false] rfl rfl (by kernel_rfl) (by decide) (fun K hK => ?_)
            refine value_ (w1 := w5_w4_w6.alloc (.cells (Sh.u8s (List.replicate 32 0)) 59)) (v := .pointer (some ⟨w5_w4_w6.heap.size, 0, none⟩)) (by rfl) rfl (by first | (go_simp; done) | (go_simp; rfl)) ?_
            have hoe : (w5_w4_w6.alloc (.cells (Sh.u8s (List.replicate 32 0)) 59)).heap[w5_w4_w6.heap.size]? = some (.cells (Sh.u8s (List.replicate 32 0)) 59 (0, 0)) := heap_alloc_new w5_w4_w6 _
            have hbn : Below w5_w4_w6.heap.size w5_w4_w6 (w5_w4_w6.alloc (.cells (Sh.u8s (List.replicate 32 0)) 59)) := below_alloc (Below.refl _ _) _
            generalize World.alloc w5_w4_w6 (.cells (Sh.u8s (List.replicate 32 0)) 59) = w6_w5_w4_w6 at *
            have HOE := Aside0.mk hoe
            have hbt : Below w5.heap.size w5 w6_w5_w4_w6 := below_then hHeld hHeld.size hbn
            have HHN := Aside0.mk (below_then HHW.out HHW.out.size hbn)
            have HCE' := Aside0.mk ((hbn.cell (World.block_lt_of_cell? _ _ HCE.out)).trans HCE.out)
            have HGE : Aside0 (w6.heap.size ≤ w5_w4_w6.heap.size) := ⟨HHW.out.size⟩
            refine hK.out _ _ hbt (fun hHeld => ?_)
            clear hK K hbt hbn hoe
            clear HCE; have HCE := HCE'; clear HCE'
            clear HHW; have HHW := HHN; clear HHN
            refine norm_ (a' := ?_) ?_ ?_
            rotate_left
            · show Act.put _ (some 11) _ = _
              simp only [Act.put, List.setIfInBounds_toArray, List.set_cons_zero, List.set_cons_succ]
              rfl
            refine norm_ (a' := putAll _ ((fun s : Nat × Nat => [((39 : Tmp), Value.slice (some ⟨s.1, 0, none⟩) 1 1), (40, Value.agg D), (11, Value.pointer (some ⟨s.2, 0, none⟩))]) (w6.heap.size, w5_w4_w6.heap.size))) ?_ (hJ (w6.heap.size, w5_w4_w6.heap.size) w6_w5_w4_w6 ⟨HHW.out, HGE.out, HOE.out⟩)
            simp only [putAll, Act.put, List.setIfInBounds_toArray, List.set_cons_zero, List.set_cons_succ]
          · refine value_ (w1 := w4_w6.alloc (.cells (Sh.u8s (List.replicate 32 0)) 59)) (v := .pointer (some ⟨w4_w6.heap.size, 0, none⟩)) (by rfl) rfl (by first | (go_simp; done) | (go_simp; rfl)) ?_
            have hoe : (w4_w6.alloc (.cells (Sh.u8s (List.replicate 32 0)) 59)).heap[w4_w6.heap.size]? = some (.cells (Sh.u8s (List.replicate 32 0)) 59 (0, 0)) := heap_alloc_new w4_w6 _
            have hbn : Below w4_w6.heap.size w4_w6 (w4_w6.alloc (.cells (Sh.u8s (List.replicate 32 0)) 59)) := below_alloc (Below.refl _ _) _
            generalize World.alloc w4_w6 (.cells (Sh.u8s (List.replicate 32 0)) 59) = w6_w4_w6 at *
            have HOE := Aside0.mk hoe
            have hbt : Below w5.heap.size w5 w6_w4_w6 := below_then hHeld hHeld.size hbn
            have HHN := Aside0.mk (below_then HHW.out HHW.out.size hbn)
            have HCE' := Aside0.mk ((hbn.cell (World.block_lt_of_cell? _ _ HCE.out)).trans HCE.out)
            have HGE : Aside0 (w6.heap.size ≤ w4_w6.heap.size) := ⟨HHW.out.size⟩
            refine hK.out _ _ hbt (fun hHeld => ?_)
            clear hK K hbt hbn hoe
            clear HCE; have HCE := HCE'; clear HCE'
            clear HHW; have HHW := HHN; clear HHN
            refine norm_ (a' := ?_) ?_ ?_
            rotate_left
            · show Act.put _ (some 11) _ = _
              simp only [Act.put, List.setIfInBounds_toArray, List.set_cons_zero, List.set_cons_succ]
              rfl
            refine one_ (i := 5) (N := some 40) #[true, true, true, true, true, true, true, false] rfl rfl (by kernel_rfl) (by decide) (fun K hK => ?_)
            refine call_ 25 #[.slice A0 n0 d0, .slice (some ⟨w6.heap.size, 0, none⟩) 1 1] (by rfl) rfl (by go_simp) ?_
            refine (HOF.out w6_w4_w6 w6.heap.size hHeld HCE.out).mono ?_
            rintro e w5_w6_w4_w6 ⟨rfl, hbn⟩
            refine ⟨_, rfl, ?_⟩
            have hbt : Below w5.heap.size w5 w5_w6_w4_w6 := below_then hHeld hHeld.size hbn
            have HHN := Aside0.mk (below_then HHW.out HHW.out.size hbn)
            have HCE' := Aside0.mk ((hbn.cell (World.block_lt_of_cell? _ _ HCE.out)).trans HCE.out)
            have HOE' := Aside0.mk ((hbn.block _ (Array.getElem?_eq_some_iff.1 HOE.out).1).trans HOE.out)
            refine hK.out _ _ hbt (fun hHeld => ?_)
            clear hK K hbt hbn
            clear HCE; have HCE := HCE'; clear HCE'
            clear HOE; have HOE := HOE'; clear HOE'
            clear HHW; have HHW := HHN; clear HHN
            refine norm_ (a' := ?_) ?_ ?_
            rotate_left
            · show Act.put _ (some 40) _ = _
              simp only [Act.put, List.setIfInBounds_toArray, List.set_cons_zero, List.set_cons_succ]
              rfl
            refine norm_ (a' := putAll _ ((fun s : Nat × Nat => [((39 : Tmp), Value.slice (some ⟨s.1, 0, none⟩) 1 1), (40, Value.agg D), (11, Value.pointer (some ⟨s.2, 0, none⟩))]) (w6.heap.size, w4_w6.heap.size))) ?_ (hJ (w6.heap.size, w4_w6.heap.size) w5_w6_w4_w6 ⟨HHW.out, HGE.out, HOE.out⟩)
            simp only [putAll, Act.put, List.setIfInBounds_toArray, List.set_cons_zero, List.set_cons_succ]
        · refine value_ (w1 := w6.alloc (.cells (Sh.u8s (List.replicate 32 0)) 59)) (v := .pointer (some ⟨w6.heap.size, 0, none⟩)) (by rfl) rfl (by first | (go_simp; done) | (go_simp; rfl)) ?_
          have hoe : (w6.alloc (.cells (Sh.u8s (List.replicate 32 0)) 59)).heap[w6.heap.size]? = some (.cells (Sh.u8s (List.replicate 32 0)) 59 (0, 0)) := heap_alloc_new w6 _
          have hbn : Below w6.heap.size w6 (w6.alloc (.cells (Sh.u8s (List.replicate 32 0)) 59)) := below_alloc (Below.refl _ _) _
          generalize World.alloc w6 (.cells (Sh.u8s (List.replicate 32 0)) 59) = w6_w6 at *
          have HOE := Aside0.mk hoe
          have hbt : Below w5.heap.size w5 w6_w6 := below_then hHeld hHeld.size hbn
          have HHN := Aside0.mk (below_then HHW.out HHW.out.size hbn)
          have HGE : Aside0 (w6.heap.size ≤ w6.heap.size) := ⟨HHW.out.size⟩
          refine hK.out _ _ hbt (fun hHeld => ?_)
          clear hK K hbt hbn hoe
          clear HHW; have HHW := HHN; clear HHN
          refine norm_ (a' := ?_) ?_ ?_
          rotate_left
          · show Act.put _ (some 11) _ = _
            simp only [Act.put, List.setIfInBounds_toArray, List.set_cons_zero, List.set_cons_succ]
            rfl
          refine one_ (i := 4) (N := some 39) #[true, true, true, true, true, false, true, false] rfl rfl (by kernel_rfl) (by decide) (fun K hK => ?_)
          refine value_ (w1 := w6_w6.alloc (.cells #[.slice A2 18 c2] 22)) (v := .slice (some ⟨w6_w6.heap.size, 0, none⟩) 1 1) (by rfl) rfl (by first | (go_simp; done) | (go_simp; rfl)) ?_
          have hce : (w6_w6.alloc (.cells #[.slice A2 18 c2] 22)).cell? ⟨w6_w6.heap.size, 0, none⟩ = some (.slice A2 18 c2) := Lit.cell_new w6_w6 #[.slice A2 18 c2] 22 (0, 0) 0
          have hbn : Below w6_w6.heap.size w6_w6 (w6_w6.alloc (.cells #[.slice A2 18 c2] 22)) := below_alloc (Below.refl _ _) _
          generalize World.alloc w6_w6 (.cells #[.slice A2 18 c2] 22) = w4_w6_w6 at *
          have HCE := Aside0.mk hce
          have hbt : Below w5.heap.size w5 w4_w6_w6 := below_then hHeld hHeld.size hbn
          have HHN := Aside0.mk (below_then HHW.out HHW.out.size hbn)
          have HOE' := Aside0.mk ((hbn.block _ (Array.getElem?_eq_some_iff.1 HOE.out).1).trans HOE.out)
          refine hK.out _ _ hbt (fun hHeld => ?_)
          clear hK K hbt hbn hce
          clear HOE; have HOE := HOE'; clear HOE'
          clear HHW; have HHW := HHN; clear HHN
          refine norm_ (a' := ?_) ?_ ?_
          rotate_left
          · show Act.put _ (some 39) _ = _
            simp only [Act.put, List.setIfInBounds_toArray, List.set_cons_zero, List.set_cons_succ]
            rfl
          refine one_ (i := 5) (N := some 40) #[true, true, true, true, true, true, true, false] rfl rfl (by kernel_rfl) (by decide) (fun K hK => ?_)
          refine call_ 25 #[.slice A0 n0 d0, .slice (some ⟨w6_w6.heap.size, 0, none⟩) 1 1] (by rfl) rfl (by go_simp) ?_
          refine (HOF.out w4_w6_w6 w6_w6.heap.size hHeld HCE.out).mono ?_
          rintro e w5_w4_w6_w6 ⟨rfl, hbn⟩
          refine ⟨_, rfl, ?_⟩
          have hbt : Below w5.heap.size w5 w5_w4_w6_w6 := below_then hHeld hHeld.size hbn
          have HHN := Aside0.mk (below_then HHW.out HHW.out.size hbn)
          have HCE' := Aside0.mk ((hbn.cell (World.block_lt_of_cell? _ _ HCE.out)).trans HCE.out)
          have HOE' := Aside0.mk ((hbn.block _ (Array.getElem?_eq_some_iff.1 HOE.out).1).trans HOE.out)
          refine hK.out _ _ hbt (fun hHeld => ?_)
          clear hK K hbt hbn
          clear HCE; have HCE := HCE'; clear HCE'
          clear HOE; have HOE := HOE'; clear HOE'
          clear HHW; have HHW := HHN; clear HHN
          refine norm_ (a' := ?_) ?_ ?_
          rotate_left
          · show Act.put _ (some 40) _ = _
            simp only [Act.put, List.setIfInBounds_toArray, List.set_cons_zero, List.set_cons_succ]
            rfl
          refine norm_ (a' := putAll _ ((fun s : Nat × Nat => [((39 : Tmp), Value.slice (some ⟨s.1, 0, none⟩) 1 1), (40, Value.agg D), (11, Value.pointer (some ⟨s.2, 0, none⟩))]) (w6_w6.heap.size, w6.heap.size))) ?_ (hJ (w6_w6.heap.size, w6.heap.size) w5_w4_w6_w6 ⟨HHW.out, HGE.out, HOE.out⟩)
          simp only [putAll, Act.put, List.setIfInBounds_toArray, List.set_cons_zero, List.set_cons_succ]
end Go.Proofs.YtabdnlecpndfjaaDoor
set_option linter.unusedVariables false
set_option linter.unusedSimpArgs false
namespace Go.Proofs.YtabdnlecpndfjaaDoor
open Go.RowKit Go.Proofs.YtabdnlecpndfjaaDoor.PBase Go.Proofs.YtabdnlecpndfjaaDoorW.PrintWords Go.Proofs.YtabdnlecpndfjaaDoorW.PrintLast Go.Proofs.YtabdnlecpndfjaaDoorW.PrintMore
namespace Ps
theorem row1 {W : World} {g : Nat} {x : Tn} {A0 A1 : Option Addr} {c0 c1 : Nat} {T : TypeId} (hb : Wk.Blk W g T (tnc x A0 c0 A1 c1)) (l0 : x.f1.length ≤ c0) (g0 : Kd.C (Kd.int .u8) W A0 x.f1.length x.f1) (l1 : x.f4.length ≤ c1) (g1 : Kd.C (Kd.int .u32) W A1 x.f4.length x.f4) : kTn.C W (some ⟨g, 0, none⟩) 1 [x] := by
  refine ⟨rfl, by decide, fun _ => ⟨_, rfl, fun j p hj => ?_⟩⟩
  cases j with
  | zero =>
    obtain rfl : x = p := by simpa using hj
    refine ⟨tnc x A0 c0 A1 c1, rfl, PBase.k42_mk W x l0 g0 l1 g1, fun i u hu => ?_⟩
    have : (⟨g, 0, none⟩ : Addr).add (0 * 5 + i) = ⟨g, i, none⟩ := by rw [Nat.zero_mul, Nat.zero_add, add_plain]
    change W.cell? ((⟨g, 0, none⟩ : Addr).add (0 * 5 + i)) = some u
    rw [this]
    exact hb.at_ i hu
  | succ j => simp at hj
theorem conv1 (w : World) (o : Obj) (b : Value) : (convert 22 22 (.slice (some ⟨w.heap.size + 1, 0, none⟩) 1 1)).run Tryd.prog ((w.alloc o).alloc (.cells #[b] 5)) = .ok (.slice (some ⟨w.heap.size + 1, 0, none⟩) 1 1) ((w.alloc o).alloc (.cells #[b] 5 (1, 2))) := by
  have := Lib.run_convert_bytes_const (P := Tryd.prog) (w.alloc o) 22 5 #[b] 1 1 Tryd.underlying22 Tryd.underlying5
  rw [show (#[b] : Array Value).size = 1 from rfl, show (w.alloc o).heap.size = w.heap.size + 1 by show (w.heap.push _).size = _; simp] at this
  exact this
theorem heap3a (h : Array Obj) (a b c : Obj) : (((h.push a).push b).push c)[h.size]? = some a ∧ (((h.push a).push b).push c)[h.size + 1]? = some b ∧ (((h.push a).push b).push c)[h.size + 1 + 1]? = some c := by
  refine ⟨?_, ?_, ?_⟩
  · rw [Array.getElem?_push_lt (by simp; omega), Array.getElem_push_lt (by simp), Array.getElem_push_eq]
  · rw [Array.getElem?_push_lt (by simp), ← Array.getElem?_eq_getElem]
    have := Array.getElem?_push_size (xs := h.push a) (x := b)
    rwa [Array.size_push] at this
  · have := Array.getElem?_push_size (xs := (h.push a).push b) (x := c)
    rwa [Array.size_push, Array.size_push] at this
theorem heap3 (w : World) (a b c : Obj) : (((w.alloc a).alloc b).alloc c).heap[w.heap.size]? = some a ∧ (((w.alloc a).alloc b).alloc c).heap[w.heap.size + 1]? = some b ∧ (((w.alloc a).alloc b).alloc c).heap[w.heap.size + 1 + 1]? = some c ∧ Below w.heap.size w (((w.alloc a).alloc b).alloc c) :=
  ⟨(heap3a w.heap a b c).1, (heap3a w.heap a b c).2.1, (heap3a w.heap a b c).2.2, below_alloc (below_alloc (below_alloc (Below.refl _ _) _) _) _⟩
theorem iss_size (k : List Int) (t : Tk) : (iss k t).size = 80 := by
  show (ByteArray.mk (Sp.enc (Sp.bitsOf (sealed k t))).toArray).size = 80
  have : (Sp.enc (Sp.bitsOf (sealed k t))).length = 80 := by rw [Sp.enc_length, Sp.bitsOf_length, sealed_len]
  rw [← this]
  exact List.size_toArray
abbrev xk : Tk := (1, 2, false, 3)
abbrev xt : Tn := ⟨1, [108], 0, 5, []⟩
theorem body_k : body xk = [1, 0, 0, 0, 1, 0, 0, 0, 2, 0, 0, 0, 0, 0, 0, 0, 3, 0] := by kernel_rfl
theorem hm_k : Sh.hm [107] [1, 0, 0, 0, 1, 0, 0, 0, 2, 0, 0, 0, 0, 0, 0, 0, 3, 0] = [24, 249, 245, 206, 108, 233, 185, 88, 241, 239, 36, 25, 8, 110, 205, 119, 64, 115, 129, 106, 36, 47, 168, 185, 135, 80, 193, 223, 16, 89, 15, 230] := by kernel_rfl
theorem hm_l : Sh.hm [108] [1, 0, 0, 0, 1, 0, 0, 0, 2, 0, 0, 0, 0, 0, 0, 0, 3, 0] = [80, 160, 238, 212, 173, 232, 82, 25, 187, 107, 222, 108, 37, 116, 40, 180, 38, 103, 34, 211, 99, 60, 155, 229, 253, 22, 147, 197, 12, 83, 32, 25] := by kernel_rfl
theorem xk_wf : TkWf xk := by unfold TkWf; decide
theorem check_iss (l : List Tn) (k : List Int) (t : Tk) (h : TkWf t) : check l (iss k t) = match find l t.1 with | none => (zt, 51) | some x => verdict x (sealed k t) := by
  obtain ⟨h1, h2⟩ := got_iss k t
  unfold check
  rw [if_pos h2, h1, show tok (sealed k t) = t from tok_body t _ h]
  cases find l t.1 <;> rfl
theorem known_check : check [xt] (iss [107] xk) = (zt, 52) := by
  rw [check_iss _ _ _ xk_wf]
  show verdict xt (sealed [107] xk) = _
  unfold verdict
  rw [sealed_take, sealed_drop, body_k, hm_k]
  show (if Sh.hm [108] _ ≠ _ then _ else _) = _
  rw [hm_l, if_pos (by decide)]
end Ps
set_option maxHeartbeats 2000000 in
set_option maxRecDepth 100000 in
theorem known_.calls (w : World) (hk : Sh.Ks w) :
    Calls Tryd.prog 10 #[] w fun e w' => e = .returned (.bool true) ∧ Below w.heap.size w w' := by
  have HK := Aside0.mk hk
  clear hk
  have hcv1 := Ps.conv1 w (.cells #[.int .u32 1, .int .u32 2, .bool false, .int .u64 3] 26) (.int .u8 107)
  go_enter Tryd.func10, Tryd.ntmps10
  go_wp2_with fail
  generalize hWq : World.alloc (World.alloc w _) _ = W1
  have HB1 : Aside0 (Below w.heap.size w W1) := ⟨by rw [← hWq]; exact below_alloc (below_alloc (Below.refl _ _) _) _⟩
  have HX1 : Aside0 (Wk.Blk W1 w.heap.size 26 (Ps.tkc Ps.xk)) := ⟨by rw [← hWq]; exact (Wk.Blk.new w _ (Ps.tkc Ps.xk)).alloc _⟩
  have HC1 : Aside0 (Kd.C (Kd.int .u8) W1 (some ⟨w.heap.size + 1, 0, none⟩) 1 [107]) := ⟨by
    have h2 : W1.heap[w.heap.size + 1]? = some (.cells #[.int .u8 107] 5 (1, 2)) := by
      rw [← hWq]
      have := heap_alloc_new (w.alloc (.cells #[.int .u32 1, .int .u32 2, .bool false, .int .u64 3] 26)) (.cells #[.int .u8 107] 5 (1, 2))
      rwa [show (w.alloc (.cells #[.int .u32 1, .int .u32 2, .bool false, .int .u64 3] 26)).heap.size = w.heap.size + 1 by show (w.heap.push _).size = _; simp] at this
    exact Lit.reads_block h2 .u8 [107] rfl (by decide)⟩
  clear hWq hcv1
  obtain ⟨s1, HS1⟩ : ∃ s, Aside0 (Ps.iss [107] (1, 2, false, 3) = s) := ⟨_, ⟨rfl⟩⟩
  have HSS : Aside0 (s1.size = 80) := ⟨by rw [← HS1.out]; exact Ps.iss_size _ _⟩
  refine (issue_.calls (some ⟨w.heap.size + 1, 0, none⟩) 1 1 [107] 1 2 false 3 W1 (HK.out.below HB1.out) HC1.out rfl (Nat.le_refl _) (fun x hx => by rw [List.mem_singleton.1 hx]; decide) (by decide) Ps.xk_wf).mono ?_
  rintro e w2 ⟨rfl, hb2⟩
  rw [HS1.out]
  have HB2 := Aside0.mk (below_then HB1.out HB1.out.size hb2)
  have HX2 := Aside0.mk (HX1.out.below_ hb2)
  clear hb2 HB1 HX1 HC1
  go_wp2_with fail
  refine (pass_Look.calls 200 s1 1 2 false 3 0 w2 (by
    rw [Ps.look_is s1 (by rw [HSS.out]; decide) 200 (by rw [HSS.out]; decide), ← HS1.out, Ps.look_iss _ _ Ps.xk_wf])).mono ?_
  rintro e w3 ⟨rfl, hb3⟩
  have HB3 := Aside0.mk (below_then HB2.out HB2.out.size hb3)
  have HX3 := Aside0.mk (HX2.out.below_ hb3)
  clear hb3 HB2 HX2
  have hcv2 := Ps.conv1 w3 (.cells #[.int .u32 1, .int .u32 2, .bool false, .int .u64 3] 26) (.int .u8 108)
  go_wp2_with fail
  generalize hWq : World.alloc (World.alloc (World.alloc w3 _) _) _ = W4
  obtain ⟨e0, e1, e2, hb4⟩ : W4.heap[w3.heap.size]? = some (.cells #[.int .u32 1, .int .u32 2, .bool false, .int .u64 3] 26 (0, 0)) ∧ W4.heap[w3.heap.size + 1]? = some (.cells #[.int .u8 108] 5 (1, 2)) ∧ W4.heap[w3.heap.size + 1 + 1]? = some (.cells #[.int .u32 1, .slice (some ⟨w3.heap.size + 1, 0, none⟩) 1 1, .int .u64 0, .int .u64 5, .slice none 0 0] 42 (0, 0)) ∧ Below w3.heap.size w3 W4 := by rw [← hWq]; exact Ps.heap3 w3 _ _ _
  have HB4 := Aside0.mk (below_then HB3.out HB3.out.size hb4)
  have HX4 := Aside0.mk (HX3.out.below_ hb4)
  have HY4 : Aside0 (Wk.Blk W4 w3.heap.size 26 (Ps.tkc Ps.xk)) := ⟨⟨e0⟩⟩
  have HR4 : Aside0 (Ps.kTn.C W4 (some ⟨w3.heap.size + 1 + 1, 0, none⟩) 1 [Ps.xt]) := ⟨Ps.row1 (T := 42) (A0 := some ⟨w3.heap.size + 1, 0, none⟩) (c0 := 1) (A1 := none) (c1 := 0) ⟨e2⟩ (Nat.le_refl _) (Lit.reads_block e1 .u8 [108] rfl (by decide)) (Nat.le_refl _) (Kd.C_nil _ _)⟩
  clear hWq hcv2 e0 e1 e2 hb4 HB3 HX3
  have hxw : ∀ x ∈ [Ps.xt], Ps.TnWf x := fun x hx => by
    rw [List.mem_singleton.1 hx]
    exact ⟨⟨by decide, by decide⟩, by decide, by decide, fun y hy => by rw [List.mem_singleton.1 hy]; decide⟩
  have HXW := Aside0.mk hxw
  clear hxw
  refine (new_pass.calls (some ⟨w3.heap.size + 1 + 1, 0, none⟩) 1 1 [Ps.xt] W4 HR4.out rfl HXW.out).mono ?_
  rintro e w5 ⟨hb5, ⟨h, -⟩ | ⟨-, h, -⟩ | ⟨-, -, p, rfl, hTb⟩⟩
  · exact absurd h (by decide)
  · exact absurd h (by decide)
  have HB5 := Aside0.mk (below_then HB4.out HB4.out.size hb5)
  have HX5 := Aside0.mk (HX4.out.below_ hb5)
  have HY5 := Aside0.mk (HY4.out.below_ hb5)
  have HT5 := Aside0.mk hTb
  clear hTb hb5 HB4 HX4 HY4 HR4
  go_wp2_with fail
  refine (check_.calls p W4.heap.size [Ps.xt] s1 w5 (HK.out.below HB5.out) HT5.out (by rw [HSS.out]; decide) HXW.out).mono ?_
  rintro e w6 ⟨rfl, hb6⟩
  have HCK : Aside0 (Ps.check [Ps.xt] s1 = (Ps.zt, 52)) := ⟨by rw [← HS1.out]; exact Ps.known_check⟩
  rw [HCK.out]
  have HB6 := Aside0.mk (below_then HB5.out HB5.out.size hb6)
  have HX6 := Aside0.mk (HX5.out.below_ hb6)
  have HY6 := Aside0.mk (HY5.out.below_ hb6)
  clear hb6 HB5 HX5 HY5 HT5
  generalize hWq : World.alloc w6 (.cells #[.int .u32 0, .int .u32 0, .bool false, .int .u64 0] 26) = w7
  have hb7 : Below w6.heap.size w6 w7 := by rw [← hWq]; exact below_alloc (Below.refl _ _) _
  have HB7 := Aside0.mk (below_then HB6.out HB6.out.size hb7)
  have x0 := (HX6.out.below_ hb7).at_ 0 rfl
  have x1 := (HX6.out.below_ hb7).at_ 1 rfl
  have x2 := (HX6.out.below_ hb7).at_ 2 rfl
  have x3 := (HX6.out.below_ hb7).at_ 3 rfl
  have y0 := (HY6.out.below_ hb7).at_ 0 rfl
  have y1 := (HY6.out.below_ hb7).at_ 1 rfl
  have y2 := (HY6.out.below_ hb7).at_ 2 rfl
  have y3 := (HY6.out.below_ hb7).at_ 3 rfl
  simp only [Ps.zt]
  rw [← hWq] at x0 x1 x2 x3 y0 y1 y2 y3 HB7
  clear hb7 hWq
  go_wp2_with fail
  go_ret
  exact ⟨rfl, HB7.out⟩
end Go.Proofs.YtabdnlecpndfjaaDoor
namespace Go.Proofs.YtabdnlecpndfjaaDoor
open Go.ChangeShapes Go.WideShapes Go.ChangeAt Go.RowKit
set_option linter.unusedVariables false
theorem own : ownKnob Tryd.prog.godebug = none := by kernel_rfl
abbrev keysLaid : List (String × DataW Unit) := [("coaming/sha.keys", Rows.laid_coaming_sha_keys)]
theorem gKeys : Tryd.prog.globalNamed "coaming/sha.keys" = some 0 := by kernel_rfl
theorem tKeys : (Tryd.prog.globals[0]?).map (·.type) = some 108 := by kernel_rfl
theorem door_met (os : Os) (args : Array Value) : laidMetH Tryd.prog keysLaid ((World.doorLaid Tryd.prog 400 os).forCall (fun _ _ => 0) ⟨#[], args, []⟩).memory :=
  laidMetH_of_parts3 (fuel := 8) (laidMet_of_run' 8 (by kernel_rfl) (by kernel_rfl)) (by kernel_rfl) (by kernel_rfl)
theorem laid_at : (Rows.laid_coaming_sha_keys (H := Unit)) = .agg (Sh.keys.map fun k => .lit (.int .u32 k)) := rfl
theorem of_laid {W : World} (h : laidMetH Tryd.prog keysLaid W) : Sh.Ks W := by
  rw [MakeChecks.laidMetH_plain _ _ _ (by kernel_rfl)] at h
  obtain ⟨ps, ⟨g0, t0, cs0, f0, p0, q0, hg0, ht0, hv0, hd0, _, _⟩, _, _⟩ := h
  obtain rfl := Option.some.inj (gKeys.symm.trans hg0)
  obtain rfl := Option.some.inj (tKeys.symm.trans ht0)
  rw [laid_at] at hd0
  obtain ⟨xs, m1, rfl, hx1, hlen, hn3, hel⟩ := DataW.trod_array Tryd.underlying108 hd0
  have c38 : Tryd.prog.cellsOf 23 = 1 := by kernel_rfl
  intro i hi
  have h0 := hel i hi
  rw [c38, Nat.mul_one] at h0
  simp only [Prod.mk.injEq, DataW.agg.injEq] at hx1
  have hix : i < xs.length := by omega
  rw [List.getElem?_eq_getElem hix] at h0
  obtain ⟨k, e1, e2, _⟩ := DataW.trod_int Tryd.underlying23 h0
  have hk : (xs.map (·.1))[i]? = some (.lit (.int .u32 k)) := by rw [List.getElem?_map, List.getElem?_eq_getElem hix, e2]; rfl
  rw [← hx1.1, List.getElem?_map] at hk
  have hki : Sh.keys[i]? = some (Sh.keys.getD i 0) := by
    rw [List.getD_eq_getElem?_getD, List.getElem?_eq_getElem (by exact hi)]; rfl
  rw [hki] at hk
  have hkk : Sh.keys.getD i 0 = k := by simpa using hk
  rw [World.var?_cell hg0 hv0 i, hkk]
  have hc : (cs0.toList.drop i).take 1 = [.int .u32 k] := e1
  have : cs0.toList[i]? = some (.int .u32 k) := by
    have h2 : ((cs0.toList.drop i).take 1)[0]? = some (.int .u32 k) := by rw [hc]; rfl
    rw [List.getElem?_take, if_pos (by decide), List.getElem?_drop, Nat.add_zero] at h2
    exact h2
  simpa using this
def IsRow (k : IntKind) (w : World) (a : Option Addr) (len cap : Nat) (zs : List Int) : Prop :=
  (a = none ∧ len = 0 ∧ cap = 0 ∧ zs = []) ∨
  ∃ x, a = some x ∧ len ≤ cap ∧ cap ≤ maxLen ∧ zs.length = cap ∧ (∀ i, i < zs.length → w.cell? (x.add i) = some (.int k (zs.getD i 0))) ∧ ∀ n ∈ zs, (Lit.int k n).wf = true
open Go.Proofs.YtabdnlecpndfjaaDoorW.PrintWords in
theorem IsRow.reads {W : World} {a : Option Addr} {len cap : Nat} {zs : List Int} (h : IsRow .u8 W a len cap zs) : ∃ l : List Int, l.length = len ∧ l.length ≤ cap ∧ l.length ≤ 9223372036854775807 ∧ Sh.Bytes l ∧ Kd.C (Kd.int .u8) W a l.length l := by
  rcases h with ⟨rfl, rfl, rfl, rfl⟩ | ⟨x, rfl, h1, h2, h3, h4, h5⟩
  · exact ⟨[], rfl, Nat.le_refl _, by simp, (by intro y hy; cases hy), Kd.C_of_reads (d := 0) ⟨rfl, by simp, fun h => absurd h (by simp)⟩⟩
  · have hm : maxLen ≤ 9223372036854775807 := by decide
    have hl : (zs.take len).length = len := by rw [List.length_take]; omega
    refine ⟨zs.take len, hl, by omega, by omega, ?_, ?_⟩
    · intro y hy
      have := h5 y (List.mem_of_mem_take hy)
      simp only [Lit.wf, IntKind.min, IntKind.max, IntKind.signed, IntKind.bits] at this
      simp at this
      omega
    · refine Kd.C_of_reads (d := 0) ⟨rfl, by omega, fun _ => ⟨x, rfl, fun j hj => ?_⟩⟩
      rw [h4 j (by omega)]
      rw [List.getD_eq_getElem?_getD, List.getD_eq_getElem?_getD, List.getElem?_take, if_pos (by omega)]
end Go.Proofs.YtabdnlecpndfjaaDoor
set_option linter.unusedVariables false
set_option linter.unusedSimpArgs false
namespace Go.Proofs.YtabdnlecpndfjaaDoor
open Go.RowKit Go.Proofs.YtabdnlecpndfjaaDoor.PBase Go.Proofs.YtabdnlecpndfjaaDoorW.PrintWords Go.Proofs.YtabdnlecpndfjaaDoorW.PrintLast Go.Proofs.YtabdnlecpndfjaaDoorW.PrintMore
set_option maxHeartbeats 2000000 in
set_option maxRecDepth 100000 in
theorem passLooks_.calls (s : ByteArray) (W : World) (hk : Sh.Ks W) (hw : s.size ≤ maxLen) :
    Calls Tryd.prog 4 #[.string s] W fun e w' => e = .returned (.bool true) ∧ Below W.heap.size W w' := by
  have HK := Aside0.mk hk
  have HRF : Aside0 (Below W.heap.size W W) := ⟨Below.refl _ _⟩
  clear hk hw
  obtain ⟨n, HN⟩ : ∃ n, Aside0 (s.size = n) := ⟨_, ⟨rfl⟩⟩
  obtain ⟨ti, se, ro, sz, er, HLK, her⟩ : ∃ ti se ro sz er, Aside0 (Ps.look s = ((ti, se, ro, sz), er)) ∧ (er = 0 ∨ er = 50) := by
    unfold Ps.look
    by_cases h : Ps.is s = true
    · rw [if_pos h]
      exact ⟨_, _, _, _, _, ⟨rfl⟩, .inl rfl⟩
    · rw [if_neg h]
      exact ⟨_, _, _, _, _, ⟨rfl⟩, .inr rfl⟩
  by_cases h : n > 400
  · have hsz : (s.size : Int) > 400 := by rw [HN.out]; omega
    go_enter Tryd.func4, Tryd.ntmps4
    go_wp2_with fail
    go_ret
    exact ⟨rfl, HRF.out⟩
  · have hsz : ¬ (s.size : Int) > 400 := by rw [HN.out]; omega
    have HH := Aside0.mk h
    clear h
    go_enter Tryd.func4, Tryd.ntmps4
    go_wp2_with fail
    clear hsz
    refine (pass_Look.calls 700000000 s ti se ro sz er W (by
      rw [Ps.look_is s (by have := HN.out; have := HH.out; omega) _ (by have := HN.out; have := HH.out; omega), HLK.out])).mono ?_
    rintro e w1 ⟨rfl, hb1⟩
    have HB1 := Aside0.mk hb1
    clear hb1
    go_wp2_with fail
    generalize hWq : World.alloc w1 _ = w2
    have HB2' : Aside0 (Below w1.heap.size w1 w2) := ⟨by rw [← hWq]; exact below_alloc (Below.refl _ _) _⟩
    have HX2 : Aside0 (Wk.Blk w2 w1.heap.size 26 (Ps.tkc (ti, se, ro, sz))) := ⟨by rw [← hWq]; exact Wk.Blk.new w1 _ (Ps.tkc (ti, se, ro, sz))⟩
    have HB2 := Aside0.mk (below_then HB1.out HB1.out.size HB2'.out)
    obtain ⟨g1, HG1⟩ : ∃ b, Aside0 (w1.heap.size = b) := ⟨_, ⟨rfl⟩⟩
    rw [HG1.out] at HX2 ⊢
    clear hWq HB2' HB1 HG1
    refine (coamingref05_Look.calls 700000001 s ti se ro sz er w2 (by
      rw [Ps.rlook_is s (by have := HN.out; have := HH.out; omega) _ (by decide), HLK.out])).mono ?_
    rintro e w3 ⟨rfl, hb3⟩
    have HB3 := Aside0.mk (below_then HB2.out HB2.out.size hb3)
    have HX3 := Aside0.mk (HX2.out.below_ hb3)
    clear hb3 HX2 HB2
    go_wp2_with fail
    generalize hWq : World.alloc w3 _ = w4
    have HB4' : Aside0 (Below w3.heap.size w3 w4) := ⟨by rw [← hWq]; exact below_alloc (Below.refl _ _) _⟩
    have HY4 : Aside0 (Wk.Blk w4 w3.heap.size 26 (Ps.tkc (ti, se, ro, sz))) := ⟨by rw [← hWq]; exact Wk.Blk.new w3 _ (Ps.tkc (ti, se, ro, sz))⟩
    have HX4 := Aside0.mk (HX3.out.below_ HB4'.out)
    have HB4 := Aside0.mk (below_then HB3.out HB3.out.size HB4'.out)
    obtain ⟨g3, HG3⟩ : ∃ b, Aside0 (w3.heap.size = b) := ⟨_, ⟨rfl⟩⟩
    rw [HG3.out] at HY4 ⊢
    clear hWq HB4' HB3 HX3 HG3
    refine (known_.calls w4 (HK.out.below HB4.out)).mono ?_
    rintro e w5 ⟨rfl, hb5⟩
    have HB5 := Aside0.mk (below_then HB4.out HB4.out.size hb5)
    have x0 := (HX4.out.below_ hb5).at_ 0 rfl
    have x1 := (HX4.out.below_ hb5).at_ 1 rfl
    have x2 := (HX4.out.below_ hb5).at_ 2 rfl
    have x3 := (HX4.out.below_ hb5).at_ 3 rfl
    have y0 := (HY4.out.below_ hb5).at_ 0 rfl
    have y1 := (HY4.out.below_ hb5).at_ 1 rfl
    have y2 := (HY4.out.below_ hb5).at_ 2 rfl
    have y3 := (HY4.out.below_ hb5).at_ 3 rfl
    simp only at x0 x1 x2 x3 y0 y1 y2 y3
    clear hb5 HX4 HY4 HB4
    rcases her with rfl | rfl
    · go_wp2_with fail
      go_ret
      exact ⟨rfl, HB5.out⟩
    · go_wp2_with fail
      go_ret
      exact ⟨rfl, HB5.out⟩
end Go.Proofs.YtabdnlecpndfjaaDoor
