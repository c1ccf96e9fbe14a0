/- The contract of spell.Write. -/
import Derived.Test.YtojecbigcamedaaSpellB
import Derived.Test.YtojecbigcamedaaBits
import Derived.Test.YtojecbigcamedaaWWords
import Derived.Deep.LoopGhost
import Derived.Outline
set_option linter.unusedVariables false
set_option linter.unusedSimpArgs false
namespace Go.Proofs.Ytojecbigcamedaa
open Go.RowKit Go.Proofs.YtojecbigcamedaaW.PrintWords

def sgs : List UInt8 := [97, 98, 99, 100, 101, 102, 103, 104, 105, 106, 107, 108, 109, 110, 111, 112, 113, 114, 115, 116, 117, 118, 119, 120, 121, 122, 50, 51, 52, 53, 54, 55]
def sg (i : Int) : UInt8 := sgs.getD i.toNat 0
/-- signs while there are five bits -/
def spell_Write.inn : Nat → Int → Int → List UInt8 → List UInt8 × Int
  | 0, _, n, o => (o, n)
  | k + 1, h, n, o => if 5 ≤ n then spell_Write.inn k h (n - 5) (o ++ [sg (h / 2 ^ (n - 5).toNat % 32)]) else (o, n)
/-- byte by byte: what is held, how many bits these are, what is written -/
def spell_Write.go : List Int → Int → Int → List UInt8 → List UInt8 × Int × Int
  | [], h, n, o => (o, h, n)
  | x :: xs, h, n, o => spell_Write.go xs ((h * 256 + x) % 2 ^ (spell_Write.inn 3 (h * 256 + x) (n + 8) o).2.toNat) (spell_Write.inn 3 (h * 256 + x) (n + 8) o).2 (spell_Write.inn 3 (h * 256 + x) (n + 8) o).1
def spell_Write.fin (p : List UInt8 × Int × Int) : List UInt8 := if 0 < p.2.2 then p.1 ++ [sg (p.2.1 * 2 ^ (5 - p.2.2).toNat % 32)] else p.1
def spell_Write.f (l : List Int) : Option ByteArray := if l.length ≤ 1099511627776 ∧ ∀ x ∈ l, 0 ≤ x ∧ x ≤ 255 then some ⟨(spell_Write.fin (spell_Write.go l 0 0 [])).toArray⟩ else none

theorem sg_at (i : Int) (h0 : 0 ≤ i) (h1 : i < 32) (h : i.toNat < 32) : (Value.int .u8 ↑((ByteArray.mk #[97, 98, 99, 100, 101, 102, 103, 104, 105, 106, 107, 108, 109, 110, 111, 112, 113, 114, 115, 116, 117, 118, 119, 120, 121, 122, 50, 51, 52, 53, 54, 55])[i.toNat]'h).toNat) = .int .u8 ↑(sg i).toNat := by
  have e : (ByteArray.mk #[97, 98, 99, 100, 101, 102, 103, 104, 105, 106, 107, 108, 109, 110, 111, 112, 113, 114, 115, 116, 117, 118, 119, 120, 121, 122, 50, 51, 52, 53, 54, 55])[i.toNat]'h = sg i := by
    unfold sg sgs
    rw [List.getD_eq_getElem?_getD, List.getElem?_eq_getElem (by simpa using h)]
    rfl
  rw [e]

set_option maxHeartbeats 1000000 in
set_option maxRecDepth 100000 in
theorem spell_Write.calls (A0 : Option Addr) (c0 : Nat) (l0 : List Int) (r : ByteArray) (w : World) (hr0 : Kd.C (Kd.int .u8) w A0 l0.length l0) (hc0 : l0.length ≤ c0) (h : spell_Write.f l0 = some r) :
    Calls Try.prog 9 #[.slice A0 l0.length c0] w fun e w' => e = .returned (.string r) ∧ Below w.heap.size w w' := by
  have HR0 := Aside0.mk hr0
  clear hr0
  obtain ⟨hlen, hrng⟩ : l0.length ≤ 1099511627776 ∧ ∀ x ∈ l0, 0 ≤ x ∧ x ≤ 255 := by
    unfold spell_Write.f at h
    split at h
    · assumption
    · cases h
  have HF : Aside0 (⟨(spell_Write.fin (spell_Write.go l0 0 0 [])).toArray⟩ = r) := ⟨by
    unfold spell_Write.f at h
    rw [if_pos ⟨hlen, hrng⟩] at h
    exact Option.some.inj h⟩
  have HN := Aside0.mk hrng
  clear h hrng
  go_enter Try.func9, Try.ntmps9
  go_wp2_with fail
  go_loopw [4, 5, 7, 10] (fun v4 v5 v7 v10 wr => ∃ (k : Nat) (held hv : Int) (bs : List UInt8), v4 = .int .u64 held ∧ v5 = .int .i64 hv ∧ v10 = .int .i64 k ∧ 0 ≤ held ∧ held < 32 ∧ 0 ≤ hv ∧ hv < 5 ∧ k ≤ l0.length ∧ bs.length ≤ 2 * k ∧ Aside0 (spell_Write.go (l0.drop k) held hv bs = spell_Write.go l0 0 0 []) ∧ Aside0 (Lib.IsBuilder 38 5 w.heap.size w.heap.size (Lib.byteCells bs) wr) ∧ Aside0 (Below w.heap.size w wr)) (fun _ _ _ i _ => l0.length - (intOf i).toNat)
  case atStart => exact ⟨0, 0, 0, [], rfl, rfl, rfl, by omega, by omega, by omega, by omega, Nat.zero_le _, Nat.zero_le _, ⟨by simp⟩, ⟨Lib.fresh_isBuilder _ _ _⟩, ⟨below_alloc (Below.refl _ _) _⟩⟩
  case round =>
    obtain ⟨k, held, hv, bs, rfl, rfl, rfl, hh0, hh1, hv0, hv1, hk, hbl, HG, HB, HW⟩ := hrel
    by_cases hlt : k < l0.length
    · obtain ⟨ad, e, hx⟩ := Kd.at_int HR0.out k (by omega) (by omega)
      cases e
      have hx' : wr.cell? (ad.add k) = some (.int .u8 (rd l0 k)) := by simpa using (HW.out.cell (World.block_lt_of_cell? w _ hx)).trans hx
      clear hx
      have hrd : rd l0 ↑k = l0[k] := by simp [rd, List.getD_eq_getElem?_getD, List.getElem?_eq_getElem hlt]
      obtain ⟨hx0, hx1⟩ : 0 ≤ rd l0 ↑k ∧ rd l0 ↑k ≤ 255 := by rw [hrd]; exact HN.out _ (List.getElem_mem hlt)
      have HD : Aside0 (l0.drop k = rd l0 k :: l0.drop (k + 1)) := ⟨by rw [hrd]; exact List.drop_eq_getElem_cons hlt⟩
      clear hrd
      obtain ⟨x, HX⟩ : ∃ x, Aside0 (rd l0 ↑k = x) := ⟨_, ⟨rfl⟩⟩
      rw [HX.out] at hx' hx0 hx1
      rw [HX.out] at HD
      have HO := Aside0.mk (Bt.or_256 held x hh0 (by omega) hx0 hx1)
      go_wp2_with fail
      rw [HO.out]
      obtain ⟨hw, HH⟩ : ∃ hw, Aside0 (held * 256 + x = hw) := ⟨_, ⟨rfl⟩⟩
      have hw0 : 0 ≤ hw := by rw [← HH.out]; omega
      have hw1 : hw < 8192 := by rw [← HH.out]; omega
      rw [HH.out]
      obtain ⟨wo, rfl⟩ : ∃ wo : World, wo = wr := ⟨_, rfl⟩
      go_loopw [5] (fun v5 wr => ∃ (j : Nat) (n : Int) (o : List UInt8), v5 = .int .i64 n ∧ 0 ≤ n ∧ n ≤ 12 ∧ n < 5 * j ∧ o.length ≤ 2 * k + 2 ∧ Aside0 (5 ≤ n → o.length ≤ 2 * k + 1) ∧ Aside0 (10 ≤ n → o.length ≤ 2 * k) ∧ Aside0 (spell_Write.inn j hw n o = spell_Write.inn 3 hw (hv + 8) bs) ∧ Aside0 (Lib.IsBuilder 38 5 w.heap.size w.heap.size (Lib.byteCells o) wr) ∧ Aside0 (Below w.heap.size w wr)) (fun i _ => (intOf i).toNat)
      case atStart => exact ⟨3, hv + 8, bs, rfl, by omega, by omega, by omega, by omega, ⟨fun _ => by omega⟩, ⟨fun _ => by omega⟩, ⟨rfl⟩, HB, HW⟩
      case round =>
        clear HB HW
        obtain ⟨j, n, o, rfl, hn0, hn1, hn2, hol, HL1, HL2, HI, HB, HW⟩ := hrel
        by_cases h5 : 5 ≤ n
        · obtain ⟨j, rfl⟩ : ∃ m, j = m + 1 := ⟨j - 1, by omega⟩
          obtain ⟨y, HY⟩ : ∃ y, Aside0 (hw / 2 ^ (n - 5).toNat % 32 = y) := ⟨_, ⟨rfl⟩⟩
          have hq0 : 0 ≤ hw / 2 ^ (n - 5).toNat := Int.ediv_nonneg hw0 (Int.le_of_lt (Int.pow_pos (by decide)))
          have hq1 : hw / 2 ^ (n - 5).toNat ≤ hw := Int.ediv_le_self _ hw0
          have hy0 : 0 ≤ y := by rw [← HY.out]; omega
          have hy1 : y < 32 := by rw [← HY.out]; omega
          have ha : bits .and .u64 (hw / 2 ^ (n - 5).toNat) 31 = y := by rw [Bt.and_31 _ hq0 (by omega), HY.out]
          have hyt : y.toNat < 32 := by omega
          clear hq0 hq1
          have hlen2 : (Lib.byteCells o).length + 1 ≤ 140737488355328 := by rw [Lib.byteCells_length]; omega
          have hB := HW.out.size
          go_wp2_with fail
          rw [sg_at y hy0 hy1 hyt]
          refine (Bld.WriteByte _ _ _ _ _ HB.out hlen2 hB).mono ?_
          rintro e w1 ⟨rfl, h1, hb1⟩
          have H1 := Aside0.mk (show Lib.IsBuilder 38 5 w.heap.size w.heap.size (Lib.byteCells (o ++ [sg y])) w1 from by
            have e1 : Lib.byteCells (o ++ [sg y]) = Lib.byteCells o ++ [.int .u8 ↑(sg y).toNat] := by simp [Lib.byteCells]
            rw [e1]
            exact .inr h1)
          have H2 := Aside0.mk (HW.out.trans hb1)
          clear h1 hb1
          go_wp2_with fail
          refine ⟨⟨j, n - 5, o ++ [sg y], rfl, by omega, by omega, by omega, ?_, ⟨?_⟩, ⟨?_⟩, ⟨?_⟩, H1, H2⟩, by simp [intOf]; omega⟩
          · have := HL1.out h5; simp; omega
          · intro h6; have := HL2.out (by omega); simp; omega
          · omega
          · rw [← HI.out, spell_Write.inn, if_pos h5, HY.out]
        · go_wp2_with fail
          obtain ⟨j, rfl⟩ : ∃ m, j = m + 1 := ⟨j - 1, by omega⟩
          have hI := HI.out
          rw [spell_Write.inn, if_neg h5] at hI
          have hm := Bt.mod_pow_lt hw n.toNat 5 (by omega)
          refine ⟨⟨k + 1, hw % 2 ^ n.toNat, n, o, ?_, rfl, rfl, hm.1, hm.2, hn0, by omega, by omega, by omega, ⟨?_⟩, HB, HW⟩, by simp [intOf]; omega⟩
          · rw [Bt.mask_low hw n hw0 (by omega) hn0 (by omega)]
          · rw [← HG.out, HD.out, spell_Write.go, HH.out, ← hI]
    · obtain rfl : k = l0.length := by omega
      have hG : (bs, held, hv) = spell_Write.go l0 0 0 [] := by rw [← HG.out, List.drop_of_length_le (Nat.le_refl _), spell_Write.go]
      have hF := HF.out
      rw [← hG] at hF
      clear hG
      have HF2 := Aside0.mk hF
      clear hF HF HG
      have hB := HW.out.size
      by_cases hp : 0 < hv
      · obtain ⟨y, HY⟩ : ∃ y, Aside0 (held * 2 ^ (5 - hv).toNat % 32 = y) := ⟨_, ⟨rfl⟩⟩
        have hpow : (2 : Int) ^ (5 - hv).toNat ≤ 2 ^ 5 := by exact_mod_cast Nat.pow_le_pow_right (by decide) (show (5 - hv).toNat ≤ 5 by omega)
        have hpos : (0 : Int) < 2 ^ (5 - hv).toNat := Int.pow_pos (by decide)
        have hq0 : 0 ≤ held * 2 ^ (5 - hv).toNat := Int.mul_nonneg hh0 (by omega)
        have hq1 : held * 2 ^ (5 - hv).toNat ≤ 31 * 2 ^ 5 := Int.mul_le_mul (by omega) hpow (by omega) (by omega)
        have hy0 : 0 ≤ y := by rw [← HY.out]; omega
        have hy1 : y < 32 := by rw [← HY.out]; omega
        have hwr : IntKind.u64.wrap (held * 2 ^ (5 - hv).toNat) = held * 2 ^ (5 - hv).toNat := Bt.wraps_u64 _ hq0 (by omega)
        have ha : bits .and .u64 (held * 2 ^ (5 - hv).toNat) 31 = y := by rw [Bt.and_31 _ hq0 (by omega), HY.out]
        have hyt : y.toNat < 32 := by omega
        have hlen2 : (Lib.byteCells bs).length + 1 ≤ 140737488355328 := by rw [Lib.byteCells_length]; omega
        clear hq0 hq1 hpow hpos
        go_wp2_with fail
        rw [sg_at y hy0 hy1 hyt]
        refine (Bld.WriteByte _ _ _ _ _ HB.out hlen2 hB).mono ?_
        rintro e w1 ⟨rfl, h1, hb1⟩
        have H1 := Aside0.mk (show Lib.IsBuilder 38 5 w.heap.size w.heap.size (Lib.byteCells (bs ++ [sg y])) w1 from by
          have e1 : Lib.byteCells (bs ++ [sg y]) = Lib.byteCells bs ++ [.int .u8 ↑(sg y).toNat] := by simp [Lib.byteCells]
          rw [e1]
          exact .inr h1)
        have H2 := Aside0.mk (HW.out.trans hb1)
        have hB2 := H2.out.size
        clear h1 hb1
        go_wp2_with fail
        refine (Bld.String _ _ _ _ H1.out hB2).mono ?_
        rintro e w2 ⟨rfl, hb2⟩
        have H3 := Aside0.mk (H2.out.trans hb2)
        clear hb2
        go_wp2_with fail
        go_ret
        refine ⟨?_, H3.out⟩
        rw [← HF2.out, spell_Write.fin, if_pos hp, HY.out]
        rfl
      · go_wp2_with fail
        refine (Bld.String _ _ _ _ HB.out hB).mono ?_
        rintro e w2 ⟨rfl, hb2⟩
        have H3 := Aside0.mk (HW.out.trans hb2)
        clear hb2
        go_wp2_with fail
        go_ret
        refine ⟨?_, H3.out⟩
        rw [← HF2.out, spell_Write.fin, if_neg (by show ¬ 0 < hv; omega)]
        rfl
#print axioms spell_Write.calls
end Go.Proofs.Ytojecbigcamedaa
