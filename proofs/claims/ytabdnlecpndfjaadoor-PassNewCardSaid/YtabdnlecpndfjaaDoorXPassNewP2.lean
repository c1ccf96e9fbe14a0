/- What the law's proof stands on, part 2: SpellB, Bits, SpellW, SpellMath, PBasex0, PBasex1, PBasex3, PBasex4, PBasex5, PBasex6, PBasex7, SpellFns, SpellFnsB (laid together by wip/pack.py). -/
import Derived.Test.YtabdnlecpndfjaaDoorProg
import Derived.Test.YtabdnlecpndfjaaDoorXPassNewP1
import Derived.Shelf.RegionOpenPlain
import Derived.Shelf.Strings.Builder1
import Derived.Lib.Strings
import Derived.Lib.Slices
import Derived.Lib.Walk
import Derived.Lib.Builder
import Derived.Lib.UnsafeStr
import Derived.Laws.Externs
import Derived.Outline
set_option linter.unusedVariables false
namespace Go.Proofs.YtabdnlecpndfjaaDoor.Bld
open Go.RowKit
theorem sizeBuilder : (Tryd.prog.info? 88).map (·.size) = some 2 := by kernel_rfl
theorem liesBuilder : liesAt Tryd.prog Tryd.prog.depth 88 (2 / Tryd.prog.cellsOf 88) 0 88 1 = true := by kernel_rfl
theorem infoByte : (Tryd.prog.info? 5).map (fun i => (i.zero, i.size, i.bytes)) = some (some (.int .u8 0), 1, 1) := by kernel_rfl
set_option maxHeartbeats 1000000 in
set_option maxRecDepth 100000 in
theorem copyCheck_used (b : Nat) (w : World) (h0 : w.cell? ⟨b, 0, none⟩ = some (.pointer (some ⟨b, 0, none⟩))) :
    Calls Tryd.prog 54 #[.pointer (some ⟨b, 0, none⟩)] w fun e w' => e = .returned (.tuple #[]) ∧ w' = w := by
  obtain ⟨j, hj, _⟩ := Option.map_eq_some_iff.1 sizeBuilder
  go_enter Tryd.func54, Tryd.ntmps54
  go_wp2
  rw [Lib.run_neq_ptr_same w _ Tryd.underlying86 hj]
  go_wp2
  go_end0
  exact ⟨rfl, rfl⟩
set_option maxHeartbeats 1000000 in
set_option maxRecDepth 100000 in
theorem copyCheck_fresh (b : Nat) (w : World) (h0 : w.cell? ⟨b, 0, none⟩ = some (.pointer none)) (hsh : w.shape? b = some (88, 2)) (hfz : w.frozen? ⟨b, 0, none⟩ = false) :
    Calls Tryd.prog 54 #[.pointer (some ⟨b, 0, none⟩)] w fun e w' => e = .returned (.tuple #[]) ∧ w' = w.setCell ⟨b, 0, none⟩ (.pointer (some ⟨b, 0, none⟩)) := by
  obtain ⟨j, hj, hjs⟩ := Option.map_eq_some_iff.1 sizeBuilder
  go_enter Tryd.func54, Tryd.ntmps54
  go_wp2
  rw [Lib.run_to_unsafe w ⟨b, 0, none⟩ Tryd.underlying86 Tryd.underlying111 hj (by rw [hjs]; decide) hsh (Nat.zero_lt_succ 1)]
  simp only [Result.andThen]
  rw [Oper.upon_value]
  go_wp2
  rw [run_callFunc_extern Tryd.func59 (by kernel_rfl) (by kernel_rfl) (by kernel_rfl) (e := Extern.AbiNoEscape.same) (by kernel_rfl)]
  rw [Lib.run_noEscape]
  simp only [Result.andThen]
  rw [Oper.upon_value]
  go_wp2
  rw [Lib.run_from_unsafe w ⟨b, 0, none⟩ Tryd.underlying111 Tryd.underlying86 hj hsh liesBuilder]
  simp only [Result.andThen]
  rw [Oper.upon_value]
  go_wp2
  go_end0
  exact ⟨rfl, rfl⟩
theorem copyCheck (B b : Nat) (bs : List Value) (w : World) (h : Lib.IsBuilder 88 5 B b bs w) :
    Calls Tryd.prog 54 #[.pointer (some ⟨b, 0, none⟩)] w fun e w' => e = .returned (.tuple #[]) ∧ (Lib.BuilderAt 88 5 B b (.pointer (some ⟨b, 0, none⟩)) bs w' ∧ Below B w w') := by
  rcases h with h | h
  · refine (copyCheck_fresh b w h.cell0 h.shape h.frozen0).mono ?_
    rintro e w' ⟨rfl, rfl⟩
    exact ⟨rfl, h.used _, (Below.refl B w).setCell (p := ⟨b, 0, none⟩) h.1 _⟩
  · refine (copyCheck_used b w h.cell0).mono ?_
    rintro e w' ⟨rfl, rfl⟩
    exact ⟨rfl, h, Below.refl B _⟩
set_option maxHeartbeats 2000000 in
set_option maxRecDepth 100000 in
theorem WriteByte (B b : Nat) (bs : List Value) (c : Int) (w : World) (h : Lib.IsBuilder 88 5 B b bs w) (hlen : bs.length + 1 ≤ 140737488355328) (hBw : B ≤ w.heap.size) :
    Calls Tryd.prog 43 #[.pointer (some ⟨b, 0, none⟩), .int .u8 c] w fun e w' => e = .returned .nilIface ∧ (Lib.BuilderAt 88 5 B b (.pointer (some ⟨b, 0, none⟩)) (bs ++ [.int .u8 c]) w' ∧ Below B w w') := by
  obtain ⟨i0, hi, hz0, hz1, hz2⟩ := info_parts infoByte
  go_enter Tryd.func43, Tryd.ntmps43
  go_wp2_with (go_at_call 54; refine (copyCheck B b bs _ h).mono ?_)
  rintro e w1 ⟨rfl, h1, hb1⟩
  obtain ⟨hB, v, hbk, hown, hne⟩ := h1
  have c0 : w1.cell? ⟨b, 0, none⟩ = some (.pointer (some ⟨b, 0, none⟩)) := by rw [Lib.cell_of_heap hbk]; rfl
  have c1 : w1.cell? ⟨b, 1, none⟩ = some v := by rw [Lib.cell_of_heap hbk]; rfl
  go_wp2_with (at_builtin; refine wpList_append_own _ rfl _ _ 22 rfl B 5 i0 (.int .u8 0) 1 1 Tryd.underlying22 hi hz0 hz1 hz2 rfl (by decide) _ _ _ rfl (hown.alloc _) ⟨w1.heap.size, 0, none⟩ 1 1 [.int .u8 c] rfl rfl ?c1 ?c2 ?c3 ?c4 ?c5 ?_)
  case c1 =>
    intro j u hj
    match j, hj with
    | 0, hj => simp at hj; subst hj; simp [Addr.add]
  case c2 => intro u hu; simp at hu; subst hu; rfl
  case c3 => unfold maxLen; omega
  case c4 => omega
  case c5 => have := hb1.size; simp; omega
  intro v' w2 hown' hgrow _
  have hlt : b < w1.heap.size := by
    rcases Nat.lt_or_ge b w1.heap.size with h' | h'
    · exact h'
    · simp [Array.getElem?_eq_none h'] at hbk
  have hb2 : w2.heap[b]? = some (.cells #[.pointer (some ⟨b, 0, none⟩), v] 88 (0, 0)) := by
    rw [hgrow.block b (by simp; omega) (fun e => hne e.symm), Lib.alloc_old w1 _ b hlt]
    exact hbk
  have d0 : w2.cell? ⟨b, 0, none⟩ = some (.pointer (some ⟨b, 0, none⟩)) := by rw [Lib.cell_of_heap hb2]; rfl
  have d1 : w2.cell? ⟨b, 1, none⟩ = some v := by rw [Lib.cell_of_heap hb2]; rfl
  have f1 : w2.frozen? ⟨b, 1, none⟩ = false := Lib.frozen_of_heap hb2 1
  obtain ⟨g, cap, rfl⟩ : ∃ g cap, v' = .slice (some ⟨g, 0, none⟩) (bs.length + 1) cap := by
    rcases hown'.2 with ⟨_, h0⟩ | ⟨g, cap, cur, hv, _⟩
    · omega
    · exact ⟨g, cap, hv⟩
  go_wp2
  go_ret
  refine ⟨rfl, ?_, ?_⟩
  · exact Lib.BuilderAt.put (T := 88) (e := 5) hB hb2 (bs' := bs ++ [.int .u8 c]) (by simpa using hown') (by decide)
  · exact ((hb1.alloc (by have := hb1.size; omega) _).grown hgrow (by have := hb1.size; simp; omega) (fun k hk => (hown.lt k hk).1)).setCell (p := ⟨b, 1, none⟩) hB _
def lays169_ren : Go.Shelf.Ren := ⟨fun | 169 => 44 | n => n, fun | 70 => 86 | 9 => 9 | 0 => 0 | 72 => 88 | 37 => 22 | 127 => 104 | 3 => 3 | 5 => 5 | n => n, fun | n => n⟩
theorem lays169 : Go.Proofs.Lays.n169 Tryd.prog lays169_ren := {
  mixed := by kernel_rfl
  f169 := Tryd.func44.trans (congrArg some (by kernel_rfl))
  t0 := Tryd.underlying0
  a0 := Tryd.isAgg0
  z0 := Tryd.sizeOf0
  v0 := Tryd.zeroValue0
  t3 := Tryd.underlying3
  a3 := Tryd.isAgg3
  z3 := Tryd.sizeOf3
  v3 := Tryd.zeroValue3
  t9 := Tryd.underlying9
  a9 := Tryd.isAgg9
  z9 := Tryd.sizeOf9
  v9 := Tryd.zeroValue9
  t37 := Tryd.underlying22
  a37 := Tryd.isAgg22
  z37 := Tryd.sizeOf22
  v37 := Tryd.zeroValue22
  t70 := Tryd.underlying86
  a70 := Tryd.isAgg86
  z70 := Tryd.sizeOf86
  v70 := Tryd.zeroValue86
  t72 := Tryd.underlying88
  a72 := Tryd.isAgg88
  z72 := Tryd.sizeOf88
  v72 := Tryd.zeroValue88
  t127 := Tryd.underlying104
  a127 := Tryd.isAgg104
  z127 := Tryd.sizeOf104
  v127 := Tryd.zeroValue104 }
theorem extra169 : Builder.Extra Tryd.prog lays169_ren := {
  sizeBuilder := by kernel_rfl
  liesBuilder := by kernel_rfl
  t5 := Tryd.underlying5
  a5 := Tryd.isAgg5
  z5 := Tryd.sizeOf5
  v5 := Tryd.zeroValue5
  infoByte := by kernel_rfl
  cellsByte := by kernel_rfl
  sizeByte := by kernel_rfl
  neB5 := by decide }
theorem String (B b : Nat) (l : List UInt8) (w : World) (h : Lib.IsBuilder 88 5 B b (Lib.byteCells l) w) (hBw : B ≤ w.heap.size) :
    Calls Tryd.prog 44 #[.pointer (some ⟨b, 0, none⟩)] w fun e w' => e = .returned (.string ⟨l.toArray⟩) ∧ Below B w w' := Any.Builder_String_any lays169 extra169 B b l w h hBw
end Go.Proofs.YtabdnlecpndfjaaDoor.Bld
namespace Go.Proofs.YtabdnlecpndfjaaDoor.Bt
theorem wraps_u64 (n : Int) (h0 : 0 ≤ n) (h1 : n < 2 ^ 64) : IntKind.u64.wrap n = n := by
  have e : IntKind.u64.wrap n = n % 18446744073709551616 := by simp [IntKind.wrap, IntKind.bits, IntKind.signed]
  rw [e]; omega
theorem wraps_u32 (n : Int) (h0 : 0 ≤ n) (h1 : n < 2 ^ 32) : IntKind.u32.wrap n = n := by rw [IntKind.wrap_u32]; omega
theorem or_u64 (i : Nat) (x y : Int) (h0 : 0 ≤ x) (hx : x % 2 ^ i = 0) (h1 : x < 2 ^ 64) (h2 : 0 ≤ y) (h3 : y < 2 ^ i) (h4 : y < 2 ^ 64) : bits .or .u64 x y = x + y :=
  bits_join .u64 64 (by decide) wraps_u64 i x y h0 hx h1 h2 h3 h4
theorem or_u32 (i : Nat) (x y : Int) (h0 : 0 ≤ x) (hx : x % 2 ^ i = 0) (h1 : x < 2 ^ 32) (h2 : 0 ≤ y) (h3 : y < 2 ^ i) (h4 : y < 2 ^ 32) : bits .or .u32 x y = x + y :=
  bits_join .u32 32 (by decide) wraps_u32 i x y h0 hx h1 h2 h3 h4
theorem mask_u64 (i : Nat) (hi : i ≤ 64) (x : Int) (h0 : 0 ≤ x) (h1 : x < 2 ^ 64) : bits .and .u64 x (2 ^ i - 1) = x % 2 ^ i :=
  bits_mask .u64 64 (by decide) wraps_u64 i hi x h0 h1
theorem or_256 (h x : Int) (h0 : 0 ≤ h) (h1 : h < 72057594037927936) (h2 : 0 ≤ x) (h3 : x ≤ 255) : bits .or .u64 (h * 256) x = h * 256 + x :=
  or_u64 8 _ _ (by omega) (by omega) (by omega) h2 (by omega) (by omega)
theorem and_31 (x : Int) (h0 : 0 ≤ x) (h1 : x < 18446744073709551616) : bits .and .u64 x 31 = x % 32 := mask_u64 5 (by decide) x h0 (by omega)
theorem low_u64 (n : Int) (h0 : 0 ≤ n) (h1 : n < 64) : IntKind.u64.wrap (IntKind.u64.wrap (2 ^ n.toNat) - 1) = 2 ^ n.toNat - 1 := by
  obtain ⟨m, rfl⟩ := Int.eq_ofNat_of_zero_le h0
  have hm : m < 64 := by omega
  have h2 : (2 : Int) ^ m < 2 ^ 64 := by exact_mod_cast Nat.pow_lt_pow_right (by decide : 1 < 2) hm
  have h3 : (0 : Int) < 2 ^ m := Int.pow_pos (by decide)
  rw [Int.toNat_natCast, wraps_u64 _ (by omega) h2, wraps_u64 _ (by omega) (by omega)]
theorem mask_low (h n : Int) (h0 : 0 ≤ h) (h1 : h < 2 ^ 64) (n0 : 0 ≤ n) (n1 : n < 64) : bits .and .u64 h (IntKind.u64.wrap (IntKind.u64.wrap (2 ^ n.toNat) - 1)) = h % 2 ^ n.toNat := by
  rw [low_u64 n n0 n1]
  exact mask_u64 n.toNat (by omega) h h0 h1
theorem mod_pow_lt (h : Int) (n m : Nat) (hn : n ≤ m) : 0 ≤ h % 2 ^ n ∧ h % 2 ^ n < 2 ^ m := by
  have h3 : (0 : Int) < 2 ^ n := Int.pow_pos (by decide)
  have h4 : (2 : Int) ^ n ≤ 2 ^ m := by exact_mod_cast Nat.pow_le_pow_right (by decide) hn
  have := Int.emod_nonneg h (by omega : (2 : Int) ^ n ≠ 0)
  have := Int.emod_lt_of_pos h h3
  omega
end Go.Proofs.YtabdnlecpndfjaaDoor.Bt
set_option linter.unusedVariables false
set_option linter.unusedSimpArgs false
namespace Go.Proofs.YtabdnlecpndfjaaDoor
open Go.RowKit Go.Proofs.YtabdnlecpndfjaaDoorW.PrintWords
def sgs : List UInt8 := [97, 98, 99, 100, 101, 102, 103, 104, 105, 106, 107, 108, 109, 110, 111, 112, 113, 114, 115, 116, 117, 118, 119, 120, 121, 122, 50, 51, 52, 53, 54, 55]
def sg (i : Int) : UInt8 := sgs.getD i.toNat 0
def spell_Write.inn : Nat → Int → Int → List UInt8 → List UInt8 × Int
  | 0, _, n, o => (o, n)
  | k + 1, h, n, o => if 5 ≤ n then spell_Write.inn k h (n - 5) (o ++ [sg (h / 2 ^ (n - 5).toNat % 32)]) else (o, n)
def spell_Write.go : List Int → Int → Int → List UInt8 → List UInt8 × Int × Int
  | [], h, n, o => (o, h, n)
  | x :: xs, h, n, o => spell_Write.go xs ((h * 256 + x) % 2 ^ (spell_Write.inn 3 (h * 256 + x) (n + 8) o).2.toNat) (spell_Write.inn 3 (h * 256 + x) (n + 8) o).2 (spell_Write.inn 3 (h * 256 + x) (n + 8) o).1
def spell_Write.fin (p : List UInt8 × Int × Int) : List UInt8 := if 0 < p.2.2 then p.1 ++ [sg (p.2.1 * 2 ^ (5 - p.2.2).toNat % 32)] else p.1
def spell_Write.f (l : List Int) : Option ByteArray := if l.length ≤ 1099511627776 ∧ ∀ x ∈ l, 0 ≤ x ∧ x ≤ 255 then some ⟨(spell_Write.fin (spell_Write.go l 0 0 [])).toArray⟩ else none
theorem sg_at (i : Int) (h0 : 0 ≤ i) (h1 : i < 32) (h : i.toNat < 32) : (Value.int .u8 ↑((ByteArray.mk #[97, 98, 99, 100, 101, 102, 103, 104, 105, 106, 107, 108, 109, 110, 111, 112, 113, 114, 115, 116, 117, 118, 119, 120, 121, 122, 50, 51, 52, 53, 54, 55])[i.toNat]'h).toNat) = .int .u8 ↑(sg i).toNat := by
  have e : (ByteArray.mk #[97, 98, 99, 100, 101, 102, 103, 104, 105, 106, 107, 108, 109, 110, 111, 112, 113, 114, 115, 116, 117, 118, 119, 120, 121, 122, 50, 51, 52, 53, 54, 55])[i.toNat]'h = sg i := by
    unfold sg sgs
    rw [List.getD_eq_getElem?_getD, List.getElem?_eq_getElem (by simpa using h)]
    rfl
  rw [e]
set_option maxHeartbeats 1000000 in
set_option maxRecDepth 100000 in
theorem spell_Write.calls (A0 : Option Addr) (c0 : Nat) (l0 : List Int) (r : ByteArray) (w : World) (hr0 : Kd.C (Kd.int .u8) w A0 l0.length l0) (hc0 : l0.length ≤ c0) (h : spell_Write.f l0 = some r) :
    Calls Tryd.prog 26 #[.slice A0 l0.length c0] w fun e w' => e = .returned (.string r) ∧ Below w.heap.size w w' := by
  have HR0 := Aside0.mk hr0
  clear hr0
  obtain ⟨hlen, hrng⟩ : l0.length ≤ 1099511627776 ∧ ∀ x ∈ l0, 0 ≤ x ∧ x ≤ 255 := by
    unfold spell_Write.f at h
    split at h
    · assumption
    · cases h
  have HF : Aside0 (⟨(spell_Write.fin (spell_Write.go l0 0 0 [])).toArray⟩ = r) := ⟨by
    unfold spell_Write.f at h
    rw [if_pos ⟨hlen, hrng⟩] at h
    exact Option.some.inj h⟩
  have HN := Aside0.mk hrng
  clear h hrng
  go_enter Tryd.func26, Tryd.ntmps26
  go_wp2_with fail
  go_loopw [4, 5, 7, 10] (fun v4 v5 v7 v10 wr => ∃ (k : Nat) (held hv : Int) (bs : List UInt8), v4 = .int .u64 held ∧ v5 = .int .i64 hv ∧ v10 = .int .i64 k ∧ 0 ≤ held ∧ held < 32 ∧ 0 ≤ hv ∧ hv < 5 ∧ k ≤ l0.length ∧ bs.length ≤ 2 * k ∧ Aside0 (spell_Write.go (l0.drop k) held hv bs = spell_Write.go l0 0 0 []) ∧ Aside0 (Lib.IsBuilder 88 5 w.heap.size w.heap.size (Lib.byteCells bs) wr) ∧ Aside0 (Below w.heap.size w wr)) (fun _ _ _ i _ => l0.length - (intOf i).toNat)
  case atStart => exact ⟨0, 0, 0, [], rfl, rfl, rfl, by omega, by omega, by omega, by omega, Nat.zero_le _, Nat.zero_le _, ⟨by simp⟩, ⟨Lib.fresh_isBuilder _ _ _⟩, ⟨below_alloc (Below.refl _ _) _⟩⟩
  case round =>
    obtain ⟨k, held, hv, bs, rfl, rfl, rfl, hh0, hh1, hv0, hv1, hk, hbl, HG, HB, HW⟩ := hrel
    by_cases hlt : k < l0.length
    · obtain ⟨ad, e, hx⟩ := Kd.at_int HR0.out k (by omega) (by omega)
      cases e
      have hx' : wr.cell? (ad.add k) = some (.int .u8 (rd l0 k)) := by simpa using (HW.out.cell (World.block_lt_of_cell? w _ hx)).trans hx
      clear hx
      have hrd : rd l0 ↑k = l0[k] := by simp [rd, List.getD_eq_getElem?_getD, List.getElem?_eq_getElem hlt]
      obtain ⟨hx0, hx1⟩ : 0 ≤ rd l0 ↑k ∧ rd l0 ↑k ≤ 255 := by rw [hrd]; exact HN.out _ (List.getElem_mem hlt)
      have HD : Aside0 (l0.drop k = rd l0 k :: l0.drop (k + 1)) := ⟨by rw [hrd]; exact List.drop_eq_getElem_cons hlt⟩
      clear hrd
      obtain ⟨x, HX⟩ : ∃ x, Aside0 (rd l0 ↑k = x) := ⟨_, ⟨rfl⟩⟩
      rw [HX.out] at hx' hx0 hx1
      rw [HX.out] at HD
      have HO := Aside0.mk (Bt.or_256 held x hh0 (by omega) hx0 hx1)
      go_wp2_with fail
      rw [HO.out]
      obtain ⟨hw, HH⟩ : ∃ hw, Aside0 (held * 256 + x = hw) := ⟨_, ⟨rfl⟩⟩
      have hw0 : 0 ≤ hw := by rw [← HH.out]; omega
      have hw1 : hw < 8192 := by rw [← HH.out]; omega
      rw [HH.out]
      obtain ⟨wo, rfl⟩ : ∃ wo : World, wo = wr := ⟨_, rfl⟩
      go_loopw [5] (fun v5 wr => ∃ (j : Nat) (n : Int) (o : List UInt8), v5 = .int .i64 n ∧ 0 ≤ n ∧ n ≤ 12 ∧ n < 5 * j ∧ o.length ≤ 2 * k + 2 ∧ Aside0 (5 ≤ n → o.length ≤ 2 * k + 1) ∧ Aside0 (10 ≤ n → o.length ≤ 2 * k) ∧ Aside0 (spell_Write.inn j hw n o = spell_Write.inn 3 hw (hv + 8) bs) ∧ Aside0 (Lib.IsBuilder 88 5 w.heap.size w.heap.size (Lib.byteCells o) wr) ∧ Aside0 (Below w.heap.size w wr)) (fun i _ => (intOf i).toNat)
      case atStart => exact ⟨3, hv + 8, bs, rfl, by omega, by omega, by omega, by omega, ⟨fun _ => by omega⟩, ⟨fun _ => by omega⟩, ⟨rfl⟩, HB, HW⟩
      case round =>
        clear HB HW
        obtain ⟨j, n, o, rfl, hn0, hn1, hn2, hol, HL1, HL2, HI, HB, HW⟩ := hrel
        by_cases h5 : 5 ≤ n
        · obtain ⟨j, rfl⟩ : ∃ m, j = m + 1 := ⟨j - 1, by omega⟩
          obtain ⟨y, HY⟩ : ∃ y, Aside0 (hw / 2 ^ (n - 5).toNat % 32 = y) := ⟨_, ⟨rfl⟩⟩
          have hq0 : 0 ≤ hw / 2 ^ (n - 5).toNat := Int.ediv_nonneg hw0 (Int.le_of_lt (Int.pow_pos (by decide)))
          have hq1 : hw / 2 ^ (n - 5).toNat ≤ hw := Int.ediv_le_self _ hw0
          have hy0 : 0 ≤ y := by rw [← HY.out]; omega
          have hy1 : y < 32 := by rw [← HY.out]; omega
          have ha : bits .and .u64 (hw / 2 ^ (n - 5).toNat) 31 = y := by rw [Bt.and_31 _ hq0 (by omega), HY.out]
          have hyt : y.toNat < 32 := by omega
          clear hq0 hq1
          have hlen2 : (Lib.byteCells o).length + 1 ≤ 140737488355328 := by rw [Lib.byteCells_length]; omega
          have hB := HW.out.size
          go_wp2_with fail
          rw [sg_at y hy0 hy1 hyt]
          refine (Bld.WriteByte _ _ _ _ _ HB.out hlen2 hB).mono ?_
          rintro e w1 ⟨rfl, h1, hb1⟩
          have H1 := Aside0.mk (show Lib.IsBuilder 88 5 w.heap.size w.heap.size (Lib.byteCells (o ++ [sg y])) w1 from by
            have e1 : Lib.byteCells (o ++ [sg y]) = Lib.byteCells o ++ [.int .u8 ↑(sg y).toNat] := by simp [Lib.byteCells]
            rw [e1]
            exact .inr h1)
          have H2 := Aside0.mk (HW.out.trans hb1)
          clear h1 hb1
          go_wp2_with fail
          refine ⟨⟨j, n - 5, o ++ [sg y], rfl, by omega, by omega, by omega, ?_, ⟨?_⟩, ⟨?_⟩, ⟨?_⟩, H1, H2⟩, by simp [intOf]; omega⟩
          · have := HL1.out h5; simp; omega
          · intro h6; have := HL2.out (by omega); simp; omega
          · omega
          · rw [← HI.out, spell_Write.inn, if_pos h5, HY.out]
        · go_wp2_with fail
          obtain ⟨j, rfl⟩ : ∃ m, j = m + 1 := ⟨j - 1, by omega⟩
          have hI := HI.out
          rw [spell_Write.inn, if_neg h5] at hI
          have hm := Bt.mod_pow_lt hw n.toNat 5 (by omega)
          refine ⟨⟨k + 1, hw % 2 ^ n.toNat, n, o, ?_, rfl, rfl, hm.1, hm.2, hn0, by omega, by omega, by omega, ⟨?_⟩, HB, HW⟩, by simp [intOf]; omega⟩
          · rw [Bt.mask_low hw n hw0 (by omega) hn0 (by omega)]
          · rw [← HG.out, HD.out, spell_Write.go, HH.out, ← hI]
    · obtain rfl : k = l0.length := by omega
      have hG : (bs, held, hv) = spell_Write.go l0 0 0 [] := by rw [← HG.out, List.drop_of_length_le (Nat.le_refl _), spell_Write.go]
      have hF := HF.out
      rw [← hG] at hF
      clear hG
      have HF2 := Aside0.mk hF
      clear hF HF HG
      have hB := HW.out.size
      by_cases hp : 0 < hv
      · obtain ⟨y, HY⟩ : ∃ y, Aside0 (held * 2 ^ (5 - hv).toNat % 32 = y) := ⟨_, ⟨rfl⟩⟩
        have hpow : (2 : Int) ^ (5 - hv).toNat ≤ 2 ^ 5 := by exact_mod_cast Nat.pow_le_pow_right (by decide) (show (5 - hv).toNat ≤ 5 by omega)
        have hpos : (0 : Int) < 2 ^ (5 - hv).toNat := Int.pow_pos (by decide)
        have hq0 : 0 ≤ held * 2 ^ (5 - hv).toNat := Int.mul_nonneg hh0 (by omega)
        have hq1 : held * 2 ^ (5 - hv).toNat ≤ 31 * 2 ^ 5 := Int.mul_le_mul (by omega) hpow (by omega) (by omega)
        have hy0 : 0 ≤ y := by rw [← HY.out]; omega
        have hy1 : y < 32 := by rw [← HY.out]; omega
        have hwr : IntKind.u64.wrap (held * 2 ^ (5 - hv).toNat) = held * 2 ^ (5 - hv).toNat := Bt.wraps_u64 _ hq0 (by omega)
        have ha : bits .and .u64 (held * 2 ^ (5 - hv).toNat) 31 = y := by rw [Bt.and_31 _ hq0 (by omega), HY.out]
        have hyt : y.toNat < 32 := by omega
        have hlen2 : (Lib.byteCells bs).length + 1 ≤ 140737488355328 := by rw [Lib.byteCells_length]; omega
        clear hq0 hq1 hpow hpos
        go_wp2_with fail
        rw [sg_at y hy0 hy1 hyt]
        refine (Bld.WriteByte _ _ _ _ _ HB.out hlen2 hB).mono ?_
        rintro e w1 ⟨rfl, h1, hb1⟩
        have H1 := Aside0.mk (show Lib.IsBuilder 88 5 w.heap.size w.heap.size (Lib.byteCells (bs ++ [sg y])) w1 from by
          have e1 : Lib.byteCells (bs ++ [sg y]) = Lib.byteCells bs ++ [.int .u8 ↑(sg y).toNat] := by simp [Lib.byteCells]
          rw [e1]
          exact .inr h1)
        have H2 := Aside0.mk (HW.out.trans hb1)
        have hB2 := H2.out.size
        clear h1 hb1
        go_wp2_with fail
        refine (Bld.String _ _ _ _ H1.out hB2).mono ?_
        rintro e w2 ⟨rfl, hb2⟩
        have H3 := Aside0.mk (H2.out.trans hb2)
        clear hb2
        go_wp2_with fail
        go_ret
        refine ⟨?_, H3.out⟩
        rw [← HF2.out, spell_Write.fin, if_pos hp, HY.out]
        rfl
      · go_wp2_with fail
        refine (Bld.String _ _ _ _ HB.out hB).mono ?_
        rintro e w2 ⟨rfl, hb2⟩
        have H3 := Aside0.mk (HW.out.trans hb2)
        clear hb2
        go_wp2_with fail
        go_ret
        refine ⟨?_, H3.out⟩
        rw [← HF2.out, spell_Write.fin, if_neg (by show ¬ 0 < hv; omega)]
        rfl
end Go.Proofs.YtabdnlecpndfjaaDoor
set_option linter.unusedVariables false
set_option linter.unusedSimpArgs false
namespace Go.Proofs.YtabdnlecpndfjaaDoor.Sp
open Go.RowKit
def bits8 (x : Int) : List Int := [x / 128 % 2, x / 64 % 2, x / 32 % 2, x / 16 % 2, x / 8 % 2, x / 4 % 2, x / 2 % 2, x % 2]
def bits5 (x : Int) : List Int := [x / 16 % 2, x / 8 % 2, x / 4 % 2, x / 2 % 2, x % 2]
def bitsOf (l : List Int) : List Int := l.flatMap bits8
def enc : List Int → List UInt8
  | [] => []
  | [a] => [sg (16 * a)]
  | [a, b] => [sg (16 * a + 8 * b)]
  | [a, b, c] => [sg (16 * a + 8 * b + 4 * c)]
  | [a, b, c, d] => [sg (16 * a + 8 * b + 4 * c + 2 * d)]
  | a :: b :: c :: d :: e :: r => sg (16 * a + 8 * b + 4 * c + 2 * d + e) :: enc r
def val (l : List Int) : Int := l.foldl (fun h b => 2 * h + b) 0
def Bits (l : List Int) : Prop := ∀ b ∈ l, 0 ≤ b ∧ b ≤ 1
def Bytes (l : List Int) : Prop := ∀ x ∈ l, 0 ≤ x ∧ x ≤ 255
theorem Bits8 (x : Int) : Bits (bits8 x) := by
  intro b hb
  simp only [bits8, List.mem_cons, List.not_mem_nil, or_false] at hb
  omega
theorem Bits5 (x : Int) : Bits (bits5 x) := by
  intro b hb
  simp only [bits5, List.mem_cons, List.not_mem_nil, or_false] at hb
  omega
theorem Bits.append {a b : List Int} (ha : Bits a) (hb : Bits b) : Bits (a ++ b) := fun x hx => (List.mem_append.1 hx).elim (ha x) (hb x)
theorem Bits.left {a b : List Int} (h : Bits (a ++ b)) : Bits a := fun x hx => h x (List.mem_append_left _ hx)
theorem Bits.right {a b : List Int} (h : Bits (a ++ b)) : Bits b := fun x hx => h x (List.mem_append_right _ hx)
theorem Bits.head {a : Int} {l : List Int} (h : Bits (a :: l)) : 0 ≤ a ∧ a ≤ 1 := h a List.mem_cons_self
theorem Bits.tail {a : Int} {l : List Int} (h : Bits (a :: l)) : Bits l := fun x hx => h x (List.mem_cons_of_mem _ hx)
theorem Bytes.head {a : Int} {l : List Int} (h : Bytes (a :: l)) : 0 ≤ a ∧ a ≤ 255 := h a List.mem_cons_self
theorem Bytes.tail {a : Int} {l : List Int} (h : Bytes (a :: l)) : Bytes l := fun x hx => h x (List.mem_cons_of_mem _ hx)
theorem bitsOf_cons (x : Int) (l : List Int) : bitsOf (x :: l) = bits8 x ++ bitsOf l := by simp [bitsOf]
theorem bitsOf_append (a b : List Int) : bitsOf (a ++ b) = bitsOf a ++ bitsOf b := by simp [bitsOf]
theorem bitsOf_length (l : List Int) : (bitsOf l).length = 8 * l.length := by
  induction l with
  | nil => rfl
  | cons x l ih => rw [bitsOf_cons, List.length_append, ih]; simp [bits8]; omega
theorem BitsOf (l : List Int) : Bits (bitsOf l) := by
  induction l with
  | nil => intro b hb; simp [bitsOf] at hb
  | cons x l ih => rw [bitsOf_cons]; exact (Bits8 x).append ih
theorem inn8 (h : Int) (o : List UInt8) : spell_Write.inn 3 h 8 o = (o ++ [sg (h / 8 % 32)], 3) := by simp [spell_Write.inn]
theorem inn9 (h : Int) (o : List UInt8) : spell_Write.inn 3 h 9 o = (o ++ [sg (h / 16 % 32)], 4) := by simp [spell_Write.inn]
theorem inn10 (h : Int) (o : List UInt8) : spell_Write.inn 3 h 10 o = (o ++ [sg (h / 32 % 32)] ++ [sg (h % 32)], 0) := by simp [spell_Write.inn]
theorem inn11 (h : Int) (o : List UInt8) : spell_Write.inn 3 h 11 o = (o ++ [sg (h / 64 % 32)] ++ [sg (h / 2 % 32)], 1) := by simp [spell_Write.inn]
theorem inn12 (h : Int) (o : List UInt8) : spell_Write.inn 3 h 12 o = (o ++ [sg (h / 128 % 32)] ++ [sg (h / 4 % 32)], 2) := by simp [spell_Write.inn]
theorem fin_pos (o : List UInt8) (h n : Int) (hn : 0 < n) : spell_Write.fin (o, h, n) = o ++ [sg (h * 2 ^ (5 - n).toNat % 32)] := if_pos hn
set_option maxHeartbeats 2000000 in
theorem go_spec (l : List Int) : ∀ (B : List Int) (o : List UInt8), Bytes l → Bits B → B.length < 5 → spell_Write.fin (spell_Write.go l (val B) B.length o) = o ++ enc (B ++ bitsOf l) := by
  induction l with
  | nil =>
    intro B o _ hB hl
    rw [show bitsOf [] = [] from rfl, List.append_nil]
    match B, hl with
    | [], _ => simp [spell_Write.go, spell_Write.fin, enc]
    | [a], _ =>
      have ha := hB.head
      show spell_Write.fin (o, val [a], 1) = o ++ [sg (16 * a)]
      rw [fin_pos _ _ _ (by decide), show val [a] * 2 ^ ((5 : Int) - 1).toNat % 32 = 16 * a by simp only [val, List.foldl]; show _ * 16 % 32 = _; omega]
    | [a, b], _ =>
      have ha := hB.head; have hb := hB.tail.head
      show spell_Write.fin (o, val [a, b], 2) = o ++ [sg (16 * a + 8 * b)]
      rw [fin_pos _ _ _ (by decide), show val [a, b] * 2 ^ ((5 : Int) - 2).toNat % 32 = 16 * a + 8 * b by simp only [val, List.foldl]; show _ * 8 % 32 = _; omega]
    | [a, b, c], _ =>
      have ha := hB.head; have hb := hB.tail.head; have hc := hB.tail.tail.head
      show spell_Write.fin (o, val [a, b, c], 3) = o ++ [sg (16 * a + 8 * b + 4 * c)]
      rw [fin_pos _ _ _ (by decide), show val [a, b, c] * 2 ^ ((5 : Int) - 3).toNat % 32 = 16 * a + 8 * b + 4 * c by simp only [val, List.foldl]; show _ * 4 % 32 = _; omega]
    | [a, b, c, d], _ =>
      have ha := hB.head; have hb := hB.tail.head; have hc := hB.tail.tail.head; have hd := hB.tail.tail.tail.head
      show spell_Write.fin (o, val [a, b, c, d], 4) = o ++ [sg (16 * a + 8 * b + 4 * c + 2 * d)]
      rw [fin_pos _ _ _ (by decide), show val [a, b, c, d] * 2 ^ ((5 : Int) - 4).toNat % 32 = 16 * a + 8 * b + 4 * c + 2 * d by simp only [val, List.foldl]; show _ * 2 % 32 = _; omega]
  | cons x l ih =>
    intro B o hl hB hb
    have hx := hl.head
    rw [bitsOf_cons]
    match B, hb with
    | [], _ =>
      show spell_Write.fin (spell_Write.go l ((val [] * 256 + x) % 2 ^ (spell_Write.inn 3 (val [] * 256 + x) 8 o).2.toNat) (spell_Write.inn 3 (val [] * 256 + x) 8 o).2 (spell_Write.inn 3 (val [] * 256 + x) 8 o).1) = _
      rw [inn8]
      have e1 : (val [] * 256 + x) % 2 ^ (3 : Int).toNat = val [x / 4 % 2, x / 2 % 2, x % 2] := by simp only [val, List.foldl]; show _ % 8 = _; omega
      have e2 : (val [] * 256 + x) / 8 % 32 = 16 * (x / 128 % 2) + 8 * (x / 64 % 2) + 4 * (x / 32 % 2) + 2 * (x / 16 % 2) + x / 8 % 2 := by simp only [val, List.foldl]; omega
      have h := ih [x / 4 % 2, x / 2 % 2, x % 2] (o ++ [sg (16 * (x / 128 % 2) + 8 * (x / 64 % 2) + 4 * (x / 32 % 2) + 2 * (x / 16 % 2) + x / 8 % 2)]) hl.tail (by intro b hb; simp at hb; omega) (by simp)
      rw [e1, e2]
      refine Eq.trans h ?_
      simp [bits8, enc]
    | [a], _ =>
      have ha := hB.head
      show spell_Write.fin (spell_Write.go l ((val [a] * 256 + x) % 2 ^ (spell_Write.inn 3 (val [a] * 256 + x) 9 o).2.toNat) (spell_Write.inn 3 (val [a] * 256 + x) 9 o).2 (spell_Write.inn 3 (val [a] * 256 + x) 9 o).1) = _
      rw [inn9]
      have e1 : (val [a] * 256 + x) % 2 ^ (4 : Int).toNat = val [x / 8 % 2, x / 4 % 2, x / 2 % 2, x % 2] := by simp only [val, List.foldl]; show _ % 16 = _; omega
      have e2 : (val [a] * 256 + x) / 16 % 32 = 16 * a + 8 * (x / 128 % 2) + 4 * (x / 64 % 2) + 2 * (x / 32 % 2) + x / 16 % 2 := by simp only [val, List.foldl]; omega
      have h := ih [x / 8 % 2, x / 4 % 2, x / 2 % 2, x % 2] (o ++ [sg (16 * a + 8 * (x / 128 % 2) + 4 * (x / 64 % 2) + 2 * (x / 32 % 2) + x / 16 % 2)]) hl.tail (by intro b hb; simp at hb; omega) (by simp)
      rw [e1, e2]
      refine Eq.trans h ?_
      simp [bits8, enc]
    | [a, b], _ =>
      have ha := hB.head; have hb := hB.tail.head
      show spell_Write.fin (spell_Write.go l ((val [a, b] * 256 + x) % 2 ^ (spell_Write.inn 3 (val [a, b] * 256 + x) 10 o).2.toNat) (spell_Write.inn 3 (val [a, b] * 256 + x) 10 o).2 (spell_Write.inn 3 (val [a, b] * 256 + x) 10 o).1) = _
      rw [inn10]
      have e1 : (val [a, b] * 256 + x) % 2 ^ (0 : Int).toNat = val [] := by simp [val]
      have e2 : (val [a, b] * 256 + x) / 32 % 32 = 16 * a + 8 * b + 4 * (x / 128 % 2) + 2 * (x / 64 % 2) + x / 32 % 2 := by simp only [val, List.foldl]; omega
      have e3 : (val [a, b] * 256 + x) % 32 = 16 * (x / 16 % 2) + 8 * (x / 8 % 2) + 4 * (x / 4 % 2) + 2 * (x / 2 % 2) + x % 2 := by simp only [val, List.foldl]; omega
      have h := ih [] (o ++ [sg (16 * a + 8 * b + 4 * (x / 128 % 2) + 2 * (x / 64 % 2) + x / 32 % 2)] ++ [sg (16 * (x / 16 % 2) + 8 * (x / 8 % 2) + 4 * (x / 4 % 2) + 2 * (x / 2 % 2) + x % 2)]) hl.tail (by intro b hb; simp at hb) (by simp)
      rw [e1, e2, e3]
      refine Eq.trans h ?_
      simp [bits8, enc]
    | [a, b, c], _ =>
      have ha := hB.head; have hb := hB.tail.head; have hc := hB.tail.tail.head
      show spell_Write.fin (spell_Write.go l ((val [a, b, c] * 256 + x) % 2 ^ (spell_Write.inn 3 (val [a, b, c] * 256 + x) 11 o).2.toNat) (spell_Write.inn 3 (val [a, b, c] * 256 + x) 11 o).2 (spell_Write.inn 3 (val [a, b, c] * 256 + x) 11 o).1) = _
      rw [inn11]
      have e1 : (val [a, b, c] * 256 + x) % 2 ^ (1 : Int).toNat = val [x % 2] := by simp only [val, List.foldl]; show _ % 2 = _; omega
      have e2 : (val [a, b, c] * 256 + x) / 64 % 32 = 16 * a + 8 * b + 4 * c + 2 * (x / 128 % 2) + x / 64 % 2 := by simp only [val, List.foldl]; omega
      have e3 : (val [a, b, c] * 256 + x) / 2 % 32 = 16 * (x / 32 % 2) + 8 * (x / 16 % 2) + 4 * (x / 8 % 2) + 2 * (x / 4 % 2) + x / 2 % 2 := by simp only [val, List.foldl]; omega
      have h := ih [x % 2] (o ++ [sg (16 * a + 8 * b + 4 * c + 2 * (x / 128 % 2) + x / 64 % 2)] ++ [sg (16 * (x / 32 % 2) + 8 * (x / 16 % 2) + 4 * (x / 8 % 2) + 2 * (x / 4 % 2) + x / 2 % 2)]) hl.tail (by intro b hb; simp at hb; omega) (by simp)
      rw [e1, e2, e3]
      refine Eq.trans h ?_
      simp [bits8, enc]
    | [a, b, c, d], _ =>
      have ha := hB.head; have hb := hB.tail.head; have hc := hB.tail.tail.head; have hd := hB.tail.tail.tail.head
      show spell_Write.fin (spell_Write.go l ((val [a, b, c, d] * 256 + x) % 2 ^ (spell_Write.inn 3 (val [a, b, c, d] * 256 + x) 12 o).2.toNat) (spell_Write.inn 3 (val [a, b, c, d] * 256 + x) 12 o).2 (spell_Write.inn 3 (val [a, b, c, d] * 256 + x) 12 o).1) = _
      rw [inn12]
      have e1 : (val [a, b, c, d] * 256 + x) % 2 ^ (2 : Int).toNat = val [x / 2 % 2, x % 2] := by simp only [val, List.foldl]; show _ % 4 = _; omega
      have e2 : (val [a, b, c, d] * 256 + x) / 128 % 32 = 16 * a + 8 * b + 4 * c + 2 * d + x / 128 % 2 := by simp only [val, List.foldl]; omega
      have e3 : (val [a, b, c, d] * 256 + x) / 4 % 32 = 16 * (x / 64 % 2) + 8 * (x / 32 % 2) + 4 * (x / 16 % 2) + 2 * (x / 8 % 2) + x / 4 % 2 := by simp only [val, List.foldl]; omega
      have h := ih [x / 2 % 2, x % 2] (o ++ [sg (16 * a + 8 * b + 4 * c + 2 * d + x / 128 % 2)] ++ [sg (16 * (x / 64 % 2) + 8 * (x / 32 % 2) + 4 * (x / 16 % 2) + 2 * (x / 8 % 2) + x / 4 % 2)]) hl.tail (by intro b hb; simp at hb; omega) (by simp)
      rw [e1, e2, e3]
      refine Eq.trans h ?_
      simp [bits8, enc]
theorem write_is (l : List Int) (hl : l.length ≤ 1099511627776) (hb : Bytes l) : spell_Write.f l = some ⟨(enc (bitsOf l)).toArray⟩ := by
  unfold spell_Write.f
  rw [if_pos ⟨hl, hb⟩]
  have h := go_spec l [] [] hb (by intro b h; simp at h) (by simp)
  have e : spell_Write.go l (val []) (([] : List Int).length : Nat) [] = spell_Write.go l 0 0 [] := rfl
  rw [e] at h
  rw [h]
  rfl
theorem five {P : List Int → Prop} (h0 : P []) (h1 : ∀ a, P [a]) (h2 : ∀ a b, P [a, b]) (h3 : ∀ a b c, P [a, b, c]) (h4 : ∀ a b c d, P [a, b, c, d])
    (h5 : ∀ a b c d e r, P r → P (a :: b :: c :: d :: e :: r)) : ∀ l, P l
  | [] => h0
  | [a] => h1 a
  | [a, b] => h2 a b
  | [a, b, c] => h3 a b c
  | [a, b, c, d] => h4 a b c d
  | a :: b :: c :: d :: e :: r => h5 a b c d e r (five h0 h1 h2 h3 h4 h5 r)
theorem enc_length (B : List Int) : (enc B).length = (B.length + 4) / 5 := by
  refine five (P := fun B => (enc B).length = (B.length + 4) / 5) rfl (fun _ => by simp [enc]) (fun _ _ => by simp [enc]) (fun _ _ _ => by simp [enc]) (fun _ _ _ _ => by simp [enc]) ?_ B
  intro a b c d e r ih
  simp only [enc, List.length_cons, ih]
  omega
theorem sg_inj : ∀ i j : Int, 0 ≤ i → i < 32 → 0 ≤ j → j < 32 → sg i = sg j → i = j := by
  have h : ∀ i j : Fin 32, sg (i.val : Int) = sg (j.val : Int) → i = j := by decide
  intro i j h0 h1 h2 h3 e
  have := h ⟨i.toNat, by omega⟩ ⟨j.toNat, by omega⟩ (by show sg ((i.toNat : Nat) : Int) = sg ((j.toNat : Nat) : Int); rw [Int.toNat_of_nonneg h0, Int.toNat_of_nonneg h2]; exact e)
  have h4 : i.toNat = j.toNat := congrArg Fin.val this
  omega
theorem enc_pad (B : List Int) : ∀ z, z < 5 → (B.length + z) % 5 = 0 → enc (B ++ List.replicate z 0) = enc B := by
  refine five (P := fun B => ∀ z, z < 5 → (B.length + z) % 5 = 0 → enc (B ++ List.replicate z 0) = enc B) ?_ ?_ ?_ ?_ ?_ ?_ B
  · intro z hz h; obtain rfl : z = 0 := by simp at h; omega
    rfl
  · intro a z hz h; obtain rfl : z = 4 := by simp at h; omega
    simp [enc, List.replicate]
  · intro a b z hz h; obtain rfl : z = 3 := by simp at h; omega
    simp [enc, List.replicate]
  · intro a b c z hz h; obtain rfl : z = 2 := by simp at h; omega
    simp [enc, List.replicate]
  · intro a b c d z hz h; obtain rfl : z = 1 := by simp at h; omega
    simp [enc, List.replicate]
  · intro a b c d e r ih z hz h
    simp only [List.cons_append, enc]
    rw [ih z hz (by simp only [List.length_cons] at h; omega)]
theorem val_zero (R : List Int) (h : Bits R) (hv : val R = 0) : R = List.replicate R.length 0 := by
  have key : ∀ (R : List Int) (a : Int), Bits R → 0 ≤ a → R.foldl (fun h b => 2 * h + b) a = 0 → a = 0 ∧ R = List.replicate R.length 0 := by
    intro R
    induction R with
    | nil => intro a _ _ h; exact ⟨h, rfl⟩
    | cons b R ih =>
      intro a hb ha h
      obtain ⟨h1, h2⟩ := ih (2 * a + b) hb.tail (by have := hb.head; omega) h
      have := hb.head
      refine ⟨by omega, ?_⟩
      obtain rfl : b = 0 := by omega
      rw [List.length_cons, List.replicate_succ, ← h2]
  exact (key R 0 h (Int.le_refl _) hv).2
theorem val_replicate (n : Nat) : val (List.replicate n 0) = 0 := by
  have key : ∀ n, (List.replicate n (0 : Int)).foldl (fun h b => 2 * h + b) 0 = 0 := by
    intro n
    induction n with
    | zero => rfl
    | succ n ih => rw [List.replicate_succ, List.foldl_cons]; exact ih
  exact key n
theorem enc_same (B : List Int) : ∀ R, Bits B → Bits R → (B.length + R.length) % 5 = 0 → enc (B ++ R) = enc B → R.length < 5 ∧ val R = 0 := by
  refine five (P := fun B => ∀ R, Bits B → Bits R → (B.length + R.length) % 5 = 0 → enc (B ++ R) = enc B → R.length < 5 ∧ val R = 0) ?_ ?_ ?_ ?_ ?_ ?_ B
  · intro R _ _ _ h
    have h1 := congrArg List.length h
    rw [List.nil_append, enc_length] at h1
    have : R = [] := List.eq_nil_of_length_eq_zero (by simp [enc] at h1; omega)
    subst this
    exact ⟨by simp, rfl⟩
  · intro a R hB hR hl h
    have h1 := congrArg List.length h
    rw [enc_length] at h1
    simp [enc] at h1 hl
    match R, hR, h, (by omega : R.length = 4) with
    | [p, q, r, s], hR, h, _ =>
      have ha := hB.head; have hp := hR.head; have hq := hR.tail.head; have hr := hR.tail.tail.head; have hs := hR.tail.tail.tail.head
      simp only [List.cons_append, List.nil_append, enc, List.cons.injEq, and_true] at h
      have := sg_inj _ _ (by omega) (by omega) (by omega) (by omega) h
      exact ⟨by simp, by simp only [val, List.foldl]; omega⟩
  · intro a b R hB hR hl h
    have h1 := congrArg List.length h
    rw [enc_length] at h1
    simp [enc] at h1 hl
    match R, hR, h, (by omega : R.length = 3) with
    | [q, r, s], hR, h, _ =>
      have ha := hB.head; have hb := hB.tail.head; have hq := hR.head; have hr := hR.tail.head; have hs := hR.tail.tail.head
      simp only [List.cons_append, List.nil_append, enc, List.cons.injEq, and_true] at h
      have := sg_inj _ _ (by omega) (by omega) (by omega) (by omega) h
      exact ⟨by simp, by simp only [val, List.foldl]; omega⟩
  · intro a b c R hB hR hl h
    have h1 := congrArg List.length h
    rw [enc_length] at h1
    simp [enc] at h1 hl
    match R, hR, h, (by omega : R.length = 2) with
    | [r, s], hR, h, _ =>
      have ha := hB.head; have hb := hB.tail.head; have hc := hB.tail.tail.head; have hr := hR.head; have hs := hR.tail.head
      simp only [List.cons_append, List.nil_append, enc, List.cons.injEq, and_true] at h
      have := sg_inj _ _ (by omega) (by omega) (by omega) (by omega) h
      exact ⟨by simp, by simp only [val, List.foldl]; omega⟩
  · intro a b c d R hB hR hl h
    have h1 := congrArg List.length h
    rw [enc_length] at h1
    simp [enc] at h1 hl
    match R, hR, h, (by omega : R.length = 1) with
    | [s], hR, h, _ =>
      have ha := hB.head; have hb := hB.tail.head; have hc := hB.tail.tail.head; have hd := hB.tail.tail.tail.head; have hs := hR.head
      simp only [List.cons_append, List.nil_append, enc, List.cons.injEq, and_true] at h
      have := sg_inj _ _ (by omega) (by omega) (by omega) (by omega) h
      exact ⟨by simp, by simp only [val, List.foldl]; omega⟩
  · intro a b c d e r ih R hB hR hl h
    simp only [List.cons_append, enc, List.cons.injEq, true_and] at h
    exact ih R hB.tail.tail.tail.tail.tail hR (by simp only [List.length_cons] at hl; omega) h
def dg (c : Int) : Option Int := if 97 ≤ c ∧ c ≤ 122 then some (c - 97) else if 50 ≤ c ∧ c ≤ 55 then some (c - 50 + 26) else none
def digits : List Int → Option (List Int)
  | [] => some []
  | c :: cs => (dg c).bind fun d => (digits cs).map (d :: ·)
def take8 : List Int → List Int → List Int → List Int × List Int
  | [], o, R => (o, R)
  | d :: ds, o, R => if 8 ≤ R.length + 5 then take8 ds (o ++ [val ((R ++ bits5 d).take 8)]) ((R ++ bits5 d).drop 8) else take8 ds o (R ++ bits5 d)
theorem dg_range {c d : Int} (h : dg c = some d) : 0 ≤ d ∧ d < 32 := by
  unfold dg at h
  split at h
  · obtain rfl := Option.some.inj h; omega
  · split at h
    · obtain rfl := Option.some.inj h; omega
    · cases h
theorem sg_dg {c d : Int} (h : dg c = some d) : ((sg d).toNat : Int) = c := by
  have h1 : ∀ i : Fin 26, ((sg (i.val : Int)).toNat : Int) = i.val + 97 := by decide
  have h2 : ∀ i : Fin 6, ((sg ((i.val : Int) + 26)).toNat : Int) = i.val + 50 := by decide
  unfold dg at h
  split at h
  · obtain rfl := Option.some.inj h
    have := h1 ⟨(c - 97).toNat, by omega⟩
    simp only [Int.toNat_of_nonneg (show 0 ≤ c - 97 by omega)] at this
    omega
  · split at h
    · obtain rfl := Option.some.inj h
      have := h2 ⟨(c - 50).toNat, by omega⟩
      simp only [Int.toNat_of_nonneg (show 0 ≤ c - 50 by omega)] at this
      omega
    · cases h
theorem dg_sg (d : Int) (h0 : 0 ≤ d) (h1 : d < 32) : dg ((sg d).toNat : Int) = some d := by
  have h : ∀ i : Fin 32, dg ((sg (i.val : Int)).toNat : Int) = some (i.val : Int) := by decide
  have := h ⟨d.toNat, by omega⟩
  simpa only [Int.toNat_of_nonneg h0] using this
theorem val8 (a b c d e f g h : Int) (ha : 0 ≤ a ∧ a ≤ 1) (hb : 0 ≤ b ∧ b ≤ 1) (hc : 0 ≤ c ∧ c ≤ 1) (hd : 0 ≤ d ∧ d ≤ 1) (he : 0 ≤ e ∧ e ≤ 1) (hf : 0 ≤ f ∧ f ≤ 1) (hg : 0 ≤ g ∧ g ≤ 1) (hh : 0 ≤ h ∧ h ≤ 1) :
    bits8 (val [a, b, c, d, e, f, g, h]) = [a, b, c, d, e, f, g, h] ∧ 0 ≤ val [a, b, c, d, e, f, g, h] ∧ val [a, b, c, d, e, f, g, h] ≤ 255 := by
  have e : val [a, b, c, d, e, f, g, h] = 128 * a + 64 * b + 32 * c + 16 * d + 8 * e + 4 * f + 2 * g + h := by simp only [val, List.foldl]; omega
  rw [e]
  refine ⟨?_, by omega, by omega⟩
  simp only [bits8, List.cons.injEq, and_true]
  refine ⟨?_, ?_, ?_, ?_, ?_, ?_, ?_, ?_⟩ <;> omega
theorem val8_of (B : List Int) (hB : Bits B) (hl : B.length = 8) : bits8 (val B) = B ∧ 0 ≤ val B ∧ val B ≤ 255 := by
  match B, hl with
  | [a, b, c, d, e, f, g, h], _ => exact val8 a b c d e f g h hB.head hB.tail.head hB.tail.tail.head hB.tail.tail.tail.head hB.tail.tail.tail.tail.head hB.tail.tail.tail.tail.tail.head hB.tail.tail.tail.tail.tail.tail.head hB.tail.tail.tail.tail.tail.tail.tail.head
theorem take8_spec (ds : List Int) : ∀ o R, Bits R → R.length < 8 → Bytes o → bitsOf (take8 ds o R).1 ++ (take8 ds o R).2 = bitsOf o ++ R ++ ds.flatMap bits5 ∧ Bits (take8 ds o R).2 ∧ (take8 ds o R).2.length < 8 ∧ Bytes (take8 ds o R).1 ∧ (take8 ds o R).1.length ≤ o.length + ds.length := by
  induction ds with
  | nil => intro o R hR hl ho; simp [take8, hR, hl, ho]
  | cons d ds ih =>
    intro o R hR hl ho
    have hb : Bits (R ++ bits5 d) := hR.append (Bits5 d)
    have hlen : (R ++ bits5 d).length = R.length + 5 := by simp [bits5]
    rw [take8]
    split
    · rename_i h8
      have hb' : Bits ((R ++ bits5 d).take 8 ++ (R ++ bits5 d).drop 8) := by rw [List.take_append_drop]; exact hb
      obtain ⟨h1, h2, h3⟩ := val8_of _ hb'.left (by rw [List.length_take, hlen]; omega)
      obtain ⟨i1, i2, i3, i4, i5⟩ := ih (o ++ [val ((R ++ bits5 d).take 8)]) ((R ++ bits5 d).drop 8) hb'.right (by rw [List.length_drop, hlen]; omega) (fun x hx => by
        rcases List.mem_append.1 hx with hx | hx
        · exact ho x hx
        · rw [List.mem_singleton.1 hx]; exact ⟨h2, h3⟩)
      refine ⟨?_, i2, i3, i4, ?_⟩
      · rw [i1, bitsOf_append]
        have e : bitsOf [val ((R ++ bits5 d).take 8)] = (R ++ bits5 d).take 8 := by rw [bitsOf_cons, h1]; simp [bitsOf]
        rw [e]
        simp only [List.flatMap_cons]
        have : (R ++ bits5 d).take 8 ++ (R ++ bits5 d).drop 8 = R ++ bits5 d := List.take_append_drop 8 _
        rw [List.append_assoc (bitsOf o), this]
        simp [List.append_assoc]
      · simp at i5 ⊢; omega
    · obtain ⟨i1, i2, i3, i4, i5⟩ := ih o (R ++ bits5 d) hb (by rw [hlen]; omega) ho
      refine ⟨?_, i2, i3, i4, by simp; omega⟩
      rw [i1]
      simp [List.append_assoc]
theorem enc_digits (ds : List Int) (h : ∀ d ∈ ds, 0 ≤ d ∧ d < 32) : enc (ds.flatMap bits5) = ds.map sg := by
  induction ds with
  | nil => rfl
  | cons d ds ih =>
    have hd := h d List.mem_cons_self
    simp only [List.flatMap_cons, bits5, List.cons_append, List.nil_append, enc, List.map_cons]
    rw [show 16 * (d / 16 % 2) + 8 * (d / 8 % 2) + 4 * (d / 4 % 2) + 2 * (d / 2 % 2) + d % 2 = d by omega]
    congr 1
    exact ih (fun x hx => h x (List.mem_cons_of_mem _ hx))
theorem digits_of {cs ds : List Int} (h : digits cs = some ds) : (∀ d ∈ ds, 0 ≤ d ∧ d < 32) ∧ ds.map (fun d => ((sg d).toNat : Int)) = cs ∧ ds.length = cs.length := by
  induction cs generalizing ds with
  | nil => obtain rfl := Option.some.inj h; simp
  | cons c cs ih =>
    unfold digits at h
    obtain ⟨d, hd, h⟩ := Option.bind_eq_some_iff.1 h
    obtain ⟨ds', hds, rfl⟩ := Option.map_eq_some_iff.1 h
    obtain ⟨i1, i2, i3⟩ := ih hds
    refine ⟨?_, ?_, by simp [i3]⟩
    · intro x hx
      rcases List.mem_cons.1 hx with rfl | hx
      · exact dg_range hd
      · exact i1 x hx
    · rw [List.map_cons, i2, sg_dg hd]
theorem digits_map (ds : List Int) (h : ∀ d ∈ ds, 0 ≤ d ∧ d < 32) : digits (ds.map fun d => ((sg d).toNat : Int)) = some ds := by
  induction ds with
  | nil => rfl
  | cons d ds ih =>
    have hd := h d List.mem_cons_self
    rw [List.map_cons, digits, dg_sg d hd.1 hd.2, ih (fun x hx => h x (List.mem_cons_of_mem _ hx))]
    rfl
theorem flat5_length (ds : List Int) : (ds.flatMap bits5).length = 5 * ds.length := by
  induction ds with
  | nil => rfl
  | cons d ds ih => simp only [List.flatMap_cons, List.length_append, ih, bits5, List.length_cons, List.length_nil]; omega
def readOf (cs : List Int) : List Int × Int := match digits cs with
  | none => ([], 40)
  | some ds => if 5 ≤ (take8 ds [] []).2.length then ([], 40) else if val (take8 ds [] []).2 = 0 then ((take8 ds [] []).1, 0) else ([], 40)
theorem read_back {cs ds : List Int} (h : digits cs = some ds) : (enc (bitsOf (take8 ds [] []).1) = ds.map sg ↔ (take8 ds [] []).2.length < 5 ∧ val (take8 ds [] []).2 = 0) := by
  obtain ⟨h1, h2, h3⟩ := digits_of h
  obtain ⟨t1, t2, t3, t4, t5⟩ := take8_spec ds [] [] (by intro b h; simp at h) (by simp) (by intro b h; simp at h)
  have t1' : bitsOf (take8 ds [] []).1 ++ (take8 ds [] []).2 = ds.flatMap bits5 := by simpa [bitsOf] using t1
  have hlen : ((bitsOf (take8 ds [] []).1).length + (take8 ds [] []).2.length) % 5 = 0 := by rw [← List.length_append, t1', flat5_length]; omega
  have he : enc (bitsOf (take8 ds [] []).1 ++ (take8 ds [] []).2) = ds.map sg := by rw [t1', enc_digits ds h1]
  constructor
  · intro hs
    exact enc_same _ _ (BitsOf _) t2 hlen (he.trans hs.symm)
  · intro ⟨hs, hv⟩
    rw [← he]
    have hz := val_zero _ t2 hv
    rw [hz]
    exact (enc_pad _ _ hs hlen).symm
theorem bitsOf_inj : ∀ a b : List Int, Bytes a → Bytes b → bitsOf a = bitsOf b → a = b := by
  intro a
  induction a with
  | nil => intro b _ _ h; cases b with
    | nil => rfl
    | cons y b => rw [bitsOf_cons] at h; simp [bitsOf, bits8] at h
  | cons x a ih =>
    intro b ha hb h
    cases b with
    | nil => rw [bitsOf_cons] at h; simp [bitsOf, bits8] at h
    | cons y b =>
      have hx := ha.head; have hy := hb.head
      rw [bitsOf_cons, bitsOf_cons] at h
      simp only [bits8, List.cons_append, List.nil_append, List.cons.injEq] at h
      obtain ⟨e1, e2, e3, e4, e5, e6, e7, e8, h⟩ := h
      rw [ih b ha.tail hb.tail h]
      congr 1
      omega
theorem enc_is_digits (B : List Int) (hB : Bits B) : ∃ ds : List Int, ∃ z, z < 5 ∧ (∀ d ∈ ds, 0 ≤ d ∧ d < 32) ∧ enc B = ds.map sg ∧ ds.flatMap bits5 = B ++ List.replicate z 0 := by
  have key : Bits B → ∃ ds : List Int, ∃ z, z < 5 ∧ (∀ d ∈ ds, 0 ≤ d ∧ d < 32) ∧ enc B = ds.map sg ∧ ds.flatMap bits5 = B ++ List.replicate z 0 := by
    refine five (P := fun B => Bits B → ∃ ds : List Int, ∃ z, z < 5 ∧ (∀ d ∈ ds, 0 ≤ d ∧ d < 32) ∧ enc B = ds.map sg ∧ ds.flatMap bits5 = B ++ List.replicate z 0) ?_ ?_ ?_ ?_ ?_ ?_ B
    · intro _; exact ⟨[], 0, by decide, by simp, rfl, rfl⟩
    · intro a h
      have ha := h.head
      refine ⟨[16 * a], 4, by decide, by intro d hd; rw [List.mem_singleton.1 hd]; omega, rfl, ?_⟩
      simp only [List.flatMap_cons, List.flatMap_nil, List.append_nil, bits5, List.cons_append, List.nil_append, List.replicate, List.cons.injEq, and_true]
      omega
    · intro a b h
      have ha := h.head; have hb := h.tail.head
      refine ⟨[16 * a + 8 * b], 3, by decide, by intro d hd; rw [List.mem_singleton.1 hd]; omega, rfl, ?_⟩
      simp only [List.flatMap_cons, List.flatMap_nil, List.append_nil, bits5, List.cons_append, List.nil_append, List.replicate, List.cons.injEq, and_true]
      omega
    · intro a b c h
      have ha := h.head; have hb := h.tail.head; have hc := h.tail.tail.head
      refine ⟨[16 * a + 8 * b + 4 * c], 2, by decide, by intro d hd; rw [List.mem_singleton.1 hd]; omega, rfl, ?_⟩
      simp only [List.flatMap_cons, List.flatMap_nil, List.append_nil, bits5, List.cons_append, List.nil_append, List.replicate, List.cons.injEq, and_true]
      omega
    · intro a b c d h
      have ha := h.head; have hb := h.tail.head; have hc := h.tail.tail.head; have hd := h.tail.tail.tail.head
      refine ⟨[16 * a + 8 * b + 4 * c + 2 * d], 1, by decide, by intro d hd; rw [List.mem_singleton.1 hd]; omega, rfl, ?_⟩
      simp only [List.flatMap_cons, List.flatMap_nil, List.append_nil, bits5, List.cons_append, List.nil_append, List.replicate, List.cons.injEq, and_true]
      omega
    · intro a b c d e r ih h
      have ha := h.head; have hb := h.tail.head; have hc := h.tail.tail.head; have hd := h.tail.tail.tail.head; have he := h.tail.tail.tail.tail.head
      obtain ⟨ds, z, hz, h1, h2, h3⟩ := ih h.tail.tail.tail.tail.tail
      refine ⟨(16 * a + 8 * b + 4 * c + 2 * d + e) :: ds, z, hz, ?_, ?_, ?_⟩
      · intro x hx
        rcases List.mem_cons.1 hx with rfl | hx
        · omega
        · exact h1 x hx
      · simp only [enc, List.map_cons, h2]
      · simp only [List.flatMap_cons, h3, bits5, List.cons_append, List.nil_append, List.cons.injEq, and_true]
        omega
  exact key hB
theorem read_written (l : List Int) (hl : Bytes l) : readOf ((enc (bitsOf l)).map fun c => (c.toNat : Int)) = (l, 0) := by
  obtain ⟨ds, z, hz, h1, h2, h3⟩ := enc_is_digits _ (BitsOf l)
  rw [h2, List.map_map]
  unfold readOf
  have hd : digits (List.map ((fun c => (c.toNat : Int)) ∘ sg) ds) = some ds := digits_map ds h1
  rw [hd]
  obtain ⟨t1, t2, t3, t4, t5⟩ := take8_spec ds [] [] (by intro b h; simp at h) (by simp) (by intro b h; simp at h)
  have t1' : bitsOf (take8 ds [] []).1 ++ (take8 ds [] []).2 = bitsOf l ++ List.replicate z 0 := by rw [← h3]; simpa [bitsOf] using t1
  have hlen := congrArg List.length t1'
  simp only [List.length_append, bitsOf_length, List.length_replicate] at hlen
  have e1 : (take8 ds [] []).1.length = l.length := by omega
  have e2 : (take8 ds [] []).2.length = z := by omega
  have e3 := List.append_inj t1' (by rw [bitsOf_length, bitsOf_length, e1])
  have e4 : (take8 ds [] []).1 = l := bitsOf_inj _ _ t4 hl e3.1
  dsimp only
  rw [if_neg (by omega), e3.2, val_replicate, if_pos rfl, e4]
end Go.Proofs.YtabdnlecpndfjaaDoor.Sp
namespace Go.Proofs.YtabdnlecpndfjaaDoor.PBase
open Go.RowKit Go.Proofs.YtabdnlecpndfjaaDoorW.PrintWords Go.Proofs.YtabdnlecpndfjaaDoorW.PrintLast Go.Proofs.YtabdnlecpndfjaaDoorW.PrintMore
attribute [local go_sem] max2_int min2_int max_two min_two max_three min_three max_four min_four   -- for this text's walks alone
set_option linter.unusedVariables false
set_option linter.unusedSimpArgs false
def errW : Option Int → Value
 | none => .nilIface
 | some c => .iface 0 (.int .i64 c)
theorem errW_none : errW none = .nilIface := rfl
theorem errW_some (c : Int) : errW (some c) = .iface 0 (.int .i64 c) := rfl
theorem info5 : (Tryd.prog.info? 5).map (fun i => (i.zero, i.size, i.bytes)) = some (some (.int .u8 0), 1, 1) := by kernel_rfl
structure S42 where
 f0 : Int
 f1 : (List Int)
 f2 : Int
 f3 : Int
 f4 : (List Int)
def z42 : S42 := ⟨(0 : Int), ([] : List Int), (0 : Int), (0 : Int), ([] : List Int)⟩
def k42 : Kd S42 := Kd.iso (Kd.pair (Kd.int .u32) (Kd.pair (Kd.slice 5 (Kd.int .u8)) (Kd.pair (Kd.int .u64) (Kd.pair (Kd.int .u64) (Kd.slice 23 (Kd.int .u32)))))) (fun x : S42 => (x.f0, x.f1, x.f2, x.f3, x.f4))
theorem k42_open {w : World} {x : S42} {cs : List Value} (h : k42.K w x cs) : ∃ A1 c1 A4 c4, cs = [.int .u32 x.f0, .slice A1 x.f1.length c1, .int .u64 x.f2, .int .u64 x.f3, .slice A4 x.f4.length c4] ∧ x.f1.length ≤ c1 ∧ (Kd.int .u8).C w A1 x.f1.length x.f1 ∧ x.f4.length ≤ c4 ∧ (Kd.int .u32).C w A4 x.f4.length x.f4 := by
 obtain ⟨_, _, rfl, rfl, ⟨_, _, rfl, ⟨A1, c1, rfl, l1, g1⟩, ⟨_, _, rfl, rfl, ⟨_, _, rfl, rfl, ⟨A4, c4, rfl, l4, g4⟩⟩⟩⟩⟩ := h
 exact ⟨A1, c1, A4, c4, rfl, l1, g1, l4, g4⟩
theorem k42_mk (w : World) (x : S42) {A1 : Option Addr} {c1 : Nat} (l1 : x.f1.length ≤ c1) (g1 : (Kd.int .u8).C w A1 x.f1.length x.f1) {A4 : Option Addr} {c4 : Nat} (l4 : x.f4.length ≤ c4) (g4 : (Kd.int .u32).C w A4 x.f4.length x.f4) : k42.K w x [.int .u32 x.f0, .slice A1 x.f1.length c1, .int .u64 x.f2, .int .u64 x.f3, .slice A4 x.f4.length c4] := ⟨[.int .u32 x.f0], [.slice A1 x.f1.length c1, .int .u64 x.f2, .int .u64 x.f3, .slice A4 x.f4.length c4], rfl, rfl, ⟨[.slice A1 x.f1.length c1], [.int .u64 x.f2, .int .u64 x.f3, .slice A4 x.f4.length c4], rfl, ⟨A1, c1, rfl, l1, g1⟩, ⟨[.int .u64 x.f2], [.int .u64 x.f3, .slice A4 x.f4.length c4], rfl, rfl, ⟨[.int .u64 x.f3], [.slice A4 x.f4.length c4], rfl, rfl, ⟨A4, c4, rfl, l4, g4⟩⟩⟩⟩⟩
def rd_T42 (xs : List S42) (i : Int) : S42 := xs.getD i.toNat z42
theorem at_T42 {w : World} {A : Option Addr} {n : Nat} {xs : List S42} (h : Kd.C k42 w A n xs) (i : Int) (h0 : 0 ≤ i) (h1 : i < n) : ∃ ad A1 c1 A4 c4, A = some ad ∧ w.cell? (ad.add (i.toNat * 5)) = some (.int .u32 (rd_T42 xs i).f0) ∧ w.cell? ⟨(ad.add (i.toNat * 5)).block, (ad.add (i.toNat * 5)).off + 1, none⟩ = some (.slice A1 (rd_T42 xs i).f1.length c1) ∧ w.cell? ⟨(ad.add (i.toNat * 5)).block, (ad.add (i.toNat * 5)).off + 2, none⟩ = some (.int .u64 (rd_T42 xs i).f2) ∧ w.cell? ⟨(ad.add (i.toNat * 5)).block, (ad.add (i.toNat * 5)).off + 3, none⟩ = some (.int .u64 (rd_T42 xs i).f3) ∧ w.cell? ⟨(ad.add (i.toNat * 5)).block, (ad.add (i.toNat * 5)).off + 4, none⟩ = some (.slice A4 (rd_T42 xs i).f4.length c4) ∧ (rd_T42 xs i).f1.length ≤ c1 ∧ (Kd.int .u8).C w A1 (rd_T42 xs i).f1.length (rd_T42 xs i).f1 ∧ (rd_T42 xs i).f4.length ≤ c4 ∧ (Kd.int .u32).C w A4 (rd_T42 xs i).f4.length (rd_T42 xs i).f4 := by
 obtain ⟨ad, c, e, _, hK, hc0⟩ := Kd.C_get h z42 i h0 h1
 have hc : ∀ j u, c[j]? = some u → w.cell? (ad.add (i.toNat * 5 + j)) = some u := hc0
 obtain ⟨A1, c1, A4, c4, rfl, l1, g1, l4, g4⟩ := k42_open hK
 exact ⟨ad, A1, c1, A4, c4, e, hc 0 _ rfl, by rw [← add_field _ _ 1 (by omega)]; exact hc 1 _ rfl, by rw [← add_field _ _ 2 (by omega)]; exact hc 2 _ rfl, by rw [← add_field _ _ 3 (by omega)]; exact hc 3 _ rfl, by rw [← add_field _ _ 4 (by omega)]; exact hc 4 _ rfl, l1, g1, l4, g4⟩
end Go.Proofs.YtabdnlecpndfjaaDoor.PBase
namespace Go.Proofs.YtabdnlecpndfjaaDoor.PBase
open Go.RowKit Go.Proofs.YtabdnlecpndfjaaDoorW.PrintWords Go.Proofs.YtabdnlecpndfjaaDoorW.PrintLast Go.Proofs.YtabdnlecpndfjaaDoorW.PrintMore
attribute [local go_sem] max2_int min2_int max_two min_two max_three min_three max_four min_four   -- for this text's walks alone
set_option linter.unusedVariables false
set_option linter.unusedSimpArgs false
def bits_RotateLeft32.f (a0 : Int) (a1 : Int) : Option (Int) := if 0 ≤ (Go.bits .and .u64 (IntKind.u64.wrap (a1)) 31) then (if 0 ≤ (IntKind.u64.wrap (32 - (Go.bits .and .u64 (IntKind.u64.wrap (a1)) 31))) then (some (Go.bits .or .u32 (shl .u32 a0 (Go.bits .and .u64 (IntKind.u64.wrap (a1)) 31)) (shr .u32 a0 (IntKind.u64.wrap (32 - (Go.bits .and .u64 (IntKind.u64.wrap (a1)) 31)))))) else (none)) else (none)
set_option maxHeartbeats 8000000 in
set_option maxRecDepth 100000 in
theorem bits_RotateLeft32.calls (a0 : Int) (a1 : Int) (r : Int) (w : World) (h : bits_RotateLeft32.f a0 a1 = some r) :
  Calls Tryd.prog 63 #[.int .u32 a0, .int .i64 a1] w fun e w' => e = .returned (.int .u32 r) ∧ Drawn0 w w' := by
 have H : (if 0 ≤ (Go.bits .and .u64 (IntKind.u64.wrap (a1)) 31) then (if 0 ≤ (IntKind.u64.wrap (32 - (Go.bits .and .u64 (IntKind.u64.wrap (a1)) 31))) then (some (Go.bits .or .u32 (shl .u32 a0 (Go.bits .and .u64 (IntKind.u64.wrap (a1)) 31)) (shr .u32 a0 (IntKind.u64.wrap (32 - (Go.bits .and .u64 (IntKind.u64.wrap (a1)) 31)))))) else (none)) else (none)) = some r := h
 clear h
 obtain ⟨ji3, hji3⟩ : ∃ j_ : Int, (Go.bits .and .u64 (IntKind.u64.wrap (a1)) 31) = j_ := ⟨_, rfl⟩
 replace H : (if 0 ≤ (ji3) then (if 0 ≤ (IntKind.u64.wrap (32 - (ji3))) then (some (Go.bits .or .u32 (shl .u32 a0 (ji3)) (shr .u32 a0 (IntKind.u64.wrap (32 - (ji3)))))) else (none)) else (none)) = some r := by first | (rw [hji3] at H; exact H) | (simp only [hji3] at H ⊢; exact H)
 by_cases c4 : 0 ≤ (ji3)
 ·rw [if_pos c4] at H
  have c4b0 := eq_true c4
  have c4b1 : decide (0 ≤ (ji3)) = true := decide_eq_true c4
  clear c4
  obtain ⟨ji5, hji5⟩ : ∃ j_ : Int, (shl .u32 a0 (ji3)) = j_ := ⟨_, rfl⟩
  replace H : (if 0 ≤ (IntKind.u64.wrap (32 - (ji3))) then (some (Go.bits .or .u32 (ji5) (shr .u32 a0 (IntKind.u64.wrap (32 - (ji3)))))) else (none)) = some r := by first | (rw [hji5] at H; exact H) | (simp only [hji5] at H ⊢; exact H)
  have hji5_ : (IntKind.u32.wrap (a0 * 2 ^ min (ji3).toNat 32)) = ji5 := hji5
  have hji5z : (ji3) ≤ 32 → (IntKind.u32.wrap (a0 * 2 ^ (ji3).toNat)) = ji5 := shl_small hji5
  obtain ⟨ji6, hji6⟩ : ∃ j_ : Int, (IntKind.u64.wrap (32 - (ji3))) = j_ := ⟨_, rfl⟩
  replace H : (if 0 ≤ (ji6) then (some (Go.bits .or .u32 (ji5) (shr .u32 a0 (ji6)))) else (none)) = some r := by first | (rw [hji6] at H; exact H) | (simp only [hji6] at H ⊢; exact H)
  by_cases c7 : 0 ≤ (ji6)
  ·rw [if_pos c7] at H
   have c7b0 := eq_true c7
   have c7b1 : decide (0 ≤ (ji6)) = true := decide_eq_true c7
   clear c7
   obtain ⟨ji8, hji8⟩ : ∃ j_ : Int, (shr .u32 a0 (ji6)) = j_ := ⟨_, rfl⟩
   replace H : (some (Go.bits .or .u32 (ji5) (ji8))) = some r := by first | (rw [hji8] at H; exact H) | (simp only [hji8] at H ⊢; exact H)
   have hji8_ : (a0 / 2 ^ min (ji6).toNat 32) = ji8 := hji8
   have hji8z : (ji6) ≤ 32 → (a0 / 2 ^ (ji6).toNat) = ji8 := shr_small hji8
   obtain rfl := Option.some.inj H
   go_enter Tryd.func63, Tryd.ntmps63
   go_wp2
   go_ret
   exact ⟨by first | rfl | (simp; done) | (simp only [← hji3, ← hji5, ← hji6, ← hji8] <;> (first | rfl | simp)) | (simp [*]; done), by repeat (first | exact Drawn0.refl _ | apply Drawn0.step)⟩
  ·rw [if_neg c7] at H
   exact absurd H (by simp)
 ·rw [if_neg c4] at H
  exact absurd H (by simp)
def sha_ror.f (a0 : Int) (a1 : Int) : Option (Int) := (bits_RotateLeft32.f a0 (wrap64 (-a1))).bind fun t101 => (some t101)
set_option maxHeartbeats 8000000 in
set_option maxRecDepth 100000 in
theorem sha_ror.calls (a0 : Int) (a1 : Int) (r : Int) (w : World) (h : sha_ror.f a0 a1 = some r) :
  Calls Tryd.prog 58 #[.int .u32 a0, .int .i64 a1] w fun e w' => e = .returned (.int .u32 r) ∧ Drawn0 w w' := by
 have H : ((bits_RotateLeft32.f a0 (wrap64 (-a1))).bind fun t101 => (some t101)) = some r := h
 clear h
 replace H := Option.bind_eq_some_iff.mp H
 obtain ⟨t101, A30, H⟩ := H
 replace H : (some t101) = some r := H
 have A3 := Aside0.mk A30
 clear A30
 obtain rfl := Option.some.inj H
 go_enter Tryd.func58, Tryd.ntmps58
 go_wp2_with (first | ((with_reducible refine gate_callee (f := 63) rfl ?_); refine goesL_ (some 8) rfl rfl Tryd.func63 (by kernel_rfl) rfl #[.int .u32 a0, .int .i64 (wrap64 (-a1))] rfl (by (try simp only [List.map_toArray, List.map_cons, List.map_nil]); first | done | rfl | (simp only [List.length_drop, List.length_take]; rfl) | (simp only [List.length_drop, List.length_take]; (repeat rw [Nat.min_eq_left (by simp only [eq_iff_iff, iff_true] at *; omega)]); rfl)) ?_; (with_reducible refine (bits_RotateLeft32.calls a0 (wrap64 (-a1)) t101 _ A3.out).mono ?_); rintro e w' ⟨rfl, ⟨nd, rfl⟩⟩; refine ⟨_, rfl, ?_⟩))
 go_ret
 exact ⟨by first | rfl | (simp; done) | (simp [*]; done), by repeat (first | exact Drawn0.refl _ | apply Drawn0.step)⟩
def sha_four.f (l0 : List Int) : Option (Int) := if 0 < (l0.length : Int) then (if 1 < (l0.length : Int) then (if 2 < (l0.length : Int) then (if 3 < (l0.length : Int) then (some (Go.bits .or .u32 (Go.bits .or .u32 (Go.bits .or .u32 ((((rd l0 0) % 4294967296) * 16777216) % 4294967296) ((((rd l0 1) % 4294967296) * 65536) % 4294967296)) ((((rd l0 2) % 4294967296) * 256) % 4294967296)) ((rd l0 3) % 4294967296))) else (none)) else (none)) else (none)) else (none)
set_option maxHeartbeats 8000000 in
set_option maxRecDepth 100000 in
theorem sha_four.calls (A0 : Option Addr) (c0 : Nat) (l0 : List Int) (r : Int) (w : World) (hr0 : Kd.C (Kd.int .u8) w A0 l0.length l0) (hc0 : l0.length ≤ c0) (h : sha_four.f l0 = some r) :
  Calls Tryd.prog 57 #[.slice A0 l0.length c0] w fun e w' => e = .returned (.int .u32 r) ∧ Drawn0 w w' := by
 have HR0 := Aside0.mk hr0
 have HC0 := Aside0.mk hc0
 clear hr0 hc0
 have H : (if 0 < (l0.length : Int) then (if 1 < (l0.length : Int) then (if 2 < (l0.length : Int) then (if 3 < (l0.length : Int) then (some (Go.bits .or .u32 (Go.bits .or .u32 (Go.bits .or .u32 ((((rd l0 0) % 4294967296) * 16777216) % 4294967296) ((((rd l0 1) % 4294967296) * 65536) % 4294967296)) ((((rd l0 2) % 4294967296) * 256) % 4294967296)) ((rd l0 3) % 4294967296))) else (none)) else (none)) else (none)) else (none)) = some r := h
 clear h
 by_cases c2 : 0 < (l0.length : Int)
 ·rw [if_pos c2] at H
  have c2b0 : decide (0 < (l0.length : Int)) = true := decide_eq_true c2
  have c2b1 : decide (0 < l0.length) = true := decide_eq_true (by omega)
  clear c2
  by_cases c3 : 1 < (l0.length : Int)
  ·rw [if_pos c3] at H
   have c3b0 : decide (1 < (l0.length : Int)) = true := decide_eq_true c3
   have c3b1 : decide (1 < l0.length) = true := decide_eq_true (by omega)
   clear c3
   by_cases c4 : 2 < (l0.length : Int)
   ·rw [if_pos c4] at H
    have c4b0 : decide (2 < (l0.length : Int)) = true := decide_eq_true c4
    have c4b1 : decide (2 < l0.length) = true := decide_eq_true (by omega)
    clear c4
    by_cases c5 : 3 < (l0.length : Int)
    ·rw [if_pos c5] at H
     have c5b0 : decide (3 < (l0.length : Int)) = true := decide_eq_true c5
     have c5b1 : decide (3 < l0.length) = true := decide_eq_true (by omega)
     clear c5
     obtain rfl := Option.some.inj H
     have p102 : 0 ≤ (0 : Int) := (by omega)
     have q102 : 0 < (l0.length : Int) := of_decide_eq_true (by first | (with_reducible assumption) | assumption)
     obtain ⟨ad102, e102, hx102_0⟩ := Kd.at_int HR0.out 0 p102 q102
     cases e102
     have qi102 : (0 < l0.length) = True := eq_true (by omega)
     (try rw [show ((0 : Int)).toNat = 0 from rfl] at hx102_0)
     (try rw [Addr.add_zero'] at hx102_0)
     replace p102 := eq_true p102
     replace q102 := eq_true q102
     have p103 : 0 ≤ (1 : Int) := (by omega)
     have q103 : 1 < (l0.length : Int) := of_decide_eq_true (by first | (with_reducible assumption) | assumption)
     obtain ⟨ad103, e103, hx103_0⟩ := Kd.at_int HR0.out 1 p103 q103
     obtain rfl : ad102 = ad103 := (by injection e103)
     (try simp only [show (1 : Int).toNat = 1 from rfl, Nat.reduceMul, Nat.reduceEqDiff, Go.Addr.add, ↓reduceIte] at hx103_0)
     have qi103 : (1 < l0.length) = True := eq_true (by omega)
     (try rw [show ((1 : Int)).toNat = 1 from rfl] at hx103_0)
     replace p103 := eq_true p103
     replace q103 := eq_true q103
     have p104 : 0 ≤ (2 : Int) := (by omega)
     have q104 : 2 < (l0.length : Int) := of_decide_eq_true (by first | (with_reducible assumption) | assumption)
     obtain ⟨ad104, e104, hx104_0⟩ := Kd.at_int HR0.out 2 p104 q104
     obtain rfl : ad102 = ad104 := (by injection e104)
     (try simp only [show (2 : Int).toNat = 2 from rfl, Nat.reduceMul, Nat.reduceEqDiff, Go.Addr.add, ↓reduceIte] at hx104_0)
     have qi104 : (2 < l0.length) = True := eq_true (by omega)
     (try rw [show ((2 : Int)).toNat = 2 from rfl] at hx104_0)
     replace p104 := eq_true p104
     replace q104 := eq_true q104
     have p105 : 0 ≤ (3 : Int) := (by omega)
     have q105 : 3 < (l0.length : Int) := of_decide_eq_true (by first | (with_reducible assumption) | assumption)
     obtain ⟨ad105, e105, hx105_0⟩ := Kd.at_int HR0.out 3 p105 q105
     obtain rfl : ad102 = ad105 := (by injection e105)
     (try simp only [show (3 : Int).toNat = 3 from rfl, Nat.reduceMul, Nat.reduceEqDiff, Go.Addr.add, ↓reduceIte] at hx105_0)
     have qi105 : (3 < l0.length) = True := eq_true (by omega)
     (try rw [show ((3 : Int)).toNat = 3 from rfl] at hx105_0)
     replace p105 := eq_true p105
     replace q105 := eq_true q105
     go_enter Tryd.func57, Tryd.ntmps57
     go_wp2
     repeat (go_quiet (fail); try go_wp2)
     go_ret
     exact ⟨by first | rfl | (simp; done) | (simp [*]; done), by repeat (first | exact Drawn0.refl _ | apply Drawn0.step)⟩
    ·rw [if_neg c5] at H
     exact absurd H (by simp)
   ·rw [if_neg c4] at H
    exact absurd H (by simp)
  ·rw [if_neg c3] at H
   exact absurd H (by simp)
 ·rw [if_neg c2] at H
  exact absurd H (by simp)
end Go.Proofs.YtabdnlecpndfjaaDoor.PBase
namespace Go.Proofs.YtabdnlecpndfjaaDoor.PBase
open Go.RowKit Go.Proofs.YtabdnlecpndfjaaDoorW.PrintWords Go.Proofs.YtabdnlecpndfjaaDoorW.PrintLast Go.Proofs.YtabdnlecpndfjaaDoorW.PrintMore
attribute [local go_sem] max2_int min2_int max_two min_two max_three min_three max_four min_four   -- for this text's walks alone
set_option linter.unusedVariables false
set_option linter.unusedSimpArgs false
def mac_Same.l0 : Nat → List Int → List Int → Int → Int → Int → Option (Bool)
 | 0, _, _, _, _, _ => none
 | k + 1, x0, x1, x5, x13, x14 => if x14 < x13 then (if 0 ≤ x14 then (if x14 < (x0.length : Int) then (if x14 < (x1.length : Int) then (mac_Same.l0 k x0 x1 (Go.bits .or .u8 x5 (Go.bits .xor .u8 (rd x0 x14) (rd x1 x14))) x13 (wrap64 (x14 + 1))) else (none)) else (none)) else (none)) else (some (x5 == 0))
def mac_Same.f (k : Nat) (l0 : List Int) (l1 : List Int) : Option (Bool) := if (l0.length : Int) = (l1.length : Int) then (mac_Same.l0 k l0 l1 0 (l0.length : Int) 0) else (some false)
set_option maxHeartbeats 8000000 in
set_option maxRecDepth 100000 in
theorem mac_Same.calls (k : Nat) (A0 : Option Addr) (c0 : Nat) (l0 : List Int) (A1 : Option Addr) (c1 : Nat) (l1 : List Int) (r : Bool) (w : World) (hr0 : Kd.C (Kd.int .u8) w A0 l0.length l0) (hc0 : l0.length ≤ c0) (hr1 : Kd.C (Kd.int .u8) w A1 l1.length l1) (hc1 : l1.length ≤ c1) (h : mac_Same.f k l0 l1 = some r) :
  Calls Tryd.prog 35 #[.slice A0 l0.length c0, .slice A1 l1.length c1] w fun e w' => e = .returned (.bool r) ∧ Drawn0 w w' := by
 have HR0 := Aside0.mk hr0
 have HC0 := Aside0.mk hc0
 clear hr0 hc0
 have HR1 := Aside0.mk hr1
 have HC1 := Aside0.mk hc1
 clear hr1 hc1
 have H : (if (l0.length : Int) = (l1.length : Int) then (mac_Same.l0 k l0 l1 0 (l0.length : Int) 0) else (some false)) = some r := h
 clear h
 by_cases c3 : (l0.length : Int) = (l1.length : Int)
 ·rw [if_pos c3] at H
  have c3b0 : ((l0.length : Int) == (l1.length : Int)) = true := beq_iff_eq.mpr c3
  have c3b1 : ((l0.length : Int) != (l1.length : Int)) = false := bne_eq_false_iff_eq.mpr c3
  have c3b2 : (l0.length == l1.length) = true := by first | simpa using c3 | (simp at c3 ⊢; omega)
  clear c3
  have H' := Aside0.mk H
  clear H
  go_enter Tryd.func35, Tryd.ntmps35
  go_wp2
  repeat (go_quiet (fail); try go_wp2)
  go_loopg [5, 14] k (fun kq v5 v14 w' => ∃ (x5_1 : Int) (x14_1 : Int), v5 = .int .u8 x5_1 ∧ v14 = .int .i64 x14_1 ∧ Aside0 (mac_Same.l0 kq l0 l1 x5_1 (l0.length : Int) x14_1 = some r) ∧ Aside0 (kq ≤ k) ∧ Drawn0 w w')
  case atStart => exact ⟨(0), (0), (by first | rfl | (simp; done) | (simp [*]; done)), (by first | rfl | (simp; done) | (simp [*]; done)), H', ⟨Nat.le_refl _⟩, by repeat (first | exact Drawn0.refl _ | apply Drawn0.step)⟩
  case round =>
   clear H'
   try clear c1
   try clear p2
   try clear c3
   try clear c3b0
   try clear c3b1
   try clear c3b2
   obtain ⟨x5_1, x14_1, rfl, rfl, HA, HK1, ⟨m1, rfl⟩⟩ := hrel
   cases gk with
   | zero => exact absurd HA.out (by simp [mac_Same.l0])
   | succ k1 =>
    have H := HA.out
    clear HA
    simp only [mac_Same.l0] at H
    by_cases c4 : x14_1 < (l0.length : Int)
    ·rw [if_pos c4] at H
     have c4b0 : decide (x14_1 < (l0.length : Int)) = true := decide_eq_true c4
     clear c4
     by_cases c5 : 0 ≤ x14_1
     ·rw [if_pos c5] at H
      have c5b0 : decide (0 ≤ x14_1) = true := decide_eq_true c5
      clear c5
      by_cases c6 : x14_1 < (l0.length : Int)
      ·rw [if_pos c6] at H
       have c6b0 : decide (x14_1 < (l0.length : Int)) = true := decide_eq_true c6
       clear c6
       by_cases c7 : x14_1 < (l1.length : Int)
       ·rw [if_pos c7] at H
        have c7b0 : decide (x14_1 < (l1.length : Int)) = true := decide_eq_true c7
        clear c7
        have H' := Aside0.mk H
        clear H
        have p171 : 0 ≤ (x14_1 : Int) := of_decide_eq_true (by first | (with_reducible assumption) | assumption)
        have q171 : x14_1 < (l0.length : Int) := of_decide_eq_true (by first | (with_reducible assumption) | assumption)
        obtain ⟨ad171, e171, hx171_0⟩ := Kd.at_int HR0.out x14_1 p171 q171
        cases e171
        replace p171 := eq_true p171
        replace q171 := eq_true q171
        have p172 : 0 ≤ (x14_1 : Int) := of_decide_eq_true (by first | (with_reducible assumption) | assumption)
        have q172 : x14_1 < (l1.length : Int) := of_decide_eq_true (by first | (with_reducible assumption) | assumption)
        obtain ⟨ad172, e172, hx172_0⟩ := Kd.at_int HR1.out x14_1 p172 q172
        cases e172
        replace p172 := eq_true p172
        replace q172 := eq_true q172
        go_wp2
        repeat (go_quiet (fail); try go_wp2)
        go_roundg k1
        case measure => have := HK1.out; omega
        case rel => exact ⟨(Go.bits .or .u8 x5_1 (Go.bits .xor .u8 (rd l0 x14_1) (rd l1 x14_1))), (wrap64 (x14_1 + 1)), (by first | rfl | (simp; done) | (simp [*]; done)), (by first | rfl | (simp; done) | (simp [*]; done)), H', ⟨by have := HK1.out; omega⟩, by repeat (first | exact Drawn0.refl _ | apply Drawn0.step)⟩
       ·rw [if_neg c7] at H
        exact absurd H (by simp)
      ·rw [if_neg c6] at H
       exact absurd H (by simp)
     ·rw [if_neg c5] at H
      exact absurd H (by simp)
    ·rw [if_neg c4] at H
     have c4b0 : decide (x14_1 < (l0.length : Int)) = false := decide_eq_false c4
     clear c4
     obtain rfl := Option.some.inj H
     go_wp2
     repeat (go_quiet (fail); try go_wp2)
     go_ret
     exact ⟨by first | rfl | (simp; done) | (simp [*]; done), by repeat (first | exact Drawn0.refl _ | apply Drawn0.step)⟩
 ·rw [if_neg c3] at H
  have c3b0 : ((l0.length : Int) == (l1.length : Int)) = false := beq_eq_false_iff_ne.mpr c3
  have c3b1 : ((l0.length : Int) != (l1.length : Int)) = true := bne_iff_ne.mpr c3
  have c3b2 : (l0.length == l1.length) = false := by first | simpa using c3 | (simp at c3 ⊢; omega)
  obtain rfl := Option.some.inj H
  go_enter Tryd.func35, Tryd.ntmps35
  go_wp2
  repeat (go_quiet (fail); try go_wp2)
  go_ret
  exact ⟨by first | rfl | (simp; done) | (simp [*]; done), by repeat (first | exact Drawn0.refl _ | apply Drawn0.step)⟩
def spell_number.j0 : Nat → Int → Bool → Option (Int × Bool)
 | 0, _, _ => none
 | k + 1, x0, x4 => if x4 = true then (some ((x0 - 97) % 256, true)) else (if x0 ≥ 50 then (if x0 ≤ 55 then (some (((x0 - 50) % 256) + 26, true)) else (some (0, false))) else (some (0, false)))
def spell_number.f (k : Nat) (a0 : Int) : Option (Int × Bool) := if a0 ≥ 97 then (spell_number.j0 k a0 (decide (a0 ≤ 122))) else (spell_number.j0 k a0 false)
set_option maxHeartbeats 8000000 in
set_option maxRecDepth 100000 in
theorem spell_number.calls (k : Nat) (a0 : Int) (r1 : Int) (r2 : Bool) (w : World) (h : spell_number.f k a0 = some (r1, r2)) :
  Calls Tryd.prog 56 #[.int .u8 a0] w fun e w' => e = .returned (.tuple #[.int .u64 r1, .bool r2]) ∧ Drawn0 w w' := by
 have H : (if a0 ≥ 97 then (spell_number.j0 k a0 (decide (a0 ≤ 122))) else (spell_number.j0 k a0 false)) = some (r1, r2) := h
 clear h
 have HC2 := Aside0.mk H
 clear H
 go_enter Tryd.func56, Tryd.ntmps56
 go_upto_region 1 with (fail)
 go_cut [4] (fun v4 wc => ∃ (kq : Nat) (x4_1 : Bool), v4 = .bool x4_1 ∧ Aside0 (spell_number.j0 kq a0 x4_1 = some (r1, r2)) ∧ Aside0 (kq ≤ k) ∧ Drawn0 w wc)
 case first =>
  have H := HC2.out
  clear HC2
  by_cases c3 : a0 ≥ 97
  ·rw [if_pos c3] at H
   have c3b0 : decide (97 ≤ a0) = true := decide_eq_true c3
   clear c3
   (first | rw [c3b0] | (simp only [i64_w, i32_w]; rw [c3b0]) | skip)
   have H' := Aside0.mk H
   clear H
   go_wp2
   go_meet
   case rel => exact ⟨_, (decide (a0 ≤ 122)), (by first | rfl | (simp; done) | (simp [*]; done)), H', ⟨by first | omega | exact Nat.le_refl _⟩, by repeat (first | exact Drawn0.refl _ | apply Drawn0.step)⟩
  ·rw [if_neg c3] at H
   have c3b0 : decide (97 ≤ a0) = false := decide_eq_false c3
   clear c3
   (first | rw [c3b0] | (simp only [i64_w, i32_w]; rw [c3b0]) | skip)
   have H' := Aside0.mk H
   clear H
   go_wp2
   go_meet
   case rel => exact ⟨_, (false), (by first | rfl | (simp; done) | (simp [*]; done)), H', ⟨by first | omega | exact Nat.le_refl _⟩, by repeat (first | exact Drawn0.refl _ | apply Drawn0.step)⟩
 case rest =>
  clear HC2
  try clear p2
  try clear c3
  try clear c3b0
  obtain ⟨kq, x4_1, rfl, HA, HJ1, ⟨mc1, rfl⟩⟩ := hcut
  cases kq with
  | zero => exact absurd HA.out (by simp [spell_number.j0])
  | succ kj1 =>
   have H := HA.out
   clear HA
   simp only [spell_number.j0] at H
   by_cases c4 : x4_1 = true
   ·subst c4
    have H1 : (some ((a0 - 97) % 256, true)) = some (r1, r2) := by rw [if_pos rfl] at H; exact H
    clear H
    have H := H1
    clear H1
    simp only [Option.some.injEq, Prod.mk.injEq] at H
    obtain ⟨rfl, rfl⟩ := H
    go_wp2
    go_ret2
    exact ⟨by first | rfl | (simp; done) | (simp [*]; done), by repeat (first | exact Drawn0.refl _ | apply Drawn0.step)⟩
   ·replace c4 := Bool.eq_false_iff.mpr c4
    subst c4
    have H1 : (if a0 ≥ 50 then (if a0 ≤ 55 then (some (((a0 - 50) % 256) + 26, true)) else (some (0, false))) else (some (0, false))) = some (r1, r2) := by rw [if_neg (show ¬ (false = true) by decide)] at H; exact H
    clear H
    have H := H1
    clear H1
    by_cases c5 : a0 ≥ 50
    ·rw [if_pos c5] at H
     have c5b0 : decide (50 ≤ a0) = true := decide_eq_true c5
     clear c5
     by_cases c6 : a0 ≤ 55
     ·rw [if_pos c6] at H
      have c6b0 : decide (a0 ≤ 55) = true := decide_eq_true c6
      clear c6
      simp only [Option.some.injEq, Prod.mk.injEq] at H
      obtain ⟨rfl, rfl⟩ := H
      go_wp2
      go_ret2
      exact ⟨by first | rfl | (simp; done) | (simp [*]; done), by repeat (first | exact Drawn0.refl _ | apply Drawn0.step)⟩
     ·rw [if_neg c6] at H
      have c6b0 : decide (a0 ≤ 55) = false := decide_eq_false c6
      clear c6
      simp only [Option.some.injEq, Prod.mk.injEq] at H
      obtain ⟨rfl, rfl⟩ := H
      go_wp2
      go_ret2
      exact ⟨by first | rfl | (simp; done) | (simp [*]; done), by repeat (first | exact Drawn0.refl _ | apply Drawn0.step)⟩
    ·rw [if_neg c5] at H
     have c5b0 : decide (50 ≤ a0) = false := decide_eq_false c5
     clear c5
     simp only [Option.some.injEq, Prod.mk.injEq] at H
     obtain ⟨rfl, rfl⟩ := H
     go_wp2
     go_ret2
     exact ⟨by first | rfl | (simp; done) | (simp [*]; done), by repeat (first | exact Drawn0.refl _ | apply Drawn0.step)⟩
def spell_Read.l0 : Nat → ByteArray → List Int → Int → Int → Int → Int → Option (List Int × Int)
 | 0, _, _, _, _, _, _ => none
 | k + 1, x0, x4, x5, x6, x11, x12 => if x12 < x11 then (if 0 ≤ x12 then (if x12 < (x0.size : Int) then ((spell_number.f k (bt x0 x12)).bind fun bt173 => (if bt173.2 = true then (if (wrap64 (x6 + 5)) ≥ 8 then (if 0 ≤ (wrap64 ((wrap64 (x6 + 5)) - 8)) then (if x4.length < 140737488355328 then (spell_Read.l0 k x0 (x4 ++ [(shr .u64 (Go.bits .or .u64 (IntKind.u64.wrap (x5 * 32)) bt173.1) (wrap64 ((wrap64 (x6 + 5)) - 8))) % 256]) (Go.bits .and .u64 (Go.bits .or .u64 (IntKind.u64.wrap (x5 * 32)) bt173.1) (IntKind.u64.wrap ((shl .u64 1 (wrap64 ((wrap64 (x6 + 5)) - 8))) - 1))) (wrap64 ((wrap64 (x6 + 5)) - 8)) x11 (wrap64 (x12 + 1))) else (none)) else (none)) else (spell_Read.l0 k x0 x4 (Go.bits .or .u64 (IntKind.u64.wrap (x5 * 32)) bt173.1) (wrap64 (x6 + 5)) x11 (wrap64 (x12 + 1)))) else (some (([] : List Int), 40)))) else (none)) else (none)) else (if x6 ≥ 5 then (some (([] : List Int), 40)) else (if x5 = 0 then (some (x4, 0)) else (some (([] : List Int), 40))))
def spell_Read.f (k : Nat) (a0 : ByteArray) : Option (List Int × Int) := spell_Read.l0 k a0 ([] : List Int) 0 0 (a0.size : Int) 0
set_option maxHeartbeats 8000000 in
set_option maxRecDepth 100000 in
theorem spell_Read.calls (k : Nat) (a0 : ByteArray) (r1 : List Int) (r2 : Int) (w : World) (h : spell_Read.f k a0 = some (r1, r2)) :
  Calls Tryd.prog 47 #[.string a0] w fun e w' => ∃ v0_ : Value, e = .returned (.tuple #[v0_, .int .u16 r2]) ∧ Kd.R (Kd.int .u8) 5 w' w.heap.size (fun _ => True) v0_ r1 ∧ Below w.heap.size w w' := by
 have HB := Aside0.mk (Below.refl w.heap.size w)
 have H : (spell_Read.l0 k a0 ([] : List Int) 0 0 (a0.size : Int) 0) = some (r1, r2) := h
 clear h
 have H' := Aside0.mk H
 clear H
 go_enter Tryd.func47, Tryd.ntmps47
 go_wp2
 go_loopg [4, 5, 6, 12] k (fun kq v4 v5 v6 v12 w' => ∃ (x4_1 : List Int) (x5_1 : Int) (x6_1 : Int) (x12_1 : Int), v5 = .int .u64 x5_1 ∧ v6 = .int .i64 x6_1 ∧ v12 = .int .i64 x12_1 ∧ Aside0 (spell_Read.l0 kq a0 x4_1 x5_1 x6_1 (a0.size : Int) x12_1 = some (r1, r2)) ∧ Aside0 (kq ≤ k) ∧ Aside0 (Kd.R (Kd.int .u8) 5 w' w.heap.size (fun _ => True) v4 x4_1) ∧ Aside0 (Below w.heap.size w w'))
 case atStart => exact ⟨(([] : List Int)), (0), (0), (0), (by first | rfl | (simp; done) | (simp [*]; done)), (by first | rfl | (simp; done) | (simp [*]; done)), (by first | rfl | (simp; done) | (simp [*]; done)), H', ⟨Nat.le_refl _⟩, ⟨by first | exact Kd.R_nil _ _ _ _ _ | exact Kd.N_nil _ _ _ _ _ | exact Kd.V_nil _ _ _ _ _ | exact Kd.Q_nil _ _ _ _ _ | exact Kd.S_nil _ _ _ _ _⟩, ⟨by repeat (first | (with_reducible first | exact HB.out | apply below_alloc | apply pw_below_drewN | apply below_drew1) | exact HB.out)⟩⟩
 case round =>
  clear H'
  obtain ⟨x4_1, x5_1, x6_1, x12_1, rfl, rfl, rfl, HA, HK1, HO_4, HB⟩ := hrel
  cases gk with
  | zero => exact absurd HA.out (by simp [spell_Read.l0])
  | succ k1 =>
   have H := HA.out
   clear HA
   simp only [spell_Read.l0] at H
   by_cases c2 : x12_1 < (a0.size : Int)
   ·rw [if_pos c2] at H
    have c2b0 : decide (x12_1 < (a0.size : Int)) = true := decide_eq_true c2
    clear c2
    by_cases c3 : 0 ≤ x12_1
    ·rw [if_pos c3] at H
     have c3b0 : decide (0 ≤ x12_1) = true := decide_eq_true c3
     clear c3
     by_cases c4 : x12_1 < (a0.size : Int)
     ·rw [if_pos c4] at H
      have c4b0 : decide (x12_1 < (a0.size : Int)) = true := decide_eq_true c4
      clear c4
      replace H := Option.bind_eq_some_iff.mp H
      obtain ⟨⟨t173, t174⟩, A60, H⟩ := H
      replace H : (if t174 = true then (if (wrap64 (x6_1 + 5)) ≥ 8 then (if 0 ≤ (wrap64 ((wrap64 (x6_1 + 5)) - 8)) then (if x4_1.length < 140737488355328 then (spell_Read.l0 k1 a0 (x4_1 ++ [(shr .u64 (Go.bits .or .u64 (IntKind.u64.wrap (x5_1 * 32)) t173) (wrap64 ((wrap64 (x6_1 + 5)) - 8))) % 256]) (Go.bits .and .u64 (Go.bits .or .u64 (IntKind.u64.wrap (x5_1 * 32)) t173) (IntKind.u64.wrap ((shl .u64 1 (wrap64 ((wrap64 (x6_1 + 5)) - 8))) - 1))) (wrap64 ((wrap64 (x6_1 + 5)) - 8)) (a0.size : Int) (wrap64 (x12_1 + 1))) else (none)) else (none)) else (spell_Read.l0 k1 a0 x4_1 (Go.bits .or .u64 (IntKind.u64.wrap (x5_1 * 32)) t173) (wrap64 (x6_1 + 5)) (a0.size : Int) (wrap64 (x12_1 + 1)))) else (some (([] : List Int), 40))) = some (r1, r2) := H
      have A6 := Aside0.mk A60
      clear A60
      by_cases c7 : t174 = true
      ·subst c7
       have H1 : (if (wrap64 (x6_1 + 5)) ≥ 8 then (if 0 ≤ (wrap64 ((wrap64 (x6_1 + 5)) - 8)) then (if x4_1.length < 140737488355328 then (spell_Read.l0 k1 a0 (x4_1 ++ [(shr .u64 (Go.bits .or .u64 (IntKind.u64.wrap (x5_1 * 32)) t173) (wrap64 ((wrap64 (x6_1 + 5)) - 8))) % 256]) (Go.bits .and .u64 (Go.bits .or .u64 (IntKind.u64.wrap (x5_1 * 32)) t173) (IntKind.u64.wrap ((shl .u64 1 (wrap64 ((wrap64 (x6_1 + 5)) - 8))) - 1))) (wrap64 ((wrap64 (x6_1 + 5)) - 8)) (a0.size : Int) (wrap64 (x12_1 + 1))) else (none)) else (none)) else (spell_Read.l0 k1 a0 x4_1 (Go.bits .or .u64 (IntKind.u64.wrap (x5_1 * 32)) t173) (wrap64 (x6_1 + 5)) (a0.size : Int) (wrap64 (x12_1 + 1)))) = some (r1, r2) := by rw [if_pos rfl] at H; exact H
       clear H
       have H := H1
       clear H1
       by_cases c8 : (wrap64 (x6_1 + 5)) ≥ 8
       ·rw [if_pos c8] at H
        have c8b0 : decide (8 ≤ (wrap64 (x6_1 + 5))) = true := decide_eq_true c8
        clear c8
        obtain ⟨ji9, hji9⟩ : ∃ j_ : Int, (wrap64 ((wrap64 (x6_1 + 5)) - 8)) = j_ := ⟨_, rfl⟩
        replace H : (if 0 ≤ (ji9) then (if x4_1.length < 140737488355328 then (spell_Read.l0 k1 a0 (x4_1 ++ [(shr .u64 (Go.bits .or .u64 (IntKind.u64.wrap (x5_1 * 32)) t173) (ji9)) % 256]) (Go.bits .and .u64 (Go.bits .or .u64 (IntKind.u64.wrap (x5_1 * 32)) t173) (IntKind.u64.wrap ((shl .u64 1 (ji9)) - 1))) ji9 (a0.size : Int) (wrap64 (x12_1 + 1))) else (none)) else (none)) = some (r1, r2) := by first | (rw [hji9] at H; exact H) | (simp only [hji9] at H ⊢; exact H)
        (try rw [hji9] at A6)
        have hji9w : (IntKind.i64.wrap ((wrap64 (x6_1 + 5)) - 8)) = ji9 := (i64_w _).trans hji9
        by_cases c10 : 0 ≤ (ji9)
        ·rw [if_pos c10] at H
         have c10b0 := eq_true c10
         have c10b1 : decide (0 ≤ (ji9)) = true := decide_eq_true c10
         clear c10
         obtain ⟨ji11, hji11⟩ : ∃ j_ : Int, (shr .u64 (Go.bits .or .u64 (IntKind.u64.wrap (x5_1 * 32)) t173) (ji9)) = j_ := ⟨_, rfl⟩
         replace H : (if x4_1.length < 140737488355328 then (spell_Read.l0 k1 a0 (x4_1 ++ [(ji11) % 256]) (Go.bits .and .u64 (Go.bits .or .u64 (IntKind.u64.wrap (x5_1 * 32)) t173) (IntKind.u64.wrap ((shl .u64 1 (ji9)) - 1))) ji9 (a0.size : Int) (wrap64 (x12_1 + 1))) else (none)) = some (r1, r2) := by first | (rw [hji11] at H; exact H) | (simp only [hji11] at H ⊢; exact H)
         (try rw [hji11] at A6)
         have hji11_ : ((Go.bits .or .u64 (IntKind.u64.wrap (x5_1 * 32)) t173) / 2 ^ min (ji9).toNat 64) = ji11 := hji11
         have hji11z : (ji9) ≤ 64 → ((Go.bits .or .u64 (IntKind.u64.wrap (x5_1 * 32)) t173) / 2 ^ (ji9).toNat) = ji11 := shr_small hji11
         by_cases c12 : x4_1.length < 140737488355328
         ·rw [if_pos c12] at H
          have LMc12 := Aside0.mk c12
          clear c12
          obtain ⟨y175, hy175⟩ : ∃ y_ : List Int, y_ = (x4_1 ++ [(ji11) % 256]) := ⟨_, rfl⟩
          replace H : (spell_Read.l0 k1 a0 y175 (Go.bits .and .u64 (Go.bits .or .u64 (IntKind.u64.wrap (x5_1 * 32)) t173) (IntKind.u64.wrap ((shl .u64 1 (ji9)) - 1))) ji9 (a0.size : Int) (wrap64 (x12_1 + 1))) = some (r1, r2) := by first | (rw [hy175]; with_reducible exact H) | (have H2_ := (Option.bind_some _ _).symm.trans H; rw [hy175]; with_reducible exact H2_) | (have H2_ := (Option.bind_some _ _).symm.trans H; with_reducible exact H2_) | with_reducible exact H | (rw [hy175]; exact H) | exact H
          have Ny175 := Aside0.mk hy175
          clear hy175
          have c13b0 := eq_true (of_decide_eq_true (by first | (with_reducible assumption) | assumption) : 0 ≤ (ji9))
          obtain ⟨ji14, hji14⟩ : ∃ j_ : Int, (shl .u64 1 (ji9)) = j_ := ⟨_, rfl⟩
          replace H : (spell_Read.l0 k1 a0 y175 (Go.bits .and .u64 (Go.bits .or .u64 (IntKind.u64.wrap (x5_1 * 32)) t173) (IntKind.u64.wrap ((ji14) - 1))) ji9 (a0.size : Int) (wrap64 (x12_1 + 1))) = some (r1, r2) := by first | (rw [hji14] at H; exact H) | (simp only [hji14] at H ⊢; exact H)
          (try rw [hji14] at A6)
          have hji14_ : (IntKind.u64.wrap (1 * 2 ^ min (ji9).toNat 64)) = ji14 := hji14
          have hji14z : (ji9) ≤ 64 → (IntKind.u64.wrap (1 * 2 ^ (ji9).toNat)) = ji14 := shl_small hji14
          have hji14u : (IntKind.u64.wrap (2 ^ min (ji9).toNat 64)) = ji14 := by have h_ := hji14_; rw [Int.one_mul] at h_; exact h_
          have hji14v : (ji9) ≤ 64 → (IntKind.u64.wrap (2 ^ (ji9).toNat)) = ji14 := fun hle_ => by have h_ := hji14z hle_; rw [Int.one_mul] at h_; exact h_
          have H' := Aside0.mk H
          clear H
          have p5 : 0 ≤ (x12_1 : Int) := of_decide_eq_true (by first | (with_reducible assumption) | assumption)
          have q5 : x12_1 < (a0.size : Int) := of_decide_eq_true (by first | (with_reducible assumption) | assumption)
          have hx5 := bt_at a0 x12_1
          replace p5 := eq_true p5
          replace q5 := eq_true q5
          go_wp2_with (first | ((with_reducible refine gate_callee (f := 56) rfl ?_); refine goesL_ (some 19) rfl rfl Tryd.func56 (by kernel_rfl) rfl #[.int .u8 (bt a0 x12_1)] rfl (by (try simp only [List.map_toArray, List.map_cons, List.map_nil]); first | done | rfl | (simp only [List.length_drop, List.length_take]; rfl) | (simp only [List.length_drop, List.length_take]; (repeat rw [Nat.min_eq_left (by simp only [eq_iff_iff, iff_true] at *; omega)]); rfl)) ?_; (with_reducible refine (spell_number.calls k1 (bt a0 x12_1) t173 true _ A6.out).mono ?_); rintro e w' ⟨rfl, ⟨nd, rfl⟩⟩; refine ⟨_, rfl, ?_⟩) | ((with_reducible refine gate_builtin (b := .append) (xs := #[.tmp 34, .tmp 39]) rfl ?_); at_builtin; refine Kd.R_append (Kd.int .u8) (w0 := w) w.heap.size rfl (.tmp 34) (.tmp 39) 22 5 (.int .u8 0) 1 rfl Tryd.underlying22 info5 rfl (by decide) (by omega) u4 x4_1 ((ji11) % 256) [.int .u8 ((ji11) % 256)] (fun _ => True) (fun _ => False) rfl rfl ?aP (fun _ hk => hk.elim) ?aF ?aO ?aB ?aS ?aL ?_; (case aP => exact rfl); (case aB => exact (by repeat (first | (with_reducible first | exact HB.out | apply below_alloc | apply pw_below_drewN | apply below_drew1) | exact HB.out))); (case aF => exact (fun _ _ => trivial)); (case aO => exact (by (with_reducible repeat (first | apply Kd.R_alloc | apply Kd.R_drewN | apply Kd.R_drew)); exact HO_4.out)); (case aS => exact (below_size (by repeat (first | (with_reducible first | exact HB.out | apply below_alloc | apply pw_below_drewN | apply below_drew1) | exact HB.out)))); (case aL => have := LMc12.out; omega); intro v176 w15 ho hb hg hat; rw [← Ny175.out] at ho; have n0_ := Aside0.mk (hb); have n1_ := Aside0.mk (ho); clear HB; clear HO_4; have HB := n0_; have HO177 := n1_; clear n0_ n1_; clear ho hb hg hat))
          go_roundg k1
          case measure => have := HK1.out; omega
          case rel => exact ⟨(y175), (Go.bits .and .u64 (Go.bits .or .u64 (IntKind.u64.wrap (x5_1 * 32)) t173) (IntKind.u64.wrap ((ji14) - 1))), (ji9), (wrap64 (x12_1 + 1)), (by first | rfl | (simp; done) | (simp only [← hji14] <;> (first | rfl | simp)) | (simp [*]; done)), (by first | rfl | (simp; done) | (simp only [← hji9] <;> (first | rfl | simp)) | (simp [*]; done)), (by first | rfl | (simp; done) | (simp [*]; done)), H', ⟨by have := HK1.out; omega⟩, ⟨by (with_reducible repeat (first | apply Kd.R_alloc | apply Kd.R_drewN | apply Kd.R_drew)); exact HO177.out⟩, ⟨by repeat (first | (with_reducible first | exact HB.out | apply below_alloc | apply pw_below_drewN | apply below_drew1) | exact HB.out)⟩⟩
         ·rw [if_neg c12] at H
          exact absurd H (by simp)
        ·rw [if_neg c10] at H
         exact absurd H (by simp)
       ·rw [if_neg c8] at H
        have c8b0 : decide (8 ≤ (wrap64 (x6_1 + 5))) = false := decide_eq_false c8
        clear c8
        have H' := Aside0.mk H
        clear H
        have p5 : 0 ≤ (x12_1 : Int) := of_decide_eq_true (by first | (with_reducible assumption) | assumption)
        have q5 : x12_1 < (a0.size : Int) := of_decide_eq_true (by first | (with_reducible assumption) | assumption)
        have hx5 := bt_at a0 x12_1
        replace p5 := eq_true p5
        replace q5 := eq_true q5
        go_wp2_with (first | ((with_reducible refine gate_callee (f := 56) rfl ?_); refine goesL_ (some 19) rfl rfl Tryd.func56 (by kernel_rfl) rfl #[.int .u8 (bt a0 x12_1)] rfl (by (try simp only [List.map_toArray, List.map_cons, List.map_nil]); first | done | rfl | (simp only [List.length_drop, List.length_take]; rfl) | (simp only [List.length_drop, List.length_take]; (repeat rw [Nat.min_eq_left (by simp only [eq_iff_iff, iff_true] at *; omega)]); rfl)) ?_; (with_reducible refine (spell_number.calls k1 (bt a0 x12_1) t173 true _ A6.out).mono ?_); rintro e w' ⟨rfl, ⟨nd, rfl⟩⟩; refine ⟨_, rfl, ?_⟩))
        go_roundg k1
        case measure => have := HK1.out; omega
        case rel => exact ⟨(x4_1), (Go.bits .or .u64 (IntKind.u64.wrap (x5_1 * 32)) t173), (wrap64 (x6_1 + 5)), (wrap64 (x12_1 + 1)), (by first | rfl | (simp; done) | (simp [*]; done)), (by first | rfl | (simp; done) | (simp [*]; done)), (by first | rfl | (simp; done) | (simp [*]; done)), H', ⟨by have := HK1.out; omega⟩, ⟨by (with_reducible repeat (first | apply Kd.R_alloc | apply Kd.R_drewN | apply Kd.R_drew)); exact HO_4.out⟩, ⟨by repeat (first | (with_reducible first | exact HB.out | apply below_alloc | apply pw_below_drewN | apply below_drew1) | exact HB.out)⟩⟩
      ·replace c7 := Bool.eq_false_iff.mpr c7
       subst c7
       have H1 : (some (([] : List Int), 40)) = some (r1, r2) := by rw [if_neg (show ¬ (false = true) by decide)] at H; exact H
       clear H
       have H := H1
       clear H1
       simp only [Option.some.injEq, Prod.mk.injEq] at H
       obtain ⟨rfl, rfl⟩ := H
       have p5 : 0 ≤ (x12_1 : Int) := of_decide_eq_true (by first | (with_reducible assumption) | assumption)
       have q5 : x12_1 < (a0.size : Int) := of_decide_eq_true (by first | (with_reducible assumption) | assumption)
       have hx5 := bt_at a0 x12_1
       replace p5 := eq_true p5
       replace q5 := eq_true q5
       go_wp2_with (first | ((with_reducible refine gate_callee (f := 56) rfl ?_); refine goesL_ (some 19) rfl rfl Tryd.func56 (by kernel_rfl) rfl #[.int .u8 (bt a0 x12_1)] rfl (by (try simp only [List.map_toArray, List.map_cons, List.map_nil]); first | done | rfl | (simp only [List.length_drop, List.length_take]; rfl) | (simp only [List.length_drop, List.length_take]; (repeat rw [Nat.min_eq_left (by simp only [eq_iff_iff, iff_true] at *; omega)]); rfl)) ?_; (with_reducible refine (spell_number.calls k1 (bt a0 x12_1) t173 false _ A6.out).mono ?_); rintro e w' ⟨rfl, ⟨nd, rfl⟩⟩; refine ⟨_, rfl, ?_⟩))
       go_ret2
       exact ⟨_, by first | rfl | (simp [errW_none, errW_some] <;> rfl) | (simp [*, errW_none, errW_some] <;> rfl), by first | exact Kd.R_nil _ _ _ _ _ | exact Kd.N_nil _ _ _ _ _ | exact Kd.V_nil _ _ _ _ _ | exact Kd.Q_nil _ _ _ _ _ | exact Kd.S_nil _ _ _ _ _, by repeat (first | (with_reducible first | exact HB.out | apply below_alloc | apply pw_below_drewN | apply below_drew1) | exact HB.out)⟩
     ·rw [if_neg c4] at H
      exact absurd H (by simp)
    ·rw [if_neg c3] at H
     exact absurd H (by simp)
   ·rw [if_neg c2] at H
    have c2b0 : decide (x12_1 < (a0.size : Int)) = false := decide_eq_false c2
    clear c2
    by_cases c16 : x6_1 ≥ 5
    ·rw [if_pos c16] at H
     have c16b0 : decide (5 ≤ x6_1) = true := decide_eq_true c16
     clear c16
     simp only [Option.some.injEq, Prod.mk.injEq] at H
     obtain ⟨rfl, rfl⟩ := H
     go_wp2
     go_ret2
     exact ⟨_, by first | rfl | (simp [errW_none, errW_some] <;> rfl) | (simp [*, errW_none, errW_some] <;> rfl), by first | exact Kd.R_nil _ _ _ _ _ | exact Kd.N_nil _ _ _ _ _ | exact Kd.V_nil _ _ _ _ _ | exact Kd.Q_nil _ _ _ _ _ | exact Kd.S_nil _ _ _ _ _, by repeat (first | (with_reducible first | exact HB.out | apply below_alloc | apply pw_below_drewN | apply below_drew1) | exact HB.out)⟩
    ·rw [if_neg c16] at H
     have c16b0 : decide (5 ≤ x6_1) = false := decide_eq_false c16
     clear c16
     by_cases c17 : x5_1 = 0
     ·rw [if_pos c17] at H
      have c17b0 : (x5_1 == 0) = true := beq_iff_eq.mpr c17
      have c17b1 : (x5_1 != 0) = false := bne_eq_false_iff_eq.mpr c17
      clear c17
      simp only [Option.some.injEq, Prod.mk.injEq] at H
      obtain ⟨rfl, rfl⟩ := H
      go_wp2
      go_ret2
      exact ⟨_, by first | rfl | (simp [errW_none, errW_some] <;> rfl) | (simp [*, errW_none, errW_some] <;> rfl), by (with_reducible repeat (first | apply Kd.R_alloc | apply Kd.R_drewN | apply Kd.R_drew)); exact HO_4.out, by repeat (first | (with_reducible first | exact HB.out | apply below_alloc | apply pw_below_drewN | apply below_drew1) | exact HB.out)⟩
     ·rw [if_neg c17] at H
      have c17b0 : (x5_1 == 0) = false := beq_eq_false_iff_ne.mpr c17
      have c17b1 : (x5_1 != 0) = true := bne_iff_ne.mpr c17
      simp only [Option.some.injEq, Prod.mk.injEq] at H
      obtain ⟨rfl, rfl⟩ := H
      go_wp2
      go_ret2
      exact ⟨_, by first | rfl | (simp [errW_none, errW_some] <;> rfl) | (simp [*, errW_none, errW_some] <;> rfl), by first | exact Kd.R_nil _ _ _ _ _ | exact Kd.N_nil _ _ _ _ _ | exact Kd.V_nil _ _ _ _ _ | exact Kd.Q_nil _ _ _ _ _ | exact Kd.S_nil _ _ _ _ _, by repeat (first | (with_reducible first | exact HB.out | apply below_alloc | apply pw_below_drewN | apply below_drew1) | exact HB.out)⟩
end Go.Proofs.YtabdnlecpndfjaaDoor.PBase
namespace Go.Proofs.YtabdnlecpndfjaaDoor.PBase
open Go.RowKit Go.Proofs.YtabdnlecpndfjaaDoorW.PrintWords Go.Proofs.YtabdnlecpndfjaaDoorW.PrintLast Go.Proofs.YtabdnlecpndfjaaDoorW.PrintMore
attribute [local go_sem] max2_int min2_int max_two min_two max_three min_three max_four min_four   -- for this text's walks alone
set_option linter.unusedVariables false
set_option linter.unusedSimpArgs false
def pass_read.f (k : Nat) (a0 : ByteArray) : Option (List Int × Bool) := (spell_Read.f k a0).bind fun bt184 => (if bt184.2 = 0 then (if (bt184.1.length : Int) = 50 then (if 0 < (bt184.1.length : Int) then (if (rd bt184.1 0) = 1 then (if 17 < (bt184.1.length : Int) then (some (bt184.1, decide ((rd bt184.1 17) ≤ 1))) else (none)) else (some (bt184.1, false))) else (none)) else (some (bt184.1, false))) else (some (bt184.1, false)))
set_option maxHeartbeats 8000000 in
set_option maxRecDepth 100000 in
theorem pass_read.calls (k : Nat) (a0 : ByteArray) (r1 : List Int) (r2 : Bool) (w : World) (h : pass_read.f k a0 = some (r1, r2)) :
  Calls Tryd.prog 30 #[.string a0] w fun e w' => ∃ v0_ : Value, e = .returned (.tuple #[v0_, .bool r2]) ∧ Kd.R (Kd.int .u8) 5 w' w.heap.size (fun _ => True) v0_ r1 ∧ Below w.heap.size w w' := by
 have HB := Aside0.mk (Below.refl w.heap.size w)
 have H : ((spell_Read.f k a0).bind fun bt184 => (if bt184.2 = 0 then (if (bt184.1.length : Int) = 50 then (if 0 < (bt184.1.length : Int) then (if (rd bt184.1 0) = 1 then (if 17 < (bt184.1.length : Int) then (some (bt184.1, decide ((rd bt184.1 17) ≤ 1))) else (none)) else (some (bt184.1, false))) else (none)) else (some (bt184.1, false))) else (some (bt184.1, false)))) = some (r1, r2) := h
 clear h
 replace H := Option.bind_eq_some_iff.mp H
 obtain ⟨⟨t184, t185⟩, A20, H⟩ := H
 replace H : (if t185 = 0 then (if (t184.length : Int) = 50 then (if 0 < (t184.length : Int) then (if (rd t184 0) = 1 then (if 17 < (t184.length : Int) then (some (t184, decide ((rd t184 17) ≤ 1))) else (none)) else (some (t184, false))) else (none)) else (some (t184, false))) else (some (t184, false))) = some (r1, r2) := H
 have A2 := Aside0.mk A20
 clear A20
 by_cases c3 : t185 = 0
 ·rw [if_pos c3] at H
  have c3b0 : (t185 == 0) = true := beq_iff_eq.mpr c3
  have c3b1 : (t185 != 0) = false := bne_eq_false_iff_eq.mpr c3
  clear c3
  by_cases c4 : (t184.length : Int) = 50
  ·rw [if_pos c4] at H
   have c4b0 : ((t184.length : Int) == 50) = true := beq_iff_eq.mpr c4
   have c4b1 : ((t184.length : Int) != 50) = false := bne_eq_false_iff_eq.mpr c4
   clear c4
   by_cases c5 : 0 < (t184.length : Int)
   ·rw [if_pos c5] at H
    have c5b0 : decide (0 < (t184.length : Int)) = true := decide_eq_true c5
    have c5b1 : decide (0 < t184.length) = true := decide_eq_true (by omega)
    clear c5
    by_cases c6 : (rd t184 0) = 1
    ·rw [if_pos c6] at H
     have c6b0 : ((rd t184 0) == 1) = true := beq_iff_eq.mpr c6
     have c6b1 : ((rd t184 0) != 1) = false := bne_eq_false_iff_eq.mpr c6
     clear c6
     by_cases c7 : 17 < (t184.length : Int)
     ·rw [if_pos c7] at H
      have c7b0 : decide (17 < (t184.length : Int)) = true := decide_eq_true c7
      have c7b1 : decide (17 < t184.length) = true := decide_eq_true (by omega)
      clear c7
      simp only [Option.some.injEq, Prod.mk.injEq] at H
      obtain ⟨rfl, rfl⟩ := H
      go_enter Tryd.func30, Tryd.ntmps30
      go_wp2_with (first | (go_at_call 47; (with_reducible refine (spell_Read.calls k a0 t184 t185 _ A2.out).mono ?_); rintro e w8 ⟨v186, rfl, ho0, hb⟩; have n0_ := Aside0.mk (Kd.R_lower ho0 (below_size (by repeat (first | (with_reducible first | exact HB.out | apply below_alloc | apply pw_below_drewN | apply below_drew1) | exact HB.out)))); have n1_ := Aside0.mk (below_step (by repeat (first | (with_reducible first | exact HB.out | apply below_alloc | apply pw_below_drewN | apply below_drew1) | exact HB.out)) hb); clear HB; have HO187 := n0_; have HB := n1_; clear n0_ n1_; (try clear hb); (try clear hb2); (try clear hk); (try clear hi); (try clear ho0); obtain ⟨Ao9, co9, eo9⟩ := Kd.R_slice HO187.out; subst eo9; have p188 : 0 ≤ (0 : Int) := (by omega); have q188 : 0 < (t184.length : Int) := of_decide_eq_true (by first | (with_reducible assumption) | assumption); obtain ⟨ad188, e188, hx188_0⟩ := Kd.at_int (Kd.R_reads' HO187.out).2.2 0 p188 q188; cases e188; have qi188 : (0 < t184.length) = True := eq_true (by omega); (try rw [show ((0 : Int)).toNat = 0 from rfl] at hx188_0); (try rw [Addr.add_zero'] at hx188_0); replace p188 := eq_true p188; replace q188 := eq_true q188; have p189 : 0 ≤ (17 : Int) := (by omega); have q189 : 17 < (t184.length : Int) := of_decide_eq_true (by first | (with_reducible assumption) | assumption); obtain ⟨ad189, e189, hx189_0⟩ := Kd.at_int (Kd.R_reads' HO187.out).2.2 17 p189 q189; obtain rfl : ad188 = ad189 := (by injection e189); (try simp only [show (17 : Int).toNat = 17 from rfl, Nat.reduceMul, Nat.reduceEqDiff, Go.Addr.add, ↓reduceIte] at hx189_0); have qi189 : (17 < t184.length) = True := eq_true (by omega); (try rw [show ((17 : Int)).toNat = 17 from rfl] at hx189_0); replace p189 := eq_true p189; replace q189 := eq_true q189))
      repeat (go_quiet (first | (go_at_call 47; (with_reducible refine (spell_Read.calls k a0 t184 t185 _ A2.out).mono ?_); rintro e w8 ⟨v186, rfl, ho0, hb⟩; have n0_ := Aside0.mk (Kd.R_lower ho0 (below_size (by repeat (first | (with_reducible first | exact HB.out | apply below_alloc | apply pw_below_drewN | apply below_drew1) | exact HB.out)))); have n1_ := Aside0.mk (below_step (by repeat (first | (with_reducible first | exact HB.out | apply below_alloc | apply pw_below_drewN | apply below_drew1) | exact HB.out)) hb); clear HB; have HO187 := n0_; have HB := n1_; clear n0_ n1_; (try clear hb); (try clear hb2); (try clear hk); (try clear hi); (try clear ho0); obtain ⟨Ao9, co9, eo9⟩ := Kd.R_slice HO187.out; subst eo9; have p188 : 0 ≤ (0 : Int) := (by omega); have q188 : 0 < (t184.length : Int) := of_decide_eq_true (by first | (with_reducible assumption) | assumption); obtain ⟨ad188, e188, hx188_0⟩ := Kd.at_int (Kd.R_reads' HO187.out).2.2 0 p188 q188; cases e188; have qi188 : (0 < t184.length) = True := eq_true (by omega); (try rw [show ((0 : Int)).toNat = 0 from rfl] at hx188_0); (try rw [Addr.add_zero'] at hx188_0); replace p188 := eq_true p188; replace q188 := eq_true q188; have p189 : 0 ≤ (17 : Int) := (by omega); have q189 : 17 < (t184.length : Int) := of_decide_eq_true (by first | (with_reducible assumption) | assumption); obtain ⟨ad189, e189, hx189_0⟩ := Kd.at_int (Kd.R_reads' HO187.out).2.2 17 p189 q189; obtain rfl : ad188 = ad189 := (by injection e189); (try simp only [show (17 : Int).toNat = 17 from rfl, Nat.reduceMul, Nat.reduceEqDiff, Go.Addr.add, ↓reduceIte] at hx189_0); have qi189 : (17 < t184.length) = True := eq_true (by omega); (try rw [show ((17 : Int)).toNat = 17 from rfl] at hx189_0); replace p189 := eq_true p189; replace q189 := eq_true q189)); try go_wp2_with (first | (go_at_call 47; (with_reducible refine (spell_Read.calls k a0 t184 t185 _ A2.out).mono ?_); rintro e w8 ⟨v186, rfl, ho0, hb⟩; have n0_ := Aside0.mk (Kd.R_lower ho0 (below_size (by repeat (first | (with_reducible first | exact HB.out | apply below_alloc | apply pw_below_drewN | apply below_drew1) | exact HB.out)))); have n1_ := Aside0.mk (below_step (by repeat (first | (with_reducible first | exact HB.out | apply below_alloc | apply pw_below_drewN | apply below_drew1) | exact HB.out)) hb); clear HB; have HO187 := n0_; have HB := n1_; clear n0_ n1_; (try clear hb); (try clear hb2); (try clear hk); (try clear hi); (try clear ho0); obtain ⟨Ao9, co9, eo9⟩ := Kd.R_slice HO187.out; subst eo9; have p188 : 0 ≤ (0 : Int) := (by omega); have q188 : 0 < (t184.length : Int) := of_decide_eq_true (by first | (with_reducible assumption) | assumption); obtain ⟨ad188, e188, hx188_0⟩ := Kd.at_int (Kd.R_reads' HO187.out).2.2 0 p188 q188; cases e188; have qi188 : (0 < t184.length) = True := eq_true (by omega); (try rw [show ((0 : Int)).toNat = 0 from rfl] at hx188_0); (try rw [Addr.add_zero'] at hx188_0); replace p188 := eq_true p188; replace q188 := eq_true q188; have p189 : 0 ≤ (17 : Int) := (by omega); have q189 : 17 < (t184.length : Int) := of_decide_eq_true (by first | (with_reducible assumption) | assumption); obtain ⟨ad189, e189, hx189_0⟩ := Kd.at_int (Kd.R_reads' HO187.out).2.2 17 p189 q189; obtain rfl : ad188 = ad189 := (by injection e189); (try simp only [show (17 : Int).toNat = 17 from rfl, Nat.reduceMul, Nat.reduceEqDiff, Go.Addr.add, ↓reduceIte] at hx189_0); have qi189 : (17 < t184.length) = True := eq_true (by omega); (try rw [show ((17 : Int)).toNat = 17 from rfl] at hx189_0); replace p189 := eq_true p189; replace q189 := eq_true q189)))
      go_ret2
      exact ⟨_, by first | rfl | (simp [errW_none, errW_some] <;> rfl) | (simp [*, errW_none, errW_some] <;> rfl), by (with_reducible repeat (first | apply Kd.R_alloc | apply Kd.R_drewN | apply Kd.R_drew)); exact HO187.out, by repeat (first | (with_reducible first | exact HB.out | apply below_alloc | apply pw_below_drewN | apply below_drew1) | exact HB.out)⟩
     ·rw [if_neg c7] at H
      exact absurd H (by simp)
    ·rw [if_neg c6] at H
     have c6b0 : ((rd t184 0) == 1) = false := beq_eq_false_iff_ne.mpr c6
     have c6b1 : ((rd t184 0) != 1) = true := bne_iff_ne.mpr c6
     simp only [Option.some.injEq, Prod.mk.injEq] at H
     obtain ⟨rfl, rfl⟩ := H
     go_enter Tryd.func30, Tryd.ntmps30
     go_wp2_with (first | (go_at_call 47; (with_reducible refine (spell_Read.calls k a0 t184 t185 _ A2.out).mono ?_); rintro e w10 ⟨v186, rfl, ho0, hb⟩; have n0_ := Aside0.mk (Kd.R_lower ho0 (below_size (by repeat (first | (with_reducible first | exact HB.out | apply below_alloc | apply pw_below_drewN | apply below_drew1) | exact HB.out)))); have n1_ := Aside0.mk (below_step (by repeat (first | (with_reducible first | exact HB.out | apply below_alloc | apply pw_below_drewN | apply below_drew1) | exact HB.out)) hb); clear HB; have HO187 := n0_; have HB := n1_; clear n0_ n1_; (try clear hb); (try clear hb2); (try clear hk); (try clear hi); (try clear ho0); obtain ⟨Ao11, co11, eo11⟩ := Kd.R_slice HO187.out; subst eo11; have p188 : 0 ≤ (0 : Int) := (by omega); have q188 : 0 < (t184.length : Int) := of_decide_eq_true (by first | (with_reducible assumption) | assumption); obtain ⟨ad188, e188, hx188_0⟩ := Kd.at_int (Kd.R_reads' HO187.out).2.2 0 p188 q188; cases e188; have qi188 : (0 < t184.length) = True := eq_true (by omega); (try rw [show ((0 : Int)).toNat = 0 from rfl] at hx188_0); (try rw [Addr.add_zero'] at hx188_0); replace p188 := eq_true p188; replace q188 := eq_true q188))
     repeat (go_quiet (first | (go_at_call 47; (with_reducible refine (spell_Read.calls k a0 t184 t185 _ A2.out).mono ?_); rintro e w10 ⟨v186, rfl, ho0, hb⟩; have n0_ := Aside0.mk (Kd.R_lower ho0 (below_size (by repeat (first | (with_reducible first | exact HB.out | apply below_alloc | apply pw_below_drewN | apply below_drew1) | exact HB.out)))); have n1_ := Aside0.mk (below_step (by repeat (first | (with_reducible first | exact HB.out | apply below_alloc | apply pw_below_drewN | apply below_drew1) | exact HB.out)) hb); clear HB; have HO187 := n0_; have HB := n1_; clear n0_ n1_; (try clear hb); (try clear hb2); (try clear hk); (try clear hi); (try clear ho0); obtain ⟨Ao11, co11, eo11⟩ := Kd.R_slice HO187.out; subst eo11; have p188 : 0 ≤ (0 : Int) := (by omega); have q188 : 0 < (t184.length : Int) := of_decide_eq_true (by first | (with_reducible assumption) | assumption); obtain ⟨ad188, e188, hx188_0⟩ := Kd.at_int (Kd.R_reads' HO187.out).2.2 0 p188 q188; cases e188; have qi188 : (0 < t184.length) = True := eq_true (by omega); (try rw [show ((0 : Int)).toNat = 0 from rfl] at hx188_0); (try rw [Addr.add_zero'] at hx188_0); replace p188 := eq_true p188; replace q188 := eq_true q188)); try go_wp2_with (first | (go_at_call 47; (with_reducible refine (spell_Read.calls k a0 t184 t185 _ A2.out).mono ?_); rintro e w10 ⟨v186, rfl, ho0, hb⟩; have n0_ := Aside0.mk (Kd.R_lower ho0 (below_size (by repeat (first | (with_reducible first | exact HB.out | apply below_alloc | apply pw_below_drewN | apply below_drew1) | exact HB.out)))); have n1_ := Aside0.mk (below_step (by repeat (first | (with_reducible first | exact HB.out | apply below_alloc | apply pw_below_drewN | apply below_drew1) | exact HB.out)) hb); clear HB; have HO187 := n0_; have HB := n1_; clear n0_ n1_; (try clear hb); (try clear hb2); (try clear hk); (try clear hi); (try clear ho0); obtain ⟨Ao11, co11, eo11⟩ := Kd.R_slice HO187.out; subst eo11; have p188 : 0 ≤ (0 : Int) := (by omega); have q188 : 0 < (t184.length : Int) := of_decide_eq_true (by first | (with_reducible assumption) | assumption); obtain ⟨ad188, e188, hx188_0⟩ := Kd.at_int (Kd.R_reads' HO187.out).2.2 0 p188 q188; cases e188; have qi188 : (0 < t184.length) = True := eq_true (by omega); (try rw [show ((0 : Int)).toNat = 0 from rfl] at hx188_0); (try rw [Addr.add_zero'] at hx188_0); replace p188 := eq_true p188; replace q188 := eq_true q188)))
     go_ret2
     exact ⟨_, by first | rfl | (simp [errW_none, errW_some] <;> rfl) | (simp [*, errW_none, errW_some] <;> rfl), by (with_reducible repeat (first | apply Kd.R_alloc | apply Kd.R_drewN | apply Kd.R_drew)); exact HO187.out, by repeat (first | (with_reducible first | exact HB.out | apply below_alloc | apply pw_below_drewN | apply below_drew1) | exact HB.out)⟩
   ·rw [if_neg c5] at H
    exact absurd H (by simp)
  ·rw [if_neg c4] at H
   have c4b0 : ((t184.length : Int) == 50) = false := beq_eq_false_iff_ne.mpr c4
   have c4b1 : ((t184.length : Int) != 50) = true := bne_iff_ne.mpr c4
   simp only [Option.some.injEq, Prod.mk.injEq] at H
   obtain ⟨rfl, rfl⟩ := H
   go_enter Tryd.func30, Tryd.ntmps30
   go_wp2_with (first | (go_at_call 47; (with_reducible refine (spell_Read.calls k a0 t184 t185 _ A2.out).mono ?_); rintro e w12 ⟨v186, rfl, ho0, hb⟩; have n0_ := Aside0.mk (Kd.R_lower ho0 (below_size (by repeat (first | (with_reducible first | exact HB.out | apply below_alloc | apply pw_below_drewN | apply below_drew1) | exact HB.out)))); have n1_ := Aside0.mk (below_step (by repeat (first | (with_reducible first | exact HB.out | apply below_alloc | apply pw_below_drewN | apply below_drew1) | exact HB.out)) hb); clear HB; have HO187 := n0_; have HB := n1_; clear n0_ n1_; (try clear hb); (try clear hb2); (try clear hk); (try clear hi); (try clear ho0); obtain ⟨Ao13, co13, eo13⟩ := Kd.R_slice HO187.out; subst eo13))
   repeat (go_quiet (first | (go_at_call 47; (with_reducible refine (spell_Read.calls k a0 t184 t185 _ A2.out).mono ?_); rintro e w12 ⟨v186, rfl, ho0, hb⟩; have n0_ := Aside0.mk (Kd.R_lower ho0 (below_size (by repeat (first | (with_reducible first | exact HB.out | apply below_alloc | apply pw_below_drewN | apply below_drew1) | exact HB.out)))); have n1_ := Aside0.mk (below_step (by repeat (first | (with_reducible first | exact HB.out | apply below_alloc | apply pw_below_drewN | apply below_drew1) | exact HB.out)) hb); clear HB; have HO187 := n0_; have HB := n1_; clear n0_ n1_; (try clear hb); (try clear hb2); (try clear hk); (try clear hi); (try clear ho0); obtain ⟨Ao13, co13, eo13⟩ := Kd.R_slice HO187.out; subst eo13)); try go_wp2_with (first | (go_at_call 47; (with_reducible refine (spell_Read.calls k a0 t184 t185 _ A2.out).mono ?_); rintro e w12 ⟨v186, rfl, ho0, hb⟩; have n0_ := Aside0.mk (Kd.R_lower ho0 (below_size (by repeat (first | (with_reducible first | exact HB.out | apply below_alloc | apply pw_below_drewN | apply below_drew1) | exact HB.out)))); have n1_ := Aside0.mk (below_step (by repeat (first | (with_reducible first | exact HB.out | apply below_alloc | apply pw_below_drewN | apply below_drew1) | exact HB.out)) hb); clear HB; have HO187 := n0_; have HB := n1_; clear n0_ n1_; (try clear hb); (try clear hb2); (try clear hk); (try clear hi); (try clear ho0); obtain ⟨Ao13, co13, eo13⟩ := Kd.R_slice HO187.out; subst eo13)))
   go_ret2
   exact ⟨_, by first | rfl | (simp [errW_none, errW_some] <;> rfl) | (simp [*, errW_none, errW_some] <;> rfl), by (with_reducible repeat (first | apply Kd.R_alloc | apply Kd.R_drewN | apply Kd.R_drew)); exact HO187.out, by repeat (first | (with_reducible first | exact HB.out | apply below_alloc | apply pw_below_drewN | apply below_drew1) | exact HB.out)⟩
 ·rw [if_neg c3] at H
  have c3b0 : (t185 == 0) = false := beq_eq_false_iff_ne.mpr c3
  have c3b1 : (t185 != 0) = true := bne_iff_ne.mpr c3
  simp only [Option.some.injEq, Prod.mk.injEq] at H
  obtain ⟨rfl, rfl⟩ := H
  go_enter Tryd.func30, Tryd.ntmps30
  go_wp2_with (first | (go_at_call 47; (with_reducible refine (spell_Read.calls k a0 t184 t185 _ A2.out).mono ?_); rintro e w14 ⟨v186, rfl, ho0, hb⟩; have n0_ := Aside0.mk (Kd.R_lower ho0 (below_size (by repeat (first | (with_reducible first | exact HB.out | apply below_alloc | apply pw_below_drewN | apply below_drew1) | exact HB.out)))); have n1_ := Aside0.mk (below_step (by repeat (first | (with_reducible first | exact HB.out | apply below_alloc | apply pw_below_drewN | apply below_drew1) | exact HB.out)) hb); clear HB; have HO187 := n0_; have HB := n1_; clear n0_ n1_; (try clear hb); (try clear hb2); (try clear hk); (try clear hi); (try clear ho0)))
  repeat (go_quiet (first | (go_at_call 47; (with_reducible refine (spell_Read.calls k a0 t184 t185 _ A2.out).mono ?_); rintro e w14 ⟨v186, rfl, ho0, hb⟩; have n0_ := Aside0.mk (Kd.R_lower ho0 (below_size (by repeat (first | (with_reducible first | exact HB.out | apply below_alloc | apply pw_below_drewN | apply below_drew1) | exact HB.out)))); have n1_ := Aside0.mk (below_step (by repeat (first | (with_reducible first | exact HB.out | apply below_alloc | apply pw_below_drewN | apply below_drew1) | exact HB.out)) hb); clear HB; have HO187 := n0_; have HB := n1_; clear n0_ n1_; (try clear hb); (try clear hb2); (try clear hk); (try clear hi); (try clear ho0))); try go_wp2_with (first | (go_at_call 47; (with_reducible refine (spell_Read.calls k a0 t184 t185 _ A2.out).mono ?_); rintro e w14 ⟨v186, rfl, ho0, hb⟩; have n0_ := Aside0.mk (Kd.R_lower ho0 (below_size (by repeat (first | (with_reducible first | exact HB.out | apply below_alloc | apply pw_below_drewN | apply below_drew1) | exact HB.out)))); have n1_ := Aside0.mk (below_step (by repeat (first | (with_reducible first | exact HB.out | apply below_alloc | apply pw_below_drewN | apply below_drew1) | exact HB.out)) hb); clear HB; have HO187 := n0_; have HB := n1_; clear n0_ n1_; (try clear hb); (try clear hb2); (try clear hk); (try clear hi); (try clear ho0))))
  go_ret2
  exact ⟨_, by first | rfl | (simp [errW_none, errW_some] <;> rfl) | (simp [*, errW_none, errW_some] <;> rfl), by (with_reducible repeat (first | apply Kd.R_alloc | apply Kd.R_drewN | apply Kd.R_drew)); exact HO187.out, by repeat (first | (with_reducible first | exact HB.out | apply below_alloc | apply pw_below_drewN | apply below_drew1) | exact HB.out)⟩
def pass_number.l0 : Nat → Int → List Int → Int → Int → Option (Int)
 | 0, _, _, _, _ => none
 | k + 1, x2, x5, x6, x7 => if x7 < x6 then (if 0 ≤ x7 then (if x7 < (x5.length : Int) then (pass_number.l0 k (Go.bits .or .u64 (IntKind.u64.wrap (x2 * 256)) (IntKind.u64.wrap (rd x5 x7))) x5 x6 (wrap64 (x7 + 1))) else (none)) else (none)) else (some x2)
def pass_number.f (k : Nat) (l0 : List Int) : Option (Int) := pass_number.l0 k 0 l0 (l0.length : Int) 0
set_option maxHeartbeats 8000000 in
set_option maxRecDepth 100000 in
theorem pass_number.calls (k : Nat) (A0 : Option Addr) (c0 : Nat) (l0 : List Int) (r : Int) (w : World) (hr0 : Kd.C (Kd.int .u8) w A0 l0.length l0) (hc0 : l0.length ≤ c0) (h : pass_number.f k l0 = some r) :
  Calls Tryd.prog 48 #[.slice A0 l0.length c0] w fun e w' => e = .returned (.int .u64 r) ∧ Drawn0 w w' := by
 have HR0 := Aside0.mk hr0
 have HC0 := Aside0.mk hc0
 clear hr0 hc0
 have H : (pass_number.l0 k 0 l0 (l0.length : Int) 0) = some r := h
 clear h
 have H' := Aside0.mk H
 clear H
 go_enter Tryd.func48, Tryd.ntmps48
 go_wp2
 go_loopg [2, 7] k (fun kq v2 v7 w' => ∃ (x2_1 : Int) (x7_1 : Int), v2 = .int .u64 x2_1 ∧ v7 = .int .i64 x7_1 ∧ Aside0 (pass_number.l0 kq x2_1 l0 (l0.length : Int) x7_1 = some r) ∧ Aside0 (kq ≤ k) ∧ Drawn0 w w')
 case atStart => exact ⟨(0), (0), (by first | rfl | (simp; done) | (simp [*]; done)), (by first | rfl | (simp; done) | (simp [*]; done)), H', ⟨Nat.le_refl _⟩, by repeat (first | exact Drawn0.refl _ | apply Drawn0.step)⟩
 case round =>
  clear H'
  obtain ⟨x2_1, x7_1, rfl, rfl, HA, HK1, ⟨m1, rfl⟩⟩ := hrel
  cases gk with
  | zero => exact absurd HA.out (by simp [pass_number.l0])
  | succ k1 =>
   have H := HA.out
   clear HA
   simp only [pass_number.l0] at H
   by_cases c2 : x7_1 < (l0.length : Int)
   ·rw [if_pos c2] at H
    have c2b0 : decide (x7_1 < (l0.length : Int)) = true := decide_eq_true c2
    clear c2
    by_cases c3 : 0 ≤ x7_1
    ·rw [if_pos c3] at H
     have c3b0 : decide (0 ≤ x7_1) = true := decide_eq_true c3
     clear c3
     by_cases c4 : x7_1 < (l0.length : Int)
     ·rw [if_pos c4] at H
      have c4b0 : decide (x7_1 < (l0.length : Int)) = true := decide_eq_true c4
      clear c4
      have H' := Aside0.mk H
      clear H
      have p190 : 0 ≤ (x7_1 : Int) := of_decide_eq_true (by first | (with_reducible assumption) | assumption)
      have q190 : x7_1 < (l0.length : Int) := of_decide_eq_true (by first | (with_reducible assumption) | assumption)
      obtain ⟨ad190, e190, hx190_0⟩ := Kd.at_int HR0.out x7_1 p190 q190
      cases e190
      replace p190 := eq_true p190
      replace q190 := eq_true q190
      go_wp2
      go_roundg k1
      case measure => have := HK1.out; omega
      case rel => exact ⟨(Go.bits .or .u64 (IntKind.u64.wrap (x2_1 * 256)) (IntKind.u64.wrap (rd l0 x7_1))), (wrap64 (x7_1 + 1)), (by first | rfl | (simp; done) | (simp [*]; done)), (by first | rfl | (simp; done) | (simp [*]; done)), H', ⟨by have := HK1.out; omega⟩, by repeat (first | exact Drawn0.refl _ | apply Drawn0.step)⟩
     ·rw [if_neg c4] at H
      exact absurd H (by simp)
    ·rw [if_neg c3] at H
     exact absurd H (by simp)
   ·rw [if_neg c2] at H
    have c2b0 : decide (x7_1 < (l0.length : Int)) = false := decide_eq_false c2
    clear c2
    obtain rfl := Option.some.inj H
    go_wp2
    go_ret
    exact ⟨by first | rfl | (simp; done) | (simp [*]; done), by repeat (first | exact Drawn0.refl _ | apply Drawn0.step)⟩
def pass_token.f (k : Nat) (l0 : List Int) : Option (Int × Int × Bool × Int) := if 1 ≤ 5 then (if 5 ≤ (l0.length : Int) then ((pass_number.f k ((l0.take 5).drop 1)).bind fun t193 => (if 5 ≤ 9 then (if 9 ≤ (l0.length : Int) then ((pass_number.f k ((l0.take 9).drop 5)).bind fun t195 => (if 9 ≤ 17 then (if 17 ≤ (l0.length : Int) then ((pass_number.f k ((l0.take 17).drop 9)).bind fun t197 => (if 17 < (l0.length : Int) then (some ((t193) % 4294967296, (t195) % 4294967296, ((rd l0 17) == 1), t197)) else (none))) else (none)) else (none))) else (none)) else (none))) else (none)) else (none)
def pass_token.T1 : Bool × List (List Nat × List Nat) := (true, [([], []), ([0], [0]), ([1], [1]), ([2], [2]), ([], []), ([4], [4]), ([5, 2], [5]), ([6], [6]), ([], []), ([8], [8]), ([9, 6], [9]), ([], []), ([11], [11]), ([12], [12]), ([13], [13]), ([3, 7, 10, 14], [3, 7, 10, 14]), ([15, 10, 0, 1, 2, 3, 4, 5, 6, 7, 8, 9, 10, 11, 12, 13, 14, 15], [15])])
def pass_token.B1 : List Nat := [0, 1, 3, 7, 0, 16, 55, 119, 0, 256, 887, 0, 2048, 6144, 14336, 32767, 65535]
theorem pass_token.tab1 : rtab .any (opsOf Tryd.f31 1) = pass_token.T1 := by kernel_rfl
theorem pass_token.bits1 : waitsOk pass_token.T1.2 pass_token.B1 = true := by kernel_rfl
set_option maxHeartbeats 8000000 in
set_option maxRecDepth 100000 in
theorem pass_token.calls (k : Nat) (A0 : Option Addr) (c0 : Nat) (l0 : List Int) (r1 : Int) (r2 : Int) (r3 : Bool) (r4 : Int) (w : World) (hr0 : Kd.C (Kd.int .u8) w A0 l0.length l0) (hc0 : l0.length ≤ c0) (h : pass_token.f k l0 = some (r1, r2, r3, r4)) :
  Calls Tryd.prog 31 #[.slice A0 l0.length c0] w fun e w' => e = .returned (.agg #[.int .u32 r1, .int .u32 r2, .bool r3, .int .u64 r4]) ∧ Below w.heap.size w w' := by
 have hu26 := Tryd.underlying26
 have HR0 := Aside0.mk hr0
 have HC0 := Aside0.mk hc0
 clear hr0 hc0
 have HB := Aside0.mk (Below.refl w.heap.size w)
 have H : (if 1 ≤ 5 then (if 5 ≤ (l0.length : Int) then ((pass_number.f k ((l0.take 5).drop 1)).bind fun t193 => (if 5 ≤ 9 then (if 9 ≤ (l0.length : Int) then ((pass_number.f k ((l0.take 9).drop 5)).bind fun t195 => (if 9 ≤ 17 then (if 17 ≤ (l0.length : Int) then ((pass_number.f k ((l0.take 17).drop 9)).bind fun t197 => (if 17 < (l0.length : Int) then (some ((t193) % 4294967296, (t195) % 4294967296, ((rd l0 17) == 1), t197)) else (none))) else (none)) else (none))) else (none)) else (none))) else (none)) else (none)) = some (r1, r2, r3, r4) := h
 clear h
 by_cases c2 : 1 ≤ 5
 ·rw [if_pos c2] at H
  have c2b0 := eq_true c2
  have c2b1 : decide (1 ≤ 5) = true := decide_eq_true c2
  clear c2
  by_cases c3 : 5 ≤ (l0.length : Int)
  ·rw [if_pos c3] at H
   have c3b0 := eq_true c3
   have c3b1 : decide (5 ≤ (l0.length : Int)) = true := decide_eq_true c3
   clear c3
   replace H := Option.bind_eq_some_iff.mp H
   obtain ⟨t193, A40, H⟩ := H
   replace H : (if 5 ≤ 9 then (if 9 ≤ (l0.length : Int) then ((pass_number.f k ((l0.take 9).drop 5)).bind fun t195 => (if 9 ≤ 17 then (if 17 ≤ (l0.length : Int) then ((pass_number.f k ((l0.take 17).drop 9)).bind fun t197 => (if 17 < (l0.length : Int) then (some ((t193) % 4294967296, (t195) % 4294967296, ((rd l0 17) == 1), t197)) else (none))) else (none)) else (none))) else (none)) else (none)) = some (r1, r2, r3, r4) := H
   have A4 := Aside0.mk A40
   clear A40
   by_cases c5 : 5 ≤ 9
   ·rw [if_pos c5] at H
    have c5b0 := eq_true c5
    have c5b1 : decide (5 ≤ 9) = true := decide_eq_true c5
    clear c5
    by_cases c6 : 9 ≤ (l0.length : Int)
    ·rw [if_pos c6] at H
     have c6b0 := eq_true c6
     have c6b1 : decide (9 ≤ (l0.length : Int)) = true := decide_eq_true c6
     clear c6
     replace H := Option.bind_eq_some_iff.mp H
     obtain ⟨t195, A70, H⟩ := H
     replace H : (if 9 ≤ 17 then (if 17 ≤ (l0.length : Int) then ((pass_number.f k ((l0.take 17).drop 9)).bind fun t197 => (if 17 < (l0.length : Int) then (some ((t193) % 4294967296, (t195) % 4294967296, ((rd l0 17) == 1), t197)) else (none))) else (none)) else (none)) = some (r1, r2, r3, r4) := H
     have A7 := Aside0.mk A70
     clear A70
     by_cases c8 : 9 ≤ 17
     ·rw [if_pos c8] at H
      have c8b0 := eq_true c8
      have c8b1 : decide (9 ≤ 17) = true := decide_eq_true c8
      clear c8
      by_cases c9 : 17 ≤ (l0.length : Int)
      ·rw [if_pos c9] at H
       have c9b0 := eq_true c9
       have c9b1 : decide (17 ≤ (l0.length : Int)) = true := decide_eq_true c9
       clear c9
       replace H := Option.bind_eq_some_iff.mp H
       obtain ⟨t197, A100, H⟩ := H
       replace H : (if 17 < (l0.length : Int) then (some ((t193) % 4294967296, (t195) % 4294967296, ((rd l0 17) == 1), t197)) else (none)) = some (r1, r2, r3, r4) := H
       have A10 := Aside0.mk A100
       clear A100
       by_cases c11 : 17 < (l0.length : Int)
       ·rw [if_pos c11] at H
        have c11b0 : decide (17 < (l0.length : Int)) = true := decide_eq_true c11
        have c11b1 : decide (17 < l0.length) = true := decide_eq_true (by omega)
        clear c11
        simp only [Option.some.injEq, Prod.mk.injEq] at H
        obtain ⟨rfl, rfl, rfl, rfl⟩ := H
        go_enter Tryd.func31, Tryd.ntmps31
        try go_wp2_with (first | ((with_reducible refine gate_dst (N := 2) rfl ?_); refine box_event ?hg (N := 2) ?hd (cs := #[.int .u32 0, .int .u32 0, .bool false, .int .u64 0]) (t := 26) ?hr ?_; (case hd => rfl); (case hg => rfl); (case hr => first | (go_simp; done) | (go_simp; rfl) | (go_simp; simp only [IntKind.wrap_u32, Int.emod_add_emod, Int.add_emod_emod])); intro gb191 hg w12 hbox hb; have n0_ := Aside0.mk (below_step (by repeat (first | (with_reducible first | exact HB.out | apply below_alloc | apply pw_below_drewN | apply below_drew1) | exact HB.out)) hb); have n1_ := Aside0.mk (hbox); have n2_ := Aside0.mk ((by rw [hg]; exact (below_size (by repeat (first | (with_reducible first | exact HB.out | apply below_alloc | apply pw_below_drewN | apply below_drew1) | exact HB.out))) : w.heap.size ≤ gb191)); have n3_ := Aside0.mk ((by rw [hg]; exact (below_size (by repeat (first | (with_reducible first | exact HB.out | apply below_alloc | apply pw_below_drewN | apply below_drew1) | exact HB.out))) : w.heap.size ≤ gb191)); clear HB; have HB := n0_; have BK191 := n1_; have GW191 := n2_; have GE191 := n3_; clear n0_ n1_ n2_ n3_; clear hb hbox hg))
        have n0_ := Aside0.mk (blk_drew BK191.out)
        have n1_ := Aside0.mk (below_drew1 HB.out)
        clear BK191
        clear HB
        have BK191 := n0_
        have HB := n1_
        clear n0_ n1_
        obtain ⟨i014, hi014, _, hsz14, _⟩ := info_parts info5
        obtain ⟨A14, hcut14, hA14, hC14⟩ := print_mid_of (P := Tryd.prog) (Value.int .u8) 0 22 5 .i64 .i64 Tryd.underlying22 hi014 hsz14 A0 c0 l0 1 5 (by omega) (by first | omega | exact of_decide_eq_true (by first | (with_reducible assumption) | assumption)) (of_decide_eq_true (by first | (with_reducible assumption) | assumption)) HC0.out
        have HR192 := Aside0.mk (Kd.C_of_reads (h1 := fun _ => rfl) (hA14 _ (Kd.reads_of_C HR0.out)))
        have HC192 := Aside0.mk hC14
        clear hA14 hC14 hi014 hsz14
        obtain ⟨i015, hi015, _, hsz15, _⟩ := info_parts info5
        obtain ⟨A15, hcut15, hA15, hC15⟩ := print_mid_of (P := Tryd.prog) (Value.int .u8) 0 22 5 .i64 .i64 Tryd.underlying22 hi015 hsz15 A0 c0 l0 5 9 (by omega) (by first | omega | exact of_decide_eq_true (by first | (with_reducible assumption) | assumption)) (of_decide_eq_true (by first | (with_reducible assumption) | assumption)) HC0.out
        have HR194 := Aside0.mk (Kd.C_of_reads (h1 := fun _ => rfl) (hA15 _ (Kd.reads_of_C HR0.out)))
        have HC194 := Aside0.mk hC15
        clear hA15 hC15 hi015 hsz15
        obtain ⟨i016, hi016, _, hsz16, _⟩ := info_parts info5
        obtain ⟨A16, hcut16, hA16, hC16⟩ := print_mid_of (P := Tryd.prog) (Value.int .u8) 0 22 5 .i64 .i64 Tryd.underlying22 hi016 hsz16 A0 c0 l0 9 17 (by omega) (by first | omega | exact of_decide_eq_true (by first | (with_reducible assumption) | assumption)) (of_decide_eq_true (by first | (with_reducible assumption) | assumption)) HC0.out
        have HR196 := Aside0.mk (Kd.C_of_reads (h1 := fun _ => rfl) (hA16 _ (Kd.reads_of_C HR0.out)))
        have HC196 := Aside0.mk hC16
        clear hA16 hC16 hi016 hsz16
        have p198 : 0 ≤ (17 : Int) := (by omega)
        have q198 : 17 < (l0.length : Int) := of_decide_eq_true (by first | (with_reducible assumption) | assumption)
        obtain ⟨ad198, e198, hx198_0⟩ := Kd.at_int HR0.out 17 p198 q198
        have hw198_0 := hx198_0
        (try rw [show ((17 : Int)).toNat = 17 from rfl] at hw198_0)
        (try rw [show 17 * 1 = 17 from rfl] at hw198_0)
        (try simp only [Nat.reduceMul, Nat.reduceEqDiff, Go.Addr.add, ↓reduceIte] at hw198_0)
        cases e198
        (try simp only [show (17 : Int).toNat = 17 from rfl, Nat.reduceMul, Nat.reduceEqDiff, Go.Addr.add, ↓reduceIte] at hx198_0)
        have qi198 : (17 < l0.length) = True := eq_true (by omega)
        (try rw [show ((17 : Int)).toNat = 17 from rfl] at hx198_0)
        replace hx198_0 := (HB.out.cell (World.block_lt_of_cell? w _ hx198_0)).trans hx198_0
        replace p198 := eq_true p198
        replace q198 := eq_true q198
        refine start_ (n := 17) (S := fun w' => w'.cell? ⟨ad198.block, ad198.off + 17, none⟩ = some (.int .u8 (rd l0 17))) (ds := []) #[false, false, false, false, false, false, false, false, false, false, false, false, false, false, false, false, false] (by kernel_rfl) rfl rfl (((HB.out.cell (World.block_lt_of_cell? w _ hw198_0)).trans hw198_0)) (fun hHeld => ?_); refine with_tabW pass_token.tab1 pass_token.bits1 (fun HT_ HW_ => ?_)
        generalize w12.drew = w13 at BK191 HB HR192 HR194 HR196 hx198_0 hHeld ⊢
        refine pure_ (i := 0) (N := some 3) (v := ?_) (a' := ?_) #[true, false, false, false, false, false, false, false, false, false, false, false, false, false, false, false, false] rfl rfl (any_of HT_.out (by kernel_rfl)) (fun _ _ _ h => h) (Or.inl ⟨by rfl, ?_⟩) ?_ ?_
        rotate_left
        ·intro w'
         go_simp
         with_reducible rfl
        rotate_left
        ·simp only [Act.put, List.setIfInBounds_toArray, List.set_cons_zero, List.set_cons_succ, i64_w, i32_w]
         rfl
        refine pure_ (i := 1) (N := some 4) (v := ?_) (a' := ?_) #[true, true, false, false, false, false, false, false, false, false, false, false, false, false, false, false, false] rfl rfl (any_of HT_.out (by kernel_rfl)) (fun _ _ _ h => h) (Or.inl ⟨by rfl, ?_⟩) ?_ ?_
        rotate_left
        ·intro w'
         go_simp
         with_reducible rfl
        rotate_left
        ·simp only [Act.put, List.setIfInBounds_toArray, List.set_cons_zero, List.set_cons_succ, i64_w, i32_w]
         rfl
        refine pure_ (i := 4) (N := some 7) (v := ?_) (a' := ?_) #[true, true, false, false, true, false, false, false, false, false, false, false, false, false, false, false, false] rfl rfl (any_of HT_.out (by kernel_rfl)) (fun _ _ _ h => h) (Or.inl ⟨by rfl, ?_⟩) ?_ ?_
        rotate_left
        ·intro w'
         go_simp
         with_reducible rfl
        rotate_left
        ·simp only [Act.put, List.setIfInBounds_toArray, List.set_cons_zero, List.set_cons_succ, i64_w, i32_w]
         rfl
        refine pure_ (i := 5) (N := some 8) (v := ?_) (a' := ?_) #[true, true, false, false, true, true, false, false, false, false, false, false, false, false, false, false, false] rfl rfl (any_of HT_.out (by kernel_rfl)) (fun _ _ _ h => h) (Or.inl ⟨by rfl, ?_⟩) ?_ ?_
        rotate_left
        ·intro w'
         go_simp
         with_reducible rfl
        rotate_left
        ·simp only [Act.put, List.setIfInBounds_toArray, List.set_cons_zero, List.set_cons_succ, i64_w, i32_w]
         rfl
        refine pure_ (i := 8) (N := some 11) (v := ?_) (a' := ?_) #[true, true, false, false, true, true, false, false, true, false, false, false, false, false, false, false, false] rfl rfl (any_of HT_.out (by kernel_rfl)) (fun _ _ _ h => h) (Or.inl ⟨by rfl, ?_⟩) ?_ ?_
        rotate_left
        ·intro w'
         go_simp
         with_reducible rfl
        rotate_left
        ·simp only [Act.put, List.setIfInBounds_toArray, List.set_cons_zero, List.set_cons_succ, i64_w, i32_w]
         rfl
        refine pure_ (i := 9) (N := some 12) (v := ?_) (a' := ?_) #[true, true, false, false, true, true, false, false, true, true, false, false, false, false, false, false, false] rfl rfl (any_of HT_.out (by kernel_rfl)) (fun _ _ _ h => h) (Or.inl ⟨by rfl, ?_⟩) ?_ ?_
        rotate_left
        ·intro w'
         go_simp
         with_reducible rfl
        rotate_left
        ·simp only [Act.put, List.setIfInBounds_toArray, List.set_cons_zero, List.set_cons_succ, i64_w, i32_w]
         rfl
        refine pure_ (i := 11) (N := some 14) (v := ?_) (a' := ?_) #[true, true, false, false, true, true, false, false, true, true, false, true, false, false, false, false, false] rfl rfl (any_of HT_.out (by kernel_rfl)) (fun _ _ _ h => h) (Or.inl ⟨by rfl, ?_⟩) ?_ ?_
        rotate_left
        ·intro w'
         go_simp
         with_reducible rfl
        rotate_left
        ·simp only [Act.put, List.setIfInBounds_toArray, List.set_cons_zero, List.set_cons_succ, i64_w, i32_w]
         rfl
        refine pure_ (i := 12) (N := some 15) (v := ?_) (a' := ?_) #[true, true, false, false, true, true, false, false, true, true, false, true, true, false, false, false, false] rfl rfl (any_of HT_.out (by kernel_rfl)) (fun _ _ _ h => h) (Or.inl ⟨by rfl, ?_⟩) ?_ ?_
        rotate_left
        ·intro w'
         go_simp
         with_reducible rfl
        rotate_left
        ·simp only [Act.put, List.setIfInBounds_toArray, List.set_cons_zero, List.set_cons_succ, i64_w, i32_w]
         rfl
        refine take_ (i := 13) (N := some 16) (v := ?_) (a' := ?_) #[true, true, false, false, true, true, false, false, true, true, false, true, true, true, false, false, false] rfl rfl (take_ofW HT_.out HW_.out (by kernel_rfl)) (fun _ _ _ h => h) (Or.inl ⟨by rfl, ?_⟩) hHeld ?_ ?_
        rotate_left
        ·intro w' s0
         go_simp
         with_reducible rfl
        rotate_left
        ·simp only [Act.put, List.setIfInBounds_toArray, List.set_cons_zero, List.set_cons_succ, i64_w, i32_w]
         rfl
        refine pure_ (i := 14) (N := some 17) (v := ?_) (a' := ?_) #[true, true, false, false, true, true, false, false, true, true, false, true, true, true, true, false, false] rfl rfl (any_of HT_.out (by kernel_rfl)) (fun _ _ _ h => h) (Or.inl ⟨by rfl, ?_⟩) ?_ ?_
        rotate_left
        ·intro w'
         go_simp
         with_reducible rfl
        rotate_left
        ·simp only [Act.put, List.setIfInBounds_toArray, List.set_cons_zero, List.set_cons_succ, i64_w, i32_w]
         rfl
        refine one_ (i := 2) (N := some 5) #[true, true, true, false, true, true, false, false, true, true, false, true, true, true, true, false, false] rfl rfl (one_of HT_.out (by kernel_rfl)) (by decide) (fun K hK => ?_)
        refine goes_ Tryd.func48 (by kernel_rfl) rfl #[.slice A14 ((l0.take 5).drop 1).length (c0 - 1)] (by rfl) rfl rfl (by (try simp only [List.map_toArray, List.map_cons, List.map_nil]); first | done | (rw [show ((l0.take 5).drop 1).length = (5 - 1) from (by rw [List.length_drop, List.length_take]; have h_ : (5 : Int) ≤ (l0.length : Int) := of_decide_eq_true (by first | (with_reducible assumption) | assumption); omega)] <;> rfl) | rfl | (simp only [List.length_drop, List.length_take]; rfl) | (simp only [List.length_drop, List.length_take]; (repeat rw [Nat.min_eq_left (by simp only [eq_iff_iff, iff_true] at *; omega)]); rfl)) ?_
        with_reducible refine (pass_number.calls k _ _ ((l0.take 5).drop 1) t193 _ ?side1 ?side2 A4.out).mono ?_
        (case side1 => repeat (first | exact (Kd.C_below HR192.out HB.out) | (with_reducible refine Kd.C_alloc ?_ _) | (with_reducible refine Kd.C_drewN ?_ _) | (with_reducible refine Kd.C_drew ?_)))
        (case side2 => exact HC192.out)
        rintro e w' ⟨rfl, ⟨nd, rfl⟩⟩
        refine ⟨_, rfl, ?_⟩
        refine hK.out _ _ (((HB.out.cell (World.block_lt_of_cell? w _ hw198_0)).trans hw198_0)) (fun hHeld => ?_)
        clear hK K
        refine norm_ (a' := ?_) ?_ ?_
        rotate_left
        ·show Act.put _ (some 5) _ = _
         simp only [Act.put, List.setIfInBounds_toArray, List.set_cons_zero, List.set_cons_succ, i64_w, i32_w]
         rfl
        refine pure_ (i := 3) (N := some 6) (v := ?_) (a' := ?_) #[true, true, true, true, true, true, false, false, true, true, false, true, true, true, true, false, false] rfl rfl (any_of HT_.out (by kernel_rfl)) (fun _ _ _ h => h) (Or.inl ⟨by rfl, ?_⟩) ?_ ?_
        rotate_left
        ·intro w'
         go_simp
         with_reducible rfl
        rotate_left
        ·simp only [Act.put, List.setIfInBounds_toArray, List.set_cons_zero, List.set_cons_succ, i64_w, i32_w]
         rfl
        refine one_ (i := 6) (N := some 9) #[true, true, true, true, true, true, true, false, true, true, false, true, true, true, true, false, false] rfl rfl (one_of HT_.out (by kernel_rfl)) (by decide) (fun K hK => ?_)
        refine goes_ Tryd.func48 (by kernel_rfl) rfl #[.slice A15 ((l0.take 9).drop 5).length (c0 - 5)] (by rfl) rfl rfl (by (try simp only [List.map_toArray, List.map_cons, List.map_nil]); first | done | (rw [show ((l0.take 9).drop 5).length = (9 - 5) from (by rw [List.length_drop, List.length_take]; have h_ : (9 : Int) ≤ (l0.length : Int) := of_decide_eq_true (by first | (with_reducible assumption) | assumption); omega)] <;> rfl) | rfl | (simp only [List.length_drop, List.length_take]; rfl) | (simp only [List.length_drop, List.length_take]; (repeat rw [Nat.min_eq_left (by simp only [eq_iff_iff, iff_true] at *; omega)]); rfl)) ?_
        with_reducible refine (pass_number.calls k _ _ ((l0.take 9).drop 5) t195 _ ?side1 ?side2 A7.out).mono ?_
        (case side1 => repeat (first | exact (Kd.C_below HR194.out (by repeat (first | (with_reducible first | exact HB.out | apply below_alloc | apply pw_below_drewN | apply below_drew1 | refine below_set ?_ GE191.out) | exact HB.out))) | (with_reducible refine Kd.C_alloc ?_ _) | (with_reducible refine Kd.C_drewN ?_ _) | (with_reducible refine Kd.C_drew ?_)))
        (case side2 => exact HC194.out)
        rintro e w' ⟨rfl, ⟨nd, rfl⟩⟩
        refine ⟨_, rfl, ?_⟩
        refine hK.out _ _ (((HB.out.cell (World.block_lt_of_cell? w _ hw198_0)).trans hw198_0)) (fun hHeld => ?_)
        clear hK K
        refine norm_ (a' := ?_) ?_ ?_
        rotate_left
        ·show Act.put _ (some 9) _ = _
         simp only [Act.put, List.setIfInBounds_toArray, List.set_cons_zero, List.set_cons_succ, i64_w, i32_w]
         rfl
        refine pure_ (i := 7) (N := some 10) (v := ?_) (a' := ?_) #[true, true, true, true, true, true, true, true, true, true, false, true, true, true, true, false, false] rfl rfl (any_of HT_.out (by kernel_rfl)) (fun _ _ _ h => h) (Or.inl ⟨by rfl, ?_⟩) ?_ ?_
        rotate_left
        ·intro w'
         go_simp
         with_reducible rfl
        rotate_left
        ·simp only [Act.put, List.setIfInBounds_toArray, List.set_cons_zero, List.set_cons_succ, i64_w, i32_w]
         rfl
        refine one_ (i := 10) (N := some 13) #[true, true, true, true, true, true, true, true, true, true, true, true, true, true, true, false, false] rfl rfl (one_of HT_.out (by kernel_rfl)) (by decide) (fun K hK => ?_)
        refine goes_ Tryd.func48 (by kernel_rfl) rfl #[.slice A16 ((l0.take 17).drop 9).length (c0 - 9)] (by rfl) rfl rfl (by (try simp only [List.map_toArray, List.map_cons, List.map_nil]); first | done | (rw [show ((l0.take 17).drop 9).length = (17 - 9) from (by rw [List.length_drop, List.length_take]; have h_ : (17 : Int) ≤ (l0.length : Int) := of_decide_eq_true (by first | (with_reducible assumption) | assumption); omega)] <;> rfl) | rfl | (simp only [List.length_drop, List.length_take]; rfl) | (simp only [List.length_drop, List.length_take]; (repeat rw [Nat.min_eq_left (by simp only [eq_iff_iff, iff_true] at *; omega)]); rfl)) ?_
        with_reducible refine (pass_number.calls k _ _ ((l0.take 17).drop 9) t197 _ ?side1 ?side2 A10.out).mono ?_
        (case side1 => repeat (first | exact (Kd.C_below HR196.out (by repeat (first | (with_reducible first | exact HB.out | apply below_alloc | apply pw_below_drewN | apply below_drew1 | refine below_set ?_ GE191.out) | exact HB.out))) | (with_reducible refine Kd.C_alloc ?_ _) | (with_reducible refine Kd.C_drewN ?_ _) | (with_reducible refine Kd.C_drew ?_)))
        (case side2 => exact HC196.out)
        rintro e w' ⟨rfl, ⟨nd, rfl⟩⟩
        refine ⟨_, rfl, ?_⟩
        refine hK.out _ _ (((HB.out.cell (World.block_lt_of_cell? w _ hw198_0)).trans hw198_0)) (fun hHeld => ?_)
        clear hK K
        refine norm_ (a' := ?_) ?_ ?_
        rotate_left
        ·show Act.put _ (some 13) _ = _
         simp only [Act.put, List.setIfInBounds_toArray, List.set_cons_zero, List.set_cons_succ, i64_w, i32_w]
         rfl
        refine pure_ (i := 15) (N := some 18) (v := ?_) (a' := ?_) #[true, true, true, true, true, true, true, true, true, true, true, true, true, true, true, true, false] rfl rfl (any_of HT_.out (by kernel_rfl)) (fun _ _ _ h => h) (Or.inl ⟨by rfl, ?_⟩) ?_ ?_
        rotate_left
        ·intro w'
         go_simp
         with_reducible rfl
        rotate_left
        ·simp only [Act.put, List.setIfInBounds_toArray, List.set_cons_zero, List.set_cons_succ, i64_w, i32_w]
         rfl
        refine one_ (i := 16) (N := none) #[true, true, true, true, true, true, true, true, true, true, true, true, true, true, true, true, true] rfl rfl (one_of HT_.out (by kernel_rfl)) (by decide) (fun K hK => ?_)
        have hs17 : w13.cell? ⟨gb191, 0, none⟩ = some (.int .u32 0) := (blk_cell BK191.out 0).trans rfl
        have hfs17 := blk_frozen BK191.out 0
        have hs18 : w13.cell? ⟨gb191, 1, none⟩ = some (.int .u32 0) := (blk_cell BK191.out 1).trans rfl
        have hfs18 := blk_frozen BK191.out 1
        have hs19 : w13.cell? ⟨gb191, 2, none⟩ = some (.bool false) := (blk_cell BK191.out 2).trans rfl
        have hfs19 := blk_frozen BK191.out 2
        have hs20 : w13.cell? ⟨gb191, 3, none⟩ = some (.int .u64 0) := (blk_cell BK191.out 3).trans rfl
        have hfs20 := blk_frozen BK191.out 3
        refine skip_ (w1 := ?_) (by rfl) rfl ?_ ?_
        rotate_left
        ·go_simp
         rfl
        refine hK.out _ _ (((cell_far (p := ⟨gb191, _, none⟩) (by first | exact Nat.ne_of_lt (Nat.lt_of_lt_of_le (by have := World.block_lt_of_cell? _ _ hw198_0; first | rwa [add_block] at this | exact this) GW191.out) | (rw [add_block]; exact Nat.ne_of_lt (Nat.lt_of_lt_of_le (by have := World.block_lt_of_cell? _ _ hw198_0; first | rwa [add_block] at this | exact this) GW191.out)) | (show (Addr.add _ _).block ≠ _; rw [add_block]; exact Nat.ne_of_lt (Nat.lt_of_lt_of_le (by have := World.block_lt_of_cell? _ _ hw198_0; first | rwa [add_block] at this | exact this) GW191.out)) | (dsimp only; exact Nat.ne_of_lt (Nat.lt_of_lt_of_le (by have := World.block_lt_of_cell? _ _ hw198_0; first | rwa [add_block] at this | exact this) GW191.out))) _).trans (((cell_far (p := ⟨gb191, _, none⟩) (by first | exact Nat.ne_of_lt (Nat.lt_of_lt_of_le (by have := World.block_lt_of_cell? _ _ hw198_0; first | rwa [add_block] at this | exact this) GW191.out) | (rw [add_block]; exact Nat.ne_of_lt (Nat.lt_of_lt_of_le (by have := World.block_lt_of_cell? _ _ hw198_0; first | rwa [add_block] at this | exact this) GW191.out)) | (show (Addr.add _ _).block ≠ _; rw [add_block]; exact Nat.ne_of_lt (Nat.lt_of_lt_of_le (by have := World.block_lt_of_cell? _ _ hw198_0; first | rwa [add_block] at this | exact this) GW191.out)) | (dsimp only; exact Nat.ne_of_lt (Nat.lt_of_lt_of_le (by have := World.block_lt_of_cell? _ _ hw198_0; first | rwa [add_block] at this | exact this) GW191.out))) _).trans (((cell_far (p := ⟨gb191, _, none⟩) (by first | exact Nat.ne_of_lt (Nat.lt_of_lt_of_le (by have := World.block_lt_of_cell? _ _ hw198_0; first | rwa [add_block] at this | exact this) GW191.out) | (rw [add_block]; exact Nat.ne_of_lt (Nat.lt_of_lt_of_le (by have := World.block_lt_of_cell? _ _ hw198_0; first | rwa [add_block] at this | exact this) GW191.out)) | (show (Addr.add _ _).block ≠ _; rw [add_block]; exact Nat.ne_of_lt (Nat.lt_of_lt_of_le (by have := World.block_lt_of_cell? _ _ hw198_0; first | rwa [add_block] at this | exact this) GW191.out)) | (dsimp only; exact Nat.ne_of_lt (Nat.lt_of_lt_of_le (by have := World.block_lt_of_cell? _ _ hw198_0; first | rwa [add_block] at this | exact this) GW191.out))) _).trans (((cell_far (p := ⟨gb191, _, none⟩) (by first | exact Nat.ne_of_lt (Nat.lt_of_lt_of_le (by have := World.block_lt_of_cell? _ _ hw198_0; first | rwa [add_block] at this | exact this) GW191.out) | (rw [add_block]; exact Nat.ne_of_lt (Nat.lt_of_lt_of_le (by have := World.block_lt_of_cell? _ _ hw198_0; first | rwa [add_block] at this | exact this) GW191.out)) | (show (Addr.add _ _).block ≠ _; rw [add_block]; exact Nat.ne_of_lt (Nat.lt_of_lt_of_le (by have := World.block_lt_of_cell? _ _ hw198_0; first | rwa [add_block] at this | exact this) GW191.out)) | (dsimp only; exact Nat.ne_of_lt (Nat.lt_of_lt_of_le (by have := World.block_lt_of_cell? _ _ hw198_0; first | rwa [add_block] at this | exact this) GW191.out))) _).trans (hHeld))))))))) (fun hHeld => ?_)
        clear hK K
        refine done_ (done_of HT_.out (by kernel_rfl)) ?_
        try go_wp2
        refine bodyPost_ret (results_cell_row rfl _ _ gb191 26 #[.int .u32 ((t193) % 4294967296), .int .u32 ((t195) % 4294967296), .bool ((rd l0 17) == 1), .int .u64 t197] (0, 0) _ rfl (by (with_reducible repeat (first | refine blk_drewN ?_ _ | refine blk_drew ?_ | refine blk_alloc ?_ _)); refine blk_put (cs := #[.int .u32 ((t193) % 4294967296), .int .u32 ((t195) % 4294967296), .bool ((rd l0 17) == 1), .int .u64 0]) ?_ 3 _ rfl; (with_reducible repeat (first | refine blk_drewN ?_ _ | refine blk_drew ?_ | refine blk_alloc ?_ _)); refine blk_put (cs := #[.int .u32 ((t193) % 4294967296), .int .u32 ((t195) % 4294967296), .bool false, .int .u64 0]) ?_ 2 _ rfl; (with_reducible repeat (first | refine blk_drewN ?_ _ | refine blk_drew ?_ | refine blk_alloc ?_ _)); refine blk_put (cs := #[.int .u32 ((t193) % 4294967296), .int .u32 0, .bool false, .int .u64 0]) ?_ 1 _ rfl; (with_reducible repeat (first | refine blk_drewN ?_ _ | refine blk_drew ?_ | refine blk_alloc ?_ _)); refine blk_put (cs := #[.int .u32 0, .int .u32 0, .bool false, .int .u64 0]) ?_ 0 _ rfl; (with_reducible repeat (first | refine blk_drewN ?_ _ | refine blk_drew ?_ | refine blk_alloc ?_ _)); exact BK191.out) Tryd.underlying26 rfl (by kernel_rfl)) rfl ?_
        exact ⟨by first | rfl | (simp [errW_none, errW_some] <;> rfl) | (simp [*, errW_none, errW_some] <;> rfl), by repeat (first | (with_reducible first | exact HB.out | apply below_alloc | apply pw_below_drewN | apply below_drew1 | refine below_set ?_ GE191.out) | exact HB.out)⟩
       ·rw [if_neg c11] at H
        exact absurd H (by simp)
      ·rw [if_neg c9] at H
       exact absurd H (by simp)
     ·rw [if_neg c8] at H
      exact absurd H (by simp)
    ·rw [if_neg c6] at H
     exact absurd H (by simp)
   ·rw [if_neg c5] at H
    exact absurd H (by simp)
  ·rw [if_neg c3] at H
   exact absurd H (by simp)
 ·rw [if_neg c2] at H
  exact absurd H (by simp)
def pass_Look.f (k : Nat) (a0 : ByteArray) : Option (Int × Int × Bool × Int × Int) := (pass_read.f k a0).bind fun bt200 => (if bt200.2 = true then ((pass_token.f k bt200.1).bind fun bt204 => (some (bt204.1, bt204.2.1, bt204.2.2.1, bt204.2.2.2, 0))) else (some (0, 0, false, 0, 50)))
set_option maxHeartbeats 8000000 in
set_option maxRecDepth 100000 in
theorem pass_Look.calls (k : Nat) (a0 : ByteArray) (r1 : Int) (r2 : Int) (r3 : Bool) (r4 : Int) (r5 : Int) (w : World) (h : pass_Look.f k a0 = some (r1, r2, r3, r4, r5)) :
  Calls Tryd.prog 13 #[.string a0] w fun e w' => e = .returned (.tuple #[.agg #[.int .u32 r1, .int .u32 r2, .bool r3, .int .u64 r4], .int .u16 r5]) ∧ Below w.heap.size w w' := by
 have hu26 := Tryd.underlying26
 have HB := Aside0.mk (Below.refl w.heap.size w)
 have H : ((pass_read.f k a0).bind fun bt200 => (if bt200.2 = true then ((pass_token.f k bt200.1).bind fun bt204 => (some (bt204.1, bt204.2.1, bt204.2.2.1, bt204.2.2.2, 0))) else (some (0, 0, false, 0, 50)))) = some (r1, r2, r3, r4, r5) := h
 clear h
 replace H := Option.bind_eq_some_iff.mp H
 obtain ⟨⟨t200, t201⟩, A20, H⟩ := H
 replace H : (if t201 = true then ((pass_token.f k t200).bind fun bt204 => (some (bt204.1, bt204.2.1, bt204.2.2.1, bt204.2.2.2, 0))) else (some (0, 0, false, 0, 50))) = some (r1, r2, r3, r4, r5) := H
 have A2 := Aside0.mk A20
 clear A20
 by_cases c3 : t201 = true
 ·subst c3
  have H1 : ((pass_token.f k t200).bind fun bt204 => (some (bt204.1, bt204.2.1, bt204.2.2.1, bt204.2.2.2, 0))) = some (r1, r2, r3, r4, r5) := by rw [if_pos rfl] at H; exact H
  clear H
  have H := H1
  clear H1
  replace H := Option.bind_eq_some_iff.mp H
  obtain ⟨⟨t204, t205, t206, t207⟩, A40, H⟩ := H
  replace H : (some (t204, t205, t206, t207, 0)) = some (r1, r2, r3, r4, r5) := H
  have A4 := Aside0.mk A40
  clear A40
  simp only [Option.some.injEq, Prod.mk.injEq] at H
  obtain ⟨rfl, rfl, rfl, rfl, rfl⟩ := H
  go_enter Tryd.func13, Tryd.ntmps13
  go_wp2_with (first | ((with_reducible refine gate_dst (N := 2) rfl ?_); refine box_event ?hg (N := 2) ?hd (cs := #[.int .u32 0, .int .u32 0, .bool false, .int .u64 0]) (t := 26) ?hr ?_; (case hd => rfl); (case hg => rfl); (case hr => first | (go_simp; done) | (go_simp; rfl) | (go_simp; simp only [IntKind.wrap_u32, Int.emod_add_emod, Int.add_emod_emod])); intro gb199 hg w5 hbox hb; have n0_ := Aside0.mk (below_step (by repeat (first | (with_reducible first | exact HB.out | apply below_alloc | apply pw_below_drewN | apply below_drew1) | exact HB.out)) hb); have n1_ := Aside0.mk (hbox); have n2_ := Aside0.mk ((by rw [hg]; exact (below_size (by repeat (first | (with_reducible first | exact HB.out | apply below_alloc | apply pw_below_drewN | apply below_drew1) | exact HB.out))) : w.heap.size ≤ gb199)); have n3_ := Aside0.mk ((by rw [hg]; exact (below_size (by repeat (first | (with_reducible first | exact HB.out | apply below_alloc | apply pw_below_drewN | apply below_drew1) | exact HB.out))) : w.heap.size ≤ gb199)); clear HB; have HB := n0_; have BK199 := n1_; have GW199 := n2_; have GE199 := n3_; clear n0_ n1_ n2_ n3_; clear hb hbox hg) | ((with_reducible refine gate_callee (f := 30) rfl ?_); refine goesL_ (some 8) rfl rfl Tryd.func30 (by kernel_rfl) rfl #[.string a0] rfl (by (try simp only [List.map_toArray, List.map_cons, List.map_nil]); first | done | rfl | (simp only [List.length_drop, List.length_take]; rfl) | (simp only [List.length_drop, List.length_take]; (repeat rw [Nat.min_eq_left (by simp only [eq_iff_iff, iff_true] at *; omega)]); rfl)) ?_; (with_reducible refine (pass_read.calls k a0 t200 true _ A2.out).mono ?_); rintro e w6 ⟨v202, rfl, ho0, hb⟩; refine ⟨_, rfl, ?_⟩; have n0_ := Aside0.mk (Kd.R_lower ho0 (below_size (by repeat (first | (with_reducible first | exact HB.out | apply below_alloc | apply pw_below_drewN | apply below_drew1 | refine below_set ?_ GE199.out) | exact HB.out)))); have n1_ := Aside0.mk (blk_below (g := gb199) (o := .cells #[.int .u32 0, .int .u32 0, .bool false, .int .u64 0] 26 (0, 0)) (by (with_reducible repeat (first | refine blk_drewN ?_ _ | refine blk_drew ?_ | refine blk_alloc ?_ _)); exact BK199.out) hb); have n2_ := Aside0.mk (below_step (by repeat (first | (with_reducible first | exact HB.out | apply below_alloc | apply pw_below_drewN | apply below_drew1 | refine below_set ?_ GE199.out) | exact HB.out)) hb); clear BK199; clear HB; have HO203 := n0_; have BK199 := n1_; have HB := n2_; clear n0_ n1_ n2_; (try clear hb); (try clear hb2); (try clear hk); (try clear hi); (try clear ho0); obtain ⟨Ao7, co7, eo7⟩ := Kd.R_slice HO203.out; subst eo7) | ((with_reducible refine gate_callee (f := 31) rfl ?_); refine goesL_ (some 15) rfl rfl Tryd.func31 (by kernel_rfl) rfl #[.slice Ao7 t200.length co7] rfl (by (try simp only [List.map_toArray, List.map_cons, List.map_nil]); first | done | rfl | (simp only [List.length_drop, List.length_take]; rfl) | (simp only [List.length_drop, List.length_take]; (repeat rw [Nat.min_eq_left (by simp only [eq_iff_iff, iff_true] at *; omega)]); rfl)) ?_; (with_reducible refine (pass_token.calls k _ _ t200 t204 t205 t206 t207 _ ?side1 ?side2 A4.out).mono ?_); (case side1 => repeat (first | exact (Kd.R_reads' HO203.out).2.2 | (with_reducible refine Kd.C_alloc ?_ _) | (with_reducible refine Kd.C_drewN ?_ _) | (with_reducible refine Kd.C_drew ?_))); (case side2 => exact (Kd.R_reads' HO203.out).2.1); rintro e w8 ⟨rfl, hb⟩; refine ⟨_, rfl, ?_⟩; have n0_ := Aside0.mk (Kd.R_below (by (with_reducible repeat (first | apply Kd.R_alloc | apply Kd.R_drewN | apply Kd.R_drew)); exact HO203.out) hb); have n1_ := Aside0.mk (blk_below (g := gb199) (o := .cells #[.int .u32 0, .int .u32 0, .bool false, .int .u64 0] 26 (0, 0)) (by (with_reducible repeat (first | refine blk_drewN ?_ _ | refine blk_drew ?_ | refine blk_alloc ?_ _)); exact BK199.out) hb); have n2_ := Aside0.mk (below_step (by repeat (first | (with_reducible first | exact HB.out | apply below_alloc | apply pw_below_drewN | apply below_drew1 | refine below_set ?_ GE199.out) | exact HB.out)) hb); clear HO203; clear BK199; clear HB; have HO203 := n0_; have BK199 := n1_; have HB := n2_; clear n0_ n1_ n2_; (try clear hb); (try clear hb2); (try clear hk); (try clear hi); have hcz9_0 : w8.cell? ⟨gb199, 0, none⟩ = some (.int .u32 0) := (blk_cell BK199.out 0).trans rfl; have hcz9_1 : w8.cell? ⟨gb199, 1, none⟩ = some (.int .u32 0) := (blk_cell BK199.out 1).trans rfl; have hcz9_2 : w8.cell? ⟨gb199, 2, none⟩ = some (.bool false) := (blk_cell BK199.out 2).trans rfl; have hcz9_3 : w8.cell? ⟨gb199, 3, none⟩ = some (.int .u64 0) := (blk_cell BK199.out 3).trans rfl; have hfz9_0 := blk_frozen BK199.out 0; have hfz9_1 := blk_frozen BK199.out 1; have hfz9_2 := blk_frozen BK199.out 2; have hfz9_3 := blk_frozen BK199.out 3))
  refine bodyPost_ret (results_ct rfl _ _ gb199 26 #[.int .u32 t204, .int .u32 t205, .bool t206, .int .u64 t207] (0, 0) _ rfl (by (with_reducible repeat (first | refine blk_drewN ?_ _ | refine blk_drew ?_ | refine blk_alloc ?_ _)); refine blk_put (cs := #[.int .u32 t204, .int .u32 t205, .bool t206, .int .u64 0]) ?_ 3 _ rfl; (with_reducible repeat (first | refine blk_drewN ?_ _ | refine blk_drew ?_ | refine blk_alloc ?_ _)); refine blk_put (cs := #[.int .u32 t204, .int .u32 t205, .bool false, .int .u64 0]) ?_ 2 _ rfl; (with_reducible repeat (first | refine blk_drewN ?_ _ | refine blk_drew ?_ | refine blk_alloc ?_ _)); refine blk_put (cs := #[.int .u32 t204, .int .u32 0, .bool false, .int .u64 0]) ?_ 1 _ rfl; (with_reducible repeat (first | refine blk_drewN ?_ _ | refine blk_drew ?_ | refine blk_alloc ?_ _)); refine blk_put (cs := #[.int .u32 0, .int .u32 0, .bool false, .int .u64 0]) ?_ 0 _ rfl; (with_reducible repeat (first | refine blk_drewN ?_ _ | refine blk_drew ?_ | refine blk_alloc ?_ _)); exact BK199.out) Tryd.underlying26 rfl (by kernel_rfl)) rfl ?_
  exact ⟨by first | rfl | (simp [errW_none, errW_some] <;> rfl) | (simp [*, errW_none, errW_some] <;> rfl), by repeat (first | (with_reducible first | exact HB.out | apply below_alloc | apply pw_below_drewN | apply below_drew1 | refine below_set ?_ GE199.out) | exact HB.out)⟩
 ·replace c3 := Bool.eq_false_iff.mpr c3
  subst c3
  have H1 : (some (0, 0, false, 0, 50)) = some (r1, r2, r3, r4, r5) := by rw [if_neg (show ¬ (false = true) by decide)] at H; exact H
  clear H
  have H := H1
  clear H1
  simp only [Option.some.injEq, Prod.mk.injEq] at H
  obtain ⟨rfl, rfl, rfl, rfl, rfl⟩ := H
  go_enter Tryd.func13, Tryd.ntmps13
  go_wp2_with (first | ((with_reducible refine gate_dst (N := 2) rfl ?_); refine box_event ?hg (N := 2) ?hd (cs := #[.int .u32 0, .int .u32 0, .bool false, .int .u64 0]) (t := 26) ?hr ?_; (case hd => rfl); (case hg => rfl); (case hr => first | (go_simp; done) | (go_simp; rfl) | (go_simp; simp only [IntKind.wrap_u32, Int.emod_add_emod, Int.add_emod_emod])); intro gb199 hg w10 hbox hb; have n0_ := Aside0.mk (below_step (by repeat (first | (with_reducible first | exact HB.out | apply below_alloc | apply pw_below_drewN | apply below_drew1) | exact HB.out)) hb); have n1_ := Aside0.mk (hbox); have n2_ := Aside0.mk ((by rw [hg]; exact (below_size (by repeat (first | (with_reducible first | exact HB.out | apply below_alloc | apply pw_below_drewN | apply below_drew1) | exact HB.out))) : w.heap.size ≤ gb199)); have n3_ := Aside0.mk ((by rw [hg]; exact (below_size (by repeat (first | (with_reducible first | exact HB.out | apply below_alloc | apply pw_below_drewN | apply below_drew1) | exact HB.out))) : w.heap.size ≤ gb199)); clear HB; have HB := n0_; have BK199 := n1_; have GW199 := n2_; have GE199 := n3_; clear n0_ n1_ n2_ n3_; clear hb hbox hg) | ((with_reducible refine gate_callee (f := 30) rfl ?_); refine goesL_ (some 8) rfl rfl Tryd.func30 (by kernel_rfl) rfl #[.string a0] rfl (by (try simp only [List.map_toArray, List.map_cons, List.map_nil]); first | done | rfl | (simp only [List.length_drop, List.length_take]; rfl) | (simp only [List.length_drop, List.length_take]; (repeat rw [Nat.min_eq_left (by simp only [eq_iff_iff, iff_true] at *; omega)]); rfl)) ?_; (with_reducible refine (pass_read.calls k a0 t200 false _ A2.out).mono ?_); rintro e w11 ⟨v202, rfl, ho0, hb⟩; refine ⟨_, rfl, ?_⟩; have n0_ := Aside0.mk (Kd.R_lower ho0 (below_size (by repeat (first | (with_reducible first | exact HB.out | apply below_alloc | apply pw_below_drewN | apply below_drew1 | refine below_set ?_ GE199.out) | exact HB.out)))); have n1_ := Aside0.mk (blk_below (g := gb199) (o := .cells #[.int .u32 0, .int .u32 0, .bool false, .int .u64 0] 26 (0, 0)) (by (with_reducible repeat (first | refine blk_drewN ?_ _ | refine blk_drew ?_ | refine blk_alloc ?_ _)); exact BK199.out) hb); have n2_ := Aside0.mk (below_step (by repeat (first | (with_reducible first | exact HB.out | apply below_alloc | apply pw_below_drewN | apply below_drew1 | refine below_set ?_ GE199.out) | exact HB.out)) hb); clear BK199; clear HB; have HO203 := n0_; have BK199 := n1_; have HB := n2_; clear n0_ n1_ n2_; (try clear hb); (try clear hb2); (try clear hk); (try clear hi); (try clear ho0); have hcz12_0 : w11.cell? ⟨gb199, 0, none⟩ = some (.int .u32 0) := (blk_cell BK199.out 0).trans rfl; have hcz12_1 : w11.cell? ⟨gb199, 1, none⟩ = some (.int .u32 0) := (blk_cell BK199.out 1).trans rfl; have hcz12_2 : w11.cell? ⟨gb199, 2, none⟩ = some (.bool false) := (blk_cell BK199.out 2).trans rfl; have hcz12_3 : w11.cell? ⟨gb199, 3, none⟩ = some (.int .u64 0) := (blk_cell BK199.out 3).trans rfl; have hfz12_0 := blk_frozen BK199.out 0; have hfz12_1 := blk_frozen BK199.out 1; have hfz12_2 := blk_frozen BK199.out 2; have hfz12_3 := blk_frozen BK199.out 3))
  refine bodyPost_ret (results_ct rfl _ _ gb199 26 #[.int .u32 0, .int .u32 0, .bool false, .int .u64 0] (0, 0) _ rfl (by (with_reducible repeat (first | refine blk_drewN ?_ _ | refine blk_drew ?_ | refine blk_alloc ?_ _)); refine blk_put (cs := #[.int .u32 0, .int .u32 0, .bool false, .int .u64 0]) ?_ 3 _ rfl; (with_reducible repeat (first | refine blk_drewN ?_ _ | refine blk_drew ?_ | refine blk_alloc ?_ _)); refine blk_put (cs := #[.int .u32 0, .int .u32 0, .bool false, .int .u64 0]) ?_ 2 _ rfl; (with_reducible repeat (first | refine blk_drewN ?_ _ | refine blk_drew ?_ | refine blk_alloc ?_ _)); refine blk_put (cs := #[.int .u32 0, .int .u32 0, .bool false, .int .u64 0]) ?_ 1 _ rfl; (with_reducible repeat (first | refine blk_drewN ?_ _ | refine blk_drew ?_ | refine blk_alloc ?_ _)); refine blk_put (cs := #[.int .u32 0, .int .u32 0, .bool false, .int .u64 0]) ?_ 0 _ rfl; (with_reducible repeat (first | refine blk_drewN ?_ _ | refine blk_drew ?_ | refine blk_alloc ?_ _)); exact BK199.out) Tryd.underlying26 rfl (by kernel_rfl)) rfl ?_
  exact ⟨by first | rfl | (simp [errW_none, errW_some] <;> rfl) | (simp [*, errW_none, errW_some] <;> rfl), by repeat (first | (with_reducible first | exact HB.out | apply below_alloc | apply pw_below_drewN | apply below_drew1 | refine below_set ?_ GE199.out) | exact HB.out)⟩
def pass_big.l0 : Nat → List Int → Int → Int → Option (List Int)
 | 0, _, _, _ => none
 | k + 1, x0, x1, x7 => if x7 ≥ 0 then (if 0 ≤ (wrap64 (8 * x7)) then (if x0.length < 140737488355328 then (pass_big.l0 k (x0 ++ [(shr .u64 x1 (wrap64 (8 * x7))) % 256]) x1 (wrap64 (x7 - 1))) else (none)) else (none)) else (some x0)
def pass_big.f (k : Nat) (l0 : List Int) (a1 : Int) (a2 : Int) : Option (List Int) := pass_big.l0 k l0 a1 (wrap64 (a2 - 1))
set_option maxHeartbeats 8000000 in
set_option maxRecDepth 100000 in
theorem pass_big.calls (k : Nat) (P0_ : Nat → Prop) (u9000_ : Value) (l0 : List Int) (a1 : Int) (a2 : Int) (r : List Int) (w0 w : World) (hB : Below w0.heap.size w0 w) (ho0 : Kd.R (Kd.int .u8) 5 w w0.heap.size P0_ u9000_ l0) (h : pass_big.f k l0 a1 a2 = some r) :
  Calls Tryd.prog 38 #[u9000_, .int .u64 a1, .int .i64 a2] w fun e w' => ∃ v0_ : Value, e = .returned (v0_) ∧ Kd.R (Kd.int .u8) 5 w' w0.heap.size (fun k_ => (P0_ k_ ∨ w.heap.size ≤ k_)) v0_ r ∧ Below w0.heap.size w0 w' ∧ Kept w w' (fun k_ => P0_ k_) := by
 have HO0 := Aside0.mk (show Kd.R (Kd.int .u8) 5 w w0.heap.size (fun k_ => (P0_ k_ ∨ w.heap.size ≤ k_)) u9000_ l0 from Kd.R_mono ho0 (fun k_ hk => (.inl hk)))
 have HK := Aside0.mk (Kept.refl w (fun k_ => P0_ k_))
 have HW0 := Aside0.mk hB.size
 have HB := Aside0.mk hB
 clear hB
 have H : (pass_big.l0 k l0 a1 (wrap64 (a2 - 1))) = some r := h
 clear h
 have H' := Aside0.mk H
 clear H
 go_enter Tryd.func38, Tryd.ntmps38
 go_wp2
 go_loopg [0, 7] k (fun kq v0 v7 w' => ∃ (x0_1 : List Int) (x7_1 : Int), v7 = .int .i64 x7_1 ∧ Aside0 (pass_big.l0 kq x0_1 a1 x7_1 = some r) ∧ Aside0 (kq ≤ k) ∧ Aside0 (Kd.R (Kd.int .u8) 5 w' w0.heap.size (fun k_ => (P0_ k_ ∨ w.heap.size ≤ k_)) v0 x0_1) ∧ Aside0 (Kept w w' (fun k_ => P0_ k_)) ∧ Aside0 (Below w0.heap.size w0 w'))
 case atStart => exact ⟨(l0), (wrap64 (a2 - 1)), (by first | rfl | (simp; done) | (simp [*]; done)), H', ⟨Nat.le_refl _⟩, ⟨by (with_reducible repeat (first | apply Kd.R_alloc | apply Kd.R_drewN | apply Kd.R_drew)); exact HO0.out⟩, ⟨by repeat (first | (with_reducible first | exact HK.out | apply Kept.alloc | apply Kept.drewN | apply Kept.drew) | exact HK.out)⟩, ⟨by repeat (first | (with_reducible first | exact HB.out | apply below_alloc | apply pw_below_drewN | apply below_drew1) | exact HB.out)⟩⟩
 case round =>
  clear H'
  try clear p2
  try clear c3
  obtain ⟨x0_1, x7_1, rfl, HA, HK1, HO_0, HK, HB⟩ := hrel
  cases gk with
  | zero => exact absurd HA.out (by simp [pass_big.l0])
  | succ k1 =>
   have H := HA.out
   clear HA
   simp only [pass_big.l0] at H
   by_cases c4 : x7_1 ≥ 0
   ·rw [if_pos c4] at H
    have c4b0 : decide (0 ≤ x7_1) = true := decide_eq_true c4
    clear c4
    obtain ⟨ji5, hji5⟩ : ∃ j_ : Int, (wrap64 (8 * x7_1)) = j_ := ⟨_, rfl⟩
    replace H : (if 0 ≤ (ji5) then (if x0_1.length < 140737488355328 then (pass_big.l0 k1 (x0_1 ++ [(shr .u64 a1 (ji5)) % 256]) a1 (wrap64 (x7_1 - 1))) else (none)) else (none)) = some r := by first | (rw [hji5] at H; exact H) | (simp only [hji5] at H ⊢; exact H)
    have hji5w : (IntKind.i64.wrap (8 * x7_1)) = ji5 := (i64_w _).trans hji5
    by_cases c6 : 0 ≤ (ji5)
    ·rw [if_pos c6] at H
     have c6b0 := eq_true c6
     have c6b1 : decide (0 ≤ (ji5)) = true := decide_eq_true c6
     clear c6
     obtain ⟨ji7, hji7⟩ : ∃ j_ : Int, (shr .u64 a1 (ji5)) = j_ := ⟨_, rfl⟩
     replace H : (if x0_1.length < 140737488355328 then (pass_big.l0 k1 (x0_1 ++ [(ji7) % 256]) a1 (wrap64 (x7_1 - 1))) else (none)) = some r := by first | (rw [hji7] at H; exact H) | (simp only [hji7] at H ⊢; exact H)
     have hji7_ : (a1 / 2 ^ min (ji5).toNat 64) = ji7 := hji7
     have hji7z : (ji5) ≤ 64 → (a1 / 2 ^ (ji5).toNat) = ji7 := shr_small hji7
     by_cases c8 : x0_1.length < 140737488355328
     ·rw [if_pos c8] at H
      have LMc8 := Aside0.mk c8
      clear c8
      obtain ⟨y208, hy208⟩ : ∃ y_ : List Int, y_ = (x0_1 ++ [(ji7) % 256]) := ⟨_, rfl⟩
      replace H : (pass_big.l0 k1 y208 a1 (wrap64 (x7_1 - 1))) = some r := by first | (rw [hy208]; with_reducible exact H) | (have H2_ := (Option.bind_some _ _).symm.trans H; rw [hy208]; with_reducible exact H2_) | (have H2_ := (Option.bind_some _ _).symm.trans H; with_reducible exact H2_) | with_reducible exact H | (rw [hy208]; exact H) | exact H
      have Ny208 := Aside0.mk hy208
      clear hy208
      have H' := Aside0.mk H
      clear H
      go_wp2_with (first | ((with_reducible refine gate_builtin (b := .append) (xs := #[.tmp 14, .tmp 20]) rfl ?_); at_builtin; refine Kd.R_append (Kd.int .u8) (w0 := w0) w0.heap.size rfl (.tmp 14) (.tmp 20) 22 5 (.int .u8 0) 1 rfl Tryd.underlying22 info5 rfl (by decide) (by omega) u0 x0_1 ((ji7) % 256) [.int .u8 ((ji7) % 256)] (fun k_ => (P0_ k_ ∨ w.heap.size ≤ k_)) (fun _ => False) rfl rfl ?aP (fun _ hk => hk.elim) ?aF ?aO ?aB ?aS ?aL ?_; (case aP => exact rfl); (case aB => exact (by repeat (first | (with_reducible first | exact HB.out | apply below_alloc | apply pw_below_drewN | apply below_drew1) | exact HB.out))); (case aF => exact (fun k_ hk => (.inr (Nat.le_trans (by first | exact HK.out.1 | exact (show Kept w _ (fun k_ => P0_ k_) from by repeat (first | (with_reducible first | exact HK.out | apply Kept.alloc | apply Kept.drewN | apply Kept.drew) | exact HK.out)).1) hk)))); (case aO => exact (by (with_reducible repeat (first | apply Kd.R_alloc | apply Kd.R_drewN | apply Kd.R_drew)); exact HO_0.out)); (case aS => exact (below_size (by repeat (first | (with_reducible first | exact HB.out | apply below_alloc | apply pw_below_drewN | apply below_drew1) | exact HB.out)))); (case aL => have := LMc8.out; omega); intro v209 w9 ho hb hg hat; rw [← Ny208.out] at ho; have n0_ := Aside0.mk (hb); have n1_ := Aside0.mk (Kept.of_grown (S := (fun k_ => P0_ k_)) hg (by repeat (first | (with_reducible first | exact HK.out | apply Kept.alloc | apply Kept.drewN | apply Kept.drew) | exact HK.out)) (fun k_ e_ => (HO_0.out.1 k_ e_))); have n2_ := Aside0.mk (ho); clear HB; clear HK; clear HO_0; have HB := n0_; have HK := n1_; have HO210 := n2_; clear n0_ n1_ n2_; clear ho hb hg hat))
      go_roundg k1
      case measure => have := HK1.out; omega
      case rel => exact ⟨(y208), (wrap64 (x7_1 - 1)), (by first | rfl | (simp; done) | (simp [*]; done)), H', ⟨by have := HK1.out; omega⟩, ⟨by (with_reducible repeat (first | apply Kd.R_alloc | apply Kd.R_drewN | apply Kd.R_drew)); exact HO210.out⟩, ⟨by repeat (first | (with_reducible first | exact HK.out | apply Kept.alloc | apply Kept.drewN | apply Kept.drew) | exact HK.out)⟩, ⟨by repeat (first | (with_reducible first | exact HB.out | apply below_alloc | apply pw_below_drewN | apply below_drew1) | exact HB.out)⟩⟩
     ·rw [if_neg c8] at H
      exact absurd H (by simp)
    ·rw [if_neg c6] at H
     exact absurd H (by simp)
   ·rw [if_neg c4] at H
    have c4b0 : decide (0 ≤ x7_1) = false := decide_eq_false c4
    clear c4
    obtain rfl := Option.some.inj H
    go_wp2
    go_ret
    exact ⟨_, by first | rfl | (simp [errW_none, errW_some] <;> rfl) | (simp [*, errW_none, errW_some] <;> rfl), by (with_reducible repeat (first | apply Kd.R_alloc | apply Kd.R_drewN | apply Kd.R_drew)); exact HO_0.out, by repeat (first | (with_reducible first | exact HB.out | apply below_alloc | apply pw_below_drewN | apply below_drew1) | exact HB.out), by repeat (first | (with_reducible first | exact HK.out | apply Kept.alloc | apply Kept.drewN | apply Kept.drew) | exact HK.out)⟩
end Go.Proofs.YtabdnlecpndfjaaDoor.PBase
namespace Go.Proofs.YtabdnlecpndfjaaDoor.PBase
open Go.RowKit Go.Proofs.YtabdnlecpndfjaaDoorW.PrintWords Go.Proofs.YtabdnlecpndfjaaDoorW.PrintLast Go.Proofs.YtabdnlecpndfjaaDoorW.PrintMore
attribute [local go_sem] max2_int min2_int max_two min_two max_three min_three max_four min_four   -- for this text's walks alone
set_option linter.unusedVariables false
set_option linter.unusedSimpArgs false
def pass_body.f (k : Nat) (a0_0 : Int) (a0_1 : Int) (a0_2 : Bool) (a0_3 : Int) : Option (List Int) := (pass_big.f k (([1] : List Int)) (IntKind.u64.wrap (a0_0)) 4).bind fun t215 => ((pass_big.f k t215 (IntKind.u64.wrap (a0_1)) 4).bind fun t218 => ((pass_big.f k t218 a0_3 8).bind fun t221 => (if a0_2 = true then (if t221.length < 140737488355328 then (some (t221 ++ [1])) else (none)) else (if t221.length < 140737488355328 then (some (t221 ++ [0])) else (none)))))
set_option maxHeartbeats 8000000 in
set_option maxRecDepth 100000 in
theorem pass_body.calls (k : Nat) (a0_0 : Int) (a0_1 : Int) (a0_2 : Bool) (a0_3 : Int) (r : List Int) (w : World) (h : pass_body.f k a0_0 a0_1 a0_2 a0_3 = some r) :
  Calls Tryd.prog 24 #[.agg #[.int .u32 a0_0, .int .u32 a0_1, .bool a0_2, .int .u64 a0_3]] w fun e w' => ∃ v0_ : Value, e = .returned (v0_) ∧ Kd.R (Kd.int .u8) 5 w' w.heap.size (fun _ => True) v0_ r ∧ Below w.heap.size w w' := by
 have hu26 := Tryd.underlying26
 have HB := Aside0.mk (Below.refl w.heap.size w)
 have H : ((pass_big.f k (([1] : List Int)) (IntKind.u64.wrap (a0_0)) 4).bind fun t215 => ((pass_big.f k t215 (IntKind.u64.wrap (a0_1)) 4).bind fun t218 => ((pass_big.f k t218 a0_3 8).bind fun t221 => (if a0_2 = true then (if t221.length < 140737488355328 then (some (t221 ++ [1])) else (none)) else (if t221.length < 140737488355328 then (some (t221 ++ [0])) else (none)))))) = some r := h
 clear h
 obtain ⟨y212, hy212⟩ : ∃ y_ : List Int, y_ = (([1] : List Int)) := ⟨_, rfl⟩
 replace H : ((pass_big.f k y212 (IntKind.u64.wrap (a0_0)) 4).bind fun t215 => ((pass_big.f k t215 (IntKind.u64.wrap (a0_1)) 4).bind fun t218 => ((pass_big.f k t218 a0_3 8).bind fun t221 => (if a0_2 = true then (if t221.length < 140737488355328 then (some (t221 ++ [1])) else (none)) else (if t221.length < 140737488355328 then (some (t221 ++ [0])) else (none)))))) = some r := by first | (rw [hy212]; with_reducible exact H) | (have H2_ := (Option.bind_some _ _).symm.trans H; rw [hy212]; with_reducible exact H2_) | (have H2_ := (Option.bind_some _ _).symm.trans H; with_reducible exact H2_) | with_reducible exact H | (rw [hy212]; exact H) | exact H
 have Ny212 := Aside0.mk hy212
 clear hy212
 replace H := Option.bind_eq_some_iff.mp H
 obtain ⟨t215, A20, H⟩ := H
 replace H : ((pass_big.f k t215 (IntKind.u64.wrap (a0_1)) 4).bind fun t218 => ((pass_big.f k t218 a0_3 8).bind fun t221 => (if a0_2 = true then (if t221.length < 140737488355328 then (some (t221 ++ [1])) else (none)) else (if t221.length < 140737488355328 then (some (t221 ++ [0])) else (none))))) = some r := H
 have A2 := Aside0.mk A20
 clear A20
 replace H := Option.bind_eq_some_iff.mp H
 obtain ⟨t218, A30, H⟩ := H
 replace H : ((pass_big.f k t218 a0_3 8).bind fun t221 => (if a0_2 = true then (if t221.length < 140737488355328 then (some (t221 ++ [1])) else (none)) else (if t221.length < 140737488355328 then (some (t221 ++ [0])) else (none)))) = some r := H
 have A3 := Aside0.mk A30
 clear A30
 replace H := Option.bind_eq_some_iff.mp H
 obtain ⟨t221, A40, H⟩ := H
 replace H : (if a0_2 = true then (if t221.length < 140737488355328 then (some (t221 ++ [1])) else (none)) else (if t221.length < 140737488355328 then (some (t221 ++ [0])) else (none))) = some r := H
 have A4 := Aside0.mk A40
 clear A40
 by_cases c5 : a0_2 = true
 ·subst c5
  have H1 : (if t221.length < 140737488355328 then (some (t221 ++ [1])) else (none)) = some r := by rw [if_pos rfl] at H; exact H
  clear H
  have H := H1
  clear H1
  by_cases c6 : t221.length < 140737488355328
  ·rw [if_pos c6] at H
   have LMc6 := Aside0.mk c6
   clear c6
   obtain ⟨y224, hy224⟩ : ∃ y_ : List Int, y_ = (t221 ++ [1]) := ⟨_, rfl⟩
   replace H : (some y224) = some r := by first | (rw [hy224]; with_reducible exact H) | (have H2_ := (Option.bind_some _ _).symm.trans H; rw [hy224]; with_reducible exact H2_) | (have H2_ := (Option.bind_some _ _).symm.trans H; with_reducible exact H2_) | with_reducible exact H | (rw [hy224]; exact H) | exact H
   have Ny224 := Aside0.mk hy224
   clear hy224
   obtain rfl := Option.some.inj H
   go_enter Tryd.func24, Tryd.ntmps24
   go_wp2_with (first | ((with_reducible refine gate_dst (N := 1) rfl ?_); refine box_event ?hg (N := 1) ?hd (cs := #[.int .u32 a0_0, .int .u32 a0_1, .bool true, .int .u64 a0_3]) (t := 26) ?hr ?_; (case hd => rfl); (case hg => rfl); (case hr => first | (go_simp; done) | (go_simp; rfl) | (go_simp; simp only [IntKind.wrap_u32, Int.emod_add_emod, Int.add_emod_emod])); intro gb211 hg w7 hbox hb; have n0_ := Aside0.mk (below_step (by repeat (first | (with_reducible first | exact HB.out | apply below_alloc | apply pw_below_drewN | apply below_drew1) | exact HB.out)) hb); have n1_ := Aside0.mk (hbox); have n2_ := Aside0.mk ((by rw [hg]; exact (below_size (by repeat (first | (with_reducible first | exact HB.out | apply below_alloc | apply pw_below_drewN | apply below_drew1) | exact HB.out))) : w.heap.size ≤ gb211)); have n3_ := Aside0.mk ((by rw [hg]; exact (below_size (by repeat (first | (with_reducible first | exact HB.out | apply below_alloc | apply pw_below_drewN | apply below_drew1) | exact HB.out))) : w.heap.size ≤ gb211)); clear HB; have HB := n0_; have BK211 := n1_; have GW211 := n2_; have GE211 := n3_; clear n0_ n1_ n2_ n3_; clear hb hbox hg) | ((with_reducible refine gate_dst (N := 4) rfl ?_); refine Kd.R_lit (Kd.int .u8) _ 5 ?hg (N := 4) ?hd (xs := ([1] : List Int)) (inner := [.int .u8 1]) (ok := fun _ => True) (okp := fun _ => True) ?hr ?hp (fun _ hk => hk) trivial (Below.refl _ _) (Nat.le_refl _) (by simp) ?_; (case hd => rfl); (case hg => rfl); (case hr => first | (go_simp; done) | (go_simp; rfl) | (go_simp; simp only [IntKind.wrap_u32, Int.emod_add_emod, Int.add_emod_emod])); (case hp => exact (Reps.one (show Kd.M (Kd.int .u8) _ _ _ 1 [.int .u8 1] from rfl) (Reps.none _ _))); intro v213 w8 ho9 hb hg_ hnew_; clear hg_ hnew_; (first | rw [← Ny212.out] at ho9 | (simp only [Int.reduceToNat] at ho9; rw [← Ny212.out] at ho9)); have n0_ := Aside0.mk (Kd.R_lower ho9 (below_size (by repeat (first | (with_reducible first | exact HB.out | apply below_alloc | apply pw_below_drewN | apply below_drew1 | refine below_set ?_ GE211.out) | exact HB.out)))); have n1_ := Aside0.mk (blk_below (g := gb211) (o := .cells #[.int .u32 a0_0, .int .u32 a0_1, .bool true, .int .u64 a0_3] 26 (0, 0)) (by (with_reducible repeat (first | refine blk_drewN ?_ _ | refine blk_drew ?_ | refine blk_alloc ?_ _)); exact BK211.out) hb); have n2_ := Aside0.mk (below_step (by repeat (first | (with_reducible first | exact HB.out | apply below_alloc | apply pw_below_drewN | apply below_drew1 | refine below_set ?_ GE211.out) | exact HB.out)) hb); clear BK211; clear HB; have HO214 := n0_; have BK211 := n1_; have HB := n2_; clear n0_ n1_ n2_; clear hb ho9; have hcz10_0 : w8.cell? ⟨gb211, 0, none⟩ = some (.int .u32 a0_0) := (blk_cell BK211.out 0).trans rfl; have hcz10_1 : w8.cell? ⟨gb211, 1, none⟩ = some (.int .u32 a0_1) := (blk_cell BK211.out 1).trans rfl; have hcz10_2 : w8.cell? ⟨gb211, 2, none⟩ = some (.bool true) := (blk_cell BK211.out 2).trans rfl; have hcz10_3 : w8.cell? ⟨gb211, 3, none⟩ = some (.int .u64 a0_3) := (blk_cell BK211.out 3).trans rfl; have hfz10_0 := blk_frozen BK211.out 0; have hfz10_1 := blk_frozen BK211.out 1; have hfz10_2 := blk_frozen BK211.out 2; have hfz10_3 := blk_frozen BK211.out 3; obtain ⟨Ao11, co11, eo11⟩ := Kd.R_slice HO214.out; subst eo11) | ((with_reducible refine gate_callee (f := 38) rfl ?_); refine goesL_ (some 8) rfl rfl Tryd.func38 (by kernel_rfl) rfl #[.slice Ao11 y212.length co11, .int .u64 (IntKind.u64.wrap (a0_0)), .int .i64 4] rfl (by (try simp only [List.map_toArray, List.map_cons, List.map_nil]); first | done | rfl | (simp only [List.length_drop, List.length_take]; rfl) | (simp only [List.length_drop, List.length_take]; (repeat rw [Nat.min_eq_left (by simp only [eq_iff_iff, iff_true] at *; omega)]); rfl)) ?_; (with_reducible refine (pass_big.calls k (fun k_ => some k_ = (.slice Ao11 y212.length co11 : Value).ownBlock) (.slice Ao11 y212.length co11) y212 (IntKind.u64.wrap (a0_0)) 4 t215 w _ ?side1 ?side2 A2.out).mono ?_); (case side1 => repeat (first | (with_reducible first | exact HB.out | apply below_alloc | apply pw_below_drewN | apply below_drew1 | refine below_set ?_ GE211.out) | exact HB.out)); (case side2 => exact Kd.R_tight rfl HO214.out); rintro e w12 ⟨v216, rfl, ho0, hb, hkp⟩; refine ⟨_, rfl, ?_⟩; have n0_ := Aside0.mk (blk_kept (by (with_reducible repeat (first | refine blk_drewN ?_ _ | refine blk_drew ?_ | refine blk_alloc ?_ _)); exact BK211.out) hkp (fun hs_ => (fun e_ => (Kd.R_ne HO214.out BK211.out (by decide)) e_) hs_)); have n1_ := Aside0.mk (Kd.R_mono (ok' := fun k_ => True) ho0 (fun k_ hk_ => trivial)); have n2_ := Aside0.mk (hb); clear BK211; clear HB; clear HO214; have BK211 := n0_; have HO217 := n1_; have HB := n2_; clear n0_ n1_ n2_; (try clear hb); (try clear hkp); (try clear ho0); have hcz13_0 : w12.cell? ⟨gb211, 0, none⟩ = some (.int .u32 a0_0) := (blk_cell BK211.out 0).trans rfl; have hcz13_1 : w12.cell? ⟨gb211, 1, none⟩ = some (.int .u32 a0_1) := (blk_cell BK211.out 1).trans rfl; have hcz13_2 : w12.cell? ⟨gb211, 2, none⟩ = some (.bool true) := (blk_cell BK211.out 2).trans rfl; have hcz13_3 : w12.cell? ⟨gb211, 3, none⟩ = some (.int .u64 a0_3) := (blk_cell BK211.out 3).trans rfl; have hfz13_0 := blk_frozen BK211.out 0; have hfz13_1 := blk_frozen BK211.out 1; have hfz13_2 := blk_frozen BK211.out 2; have hfz13_3 := blk_frozen BK211.out 3; obtain ⟨Ao14, co14, eo14⟩ := Kd.R_slice HO217.out; subst eo14) | ((with_reducible refine gate_callee (f := 38) rfl ?_); refine goesL_ (some 13) rfl rfl Tryd.func38 (by kernel_rfl) rfl #[.slice Ao14 t215.length co14, .int .u64 (IntKind.u64.wrap (a0_1)), .int .i64 4] rfl (by (try simp only [List.map_toArray, List.map_cons, List.map_nil]); first | done | rfl | (simp only [List.length_drop, List.length_take]; rfl) | (simp only [List.length_drop, List.length_take]; (repeat rw [Nat.min_eq_left (by simp only [eq_iff_iff, iff_true] at *; omega)]); rfl)) ?_; (with_reducible refine (pass_big.calls k (fun k_ => some k_ = (.slice Ao14 t215.length co14 : Value).ownBlock) (.slice Ao14 t215.length co14) t215 (IntKind.u64.wrap (a0_1)) 4 t218 w _ ?side1 ?side2 A3.out).mono ?_); (case side1 => repeat (first | (with_reducible first | exact HB.out | apply below_alloc | apply pw_below_drewN | apply below_drew1 | refine below_set ?_ GE211.out) | exact HB.out)); (case side2 => exact Kd.R_tight rfl HO217.out); rintro e w15 ⟨v219, rfl, ho0, hb, hkp⟩; refine ⟨_, rfl, ?_⟩; have n0_ := Aside0.mk (blk_kept (by (with_reducible repeat (first | refine blk_drewN ?_ _ | refine blk_drew ?_ | refine blk_alloc ?_ _)); exact BK211.out) hkp (fun hs_ => (fun e_ => (Kd.R_ne HO217.out BK211.out (by decide)) e_) hs_)); have n1_ := Aside0.mk (Kd.R_mono (ok' := fun k_ => True) ho0 (fun k_ hk_ => trivial)); have n2_ := Aside0.mk (hb); clear BK211; clear HB; clear HO217; have BK211 := n0_; have HO220 := n1_; have HB := n2_; clear n0_ n1_ n2_; (try clear hb); (try clear hkp); (try clear ho0); have hcz16_0 : w15.cell? ⟨gb211, 0, none⟩ = some (.int .u32 a0_0) := (blk_cell BK211.out 0).trans rfl; have hcz16_1 : w15.cell? ⟨gb211, 1, none⟩ = some (.int .u32 a0_1) := (blk_cell BK211.out 1).trans rfl; have hcz16_2 : w15.cell? ⟨gb211, 2, none⟩ = some (.bool true) := (blk_cell BK211.out 2).trans rfl; have hcz16_3 : w15.cell? ⟨gb211, 3, none⟩ = some (.int .u64 a0_3) := (blk_cell BK211.out 3).trans rfl; have hfz16_0 := blk_frozen BK211.out 0; have hfz16_1 := blk_frozen BK211.out 1; have hfz16_2 := blk_frozen BK211.out 2; have hfz16_3 := blk_frozen BK211.out 3; obtain ⟨Ao17, co17, eo17⟩ := Kd.R_slice HO220.out; subst eo17) | ((with_reducible refine gate_callee (f := 38) rfl ?_); refine goesL_ (some 17) rfl rfl Tryd.func38 (by kernel_rfl) rfl #[.slice Ao17 t218.length co17, .int .u64 a0_3, .int .i64 8] rfl (by (try simp only [List.map_toArray, List.map_cons, List.map_nil]); first | done | rfl | (simp only [List.length_drop, List.length_take]; rfl) | (simp only [List.length_drop, List.length_take]; (repeat rw [Nat.min_eq_left (by simp only [eq_iff_iff, iff_true] at *; omega)]); rfl)) ?_; (with_reducible refine (pass_big.calls k (fun k_ => some k_ = (.slice Ao17 t218.length co17 : Value).ownBlock) (.slice Ao17 t218.length co17) t218 a0_3 8 t221 w _ ?side1 ?side2 A4.out).mono ?_); (case side1 => repeat (first | (with_reducible first | exact HB.out | apply below_alloc | apply pw_below_drewN | apply below_drew1 | refine below_set ?_ GE211.out) | exact HB.out)); (case side2 => exact Kd.R_tight rfl HO220.out); rintro e w18 ⟨v222, rfl, ho0, hb, hkp⟩; refine ⟨_, rfl, ?_⟩; have n0_ := Aside0.mk (blk_kept (by (with_reducible repeat (first | refine blk_drewN ?_ _ | refine blk_drew ?_ | refine blk_alloc ?_ _)); exact BK211.out) hkp (fun hs_ => (fun e_ => (Kd.R_ne HO220.out BK211.out (by decide)) e_) hs_)); have n1_ := Aside0.mk (Kd.R_mono (ok' := fun k_ => True) ho0 (fun k_ hk_ => trivial)); have n2_ := Aside0.mk (hb); clear BK211; clear HB; clear HO220; have BK211 := n0_; have HO223 := n1_; have HB := n2_; clear n0_ n1_ n2_; (try clear hb); (try clear hkp); (try clear ho0); have hcz19_0 : w18.cell? ⟨gb211, 0, none⟩ = some (.int .u32 a0_0) := (blk_cell BK211.out 0).trans rfl; have hcz19_1 : w18.cell? ⟨gb211, 1, none⟩ = some (.int .u32 a0_1) := (blk_cell BK211.out 1).trans rfl; have hcz19_2 : w18.cell? ⟨gb211, 2, none⟩ = some (.bool true) := (blk_cell BK211.out 2).trans rfl; have hcz19_3 : w18.cell? ⟨gb211, 3, none⟩ = some (.int .u64 a0_3) := (blk_cell BK211.out 3).trans rfl; have hfz19_0 := blk_frozen BK211.out 0; have hfz19_1 := blk_frozen BK211.out 1; have hfz19_2 := blk_frozen BK211.out 2; have hfz19_3 := blk_frozen BK211.out 3) | ((with_reducible refine gate_builtin (b := .append) (xs := #[.tmp 20, .tmp 21]) rfl ?_); at_builtin; refine Kd.R_append (Kd.int .u8) (w0 := w) w.heap.size rfl (.tmp 20) (.tmp 21) 22 5 (.int .u8 0) 1 rfl Tryd.underlying22 info5 rfl (by decide) (by omega) v222 t221 1 [.int .u8 1] (fun _ => True) (fun _ => False) rfl rfl ?aP (fun _ hk => hk.elim) ?aF ?aO ?aB ?aS ?aL ?_; (case aP => exact rfl); (case aB => exact (by repeat (first | (with_reducible first | exact HB.out | apply below_alloc | apply pw_below_drewN | apply below_drew1 | refine below_set ?_ GE211.out) | exact HB.out))); (case aF => exact (fun _ _ => trivial)); (case aO => exact (by (with_reducible repeat (first | apply Kd.R_alloc | apply Kd.R_drewN | apply Kd.R_drew)); exact HO223.out)); (case aS => exact (below_size (by repeat (first | (with_reducible first | exact HB.out | apply below_alloc | apply pw_below_drewN | apply below_drew1 | refine below_set ?_ GE211.out) | exact HB.out)))); (case aL => have := LMc6.out; omega); intro v225 w20 ho hb hg hat; rw [← Ny224.out] at ho; have n0_ := Aside0.mk (blk_grown (g := gb211) (o := .cells #[.int .u32 a0_0, .int .u32 a0_1, .bool true, .int .u64 a0_3] 26 (0, 0)) (by (with_reducible repeat (first | refine blk_drewN ?_ _ | refine blk_drew ?_ | refine blk_alloc ?_ _)); exact BK211.out) hg (Kd.R_ne HO223.out BK211.out (by decide))); have n1_ := Aside0.mk (hb); have n2_ := Aside0.mk (ho); clear BK211; clear HB; clear HO223; have BK211 := n0_; have HB := n1_; have HO226 := n2_; clear n0_ n1_ n2_; clear ho hb hg hat))
   go_ret
   exact ⟨_, by first | rfl | (simp [errW_none, errW_some] <;> rfl) | (simp [*, errW_none, errW_some] <;> rfl), by (with_reducible repeat (first | apply Kd.R_alloc | apply Kd.R_drewN | apply Kd.R_drew)); exact HO226.out, by repeat (first | (with_reducible first | exact HB.out | apply below_alloc | apply pw_below_drewN | apply below_drew1 | refine below_set ?_ GE211.out) | exact HB.out)⟩
  ·rw [if_neg c6] at H
   exact absurd H (by simp)
 ·replace c5 := Bool.eq_false_iff.mpr c5
  subst c5
  have H1 : (if t221.length < 140737488355328 then (some (t221 ++ [0])) else (none)) = some r := by rw [if_neg (show ¬ (false = true) by decide)] at H; exact H
  clear H
  have H := H1
  clear H1
  by_cases c21 : t221.length < 140737488355328
  ·rw [if_pos c21] at H
   have LMc21 := Aside0.mk c21
   clear c21
   obtain ⟨y227, hy227⟩ : ∃ y_ : List Int, y_ = (t221 ++ [0]) := ⟨_, rfl⟩
   replace H : (some y227) = some r := by first | (rw [hy227]; with_reducible exact H) | (have H2_ := (Option.bind_some _ _).symm.trans H; rw [hy227]; with_reducible exact H2_) | (have H2_ := (Option.bind_some _ _).symm.trans H; with_reducible exact H2_) | with_reducible exact H | (rw [hy227]; exact H) | exact H
   have Ny227 := Aside0.mk hy227
   clear hy227
   obtain rfl := Option.some.inj H
   go_enter Tryd.func24, Tryd.ntmps24
   go_wp2_with (first | ((with_reducible refine gate_dst (N := 1) rfl ?_); refine box_event ?hg (N := 1) ?hd (cs := #[.int .u32 a0_0, .int .u32 a0_1, .bool false, .int .u64 a0_3]) (t := 26) ?hr ?_; (case hd => rfl); (case hg => rfl); (case hr => first | (go_simp; done) | (go_simp; rfl) | (go_simp; simp only [IntKind.wrap_u32, Int.emod_add_emod, Int.add_emod_emod])); intro gb211 hg w22 hbox hb; have n0_ := Aside0.mk (below_step (by repeat (first | (with_reducible first | exact HB.out | apply below_alloc | apply pw_below_drewN | apply below_drew1) | exact HB.out)) hb); have n1_ := Aside0.mk (hbox); have n2_ := Aside0.mk ((by rw [hg]; exact (below_size (by repeat (first | (with_reducible first | exact HB.out | apply below_alloc | apply pw_below_drewN | apply below_drew1) | exact HB.out))) : w.heap.size ≤ gb211)); have n3_ := Aside0.mk ((by rw [hg]; exact (below_size (by repeat (first | (with_reducible first | exact HB.out | apply below_alloc | apply pw_below_drewN | apply below_drew1) | exact HB.out))) : w.heap.size ≤ gb211)); clear HB; have HB := n0_; have BK211 := n1_; have GW211 := n2_; have GE211 := n3_; clear n0_ n1_ n2_ n3_; clear hb hbox hg) | ((with_reducible refine gate_dst (N := 4) rfl ?_); refine Kd.R_lit (Kd.int .u8) _ 5 ?hg (N := 4) ?hd (xs := ([1] : List Int)) (inner := [.int .u8 1]) (ok := fun _ => True) (okp := fun _ => True) ?hr ?hp (fun _ hk => hk) trivial (Below.refl _ _) (Nat.le_refl _) (by simp) ?_; (case hd => rfl); (case hg => rfl); (case hr => first | (go_simp; done) | (go_simp; rfl) | (go_simp; simp only [IntKind.wrap_u32, Int.emod_add_emod, Int.add_emod_emod])); (case hp => exact (Reps.one (show Kd.M (Kd.int .u8) _ _ _ 1 [.int .u8 1] from rfl) (Reps.none _ _))); intro v213 w23 ho24 hb hg_ hnew_; clear hg_ hnew_; (first | rw [← Ny212.out] at ho24 | (simp only [Int.reduceToNat] at ho24; rw [← Ny212.out] at ho24)); have n0_ := Aside0.mk (Kd.R_lower ho24 (below_size (by repeat (first | (with_reducible first | exact HB.out | apply below_alloc | apply pw_below_drewN | apply below_drew1 | refine below_set ?_ GE211.out) | exact HB.out)))); have n1_ := Aside0.mk (blk_below (g := gb211) (o := .cells #[.int .u32 a0_0, .int .u32 a0_1, .bool false, .int .u64 a0_3] 26 (0, 0)) (by (with_reducible repeat (first | refine blk_drewN ?_ _ | refine blk_drew ?_ | refine blk_alloc ?_ _)); exact BK211.out) hb); have n2_ := Aside0.mk (below_step (by repeat (first | (with_reducible first | exact HB.out | apply below_alloc | apply pw_below_drewN | apply below_drew1 | refine below_set ?_ GE211.out) | exact HB.out)) hb); clear BK211; clear HB; have HO214 := n0_; have BK211 := n1_; have HB := n2_; clear n0_ n1_ n2_; clear hb ho24; have hcz25_0 : w23.cell? ⟨gb211, 0, none⟩ = some (.int .u32 a0_0) := (blk_cell BK211.out 0).trans rfl; have hcz25_1 : w23.cell? ⟨gb211, 1, none⟩ = some (.int .u32 a0_1) := (blk_cell BK211.out 1).trans rfl; have hcz25_2 : w23.cell? ⟨gb211, 2, none⟩ = some (.bool false) := (blk_cell BK211.out 2).trans rfl; have hcz25_3 : w23.cell? ⟨gb211, 3, none⟩ = some (.int .u64 a0_3) := (blk_cell BK211.out 3).trans rfl; have hfz25_0 := blk_frozen BK211.out 0; have hfz25_1 := blk_frozen BK211.out 1; have hfz25_2 := blk_frozen BK211.out 2; have hfz25_3 := blk_frozen BK211.out 3; obtain ⟨Ao26, co26, eo26⟩ := Kd.R_slice HO214.out; subst eo26) | ((with_reducible refine gate_callee (f := 38) rfl ?_); refine goesL_ (some 8) rfl rfl Tryd.func38 (by kernel_rfl) rfl #[.slice Ao26 y212.length co26, .int .u64 (IntKind.u64.wrap (a0_0)), .int .i64 4] rfl (by (try simp only [List.map_toArray, List.map_cons, List.map_nil]); first | done | rfl | (simp only [List.length_drop, List.length_take]; rfl) | (simp only [List.length_drop, List.length_take]; (repeat rw [Nat.min_eq_left (by simp only [eq_iff_iff, iff_true] at *; omega)]); rfl)) ?_; (with_reducible refine (pass_big.calls k (fun k_ => some k_ = (.slice Ao26 y212.length co26 : Value).ownBlock) (.slice Ao26 y212.length co26) y212 (IntKind.u64.wrap (a0_0)) 4 t215 w _ ?side1 ?side2 A2.out).mono ?_); (case side1 => repeat (first | (with_reducible first | exact HB.out | apply below_alloc | apply pw_below_drewN | apply below_drew1 | refine below_set ?_ GE211.out) | exact HB.out)); (case side2 => exact Kd.R_tight rfl HO214.out); rintro e w27 ⟨v216, rfl, ho0, hb, hkp⟩; refine ⟨_, rfl, ?_⟩; have n0_ := Aside0.mk (blk_kept (by (with_reducible repeat (first | refine blk_drewN ?_ _ | refine blk_drew ?_ | refine blk_alloc ?_ _)); exact BK211.out) hkp (fun hs_ => (fun e_ => (Kd.R_ne HO214.out BK211.out (by decide)) e_) hs_)); have n1_ := Aside0.mk (Kd.R_mono (ok' := fun k_ => True) ho0 (fun k_ hk_ => trivial)); have n2_ := Aside0.mk (hb); clear BK211; clear HB; clear HO214; have BK211 := n0_; have HO217 := n1_; have HB := n2_; clear n0_ n1_ n2_; (try clear hb); (try clear hkp); (try clear ho0); have hcz28_0 : w27.cell? ⟨gb211, 0, none⟩ = some (.int .u32 a0_0) := (blk_cell BK211.out 0).trans rfl; have hcz28_1 : w27.cell? ⟨gb211, 1, none⟩ = some (.int .u32 a0_1) := (blk_cell BK211.out 1).trans rfl; have hcz28_2 : w27.cell? ⟨gb211, 2, none⟩ = some (.bool false) := (blk_cell BK211.out 2).trans rfl; have hcz28_3 : w27.cell? ⟨gb211, 3, none⟩ = some (.int .u64 a0_3) := (blk_cell BK211.out 3).trans rfl; have hfz28_0 := blk_frozen BK211.out 0; have hfz28_1 := blk_frozen BK211.out 1; have hfz28_2 := blk_frozen BK211.out 2; have hfz28_3 := blk_frozen BK211.out 3; obtain ⟨Ao29, co29, eo29⟩ := Kd.R_slice HO217.out; subst eo29) | ((with_reducible refine gate_callee (f := 38) rfl ?_); refine goesL_ (some 13) rfl rfl Tryd.func38 (by kernel_rfl) rfl #[.slice Ao29 t215.length co29, .int .u64 (IntKind.u64.wrap (a0_1)), .int .i64 4] rfl (by (try simp only [List.map_toArray, List.map_cons, List.map_nil]); first | done | rfl | (simp only [List.length_drop, List.length_take]; rfl) | (simp only [List.length_drop, List.length_take]; (repeat rw [Nat.min_eq_left (by simp only [eq_iff_iff, iff_true] at *; omega)]); rfl)) ?_; (with_reducible refine (pass_big.calls k (fun k_ => some k_ = (.slice Ao29 t215.length co29 : Value).ownBlock) (.slice Ao29 t215.length co29) t215 (IntKind.u64.wrap (a0_1)) 4 t218 w _ ?side1 ?side2 A3.out).mono ?_); (case side1 => repeat (first | (with_reducible first | exact HB.out | apply below_alloc | apply pw_below_drewN | apply below_drew1 | refine below_set ?_ GE211.out) | exact HB.out)); (case side2 => exact Kd.R_tight rfl HO217.out); rintro e w30 ⟨v219, rfl, ho0, hb, hkp⟩; refine ⟨_, rfl, ?_⟩; have n0_ := Aside0.mk (blk_kept (by (with_reducible repeat (first | refine blk_drewN ?_ _ | refine blk_drew ?_ | refine blk_alloc ?_ _)); exact BK211.out) hkp (fun hs_ => (fun e_ => (Kd.R_ne HO217.out BK211.out (by decide)) e_) hs_)); have n1_ := Aside0.mk (Kd.R_mono (ok' := fun k_ => True) ho0 (fun k_ hk_ => trivial)); have n2_ := Aside0.mk (hb); clear BK211; clear HB; clear HO217; have BK211 := n0_; have HO220 := n1_; have HB := n2_; clear n0_ n1_ n2_; (try clear hb); (try clear hkp); (try clear ho0); have hcz31_0 : w30.cell? ⟨gb211, 0, none⟩ = some (.int .u32 a0_0) := (blk_cell BK211.out 0).trans rfl; have hcz31_1 : w30.cell? ⟨gb211, 1, none⟩ = some (.int .u32 a0_1) := (blk_cell BK211.out 1).trans rfl; have hcz31_2 : w30.cell? ⟨gb211, 2, none⟩ = some (.bool false) := (blk_cell BK211.out 2).trans rfl; have hcz31_3 : w30.cell? ⟨gb211, 3, none⟩ = some (.int .u64 a0_3) := (blk_cell BK211.out 3).trans rfl; have hfz31_0 := blk_frozen BK211.out 0; have hfz31_1 := blk_frozen BK211.out 1; have hfz31_2 := blk_frozen BK211.out 2; have hfz31_3 := blk_frozen BK211.out 3; obtain ⟨Ao32, co32, eo32⟩ := Kd.R_slice HO220.out; subst eo32) | ((with_reducible refine gate_callee (f := 38) rfl ?_); refine goesL_ (some 17) rfl rfl Tryd.func38 (by kernel_rfl) rfl #[.slice Ao32 t218.length co32, .int .u64 a0_3, .int .i64 8] rfl (by (try simp only [List.map_toArray, List.map_cons, List.map_nil]); first | done | rfl | (simp only [List.length_drop, List.length_take]; rfl) | (simp only [List.length_drop, List.length_take]; (repeat rw [Nat.min_eq_left (by simp only [eq_iff_iff, iff_true] at *; omega)]); rfl)) ?_; (with_reducible refine (pass_big.calls k (fun k_ => some k_ = (.slice Ao32 t218.length co32 : Value).ownBlock) (.slice Ao32 t218.length co32) t218 a0_3 8 t221 w _ ?side1 ?side2 A4.out).mono ?_); (case side1 => repeat (first | (with_reducible first | exact HB.out | apply below_alloc | apply pw_below_drewN | apply below_drew1 | refine below_set ?_ GE211.out) | exact HB.out)); (case side2 => exact Kd.R_tight rfl HO220.out); rintro e w33 ⟨v222, rfl, ho0, hb, hkp⟩; refine ⟨_, rfl, ?_⟩; have n0_ := Aside0.mk (blk_kept (by (with_reducible repeat (first | refine blk_drewN ?_ _ | refine blk_drew ?_ | refine blk_alloc ?_ _)); exact BK211.out) hkp (fun hs_ => (fun e_ => (Kd.R_ne HO220.out BK211.out (by decide)) e_) hs_)); have n1_ := Aside0.mk (Kd.R_mono (ok' := fun k_ => True) ho0 (fun k_ hk_ => trivial)); have n2_ := Aside0.mk (hb); clear BK211; clear HB; clear HO220; have BK211 := n0_; have HO223 := n1_; have HB := n2_; clear n0_ n1_ n2_; (try clear hb); (try clear hkp); (try clear ho0); have hcz34_0 : w33.cell? ⟨gb211, 0, none⟩ = some (.int .u32 a0_0) := (blk_cell BK211.out 0).trans rfl; have hcz34_1 : w33.cell? ⟨gb211, 1, none⟩ = some (.int .u32 a0_1) := (blk_cell BK211.out 1).trans rfl; have hcz34_2 : w33.cell? ⟨gb211, 2, none⟩ = some (.bool false) := (blk_cell BK211.out 2).trans rfl; have hcz34_3 : w33.cell? ⟨gb211, 3, none⟩ = some (.int .u64 a0_3) := (blk_cell BK211.out 3).trans rfl; have hfz34_0 := blk_frozen BK211.out 0; have hfz34_1 := blk_frozen BK211.out 1; have hfz34_2 := blk_frozen BK211.out 2; have hfz34_3 := blk_frozen BK211.out 3) | ((with_reducible refine gate_builtin (b := .append) (xs := #[.tmp 23, .tmp 24]) rfl ?_); at_builtin; refine Kd.R_append (Kd.int .u8) (w0 := w) w.heap.size rfl (.tmp 23) (.tmp 24) 22 5 (.int .u8 0) 1 rfl Tryd.underlying22 info5 rfl (by decide) (by omega) v222 t221 0 [.int .u8 0] (fun _ => True) (fun _ => False) rfl rfl ?aP (fun _ hk => hk.elim) ?aF ?aO ?aB ?aS ?aL ?_; (case aP => exact rfl); (case aB => exact (by repeat (first | (with_reducible first | exact HB.out | apply below_alloc | apply pw_below_drewN | apply below_drew1 | refine below_set ?_ GE211.out) | exact HB.out))); (case aF => exact (fun _ _ => trivial)); (case aO => exact (by (with_reducible repeat (first | apply Kd.R_alloc | apply Kd.R_drewN | apply Kd.R_drew)); exact HO223.out)); (case aS => exact (below_size (by repeat (first | (with_reducible first | exact HB.out | apply below_alloc | apply pw_below_drewN | apply below_drew1 | refine below_set ?_ GE211.out) | exact HB.out)))); (case aL => have := LMc21.out; omega); intro v228 w35 ho hb hg hat; rw [← Ny227.out] at ho; have n0_ := Aside0.mk (blk_grown (g := gb211) (o := .cells #[.int .u32 a0_0, .int .u32 a0_1, .bool false, .int .u64 a0_3] 26 (0, 0)) (by (with_reducible repeat (first | refine blk_drewN ?_ _ | refine blk_drew ?_ | refine blk_alloc ?_ _)); exact BK211.out) hg (Kd.R_ne HO223.out BK211.out (by decide))); have n1_ := Aside0.mk (hb); have n2_ := Aside0.mk (ho); clear BK211; clear HB; clear HO223; have BK211 := n0_; have HB := n1_; have HO229 := n2_; clear n0_ n1_ n2_; clear ho hb hg hat))
   go_ret
   exact ⟨_, by first | rfl | (simp [errW_none, errW_some] <;> rfl) | (simp [*, errW_none, errW_some] <;> rfl), by (with_reducible repeat (first | apply Kd.R_alloc | apply Kd.R_drewN | apply Kd.R_drew)); exact HO229.out, by repeat (first | (with_reducible first | exact HB.out | apply below_alloc | apply pw_below_drewN | apply below_drew1 | refine below_set ?_ GE211.out) | exact HB.out)⟩
  ·rw [if_neg c21] at H
   exact absurd H (by simp)
end Go.Proofs.YtabdnlecpndfjaaDoor.PBase
namespace Go.Proofs.YtabdnlecpndfjaaDoor.PBase
open Go.RowKit Go.Proofs.YtabdnlecpndfjaaDoorW.PrintWords Go.Proofs.YtabdnlecpndfjaaDoorW.PrintLast Go.Proofs.YtabdnlecpndfjaaDoorW.PrintMore
attribute [local go_sem] max2_int min2_int max_two min_two max_three min_three max_four min_four   -- for this text's walks alone
set_option linter.unusedVariables false
set_option linter.unusedSimpArgs false
mutual
def coaminglaw05_sameTenant.j0 : Nat → Bool → Int → List Int → Int → Int → List Int → Int → List Int → Int → Int → List Int → Option (Bool)
 | 0, _, _, _, _, _, _, _, _, _, _, _ => none
 | k + 1, x42, x286000, x286001, x286002, x286003, x286004, x287000, x287001, x287002, x287003, x287004 => if x42 = true then (some false) else (coaminglaw05_sameTenant.l0 k 0 x286000 x286001 x286002 x286003 x286004 x287000 x287001 x287002 x287003 x287004)
def coaminglaw05_sameTenant.l0 : Nat → Int → Int → List Int → Int → Int → List Int → Int → List Int → Int → Int → List Int → Option (Bool)
 | 0, _, _, _, _, _, _, _, _, _, _, _ => none
 | k + 1, x5, x286000, x286001, x286002, x286003, x286004, x287000, x287001, x287002, x287003, x287004 => if x5 < (x286004.length : Int) then (if 0 ≤ x5 then (if x5 < (x287004.length : Int) then (if (rd x286004 x5) = (rd x287004 x5) then (coaminglaw05_sameTenant.l0 k (wrap64 (x5 + 1)) x286000 x286001 x286002 x286003 x286004 x287000 x287001 x287002 x287003 x287004) else (some false)) else (none)) else (none)) else (some true)
end
def coaminglaw05_sameTenant.f (k : Nat) (a0_0 : Int) (l0_1 : List Int) (a0_2 : Int) (a0_3 : Int) (l0_4 : List Int) (a1_0 : Int) (l1_1 : List Int) (a1_2 : Int) (a1_3 : Int) (l1_4 : List Int) : Option (Bool) := if a0_0 = a1_0 then (if a0_2 = a1_2 then (if a0_3 = a1_3 then (if (strOfNums l0_1).toList = (strOfNums l1_1).toList then (coaminglaw05_sameTenant.j0 k ((l0_4.length : Int) != (l1_4.length : Int)) a0_0 l0_1 a0_2 a0_3 l0_4 a1_0 l1_1 a1_2 a1_3 l1_4) else (coaminglaw05_sameTenant.j0 k true a0_0 l0_1 a0_2 a0_3 l0_4 a1_0 l1_1 a1_2 a1_3 l1_4)) else (coaminglaw05_sameTenant.j0 k true a0_0 l0_1 a0_2 a0_3 l0_4 a1_0 l1_1 a1_2 a1_3 l1_4)) else (coaminglaw05_sameTenant.j0 k true a0_0 l0_1 a0_2 a0_3 l0_4 a1_0 l1_1 a1_2 a1_3 l1_4)) else (coaminglaw05_sameTenant.j0 k true a0_0 l0_1 a0_2 a0_3 l0_4 a1_0 l1_1 a1_2 a1_3 l1_4)
set_option maxHeartbeats 8000000 in
set_option maxRecDepth 100000 in
theorem coaminglaw05_sameTenant.calls (k : Nat) (a0_0 : Int) (A0_1 : Option Addr) (c0_1 : Nat) (l0_1 : List Int) (a0_2 : Int) (a0_3 : Int) (A0_4 : Option Addr) (c0_4 : Nat) (l0_4 : List Int) (a1_0 : Int) (A1_1 : Option Addr) (c1_1 : Nat) (l1_1 : List Int) (a1_2 : Int) (a1_3 : Int) (A1_4 : Option Addr) (c1_4 : Nat) (l1_4 : List Int) (r : Bool) (w : World) (hr0_1 : Kd.C (Kd.int .u8) w A0_1 l0_1.length l0_1) (hc0_1 : l0_1.length ≤ c0_1) (hr0_4 : Kd.C (Kd.int .u32) w A0_4 l0_4.length l0_4) (hc0_4 : l0_4.length ≤ c0_4) (hr1_1 : Kd.C (Kd.int .u8) w A1_1 l1_1.length l1_1) (hc1_1 : l1_1.length ≤ c1_1) (hr1_4 : Kd.C (Kd.int .u32) w A1_4 l1_4.length l1_4) (hc1_4 : l1_4.length ≤ c1_4) (h : coaminglaw05_sameTenant.f k a0_0 l0_1 a0_2 a0_3 l0_4 a1_0 l1_1 a1_2 a1_3 l1_4 = some r) :
  Calls Tryd.prog 23 #[.agg #[.int .u32 a0_0, .slice A0_1 l0_1.length c0_1, .int .u64 a0_2, .int .u64 a0_3, .slice A0_4 l0_4.length c0_4], .agg #[.int .u32 a1_0, .slice A1_1 l1_1.length c1_1, .int .u64 a1_2, .int .u64 a1_3, .slice A1_4 l1_4.length c1_4]] w fun e w' => e = .returned (.bool r) ∧ Below w.heap.size w w' := by
 have hu42 := Tryd.underlying42
 have HR0_1 := Aside0.mk hr0_1
 have HC0_1 := Aside0.mk hc0_1
 clear hr0_1 hc0_1
 have HR0_4 := Aside0.mk hr0_4
 have HC0_4 := Aside0.mk hc0_4
 clear hr0_4 hc0_4
 have HR1_1 := Aside0.mk hr1_1
 have HC1_1 := Aside0.mk hc1_1
 clear hr1_1 hc1_1
 have HR1_4 := Aside0.mk hr1_4
 have HC1_4 := Aside0.mk hc1_4
 clear hr1_4 hc1_4
 have HB := Aside0.mk (Below.refl w.heap.size w)
 have H : (if a0_0 = a1_0 then (if a0_2 = a1_2 then (if a0_3 = a1_3 then (if (strOfNums l0_1).toList = (strOfNums l1_1).toList then (coaminglaw05_sameTenant.j0 k ((l0_4.length : Int) != (l1_4.length : Int)) a0_0 l0_1 a0_2 a0_3 l0_4 a1_0 l1_1 a1_2 a1_3 l1_4) else (coaminglaw05_sameTenant.j0 k true a0_0 l0_1 a0_2 a0_3 l0_4 a1_0 l1_1 a1_2 a1_3 l1_4)) else (coaminglaw05_sameTenant.j0 k true a0_0 l0_1 a0_2 a0_3 l0_4 a1_0 l1_1 a1_2 a1_3 l1_4)) else (coaminglaw05_sameTenant.j0 k true a0_0 l0_1 a0_2 a0_3 l0_4 a1_0 l1_1 a1_2 a1_3 l1_4)) else (coaminglaw05_sameTenant.j0 k true a0_0 l0_1 a0_2 a0_3 l0_4 a1_0 l1_1 a1_2 a1_3 l1_4)) = some r := h
 clear h
 have HC3 := Aside0.mk H
 clear H
 go_enter Tryd.func23, Tryd.ntmps23
 go_upto_region 1 with (first | ((with_reducible refine gate_dst (N := 2) rfl ?_); (try (refine gate_guard (by rfl) ?_; dsimp only)); refine box_event ?hg (N := 2) ?hd (cs := #[.int .u32 a0_0, .slice A0_1 l0_1.length c0_1, .int .u64 a0_2, .int .u64 a0_3, .slice A0_4 l0_4.length c0_4]) (t := 42) ?hr ?_; (case hd => rfl); (case hg => rfl); (case hr => first | (go_simp; done) | (go_simp; rfl) | (go_simp; simp only [IntKind.wrap_u32, Int.emod_add_emod, Int.add_emod_emod])); intro gb285 hg w4 hbox hb; have n0_ := Aside0.mk (below_step (by repeat (first | (with_reducible first | exact HB.out | apply below_alloc | apply pw_below_drewN | apply below_drew1) | exact HB.out)) hb); have n1_ := Aside0.mk (hbox); have n2_ := Aside0.mk ((by rw [hg]; exact (below_size (by repeat (first | (with_reducible first | exact HB.out | apply below_alloc | apply pw_below_drewN | apply below_drew1) | exact HB.out))) : w.heap.size ≤ gb285)); have n3_ := Aside0.mk ((by rw [hg]; exact (below_size (by repeat (first | (with_reducible first | exact HB.out | apply below_alloc | apply pw_below_drewN | apply below_drew1) | exact HB.out))) : w.heap.size ≤ gb285)); clear HB; have HB := n0_; have BK285 := n1_; have GW285 := n2_; have GE285 := n3_; clear n0_ n1_ n2_ n3_; clear hb hbox hg) | ((with_reducible refine gate_dst (N := 3) rfl ?_); (try (refine gate_guard (by rfl) ?_; dsimp only)); refine box_event ?hg (N := 3) ?hd (cs := #[.int .u32 a1_0, .slice A1_1 l1_1.length c1_1, .int .u64 a1_2, .int .u64 a1_3, .slice A1_4 l1_4.length c1_4]) (t := 42) ?hr ?_; (case hd => rfl); (case hg => rfl); (case hr => first | (go_simp; done) | (go_simp; rfl) | (go_simp; simp only [IntKind.wrap_u32, Int.emod_add_emod, Int.add_emod_emod])); intro gb286 hg w5 hbox hb; have n0_ := Aside0.mk (blk_below (g := gb285) (o := .cells #[.int .u32 a0_0, .slice A0_1 l0_1.length c0_1, .int .u64 a0_2, .int .u64 a0_3, .slice A0_4 l0_4.length c0_4] 42 (0, 0)) (by (with_reducible repeat (first | refine blk_drewN ?_ _ | refine blk_drew ?_ | refine blk_alloc ?_ _)); exact BK285.out) hb); have n1_ := Aside0.mk (below_step (by repeat (first | (with_reducible first | exact HB.out | apply below_alloc | apply pw_below_drewN | apply below_drew1 | refine below_set ?_ GE285.out) | exact HB.out)) hb); have n2_ := Aside0.mk (hbox); have n3_ := Aside0.mk ((by rw [hg]; exact (below_size (by repeat (first | (with_reducible first | exact HB.out | apply below_alloc | apply pw_below_drewN | apply below_drew1 | refine below_set ?_ GE285.out) | exact HB.out))) : w.heap.size ≤ gb286)); have n4_ := Aside0.mk ((by rw [hg]; exact (below_size (by repeat (first | (with_reducible first | exact HB.out | apply below_alloc | apply pw_below_drewN | apply below_drew1 | refine below_set ?_ GE285.out) | exact HB.out))) : w.heap.size ≤ gb286)); have n5_ := Aside0.mk ((by rw [hg]; exact Nat.ne_of_lt (blk_lt (g := gb285) (o := .cells #[.int .u32 a0_0, .slice A0_1 l0_1.length c0_1, .int .u64 a0_2, .int .u64 a0_3, .slice A0_4 l0_4.length c0_4] 42 (0, 0)) (by (with_reducible repeat (first | refine blk_drewN ?_ _ | refine blk_drew ?_ | refine blk_alloc ?_ _)); exact BK285.out)) : gb285 ≠ gb286)); have n6_ := Aside0.mk ((by rw [hg]; exact Nat.ne_of_gt (blk_lt (g := gb285) (o := .cells #[.int .u32 a0_0, .slice A0_1 l0_1.length c0_1, .int .u64 a0_2, .int .u64 a0_3, .slice A0_4 l0_4.length c0_4] 42 (0, 0)) (by (with_reducible repeat (first | refine blk_drewN ?_ _ | refine blk_drew ?_ | refine blk_alloc ?_ _)); exact BK285.out)) : gb286 ≠ gb285)); clear BK285; clear HB; have BK285 := n0_; have HB := n1_; have BK286 := n2_; have GW286 := n3_; have GE286 := n4_; have NB285_286 := n5_; have NB286_285 := n6_; clear n0_ n1_ n2_ n3_ n4_ n5_ n6_; clear hb hbox hg))
 repeat (go_quiet (first | ((with_reducible refine gate_dst (N := 2) rfl ?_); (try (refine gate_guard (by rfl) ?_; dsimp only)); refine box_event ?hg (N := 2) ?hd (cs := #[.int .u32 a0_0, .slice A0_1 l0_1.length c0_1, .int .u64 a0_2, .int .u64 a0_3, .slice A0_4 l0_4.length c0_4]) (t := 42) ?hr ?_; (case hd => rfl); (case hg => rfl); (case hr => first | (go_simp; done) | (go_simp; rfl) | (go_simp; simp only [IntKind.wrap_u32, Int.emod_add_emod, Int.add_emod_emod])); intro gb285 hg w4 hbox hb; have n0_ := Aside0.mk (below_step (by repeat (first | (with_reducible first | exact HB.out | apply below_alloc | apply pw_below_drewN | apply below_drew1) | exact HB.out)) hb); have n1_ := Aside0.mk (hbox); have n2_ := Aside0.mk ((by rw [hg]; exact (below_size (by repeat (first | (with_reducible first | exact HB.out | apply below_alloc | apply pw_below_drewN | apply below_drew1) | exact HB.out))) : w.heap.size ≤ gb285)); have n3_ := Aside0.mk ((by rw [hg]; exact (below_size (by repeat (first | (with_reducible first | exact HB.out | apply below_alloc | apply pw_below_drewN | apply below_drew1) | exact HB.out))) : w.heap.size ≤ gb285)); clear HB; have HB := n0_; have BK285 := n1_; have GW285 := n2_; have GE285 := n3_; clear n0_ n1_ n2_ n3_; clear hb hbox hg) | ((with_reducible refine gate_dst (N := 3) rfl ?_); (try (refine gate_guard (by rfl) ?_; dsimp only)); refine box_event ?hg (N := 3) ?hd (cs := #[.int .u32 a1_0, .slice A1_1 l1_1.length c1_1, .int .u64 a1_2, .int .u64 a1_3, .slice A1_4 l1_4.length c1_4]) (t := 42) ?hr ?_; (case hd => rfl); (case hg => rfl); (case hr => first | (go_simp; done) | (go_simp; rfl) | (go_simp; simp only [IntKind.wrap_u32, Int.emod_add_emod, Int.add_emod_emod])); intro gb286 hg w5 hbox hb; have n0_ := Aside0.mk (blk_below (g := gb285) (o := .cells #[.int .u32 a0_0, .slice A0_1 l0_1.length c0_1, .int .u64 a0_2, .int .u64 a0_3, .slice A0_4 l0_4.length c0_4] 42 (0, 0)) (by (with_reducible repeat (first | refine blk_drewN ?_ _ | refine blk_drew ?_ | refine blk_alloc ?_ _)); exact BK285.out) hb); have n1_ := Aside0.mk (below_step (by repeat (first | (with_reducible first | exact HB.out | apply below_alloc | apply pw_below_drewN | apply below_drew1 | refine below_set ?_ GE285.out) | exact HB.out)) hb); have n2_ := Aside0.mk (hbox); have n3_ := Aside0.mk ((by rw [hg]; exact (below_size (by repeat (first | (with_reducible first | exact HB.out | apply below_alloc | apply pw_below_drewN | apply below_drew1 | refine below_set ?_ GE285.out) | exact HB.out))) : w.heap.size ≤ gb286)); have n4_ := Aside0.mk ((by rw [hg]; exact (below_size (by repeat (first | (with_reducible first | exact HB.out | apply below_alloc | apply pw_below_drewN | apply below_drew1 | refine below_set ?_ GE285.out) | exact HB.out))) : w.heap.size ≤ gb286)); have n5_ := Aside0.mk ((by rw [hg]; exact Nat.ne_of_lt (blk_lt (g := gb285) (o := .cells #[.int .u32 a0_0, .slice A0_1 l0_1.length c0_1, .int .u64 a0_2, .int .u64 a0_3, .slice A0_4 l0_4.length c0_4] 42 (0, 0)) (by (with_reducible repeat (first | refine blk_drewN ?_ _ | refine blk_drew ?_ | refine blk_alloc ?_ _)); exact BK285.out)) : gb285 ≠ gb286)); have n6_ := Aside0.mk ((by rw [hg]; exact Nat.ne_of_gt (blk_lt (g := gb285) (o := .cells #[.int .u32 a0_0, .slice A0_1 l0_1.length c0_1, .int .u64 a0_2, .int .u64 a0_3, .slice A0_4 l0_4.length c0_4] 42 (0, 0)) (by (with_reducible repeat (first | refine blk_drewN ?_ _ | refine blk_drew ?_ | refine blk_alloc ?_ _)); exact BK285.out)) : gb286 ≠ gb285)); clear BK285; clear HB; have BK285 := n0_; have HB := n1_; have BK286 := n2_; have GW286 := n3_; have GE286 := n4_; have NB285_286 := n5_; have NB286_285 := n6_; clear n0_ n1_ n2_ n3_ n4_ n5_ n6_; clear hb hbox hg)); go_upto_region 1 with (first | ((with_reducible refine gate_dst (N := 2) rfl ?_); (try (refine gate_guard (by rfl) ?_; dsimp only)); refine box_event ?hg (N := 2) ?hd (cs := #[.int .u32 a0_0, .slice A0_1 l0_1.length c0_1, .int .u64 a0_2, .int .u64 a0_3, .slice A0_4 l0_4.length c0_4]) (t := 42) ?hr ?_; (case hd => rfl); (case hg => rfl); (case hr => first | (go_simp; done) | (go_simp; rfl) | (go_simp; simp only [IntKind.wrap_u32, Int.emod_add_emod, Int.add_emod_emod])); intro gb285 hg w4 hbox hb; have n0_ := Aside0.mk (below_step (by repeat (first | (with_reducible first | exact HB.out | apply below_alloc | apply pw_below_drewN | apply below_drew1) | exact HB.out)) hb); have n1_ := Aside0.mk (hbox); have n2_ := Aside0.mk ((by rw [hg]; exact (below_size (by repeat (first | (with_reducible first | exact HB.out | apply below_alloc | apply pw_below_drewN | apply below_drew1) | exact HB.out))) : w.heap.size ≤ gb285)); have n3_ := Aside0.mk ((by rw [hg]; exact (below_size (by repeat (first | (with_reducible first | exact HB.out | apply below_alloc | apply pw_below_drewN | apply below_drew1) | exact HB.out))) : w.heap.size ≤ gb285)); clear HB; have HB := n0_; have BK285 := n1_; have GW285 := n2_; have GE285 := n3_; clear n0_ n1_ n2_ n3_; clear hb hbox hg) | ((with_reducible refine gate_dst (N := 3) rfl ?_); (try (refine gate_guard (by rfl) ?_; dsimp only)); refine box_event ?hg (N := 3) ?hd (cs := #[.int .u32 a1_0, .slice A1_1 l1_1.length c1_1, .int .u64 a1_2, .int .u64 a1_3, .slice A1_4 l1_4.length c1_4]) (t := 42) ?hr ?_; (case hd => rfl); (case hg => rfl); (case hr => first | (go_simp; done) | (go_simp; rfl) | (go_simp; simp only [IntKind.wrap_u32, Int.emod_add_emod, Int.add_emod_emod])); intro gb286 hg w5 hbox hb; have n0_ := Aside0.mk (blk_below (g := gb285) (o := .cells #[.int .u32 a0_0, .slice A0_1 l0_1.length c0_1, .int .u64 a0_2, .int .u64 a0_3, .slice A0_4 l0_4.length c0_4] 42 (0, 0)) (by (with_reducible repeat (first | refine blk_drewN ?_ _ | refine blk_drew ?_ | refine blk_alloc ?_ _)); exact BK285.out) hb); have n1_ := Aside0.mk (below_step (by repeat (first | (with_reducible first | exact HB.out | apply below_alloc | apply pw_below_drewN | apply below_drew1 | refine below_set ?_ GE285.out) | exact HB.out)) hb); have n2_ := Aside0.mk (hbox); have n3_ := Aside0.mk ((by rw [hg]; exact (below_size (by repeat (first | (with_reducible first | exact HB.out | apply below_alloc | apply pw_below_drewN | apply below_drew1 | refine below_set ?_ GE285.out) | exact HB.out))) : w.heap.size ≤ gb286)); have n4_ := Aside0.mk ((by rw [hg]; exact (below_size (by repeat (first | (with_reducible first | exact HB.out | apply below_alloc | apply pw_below_drewN | apply below_drew1 | refine below_set ?_ GE285.out) | exact HB.out))) : w.heap.size ≤ gb286)); have n5_ := Aside0.mk ((by rw [hg]; exact Nat.ne_of_lt (blk_lt (g := gb285) (o := .cells #[.int .u32 a0_0, .slice A0_1 l0_1.length c0_1, .int .u64 a0_2, .int .u64 a0_3, .slice A0_4 l0_4.length c0_4] 42 (0, 0)) (by (with_reducible repeat (first | refine blk_drewN ?_ _ | refine blk_drew ?_ | refine blk_alloc ?_ _)); exact BK285.out)) : gb285 ≠ gb286)); have n6_ := Aside0.mk ((by rw [hg]; exact Nat.ne_of_gt (blk_lt (g := gb285) (o := .cells #[.int .u32 a0_0, .slice A0_1 l0_1.length c0_1, .int .u64 a0_2, .int .u64 a0_3, .slice A0_4 l0_4.length c0_4] 42 (0, 0)) (by (with_reducible repeat (first | refine blk_drewN ?_ _ | refine blk_drew ?_ | refine blk_alloc ?_ _)); exact BK285.out)) : gb286 ≠ gb285)); clear BK285; clear HB; have BK285 := n0_; have HB := n1_; have BK286 := n2_; have GW286 := n3_; have GE286 := n4_; have NB285_286 := n5_; have NB286_285 := n6_; clear n0_ n1_ n2_ n3_ n4_ n5_ n6_; clear hb hbox hg)))
 (try simp only [Act.put, List.setIfInBounds_toArray, List.set_cons_zero, List.set_cons_succ])
 go_cut [42] (fun v42 wc => ∃ (kq : Nat) (x42_2 : Bool), v42 = .bool x42_2 ∧ Aside0 (coaminglaw05_sameTenant.j0 kq x42_2 a0_0 l0_1 a0_2 a0_3 l0_4 a1_0 l1_1 a1_2 a1_3 l1_4 = some r) ∧ Aside0 (kq ≤ k) ∧ Aside0 (wc.heap[gb285]? = some (.cells #[.int .u32 a0_0, (.slice A0_1 l0_1.length c0_1), .int .u64 a0_2, .int .u64 a0_3, (.slice A0_4 l0_4.length c0_4)] 42 (0, 0))) ∧ Aside0 (wc.heap[gb286]? = some (.cells #[.int .u32 a1_0, (.slice A1_1 l1_1.length c1_1), .int .u64 a1_2, .int .u64 a1_3, (.slice A1_4 l1_4.length c1_4)] 42 (0, 0))) ∧ Aside0 (Below w.heap.size w wc))
 case first =>
  have H := HC3.out
  clear HC3
  by_cases c6 : a0_0 = a1_0
  ·rw [if_pos c6] at H
   have c6b0 : (a0_0 == a1_0) = true := beq_iff_eq.mpr c6
   have c6b1 : (a0_0 != a1_0) = false := bne_eq_false_iff_eq.mpr c6
   clear c6
   (first | rw [c6b0] | (simp only [i64_w, i32_w]; rw [c6b0]) | skip)
   by_cases c7 : a0_2 = a1_2
   ·rw [if_pos c7] at H
    have c7b0 : (a0_2 == a1_2) = true := beq_iff_eq.mpr c7
    have c7b1 : (a0_2 != a1_2) = false := bne_eq_false_iff_eq.mpr c7
    clear c7
    by_cases c8 : a0_3 = a1_3
    ·rw [if_pos c8] at H
     have c8b0 : (a0_3 == a1_3) = true := beq_iff_eq.mpr c8
     have c8b1 : (a0_3 != a1_3) = false := bne_eq_false_iff_eq.mpr c8
     clear c8
     by_cases c9 : (strOfNums l0_1).toList = (strOfNums l1_1).toList
     ·rw [if_pos c9] at H
      have c9b0 : ((strOfNums l0_1).toList == (strOfNums l1_1).toList) = true := beq_iff_eq.mpr c9
      have c9b1 : ((strOfNums l0_1).toList != (strOfNums l1_1).toList) = false := bne_eq_false_iff_eq.mpr c9
      clear c9
      have H' := Aside0.mk H
      clear H
      have hnb10 := NB285_286.out
      have hnc10 := NB286_285.out
      have hcz11_0 : w5.cell? ⟨gb285, 0, none⟩ = some (.int .u32 a0_0) := (blk_cell BK285.out 0).trans rfl
      have hcz11_1 : w5.cell? ⟨gb285, 1, none⟩ = some (.slice A0_1 l0_1.length c0_1) := (blk_cell BK285.out 1).trans rfl
      have hcz11_2 : w5.cell? ⟨gb285, 2, none⟩ = some (.int .u64 a0_2) := (blk_cell BK285.out 2).trans rfl
      have hcz11_3 : w5.cell? ⟨gb285, 3, none⟩ = some (.int .u64 a0_3) := (blk_cell BK285.out 3).trans rfl
      have hcz11_4 : w5.cell? ⟨gb285, 4, none⟩ = some (.slice A0_4 l0_4.length c0_4) := (blk_cell BK285.out 4).trans rfl
      have hfz11_0 := blk_frozen BK285.out 0
      have hfz11_1 := blk_frozen BK285.out 1
      have hfz11_2 := blk_frozen BK285.out 2
      have hfz11_3 := blk_frozen BK285.out 3
      have hfz11_4 := blk_frozen BK285.out 4
      have hcz12_0 : w5.cell? ⟨gb286, 0, none⟩ = some (.int .u32 a1_0) := (blk_cell BK286.out 0).trans rfl
      have hcz12_1 : w5.cell? ⟨gb286, 1, none⟩ = some (.slice A1_1 l1_1.length c1_1) := (blk_cell BK286.out 1).trans rfl
      have hcz12_2 : w5.cell? ⟨gb286, 2, none⟩ = some (.int .u64 a1_2) := (blk_cell BK286.out 2).trans rfl
      have hcz12_3 : w5.cell? ⟨gb286, 3, none⟩ = some (.int .u64 a1_3) := (blk_cell BK286.out 3).trans rfl
      have hcz12_4 : w5.cell? ⟨gb286, 4, none⟩ = some (.slice A1_4 l1_4.length c1_4) := (blk_cell BK286.out 4).trans rfl
      have hfz12_0 := blk_frozen BK286.out 0
      have hfz12_1 := blk_frozen BK286.out 1
      have hfz12_2 := blk_frozen BK286.out 2
      have hfz12_3 := blk_frozen BK286.out 3
      have hfz12_4 := blk_frozen BK286.out 4
      have hcv13 := Kd.C_string (P := Tryd.prog) (A := A0_1) (c := c0_1) Tryd.underlying22 Tryd.underlying5 Tryd.underlying9 (Kd.C_below HR0_1.out HB.out)
      have hcv14 := Kd.C_string (P := Tryd.prog) (A := A1_1) (c := c1_1) Tryd.underlying22 Tryd.underlying5 Tryd.underlying9 (Kd.C_below HR1_1.out HB.out)
      go_wp2
      repeat (go_quiet (fail); try go_wp2)
      go_meet
      case rel => exact ⟨_, (((l0_4.length : Int) != (l1_4.length : Int))), (by first | rfl | (simp; done) | (simp [*]; done)), H', ⟨by first | omega | exact Nat.le_refl _⟩, ⟨by (with_reducible repeat (first | refine blk_drewN ?_ _ | refine blk_drew ?_ | refine blk_alloc ?_ _)); exact BK285.out⟩, ⟨by (with_reducible repeat (first | refine blk_drewN ?_ _ | refine blk_drew ?_ | refine blk_alloc ?_ _)); exact BK286.out⟩, ⟨by repeat (first | (with_reducible first | exact HB.out | apply below_alloc | apply pw_below_drewN | apply below_drew1 | refine below_set ?_ GE285.out | refine below_set ?_ GE286.out) | exact HB.out)⟩⟩
     ·rw [if_neg c9] at H
      have c9b0 : ((strOfNums l0_1).toList == (strOfNums l1_1).toList) = false := beq_eq_false_iff_ne.mpr c9
      have c9b1 : ((strOfNums l0_1).toList != (strOfNums l1_1).toList) = true := bne_iff_ne.mpr c9
      have H' := Aside0.mk H
      clear H
      have hnb15 := NB285_286.out
      have hnc15 := NB286_285.out
      have hcz16_0 : w5.cell? ⟨gb285, 0, none⟩ = some (.int .u32 a0_0) := (blk_cell BK285.out 0).trans rfl
      have hcz16_1 : w5.cell? ⟨gb285, 1, none⟩ = some (.slice A0_1 l0_1.length c0_1) := (blk_cell BK285.out 1).trans rfl
      have hcz16_2 : w5.cell? ⟨gb285, 2, none⟩ = some (.int .u64 a0_2) := (blk_cell BK285.out 2).trans rfl
      have hcz16_3 : w5.cell? ⟨gb285, 3, none⟩ = some (.int .u64 a0_3) := (blk_cell BK285.out 3).trans rfl
      have hcz16_4 : w5.cell? ⟨gb285, 4, none⟩ = some (.slice A0_4 l0_4.length c0_4) := (blk_cell BK285.out 4).trans rfl
      have hfz16_0 := blk_frozen BK285.out 0
      have hfz16_1 := blk_frozen BK285.out 1
      have hfz16_2 := blk_frozen BK285.out 2
      have hfz16_3 := blk_frozen BK285.out 3
      have hfz16_4 := blk_frozen BK285.out 4
      have hcz17_0 : w5.cell? ⟨gb286, 0, none⟩ = some (.int .u32 a1_0) := (blk_cell BK286.out 0).trans rfl
      have hcz17_1 : w5.cell? ⟨gb286, 1, none⟩ = some (.slice A1_1 l1_1.length c1_1) := (blk_cell BK286.out 1).trans rfl
      have hcz17_2 : w5.cell? ⟨gb286, 2, none⟩ = some (.int .u64 a1_2) := (blk_cell BK286.out 2).trans rfl
      have hcz17_3 : w5.cell? ⟨gb286, 3, none⟩ = some (.int .u64 a1_3) := (blk_cell BK286.out 3).trans rfl
      have hcz17_4 : w5.cell? ⟨gb286, 4, none⟩ = some (.slice A1_4 l1_4.length c1_4) := (blk_cell BK286.out 4).trans rfl
      have hfz17_0 := blk_frozen BK286.out 0
      have hfz17_1 := blk_frozen BK286.out 1
      have hfz17_2 := blk_frozen BK286.out 2
      have hfz17_3 := blk_frozen BK286.out 3
      have hfz17_4 := blk_frozen BK286.out 4
      have hcv18 := Kd.C_string (P := Tryd.prog) (A := A0_1) (c := c0_1) Tryd.underlying22 Tryd.underlying5 Tryd.underlying9 (Kd.C_below HR0_1.out HB.out)
      have hcv19 := Kd.C_string (P := Tryd.prog) (A := A1_1) (c := c1_1) Tryd.underlying22 Tryd.underlying5 Tryd.underlying9 (Kd.C_below HR1_1.out HB.out)
      go_wp2
      repeat (go_quiet (fail); try go_wp2)
      go_meet
      case rel => exact ⟨_, (true), (by first | rfl | (simp; done) | (simp [*]; done)), H', ⟨by first | omega | exact Nat.le_refl _⟩, ⟨by (with_reducible repeat (first | refine blk_drewN ?_ _ | refine blk_drew ?_ | refine blk_alloc ?_ _)); exact BK285.out⟩, ⟨by (with_reducible repeat (first | refine blk_drewN ?_ _ | refine blk_drew ?_ | refine blk_alloc ?_ _)); exact BK286.out⟩, ⟨by repeat (first | (with_reducible first | exact HB.out | apply below_alloc | apply pw_below_drewN | apply below_drew1 | refine below_set ?_ GE285.out | refine below_set ?_ GE286.out) | exact HB.out)⟩⟩
    ·rw [if_neg c8] at H
     have c8b0 : (a0_3 == a1_3) = false := beq_eq_false_iff_ne.mpr c8
     have c8b1 : (a0_3 != a1_3) = true := bne_iff_ne.mpr c8
     have H' := Aside0.mk H
     clear H
     have hnb20 := NB285_286.out
     have hnc20 := NB286_285.out
     have hcz21_0 : w5.cell? ⟨gb285, 0, none⟩ = some (.int .u32 a0_0) := (blk_cell BK285.out 0).trans rfl
     have hcz21_1 : w5.cell? ⟨gb285, 1, none⟩ = some (.slice A0_1 l0_1.length c0_1) := (blk_cell BK285.out 1).trans rfl
     have hcz21_2 : w5.cell? ⟨gb285, 2, none⟩ = some (.int .u64 a0_2) := (blk_cell BK285.out 2).trans rfl
     have hcz21_3 : w5.cell? ⟨gb285, 3, none⟩ = some (.int .u64 a0_3) := (blk_cell BK285.out 3).trans rfl
     have hcz21_4 : w5.cell? ⟨gb285, 4, none⟩ = some (.slice A0_4 l0_4.length c0_4) := (blk_cell BK285.out 4).trans rfl
     have hfz21_0 := blk_frozen BK285.out 0
     have hfz21_1 := blk_frozen BK285.out 1
     have hfz21_2 := blk_frozen BK285.out 2
     have hfz21_3 := blk_frozen BK285.out 3
     have hfz21_4 := blk_frozen BK285.out 4
     have hcz22_0 : w5.cell? ⟨gb286, 0, none⟩ = some (.int .u32 a1_0) := (blk_cell BK286.out 0).trans rfl
     have hcz22_1 : w5.cell? ⟨gb286, 1, none⟩ = some (.slice A1_1 l1_1.length c1_1) := (blk_cell BK286.out 1).trans rfl
     have hcz22_2 : w5.cell? ⟨gb286, 2, none⟩ = some (.int .u64 a1_2) := (blk_cell BK286.out 2).trans rfl
     have hcz22_3 : w5.cell? ⟨gb286, 3, none⟩ = some (.int .u64 a1_3) := (blk_cell BK286.out 3).trans rfl
     have hcz22_4 : w5.cell? ⟨gb286, 4, none⟩ = some (.slice A1_4 l1_4.length c1_4) := (blk_cell BK286.out 4).trans rfl
     have hfz22_0 := blk_frozen BK286.out 0
     have hfz22_1 := blk_frozen BK286.out 1
     have hfz22_2 := blk_frozen BK286.out 2
     have hfz22_3 := blk_frozen BK286.out 3
     have hfz22_4 := blk_frozen BK286.out 4
     go_wp2
     repeat (go_quiet (fail); try go_wp2)
     go_meet
     case rel => exact ⟨_, (true), (by first | rfl | (simp; done) | (simp [*]; done)), H', ⟨by first | omega | exact Nat.le_refl _⟩, ⟨by (with_reducible repeat (first | refine blk_drewN ?_ _ | refine blk_drew ?_ | refine blk_alloc ?_ _)); exact BK285.out⟩, ⟨by (with_reducible repeat (first | refine blk_drewN ?_ _ | refine blk_drew ?_ | refine blk_alloc ?_ _)); exact BK286.out⟩, ⟨by repeat (first | (with_reducible first | exact HB.out | apply below_alloc | apply pw_below_drewN | apply below_drew1 | refine below_set ?_ GE285.out | refine below_set ?_ GE286.out) | exact HB.out)⟩⟩
   ·rw [if_neg c7] at H
    have c7b0 : (a0_2 == a1_2) = false := beq_eq_false_iff_ne.mpr c7
    have c7b1 : (a0_2 != a1_2) = true := bne_iff_ne.mpr c7
    have H' := Aside0.mk H
    clear H
    have hnb23 := NB285_286.out
    have hnc23 := NB286_285.out
    have hcz24_0 : w5.cell? ⟨gb285, 0, none⟩ = some (.int .u32 a0_0) := (blk_cell BK285.out 0).trans rfl
    have hcz24_1 : w5.cell? ⟨gb285, 1, none⟩ = some (.slice A0_1 l0_1.length c0_1) := (blk_cell BK285.out 1).trans rfl
    have hcz24_2 : w5.cell? ⟨gb285, 2, none⟩ = some (.int .u64 a0_2) := (blk_cell BK285.out 2).trans rfl
    have hcz24_3 : w5.cell? ⟨gb285, 3, none⟩ = some (.int .u64 a0_3) := (blk_cell BK285.out 3).trans rfl
    have hcz24_4 : w5.cell? ⟨gb285, 4, none⟩ = some (.slice A0_4 l0_4.length c0_4) := (blk_cell BK285.out 4).trans rfl
    have hfz24_0 := blk_frozen BK285.out 0
    have hfz24_1 := blk_frozen BK285.out 1
    have hfz24_2 := blk_frozen BK285.out 2
    have hfz24_3 := blk_frozen BK285.out 3
    have hfz24_4 := blk_frozen BK285.out 4
    have hcz25_0 : w5.cell? ⟨gb286, 0, none⟩ = some (.int .u32 a1_0) := (blk_cell BK286.out 0).trans rfl
    have hcz25_1 : w5.cell? ⟨gb286, 1, none⟩ = some (.slice A1_1 l1_1.length c1_1) := (blk_cell BK286.out 1).trans rfl
    have hcz25_2 : w5.cell? ⟨gb286, 2, none⟩ = some (.int .u64 a1_2) := (blk_cell BK286.out 2).trans rfl
    have hcz25_3 : w5.cell? ⟨gb286, 3, none⟩ = some (.int .u64 a1_3) := (blk_cell BK286.out 3).trans rfl
    have hcz25_4 : w5.cell? ⟨gb286, 4, none⟩ = some (.slice A1_4 l1_4.length c1_4) := (blk_cell BK286.out 4).trans rfl
    have hfz25_0 := blk_frozen BK286.out 0
    have hfz25_1 := blk_frozen BK286.out 1
    have hfz25_2 := blk_frozen BK286.out 2
    have hfz25_3 := blk_frozen BK286.out 3
    have hfz25_4 := blk_frozen BK286.out 4
    go_wp2
    repeat (go_quiet (fail); try go_wp2)
    go_meet
    case rel => exact ⟨_, (true), (by first | rfl | (simp; done) | (simp [*]; done)), H', ⟨by first | omega | exact Nat.le_refl _⟩, ⟨by (with_reducible repeat (first | refine blk_drewN ?_ _ | refine blk_drew ?_ | refine blk_alloc ?_ _)); exact BK285.out⟩, ⟨by (with_reducible repeat (first | refine blk_drewN ?_ _ | refine blk_drew ?_ | refine blk_alloc ?_ _)); exact BK286.out⟩, ⟨by repeat (first | (with_reducible first | exact HB.out | apply below_alloc | apply pw_below_drewN | apply below_drew1 | refine below_set ?_ GE285.out | refine below_set ?_ GE286.out) | exact HB.out)⟩⟩
  ·rw [if_neg c6] at H
   have c6b0 : (a0_0 == a1_0) = false := beq_eq_false_iff_ne.mpr c6
   have c6b1 : (a0_0 != a1_0) = true := bne_iff_ne.mpr c6
   (first | rw [c6b0] | (simp only [i64_w, i32_w]; rw [c6b0]) | skip)
   have H' := Aside0.mk H
   clear H
   have hnb26 := NB285_286.out
   have hnc26 := NB286_285.out
   have hcz27_0 : w5.cell? ⟨gb285, 0, none⟩ = some (.int .u32 a0_0) := (blk_cell BK285.out 0).trans rfl
   have hcz27_1 : w5.cell? ⟨gb285, 1, none⟩ = some (.slice A0_1 l0_1.length c0_1) := (blk_cell BK285.out 1).trans rfl
   have hcz27_2 : w5.cell? ⟨gb285, 2, none⟩ = some (.int .u64 a0_2) := (blk_cell BK285.out 2).trans rfl
   have hcz27_3 : w5.cell? ⟨gb285, 3, none⟩ = some (.int .u64 a0_3) := (blk_cell BK285.out 3).trans rfl
   have hcz27_4 : w5.cell? ⟨gb285, 4, none⟩ = some (.slice A0_4 l0_4.length c0_4) := (blk_cell BK285.out 4).trans rfl
   have hfz27_0 := blk_frozen BK285.out 0
   have hfz27_1 := blk_frozen BK285.out 1
   have hfz27_2 := blk_frozen BK285.out 2
   have hfz27_3 := blk_frozen BK285.out 3
   have hfz27_4 := blk_frozen BK285.out 4
   have hcz28_0 : w5.cell? ⟨gb286, 0, none⟩ = some (.int .u32 a1_0) := (blk_cell BK286.out 0).trans rfl
   have hcz28_1 : w5.cell? ⟨gb286, 1, none⟩ = some (.slice A1_1 l1_1.length c1_1) := (blk_cell BK286.out 1).trans rfl
   have hcz28_2 : w5.cell? ⟨gb286, 2, none⟩ = some (.int .u64 a1_2) := (blk_cell BK286.out 2).trans rfl
   have hcz28_3 : w5.cell? ⟨gb286, 3, none⟩ = some (.int .u64 a1_3) := (blk_cell BK286.out 3).trans rfl
   have hcz28_4 : w5.cell? ⟨gb286, 4, none⟩ = some (.slice A1_4 l1_4.length c1_4) := (blk_cell BK286.out 4).trans rfl
   have hfz28_0 := blk_frozen BK286.out 0
   have hfz28_1 := blk_frozen BK286.out 1
   have hfz28_2 := blk_frozen BK286.out 2
   have hfz28_3 := blk_frozen BK286.out 3
   have hfz28_4 := blk_frozen BK286.out 4
   go_wp2
   repeat (go_quiet (fail); try go_wp2)
   go_meet
   case rel => exact ⟨_, (true), (by first | rfl | (simp; done) | (simp [*]; done)), H', ⟨by first | omega | exact Nat.le_refl _⟩, ⟨by (with_reducible repeat (first | refine blk_drewN ?_ _ | refine blk_drew ?_ | refine blk_alloc ?_ _)); exact BK285.out⟩, ⟨by (with_reducible repeat (first | refine blk_drewN ?_ _ | refine blk_drew ?_ | refine blk_alloc ?_ _)); exact BK286.out⟩, ⟨by repeat (first | (with_reducible first | exact HB.out | apply below_alloc | apply pw_below_drewN | apply below_drew1 | refine below_set ?_ GE285.out | refine below_set ?_ GE286.out) | exact HB.out)⟩⟩
 case rest =>
  clear HC3
  try clear c1
  try clear hcv1
  try clear c2
  try clear p2
  try clear c6
  try clear c6b0
  try clear c6b1
  try clear c7
  try clear c7b0
  try clear c7b1
  try clear c8
  try clear c8b0
  try clear c8b1
  try clear c9
  try clear c9b0
  try clear c9b1
  try clear c10
  try clear hcv13
  try clear hcv14
  try clear c15
  try clear hcv18
  try clear hcv19
  try clear c20
  try clear c23
  try clear c26
  try clear hcz11_0
  try clear hcz11_1
  try clear hcz11_2
  try clear hcz11_3
  try clear hcz11_4
  try clear hcz12_0
  try clear hcz12_1
  try clear hcz12_2
  try clear hcz12_3
  try clear hcz12_4
  try clear hcz16_0
  try clear hcz16_1
  try clear hcz16_2
  try clear hcz16_3
  try clear hcz16_4
  try clear hcz17_0
  try clear hcz17_1
  try clear hcz17_2
  try clear hcz17_3
  try clear hcz17_4
  try clear hcz21_0
  try clear hcz21_1
  try clear hcz21_2
  try clear hcz21_3
  try clear hcz21_4
  try clear hcz22_0
  try clear hcz22_1
  try clear hcz22_2
  try clear hcz22_3
  try clear hcz22_4
  try clear hcz24_0
  try clear hcz24_1
  try clear hcz24_2
  try clear hcz24_3
  try clear hcz24_4
  try clear hcz25_0
  try clear hcz25_1
  try clear hcz25_2
  try clear hcz25_3
  try clear hcz25_4
  try clear hcz27_0
  try clear hcz27_1
  try clear hcz27_2
  try clear hcz27_3
  try clear hcz27_4
  try clear hcz28_0
  try clear hcz28_1
  try clear hcz28_2
  try clear hcz28_3
  try clear hcz28_4
  try clear hfz11_0
  try clear hfz11_1
  try clear hfz11_2
  try clear hfz11_3
  try clear hfz11_4
  try clear hfz12_0
  try clear hfz12_1
  try clear hfz12_2
  try clear hfz12_3
  try clear hfz12_4
  try clear hfz16_0
  try clear hfz16_1
  try clear hfz16_2
  try clear hfz16_3
  try clear hfz16_4
  try clear hfz17_0
  try clear hfz17_1
  try clear hfz17_2
  try clear hfz17_3
  try clear hfz17_4
  try clear hfz21_0
  try clear hfz21_1
  try clear hfz21_2
  try clear hfz21_3
  try clear hfz21_4
  try clear hfz22_0
  try clear hfz22_1
  try clear hfz22_2
  try clear hfz22_3
  try clear hfz22_4
  try clear hfz24_0
  try clear hfz24_1
  try clear hfz24_2
  try clear hfz24_3
  try clear hfz24_4
  try clear hfz25_0
  try clear hfz25_1
  try clear hfz25_2
  try clear hfz25_3
  try clear hfz25_4
  try clear hfz27_0
  try clear hfz27_1
  try clear hfz27_2
  try clear hfz27_3
  try clear hfz27_4
  try clear hfz28_0
  try clear hfz28_1
  try clear hfz28_2
  try clear hfz28_3
  try clear hfz28_4
  obtain ⟨kq, x42_2, rfl, HA, HJ2, BK285, BK286, HB⟩ := hcut
  cases kq with
  | zero => exact absurd HA.out (by simp [coaminglaw05_sameTenant.j0])
  | succ kj2 =>
   have H := HA.out
   clear HA
   simp only [coaminglaw05_sameTenant.j0] at H
   by_cases c29 : x42_2 = true
   ·subst c29
    have H1 : (some false) = some r := by rw [if_pos rfl] at H; exact H
    clear H
    have H := H1
    clear H1
    obtain rfl := Option.some.inj H
    go_wp2
    repeat (go_quiet (fail); try go_wp2)
    go_ret
    exact ⟨by first | rfl | (simp [errW_none, errW_some] <;> rfl) | (simp [*, errW_none, errW_some] <;> rfl), by repeat (first | (with_reducible first | exact HB.out | apply below_alloc | apply pw_below_drewN | apply below_drew1 | refine below_set ?_ GE285.out | refine below_set ?_ GE286.out) | exact HB.out)⟩
   ·replace c29 := Bool.eq_false_iff.mpr c29
    subst c29
    have H1 : (coaminglaw05_sameTenant.l0 kj2 0 a0_0 l0_1 a0_2 a0_3 l0_4 a1_0 l1_1 a1_2 a1_3 l1_4) = some r := by rw [if_neg (show ¬ (false = true) by decide)] at H; exact H
    clear H
    have H := H1
    clear H1
    have H' := Aside0.mk H
    clear H
    go_wp2
    repeat (go_quiet (fail); try go_wp2)
    go_loopg [5] kj2 (fun kq v5 w' => ∃ (x5_2 : Int), v5 = .int .i64 x5_2 ∧ Aside0 (coaminglaw05_sameTenant.l0 kq x5_2 a0_0 l0_1 a0_2 a0_3 l0_4 a1_0 l1_1 a1_2 a1_3 l1_4 = some r) ∧ Aside0 (kq ≤ kj2) ∧ Aside0 (w'.heap[gb285]? = some (.cells #[.int .u32 a0_0, (.slice A0_1 l0_1.length c0_1), .int .u64 a0_2, .int .u64 a0_3, (.slice A0_4 l0_4.length c0_4)] 42 (0, 0))) ∧ Aside0 (w'.heap[gb286]? = some (.cells #[.int .u32 a1_0, (.slice A1_1 l1_1.length c1_1), .int .u64 a1_2, .int .u64 a1_3, (.slice A1_4 l1_4.length c1_4)] 42 (0, 0))) ∧ Aside0 (Below w.heap.size w w'))
    case atStart => exact ⟨(0), (by first | rfl | (simp; done) | (simp [*]; done)), H', ⟨Nat.le_refl _⟩, ⟨by (with_reducible repeat (first | refine blk_drewN ?_ _ | refine blk_drew ?_ | refine blk_alloc ?_ _)); exact BK285.out⟩, ⟨by (with_reducible repeat (first | refine blk_drewN ?_ _ | refine blk_drew ?_ | refine blk_alloc ?_ _)); exact BK286.out⟩, ⟨by repeat (first | (with_reducible first | exact HB.out | apply below_alloc | apply pw_below_drewN | apply below_drew1 | refine below_set ?_ GE285.out | refine below_set ?_ GE286.out) | exact HB.out)⟩⟩
    case round =>
     clear H'
     try clear c1
     try clear hcv1
     try clear c2
     try clear p2
     try clear c6
     try clear c6b0
     try clear c6b1
     try clear c7
     try clear c7b0
     try clear c7b1
     try clear c8
     try clear c8b0
     try clear c8b1
     try clear c9
     try clear c9b0
     try clear c9b1
     try clear c10
     try clear hcv13
     try clear hcv14
     try clear c15
     try clear hcv18
     try clear hcv19
     try clear c20
     try clear c23
     try clear c26
     try clear c29
     try clear hcz11_0
     try clear hcz11_1
     try clear hcz11_2
     try clear hcz11_3
     try clear hcz11_4
     try clear hcz12_0
     try clear hcz12_1
     try clear hcz12_2
     try clear hcz12_3
     try clear hcz12_4
     try clear hcz16_0
     try clear hcz16_1
     try clear hcz16_2
     try clear hcz16_3
     try clear hcz16_4
     try clear hcz17_0
     try clear hcz17_1
     try clear hcz17_2
     try clear hcz17_3
     try clear hcz17_4
     try clear hcz21_0
     try clear hcz21_1
     try clear hcz21_2
     try clear hcz21_3
     try clear hcz21_4
     try clear hcz22_0
     try clear hcz22_1
     try clear hcz22_2
     try clear hcz22_3
     try clear hcz22_4
     try clear hcz24_0
     try clear hcz24_1
     try clear hcz24_2
     try clear hcz24_3
     try clear hcz24_4
     try clear hcz25_0
     try clear hcz25_1
     try clear hcz25_2
     try clear hcz25_3
     try clear hcz25_4
     try clear hcz27_0
     try clear hcz27_1
     try clear hcz27_2
     try clear hcz27_3
     try clear hcz27_4
     try clear hcz28_0
     try clear hcz28_1
     try clear hcz28_2
     try clear hcz28_3
     try clear hcz28_4
     try clear hfz11_0
     try clear hfz11_1
     try clear hfz11_2
     try clear hfz11_3
     try clear hfz11_4
     try clear hfz12_0
     try clear hfz12_1
     try clear hfz12_2
     try clear hfz12_3
     try clear hfz12_4
     try clear hfz16_0
     try clear hfz16_1
     try clear hfz16_2
     try clear hfz16_3
     try clear hfz16_4
     try clear hfz17_0
     try clear hfz17_1
     try clear hfz17_2
     try clear hfz17_3
     try clear hfz17_4
     try clear hfz21_0
     try clear hfz21_1
     try clear hfz21_2
     try clear hfz21_3
     try clear hfz21_4
     try clear hfz22_0
     try clear hfz22_1
     try clear hfz22_2
     try clear hfz22_3
     try clear hfz22_4
     try clear hfz24_0
     try clear hfz24_1
     try clear hfz24_2
     try clear hfz24_3
     try clear hfz24_4
     try clear hfz25_0
     try clear hfz25_1
     try clear hfz25_2
     try clear hfz25_3
     try clear hfz25_4
     try clear hfz27_0
     try clear hfz27_1
     try clear hfz27_2
     try clear hfz27_3
     try clear hfz27_4
     try clear hfz28_0
     try clear hfz28_1
     try clear hfz28_2
     try clear hfz28_3
     try clear hfz28_4
     try clear p2
     obtain ⟨x5_2, rfl, HA, HK2, BK285, BK286, HB⟩ := hrel
     cases gk with
     | zero => exact absurd HA.out (by simp [coaminglaw05_sameTenant.l0])
     | succ k2 =>
      have H := HA.out
      clear HA
      simp only [coaminglaw05_sameTenant.l0] at H
      by_cases c30 : x5_2 < (l0_4.length : Int)
      ·rw [if_pos c30] at H
       have c30b0 : decide (x5_2 < (l0_4.length : Int)) = true := decide_eq_true c30
       clear c30
       by_cases c31 : 0 ≤ x5_2
       ·rw [if_pos c31] at H
        have c31b0 : decide (0 ≤ x5_2) = true := decide_eq_true c31
        clear c31
        by_cases c32 : x5_2 < (l1_4.length : Int)
        ·rw [if_pos c32] at H
         have c32b0 : decide (x5_2 < (l1_4.length : Int)) = true := decide_eq_true c32
         clear c32
         by_cases c33 : (rd l0_4 x5_2) = (rd l1_4 x5_2)
         ·rw [if_pos c33] at H
          have c33b0 : ((rd l0_4 x5_2) == (rd l1_4 x5_2)) = true := beq_iff_eq.mpr c33
          have c33b1 : ((rd l0_4 x5_2) != (rd l1_4 x5_2)) = false := bne_eq_false_iff_eq.mpr c33
          clear c33
          have H' := Aside0.mk H
          clear H
          have hnb34 := NB285_286.out
          have hnc34 := NB286_285.out
          have hcz35_0 : wr.cell? ⟨gb285, 0, none⟩ = some (.int .u32 a0_0) := (blk_cell BK285.out 0).trans rfl
          have hcz35_1 : wr.cell? ⟨gb285, 1, none⟩ = some (.slice A0_1 l0_1.length c0_1) := (blk_cell BK285.out 1).trans rfl
          have hcz35_2 : wr.cell? ⟨gb285, 2, none⟩ = some (.int .u64 a0_2) := (blk_cell BK285.out 2).trans rfl
          have hcz35_3 : wr.cell? ⟨gb285, 3, none⟩ = some (.int .u64 a0_3) := (blk_cell BK285.out 3).trans rfl
          have hcz35_4 : wr.cell? ⟨gb285, 4, none⟩ = some (.slice A0_4 l0_4.length c0_4) := (blk_cell BK285.out 4).trans rfl
          have hfz35_0 := blk_frozen BK285.out 0
          have hfz35_1 := blk_frozen BK285.out 1
          have hfz35_2 := blk_frozen BK285.out 2
          have hfz35_3 := blk_frozen BK285.out 3
          have hfz35_4 := blk_frozen BK285.out 4
          have p287 : 0 ≤ (x5_2 : Int) := of_decide_eq_true (by first | (with_reducible assumption) | assumption)
          have q287 : x5_2 < (l0_4.length : Int) := of_decide_eq_true (by first | (with_reducible assumption) | assumption)
          obtain ⟨ad287, e287, hx287_0⟩ := Kd.at_int HR0_4.out x5_2 p287 q287
          cases e287
          replace hx287_0 := (HB.out.cell (World.block_lt_of_cell? w _ hx287_0)).trans hx287_0
          replace p287 := eq_true p287
          replace q287 := eq_true q287
          have hcz36_0 : wr.cell? ⟨gb286, 0, none⟩ = some (.int .u32 a1_0) := (blk_cell BK286.out 0).trans rfl
          have hcz36_1 : wr.cell? ⟨gb286, 1, none⟩ = some (.slice A1_1 l1_1.length c1_1) := (blk_cell BK286.out 1).trans rfl
          have hcz36_2 : wr.cell? ⟨gb286, 2, none⟩ = some (.int .u64 a1_2) := (blk_cell BK286.out 2).trans rfl
          have hcz36_3 : wr.cell? ⟨gb286, 3, none⟩ = some (.int .u64 a1_3) := (blk_cell BK286.out 3).trans rfl
          have hcz36_4 : wr.cell? ⟨gb286, 4, none⟩ = some (.slice A1_4 l1_4.length c1_4) := (blk_cell BK286.out 4).trans rfl
          have hfz36_0 := blk_frozen BK286.out 0
          have hfz36_1 := blk_frozen BK286.out 1
          have hfz36_2 := blk_frozen BK286.out 2
          have hfz36_3 := blk_frozen BK286.out 3
          have hfz36_4 := blk_frozen BK286.out 4
          have p288 : 0 ≤ (x5_2 : Int) := of_decide_eq_true (by first | (with_reducible assumption) | assumption)
          have q288 : x5_2 < (l1_4.length : Int) := of_decide_eq_true (by first | (with_reducible assumption) | assumption)
          obtain ⟨ad288, e288, hx288_0⟩ := Kd.at_int HR1_4.out x5_2 p288 q288
          cases e288
          replace hx288_0 := (HB.out.cell (World.block_lt_of_cell? w _ hx288_0)).trans hx288_0
          replace p288 := eq_true p288
          replace q288 := eq_true q288
          go_wp2
          repeat (go_quiet (fail); try go_wp2)
          go_roundg k2
          case measure => have := HJ2.out; have := HK2.out; omega
          case rel => exact ⟨(wrap64 (x5_2 + 1)), (by first | rfl | (simp; done) | (simp [*]; done)), H', ⟨by have := HJ2.out; have := HK2.out; omega⟩, ⟨by (with_reducible repeat (first | refine blk_drewN ?_ _ | refine blk_drew ?_ | refine blk_alloc ?_ _)); exact BK285.out⟩, ⟨by (with_reducible repeat (first | refine blk_drewN ?_ _ | refine blk_drew ?_ | refine blk_alloc ?_ _)); exact BK286.out⟩, ⟨by repeat (first | (with_reducible first | exact HB.out | apply below_alloc | apply pw_below_drewN | apply below_drew1 | refine below_set ?_ GE285.out | refine below_set ?_ GE286.out) | exact HB.out)⟩⟩
         ·rw [if_neg c33] at H
          have c33b0 : ((rd l0_4 x5_2) == (rd l1_4 x5_2)) = false := beq_eq_false_iff_ne.mpr c33
          have c33b1 : ((rd l0_4 x5_2) != (rd l1_4 x5_2)) = true := bne_iff_ne.mpr c33
          obtain rfl := Option.some.inj H
          have hnb37 := NB285_286.out
          have hnc37 := NB286_285.out
          have hcz38_0 : wr.cell? ⟨gb285, 0, none⟩ = some (.int .u32 a0_0) := (blk_cell BK285.out 0).trans rfl
          have hcz38_1 : wr.cell? ⟨gb285, 1, none⟩ = some (.slice A0_1 l0_1.length c0_1) := (blk_cell BK285.out 1).trans rfl
          have hcz38_2 : wr.cell? ⟨gb285, 2, none⟩ = some (.int .u64 a0_2) := (blk_cell BK285.out 2).trans rfl
          have hcz38_3 : wr.cell? ⟨gb285, 3, none⟩ = some (.int .u64 a0_3) := (blk_cell BK285.out 3).trans rfl
          have hcz38_4 : wr.cell? ⟨gb285, 4, none⟩ = some (.slice A0_4 l0_4.length c0_4) := (blk_cell BK285.out 4).trans rfl
          have hfz38_0 := blk_frozen BK285.out 0
          have hfz38_1 := blk_frozen BK285.out 1
          have hfz38_2 := blk_frozen BK285.out 2
          have hfz38_3 := blk_frozen BK285.out 3
          have hfz38_4 := blk_frozen BK285.out 4
          have p287 : 0 ≤ (x5_2 : Int) := of_decide_eq_true (by first | (with_reducible assumption) | assumption)
          have q287 : x5_2 < (l0_4.length : Int) := of_decide_eq_true (by first | (with_reducible assumption) | assumption)
          obtain ⟨ad287, e287, hx287_0⟩ := Kd.at_int HR0_4.out x5_2 p287 q287
          cases e287
          replace hx287_0 := (HB.out.cell (World.block_lt_of_cell? w _ hx287_0)).trans hx287_0
          replace p287 := eq_true p287
          replace q287 := eq_true q287
          have hcz39_0 : wr.cell? ⟨gb286, 0, none⟩ = some (.int .u32 a1_0) := (blk_cell BK286.out 0).trans rfl
          have hcz39_1 : wr.cell? ⟨gb286, 1, none⟩ = some (.slice A1_1 l1_1.length c1_1) := (blk_cell BK286.out 1).trans rfl
          have hcz39_2 : wr.cell? ⟨gb286, 2, none⟩ = some (.int .u64 a1_2) := (blk_cell BK286.out 2).trans rfl
          have hcz39_3 : wr.cell? ⟨gb286, 3, none⟩ = some (.int .u64 a1_3) := (blk_cell BK286.out 3).trans rfl
          have hcz39_4 : wr.cell? ⟨gb286, 4, none⟩ = some (.slice A1_4 l1_4.length c1_4) := (blk_cell BK286.out 4).trans rfl
          have hfz39_0 := blk_frozen BK286.out 0
          have hfz39_1 := blk_frozen BK286.out 1
          have hfz39_2 := blk_frozen BK286.out 2
          have hfz39_3 := blk_frozen BK286.out 3
          have hfz39_4 := blk_frozen BK286.out 4
          have p288 : 0 ≤ (x5_2 : Int) := of_decide_eq_true (by first | (with_reducible assumption) | assumption)
          have q288 : x5_2 < (l1_4.length : Int) := of_decide_eq_true (by first | (with_reducible assumption) | assumption)
          obtain ⟨ad288, e288, hx288_0⟩ := Kd.at_int HR1_4.out x5_2 p288 q288
          cases e288
          replace hx288_0 := (HB.out.cell (World.block_lt_of_cell? w _ hx288_0)).trans hx288_0
          replace p288 := eq_true p288
          replace q288 := eq_true q288
          go_wp2
          repeat (go_quiet (fail); try go_wp2)
          go_ret
          exact ⟨by first | rfl | (simp [errW_none, errW_some] <;> rfl) | (simp [*, errW_none, errW_some] <;> rfl), by repeat (first | (with_reducible first | exact HB.out | apply below_alloc | apply pw_below_drewN | apply below_drew1 | refine below_set ?_ GE285.out | refine below_set ?_ GE286.out) | exact HB.out)⟩
        ·rw [if_neg c32] at H
         exact absurd H (by simp)
       ·rw [if_neg c31] at H
        exact absurd H (by simp)
      ·rw [if_neg c30] at H
       have c30b0 : decide (x5_2 < (l0_4.length : Int)) = false := decide_eq_false c30
       clear c30
       obtain rfl := Option.some.inj H
       have hnb40 := NB285_286.out
       have hnc40 := NB286_285.out
       have hcz41_0 : wr.cell? ⟨gb285, 0, none⟩ = some (.int .u32 a0_0) := (blk_cell BK285.out 0).trans rfl
       have hcz41_1 : wr.cell? ⟨gb285, 1, none⟩ = some (.slice A0_1 l0_1.length c0_1) := (blk_cell BK285.out 1).trans rfl
       have hcz41_2 : wr.cell? ⟨gb285, 2, none⟩ = some (.int .u64 a0_2) := (blk_cell BK285.out 2).trans rfl
       have hcz41_3 : wr.cell? ⟨gb285, 3, none⟩ = some (.int .u64 a0_3) := (blk_cell BK285.out 3).trans rfl
       have hcz41_4 : wr.cell? ⟨gb285, 4, none⟩ = some (.slice A0_4 l0_4.length c0_4) := (blk_cell BK285.out 4).trans rfl
       have hfz41_0 := blk_frozen BK285.out 0
       have hfz41_1 := blk_frozen BK285.out 1
       have hfz41_2 := blk_frozen BK285.out 2
       have hfz41_3 := blk_frozen BK285.out 3
       have hfz41_4 := blk_frozen BK285.out 4
       go_wp2
       repeat (go_quiet (fail); try go_wp2)
       go_ret
       exact ⟨by first | rfl | (simp [errW_none, errW_some] <;> rfl) | (simp [*, errW_none, errW_some] <;> rfl), by repeat (first | (with_reducible first | exact HB.out | apply below_alloc | apply pw_below_drewN | apply below_drew1 | refine below_set ?_ GE285.out | refine below_set ?_ GE286.out) | exact HB.out)⟩
end Go.Proofs.YtabdnlecpndfjaaDoor.PBase
namespace Go.Proofs.YtabdnlecpndfjaaDoor.PBase
open Go.RowKit Go.Proofs.YtabdnlecpndfjaaDoorW.PrintWords Go.Proofs.YtabdnlecpndfjaaDoorW.PrintLast Go.Proofs.YtabdnlecpndfjaaDoorW.PrintMore
attribute [local go_sem] max2_int min2_int max_two min_two max_three min_three max_four min_four   -- for this text's walks alone
set_option linter.unusedVariables false
set_option linter.unusedSimpArgs false
def coamingref00_Tenants.l0 : Nat → List (S42) → Int → Option (Bool)
 | 0, _, _ => none
 | k + 1, x0, x3 => if x3 < (x0.length : Int) then (if 0 ≤ x3 then (if (((rd_T42 x0 x3).f1).length : Int) > 200 then (some false) else (if (((rd_T42 x0 x3).f4).length : Int) > 50 then (some false) else (coamingref00_Tenants.l0 k x0 (wrap64 (x3 + 1))))) else (none)) else (some true)
def coamingref00_Tenants.f (k : Nat) (l0 : List (S42)) : Option (Bool) := if (l0.length : Int) > 70 then (some false) else (coamingref00_Tenants.l0 k l0 0)
set_option maxHeartbeats 8000000 in
set_option maxRecDepth 100000 in
theorem coamingref00_Tenants.calls (k : Nat) (A0 : Option Addr) (c0 : Nat) (l0 : List (S42)) (r : Bool) (w : World) (hr0 : Kd.C k42 w A0 l0.length l0) (hc0 : l0.length ≤ c0) (h : coamingref00_Tenants.f k l0 = some r) :
  Calls Tryd.prog 17 #[.slice A0 l0.length c0] w fun e w' => e = .returned (.bool r) ∧ Drawn0 w w' := by
 have HR0 := Aside0.mk hr0
 have HC0 := Aside0.mk hc0
 clear hr0 hc0
 have H : (if (l0.length : Int) > 70 then (some false) else (coamingref00_Tenants.l0 k l0 0)) = some r := h
 clear h
 by_cases c2 : (l0.length : Int) > 70
 ·rw [if_pos c2] at H
  have c2b0 : decide (70 < (l0.length : Int)) = true := decide_eq_true c2
  have c2b1 : decide (70 < l0.length) = true := decide_eq_true (by omega)
  clear c2
  obtain rfl := Option.some.inj H
  go_enter Tryd.func17, Tryd.ntmps17
  go_wp2
  go_ret
  exact ⟨by first | rfl | (simp; done) | (simp [*]; done), by repeat (first | exact Drawn0.refl _ | apply Drawn0.step)⟩
 ·rw [if_neg c2] at H
  have c2b0 : decide (70 < (l0.length : Int)) = false := decide_eq_false c2
  have c2b1 : decide (70 < l0.length) = false := decide_eq_false (by omega)
  clear c2
  have H' := Aside0.mk H
  clear H
  go_enter Tryd.func17, Tryd.ntmps17
  go_wp2
  go_loopg [3] k (fun kq v3 w' => ∃ (x3_1 : Int), v3 = .int .i64 x3_1 ∧ Aside0 (coamingref00_Tenants.l0 kq l0 x3_1 = some r) ∧ Aside0 (kq ≤ k) ∧ Drawn0 w w')
  case atStart => exact ⟨(0), (by first | rfl | (simp; done) | (simp [*]; done)), H', ⟨Nat.le_refl _⟩, by repeat (first | exact Drawn0.refl _ | apply Drawn0.step)⟩
  case round =>
   clear H'
   try clear c1
   try clear c2
   try clear c2b0
   try clear c2b1
   try clear p2
   obtain ⟨x3_1, rfl, HA, HK1, ⟨m1, rfl⟩⟩ := hrel
   cases gk with
   | zero => exact absurd HA.out (by simp [coamingref00_Tenants.l0])
   | succ k1 =>
    have H := HA.out
    clear HA
    simp only [coamingref00_Tenants.l0] at H
    by_cases c3 : x3_1 < (l0.length : Int)
    ·rw [if_pos c3] at H
     have c3b0 : decide (x3_1 < (l0.length : Int)) = true := decide_eq_true c3
     clear c3
     by_cases c4 : 0 ≤ x3_1
     ·rw [if_pos c4] at H
      have c4b0 : decide (0 ≤ x3_1) = true := decide_eq_true c4
      clear c4
      by_cases c5 : (((rd_T42 l0 x3_1).f1).length : Int) > 200
      ·rw [if_pos c5] at H
       have c5b0 : decide (200 < (((rd_T42 l0 x3_1).f1).length : Int)) = true := decide_eq_true c5
       have c5b1 : decide (200 < ((rd_T42 l0 x3_1).f1).length) = true := decide_eq_true (by omega)
       clear c5
       obtain rfl := Option.some.inj H
       have p289 : 0 ≤ (x3_1 : Int) := of_decide_eq_true (by first | (with_reducible assumption) | assumption)
       have q289 : x3_1 < (l0.length : Int) := of_decide_eq_true (by first | (with_reducible assumption) | assumption)
       obtain ⟨ad289, A289_1, c289_1, A289_4, c289_4, e289, hx289_0, hx289_1, hx289_2, hx289_3, hx289_4, hl289_1, hi289_1, hl289_4, hi289_4⟩ := at_T42 HR0.out x3_1 p289 q289
       cases e289
       have HR289_1 := Aside0.mk hi289_1
       have HC289_1 := Aside0.mk hl289_1
       clear hi289_1 hl289_1
       have HR289_4 := Aside0.mk hi289_4
       have HC289_4 := Aside0.mk hl289_4
       clear hi289_4 hl289_4
       replace p289 := eq_true p289
       replace q289 := eq_true q289
       go_wp2
       go_ret
       exact ⟨by first | rfl | (simp; done) | (simp [*]; done), by repeat (first | exact Drawn0.refl _ | apply Drawn0.step)⟩
      ·rw [if_neg c5] at H
       have c5b0 : decide (200 < (((rd_T42 l0 x3_1).f1).length : Int)) = false := decide_eq_false c5
       have c5b1 : decide (200 < ((rd_T42 l0 x3_1).f1).length) = false := decide_eq_false (by omega)
       clear c5
       by_cases c6 : (((rd_T42 l0 x3_1).f4).length : Int) > 50
       ·rw [if_pos c6] at H
        have c6b0 : decide (50 < (((rd_T42 l0 x3_1).f4).length : Int)) = true := decide_eq_true c6
        have c6b1 : decide (50 < ((rd_T42 l0 x3_1).f4).length) = true := decide_eq_true (by omega)
        clear c6
        obtain rfl := Option.some.inj H
        have p289 : 0 ≤ (x3_1 : Int) := of_decide_eq_true (by first | (with_reducible assumption) | assumption)
        have q289 : x3_1 < (l0.length : Int) := of_decide_eq_true (by first | (with_reducible assumption) | assumption)
        obtain ⟨ad289, A289_1, c289_1, A289_4, c289_4, e289, hx289_0, hx289_1, hx289_2, hx289_3, hx289_4, hl289_1, hi289_1, hl289_4, hi289_4⟩ := at_T42 HR0.out x3_1 p289 q289
        cases e289
        have HR289_1 := Aside0.mk hi289_1
        have HC289_1 := Aside0.mk hl289_1
        clear hi289_1 hl289_1
        have HR289_4 := Aside0.mk hi289_4
        have HC289_4 := Aside0.mk hl289_4
        clear hi289_4 hl289_4
        replace p289 := eq_true p289
        replace q289 := eq_true q289
        have p290 : 0 ≤ (x3_1 : Int) := of_decide_eq_true (by first | (with_reducible assumption) | assumption)
        have q290 : x3_1 < (l0.length : Int) := of_decide_eq_true (by first | (with_reducible assumption) | assumption)
        obtain ⟨ad290, A290_1, c290_1, A290_4, c290_4, e290, hx290_0, hx290_1, hx290_2, hx290_3, hx290_4, hl290_1, hi290_1, hl290_4, hi290_4⟩ := at_T42 HR0.out x3_1 p290 q290
        obtain rfl : ad289 = ad290 := (by injection e290)
        have HR290_1 := Aside0.mk hi290_1
        have HC290_1 := Aside0.mk hl290_1
        clear hi290_1 hl290_1
        have HR290_4 := Aside0.mk hi290_4
        have HC290_4 := Aside0.mk hl290_4
        clear hi290_4 hl290_4
        replace p290 := eq_true p290
        replace q290 := eq_true q290
        have ea_ := Option.some.inj (hx289_1.symm.trans hx290_1)
        injection ea_ with ea_ en_ ec_
        subst ea_
        subst ec_
        clear en_
        have ea_ := Option.some.inj (hx289_4.symm.trans hx290_4)
        injection ea_ with ea_ en_ ec_
        subst ea_
        subst ec_
        clear en_
        go_wp2
        go_ret
        exact ⟨by first | rfl | (simp; done) | (simp [*]; done), by repeat (first | exact Drawn0.refl _ | apply Drawn0.step)⟩
       ·rw [if_neg c6] at H
        have c6b0 : decide (50 < (((rd_T42 l0 x3_1).f4).length : Int)) = false := decide_eq_false c6
        have c6b1 : decide (50 < ((rd_T42 l0 x3_1).f4).length) = false := decide_eq_false (by omega)
        clear c6
        have H' := Aside0.mk H
        clear H
        have p289 : 0 ≤ (x3_1 : Int) := of_decide_eq_true (by first | (with_reducible assumption) | assumption)
        have q289 : x3_1 < (l0.length : Int) := of_decide_eq_true (by first | (with_reducible assumption) | assumption)
        obtain ⟨ad289, A289_1, c289_1, A289_4, c289_4, e289, hx289_0, hx289_1, hx289_2, hx289_3, hx289_4, hl289_1, hi289_1, hl289_4, hi289_4⟩ := at_T42 HR0.out x3_1 p289 q289
        cases e289
        have HR289_1 := Aside0.mk hi289_1
        have HC289_1 := Aside0.mk hl289_1
        clear hi289_1 hl289_1
        have HR289_4 := Aside0.mk hi289_4
        have HC289_4 := Aside0.mk hl289_4
        clear hi289_4 hl289_4
        replace p289 := eq_true p289
        replace q289 := eq_true q289
        have p290 : 0 ≤ (x3_1 : Int) := of_decide_eq_true (by first | (with_reducible assumption) | assumption)
        have q290 : x3_1 < (l0.length : Int) := of_decide_eq_true (by first | (with_reducible assumption) | assumption)
        obtain ⟨ad290, A290_1, c290_1, A290_4, c290_4, e290, hx290_0, hx290_1, hx290_2, hx290_3, hx290_4, hl290_1, hi290_1, hl290_4, hi290_4⟩ := at_T42 HR0.out x3_1 p290 q290
        obtain rfl : ad289 = ad290 := (by injection e290)
        have HR290_1 := Aside0.mk hi290_1
        have HC290_1 := Aside0.mk hl290_1
        clear hi290_1 hl290_1
        have HR290_4 := Aside0.mk hi290_4
        have HC290_4 := Aside0.mk hl290_4
        clear hi290_4 hl290_4
        replace p290 := eq_true p290
        replace q290 := eq_true q290
        have ea_ := Option.some.inj (hx289_1.symm.trans hx290_1)
        injection ea_ with ea_ en_ ec_
        subst ea_
        subst ec_
        clear en_
        have ea_ := Option.some.inj (hx289_4.symm.trans hx290_4)
        injection ea_ with ea_ en_ ec_
        subst ea_
        subst ec_
        clear en_
        go_wp2
        go_roundg k1
        case measure => have := HK1.out; omega
        case rel => exact ⟨(wrap64 (x3_1 + 1)), (by first | rfl | (simp; done) | (simp [*]; done)), H', ⟨by have := HK1.out; omega⟩, by repeat (first | exact Drawn0.refl _ | apply Drawn0.step)⟩
     ·rw [if_neg c4] at H
      exact absurd H (by simp)
    ·rw [if_neg c3] at H
     have c3b0 : decide (x3_1 < (l0.length : Int)) = false := decide_eq_false c3
     clear c3
     obtain rfl := Option.some.inj H
     go_wp2
     go_ret
     exact ⟨by first | rfl | (simp; done) | (simp [*]; done), by repeat (first | exact Drawn0.refl _ | apply Drawn0.step)⟩
def slices_Index_uint32_uint32.l0 : Nat → List Int → Int → Int → Int → Option (Int)
 | 0, _, _, _, _ => none
 | k + 1, x0, x1, x7, x8 => if x8 < x7 then (if 0 ≤ x8 then (if x8 < (x0.length : Int) then (if x1 = (rd x0 x8) then (some x8) else (slices_Index_uint32_uint32.l0 k x0 x1 x7 (wrap64 (x8 + 1)))) else (none)) else (none)) else (some (-1))
def slices_Index_uint32_uint32.f (k : Nat) (l0 : List Int) (a1 : Int) : Option (Int) := slices_Index_uint32_uint32.l0 k l0 a1 (l0.length : Int) 0
set_option maxHeartbeats 8000000 in
set_option maxRecDepth 100000 in
theorem slices_Index_uint32_uint32.calls (k : Nat) (A0 : Option Addr) (c0 : Nat) (l0 : List Int) (a1 : Int) (r : Int) (w : World) (hr0 : Kd.C (Kd.int .u32) w A0 l0.length l0) (hc0 : l0.length ≤ c0) (h : slices_Index_uint32_uint32.f k l0 a1 = some r) :
  Calls Tryd.prog 52 #[.slice A0 l0.length c0, .int .u32 a1] w fun e w' => e = .returned (.int .i64 r) ∧ Drawn0 w w' := by
 have HR0 := Aside0.mk hr0
 have HC0 := Aside0.mk hc0
 clear hr0 hc0
 have H : (slices_Index_uint32_uint32.l0 k l0 a1 (l0.length : Int) 0) = some r := h
 clear h
 have H' := Aside0.mk H
 clear H
 go_enter Tryd.func52, Tryd.ntmps52
 go_wp2
 go_loopg [8] k (fun kq v8 w' => ∃ (x8_1 : Int), v8 = .int .i64 x8_1 ∧ Aside0 (slices_Index_uint32_uint32.l0 kq l0 a1 (l0.length : Int) x8_1 = some r) ∧ Aside0 (kq ≤ k) ∧ Drawn0 w w')
 case atStart => exact ⟨(0), (by first | rfl | (simp; done) | (simp [*]; done)), H', ⟨Nat.le_refl _⟩, by repeat (first | exact Drawn0.refl _ | apply Drawn0.step)⟩
 case round =>
  clear H'
  try clear p2
  obtain ⟨x8_1, rfl, HA, HK1, ⟨m1, rfl⟩⟩ := hrel
  cases gk with
  | zero => exact absurd HA.out (by simp [slices_Index_uint32_uint32.l0])
  | succ k1 =>
   have H := HA.out
   clear HA
   simp only [slices_Index_uint32_uint32.l0] at H
   by_cases c3 : x8_1 < (l0.length : Int)
   ·rw [if_pos c3] at H
    have c3b0 : decide (x8_1 < (l0.length : Int)) = true := decide_eq_true c3
    clear c3
    by_cases c4 : 0 ≤ x8_1
    ·rw [if_pos c4] at H
     have c4b0 : decide (0 ≤ x8_1) = true := decide_eq_true c4
     clear c4
     by_cases c5 : x8_1 < (l0.length : Int)
     ·rw [if_pos c5] at H
      have c5b0 : decide (x8_1 < (l0.length : Int)) = true := decide_eq_true c5
      clear c5
      by_cases c6 : a1 = (rd l0 x8_1)
      ·rw [if_pos c6] at H
       have c6b0 : (a1 == (rd l0 x8_1)) = true := beq_iff_eq.mpr c6
       have c6b1 : (a1 != (rd l0 x8_1)) = false := bne_eq_false_iff_eq.mpr c6
       clear c6
       obtain rfl := Option.some.inj H
       have p305 : 0 ≤ (x8_1 : Int) := of_decide_eq_true (by first | (with_reducible assumption) | assumption)
       have q305 : x8_1 < (l0.length : Int) := of_decide_eq_true (by first | (with_reducible assumption) | assumption)
       obtain ⟨ad305, e305, hx305_0⟩ := Kd.at_int HR0.out x8_1 p305 q305
       cases e305
       replace p305 := eq_true p305
       replace q305 := eq_true q305
       go_wp2
       go_ret
       exact ⟨by first | rfl | (simp; done) | (simp [*]; done), by repeat (first | exact Drawn0.refl _ | apply Drawn0.step)⟩
      ·rw [if_neg c6] at H
       have c6b0 : (a1 == (rd l0 x8_1)) = false := beq_eq_false_iff_ne.mpr c6
       have c6b1 : (a1 != (rd l0 x8_1)) = true := bne_iff_ne.mpr c6
       have H' := Aside0.mk H
       clear H
       have p305 : 0 ≤ (x8_1 : Int) := of_decide_eq_true (by first | (with_reducible assumption) | assumption)
       have q305 : x8_1 < (l0.length : Int) := of_decide_eq_true (by first | (with_reducible assumption) | assumption)
       obtain ⟨ad305, e305, hx305_0⟩ := Kd.at_int HR0.out x8_1 p305 q305
       cases e305
       replace p305 := eq_true p305
       replace q305 := eq_true q305
       go_wp2
       go_roundg k1
       case measure => have := HK1.out; omega
       case rel => exact ⟨(wrap64 (x8_1 + 1)), (by first | rfl | (simp; done) | (simp [*]; done)), H', ⟨by have := HK1.out; omega⟩, by repeat (first | exact Drawn0.refl _ | apply Drawn0.step)⟩
     ·rw [if_neg c5] at H
      exact absurd H (by simp)
    ·rw [if_neg c4] at H
     exact absurd H (by simp)
   ·rw [if_neg c3] at H
    have c3b0 : decide (x8_1 < (l0.length : Int)) = false := decide_eq_false c3
    clear c3
    obtain rfl := Option.some.inj H
    go_wp2
    go_ret
    exact ⟨by first | rfl | (simp; done) | (simp [*]; done), by repeat (first | exact Drawn0.refl _ | apply Drawn0.step)⟩
def slices_Contains_uint32_uint32.f (k : Nat) (l0 : List Int) (a1 : Int) : Option (Bool) := (slices_Index_uint32_uint32.f k l0 a1).bind fun t306 => (some (decide (t306 ≥ 0)))
set_option maxHeartbeats 8000000 in
set_option maxRecDepth 100000 in
theorem slices_Contains_uint32_uint32.calls (k : Nat) (A0 : Option Addr) (c0 : Nat) (l0 : List Int) (a1 : Int) (r : Bool) (w : World) (hr0 : Kd.C (Kd.int .u32) w A0 l0.length l0) (hc0 : l0.length ≤ c0) (h : slices_Contains_uint32_uint32.f k l0 a1 = some r) :
  Calls Tryd.prog 36 #[.slice A0 l0.length c0, .int .u32 a1] w fun e w' => e = .returned (.bool r) ∧ Drawn0 w w' := by
 have HR0 := Aside0.mk hr0
 have HC0 := Aside0.mk hc0
 clear hr0 hc0
 have H : ((slices_Index_uint32_uint32.f k l0 a1).bind fun t306 => (some (decide (t306 ≥ 0)))) = some r := h
 clear h
 replace H := Option.bind_eq_some_iff.mp H
 obtain ⟨t306, A30, H⟩ := H
 replace H : (some (decide (t306 ≥ 0))) = some r := H
 have A3 := Aside0.mk A30
 clear A30
 obtain rfl := Option.some.inj H
 go_enter Tryd.func36, Tryd.ntmps36
 go_wp2_with (first | ((with_reducible refine gate_callee (f := 52) rfl ?_); refine goesL_ (some 7) rfl rfl Tryd.func52 (by kernel_rfl) rfl #[.slice A0 l0.length c0, .int .u32 a1] rfl (by (try simp only [List.map_toArray, List.map_cons, List.map_nil]); first | done | rfl | (simp only [List.length_drop, List.length_take]; rfl) | (simp only [List.length_drop, List.length_take]; (repeat rw [Nat.min_eq_left (by simp only [eq_iff_iff, iff_true] at *; omega)]); rfl)) ?_; (with_reducible refine (slices_Index_uint32_uint32.calls k _ _ l0 a1 t306 _ ?side1 ?side2 A3.out).mono ?_); (case side1 => repeat (first | exact HR0.out | (with_reducible refine Kd.C_alloc ?_ _) | (with_reducible refine Kd.C_drewN ?_ _) | (with_reducible refine Kd.C_drew ?_))); (case side2 => exact HC0.out); rintro e w' ⟨rfl, ⟨nd, rfl⟩⟩; refine ⟨_, rfl, ?_⟩))
 go_ret
 exact ⟨by first | rfl | (simp; done) | (simp [*]; done), by repeat (first | exact Drawn0.refl _ | apply Drawn0.step)⟩
end Go.Proofs.YtabdnlecpndfjaaDoor.PBase
set_option linter.unusedVariables false
set_option linter.unusedSimpArgs false
namespace Go.Proofs.YtabdnlecpndfjaaDoor.Sp
open Go.RowKit Go.Proofs.YtabdnlecpndfjaaDoor.PBase Go.Proofs.YtabdnlecpndfjaaDoorW.PrintWords Go.Proofs.YtabdnlecpndfjaaDoorW.PrintLast Go.Proofs.YtabdnlecpndfjaaDoorW.PrintMore
theorem w64 (n : Int) (h0 : -9223372036854775808 ≤ n) (h1 : n ≤ 9223372036854775807) : wrap64 n = n := by unfold wrap64; omega
def bs (s : ByteArray) : List Int := s.data.toList.map fun c => (c.toNat : Int)
theorem bs_length (s : ByteArray) : (bs s).length = s.size := by simp [bs]
theorem bs_drop (s : ByteArray) (i : Nat) (h : i < s.size) : (bs s).drop i = bt s i :: (bs s).drop (i + 1) := by
  rw [List.drop_eq_getElem_cons (by rw [bs_length]; exact h)]
  congr 1
  simp [bs, bt, h]
  rfl
theorem number_is (k : Nat) (c : Int) (h0 : 0 ≤ c) (h1 : c ≤ 255) (hk : 0 < k) : spell_number.f k c = some (match dg c with | some d => (d, true) | none => (0, false)) := by
  obtain ⟨k, rfl⟩ : ∃ m, k = m + 1 := ⟨k - 1, by omega⟩
  have h : ∀ c : Fin 256, spell_number.f 1 (c.val : Int) = some (match dg (c.val : Int) with | some d => (d, true) | none => (0, false)) := by decide +kernel
  have h2 := h ⟨c.toNat, by omega⟩
  simp only [Int.toNat_of_nonneg h0] at h2
  unfold spell_number.f at h2 ⊢
  simp only [spell_number.j0] at h2 ⊢
  exact h2
theorem number_some (k : Nat) (c v : Int) (h0 : 0 ≤ c) (h1 : c ≤ 255) (hk : 0 < k) (h : dg c = some v) : spell_number.f k c = some (v, true) := by rw [number_is k c h0 h1 hk, h]
theorem number_none (k : Nat) (c : Int) (h0 : 0 ≤ c) (h1 : c ≤ 255) (hk : 0 < k) (h : dg c = none) : spell_number.f k c = some (0, false) := by rw [number_is k c h0 h1 hk, h]
theorem fold_none {α : Type} {c : Int} {cs : List Int} {z : α} {f : List Int → α} (h : dg c = none) : (digits (c :: cs)).elim z f = z := by rw [digits, h]; rfl
theorem fold_some {α : Type} {c v : Int} {cs : List Int} {z : α} {f : List Int → α} (h : dg c = some v) : (digits (c :: cs)).elim z f = (digits cs).elim z (fun ds => f (v :: ds)) := by
  rw [digits, h]
  cases digits cs <;> rfl
end Go.Proofs.YtabdnlecpndfjaaDoor.Sp
set_option linter.unusedVariables false
set_option linter.unusedSimpArgs false
namespace Go.Proofs.YtabdnlecpndfjaaDoor.Sp
open Go.RowKit Go.Proofs.YtabdnlecpndfjaaDoor.PBase Go.Proofs.YtabdnlecpndfjaaDoorW.PrintWords Go.Proofs.YtabdnlecpndfjaaDoorW.PrintLast Go.Proofs.YtabdnlecpndfjaaDoorW.PrintMore
theorem val_foldl (B : List Int) : ∀ a : Int, B.foldl (fun h b => 2 * h + b) a = a * 2 ^ B.length + val B := by
  induction B with
  | nil => intro a; simp [val]
  | cons b B ih =>
    intro a
    have h1 := ih (2 * a + b)
    have h2 := ih (2 * 0 + b)
    simp only [List.foldl_cons, val, List.length_cons] at *
    rw [h1, h2, Int.pow_succ, show (2 : Int) * 0 + b = b by omega, Int.add_mul]
    rw [show a * (2 ^ B.length * 2) = 2 * a * 2 ^ B.length by rw [Int.mul_comm (2 ^ B.length) 2, ← Int.mul_assoc, Int.mul_comm a 2]]
    omega
theorem val_append (A B : List Int) : val (A ++ B) = val A * 2 ^ B.length + val B := by
  show (A ++ B).foldl _ 0 = _
  rw [List.foldl_append]
  exact val_foldl B _
theorem val_range (B : List Int) (h : Bits B) : 0 ≤ val B ∧ val B < 2 ^ B.length := by
  induction B with
  | nil => simp [val]
  | cons b B ih =>
    have hb := h.head
    have := ih h.tail
    have e : val (b :: B) = b * 2 ^ B.length + val B := by rw [← val_foldl B b]; simp [val]
    rw [e, List.length_cons, Int.pow_succ]
    have hp : (0 : Int) < 2 ^ B.length := Int.pow_pos (by decide)
    rcases (by omega : b = 0 ∨ b = 1) with rfl | rfl <;> omega
theorem val_bits5 (d : Int) (h0 : 0 ≤ d) (h1 : d < 32) : val (bits5 d) = d := by simp only [val, bits5, List.foldl]; omega
theorem val_five (R : List Int) (d : Int) (h0 : 0 ≤ d) (h1 : d < 32) : val (R ++ bits5 d) = val R * 32 + d := by
  rw [val_append, val_bits5 d h0 h1]
  rfl
theorem val_split (L : List Int) (h : Bits L) (n : Nat) (hn : L.length = 8 + n) : val L / 2 ^ n = val (L.take 8) ∧ val L % 2 ^ n = val (L.drop 8) := by
  have e := val_append (L.take 8) (L.drop 8)
  rw [List.take_append_drop, List.length_drop, show L.length - 8 = n by omega] at e
  have hb : Bits (L.take 8 ++ L.drop 8) := by rw [List.take_append_drop]; exact h
  have hr := val_range _ hb.right
  rw [List.length_drop, show L.length - 8 = n by omega] at hr
  have hp : (0 : Int) < 2 ^ n := Int.pow_pos (by decide)
  rw [e]
  constructor
  · rw [Int.add_comm, Int.add_mul_ediv_right _ _ (by omega), Int.ediv_eq_zero_of_lt hr.1 hr.2]
    omega
  · rw [Int.add_comm, Int.add_mul_emod_self_right, Int.emod_eq_of_lt hr.1 hr.2]
theorem pow7 : ∀ m, m < 8 → (2 : Int) ^ m ≤ 128 := by decide
theorem pow12 : ∀ m, m < 13 → (2 : Int) ^ m ≤ 4096 := by decide
theorem pow_le7 (R : List Int) (h : Bits R) (hl : R.length < 8) : 0 ≤ val R ∧ val R < 128 := by
  have := val_range R h
  have h2 := pow7 R.length hl
  omega
theorem pow_le12 (L : List Int) (h : Bits L) (hl : L.length ≤ 12) : 0 ≤ val L ∧ val L < 4096 := by
  have := val_range L h
  have h2 := pow12 L.length (by omega)
  omega
theorem five_length (R : List Int) (v : Int) : (R ++ bits5 v).length = R.length + 5 := by simp [bits5]
theorem rd_or (R : List Int) (v : Int) (hR : Bits R) (hl : R.length < 8) (h0 : 0 ≤ v) (h1 : v < 32) : Go.bits .or .u64 (IntKind.u64.wrap (val R * 32)) v = val (R ++ bits5 v) := by
  have hr := pow_le7 R hR hl
  rw [Bt.wraps_u64 _ (by omega) (by omega), Bt.or_u64 5 _ _ (by omega) (by omega) (by omega) h0 (by omega) (by omega), val_five R v h0 h1]
theorem rd_shr (k : IntKind) (hk : k.bits = 64) (L : List Int) (h : Bits L) (h8 : 8 ≤ L.length) (hl : L.length ≤ 12) : shr k (val L) ((L.drop 8).length : Nat) % 256 = val (L.take 8) := by
  have hn : (L.drop 8).length ≤ 4 := by rw [List.length_drop]; omega
  have hs := (val_split L h (L.drop 8).length (by rw [List.length_drop]; omega)).1
  have hb' : Bits (L.take 8 ++ L.drop 8) := by rw [List.take_append_drop]; exact h
  have hv := val8_of _ hb'.left (by rw [List.length_take]; omega)
  unfold shr
  rw [Int.toNat_natCast, Nat.min_eq_left (by omega), hs]
  omega
theorem rd_mask (L : List Int) (h : Bits L) (h8 : 8 ≤ L.length) (hl : L.length ≤ 12) : Go.bits .and .u64 (val L) (IntKind.u64.wrap (shl .u64 1 ((L.drop 8).length : Nat) - 1)) = val (L.drop 8) := by
  have hn : (L.drop 8).length ≤ 4 := by rw [List.length_drop]; omega
  have hs := (val_split L h (L.drop 8).length (by rw [List.length_drop]; omega)).2
  have hL := pow_le12 L h hl
  have e8 : shl .u64 1 ((L.drop 8).length : Nat) = IntKind.u64.wrap (2 ^ ((L.drop 8).length : Int).toNat) := by
    unfold shl
    rw [Int.toNat_natCast, Nat.min_eq_left (by show _ ≤ 64; omega), Int.one_mul]
  rw [e8, Bt.mask_low _ _ hL.1 (by omega) (by omega) (by omega), Int.toNat_natCast, hs]
theorem drop8_length (L : List Int) (h8 : 8 ≤ L.length) (hl : L.length ≤ 12) : wrap64 ((L.length : Nat) - 8 : Int) = ((L.drop 8).length : Nat) := by
  rw [w64 _ (by omega) (by omega), List.length_drop]; omega
def finR (p : List Int × List Int) : List Int × Int := if 5 ≤ p.2.length then ([], 40) else if val p.2 = 0 then (p.1, 0) else ([], 40)
theorem read_end (s : ByteArray) (k : Nat) (o R : List Int) (i : Nat) (hi : ¬ i < s.size) : spell_Read.l0 (k + 1) s o (val R) R.length s.size i = some ((digits ((bs s).drop i)).elim ([], 40) fun ds => finR (take8 ds o R)) := by
  rw [spell_Read.l0, if_neg (by omega), List.drop_of_length_le (by rw [bs_length]; omega)]
  show _ = some (finR (o, R))
  unfold finR
  by_cases h5 : 5 ≤ R.length
  · rw [if_pos (by omega), if_pos (show 5 ≤ (o, R).2.length from h5)]
  · rw [if_neg (by omega), if_neg (show ¬ 5 ≤ (o, R).2.length from h5)]
    by_cases hv : val R = 0
    · rw [if_pos hv, if_pos (show val (o, R).2 = 0 from hv)]
    · rw [if_neg hv, if_neg (show ¬ val (o, R).2 = 0 from hv)]
set_option maxHeartbeats 1000000 in
theorem read_all (s : ByteArray) (hs : s.size ≤ 1000000) (d : Nat) : ∀ (k : Nat) (o R : List Int) (i : Nat), s.size ≤ i + d → d + 1 < k → Bits R → R.length < 8 → o.length + d ≤ 10000000 →
    spell_Read.l0 k s o (val R) R.length s.size i = some ((digits ((bs s).drop i)).elim ([], 40) fun ds => finR (take8 ds o R)) := by
  induction d with
  | zero =>
    intro k o R i h hk hR hl ho
    obtain ⟨k, rfl⟩ : ∃ m, k = m + 1 := ⟨k - 1, by omega⟩
    exact read_end s k o R i (by omega)
  | succ d ih =>
    intro k o R i h hk hR hl ho
    obtain ⟨k, rfl⟩ : ∃ m, k = m + 1 := ⟨k - 1, by omega⟩
    by_cases hi : i < s.size
    · rw [spell_Read.l0, if_pos (by omega), if_pos (by omega), if_pos (by omega)]
      have hb := bt_range s i
      rw [bs_drop s i hi]
      cases hd : dg (bt s i) with
      | none => rw [number_none k _ hb.1 hb.2 (by omega) hd, Option.bind_some, if_neg (by decide), fold_none hd]
      | some v =>
        have hv := dg_range hd
        have e3 : wrap64 ((R.length : Int) + 5) = ((R ++ bits5 v).length : Nat) := by rw [w64 _ (by omega) (by omega), five_length]; omega
        have e4 : wrap64 ((i : Int) + 1) = ((i + 1 : Nat) : Int) := by rw [w64 _ (by omega) (by omega)]; omega
        have hL : Bits (R ++ bits5 v) := hR.append (Bits5 v)
        have hLl := five_length R v
        rw [number_some k _ v hb.1 hb.2 (by omega) hd, Option.bind_some, if_pos rfl, fold_some hd]
        rw [rd_or R v hR hl hv.1 hv.2, e3, e4]
        clear e3 e4
        by_cases h8 : 8 ≤ R.length + 5
        · have hb' : Bits ((R ++ bits5 v).take 8 ++ (R ++ bits5 v).drop 8) := by rw [List.take_append_drop]; exact hL
          have f1 := drop8_length (R ++ bits5 v) (by omega) (by omega)
          have f2 := rd_shr .u64 rfl (R ++ bits5 v) hL (by omega) (by omega)
          have f3 := rd_mask (R ++ bits5 v) hL (by omega) (by omega)
          have c1 : ((R ++ bits5 v).length : Int) ≥ 8 := by omega
          have c2 : (0 : Int) ≤ (((R ++ bits5 v).drop 8).length : Nat) := by omega
          have c3 : o.length < 140737488355328 := by omega
          rw [if_pos c1]
          rw [f1]
          rw [if_pos c2]
          rw [if_pos c3]
          rw [f2]
          rw [f3]
          clear f1 f2 f3 c3
          rw [ih k _ _ (i + 1) (by omega) (by omega) hb'.right (by rw [List.length_drop]; omega) (by rw [List.length_append, List.length_singleton]; omega)]
          have e9 : ∀ ds, take8 (v :: ds) o R = take8 ds (o ++ [val ((R ++ bits5 v).take 8)]) ((R ++ bits5 v).drop 8) := fun ds => by rw [take8, if_pos h8]
          simp only [e9]
        · rw [if_neg (by omega)]
          rw [ih k _ _ (i + 1) (by omega) (by omega) hL (by omega) (by omega)]
          have e9 : ∀ ds, take8 (v :: ds) o R = take8 ds o (R ++ bits5 v) := fun ds => by rw [take8, if_neg h8]
          simp only [e9]
    · exact read_end s k o R i hi
theorem read_is (s : ByteArray) (hs : s.size ≤ 1000000) (k : Nat) (hk : s.size + 1 < k) : spell_Read.f k s = some (readOf (bs s)) := by
  unfold spell_Read.f
  have h := read_all s hs s.size k [] [] 0 (by omega) hk (by intro b h; simp at h) (by simp) (by simp; omega)
  rw [show spell_Read.l0 k s [] 0 0 s.size 0 = spell_Read.l0 k s [] (val []) (([] : List Int).length : Nat) s.size ((0 : Nat) : Int) from rfl, h]
  unfold readOf finR
  rw [List.drop_zero]
  cases digits (bs s) <;> rfl
end Go.Proofs.YtabdnlecpndfjaaDoor.Sp
