/- What the law's proof stands on, part 2: SpellB, Bits, SpellW, SpellMath, PBasex0, PBasex1 (laid together by wip/pack.py). -/
import Derived.Test.YtabdnlecpndfjaaDoorProg
import Derived.Test.YtabdnlecpndfjaaDoorXPassChecksP1
import Derived.Shelf.RegionOpenPlain
import Derived.Shelf.Strings.Builder1
import Derived.Lib.Strings
import Derived.Lib.Slices
import Derived.Lib.Walk
import Derived.Lib.Builder
import Derived.Lib.UnsafeStr
import Derived.Laws.Externs
import Derived.Outline
set_option linter.unusedVariables false
namespace Go.Proofs.YtabdnlecpndfjaaDoor.Bld
open Go.RowKit
theorem sizeBuilder : (Tryd.prog.info? 88).map (·.size) = some 2 := by kernel_rfl
theorem liesBuilder : liesAt Tryd.prog Tryd.prog.depth 88 (2 / Tryd.prog.cellsOf 88) 0 88 1 = true := by kernel_rfl
theorem infoByte : (Tryd.prog.info? 5).map (fun i => (i.zero, i.size, i.bytes)) = some (some (.int .u8 0), 1, 1) := by kernel_rfl
set_option maxHeartbeats 1000000 in
set_option maxRecDepth 100000 in
theorem copyCheck_used (b : Nat) (w : World) (h0 : w.cell? ⟨b, 0, none⟩ = some (.pointer (some ⟨b, 0, none⟩))) :
    Calls Tryd.prog 54 #[.pointer (some ⟨b, 0, none⟩)] w fun e w' => e = .returned (.tuple #[]) ∧ w' = w := by
  obtain ⟨j, hj, _⟩ := Option.map_eq_some_iff.1 sizeBuilder
  go_enter Tryd.func54, Tryd.ntmps54
  go_wp2
  rw [Lib.run_neq_ptr_same w _ Tryd.underlying86 hj]
  go_wp2
  go_end0
  exact ⟨rfl, rfl⟩
set_option maxHeartbeats 1000000 in
set_option maxRecDepth 100000 in
theorem copyCheck_fresh (b : Nat) (w : World) (h0 : w.cell? ⟨b, 0, none⟩ = some (.pointer none)) (hsh : w.shape? b = some (88, 2)) (hfz : w.frozen? ⟨b, 0, none⟩ = false) :
    Calls Tryd.prog 54 #[.pointer (some ⟨b, 0, none⟩)] w fun e w' => e = .returned (.tuple #[]) ∧ w' = w.setCell ⟨b, 0, none⟩ (.pointer (some ⟨b, 0, none⟩)) := by
  obtain ⟨j, hj, hjs⟩ := Option.map_eq_some_iff.1 sizeBuilder
  go_enter Tryd.func54, Tryd.ntmps54
  go_wp2
  rw [Lib.run_to_unsafe w ⟨b, 0, none⟩ Tryd.underlying86 Tryd.underlying111 hj (by rw [hjs]; decide) hsh (Nat.zero_lt_succ 1)]
  simp only [Result.andThen]
  rw [Oper.upon_value]
  go_wp2
  rw [run_callFunc_extern Tryd.func59 (by kernel_rfl) (by kernel_rfl) (by kernel_rfl) (e := Extern.AbiNoEscape.same) (by kernel_rfl)]
  rw [Lib.run_noEscape]
  simp only [Result.andThen]
  rw [Oper.upon_value]
  go_wp2
  rw [Lib.run_from_unsafe w ⟨b, 0, none⟩ Tryd.underlying111 Tryd.underlying86 hj hsh liesBuilder]
  simp only [Result.andThen]
  rw [Oper.upon_value]
  go_wp2
  go_end0
  exact ⟨rfl, rfl⟩
theorem copyCheck (B b : Nat) (bs : List Value) (w : World) (h : Lib.IsBuilder 88 5 B b bs w) :
    Calls Tryd.prog 54 #[.pointer (some ⟨b, 0, none⟩)] w fun e w' => e = .returned (.tuple #[]) ∧ (Lib.BuilderAt 88 5 B b (.pointer (some ⟨b, 0, none⟩)) bs w' ∧ Below B w w') := by
  rcases h with h | h
  · refine (copyCheck_fresh b w h.cell0 h.shape h.frozen0).mono ?_
    rintro e w' ⟨rfl, rfl⟩
    exact ⟨rfl, h.used _, (Below.refl B w).setCell (p := ⟨b, 0, none⟩) h.1 _⟩
  · refine (copyCheck_used b w h.cell0).mono ?_
    rintro e w' ⟨rfl, rfl⟩
    exact ⟨rfl, h, Below.refl B _⟩
set_option maxHeartbeats 2000000 in
set_option maxRecDepth 100000 in
theorem WriteByte (B b : Nat) (bs : List Value) (c : Int) (w : World) (h : Lib.IsBuilder 88 5 B b bs w) (hlen : bs.length + 1 ≤ 140737488355328) (hBw : B ≤ w.heap.size) :
    Calls Tryd.prog 43 #[.pointer (some ⟨b, 0, none⟩), .int .u8 c] w fun e w' => e = .returned .nilIface ∧ (Lib.BuilderAt 88 5 B b (.pointer (some ⟨b, 0, none⟩)) (bs ++ [.int .u8 c]) w' ∧ Below B w w') := by
  obtain ⟨i0, hi, hz0, hz1, hz2⟩ := info_parts infoByte
  go_enter Tryd.func43, Tryd.ntmps43
  go_wp2_with (go_at_call 54; refine (copyCheck B b bs _ h).mono ?_)
  rintro e w1 ⟨rfl, h1, hb1⟩
  obtain ⟨hB, v, hbk, hown, hne⟩ := h1
  have c0 : w1.cell? ⟨b, 0, none⟩ = some (.pointer (some ⟨b, 0, none⟩)) := by rw [Lib.cell_of_heap hbk]; rfl
  have c1 : w1.cell? ⟨b, 1, none⟩ = some v := by rw [Lib.cell_of_heap hbk]; rfl
  go_wp2_with (at_builtin; refine wpList_append_own _ rfl _ _ 22 rfl B 5 i0 (.int .u8 0) 1 1 Tryd.underlying22 hi hz0 hz1 hz2 rfl (by decide) _ _ _ rfl (hown.alloc _) ⟨w1.heap.size, 0, none⟩ 1 1 [.int .u8 c] rfl rfl ?c1 ?c2 ?c3 ?c4 ?c5 ?_)
  case c1 =>
    intro j u hj
    match j, hj with
    | 0, hj => simp at hj; subst hj; simp [Addr.add]
  case c2 => intro u hu; simp at hu; subst hu; rfl
  case c3 => unfold maxLen; omega
  case c4 => omega
  case c5 => have := hb1.size; simp; omega
  intro v' w2 hown' hgrow _
  have hlt : b < w1.heap.size := by
    rcases Nat.lt_or_ge b w1.heap.size with h' | h'
    · exact h'
    · simp [Array.getElem?_eq_none h'] at hbk
  have hb2 : w2.heap[b]? = some (.cells #[.pointer (some ⟨b, 0, none⟩), v] 88 (0, 0)) := by
    rw [hgrow.block b (by simp; omega) (fun e => hne e.symm), Lib.alloc_old w1 _ b hlt]
    exact hbk
  have d0 : w2.cell? ⟨b, 0, none⟩ = some (.pointer (some ⟨b, 0, none⟩)) := by rw [Lib.cell_of_heap hb2]; rfl
  have d1 : w2.cell? ⟨b, 1, none⟩ = some v := by rw [Lib.cell_of_heap hb2]; rfl
  have f1 : w2.frozen? ⟨b, 1, none⟩ = false := Lib.frozen_of_heap hb2 1
  obtain ⟨g, cap, rfl⟩ : ∃ g cap, v' = .slice (some ⟨g, 0, none⟩) (bs.length + 1) cap := by
    rcases hown'.2 with ⟨_, h0⟩ | ⟨g, cap, cur, hv, _⟩
    · omega
    · exact ⟨g, cap, hv⟩
  go_wp2
  go_ret
  refine ⟨rfl, ?_, ?_⟩
  · exact Lib.BuilderAt.put (T := 88) (e := 5) hB hb2 (bs' := bs ++ [.int .u8 c]) (by simpa using hown') (by decide)
  · exact ((hb1.alloc (by have := hb1.size; omega) _).grown hgrow (by have := hb1.size; simp; omega) (fun k hk => (hown.lt k hk).1)).setCell (p := ⟨b, 1, none⟩) hB _
def lays169_ren : Go.Shelf.Ren := ⟨fun | 169 => 44 | n => n, fun | 70 => 86 | 9 => 9 | 0 => 0 | 72 => 88 | 37 => 22 | 127 => 104 | 3 => 3 | 5 => 5 | n => n, fun | n => n⟩
theorem lays169 : Go.Proofs.Lays.n169 Tryd.prog lays169_ren := {
  mixed := by kernel_rfl
  f169 := Tryd.func44.trans (congrArg some (by kernel_rfl))
  t0 := Tryd.underlying0
  a0 := Tryd.isAgg0
  z0 := Tryd.sizeOf0
  v0 := Tryd.zeroValue0
  t3 := Tryd.underlying3
  a3 := Tryd.isAgg3
  z3 := Tryd.sizeOf3
  v3 := Tryd.zeroValue3
  t9 := Tryd.underlying9
  a9 := Tryd.isAgg9
  z9 := Tryd.sizeOf9
  v9 := Tryd.zeroValue9
  t37 := Tryd.underlying22
  a37 := Tryd.isAgg22
  z37 := Tryd.sizeOf22
  v37 := Tryd.zeroValue22
  t70 := Tryd.underlying86
  a70 := Tryd.isAgg86
  z70 := Tryd.sizeOf86
  v70 := Tryd.zeroValue86
  t72 := Tryd.underlying88
  a72 := Tryd.isAgg88
  z72 := Tryd.sizeOf88
  v72 := Tryd.zeroValue88
  t127 := Tryd.underlying104
  a127 := Tryd.isAgg104
  z127 := Tryd.sizeOf104
  v127 := Tryd.zeroValue104 }
theorem extra169 : Builder.Extra Tryd.prog lays169_ren := {
  sizeBuilder := by kernel_rfl
  liesBuilder := by kernel_rfl
  t5 := Tryd.underlying5
  a5 := Tryd.isAgg5
  z5 := Tryd.sizeOf5
  v5 := Tryd.zeroValue5
  infoByte := by kernel_rfl
  cellsByte := by kernel_rfl
  sizeByte := by kernel_rfl
  neB5 := by decide }
theorem String (B b : Nat) (l : List UInt8) (w : World) (h : Lib.IsBuilder 88 5 B b (Lib.byteCells l) w) (hBw : B ≤ w.heap.size) :
    Calls Tryd.prog 44 #[.pointer (some ⟨b, 0, none⟩)] w fun e w' => e = .returned (.string ⟨l.toArray⟩) ∧ Below B w w' := Any.Builder_String_any lays169 extra169 B b l w h hBw
end Go.Proofs.YtabdnlecpndfjaaDoor.Bld
namespace Go.Proofs.YtabdnlecpndfjaaDoor.Bt
theorem wraps_u64 (n : Int) (h0 : 0 ≤ n) (h1 : n < 2 ^ 64) : IntKind.u64.wrap n = n := by
  have e : IntKind.u64.wrap n = n % 18446744073709551616 := by simp [IntKind.wrap, IntKind.bits, IntKind.signed]
  rw [e]; omega
theorem wraps_u32 (n : Int) (h0 : 0 ≤ n) (h1 : n < 2 ^ 32) : IntKind.u32.wrap n = n := by rw [IntKind.wrap_u32]; omega
theorem or_u64 (i : Nat) (x y : Int) (h0 : 0 ≤ x) (hx : x % 2 ^ i = 0) (h1 : x < 2 ^ 64) (h2 : 0 ≤ y) (h3 : y < 2 ^ i) (h4 : y < 2 ^ 64) : bits .or .u64 x y = x + y :=
  bits_join .u64 64 (by decide) wraps_u64 i x y h0 hx h1 h2 h3 h4
theorem or_u32 (i : Nat) (x y : Int) (h0 : 0 ≤ x) (hx : x % 2 ^ i = 0) (h1 : x < 2 ^ 32) (h2 : 0 ≤ y) (h3 : y < 2 ^ i) (h4 : y < 2 ^ 32) : bits .or .u32 x y = x + y :=
  bits_join .u32 32 (by decide) wraps_u32 i x y h0 hx h1 h2 h3 h4
theorem mask_u64 (i : Nat) (hi : i ≤ 64) (x : Int) (h0 : 0 ≤ x) (h1 : x < 2 ^ 64) : bits .and .u64 x (2 ^ i - 1) = x % 2 ^ i :=
  bits_mask .u64 64 (by decide) wraps_u64 i hi x h0 h1
theorem or_256 (h x : Int) (h0 : 0 ≤ h) (h1 : h < 72057594037927936) (h2 : 0 ≤ x) (h3 : x ≤ 255) : bits .or .u64 (h * 256) x = h * 256 + x :=
  or_u64 8 _ _ (by omega) (by omega) (by omega) h2 (by omega) (by omega)
theorem and_31 (x : Int) (h0 : 0 ≤ x) (h1 : x < 18446744073709551616) : bits .and .u64 x 31 = x % 32 := mask_u64 5 (by decide) x h0 (by omega)
theorem low_u64 (n : Int) (h0 : 0 ≤ n) (h1 : n < 64) : IntKind.u64.wrap (IntKind.u64.wrap (2 ^ n.toNat) - 1) = 2 ^ n.toNat - 1 := by
  obtain ⟨m, rfl⟩ := Int.eq_ofNat_of_zero_le h0
  have hm : m < 64 := by omega
  have h2 : (2 : Int) ^ m < 2 ^ 64 := by exact_mod_cast Nat.pow_lt_pow_right (by decide : 1 < 2) hm
  have h3 : (0 : Int) < 2 ^ m := Int.pow_pos (by decide)
  rw [Int.toNat_natCast, wraps_u64 _ (by omega) h2, wraps_u64 _ (by omega) (by omega)]
theorem mask_low (h n : Int) (h0 : 0 ≤ h) (h1 : h < 2 ^ 64) (n0 : 0 ≤ n) (n1 : n < 64) : bits .and .u64 h (IntKind.u64.wrap (IntKind.u64.wrap (2 ^ n.toNat) - 1)) = h % 2 ^ n.toNat := by
  rw [low_u64 n n0 n1]
  exact mask_u64 n.toNat (by omega) h h0 h1
theorem mod_pow_lt (h : Int) (n m : Nat) (hn : n ≤ m) : 0 ≤ h % 2 ^ n ∧ h % 2 ^ n < 2 ^ m := by
  have h3 : (0 : Int) < 2 ^ n := Int.pow_pos (by decide)
  have h4 : (2 : Int) ^ n ≤ 2 ^ m := by exact_mod_cast Nat.pow_le_pow_right (by decide) hn
  have := Int.emod_nonneg h (by omega : (2 : Int) ^ n ≠ 0)
  have := Int.emod_lt_of_pos h h3
  omega
end Go.Proofs.YtabdnlecpndfjaaDoor.Bt
set_option linter.unusedVariables false
set_option linter.unusedSimpArgs false
namespace Go.Proofs.YtabdnlecpndfjaaDoor
open Go.RowKit Go.Proofs.YtabdnlecpndfjaaDoorW.PrintWords
def sgs : List UInt8 := [97, 98, 99, 100, 101, 102, 103, 104, 105, 106, 107, 108, 109, 110, 111, 112, 113, 114, 115, 116, 117, 118, 119, 120, 121, 122, 50, 51, 52, 53, 54, 55]
def sg (i : Int) : UInt8 := sgs.getD i.toNat 0
def spell_Write.inn : Nat → Int → Int → List UInt8 → List UInt8 × Int
  | 0, _, n, o => (o, n)
  | k + 1, h, n, o => if 5 ≤ n then spell_Write.inn k h (n - 5) (o ++ [sg (h / 2 ^ (n - 5).toNat % 32)]) else (o, n)
def spell_Write.go : List Int → Int → Int → List UInt8 → List UInt8 × Int × Int
  | [], h, n, o => (o, h, n)
  | x :: xs, h, n, o => spell_Write.go xs ((h * 256 + x) % 2 ^ (spell_Write.inn 3 (h * 256 + x) (n + 8) o).2.toNat) (spell_Write.inn 3 (h * 256 + x) (n + 8) o).2 (spell_Write.inn 3 (h * 256 + x) (n + 8) o).1
def spell_Write.fin (p : List UInt8 × Int × Int) : List UInt8 := if 0 < p.2.2 then p.1 ++ [sg (p.2.1 * 2 ^ (5 - p.2.2).toNat % 32)] else p.1
def spell_Write.f (l : List Int) : Option ByteArray := if l.length ≤ 1099511627776 ∧ ∀ x ∈ l, 0 ≤ x ∧ x ≤ 255 then some ⟨(spell_Write.fin (spell_Write.go l 0 0 [])).toArray⟩ else none
theorem sg_at (i : Int) (h0 : 0 ≤ i) (h1 : i < 32) (h : i.toNat < 32) : (Value.int .u8 ↑((ByteArray.mk #[97, 98, 99, 100, 101, 102, 103, 104, 105, 106, 107, 108, 109, 110, 111, 112, 113, 114, 115, 116, 117, 118, 119, 120, 121, 122, 50, 51, 52, 53, 54, 55])[i.toNat]'h).toNat) = .int .u8 ↑(sg i).toNat := by
  have e : (ByteArray.mk #[97, 98, 99, 100, 101, 102, 103, 104, 105, 106, 107, 108, 109, 110, 111, 112, 113, 114, 115, 116, 117, 118, 119, 120, 121, 122, 50, 51, 52, 53, 54, 55])[i.toNat]'h = sg i := by
    unfold sg sgs
    rw [List.getD_eq_getElem?_getD, List.getElem?_eq_getElem (by simpa using h)]
    rfl
  rw [e]
set_option maxHeartbeats 1000000 in
set_option maxRecDepth 100000 in
theorem spell_Write.calls (A0 : Option Addr) (c0 : Nat) (l0 : List Int) (r : ByteArray) (w : World) (hr0 : Kd.C (Kd.int .u8) w A0 l0.length l0) (hc0 : l0.length ≤ c0) (h : spell_Write.f l0 = some r) :
    Calls Tryd.prog 26 #[.slice A0 l0.length c0] w fun e w' => e = .returned (.string r) ∧ Below w.heap.size w w' := by
  have HR0 := Aside0.mk hr0
  clear hr0
  obtain ⟨hlen, hrng⟩ : l0.length ≤ 1099511627776 ∧ ∀ x ∈ l0, 0 ≤ x ∧ x ≤ 255 := by
    unfold spell_Write.f at h
    split at h
    · assumption
    · cases h
  have HF : Aside0 (⟨(spell_Write.fin (spell_Write.go l0 0 0 [])).toArray⟩ = r) := ⟨by
    unfold spell_Write.f at h
    rw [if_pos ⟨hlen, hrng⟩] at h
    exact Option.some.inj h⟩
  have HN := Aside0.mk hrng
  clear h hrng
  go_enter Tryd.func26, Tryd.ntmps26
  go_wp2_with fail
  go_loopw [4, 5, 7, 10] (fun v4 v5 v7 v10 wr => ∃ (k : Nat) (held hv : Int) (bs : List UInt8), v4 = .int .u64 held ∧ v5 = .int .i64 hv ∧ v10 = .int .i64 k ∧ 0 ≤ held ∧ held < 32 ∧ 0 ≤ hv ∧ hv < 5 ∧ k ≤ l0.length ∧ bs.length ≤ 2 * k ∧ Aside0 (spell_Write.go (l0.drop k) held hv bs = spell_Write.go l0 0 0 []) ∧ Aside0 (Lib.IsBuilder 88 5 w.heap.size w.heap.size (Lib.byteCells bs) wr) ∧ Aside0 (Below w.heap.size w wr)) (fun _ _ _ i _ => l0.length - (intOf i).toNat)
  case atStart => exact ⟨0, 0, 0, [], rfl, rfl, rfl, by omega, by omega, by omega, by omega, Nat.zero_le _, Nat.zero_le _, ⟨by simp⟩, ⟨Lib.fresh_isBuilder _ _ _⟩, ⟨below_alloc (Below.refl _ _) _⟩⟩
  case round =>
    obtain ⟨k, held, hv, bs, rfl, rfl, rfl, hh0, hh1, hv0, hv1, hk, hbl, HG, HB, HW⟩ := hrel
    by_cases hlt : k < l0.length
    · obtain ⟨ad, e, hx⟩ := Kd.at_int HR0.out k (by omega) (by omega)
      cases e
      have hx' : wr.cell? (ad.add k) = some (.int .u8 (rd l0 k)) := by simpa using (HW.out.cell (World.block_lt_of_cell? w _ hx)).trans hx
      clear hx
      have hrd : rd l0 ↑k = l0[k] := by simp [rd, List.getD_eq_getElem?_getD, List.getElem?_eq_getElem hlt]
      obtain ⟨hx0, hx1⟩ : 0 ≤ rd l0 ↑k ∧ rd l0 ↑k ≤ 255 := by rw [hrd]; exact HN.out _ (List.getElem_mem hlt)
      have HD : Aside0 (l0.drop k = rd l0 k :: l0.drop (k + 1)) := ⟨by rw [hrd]; exact List.drop_eq_getElem_cons hlt⟩
      clear hrd
      obtain ⟨x, HX⟩ : ∃ x, Aside0 (rd l0 ↑k = x) := ⟨_, ⟨rfl⟩⟩
      rw [HX.out] at hx' hx0 hx1
      rw [HX.out] at HD
      have HO := Aside0.mk (Bt.or_256 held x hh0 (by omega) hx0 hx1)
      go_wp2_with fail
      rw [HO.out]
      obtain ⟨hw, HH⟩ : ∃ hw, Aside0 (held * 256 + x = hw) := ⟨_, ⟨rfl⟩⟩
      have hw0 : 0 ≤ hw := by rw [← HH.out]; omega
      have hw1 : hw < 8192 := by rw [← HH.out]; omega
      rw [HH.out]
      obtain ⟨wo, rfl⟩ : ∃ wo : World, wo = wr := ⟨_, rfl⟩
      go_loopw [5] (fun v5 wr => ∃ (j : Nat) (n : Int) (o : List UInt8), v5 = .int .i64 n ∧ 0 ≤ n ∧ n ≤ 12 ∧ n < 5 * j ∧ o.length ≤ 2 * k + 2 ∧ Aside0 (5 ≤ n → o.length ≤ 2 * k + 1) ∧ Aside0 (10 ≤ n → o.length ≤ 2 * k) ∧ Aside0 (spell_Write.inn j hw n o = spell_Write.inn 3 hw (hv + 8) bs) ∧ Aside0 (Lib.IsBuilder 88 5 w.heap.size w.heap.size (Lib.byteCells o) wr) ∧ Aside0 (Below w.heap.size w wr)) (fun i _ => (intOf i).toNat)
      case atStart => exact ⟨3, hv + 8, bs, rfl, by omega, by omega, by omega, by omega, ⟨fun _ => by omega⟩, ⟨fun _ => by omega⟩, ⟨rfl⟩, HB, HW⟩
      case round =>
        clear HB HW
        obtain ⟨j, n, o, rfl, hn0, hn1, hn2, hol, HL1, HL2, HI, HB, HW⟩ := hrel
        by_cases h5 : 5 ≤ n
        · obtain ⟨j, rfl⟩ : ∃ m, j = m + 1 := ⟨j - 1, by omega⟩
          obtain ⟨y, HY⟩ : ∃ y, Aside0 (hw / 2 ^ (n - 5).toNat % 32 = y) := ⟨_, ⟨rfl⟩⟩
          have hq0 : 0 ≤ hw / 2 ^ (n - 5).toNat := Int.ediv_nonneg hw0 (Int.le_of_lt (Int.pow_pos (by decide)))
          have hq1 : hw / 2 ^ (n - 5).toNat ≤ hw := Int.ediv_le_self _ hw0
          have hy0 : 0 ≤ y := by rw [← HY.out]; omega
          have hy1 : y < 32 := by rw [← HY.out]; omega
          have ha : bits .and .u64 (hw / 2 ^ (n - 5).toNat) 31 = y := by rw [Bt.and_31 _ hq0 (by omega), HY.out]
          have hyt : y.toNat < 32 := by omega
          clear hq0 hq1
          have hlen2 : (Lib.byteCells o).length + 1 ≤ 140737488355328 := by rw [Lib.byteCells_length]; omega
          have hB := HW.out.size
          go_wp2_with fail
          rw [sg_at y hy0 hy1 hyt]
          refine (Bld.WriteByte _ _ _ _ _ HB.out hlen2 hB).mono ?_
          rintro e w1 ⟨rfl, h1, hb1⟩
          have H1 := Aside0.mk (show Lib.IsBuilder 88 5 w.heap.size w.heap.size (Lib.byteCells (o ++ [sg y])) w1 from by
            have e1 : Lib.byteCells (o ++ [sg y]) = Lib.byteCells o ++ [.int .u8 ↑(sg y).toNat] := by simp [Lib.byteCells]
            rw [e1]
            exact .inr h1)
          have H2 := Aside0.mk (HW.out.trans hb1)
          clear h1 hb1
          go_wp2_with fail
          refine ⟨⟨j, n - 5, o ++ [sg y], rfl, by omega, by omega, by omega, ?_, ⟨?_⟩, ⟨?_⟩, ⟨?_⟩, H1, H2⟩, by simp [intOf]; omega⟩
          · have := HL1.out h5; simp; omega
          · intro h6; have := HL2.out (by omega); simp; omega
          · omega
          · rw [← HI.out, spell_Write.inn, if_pos h5, HY.out]
        · go_wp2_with fail
          obtain ⟨j, rfl⟩ : ∃ m, j = m + 1 := ⟨j - 1, by omega⟩
          have hI := HI.out
          rw [spell_Write.inn, if_neg h5] at hI
          have hm := Bt.mod_pow_lt hw n.toNat 5 (by omega)
          refine ⟨⟨k + 1, hw % 2 ^ n.toNat, n, o, ?_, rfl, rfl, hm.1, hm.2, hn0, by omega, by omega, by omega, ⟨?_⟩, HB, HW⟩, by simp [intOf]; omega⟩
          · rw [Bt.mask_low hw n hw0 (by omega) hn0 (by omega)]
          · rw [← HG.out, HD.out, spell_Write.go, HH.out, ← hI]
    · obtain rfl : k = l0.length := by omega
      have hG : (bs, held, hv) = spell_Write.go l0 0 0 [] := by rw [← HG.out, List.drop_of_length_le (Nat.le_refl _), spell_Write.go]
      have hF := HF.out
      rw [← hG] at hF
      clear hG
      have HF2 := Aside0.mk hF
      clear hF HF HG
      have hB := HW.out.size
      by_cases hp : 0 < hv
      · obtain ⟨y, HY⟩ : ∃ y, Aside0 (held * 2 ^ (5 - hv).toNat % 32 = y) := ⟨_, ⟨rfl⟩⟩
        have hpow : (2 : Int) ^ (5 - hv).toNat ≤ 2 ^ 5 := by exact_mod_cast Nat.pow_le_pow_right (by decide) (show (5 - hv).toNat ≤ 5 by omega)
        have hpos : (0 : Int) < 2 ^ (5 - hv).toNat := Int.pow_pos (by decide)
        have hq0 : 0 ≤ held * 2 ^ (5 - hv).toNat := Int.mul_nonneg hh0 (by omega)
        have hq1 : held * 2 ^ (5 - hv).toNat ≤ 31 * 2 ^ 5 := Int.mul_le_mul (by omega) hpow (by omega) (by omega)
        have hy0 : 0 ≤ y := by rw [← HY.out]; omega
        have hy1 : y < 32 := by rw [← HY.out]; omega
        have hwr : IntKind.u64.wrap (held * 2 ^ (5 - hv).toNat) = held * 2 ^ (5 - hv).toNat := Bt.wraps_u64 _ hq0 (by omega)
        have ha : bits .and .u64 (held * 2 ^ (5 - hv).toNat) 31 = y := by rw [Bt.and_31 _ hq0 (by omega), HY.out]
        have hyt : y.toNat < 32 := by omega
        have hlen2 : (Lib.byteCells bs).length + 1 ≤ 140737488355328 := by rw [Lib.byteCells_length]; omega
        clear hq0 hq1 hpow hpos
        go_wp2_with fail
        rw [sg_at y hy0 hy1 hyt]
        refine (Bld.WriteByte _ _ _ _ _ HB.out hlen2 hB).mono ?_
        rintro e w1 ⟨rfl, h1, hb1⟩
        have H1 := Aside0.mk (show Lib.IsBuilder 88 5 w.heap.size w.heap.size (Lib.byteCells (bs ++ [sg y])) w1 from by
          have e1 : Lib.byteCells (bs ++ [sg y]) = Lib.byteCells bs ++ [.int .u8 ↑(sg y).toNat] := by simp [Lib.byteCells]
          rw [e1]
          exact .inr h1)
        have H2 := Aside0.mk (HW.out.trans hb1)
        have hB2 := H2.out.size
        clear h1 hb1
        go_wp2_with fail
        refine (Bld.String _ _ _ _ H1.out hB2).mono ?_
        rintro e w2 ⟨rfl, hb2⟩
        have H3 := Aside0.mk (H2.out.trans hb2)
        clear hb2
        go_wp2_with fail
        go_ret
        refine ⟨?_, H3.out⟩
        rw [← HF2.out, spell_Write.fin, if_pos hp, HY.out]
        rfl
      · go_wp2_with fail
        refine (Bld.String _ _ _ _ HB.out hB).mono ?_
        rintro e w2 ⟨rfl, hb2⟩
        have H3 := Aside0.mk (HW.out.trans hb2)
        clear hb2
        go_wp2_with fail
        go_ret
        refine ⟨?_, H3.out⟩
        rw [← HF2.out, spell_Write.fin, if_neg (by show ¬ 0 < hv; omega)]
        rfl
end Go.Proofs.YtabdnlecpndfjaaDoor
set_option linter.unusedVariables false
set_option linter.unusedSimpArgs false
namespace Go.Proofs.YtabdnlecpndfjaaDoor.Sp
open Go.RowKit
def bits8 (x : Int) : List Int := [x / 128 % 2, x / 64 % 2, x / 32 % 2, x / 16 % 2, x / 8 % 2, x / 4 % 2, x / 2 % 2, x % 2]
def bits5 (x : Int) : List Int := [x / 16 % 2, x / 8 % 2, x / 4 % 2, x / 2 % 2, x % 2]
def bitsOf (l : List Int) : List Int := l.flatMap bits8
def enc : List Int → List UInt8
  | [] => []
  | [a] => [sg (16 * a)]
  | [a, b] => [sg (16 * a + 8 * b)]
  | [a, b, c] => [sg (16 * a + 8 * b + 4 * c)]
  | [a, b, c, d] => [sg (16 * a + 8 * b + 4 * c + 2 * d)]
  | a :: b :: c :: d :: e :: r => sg (16 * a + 8 * b + 4 * c + 2 * d + e) :: enc r
def val (l : List Int) : Int := l.foldl (fun h b => 2 * h + b) 0
def Bits (l : List Int) : Prop := ∀ b ∈ l, 0 ≤ b ∧ b ≤ 1
def Bytes (l : List Int) : Prop := ∀ x ∈ l, 0 ≤ x ∧ x ≤ 255
theorem Bits8 (x : Int) : Bits (bits8 x) := by
  intro b hb
  simp only [bits8, List.mem_cons, List.not_mem_nil, or_false] at hb
  omega
theorem Bits5 (x : Int) : Bits (bits5 x) := by
  intro b hb
  simp only [bits5, List.mem_cons, List.not_mem_nil, or_false] at hb
  omega
theorem Bits.append {a b : List Int} (ha : Bits a) (hb : Bits b) : Bits (a ++ b) := fun x hx => (List.mem_append.1 hx).elim (ha x) (hb x)
theorem Bits.left {a b : List Int} (h : Bits (a ++ b)) : Bits a := fun x hx => h x (List.mem_append_left _ hx)
theorem Bits.right {a b : List Int} (h : Bits (a ++ b)) : Bits b := fun x hx => h x (List.mem_append_right _ hx)
theorem Bits.head {a : Int} {l : List Int} (h : Bits (a :: l)) : 0 ≤ a ∧ a ≤ 1 := h a List.mem_cons_self
theorem Bits.tail {a : Int} {l : List Int} (h : Bits (a :: l)) : Bits l := fun x hx => h x (List.mem_cons_of_mem _ hx)
theorem Bytes.head {a : Int} {l : List Int} (h : Bytes (a :: l)) : 0 ≤ a ∧ a ≤ 255 := h a List.mem_cons_self
theorem Bytes.tail {a : Int} {l : List Int} (h : Bytes (a :: l)) : Bytes l := fun x hx => h x (List.mem_cons_of_mem _ hx)
theorem bitsOf_cons (x : Int) (l : List Int) : bitsOf (x :: l) = bits8 x ++ bitsOf l := by simp [bitsOf]
theorem bitsOf_append (a b : List Int) : bitsOf (a ++ b) = bitsOf a ++ bitsOf b := by simp [bitsOf]
theorem bitsOf_length (l : List Int) : (bitsOf l).length = 8 * l.length := by
  induction l with
  | nil => rfl
  | cons x l ih => rw [bitsOf_cons, List.length_append, ih]; simp [bits8]; omega
theorem BitsOf (l : List Int) : Bits (bitsOf l) := by
  induction l with
  | nil => intro b hb; simp [bitsOf] at hb
  | cons x l ih => rw [bitsOf_cons]; exact (Bits8 x).append ih
theorem inn8 (h : Int) (o : List UInt8) : spell_Write.inn 3 h 8 o = (o ++ [sg (h / 8 % 32)], 3) := by simp [spell_Write.inn]
theorem inn9 (h : Int) (o : List UInt8) : spell_Write.inn 3 h 9 o = (o ++ [sg (h / 16 % 32)], 4) := by simp [spell_Write.inn]
theorem inn10 (h : Int) (o : List UInt8) : spell_Write.inn 3 h 10 o = (o ++ [sg (h / 32 % 32)] ++ [sg (h % 32)], 0) := by simp [spell_Write.inn]
theorem inn11 (h : Int) (o : List UInt8) : spell_Write.inn 3 h 11 o = (o ++ [sg (h / 64 % 32)] ++ [sg (h / 2 % 32)], 1) := by simp [spell_Write.inn]
theorem inn12 (h : Int) (o : List UInt8) : spell_Write.inn 3 h 12 o = (o ++ [sg (h / 128 % 32)] ++ [sg (h / 4 % 32)], 2) := by simp [spell_Write.inn]
theorem fin_pos (o : List UInt8) (h n : Int) (hn : 0 < n) : spell_Write.fin (o, h, n) = o ++ [sg (h * 2 ^ (5 - n).toNat % 32)] := if_pos hn
set_option maxHeartbeats 2000000 in
theorem go_spec (l : List Int) : ∀ (B : List Int) (o : List UInt8), Bytes l → Bits B → B.length < 5 → spell_Write.fin (spell_Write.go l (val B) B.length o) = o ++ enc (B ++ bitsOf l) := by
  induction l with
  | nil =>
    intro B o _ hB hl
    rw [show bitsOf [] = [] from rfl, List.append_nil]
    match B, hl with
    | [], _ => simp [spell_Write.go, spell_Write.fin, enc]
    | [a], _ =>
      have ha := hB.head
      show spell_Write.fin (o, val [a], 1) = o ++ [sg (16 * a)]
      rw [fin_pos _ _ _ (by decide), show val [a] * 2 ^ ((5 : Int) - 1).toNat % 32 = 16 * a by simp only [val, List.foldl]; show _ * 16 % 32 = _; omega]
    | [a, b], _ =>
      have ha := hB.head; have hb := hB.tail.head
      show spell_Write.fin (o, val [a, b], 2) = o ++ [sg (16 * a + 8 * b)]
      rw [fin_pos _ _ _ (by decide), show val [a, b] * 2 ^ ((5 : Int) - 2).toNat % 32 = 16 * a + 8 * b by simp only [val, List.foldl]; show _ * 8 % 32 = _; omega]
    | [a, b, c], _ =>
      have ha := hB.head; have hb := hB.tail.head; have hc := hB.tail.tail.head
      show spell_Write.fin (o, val [a, b, c], 3) = o ++ [sg (16 * a + 8 * b + 4 * c)]
      rw [fin_pos _ _ _ (by decide), show val [a, b, c] * 2 ^ ((5 : Int) - 3).toNat % 32 = 16 * a + 8 * b + 4 * c by simp only [val, List.foldl]; show _ * 4 % 32 = _; omega]
    | [a, b, c, d], _ =>
      have ha := hB.head; have hb := hB.tail.head; have hc := hB.tail.tail.head; have hd := hB.tail.tail.tail.head
      show spell_Write.fin (o, val [a, b, c, d], 4) = o ++ [sg (16 * a + 8 * b + 4 * c + 2 * d)]
      rw [fin_pos _ _ _ (by decide), show val [a, b, c, d] * 2 ^ ((5 : Int) - 4).toNat % 32 = 16 * a + 8 * b + 4 * c + 2 * d by simp only [val, List.foldl]; show _ * 2 % 32 = _; omega]
  | cons x l ih =>
    intro B o hl hB hb
    have hx := hl.head
    rw [bitsOf_cons]
    match B, hb with
    | [], _ =>
      show spell_Write.fin (spell_Write.go l ((val [] * 256 + x) % 2 ^ (spell_Write.inn 3 (val [] * 256 + x) 8 o).2.toNat) (spell_Write.inn 3 (val [] * 256 + x) 8 o).2 (spell_Write.inn 3 (val [] * 256 + x) 8 o).1) = _
      rw [inn8]
      have e1 : (val [] * 256 + x) % 2 ^ (3 : Int).toNat = val [x / 4 % 2, x / 2 % 2, x % 2] := by simp only [val, List.foldl]; show _ % 8 = _; omega
      have e2 : (val [] * 256 + x) / 8 % 32 = 16 * (x / 128 % 2) + 8 * (x / 64 % 2) + 4 * (x / 32 % 2) + 2 * (x / 16 % 2) + x / 8 % 2 := by simp only [val, List.foldl]; omega
      have h := ih [x / 4 % 2, x / 2 % 2, x % 2] (o ++ [sg (16 * (x / 128 % 2) + 8 * (x / 64 % 2) + 4 * (x / 32 % 2) + 2 * (x / 16 % 2) + x / 8 % 2)]) hl.tail (by intro b hb; simp at hb; omega) (by simp)
      rw [e1, e2]
      refine Eq.trans h ?_
      simp [bits8, enc]
    | [a], _ =>
      have ha := hB.head
      show spell_Write.fin (spell_Write.go l ((val [a] * 256 + x) % 2 ^ (spell_Write.inn 3 (val [a] * 256 + x) 9 o).2.toNat) (spell_Write.inn 3 (val [a] * 256 + x) 9 o).2 (spell_Write.inn 3 (val [a] * 256 + x) 9 o).1) = _
      rw [inn9]
      have e1 : (val [a] * 256 + x) % 2 ^ (4 : Int).toNat = val [x / 8 % 2, x / 4 % 2, x / 2 % 2, x % 2] := by simp only [val, List.foldl]; show _ % 16 = _; omega
      have e2 : (val [a] * 256 + x) / 16 % 32 = 16 * a + 8 * (x / 128 % 2) + 4 * (x / 64 % 2) + 2 * (x / 32 % 2) + x / 16 % 2 := by simp only [val, List.foldl]; omega
      have h := ih [x / 8 % 2, x / 4 % 2, x / 2 % 2, x % 2] (o ++ [sg (16 * a + 8 * (x / 128 % 2) + 4 * (x / 64 % 2) + 2 * (x / 32 % 2) + x / 16 % 2)]) hl.tail (by intro b hb; simp at hb; omega) (by simp)
      rw [e1, e2]
      refine Eq.trans h ?_
      simp [bits8, enc]
    | [a, b], _ =>
      have ha := hB.head; have hb := hB.tail.head
      show spell_Write.fin (spell_Write.go l ((val [a, b] * 256 + x) % 2 ^ (spell_Write.inn 3 (val [a, b] * 256 + x) 10 o).2.toNat) (spell_Write.inn 3 (val [a, b] * 256 + x) 10 o).2 (spell_Write.inn 3 (val [a, b] * 256 + x) 10 o).1) = _
      rw [inn10]
      have e1 : (val [a, b] * 256 + x) % 2 ^ (0 : Int).toNat = val [] := by simp [val]
      have e2 : (val [a, b] * 256 + x) / 32 % 32 = 16 * a + 8 * b + 4 * (x / 128 % 2) + 2 * (x / 64 % 2) + x / 32 % 2 := by simp only [val, List.foldl]; omega
      have e3 : (val [a, b] * 256 + x) % 32 = 16 * (x / 16 % 2) + 8 * (x / 8 % 2) + 4 * (x / 4 % 2) + 2 * (x / 2 % 2) + x % 2 := by simp only [val, List.foldl]; omega
      have h := ih [] (o ++ [sg (16 * a + 8 * b + 4 * (x / 128 % 2) + 2 * (x / 64 % 2) + x / 32 % 2)] ++ [sg (16 * (x / 16 % 2) + 8 * (x / 8 % 2) + 4 * (x / 4 % 2) + 2 * (x / 2 % 2) + x % 2)]) hl.tail (by intro b hb; simp at hb) (by simp)
      rw [e1, e2, e3]
      refine Eq.trans h ?_
      simp [bits8, enc]
    | [a, b, c], _ =>
      have ha := hB.head; have hb := hB.tail.head; have hc := hB.tail.tail.head
      show spell_Write.fin (spell_Write.go l ((val [a, b, c] * 256 + x) % 2 ^ (spell_Write.inn 3 (val [a, b, c] * 256 + x) 11 o).2.toNat) (spell_Write.inn 3 (val [a, b, c] * 256 + x) 11 o).2 (spell_Write.inn 3 (val [a, b, c] * 256 + x) 11 o).1) = _
      rw [inn11]
      have e1 : (val [a, b, c] * 256 + x) % 2 ^ (1 : Int).toNat = val [x % 2] := by simp only [val, List.foldl]; show _ % 2 = _; omega
      have e2 : (val [a, b, c] * 256 + x) / 64 % 32 = 16 * a + 8 * b + 4 * c + 2 * (x / 128 % 2) + x / 64 % 2 := by simp only [val, List.foldl]; omega
      have e3 : (val [a, b, c] * 256 + x) / 2 % 32 = 16 * (x / 32 % 2) + 8 * (x / 16 % 2) + 4 * (x / 8 % 2) + 2 * (x / 4 % 2) + x / 2 % 2 := by simp only [val, List.foldl]; omega
      have h := ih [x % 2] (o ++ [sg (16 * a + 8 * b + 4 * c + 2 * (x / 128 % 2) + x / 64 % 2)] ++ [sg (16 * (x / 32 % 2) + 8 * (x / 16 % 2) + 4 * (x / 8 % 2) + 2 * (x / 4 % 2) + x / 2 % 2)]) hl.tail (by intro b hb; simp at hb; omega) (by simp)
      rw [e1, e2, e3]
      refine Eq.trans h ?_
      simp [bits8, enc]
    | [a, b, c, d], _ =>
      have ha := hB.head; have hb := hB.tail.head; have hc := hB.tail.tail.head; have hd := hB.tail.tail.tail.head
      show spell_Write.fin (spell_Write.go l ((val [a, b, c, d] * 256 + x) % 2 ^ (spell_Write.inn 3 (val [a, b, c, d] * 256 + x) 12 o).2.toNat) (spell_Write.inn 3 (val [a, b, c, d] * 256 + x) 12 o).2 (spell_Write.inn 3 (val [a, b, c, d] * 256 + x) 12 o).1) = _
      rw [inn12]
      have e1 : (val [a, b, c, d] * 256 + x) % 2 ^ (2 : Int).toNat = val [x / 2 % 2, x % 2] := by simp only [val, List.foldl]; show _ % 4 = _; omega
      have e2 : (val [a, b, c, d] * 256 + x) / 128 % 32 = 16 * a + 8 * b + 4 * c + 2 * d + x / 128 % 2 := by simp only [val, List.foldl]; omega
      have e3 : (val [a, b, c, d] * 256 + x) / 4 % 32 = 16 * (x / 64 % 2) + 8 * (x / 32 % 2) + 4 * (x / 16 % 2) + 2 * (x / 8 % 2) + x / 4 % 2 := by simp only [val, List.foldl]; omega
      have h := ih [x / 2 % 2, x % 2] (o ++ [sg (16 * a + 8 * b + 4 * c + 2 * d + x / 128 % 2)] ++ [sg (16 * (x / 64 % 2) + 8 * (x / 32 % 2) + 4 * (x / 16 % 2) + 2 * (x / 8 % 2) + x / 4 % 2)]) hl.tail (by intro b hb; simp at hb; omega) (by simp)
      rw [e1, e2, e3]
      refine Eq.trans h ?_
      simp [bits8, enc]
theorem write_is (l : List Int) (hl : l.length ≤ 1099511627776) (hb : Bytes l) : spell_Write.f l = some ⟨(enc (bitsOf l)).toArray⟩ := by
  unfold spell_Write.f
  rw [if_pos ⟨hl, hb⟩]
  have h := go_spec l [] [] hb (by intro b h; simp at h) (by simp)
  have e : spell_Write.go l (val []) (([] : List Int).length : Nat) [] = spell_Write.go l 0 0 [] := rfl
  rw [e] at h
  rw [h]
  rfl
theorem five {P : List Int → Prop} (h0 : P []) (h1 : ∀ a, P [a]) (h2 : ∀ a b, P [a, b]) (h3 : ∀ a b c, P [a, b, c]) (h4 : ∀ a b c d, P [a, b, c, d])
    (h5 : ∀ a b c d e r, P r → P (a :: b :: c :: d :: e :: r)) : ∀ l, P l
  | [] => h0
  | [a] => h1 a
  | [a, b] => h2 a b
  | [a, b, c] => h3 a b c
  | [a, b, c, d] => h4 a b c d
  | a :: b :: c :: d :: e :: r => h5 a b c d e r (five h0 h1 h2 h3 h4 h5 r)
theorem enc_length (B : List Int) : (enc B).length = (B.length + 4) / 5 := by
  refine five (P := fun B => (enc B).length = (B.length + 4) / 5) rfl (fun _ => by simp [enc]) (fun _ _ => by simp [enc]) (fun _ _ _ => by simp [enc]) (fun _ _ _ _ => by simp [enc]) ?_ B
  intro a b c d e r ih
  simp only [enc, List.length_cons, ih]
  omega
theorem enc_step (B : List Int) (h : B ≠ []) : enc B = sg (16 * B.getD 0 0 + 8 * B.getD 1 0 + 4 * B.getD 2 0 + 2 * B.getD 3 0 + B.getD 4 0) :: enc (B.drop 5) := by
  match B, h with
  | [a], _ => simp [enc]
  | [a, b], _ => simp [enc]
  | [a, b, c], _ => simp [enc]
  | [a, b, c, d], _ => simp [enc]
  | a :: b :: c :: d :: e :: r, _ => simp [enc]
theorem sg_inj : ∀ i j : Int, 0 ≤ i → i < 32 → 0 ≤ j → j < 32 → sg i = sg j → i = j := by
  have h : ∀ i j : Fin 32, sg (i.val : Int) = sg (j.val : Int) → i = j := by decide
  intro i j h0 h1 h2 h3 e
  have := h ⟨i.toNat, by omega⟩ ⟨j.toNat, by omega⟩ (by show sg ((i.toNat : Nat) : Int) = sg ((j.toNat : Nat) : Int); rw [Int.toNat_of_nonneg h0, Int.toNat_of_nonneg h2]; exact e)
  have h4 : i.toNat = j.toNat := congrArg Fin.val this
  omega
theorem enc_pad (B : List Int) : ∀ z, z < 5 → (B.length + z) % 5 = 0 → enc (B ++ List.replicate z 0) = enc B := by
  refine five (P := fun B => ∀ z, z < 5 → (B.length + z) % 5 = 0 → enc (B ++ List.replicate z 0) = enc B) ?_ ?_ ?_ ?_ ?_ ?_ B
  · intro z hz h; obtain rfl : z = 0 := by simp at h; omega
    rfl
  · intro a z hz h; obtain rfl : z = 4 := by simp at h; omega
    simp [enc, List.replicate]
  · intro a b z hz h; obtain rfl : z = 3 := by simp at h; omega
    simp [enc, List.replicate]
  · intro a b c z hz h; obtain rfl : z = 2 := by simp at h; omega
    simp [enc, List.replicate]
  · intro a b c d z hz h; obtain rfl : z = 1 := by simp at h; omega
    simp [enc, List.replicate]
  · intro a b c d e r ih z hz h
    simp only [List.cons_append, enc]
    rw [ih z hz (by simp only [List.length_cons] at h; omega)]
theorem val_zero (R : List Int) (h : Bits R) (hv : val R = 0) : R = List.replicate R.length 0 := by
  have key : ∀ (R : List Int) (a : Int), Bits R → 0 ≤ a → R.foldl (fun h b => 2 * h + b) a = 0 → a = 0 ∧ R = List.replicate R.length 0 := by
    intro R
    induction R with
    | nil => intro a _ _ h; exact ⟨h, rfl⟩
    | cons b R ih =>
      intro a hb ha h
      obtain ⟨h1, h2⟩ := ih (2 * a + b) hb.tail (by have := hb.head; omega) h
      have := hb.head
      refine ⟨by omega, ?_⟩
      obtain rfl : b = 0 := by omega
      rw [List.length_cons, List.replicate_succ, ← h2]
  exact (key R 0 h (Int.le_refl _) hv).2
theorem val_replicate (n : Nat) : val (List.replicate n 0) = 0 := by
  have key : ∀ n, (List.replicate n (0 : Int)).foldl (fun h b => 2 * h + b) 0 = 0 := by
    intro n
    induction n with
    | zero => rfl
    | succ n ih => rw [List.replicate_succ, List.foldl_cons]; exact ih
  exact key n
theorem enc_same (B : List Int) : ∀ R, Bits B → Bits R → (B.length + R.length) % 5 = 0 → enc (B ++ R) = enc B → R.length < 5 ∧ val R = 0 := by
  refine five (P := fun B => ∀ R, Bits B → Bits R → (B.length + R.length) % 5 = 0 → enc (B ++ R) = enc B → R.length < 5 ∧ val R = 0) ?_ ?_ ?_ ?_ ?_ ?_ B
  · intro R _ _ _ h
    have h1 := congrArg List.length h
    rw [List.nil_append, enc_length] at h1
    have : R = [] := List.eq_nil_of_length_eq_zero (by simp [enc] at h1; omega)
    subst this
    exact ⟨by simp, rfl⟩
  · intro a R hB hR hl h
    have h1 := congrArg List.length h
    rw [enc_length] at h1
    simp [enc] at h1 hl
    match R, hR, h, (by omega : R.length = 4) with
    | [p, q, r, s], hR, h, _ =>
      have ha := hB.head; have hp := hR.head; have hq := hR.tail.head; have hr := hR.tail.tail.head; have hs := hR.tail.tail.tail.head
      simp only [List.cons_append, List.nil_append, enc, List.cons.injEq, and_true] at h
      have := sg_inj _ _ (by omega) (by omega) (by omega) (by omega) h
      exact ⟨by simp, by simp only [val, List.foldl]; omega⟩
  · intro a b R hB hR hl h
    have h1 := congrArg List.length h
    rw [enc_length] at h1
    simp [enc] at h1 hl
    match R, hR, h, (by omega : R.length = 3) with
    | [q, r, s], hR, h, _ =>
      have ha := hB.head; have hb := hB.tail.head; have hq := hR.head; have hr := hR.tail.head; have hs := hR.tail.tail.head
      simp only [List.cons_append, List.nil_append, enc, List.cons.injEq, and_true] at h
      have := sg_inj _ _ (by omega) (by omega) (by omega) (by omega) h
      exact ⟨by simp, by simp only [val, List.foldl]; omega⟩
  · intro a b c R hB hR hl h
    have h1 := congrArg List.length h
    rw [enc_length] at h1
    simp [enc] at h1 hl
    match R, hR, h, (by omega : R.length = 2) with
    | [r, s], hR, h, _ =>
      have ha := hB.head; have hb := hB.tail.head; have hc := hB.tail.tail.head; have hr := hR.head; have hs := hR.tail.head
      simp only [List.cons_append, List.nil_append, enc, List.cons.injEq, and_true] at h
      have := sg_inj _ _ (by omega) (by omega) (by omega) (by omega) h
      exact ⟨by simp, by simp only [val, List.foldl]; omega⟩
  · intro a b c d R hB hR hl h
    have h1 := congrArg List.length h
    rw [enc_length] at h1
    simp [enc] at h1 hl
    match R, hR, h, (by omega : R.length = 1) with
    | [s], hR, h, _ =>
      have ha := hB.head; have hb := hB.tail.head; have hc := hB.tail.tail.head; have hd := hB.tail.tail.tail.head; have hs := hR.head
      simp only [List.cons_append, List.nil_append, enc, List.cons.injEq, and_true] at h
      have := sg_inj _ _ (by omega) (by omega) (by omega) (by omega) h
      exact ⟨by simp, by simp only [val, List.foldl]; omega⟩
  · intro a b c d e r ih R hB hR hl h
    simp only [List.cons_append, enc, List.cons.injEq, true_and] at h
    exact ih R hB.tail.tail.tail.tail.tail hR (by simp only [List.length_cons] at hl; omega) h
def dg (c : Int) : Option Int := if 97 ≤ c ∧ c ≤ 122 then some (c - 97) else if 50 ≤ c ∧ c ≤ 55 then some (c - 50 + 26) else none
def digits : List Int → Option (List Int)
  | [] => some []
  | c :: cs => (dg c).bind fun d => (digits cs).map (d :: ·)
def take8 : List Int → List Int → List Int → List Int × List Int
  | [], o, R => (o, R)
  | d :: ds, o, R => if 8 ≤ R.length + 5 then take8 ds (o ++ [val ((R ++ bits5 d).take 8)]) ((R ++ bits5 d).drop 8) else take8 ds o (R ++ bits5 d)
theorem dg_range {c d : Int} (h : dg c = some d) : 0 ≤ d ∧ d < 32 := by
  unfold dg at h
  split at h
  · obtain rfl := Option.some.inj h; omega
  · split at h
    · obtain rfl := Option.some.inj h; omega
    · cases h
theorem sg_dg {c d : Int} (h : dg c = some d) : ((sg d).toNat : Int) = c := by
  have h1 : ∀ i : Fin 26, ((sg (i.val : Int)).toNat : Int) = i.val + 97 := by decide
  have h2 : ∀ i : Fin 6, ((sg ((i.val : Int) + 26)).toNat : Int) = i.val + 50 := by decide
  unfold dg at h
  split at h
  · obtain rfl := Option.some.inj h
    have := h1 ⟨(c - 97).toNat, by omega⟩
    simp only [Int.toNat_of_nonneg (show 0 ≤ c - 97 by omega)] at this
    omega
  · split at h
    · obtain rfl := Option.some.inj h
      have := h2 ⟨(c - 50).toNat, by omega⟩
      simp only [Int.toNat_of_nonneg (show 0 ≤ c - 50 by omega)] at this
      omega
    · cases h
theorem dg_sg (d : Int) (h0 : 0 ≤ d) (h1 : d < 32) : dg ((sg d).toNat : Int) = some d := by
  have h : ∀ i : Fin 32, dg ((sg (i.val : Int)).toNat : Int) = some (i.val : Int) := by decide
  have := h ⟨d.toNat, by omega⟩
  simpa only [Int.toNat_of_nonneg h0] using this
theorem val8 (a b c d e f g h : Int) (ha : 0 ≤ a ∧ a ≤ 1) (hb : 0 ≤ b ∧ b ≤ 1) (hc : 0 ≤ c ∧ c ≤ 1) (hd : 0 ≤ d ∧ d ≤ 1) (he : 0 ≤ e ∧ e ≤ 1) (hf : 0 ≤ f ∧ f ≤ 1) (hg : 0 ≤ g ∧ g ≤ 1) (hh : 0 ≤ h ∧ h ≤ 1) :
    bits8 (val [a, b, c, d, e, f, g, h]) = [a, b, c, d, e, f, g, h] ∧ 0 ≤ val [a, b, c, d, e, f, g, h] ∧ val [a, b, c, d, e, f, g, h] ≤ 255 := by
  have e : val [a, b, c, d, e, f, g, h] = 128 * a + 64 * b + 32 * c + 16 * d + 8 * e + 4 * f + 2 * g + h := by simp only [val, List.foldl]; omega
  rw [e]
  refine ⟨?_, by omega, by omega⟩
  simp only [bits8, List.cons.injEq, and_true]
  refine ⟨?_, ?_, ?_, ?_, ?_, ?_, ?_, ?_⟩ <;> omega
theorem val8_of (B : List Int) (hB : Bits B) (hl : B.length = 8) : bits8 (val B) = B ∧ 0 ≤ val B ∧ val B ≤ 255 := by
  match B, hl with
  | [a, b, c, d, e, f, g, h], _ => exact val8 a b c d e f g h hB.head hB.tail.head hB.tail.tail.head hB.tail.tail.tail.head hB.tail.tail.tail.tail.head hB.tail.tail.tail.tail.tail.head hB.tail.tail.tail.tail.tail.tail.head hB.tail.tail.tail.tail.tail.tail.tail.head
theorem take8_spec (ds : List Int) : ∀ o R, Bits R → R.length < 8 → Bytes o → bitsOf (take8 ds o R).1 ++ (take8 ds o R).2 = bitsOf o ++ R ++ ds.flatMap bits5 ∧ Bits (take8 ds o R).2 ∧ (take8 ds o R).2.length < 8 ∧ Bytes (take8 ds o R).1 ∧ (take8 ds o R).1.length ≤ o.length + ds.length := by
  induction ds with
  | nil => intro o R hR hl ho; simp [take8, hR, hl, ho]
  | cons d ds ih =>
    intro o R hR hl ho
    have hb : Bits (R ++ bits5 d) := hR.append (Bits5 d)
    have hlen : (R ++ bits5 d).length = R.length + 5 := by simp [bits5]
    rw [take8]
    split
    · rename_i h8
      have hb' : Bits ((R ++ bits5 d).take 8 ++ (R ++ bits5 d).drop 8) := by rw [List.take_append_drop]; exact hb
      obtain ⟨h1, h2, h3⟩ := val8_of _ hb'.left (by rw [List.length_take, hlen]; omega)
      obtain ⟨i1, i2, i3, i4, i5⟩ := ih (o ++ [val ((R ++ bits5 d).take 8)]) ((R ++ bits5 d).drop 8) hb'.right (by rw [List.length_drop, hlen]; omega) (fun x hx => by
        rcases List.mem_append.1 hx with hx | hx
        · exact ho x hx
        · rw [List.mem_singleton.1 hx]; exact ⟨h2, h3⟩)
      refine ⟨?_, i2, i3, i4, ?_⟩
      · rw [i1, bitsOf_append]
        have e : bitsOf [val ((R ++ bits5 d).take 8)] = (R ++ bits5 d).take 8 := by rw [bitsOf_cons, h1]; simp [bitsOf]
        rw [e]
        simp only [List.flatMap_cons]
        have : (R ++ bits5 d).take 8 ++ (R ++ bits5 d).drop 8 = R ++ bits5 d := List.take_append_drop 8 _
        rw [List.append_assoc (bitsOf o), this]
        simp [List.append_assoc]
      · simp at i5 ⊢; omega
    · obtain ⟨i1, i2, i3, i4, i5⟩ := ih o (R ++ bits5 d) hb (by rw [hlen]; omega) ho
      refine ⟨?_, i2, i3, i4, by simp; omega⟩
      rw [i1]
      simp [List.append_assoc]
theorem enc_digits (ds : List Int) (h : ∀ d ∈ ds, 0 ≤ d ∧ d < 32) : enc (ds.flatMap bits5) = ds.map sg := by
  induction ds with
  | nil => rfl
  | cons d ds ih =>
    have hd := h d List.mem_cons_self
    simp only [List.flatMap_cons, bits5, List.cons_append, List.nil_append, enc, List.map_cons]
    rw [show 16 * (d / 16 % 2) + 8 * (d / 8 % 2) + 4 * (d / 4 % 2) + 2 * (d / 2 % 2) + d % 2 = d by omega]
    congr 1
    exact ih (fun x hx => h x (List.mem_cons_of_mem _ hx))
theorem digits_of {cs ds : List Int} (h : digits cs = some ds) : (∀ d ∈ ds, 0 ≤ d ∧ d < 32) ∧ ds.map (fun d => ((sg d).toNat : Int)) = cs ∧ ds.length = cs.length := by
  induction cs generalizing ds with
  | nil => obtain rfl := Option.some.inj h; simp
  | cons c cs ih =>
    unfold digits at h
    obtain ⟨d, hd, h⟩ := Option.bind_eq_some_iff.1 h
    obtain ⟨ds', hds, rfl⟩ := Option.map_eq_some_iff.1 h
    obtain ⟨i1, i2, i3⟩ := ih hds
    refine ⟨?_, ?_, by simp [i3]⟩
    · intro x hx
      rcases List.mem_cons.1 hx with rfl | hx
      · exact dg_range hd
      · exact i1 x hx
    · rw [List.map_cons, i2, sg_dg hd]
theorem digits_map (ds : List Int) (h : ∀ d ∈ ds, 0 ≤ d ∧ d < 32) : digits (ds.map fun d => ((sg d).toNat : Int)) = some ds := by
  induction ds with
  | nil => rfl
  | cons d ds ih =>
    have hd := h d List.mem_cons_self
    rw [List.map_cons, digits, dg_sg d hd.1 hd.2, ih (fun x hx => h x (List.mem_cons_of_mem _ hx))]
    rfl
theorem flat5_length (ds : List Int) : (ds.flatMap bits5).length = 5 * ds.length := by
  induction ds with
  | nil => rfl
  | cons d ds ih => simp only [List.flatMap_cons, List.length_append, ih, bits5, List.length_cons, List.length_nil]; omega
def readOf (cs : List Int) : List Int × Int := match digits cs with
  | none => ([], 40)
  | some ds => if 5 ≤ (take8 ds [] []).2.length then ([], 40) else if val (take8 ds [] []).2 = 0 then ((take8 ds [] []).1, 0) else ([], 40)
theorem read_back {cs ds : List Int} (h : digits cs = some ds) : (enc (bitsOf (take8 ds [] []).1) = ds.map sg ↔ (take8 ds [] []).2.length < 5 ∧ val (take8 ds [] []).2 = 0) := by
  obtain ⟨h1, h2, h3⟩ := digits_of h
  obtain ⟨t1, t2, t3, t4, t5⟩ := take8_spec ds [] [] (by intro b h; simp at h) (by simp) (by intro b h; simp at h)
  have t1' : bitsOf (take8 ds [] []).1 ++ (take8 ds [] []).2 = ds.flatMap bits5 := by simpa [bitsOf] using t1
  have hlen : ((bitsOf (take8 ds [] []).1).length + (take8 ds [] []).2.length) % 5 = 0 := by rw [← List.length_append, t1', flat5_length]; omega
  have he : enc (bitsOf (take8 ds [] []).1 ++ (take8 ds [] []).2) = ds.map sg := by rw [t1', enc_digits ds h1]
  constructor
  · intro hs
    exact enc_same _ _ (BitsOf _) t2 hlen (he.trans hs.symm)
  · intro ⟨hs, hv⟩
    rw [← he]
    have hz := val_zero _ t2 hv
    rw [hz]
    exact (enc_pad _ _ hs hlen).symm
theorem bitsOf_inj : ∀ a b : List Int, Bytes a → Bytes b → bitsOf a = bitsOf b → a = b := by
  intro a
  induction a with
  | nil => intro b _ _ h; cases b with
    | nil => rfl
    | cons y b => rw [bitsOf_cons] at h; simp [bitsOf, bits8] at h
  | cons x a ih =>
    intro b ha hb h
    cases b with
    | nil => rw [bitsOf_cons] at h; simp [bitsOf, bits8] at h
    | cons y b =>
      have hx := ha.head; have hy := hb.head
      rw [bitsOf_cons, bitsOf_cons] at h
      simp only [bits8, List.cons_append, List.nil_append, List.cons.injEq] at h
      obtain ⟨e1, e2, e3, e4, e5, e6, e7, e8, h⟩ := h
      rw [ih b ha.tail hb.tail h]
      congr 1
      omega
theorem enc_is_digits (B : List Int) (hB : Bits B) : ∃ ds : List Int, ∃ z, z < 5 ∧ (∀ d ∈ ds, 0 ≤ d ∧ d < 32) ∧ enc B = ds.map sg ∧ ds.flatMap bits5 = B ++ List.replicate z 0 := by
  have key : Bits B → ∃ ds : List Int, ∃ z, z < 5 ∧ (∀ d ∈ ds, 0 ≤ d ∧ d < 32) ∧ enc B = ds.map sg ∧ ds.flatMap bits5 = B ++ List.replicate z 0 := by
    refine five (P := fun B => Bits B → ∃ ds : List Int, ∃ z, z < 5 ∧ (∀ d ∈ ds, 0 ≤ d ∧ d < 32) ∧ enc B = ds.map sg ∧ ds.flatMap bits5 = B ++ List.replicate z 0) ?_ ?_ ?_ ?_ ?_ ?_ B
    · intro _; exact ⟨[], 0, by decide, by simp, rfl, rfl⟩
    · intro a h
      have ha := h.head
      refine ⟨[16 * a], 4, by decide, by intro d hd; rw [List.mem_singleton.1 hd]; omega, rfl, ?_⟩
      simp only [List.flatMap_cons, List.flatMap_nil, List.append_nil, bits5, List.cons_append, List.nil_append, List.replicate, List.cons.injEq, and_true]
      omega
    · intro a b h
      have ha := h.head; have hb := h.tail.head
      refine ⟨[16 * a + 8 * b], 3, by decide, by intro d hd; rw [List.mem_singleton.1 hd]; omega, rfl, ?_⟩
      simp only [List.flatMap_cons, List.flatMap_nil, List.append_nil, bits5, List.cons_append, List.nil_append, List.replicate, List.cons.injEq, and_true]
      omega
    · intro a b c h
      have ha := h.head; have hb := h.tail.head; have hc := h.tail.tail.head
      refine ⟨[16 * a + 8 * b + 4 * c], 2, by decide, by intro d hd; rw [List.mem_singleton.1 hd]; omega, rfl, ?_⟩
      simp only [List.flatMap_cons, List.flatMap_nil, List.append_nil, bits5, List.cons_append, List.nil_append, List.replicate, List.cons.injEq, and_true]
      omega
    · intro a b c d h
      have ha := h.head; have hb := h.tail.head; have hc := h.tail.tail.head; have hd := h.tail.tail.tail.head
      refine ⟨[16 * a + 8 * b + 4 * c + 2 * d], 1, by decide, by intro d hd; rw [List.mem_singleton.1 hd]; omega, rfl, ?_⟩
      simp only [List.flatMap_cons, List.flatMap_nil, List.append_nil, bits5, List.cons_append, List.nil_append, List.replicate, List.cons.injEq, and_true]
      omega
    · intro a b c d e r ih h
      have ha := h.head; have hb := h.tail.head; have hc := h.tail.tail.head; have hd := h.tail.tail.tail.head; have he := h.tail.tail.tail.tail.head
      obtain ⟨ds, z, hz, h1, h2, h3⟩ := ih h.tail.tail.tail.tail.tail
      refine ⟨(16 * a + 8 * b + 4 * c + 2 * d + e) :: ds, z, hz, ?_, ?_, ?_⟩
      · intro x hx
        rcases List.mem_cons.1 hx with rfl | hx
        · omega
        · exact h1 x hx
      · simp only [enc, List.map_cons, h2]
      · simp only [List.flatMap_cons, h3, bits5, List.cons_append, List.nil_append, List.cons.injEq, and_true]
        omega
  exact key hB
theorem read_written (l : List Int) (hl : Bytes l) : readOf ((enc (bitsOf l)).map fun c => (c.toNat : Int)) = (l, 0) := by
  obtain ⟨ds, z, hz, h1, h2, h3⟩ := enc_is_digits _ (BitsOf l)
  rw [h2, List.map_map]
  unfold readOf
  have hd : digits (List.map ((fun c => (c.toNat : Int)) ∘ sg) ds) = some ds := digits_map ds h1
  rw [hd]
  obtain ⟨t1, t2, t3, t4, t5⟩ := take8_spec ds [] [] (by intro b h; simp at h) (by simp) (by intro b h; simp at h)
  have t1' : bitsOf (take8 ds [] []).1 ++ (take8 ds [] []).2 = bitsOf l ++ List.replicate z 0 := by rw [← h3]; simpa [bitsOf] using t1
  have hlen := congrArg List.length t1'
  simp only [List.length_append, bitsOf_length, List.length_replicate] at hlen
  have e1 : (take8 ds [] []).1.length = l.length := by omega
  have e2 : (take8 ds [] []).2.length = z := by omega
  have e3 := List.append_inj t1' (by rw [bitsOf_length, bitsOf_length, e1])
  have e4 : (take8 ds [] []).1 = l := bitsOf_inj _ _ t4 hl e3.1
  dsimp only
  rw [if_neg (by omega), e3.2, val_replicate, if_pos rfl, e4]
end Go.Proofs.YtabdnlecpndfjaaDoor.Sp
namespace Go.Proofs.YtabdnlecpndfjaaDoor.PBase
open Go.RowKit Go.Proofs.YtabdnlecpndfjaaDoorW.PrintWords Go.Proofs.YtabdnlecpndfjaaDoorW.PrintLast Go.Proofs.YtabdnlecpndfjaaDoorW.PrintMore
attribute [local go_sem] max2_int min2_int max_two min_two max_three min_three max_four min_four   -- for this text's walks alone
set_option linter.unusedVariables false
set_option linter.unusedSimpArgs false
def errW : Option Int → Value
 | none => .nilIface
 | some c => .iface 0 (.int .i64 c)
theorem errW_none : errW none = .nilIface := rfl
theorem errW_some (c : Int) : errW (some c) = .iface 0 (.int .i64 c) := rfl
theorem info5 : (Tryd.prog.info? 5).map (fun i => (i.zero, i.size, i.bytes)) = some (some (.int .u8 0), 1, 1) := by kernel_rfl
theorem info23 : (Tryd.prog.info? 23).map (fun i => (i.zero, i.size, i.bytes)) = some (some (.int .u32 0), 1, 4) := by kernel_rfl
theorem info42 : (Tryd.prog.info? 42).map (fun i => (i.zero, i.size, i.bytes)) = some (some (.agg #[(.int .u32 0), (.slice none 0 0), (.int .u64 0), (.int .u64 0), (.slice none 0 0)]), 5, 72) := by kernel_rfl
structure S42 where
 f0 : Int
 f1 : (List Int)
 f2 : Int
 f3 : Int
 f4 : (List Int)
def z42 : S42 := ⟨(0 : Int), ([] : List Int), (0 : Int), (0 : Int), ([] : List Int)⟩
def k42 : Kd S42 := Kd.iso (Kd.pair (Kd.int .u32) (Kd.pair (Kd.slice 5 (Kd.int .u8)) (Kd.pair (Kd.int .u64) (Kd.pair (Kd.int .u64) (Kd.slice 23 (Kd.int .u32)))))) (fun x : S42 => (x.f0, x.f1, x.f2, x.f3, x.f4))
theorem k42_open {w : World} {x : S42} {cs : List Value} (h : k42.K w x cs) : ∃ A1 c1 A4 c4, cs = [.int .u32 x.f0, .slice A1 x.f1.length c1, .int .u64 x.f2, .int .u64 x.f3, .slice A4 x.f4.length c4] ∧ x.f1.length ≤ c1 ∧ (Kd.int .u8).C w A1 x.f1.length x.f1 ∧ x.f4.length ≤ c4 ∧ (Kd.int .u32).C w A4 x.f4.length x.f4 := by
 obtain ⟨_, _, rfl, rfl, ⟨_, _, rfl, ⟨A1, c1, rfl, l1, g1⟩, ⟨_, _, rfl, rfl, ⟨_, _, rfl, rfl, ⟨A4, c4, rfl, l4, g4⟩⟩⟩⟩⟩ := h
 exact ⟨A1, c1, A4, c4, rfl, l1, g1, l4, g4⟩
theorem k42_openM {w : World} {base : Nat} {ok : Nat → Prop} {x : S42} {cs : List Value} (h : k42.M w base ok x cs) : ∃ v1 v4, cs = [.int .u32 x.f0, v1, .int .u64 x.f2, .int .u64 x.f3, v4] ∧ (Kd.int .u8).R 5 w base ok v1 x.f1 ∧ (Kd.int .u32).R 23 w base ok v4 x.f4 := by
 obtain ⟨_, _, rfl, rfl, ⟨_, _, rfl, ⟨v1, rfl, g1⟩, ⟨_, _, rfl, rfl, ⟨_, _, rfl, rfl, ⟨v4, rfl, g4⟩⟩⟩⟩⟩ := h
 exact ⟨v1, v4, rfl, g1, g4⟩
theorem k42_mk (w : World) (x : S42) {A1 : Option Addr} {c1 : Nat} (l1 : x.f1.length ≤ c1) (g1 : (Kd.int .u8).C w A1 x.f1.length x.f1) {A4 : Option Addr} {c4 : Nat} (l4 : x.f4.length ≤ c4) (g4 : (Kd.int .u32).C w A4 x.f4.length x.f4) : k42.K w x [.int .u32 x.f0, .slice A1 x.f1.length c1, .int .u64 x.f2, .int .u64 x.f3, .slice A4 x.f4.length c4] := ⟨[.int .u32 x.f0], [.slice A1 x.f1.length c1, .int .u64 x.f2, .int .u64 x.f3, .slice A4 x.f4.length c4], rfl, rfl, ⟨[.slice A1 x.f1.length c1], [.int .u64 x.f2, .int .u64 x.f3, .slice A4 x.f4.length c4], rfl, ⟨A1, c1, rfl, l1, g1⟩, ⟨[.int .u64 x.f2], [.int .u64 x.f3, .slice A4 x.f4.length c4], rfl, rfl, ⟨[.int .u64 x.f3], [.slice A4 x.f4.length c4], rfl, rfl, ⟨A4, c4, rfl, l4, g4⟩⟩⟩⟩⟩
theorem k42_mkM (w : World) (base : Nat) (ok : Nat → Prop) (x : S42) {v1 : Value} (g1 : (Kd.int .u8).R 5 w base ok v1 x.f1) {v4 : Value} (g4 : (Kd.int .u32).R 23 w base ok v4 x.f4) : k42.M w base ok x [.int .u32 x.f0, v1, .int .u64 x.f2, .int .u64 x.f3, v4] := ⟨[.int .u32 x.f0], [v1, .int .u64 x.f2, .int .u64 x.f3, v4], rfl, rfl, ⟨[v1], [.int .u64 x.f2, .int .u64 x.f3, v4], rfl, ⟨v1, rfl, g1⟩, ⟨[.int .u64 x.f2], [.int .u64 x.f3, v4], rfl, rfl, ⟨[.int .u64 x.f3], [v4], rfl, rfl, ⟨v4, rfl, g4⟩⟩⟩⟩⟩
def rd_T42 (xs : List S42) (i : Int) : S42 := xs.getD i.toNat z42
theorem at_T42 {w : World} {A : Option Addr} {n : Nat} {xs : List S42} (h : Kd.C k42 w A n xs) (i : Int) (h0 : 0 ≤ i) (h1 : i < n) : ∃ ad A1 c1 A4 c4, A = some ad ∧ w.cell? (ad.add (i.toNat * 5)) = some (.int .u32 (rd_T42 xs i).f0) ∧ w.cell? ⟨(ad.add (i.toNat * 5)).block, (ad.add (i.toNat * 5)).off + 1, none⟩ = some (.slice A1 (rd_T42 xs i).f1.length c1) ∧ w.cell? ⟨(ad.add (i.toNat * 5)).block, (ad.add (i.toNat * 5)).off + 2, none⟩ = some (.int .u64 (rd_T42 xs i).f2) ∧ w.cell? ⟨(ad.add (i.toNat * 5)).block, (ad.add (i.toNat * 5)).off + 3, none⟩ = some (.int .u64 (rd_T42 xs i).f3) ∧ w.cell? ⟨(ad.add (i.toNat * 5)).block, (ad.add (i.toNat * 5)).off + 4, none⟩ = some (.slice A4 (rd_T42 xs i).f4.length c4) ∧ (rd_T42 xs i).f1.length ≤ c1 ∧ (Kd.int .u8).C w A1 (rd_T42 xs i).f1.length (rd_T42 xs i).f1 ∧ (rd_T42 xs i).f4.length ≤ c4 ∧ (Kd.int .u32).C w A4 (rd_T42 xs i).f4.length (rd_T42 xs i).f4 := by
 obtain ⟨ad, c, e, _, hK, hc0⟩ := Kd.C_get h z42 i h0 h1
 have hc : ∀ j u, c[j]? = some u → w.cell? (ad.add (i.toNat * 5 + j)) = some u := hc0
 obtain ⟨A1, c1, A4, c4, rfl, l1, g1, l4, g4⟩ := k42_open hK
 exact ⟨ad, A1, c1, A4, c4, e, hc 0 _ rfl, by rw [← add_field _ _ 1 (by omega)]; exact hc 1 _ rfl, by rw [← add_field _ _ 2 (by omega)]; exact hc 2 _ rfl, by rw [← add_field _ _ 3 (by omega)]; exact hc 3 _ rfl, by rw [← add_field _ _ 4 (by omega)]; exact hc 4 _ rfl, l1, g1, l4, g4⟩
end Go.Proofs.YtabdnlecpndfjaaDoor.PBase
namespace Go.Proofs.YtabdnlecpndfjaaDoor.PBase
open Go.RowKit Go.Proofs.YtabdnlecpndfjaaDoorW.PrintWords Go.Proofs.YtabdnlecpndfjaaDoorW.PrintLast Go.Proofs.YtabdnlecpndfjaaDoorW.PrintMore
attribute [local go_sem] max2_int min2_int max_two min_two max_three min_three max_four min_four   -- for this text's walks alone
set_option linter.unusedVariables false
set_option linter.unusedSimpArgs false
def bits_RotateLeft32.f (a0 : Int) (a1 : Int) : Option (Int) := if 0 ≤ (Go.bits .and .u64 (IntKind.u64.wrap (a1)) 31) then (if 0 ≤ (IntKind.u64.wrap (32 - (Go.bits .and .u64 (IntKind.u64.wrap (a1)) 31))) then (some (Go.bits .or .u32 (shl .u32 a0 (Go.bits .and .u64 (IntKind.u64.wrap (a1)) 31)) (shr .u32 a0 (IntKind.u64.wrap (32 - (Go.bits .and .u64 (IntKind.u64.wrap (a1)) 31)))))) else (none)) else (none)
set_option maxHeartbeats 8000000 in
set_option maxRecDepth 100000 in
theorem bits_RotateLeft32.calls (a0 : Int) (a1 : Int) (r : Int) (w : World) (h : bits_RotateLeft32.f a0 a1 = some r) :
  Calls Tryd.prog 63 #[.int .u32 a0, .int .i64 a1] w fun e w' => e = .returned (.int .u32 r) ∧ Drawn0 w w' := by
 have H : (if 0 ≤ (Go.bits .and .u64 (IntKind.u64.wrap (a1)) 31) then (if 0 ≤ (IntKind.u64.wrap (32 - (Go.bits .and .u64 (IntKind.u64.wrap (a1)) 31))) then (some (Go.bits .or .u32 (shl .u32 a0 (Go.bits .and .u64 (IntKind.u64.wrap (a1)) 31)) (shr .u32 a0 (IntKind.u64.wrap (32 - (Go.bits .and .u64 (IntKind.u64.wrap (a1)) 31)))))) else (none)) else (none)) = some r := h
 clear h
 obtain ⟨ji3, hji3⟩ : ∃ j_ : Int, (Go.bits .and .u64 (IntKind.u64.wrap (a1)) 31) = j_ := ⟨_, rfl⟩
 replace H : (if 0 ≤ (ji3) then (if 0 ≤ (IntKind.u64.wrap (32 - (ji3))) then (some (Go.bits .or .u32 (shl .u32 a0 (ji3)) (shr .u32 a0 (IntKind.u64.wrap (32 - (ji3)))))) else (none)) else (none)) = some r := by first | (rw [hji3] at H; exact H) | (simp only [hji3] at H ⊢; exact H)
 by_cases c4 : 0 ≤ (ji3)
 ·rw [if_pos c4] at H
  have c4b0 := eq_true c4
  have c4b1 : decide (0 ≤ (ji3)) = true := decide_eq_true c4
  clear c4
  obtain ⟨ji5, hji5⟩ : ∃ j_ : Int, (shl .u32 a0 (ji3)) = j_ := ⟨_, rfl⟩
  replace H : (if 0 ≤ (IntKind.u64.wrap (32 - (ji3))) then (some (Go.bits .or .u32 (ji5) (shr .u32 a0 (IntKind.u64.wrap (32 - (ji3)))))) else (none)) = some r := by first | (rw [hji5] at H; exact H) | (simp only [hji5] at H ⊢; exact H)
  have hji5_ : (IntKind.u32.wrap (a0 * 2 ^ min (ji3).toNat 32)) = ji5 := hji5
  have hji5z : (ji3) ≤ 32 → (IntKind.u32.wrap (a0 * 2 ^ (ji3).toNat)) = ji5 := shl_small hji5
  obtain ⟨ji6, hji6⟩ : ∃ j_ : Int, (IntKind.u64.wrap (32 - (ji3))) = j_ := ⟨_, rfl⟩
  replace H : (if 0 ≤ (ji6) then (some (Go.bits .or .u32 (ji5) (shr .u32 a0 (ji6)))) else (none)) = some r := by first | (rw [hji6] at H; exact H) | (simp only [hji6] at H ⊢; exact H)
  by_cases c7 : 0 ≤ (ji6)
  ·rw [if_pos c7] at H
   have c7b0 := eq_true c7
   have c7b1 : decide (0 ≤ (ji6)) = true := decide_eq_true c7
   clear c7
   obtain ⟨ji8, hji8⟩ : ∃ j_ : Int, (shr .u32 a0 (ji6)) = j_ := ⟨_, rfl⟩
   replace H : (some (Go.bits .or .u32 (ji5) (ji8))) = some r := by first | (rw [hji8] at H; exact H) | (simp only [hji8] at H ⊢; exact H)
   have hji8_ : (a0 / 2 ^ min (ji6).toNat 32) = ji8 := hji8
   have hji8z : (ji6) ≤ 32 → (a0 / 2 ^ (ji6).toNat) = ji8 := shr_small hji8
   obtain rfl := Option.some.inj H
   go_enter Tryd.func63, Tryd.ntmps63
   go_wp2
   go_ret
   exact ⟨by first | rfl | (simp; done) | (simp only [← hji3, ← hji5, ← hji6, ← hji8] <;> (first | rfl | simp)) | (simp [*]; done), by repeat (first | exact Drawn0.refl _ | apply Drawn0.step)⟩
  ·rw [if_neg c7] at H
   exact absurd H (by simp)
 ·rw [if_neg c4] at H
  exact absurd H (by simp)
def sha_ror.f (a0 : Int) (a1 : Int) : Option (Int) := (bits_RotateLeft32.f a0 (wrap64 (-a1))).bind fun t101 => (some t101)
set_option maxHeartbeats 8000000 in
set_option maxRecDepth 100000 in
theorem sha_ror.calls (a0 : Int) (a1 : Int) (r : Int) (w : World) (h : sha_ror.f a0 a1 = some r) :
  Calls Tryd.prog 58 #[.int .u32 a0, .int .i64 a1] w fun e w' => e = .returned (.int .u32 r) ∧ Drawn0 w w' := by
 have H : ((bits_RotateLeft32.f a0 (wrap64 (-a1))).bind fun t101 => (some t101)) = some r := h
 clear h
 replace H := Option.bind_eq_some_iff.mp H
 obtain ⟨t101, A30, H⟩ := H
 replace H : (some t101) = some r := H
 have A3 := Aside0.mk A30
 clear A30
 obtain rfl := Option.some.inj H
 go_enter Tryd.func58, Tryd.ntmps58
 go_wp2_with (first | ((with_reducible refine gate_callee (f := 63) rfl ?_); refine goesL_ (some 8) rfl rfl Tryd.func63 (by kernel_rfl) rfl #[.int .u32 a0, .int .i64 (wrap64 (-a1))] rfl (by (try simp only [List.map_toArray, List.map_cons, List.map_nil]); first | done | rfl | (simp only [List.length_drop, List.length_take]; rfl) | (simp only [List.length_drop, List.length_take]; (repeat rw [Nat.min_eq_left (by simp only [eq_iff_iff, iff_true] at *; omega)]); rfl)) ?_; (with_reducible refine (bits_RotateLeft32.calls a0 (wrap64 (-a1)) t101 _ A3.out).mono ?_); rintro e w' ⟨rfl, ⟨nd, rfl⟩⟩; refine ⟨_, rfl, ?_⟩))
 go_ret
 exact ⟨by first | rfl | (simp; done) | (simp [*]; done), by repeat (first | exact Drawn0.refl _ | apply Drawn0.step)⟩
def sha_four.f (l0 : List Int) : Option (Int) := if 0 < (l0.length : Int) then (if 1 < (l0.length : Int) then (if 2 < (l0.length : Int) then (if 3 < (l0.length : Int) then (some (Go.bits .or .u32 (Go.bits .or .u32 (Go.bits .or .u32 ((((rd l0 0) % 4294967296) * 16777216) % 4294967296) ((((rd l0 1) % 4294967296) * 65536) % 4294967296)) ((((rd l0 2) % 4294967296) * 256) % 4294967296)) ((rd l0 3) % 4294967296))) else (none)) else (none)) else (none)) else (none)
set_option maxHeartbeats 8000000 in
set_option maxRecDepth 100000 in
theorem sha_four.calls (A0 : Option Addr) (c0 : Nat) (l0 : List Int) (r : Int) (w : World) (hr0 : Kd.C (Kd.int .u8) w A0 l0.length l0) (hc0 : l0.length ≤ c0) (h : sha_four.f l0 = some r) :
  Calls Tryd.prog 57 #[.slice A0 l0.length c0] w fun e w' => e = .returned (.int .u32 r) ∧ Drawn0 w w' := by
 have HR0 := Aside0.mk hr0
 have HC0 := Aside0.mk hc0
 clear hr0 hc0
 have H : (if 0 < (l0.length : Int) then (if 1 < (l0.length : Int) then (if 2 < (l0.length : Int) then (if 3 < (l0.length : Int) then (some (Go.bits .or .u32 (Go.bits .or .u32 (Go.bits .or .u32 ((((rd l0 0) % 4294967296) * 16777216) % 4294967296) ((((rd l0 1) % 4294967296) * 65536) % 4294967296)) ((((rd l0 2) % 4294967296) * 256) % 4294967296)) ((rd l0 3) % 4294967296))) else (none)) else (none)) else (none)) else (none)) = some r := h
 clear h
 by_cases c2 : 0 < (l0.length : Int)
 ·rw [if_pos c2] at H
  have c2b0 : decide (0 < (l0.length : Int)) = true := decide_eq_true c2
  have c2b1 : decide (0 < l0.length) = true := decide_eq_true (by omega)
  clear c2
  by_cases c3 : 1 < (l0.length : Int)
  ·rw [if_pos c3] at H
   have c3b0 : decide (1 < (l0.length : Int)) = true := decide_eq_true c3
   have c3b1 : decide (1 < l0.length) = true := decide_eq_true (by omega)
   clear c3
   by_cases c4 : 2 < (l0.length : Int)
   ·rw [if_pos c4] at H
    have c4b0 : decide (2 < (l0.length : Int)) = true := decide_eq_true c4
    have c4b1 : decide (2 < l0.length) = true := decide_eq_true (by omega)
    clear c4
    by_cases c5 : 3 < (l0.length : Int)
    ·rw [if_pos c5] at H
     have c5b0 : decide (3 < (l0.length : Int)) = true := decide_eq_true c5
     have c5b1 : decide (3 < l0.length) = true := decide_eq_true (by omega)
     clear c5
     obtain rfl := Option.some.inj H
     have p102 : 0 ≤ (0 : Int) := (by omega)
     have q102 : 0 < (l0.length : Int) := of_decide_eq_true (by first | (with_reducible assumption) | assumption)
     obtain ⟨ad102, e102, hx102_0⟩ := Kd.at_int HR0.out 0 p102 q102
     cases e102
     have qi102 : (0 < l0.length) = True := eq_true (by omega)
     (try rw [show ((0 : Int)).toNat = 0 from rfl] at hx102_0)
     (try rw [Addr.add_zero'] at hx102_0)
     replace p102 := eq_true p102
     replace q102 := eq_true q102
     have p103 : 0 ≤ (1 : Int) := (by omega)
     have q103 : 1 < (l0.length : Int) := of_decide_eq_true (by first | (with_reducible assumption) | assumption)
     obtain ⟨ad103, e103, hx103_0⟩ := Kd.at_int HR0.out 1 p103 q103
     obtain rfl : ad102 = ad103 := (by injection e103)
     (try simp only [show (1 : Int).toNat = 1 from rfl, Nat.reduceMul, Nat.reduceEqDiff, Go.Addr.add, ↓reduceIte] at hx103_0)
     have qi103 : (1 < l0.length) = True := eq_true (by omega)
     (try rw [show ((1 : Int)).toNat = 1 from rfl] at hx103_0)
     replace p103 := eq_true p103
     replace q103 := eq_true q103
     have p104 : 0 ≤ (2 : Int) := (by omega)
     have q104 : 2 < (l0.length : Int) := of_decide_eq_true (by first | (with_reducible assumption) | assumption)
     obtain ⟨ad104, e104, hx104_0⟩ := Kd.at_int HR0.out 2 p104 q104
     obtain rfl : ad102 = ad104 := (by injection e104)
     (try simp only [show (2 : Int).toNat = 2 from rfl, Nat.reduceMul, Nat.reduceEqDiff, Go.Addr.add, ↓reduceIte] at hx104_0)
     have qi104 : (2 < l0.length) = True := eq_true (by omega)
     (try rw [show ((2 : Int)).toNat = 2 from rfl] at hx104_0)
     replace p104 := eq_true p104
     replace q104 := eq_true q104
     have p105 : 0 ≤ (3 : Int) := (by omega)
     have q105 : 3 < (l0.length : Int) := of_decide_eq_true (by first | (with_reducible assumption) | assumption)
     obtain ⟨ad105, e105, hx105_0⟩ := Kd.at_int HR0.out 3 p105 q105
     obtain rfl : ad102 = ad105 := (by injection e105)
     (try simp only [show (3 : Int).toNat = 3 from rfl, Nat.reduceMul, Nat.reduceEqDiff, Go.Addr.add, ↓reduceIte] at hx105_0)
     have qi105 : (3 < l0.length) = True := eq_true (by omega)
     (try rw [show ((3 : Int)).toNat = 3 from rfl] at hx105_0)
     replace p105 := eq_true p105
     replace q105 := eq_true q105
     go_enter Tryd.func57, Tryd.ntmps57
     go_wp2
     repeat (go_quiet (fail); try go_wp2)
     go_ret
     exact ⟨by first | rfl | (simp; done) | (simp [*]; done), by repeat (first | exact Drawn0.refl _ | apply Drawn0.step)⟩
    ·rw [if_neg c5] at H
     exact absurd H (by simp)
   ·rw [if_neg c4] at H
    exact absurd H (by simp)
  ·rw [if_neg c3] at H
   exact absurd H (by simp)
 ·rw [if_neg c2] at H
  exact absurd H (by simp)
def coamingref02_ror.f (a0 : Int) (a1 : Int) : Option (Int) := if 0 ≤ (IntKind.u64.wrap (a1)) then (if 0 ≤ (IntKind.u64.wrap (wrap64 (32 - a1))) then (some (Go.bits .or .u32 (shr .u32 a0 (IntKind.u64.wrap (a1))) (shl .u32 a0 (IntKind.u64.wrap (wrap64 (32 - a1)))))) else (none)) else (none)
set_option maxHeartbeats 8000000 in
set_option maxRecDepth 100000 in
theorem coamingref02_ror.calls (a0 : Int) (a1 : Int) (r : Int) (w : World) (h : coamingref02_ror.f a0 a1 = some r) :
  Calls Tryd.prog 62 #[.int .u32 a0, .int .i64 a1] w fun e w' => e = .returned (.int .u32 r) ∧ Drawn0 w w' := by
 have H : (if 0 ≤ (IntKind.u64.wrap (a1)) then (if 0 ≤ (IntKind.u64.wrap (wrap64 (32 - a1))) then (some (Go.bits .or .u32 (shr .u32 a0 (IntKind.u64.wrap (a1))) (shl .u32 a0 (IntKind.u64.wrap (wrap64 (32 - a1)))))) else (none)) else (none)) = some r := h
 clear h
 obtain ⟨ji3, hji3⟩ : ∃ j_ : Int, (IntKind.u64.wrap (a1)) = j_ := ⟨_, rfl⟩
 replace H : (if 0 ≤ (ji3) then (if 0 ≤ (IntKind.u64.wrap (wrap64 (32 - a1))) then (some (Go.bits .or .u32 (shr .u32 a0 (ji3)) (shl .u32 a0 (IntKind.u64.wrap (wrap64 (32 - a1)))))) else (none)) else (none)) = some r := by first | (rw [hji3] at H; exact H) | (simp only [hji3] at H ⊢; exact H)
 by_cases c4 : 0 ≤ (ji3)
 ·rw [if_pos c4] at H
  have c4b0 := eq_true c4
  have c4b1 : decide (0 ≤ (ji3)) = true := decide_eq_true c4
  clear c4
  obtain ⟨ji5, hji5⟩ : ∃ j_ : Int, (shr .u32 a0 (ji3)) = j_ := ⟨_, rfl⟩
  replace H : (if 0 ≤ (IntKind.u64.wrap (wrap64 (32 - a1))) then (some (Go.bits .or .u32 (ji5) (shl .u32 a0 (IntKind.u64.wrap (wrap64 (32 - a1)))))) else (none)) = some r := by first | (rw [hji5] at H; exact H) | (simp only [hji5] at H ⊢; exact H)
  have hji5_ : (a0 / 2 ^ min (ji3).toNat 32) = ji5 := hji5
  have hji5z : (ji3) ≤ 32 → (a0 / 2 ^ (ji3).toNat) = ji5 := shr_small hji5
  obtain ⟨ji6, hji6⟩ : ∃ j_ : Int, (IntKind.u64.wrap (wrap64 (32 - a1))) = j_ := ⟨_, rfl⟩
  replace H : (if 0 ≤ (ji6) then (some (Go.bits .or .u32 (ji5) (shl .u32 a0 (ji6)))) else (none)) = some r := by first | (rw [hji6] at H; exact H) | (simp only [hji6] at H ⊢; exact H)
  by_cases c7 : 0 ≤ (ji6)
  ·rw [if_pos c7] at H
   have c7b0 := eq_true c7
   have c7b1 : decide (0 ≤ (ji6)) = true := decide_eq_true c7
   clear c7
   obtain ⟨ji8, hji8⟩ : ∃ j_ : Int, (shl .u32 a0 (ji6)) = j_ := ⟨_, rfl⟩
   replace H : (some (Go.bits .or .u32 (ji5) (ji8))) = some r := by first | (rw [hji8] at H; exact H) | (simp only [hji8] at H ⊢; exact H)
   have hji8_ : (IntKind.u32.wrap (a0 * 2 ^ min (ji6).toNat 32)) = ji8 := hji8
   have hji8z : (ji6) ≤ 32 → (IntKind.u32.wrap (a0 * 2 ^ (ji6).toNat)) = ji8 := shl_small hji8
   obtain rfl := Option.some.inj H
   go_enter Tryd.func62, Tryd.ntmps62
   go_wp2
   go_ret
   exact ⟨by first | rfl | (simp; done) | (simp only [← hji3, ← hji5, ← hji6, ← hji8] <;> (first | rfl | simp)) | (simp [*]; done), by repeat (first | exact Drawn0.refl _ | apply Drawn0.step)⟩
  ·rw [if_neg c7] at H
   exact absurd H (by simp)
 ·rw [if_neg c4] at H
  exact absurd H (by simp)
mutual
def coamingref02_words.l0 : Nat → List Int → List Int → Int → Option (List Int)
 | 0, _, _, _ => none
 | k + 1, x0, x3, x4 => if x4 < 64 then (if x4 < 16 then (coamingref02_words.l1 k x0 x3 x4 0 0) else (if 0 ≤ (wrap64 (x4 - 15)) then (if (wrap64 (x4 - 15)) < (x3.length : Int) then (if 0 ≤ (wrap64 (x4 - 2)) then (if (wrap64 (x4 - 2)) < (x3.length : Int) then (if 0 ≤ (wrap64 (x4 - 16)) then (if (wrap64 (x4 - 16)) < (x3.length : Int) then ((coamingref02_ror.f (rd x3 (wrap64 (x4 - 15))) 7).bind fun t113 => ((coamingref02_ror.f (rd x3 (wrap64 (x4 - 15))) 18).bind fun t114 => (if 0 ≤ (wrap64 (x4 - 7)) then (if (wrap64 (x4 - 7)) < (x3.length : Int) then ((coamingref02_ror.f (rd x3 (wrap64 (x4 - 2))) 17).bind fun t116 => ((coamingref02_ror.f (rd x3 (wrap64 (x4 - 2))) 19).bind fun t117 => (if x3.length < 35184372088832 then (coamingref02_words.l0 k x0 (x3 ++ [((((((rd x3 (wrap64 (x4 - 16))) + (Go.bits .xor .u32 (Go.bits .xor .u32 t113 t114) ((rd x3 (wrap64 (x4 - 15))) / 8))) % 4294967296) + (rd x3 (wrap64 (x4 - 7)))) % 4294967296) + (Go.bits .xor .u32 (Go.bits .xor .u32 t116 t117) ((rd x3 (wrap64 (x4 - 2))) / 1024))) % 4294967296]) (wrap64 (x4 + 1))) else (none)))) else (none)) else (none)))) else (none)) else (none)) else (none)) else (none)) else (none)) else (none))) else (some x3)
def coamingref02_words.l1 : Nat → List Int → List Int → Int → Int → Int → Option (List Int)
 | 0, _, _, _, _, _ => none
 | k + 1, x0, x3, x4, x5, x6 => if x6 < 4 then (if 0 ≤ (wrap64 ((wrap64 (4 * x4)) + x6)) then (if (wrap64 ((wrap64 (4 * x4)) + x6)) < (x0.length : Int) then (coamingref02_words.l1 k x0 x3 x4 (Go.bits .or .u32 ((x5 * 256) % 4294967296) ((rd x0 (wrap64 ((wrap64 (4 * x4)) + x6))) % 4294967296)) (wrap64 (x6 + 1))) else (none)) else (none)) else (if x3.length < 35184372088832 then (coamingref02_words.l0 k x0 (x3 ++ [x5]) (wrap64 (x4 + 1))) else (none))
end
def coamingref02_words.f (k : Nat) (l0 : List Int) : Option (List Int) := coamingref02_words.l0 k l0 ([] : List Int) 0
def coamingref02_words.T14 : Bool × List (List Nat × List Nat) := (true, [([], []), ([], []), ([], []), ([2], [2]), ([1, 3], [1, 3]), ([4], [4]), ([], []), ([6], [6]), ([], []), ([8, 7], [8]), ([7, 9], [7, 9]), ([], []), ([11], [11]), ([10, 12], [10, 12]), ([5, 13], [5, 13]), ([], []), ([], []), ([16], [16]), ([15, 17], [15, 17]), ([18], [18]), ([14, 19], [14, 19]), ([], []), ([21, 9], [21]), ([], []), ([23, 22], [23]), ([22, 24], [22, 24]), ([], []), ([26], [26]), ([25, 27], [25, 27]), ([20, 28], [20, 28]), ([29], [29]), ([0, 30, 24], [0, 30]), ([31, 31, 0, 1, 2, 3, 4, 5, 6, 7, 8, 9, 10, 11, 12, 13, 14, 15, 16, 17, 18, 19, 20, 21, 22, 23, 24, 25, 26, 27, 28, 29, 30, 31], [0, 1, 15, 31])])
def coamingref02_words.B14 : List Nat := [0, 0, 0, 4, 14, 30, 0, 64, 0, 448, 960, 0, 2048, 8128, 16382, 0, 0, 65536, 229376, 491520, 1048574, 0, 2098112, 0, 14681024, 31458240, 0, 67108864, 266339264, 536870910, 1073741822, 2147483647, 4294967295]
theorem coamingref02_words.tab14 : rtab .any (opsOf Tryd.f60 14) = coamingref02_words.T14 := by kernel_rfl
theorem coamingref02_words.bits14 : waitsOk coamingref02_words.T14.2 coamingref02_words.B14 = true := by kernel_rfl
set_option maxHeartbeats 8000000 in
set_option maxRecDepth 100000 in
theorem coamingref02_words.calls (k : Nat) (A0 : Option Addr) (c0 : Nat) (l0 : List Int) (r : List Int) (w : World) (hr0 : Kd.C (Kd.int .u8) w A0 l0.length l0) (hc0 : l0.length ≤ c0) (h : coamingref02_words.f k l0 = some r) :
  Calls Tryd.prog 60 #[.slice A0 l0.length c0] w fun e w' => ∃ v0_ : Value, e = .returned (v0_) ∧ Kd.R (Kd.int .u32) 23 w' w.heap.size (fun _ => True) v0_ r ∧ Below w.heap.size w w' := by
 have HR0 := Aside0.mk hr0
 have HC0 := Aside0.mk hc0
 clear hr0 hc0
 have HB := Aside0.mk (Below.refl w.heap.size w)
 have H : (coamingref02_words.l0 k l0 ([] : List Int) 0) = some r := h
 clear h
 have H' := Aside0.mk H
 clear H
 go_enter Tryd.func60, Tryd.ntmps60
 go_wp2
 go_loopg [3, 4] k (fun kq v3 v4 w' => ∃ (x3_1 : List Int) (x4_1 : Int), v4 = .int .i64 x4_1 ∧ Aside0 (coamingref02_words.l0 kq l0 x3_1 x4_1 = some r) ∧ Aside0 (kq ≤ k) ∧ Aside0 (Kd.R (Kd.int .u32) 23 w' w.heap.size (fun _ => True) v3 x3_1) ∧ Aside0 (Below w.heap.size w w'))
 case atStart => exact ⟨(([] : List Int)), (0), (by first | rfl | (simp; done) | (simp [*]; done)), H', ⟨Nat.le_refl _⟩, ⟨by first | exact Kd.R_nil _ _ _ _ _ | exact Kd.N_nil _ _ _ _ _ | exact Kd.V_nil _ _ _ _ _ | exact Kd.Q_nil _ _ _ _ _ | exact Kd.S_nil _ _ _ _ _⟩, ⟨by repeat (first | (with_reducible first | exact HB.out | apply below_alloc | apply pw_below_drewN | apply below_drew1) | exact HB.out)⟩⟩
 case round =>
  clear H'
  obtain ⟨x3_1, x4_1, rfl, HA, HK1, HO_3, HB⟩ := hrel
  cases gk with
  | zero => exact absurd HA.out (by simp [coamingref02_words.l0])
  | succ k1 =>
   have H := HA.out
   clear HA
   simp only [coamingref02_words.l0] at H
   by_cases c2 : x4_1 < 64
   ·rw [if_pos c2] at H
    have c2b0 : decide (x4_1 < 64) = true := decide_eq_true c2
    clear c2
    by_cases c3 : x4_1 < 16
    ·rw [if_pos c3] at H
     have c3b0 : decide (x4_1 < 16) = true := decide_eq_true c3
     clear c3
     have H' := Aside0.mk H
     clear H
     go_wp2
     go_loopg [5, 6] k1 (fun kq v5 v6 w' => ∃ (x5_2 : Int) (x6_2 : Int), v5 = .int .u32 x5_2 ∧ v6 = .int .i64 x6_2 ∧ Aside0 (coamingref02_words.l1 kq l0 x3_1 x4_1 x5_2 x6_2 = some r) ∧ Aside0 (kq ≤ k1) ∧ Aside0 (Kd.R (Kd.int .u32) 23 w' w.heap.size (fun _ => True) u3 x3_1) ∧ Aside0 (Below w.heap.size w w'))
     case atStart => exact ⟨(0), (0), (by first | rfl | (simp; done) | (simp [*]; done)), (by first | rfl | (simp; done) | (simp [*]; done)), H', ⟨Nat.le_refl _⟩, ⟨by (with_reducible repeat (first | apply Kd.R_alloc | apply Kd.R_drewN | apply Kd.R_drew)); exact HO_3.out⟩, ⟨by repeat (first | (with_reducible first | exact HB.out | apply below_alloc | apply pw_below_drewN | apply below_drew1) | exact HB.out)⟩⟩
     case round =>
      clear H'
      try clear c2
      try clear c2b0
      try clear p2
      try clear c3
      try clear c3b0
      obtain ⟨x5_2, x6_2, rfl, rfl, HA, HK2, HO_3, HB⟩ := hrel
      cases gk with
      | zero => exact absurd HA.out (by simp [coamingref02_words.l1])
      | succ k2 =>
       have H := HA.out
       clear HA
       simp only [coamingref02_words.l1] at H
       by_cases c4 : x6_2 < 4
       ·rw [if_pos c4] at H
        have c4b0 : decide (x6_2 < 4) = true := decide_eq_true c4
        clear c4
        obtain ⟨ji5, hji5⟩ : ∃ j_ : Int, (wrap64 ((wrap64 (4 * x4_1)) + x6_2)) = j_ := ⟨_, rfl⟩
        replace H : (if 0 ≤ (ji5) then (if (ji5) < (l0.length : Int) then (coamingref02_words.l1 k2 l0 x3_1 x4_1 (Go.bits .or .u32 ((x5_2 * 256) % 4294967296) ((rd l0 (ji5)) % 4294967296)) (wrap64 (x6_2 + 1))) else (none)) else (none)) = some r := by first | (rw [hji5] at H; exact H) | (simp only [hji5] at H ⊢; exact H)
        have hji5w : (IntKind.i64.wrap ((wrap64 (4 * x4_1)) + x6_2)) = ji5 := (i64_w _).trans hji5
        by_cases c6 : 0 ≤ (ji5)
        ·rw [if_pos c6] at H
         have c6b0 : decide (0 ≤ (ji5)) = true := decide_eq_true c6
         clear c6
         by_cases c7 : (ji5) < (l0.length : Int)
         ·rw [if_pos c7] at H
          have c7b0 : decide ((ji5) < (l0.length : Int)) = true := decide_eq_true c7
          clear c7
          have H' := Aside0.mk H
          clear H
          have p106 : 0 ≤ ((ji5) : Int) := of_decide_eq_true (by first | (with_reducible assumption) | assumption)
          have q106 : (ji5) < (l0.length : Int) := of_decide_eq_true (by first | (with_reducible assumption) | assumption)
          obtain ⟨ad106, e106, hx106_0⟩ := Kd.at_int HR0.out (ji5) p106 q106
          cases e106
          replace hx106_0 := (HB.out.cell (World.block_lt_of_cell? w _ hx106_0)).trans hx106_0
          replace p106 := eq_true p106
          replace q106 := eq_true q106
          go_wp2
          go_roundg k2
          case measure => have := HK1.out; have := HK2.out; omega
          case rel => exact ⟨(Go.bits .or .u32 ((x5_2 * 256) % 4294967296) ((rd l0 (ji5)) % 4294967296)), (wrap64 (x6_2 + 1)), (by first | rfl | (simp; done) | (simp only [← hji5] <;> (first | rfl | simp)) | (simp [*]; done)), (by first | rfl | (simp; done) | (simp [*]; done)), H', ⟨by have := HK1.out; have := HK2.out; omega⟩, ⟨by (with_reducible repeat (first | apply Kd.R_alloc | apply Kd.R_drewN | apply Kd.R_drew)); exact HO_3.out⟩, ⟨by repeat (first | (with_reducible first | exact HB.out | apply below_alloc | apply pw_below_drewN | apply below_drew1) | exact HB.out)⟩⟩
         ·rw [if_neg c7] at H
          exact absurd H (by simp)
        ·rw [if_neg c6] at H
         exact absurd H (by simp)
       ·rw [if_neg c4] at H
        have c4b0 : decide (x6_2 < 4) = false := decide_eq_false c4
        clear c4
        by_cases c8 : x3_1.length < 35184372088832
        ·rw [if_pos c8] at H
         have LMc8 := Aside0.mk c8
         clear c8
         obtain ⟨y107, hy107⟩ : ∃ y_ : List Int, y_ = (x3_1 ++ [x5_2]) := ⟨_, rfl⟩
         replace H : (coamingref02_words.l0 k2 l0 y107 (wrap64 (x4_1 + 1))) = some r := by first | (rw [hy107]; with_reducible exact H) | (have H2_ := (Option.bind_some _ _).symm.trans H; rw [hy107]; with_reducible exact H2_) | (have H2_ := (Option.bind_some _ _).symm.trans H; with_reducible exact H2_) | with_reducible exact H | (rw [hy107]; exact H) | exact H
         have Ny107 := Aside0.mk hy107
         clear hy107
         have H' := Aside0.mk H
         clear H
         go_wp2_with (first | ((with_reducible refine gate_builtin (b := .append) (xs := #[.tmp 30, .tmp 32]) rfl ?_); at_builtin; refine Kd.R_append (Kd.int .u32) (w0 := w) w.heap.size rfl (.tmp 30) (.tmp 32) 37 23 (.int .u32 0) 4 rfl Tryd.underlying37 info23 rfl (by decide) (by omega) u3 x3_1 x5_2 [.int .u32 x5_2] (fun _ => True) (fun _ => False) rfl rfl ?aP (fun _ hk => hk.elim) ?aF ?aO ?aB ?aS ?aL ?_; (case aP => exact rfl); (case aB => exact (by repeat (first | (with_reducible first | exact HB.out | apply below_alloc | apply pw_below_drewN | apply below_drew1) | exact HB.out))); (case aF => exact (fun _ _ => trivial)); (case aO => exact (by (with_reducible repeat (first | apply Kd.R_alloc | apply Kd.R_drewN | apply Kd.R_drew)); exact HO_3.out)); (case aS => exact (below_size (by repeat (first | (with_reducible first | exact HB.out | apply below_alloc | apply pw_below_drewN | apply below_drew1) | exact HB.out)))); (case aL => have := LMc8.out; omega); intro v108 w9 ho hb hg hat; rw [← Ny107.out] at ho; have n0_ := Aside0.mk (hb); have n1_ := Aside0.mk (ho); clear HB; clear HO_3; have HB := n0_; have HO109 := n1_; clear n0_ n1_; clear ho hb hg hat))
         go_roundg k2
         case measure => have := HK1.out; have := HK2.out; omega
         case rel => exact ⟨(y107), (wrap64 (x4_1 + 1)), (by first | rfl | (simp; done) | (simp [*]; done)), H', ⟨by have := HK1.out; have := HK2.out; omega⟩, ⟨by (with_reducible repeat (first | apply Kd.R_alloc | apply Kd.R_drewN | apply Kd.R_drew)); exact HO109.out⟩, ⟨by repeat (first | (with_reducible first | exact HB.out | apply below_alloc | apply pw_below_drewN | apply below_drew1) | exact HB.out)⟩⟩
        ·rw [if_neg c8] at H
         exact absurd H (by simp)
    ·rw [if_neg c3] at H
     have c3b0 : decide (x4_1 < 16) = false := decide_eq_false c3
     clear c3
     obtain ⟨ji10, hji10⟩ : ∃ j_ : Int, (wrap64 (x4_1 - 15)) = j_ := ⟨_, rfl⟩
     replace H : (if 0 ≤ (ji10) then (if (ji10) < (x3_1.length : Int) then (if 0 ≤ (wrap64 (x4_1 - 2)) then (if (wrap64 (x4_1 - 2)) < (x3_1.length : Int) then (if 0 ≤ (wrap64 (x4_1 - 16)) then (if (wrap64 (x4_1 - 16)) < (x3_1.length : Int) then ((coamingref02_ror.f (rd x3_1 (ji10)) 7).bind fun t113 => ((coamingref02_ror.f (rd x3_1 (ji10)) 18).bind fun t114 => (if 0 ≤ (wrap64 (x4_1 - 7)) then (if (wrap64 (x4_1 - 7)) < (x3_1.length : Int) then ((coamingref02_ror.f (rd x3_1 (wrap64 (x4_1 - 2))) 17).bind fun t116 => ((coamingref02_ror.f (rd x3_1 (wrap64 (x4_1 - 2))) 19).bind fun t117 => (if x3_1.length < 35184372088832 then (coamingref02_words.l0 k1 l0 (x3_1 ++ [((((((rd x3_1 (wrap64 (x4_1 - 16))) + (Go.bits .xor .u32 (Go.bits .xor .u32 t113 t114) ((rd x3_1 (ji10)) / 8))) % 4294967296) + (rd x3_1 (wrap64 (x4_1 - 7)))) % 4294967296) + (Go.bits .xor .u32 (Go.bits .xor .u32 t116 t117) ((rd x3_1 (wrap64 (x4_1 - 2))) / 1024))) % 4294967296]) (wrap64 (x4_1 + 1))) else (none)))) else (none)) else (none)))) else (none)) else (none)) else (none)) else (none)) else (none)) else (none)) = some r := by first | (rw [hji10] at H; exact H) | (simp only [hji10] at H ⊢; exact H)
     have hji10w : (IntKind.i64.wrap (x4_1 - 15)) = ji10 := (i64_w _).trans hji10
     by_cases c11 : 0 ≤ (ji10)
     ·rw [if_pos c11] at H
      have c11b0 : decide (0 ≤ (ji10)) = true := decide_eq_true c11
      clear c11
      by_cases c12 : (ji10) < (x3_1.length : Int)
      ·rw [if_pos c12] at H
       have c12b0 : decide ((ji10) < (x3_1.length : Int)) = true := decide_eq_true c12
       clear c12
       obtain ⟨ji13, hji13⟩ : ∃ j_ : Int, (wrap64 (x4_1 - 2)) = j_ := ⟨_, rfl⟩
       replace H : (if 0 ≤ (ji13) then (if (ji13) < (x3_1.length : Int) then (if 0 ≤ (wrap64 (x4_1 - 16)) then (if (wrap64 (x4_1 - 16)) < (x3_1.length : Int) then ((coamingref02_ror.f (rd x3_1 (ji10)) 7).bind fun t113 => ((coamingref02_ror.f (rd x3_1 (ji10)) 18).bind fun t114 => (if 0 ≤ (wrap64 (x4_1 - 7)) then (if (wrap64 (x4_1 - 7)) < (x3_1.length : Int) then ((coamingref02_ror.f (rd x3_1 (ji13)) 17).bind fun t116 => ((coamingref02_ror.f (rd x3_1 (ji13)) 19).bind fun t117 => (if x3_1.length < 35184372088832 then (coamingref02_words.l0 k1 l0 (x3_1 ++ [((((((rd x3_1 (wrap64 (x4_1 - 16))) + (Go.bits .xor .u32 (Go.bits .xor .u32 t113 t114) ((rd x3_1 (ji10)) / 8))) % 4294967296) + (rd x3_1 (wrap64 (x4_1 - 7)))) % 4294967296) + (Go.bits .xor .u32 (Go.bits .xor .u32 t116 t117) ((rd x3_1 (ji13)) / 1024))) % 4294967296]) (wrap64 (x4_1 + 1))) else (none)))) else (none)) else (none)))) else (none)) else (none)) else (none)) else (none)) = some r := by first | (rw [hji13] at H; exact H) | (simp only [hji13] at H ⊢; exact H)
       have hji13w : (IntKind.i64.wrap (x4_1 - 2)) = ji13 := (i64_w _).trans hji13
       by_cases c14 : 0 ≤ (ji13)
       ·rw [if_pos c14] at H
        have c14b0 : decide (0 ≤ (ji13)) = true := decide_eq_true c14
        clear c14
        by_cases c15 : (ji13) < (x3_1.length : Int)
        ·rw [if_pos c15] at H
         have c15b0 : decide ((ji13) < (x3_1.length : Int)) = true := decide_eq_true c15
         clear c15
         obtain ⟨ji16, hji16⟩ : ∃ j_ : Int, (wrap64 (x4_1 - 16)) = j_ := ⟨_, rfl⟩
         replace H : (if 0 ≤ (ji16) then (if (ji16) < (x3_1.length : Int) then ((coamingref02_ror.f (rd x3_1 (ji10)) 7).bind fun t113 => ((coamingref02_ror.f (rd x3_1 (ji10)) 18).bind fun t114 => (if 0 ≤ (wrap64 (x4_1 - 7)) then (if (wrap64 (x4_1 - 7)) < (x3_1.length : Int) then ((coamingref02_ror.f (rd x3_1 (ji13)) 17).bind fun t116 => ((coamingref02_ror.f (rd x3_1 (ji13)) 19).bind fun t117 => (if x3_1.length < 35184372088832 then (coamingref02_words.l0 k1 l0 (x3_1 ++ [((((((rd x3_1 (ji16)) + (Go.bits .xor .u32 (Go.bits .xor .u32 t113 t114) ((rd x3_1 (ji10)) / 8))) % 4294967296) + (rd x3_1 (wrap64 (x4_1 - 7)))) % 4294967296) + (Go.bits .xor .u32 (Go.bits .xor .u32 t116 t117) ((rd x3_1 (ji13)) / 1024))) % 4294967296]) (wrap64 (x4_1 + 1))) else (none)))) else (none)) else (none)))) else (none)) else (none)) = some r := by first | (rw [hji16] at H; exact H) | (simp only [hji16] at H ⊢; exact H)
         have hji16w : (IntKind.i64.wrap (x4_1 - 16)) = ji16 := (i64_w _).trans hji16
         by_cases c17 : 0 ≤ (ji16)
         ·rw [if_pos c17] at H
          have c17b0 : decide (0 ≤ (ji16)) = true := decide_eq_true c17
          clear c17
          by_cases c18 : (ji16) < (x3_1.length : Int)
          ·rw [if_pos c18] at H
           have c18b0 : decide ((ji16) < (x3_1.length : Int)) = true := decide_eq_true c18
           clear c18
           replace H := Option.bind_eq_some_iff.mp H
           obtain ⟨t113, A190, H⟩ := H
           replace H : ((coamingref02_ror.f (rd x3_1 (ji10)) 18).bind fun t114 => (if 0 ≤ (wrap64 (x4_1 - 7)) then (if (wrap64 (x4_1 - 7)) < (x3_1.length : Int) then ((coamingref02_ror.f (rd x3_1 (ji13)) 17).bind fun t116 => ((coamingref02_ror.f (rd x3_1 (ji13)) 19).bind fun t117 => (if x3_1.length < 35184372088832 then (coamingref02_words.l0 k1 l0 (x3_1 ++ [((((((rd x3_1 (ji16)) + (Go.bits .xor .u32 (Go.bits .xor .u32 t113 t114) ((rd x3_1 (ji10)) / 8))) % 4294967296) + (rd x3_1 (wrap64 (x4_1 - 7)))) % 4294967296) + (Go.bits .xor .u32 (Go.bits .xor .u32 t116 t117) ((rd x3_1 (ji13)) / 1024))) % 4294967296]) (wrap64 (x4_1 + 1))) else (none)))) else (none)) else (none))) = some r := H
           have A19 := Aside0.mk A190
           clear A190
           replace H := Option.bind_eq_some_iff.mp H
           obtain ⟨t114, A200, H⟩ := H
           replace H : (if 0 ≤ (wrap64 (x4_1 - 7)) then (if (wrap64 (x4_1 - 7)) < (x3_1.length : Int) then ((coamingref02_ror.f (rd x3_1 (ji13)) 17).bind fun t116 => ((coamingref02_ror.f (rd x3_1 (ji13)) 19).bind fun t117 => (if x3_1.length < 35184372088832 then (coamingref02_words.l0 k1 l0 (x3_1 ++ [((((((rd x3_1 (ji16)) + (Go.bits .xor .u32 (Go.bits .xor .u32 t113 t114) ((rd x3_1 (ji10)) / 8))) % 4294967296) + (rd x3_1 (wrap64 (x4_1 - 7)))) % 4294967296) + (Go.bits .xor .u32 (Go.bits .xor .u32 t116 t117) ((rd x3_1 (ji13)) / 1024))) % 4294967296]) (wrap64 (x4_1 + 1))) else (none)))) else (none)) else (none)) = some r := H
           have A20 := Aside0.mk A200
           clear A200
           obtain ⟨ji21, hji21⟩ : ∃ j_ : Int, (wrap64 (x4_1 - 7)) = j_ := ⟨_, rfl⟩
           replace H : (if 0 ≤ (ji21) then (if (ji21) < (x3_1.length : Int) then ((coamingref02_ror.f (rd x3_1 (ji13)) 17).bind fun t116 => ((coamingref02_ror.f (rd x3_1 (ji13)) 19).bind fun t117 => (if x3_1.length < 35184372088832 then (coamingref02_words.l0 k1 l0 (x3_1 ++ [((((((rd x3_1 (ji16)) + (Go.bits .xor .u32 (Go.bits .xor .u32 t113 t114) ((rd x3_1 (ji10)) / 8))) % 4294967296) + (rd x3_1 (ji21))) % 4294967296) + (Go.bits .xor .u32 (Go.bits .xor .u32 t116 t117) ((rd x3_1 (ji13)) / 1024))) % 4294967296]) (wrap64 (x4_1 + 1))) else (none)))) else (none)) else (none)) = some r := by first | (rw [hji21] at H; exact H) | (simp only [hji21] at H ⊢; exact H)
           (try rw [hji21] at A19)
           (try rw [hji21] at A20)
           have hji21w : (IntKind.i64.wrap (x4_1 - 7)) = ji21 := (i64_w _).trans hji21
           by_cases c22 : 0 ≤ (ji21)
           ·rw [if_pos c22] at H
            have c22b0 : decide (0 ≤ (ji21)) = true := decide_eq_true c22
            clear c22
            by_cases c23 : (ji21) < (x3_1.length : Int)
            ·rw [if_pos c23] at H
             have c23b0 : decide ((ji21) < (x3_1.length : Int)) = true := decide_eq_true c23
             clear c23
             replace H := Option.bind_eq_some_iff.mp H
             obtain ⟨t116, A240, H⟩ := H
             replace H : ((coamingref02_ror.f (rd x3_1 (ji13)) 19).bind fun t117 => (if x3_1.length < 35184372088832 then (coamingref02_words.l0 k1 l0 (x3_1 ++ [((((((rd x3_1 (ji16)) + (Go.bits .xor .u32 (Go.bits .xor .u32 t113 t114) ((rd x3_1 (ji10)) / 8))) % 4294967296) + (rd x3_1 (ji21))) % 4294967296) + (Go.bits .xor .u32 (Go.bits .xor .u32 t116 t117) ((rd x3_1 (ji13)) / 1024))) % 4294967296]) (wrap64 (x4_1 + 1))) else (none))) = some r := H
             have A24 := Aside0.mk A240
             clear A240
             replace H := Option.bind_eq_some_iff.mp H
             obtain ⟨t117, A250, H⟩ := H
             replace H : (if x3_1.length < 35184372088832 then (coamingref02_words.l0 k1 l0 (x3_1 ++ [((((((rd x3_1 (ji16)) + (Go.bits .xor .u32 (Go.bits .xor .u32 t113 t114) ((rd x3_1 (ji10)) / 8))) % 4294967296) + (rd x3_1 (ji21))) % 4294967296) + (Go.bits .xor .u32 (Go.bits .xor .u32 t116 t117) ((rd x3_1 (ji13)) / 1024))) % 4294967296]) (wrap64 (x4_1 + 1))) else (none)) = some r := H
             have A25 := Aside0.mk A250
             clear A250
             by_cases c26 : x3_1.length < 35184372088832
             ·rw [if_pos c26] at H
              have LMc26 := Aside0.mk c26
              clear c26
              obtain ⟨y118, hy118⟩ : ∃ y_ : List Int, y_ = (x3_1 ++ [((((((rd x3_1 (ji16)) + (Go.bits .xor .u32 (Go.bits .xor .u32 t113 t114) ((rd x3_1 (ji10)) / 8))) % 4294967296) + (rd x3_1 (ji21))) % 4294967296) + (Go.bits .xor .u32 (Go.bits .xor .u32 t116 t117) ((rd x3_1 (ji13)) / 1024))) % 4294967296]) := ⟨_, rfl⟩
              replace H : (coamingref02_words.l0 k1 l0 y118 (wrap64 (x4_1 + 1))) = some r := by first | (rw [hy118]; with_reducible exact H) | (have H2_ := (Option.bind_some _ _).symm.trans H; rw [hy118]; with_reducible exact H2_) | (have H2_ := (Option.bind_some _ _).symm.trans H; with_reducible exact H2_) | with_reducible exact H | (rw [hy118]; exact H) | exact H
              have Ny118 := Aside0.mk hy118
              clear hy118
              have H' := Aside0.mk H
              clear H
              obtain ⟨Ao27, co27, eo27⟩ := Kd.R_slice HO_3.out
              subst eo27
              have p110 : 0 ≤ ((ji10) : Int) := of_decide_eq_true (by first | (with_reducible assumption) | assumption)
              have q110 : (ji10) < (x3_1.length : Int) := of_decide_eq_true (by first | (with_reducible assumption) | assumption)
              obtain ⟨ad110, e110, hx110_0⟩ := Kd.at_int (Kd.R_reads' HO_3.out).2.2 (ji10) p110 q110
              cases e110
              replace p110 := eq_true p110
              replace q110 := eq_true q110
              have p111 : 0 ≤ ((ji13) : Int) := of_decide_eq_true (by first | (with_reducible assumption) | assumption)
              have q111 : (ji13) < (x3_1.length : Int) := of_decide_eq_true (by first | (with_reducible assumption) | assumption)
              obtain ⟨ad111, e111, hx111_0⟩ := Kd.at_int (Kd.R_reads' HO_3.out).2.2 (ji13) p111 q111
              obtain rfl : ad110 = ad111 := (by injection e111)
              replace p111 := eq_true p111
              replace q111 := eq_true q111
              try go_wp2
              have n0_ := Aside0.mk (Kd.R_drew HO_3.out)
              have n1_ := Aside0.mk (below_drew1 HB.out)
              clear HO_3
              clear HB
              have HO_3 := n0_
              have HB := n1_
              clear n0_ n1_
              have p112 : 0 ≤ ((ji16) : Int) := of_decide_eq_true (by first | (with_reducible assumption) | assumption)
              have q112 : (ji16) < (x3_1.length : Int) := of_decide_eq_true (by first | (with_reducible assumption) | assumption)
              obtain ⟨ad112, e112, hx112_0⟩ := Kd.at_int (Kd.R_reads' HO_3.out).2.2 (ji16) p112 q112
              obtain rfl : ad110 = ad112 := (by injection e112)
              replace p112 := eq_true p112
              replace q112 := eq_true q112
              have p115 : 0 ≤ ((ji21) : Int) := of_decide_eq_true (by first | (with_reducible assumption) | assumption)
              have q115 : (ji21) < (x3_1.length : Int) := of_decide_eq_true (by first | (with_reducible assumption) | assumption)
              obtain ⟨ad115, e115, hx115_0⟩ := Kd.at_int (Kd.R_reads' HO_3.out).2.2 (ji21) p115 q115
              obtain rfl : ad110 = ad115 := (by injection e115)
              replace p115 := eq_true p115
              replace q115 := eq_true q115
              refine start_ (n := 33) (S := fun w' => w'.cell? (ad110.add ((ji16)).toNat) = some (.int .u32 (rd x3_1 (ji16))) ∧ w'.cell? (ad110.add ((ji21)).toNat) = some (.int .u32 (rd x3_1 (ji21)))) (ds := [30, 31]) #[false, false, false, false, false, false, false, false, false, false, false, false, false, false, false, false, false, false, false, false, false, false, false, false, false, false, false, false, false, false, false, false, false] (by kernel_rfl) rfl rfl ⟨hx112_0, hx115_0⟩ (fun hHeld => ?_); refine with_tabW coamingref02_words.tab14 coamingref02_words.bits14 (fun HT_ HW_ => ?_)
              generalize wr.drew = w28 at HO_3 HB hx112_0 hx115_0 hHeld ⊢
              refine pure_ (i := 0) (N := some 44) (v := ?_) (a' := ?_) #[true, false, false, false, false, false, false, false, false, false, false, false, false, false, false, false, false, false, false, false, false, false, false, false, false, false, false, false, false, false, false, false, false] rfl rfl (any_of HT_.out (by kernel_rfl)) (fun _ _ _ h => h) (Or.inl ⟨by rfl, ?_⟩) ?_ ?_
              rotate_left
              ·intro w'
               go_simp
               with_reducible rfl
              rotate_left
              ·simp only [Act.put, List.setIfInBounds_toArray, List.set_cons_zero, List.set_cons_succ, i64_w, i32_w]
               rfl
              refine pure_ (i := 1) (N := some 45) (v := ?_) (a' := ?_) #[true, true, false, false, false, false, false, false, false, false, false, false, false, false, false, false, false, false, false, false, false, false, false, false, false, false, false, false, false, false, false, false, false] rfl rfl (any_of HT_.out (by kernel_rfl)) (fun _ _ _ h => h) (Or.inl ⟨by rfl, ?_⟩) ?_ ?_
              rotate_left
              ·intro w'
               go_simp
               with_reducible rfl
              rotate_left
              ·simp only [Act.put, List.setIfInBounds_toArray, List.set_cons_zero, List.set_cons_succ, i64_w, i32_w]
               rfl
              refine pure_ (i := 2) (N := some 46) (v := ?_) (a' := ?_) #[true, true, true, false, false, false, false, false, false, false, false, false, false, false, false, false, false, false, false, false, false, false, false, false, false, false, false, false, false, false, false, false, false] rfl rfl (any_of HT_.out (by kernel_rfl)) (fun _ _ _ h => h) (Or.inl ⟨by rfl, ?_⟩) ?_ ?_
              rotate_left
              ·intro w'
               go_simp
               with_reducible rfl
              rotate_left
              ·simp only [Act.put, List.setIfInBounds_toArray, List.set_cons_zero, List.set_cons_succ, i64_w, i32_w]
               rfl
              refine pure_ (i := 3) (N := some 47) (v := ?_) (a' := ?_) #[true, true, true, true, false, false, false, false, false, false, false, false, false, false, false, false, false, false, false, false, false, false, false, false, false, false, false, false, false, false, false, false, false] rfl rfl (any_of HT_.out (by kernel_rfl)) (fun _ _ _ h => h) (Or.inl ⟨by rfl, ?_⟩) ?_ ?_
              rotate_left
              ·intro w'
               go_simp
               with_reducible rfl
              rotate_left
              ·simp only [Act.put, List.setIfInBounds_toArray, List.set_cons_zero, List.set_cons_succ, i64_w, i32_w]
               rfl
              refine pure_ (i := 4) (N := some 48) (v := ?_) (a' := ?_) #[true, true, true, true, true, false, false, false, false, false, false, false, false, false, false, false, false, false, false, false, false, false, false, false, false, false, false, false, false, false, false, false, false] rfl rfl (any_of HT_.out (by kernel_rfl)) (fun _ _ _ h => h) (Or.inl ⟨by rfl, ?_⟩) ?_ ?_
              rotate_left
              ·intro w'
               go_simp
               with_reducible rfl
              rotate_left
              ·simp only [Act.put, List.setIfInBounds_toArray, List.set_cons_zero, List.set_cons_succ, i64_w, i32_w]
               rfl
              refine pure_ (i := 6) (N := some 50) (v := ?_) (a' := ?_) #[true, true, true, true, true, false, true, false, false, false, false, false, false, false, false, false, false, false, false, false, false, false, false, false, false, false, false, false, false, false, false, false, false] rfl rfl (any_of HT_.out (by kernel_rfl)) (fun _ _ _ h => h) (Or.inl ⟨by rfl, ?_⟩) ?_ ?_
              rotate_left
              ·intro w'
               go_simp
               with_reducible rfl
              rotate_left
              ·simp only [Act.put, List.setIfInBounds_toArray, List.set_cons_zero, List.set_cons_succ, i64_w, i32_w]
               rfl
              refine pure_ (i := 8) (N := some 52) (v := ?_) (a' := ?_) #[true, true, true, true, true, false, true, false, true, false, false, false, false, false, false, false, false, false, false, false, false, false, false, false, false, false, false, false, false, false, false, false, false] rfl rfl (any_of HT_.out (by kernel_rfl)) (fun _ _ _ h => h) (Or.inl ⟨by rfl, ?_⟩) ?_ ?_
              rotate_left
              ·intro w'
               go_simp
               with_reducible rfl
              rotate_left
              ·simp only [Act.put, List.setIfInBounds_toArray, List.set_cons_zero, List.set_cons_succ, i64_w, i32_w]
               rfl
              refine pure_ (i := 11) (N := some 55) (v := ?_) (a' := ?_) #[true, true, true, true, true, false, true, false, true, false, false, true, false, false, false, false, false, false, false, false, false, false, false, false, false, false, false, false, false, false, false, false, false] rfl rfl (any_of HT_.out (by kernel_rfl)) (fun _ _ _ h => h) (Or.inl ⟨by rfl, ?_⟩) ?_ ?_
              rotate_left
              ·intro w'
               go_simp
               with_reducible rfl
              rotate_left
              ·simp only [Act.put, List.setIfInBounds_toArray, List.set_cons_zero, List.set_cons_succ, i64_w, i32_w]
               rfl
              refine pure_ (i := 12) (N := some 56) (v := ?_) (a' := ?_) #[true, true, true, true, true, false, true, false, true, false, false, true, true, false, false, false, false, false, false, false, false, false, false, false, false, false, false, false, false, false, false, false, false] rfl rfl (any_of HT_.out (by kernel_rfl)) (fun _ _ _ h => h) (Or.inl ⟨by rfl, ?_⟩) ?_ ?_
              rotate_left
              ·intro w'
               go_simp
               with_reducible rfl
              rotate_left
              ·simp only [Act.put, List.setIfInBounds_toArray, List.set_cons_zero, List.set_cons_succ, i64_w, i32_w]
               rfl
              refine pure_ (i := 15) (N := some 59) (v := ?_) (a' := ?_) #[true, true, true, true, true, false, true, false, true, false, false, true, true, false, false, true, false, false, false, false, false, false, false, false, false, false, false, false, false, false, false, false, false] rfl rfl (any_of HT_.out (by kernel_rfl)) (fun _ _ _ h => h) (Or.inl ⟨by rfl, ?_⟩) ?_ ?_
              rotate_left
              ·intro w'
               go_simp
               with_reducible rfl
              rotate_left
              ·simp only [Act.put, List.setIfInBounds_toArray, List.set_cons_zero, List.set_cons_succ, i64_w, i32_w]
               rfl
              refine pure_ (i := 16) (N := some 60) (v := ?_) (a' := ?_) #[true, true, true, true, true, false, true, false, true, false, false, true, true, false, false, true, true, false, false, false, false, false, false, false, false, false, false, false, false, false, false, false, false] rfl rfl (any_of HT_.out (by kernel_rfl)) (fun _ _ _ h => h) (Or.inl ⟨by rfl, ?_⟩) ?_ ?_
              rotate_left
              ·intro w'
               go_simp
               with_reducible rfl
              rotate_left
              ·simp only [Act.put, List.setIfInBounds_toArray, List.set_cons_zero, List.set_cons_succ, i64_w, i32_w]
               rfl
              refine pure_ (i := 17) (N := some 61) (v := ?_) (a' := ?_) #[true, true, true, true, true, false, true, false, true, false, false, true, true, false, false, true, true, true, false, false, false, false, false, false, false, false, false, false, false, false, false, false, false] rfl rfl (any_of HT_.out (by kernel_rfl)) (fun _ _ _ h => h) (Or.inl ⟨by rfl, ?_⟩) ?_ ?_
              rotate_left
              ·intro w'
               go_simp
               with_reducible rfl
              rotate_left
              ·simp only [Act.put, List.setIfInBounds_toArray, List.set_cons_zero, List.set_cons_succ, i64_w, i32_w]
               rfl
              refine pure_ (i := 18) (N := some 62) (v := ?_) (a' := ?_) #[true, true, true, true, true, false, true, false, true, false, false, true, true, false, false, true, true, true, true, false, false, false, false, false, false, false, false, false, false, false, false, false, false] rfl rfl (any_of HT_.out (by kernel_rfl)) (fun _ _ _ h => h) (Or.inl ⟨by rfl, ?_⟩) ?_ ?_
              rotate_left
              ·intro w'
               go_simp
               with_reducible rfl
              rotate_left
              ·simp only [Act.put, List.setIfInBounds_toArray, List.set_cons_zero, List.set_cons_succ, i64_w, i32_w]
               rfl
              refine pure_ (i := 21) (N := some 65) (v := ?_) (a' := ?_) #[true, true, true, true, true, false, true, false, true, false, false, true, true, false, false, true, true, true, true, false, false, true, false, false, false, false, false, false, false, false, false, false, false] rfl rfl (any_of HT_.out (by kernel_rfl)) (fun _ _ _ h => h) (Or.inl ⟨by rfl, ?_⟩) ?_ ?_
              rotate_left
              ·intro w'
               go_simp
               with_reducible rfl
              rotate_left
              ·simp only [Act.put, List.setIfInBounds_toArray, List.set_cons_zero, List.set_cons_succ, i64_w, i32_w]
               rfl
              refine pure_ (i := 23) (N := some 67) (v := ?_) (a' := ?_) #[true, true, true, true, true, false, true, false, true, false, false, true, true, false, false, true, true, true, true, false, false, true, false, true, false, false, false, false, false, false, false, false, false] rfl rfl (any_of HT_.out (by kernel_rfl)) (fun _ _ _ h => h) (Or.inl ⟨by rfl, ?_⟩) ?_ ?_
              rotate_left
              ·intro w'
               go_simp
               with_reducible rfl
              rotate_left
              ·simp only [Act.put, List.setIfInBounds_toArray, List.set_cons_zero, List.set_cons_succ, i64_w, i32_w]
               rfl
              refine pure_ (i := 26) (N := some 70) (v := ?_) (a' := ?_) #[true, true, true, true, true, false, true, false, true, false, false, true, true, false, false, true, true, true, true, false, false, true, false, true, false, false, true, false, false, false, false, false, false] rfl rfl (any_of HT_.out (by kernel_rfl)) (fun _ _ _ h => h) (Or.inl ⟨by rfl, ?_⟩) ?_ ?_
              rotate_left
              ·intro w'
               go_simp
               with_reducible rfl
              rotate_left
              ·simp only [Act.put, List.setIfInBounds_toArray, List.set_cons_zero, List.set_cons_succ, i64_w, i32_w]
               rfl
              refine pure_ (i := 27) (N := some 71) (v := ?_) (a' := ?_) #[true, true, true, true, true, false, true, false, true, false, false, true, true, false, false, true, true, true, true, false, false, true, false, true, false, false, true, true, false, false, false, false, false] rfl rfl (any_of HT_.out (by kernel_rfl)) (fun _ _ _ h => h) (Or.inl ⟨by rfl, ?_⟩) ?_ ?_
              rotate_left
              ·intro w'
               go_simp
               with_reducible rfl
              rotate_left
              ·simp only [Act.put, List.setIfInBounds_toArray, List.set_cons_zero, List.set_cons_succ, i64_w, i32_w]
               rfl
              refine take_ (i := 5) (N := some 49) (v := ?_) (a' := ?_) #[true, true, true, true, true, true, true, false, true, false, false, true, true, false, false, true, true, true, true, false, false, true, false, true, false, false, true, true, false, false, false, false, false] rfl rfl (take_ofW HT_.out HW_.out (by kernel_rfl)) (fun _ _ _ h => h) (Or.inl ⟨by rfl, ?_⟩) hHeld ?_ ?_
              rotate_left
              ·rintro w' ⟨s0, s1⟩
               go_simp
               with_reducible rfl
              rotate_left
              ·simp only [Act.put, List.setIfInBounds_toArray, List.set_cons_zero, List.set_cons_succ, i64_w, i32_w]
               rfl
              refine take_ (i := 19) (N := some 63) (v := ?_) (a' := ?_) #[true, true, true, true, true, true, true, false, true, false, false, true, true, false, false, true, true, true, true, true, false, true, false, true, false, false, true, true, false, false, false, false, false] rfl rfl (take_ofW HT_.out HW_.out (by kernel_rfl)) (fun _ _ _ h => h) (Or.inl ⟨by rfl, ?_⟩) hHeld ?_ ?_
              rotate_left
              ·rintro w' ⟨s0, s1⟩
               go_simp
               with_reducible rfl
              rotate_left
              ·simp only [Act.put, List.setIfInBounds_toArray, List.set_cons_zero, List.set_cons_succ, i64_w, i32_w]
               rfl
              refine one_ (i := 7) (N := some 51) #[true, true, true, true, true, true, true, true, true, false, false, true, true, false, false, true, true, true, true, true, false, true, false, true, false, false, true, true, false, false, false, false, false] rfl rfl (one_of HT_.out (by kernel_rfl)) (by decide) (fun K hK => ?_)
              refine goes_ Tryd.func62 (by kernel_rfl) rfl #[.int .u32 (rd x3_1 (ji10)), .int .i64 7] (by rfl) rfl rfl (by (try simp only [List.map_toArray, List.map_cons, List.map_nil]); first | done | (simp only [hji10]; rfl) | rfl | (simp only [List.length_drop, List.length_take]; rfl) | (simp only [List.length_drop, List.length_take]; (repeat rw [Nat.min_eq_left (by simp only [eq_iff_iff, iff_true] at *; omega)]); rfl)) ?_
              with_reducible refine (coamingref02_ror.calls (rd x3_1 (ji10)) 7 t113 _ A19.out).mono ?_
              rintro e w' ⟨rfl, ⟨nd, rfl⟩⟩
              refine ⟨_, rfl, ?_⟩
              refine hK.out _ _ ⟨hHeld.1, hHeld.2⟩ (fun hHeld => ?_)
              clear hK K
              refine norm_ (a' := ?_) ?_ ?_
              rotate_left
              ·show Act.put _ (some 51) _ = _
               simp only [Act.put, List.setIfInBounds_toArray, List.set_cons_zero, List.set_cons_succ, i64_w, i32_w]
               rfl
              refine one_ (i := 9) (N := some 53) #[true, true, true, true, true, true, true, true, true, true, false, true, true, false, false, true, true, true, true, true, false, true, false, true, false, false, true, true, false, false, false, false, false] rfl rfl (one_of HT_.out (by kernel_rfl)) (by decide) (fun K hK => ?_)
              refine goes_ Tryd.func62 (by kernel_rfl) rfl #[.int .u32 (rd x3_1 (ji10)), .int .i64 18] (by rfl) rfl rfl (by (try simp only [List.map_toArray, List.map_cons, List.map_nil]); first | done | (simp only [hji10]; rfl) | rfl | (simp only [List.length_drop, List.length_take]; rfl) | (simp only [List.length_drop, List.length_take]; (repeat rw [Nat.min_eq_left (by simp only [eq_iff_iff, iff_true] at *; omega)]); rfl)) ?_
              with_reducible refine (coamingref02_ror.calls (rd x3_1 (ji10)) 18 t114 _ A20.out).mono ?_
              rintro e w' ⟨rfl, ⟨nd, rfl⟩⟩
              refine ⟨_, rfl, ?_⟩
              refine hK.out _ _ ⟨hHeld.1, hHeld.2⟩ (fun hHeld => ?_)
              clear hK K
              refine norm_ (a' := ?_) ?_ ?_
              rotate_left
              ·show Act.put _ (some 53) _ = _
               simp only [Act.put, List.setIfInBounds_toArray, List.set_cons_zero, List.set_cons_succ, i64_w, i32_w]
               rfl
              refine pure_ (i := 10) (N := some 54) (v := ?_) (a' := ?_) #[true, true, true, true, true, true, true, true, true, true, true, true, true, false, false, true, true, true, true, true, false, true, false, true, false, false, true, true, false, false, false, false, false] rfl rfl (any_of HT_.out (by kernel_rfl)) (fun _ _ _ h => h) (Or.inl ⟨by rfl, ?_⟩) ?_ ?_
              rotate_left
              ·intro w'
               go_simp
               with_reducible rfl
              rotate_left
              ·simp only [Act.put, List.setIfInBounds_toArray, List.set_cons_zero, List.set_cons_succ, i64_w, i32_w]
               rfl
              refine pure_ (i := 13) (N := some 57) (v := ?_) (a' := ?_) #[true, true, true, true, true, true, true, true, true, true, true, true, true, true, false, true, true, true, true, true, false, true, false, true, false, false, true, true, false, false, false, false, false] rfl rfl (any_of HT_.out (by kernel_rfl)) (fun _ _ _ h => h) (Or.inl ⟨by rfl, ?_⟩) ?_ ?_
              rotate_left
              ·intro w'
               go_simp
               with_reducible rfl
              rotate_left
              ·simp only [Act.put, List.setIfInBounds_toArray, List.set_cons_zero, List.set_cons_succ, i64_w, i32_w]
               rfl
              refine pure_ (i := 14) (N := some 58) (v := ?_) (a' := ?_) #[true, true, true, true, true, true, true, true, true, true, true, true, true, true, true, true, true, true, true, true, false, true, false, true, false, false, true, true, false, false, false, false, false] rfl rfl (any_of HT_.out (by kernel_rfl)) (fun _ _ _ h => h) (Or.inl ⟨by rfl, ?_⟩) ?_ ?_
              rotate_left
              ·intro w'
               go_simp
               with_reducible rfl
              rotate_left
              ·simp only [Act.put, List.setIfInBounds_toArray, List.set_cons_zero, List.set_cons_succ, i64_w, i32_w]
               rfl
              refine pure_ (i := 20) (N := some 64) (v := ?_) (a' := ?_) #[true, true, true, true, true, true, true, true, true, true, true, true, true, true, true, true, true, true, true, true, true, true, false, true, false, false, true, true, false, false, false, false, false] rfl rfl (any_of HT_.out (by kernel_rfl)) (fun _ _ _ h => h) (Or.inl ⟨by rfl, ?_⟩) ?_ ?_
              rotate_left
              ·intro w'
               go_simp
               with_reducible rfl
              rotate_left
              ·simp only [Act.put, List.setIfInBounds_toArray, List.set_cons_zero, List.set_cons_succ, i64_w, i32_w]
               rfl
              refine one_ (i := 22) (N := some 66) #[true, true, true, true, true, true, true, true, true, true, true, true, true, true, true, true, true, true, true, true, true, true, true, true, false, false, true, true, false, false, false, false, false] rfl rfl (one_of HT_.out (by kernel_rfl)) (by decide) (fun K hK => ?_)
              refine goes_ Tryd.func62 (by kernel_rfl) rfl #[.int .u32 (rd x3_1 (ji13)), .int .i64 17] (by rfl) rfl rfl (by (try simp only [List.map_toArray, List.map_cons, List.map_nil]); first | done | (simp only [hji13]; rfl) | rfl | (simp only [List.length_drop, List.length_take]; rfl) | (simp only [List.length_drop, List.length_take]; (repeat rw [Nat.min_eq_left (by simp only [eq_iff_iff, iff_true] at *; omega)]); rfl)) ?_
              with_reducible refine (coamingref02_ror.calls (rd x3_1 (ji13)) 17 t116 _ A24.out).mono ?_
              rintro e w' ⟨rfl, ⟨nd, rfl⟩⟩
              refine ⟨_, rfl, ?_⟩
              refine hK.out _ _ ⟨hHeld.1, hHeld.2⟩ (fun hHeld => ?_)
              clear hK K
              refine norm_ (a' := ?_) ?_ ?_
              rotate_left
              ·show Act.put _ (some 66) _ = _
               simp only [Act.put, List.setIfInBounds_toArray, List.set_cons_zero, List.set_cons_succ, i64_w, i32_w]
               rfl
              refine one_ (i := 24) (N := some 68) #[true, true, true, true, true, true, true, true, true, true, true, true, true, true, true, true, true, true, true, true, true, true, true, true, true, false, true, true, false, false, false, false, false] rfl rfl (one_of HT_.out (by kernel_rfl)) (by decide) (fun K hK => ?_)
              refine goes_ Tryd.func62 (by kernel_rfl) rfl #[.int .u32 (rd x3_1 (ji13)), .int .i64 19] (by rfl) rfl rfl (by (try simp only [List.map_toArray, List.map_cons, List.map_nil]); first | done | (simp only [hji13]; rfl) | rfl | (simp only [List.length_drop, List.length_take]; rfl) | (simp only [List.length_drop, List.length_take]; (repeat rw [Nat.min_eq_left (by simp only [eq_iff_iff, iff_true] at *; omega)]); rfl)) ?_
              with_reducible refine (coamingref02_ror.calls (rd x3_1 (ji13)) 19 t117 _ A25.out).mono ?_
              rintro e w' ⟨rfl, ⟨nd, rfl⟩⟩
              refine ⟨_, rfl, ?_⟩
              refine hK.out _ _ ⟨hHeld.1, hHeld.2⟩ (fun hHeld => ?_)
              clear hK K
              refine norm_ (a' := ?_) ?_ ?_
              rotate_left
              ·show Act.put _ (some 68) _ = _
               simp only [Act.put, List.setIfInBounds_toArray, List.set_cons_zero, List.set_cons_succ, i64_w, i32_w]
               rfl
              refine pure_ (i := 25) (N := some 69) (v := ?_) (a' := ?_) #[true, true, true, true, true, true, true, true, true, true, true, true, true, true, true, true, true, true, true, true, true, true, true, true, true, true, true, true, false, false, false, false, false] rfl rfl (any_of HT_.out (by kernel_rfl)) (fun _ _ _ h => h) (Or.inl ⟨by rfl, ?_⟩) ?_ ?_
              rotate_left
              ·intro w'
               go_simp
               with_reducible rfl
              rotate_left
              ·simp only [Act.put, List.setIfInBounds_toArray, List.set_cons_zero, List.set_cons_succ, i64_w, i32_w]
               rfl
              refine pure_ (i := 28) (N := some 72) (v := ?_) (a' := ?_) #[true, true, true, true, true, true, true, true, true, true, true, true, true, true, true, true, true, true, true, true, true, true, true, true, true, true, true, true, true, false, false, false, false] rfl rfl (any_of HT_.out (by kernel_rfl)) (fun _ _ _ h => h) (Or.inl ⟨by rfl, ?_⟩) ?_ ?_
              rotate_left
              ·intro w'
               go_simp
               with_reducible rfl
              rotate_left
              ·simp only [Act.put, List.setIfInBounds_toArray, List.set_cons_zero, List.set_cons_succ, i64_w, i32_w]
               rfl
              refine pure_ (i := 29) (N := some 73) (v := ?_) (a' := ?_) #[true, true, true, true, true, true, true, true, true, true, true, true, true, true, true, true, true, true, true, true, true, true, true, true, true, true, true, true, true, true, false, false, false] rfl rfl (any_of HT_.out (by kernel_rfl)) (fun _ _ _ h => h) (Or.inl ⟨by rfl, ?_⟩) ?_ ?_
              rotate_left
              ·intro w'
               go_simp
               with_reducible rfl
              rotate_left
              ·simp only [Act.put, List.setIfInBounds_toArray, List.set_cons_zero, List.set_cons_succ, i64_w, i32_w]
               rfl
              refine last_ (i := 30) (N := some 74) #[true, true, true, true, true, true, true, true, true, true, true, true, true, true, true, true, true, true, true, true, true, true, true, true, true, true, true, true, true, true, true, false, false] rfl rfl (one_of HT_.out (by kernel_rfl)) (by decide) (fun K hK => ?_)
              refine value_ (w1 := ?_) (v := ?_) (by rfl) rfl ?_ ?_
              rotate_left 2
              ·go_simp
               constructor
               ·rfl
               ·rfl
              refine hK.out _ _ ?_
              clear hK K
              refine norm_ (a' := ?_) ?_ ?_
              rotate_left
              ·show Act.put _ (some 74) _ = _
               simp only [Act.put, List.setIfInBounds_toArray, List.set_cons_zero, List.set_cons_succ, i64_w, i32_w]
               rfl
              refine last_ (i := 31) (N := some 75) #[true, true, true, true, true, true, true, true, true, true, true, true, true, true, true, true, true, true, true, true, true, true, true, true, true, true, true, true, true, true, true, true, false] rfl rfl (one_of HT_.out (by kernel_rfl)) (by decide) (fun K hK => ?_)
              refine Kd.R_append_step (Kd.int .u32) (w0 := w) w.heap.size (by rfl) (.tmp 44) (.tmp 74) 37 23 (.int .u32 0) 4 rfl Tryd.underlying37 info23 rfl (by decide) (by omega) (.slice (some ad110) x3_1.length co27) x3_1 (((((((rd x3_1 (ji16)) + (Go.bits .xor .u32 (Go.bits .xor .u32 t113 t114) ((rd x3_1 (ji10)) / 8))) % 4294967296) + (rd x3_1 (ji21))) % 4294967296) + (Go.bits .xor .u32 (Go.bits .xor .u32 t116 t117) ((rd x3_1 (ji13)) / 1024))) % 4294967296) [.int .u32 (((((((rd x3_1 (ji16)) + (Go.bits .xor .u32 (Go.bits .xor .u32 t113 t114) ((rd x3_1 (ji10)) / 8))) % 4294967296) + (rd x3_1 (ji21))) % 4294967296) + (Go.bits .xor .u32 (Go.bits .xor .u32 t116 t117) ((rd x3_1 (ji13)) / 1024))) % 4294967296)] (fun _ => True) (fun _ => False) rfl rfl ?aP (fun _ hk => hk.elim) ?aF ?aO ?aB ?aS ?aL ?_
              (case aP => exact rfl)
              (case aB => exact (by repeat (first | (with_reducible first | exact HB.out | apply below_alloc | apply pw_below_drewN | apply below_drew1) | exact HB.out)))
              (case aF => exact (fun _ _ => trivial))
              (case aO => exact (by (with_reducible repeat (first | apply Kd.R_alloc | apply Kd.R_drewN | apply Kd.R_drew)); exact HO_3.out))
              (case aS => exact (below_size (by repeat (first | (with_reducible first | exact HB.out | apply below_alloc | apply pw_below_drewN | apply below_drew1) | exact HB.out))))
              (case aL => have := LMc26.out; omega)
              intro v119 w29 ho hb hg hat
              rw [← Ny118.out] at ho
              have n0_ := Aside0.mk (hb)
              have n1_ := Aside0.mk (ho)
              clear HB
              clear HO_3
              have HB := n0_
              have HO120 := n1_
              clear n0_ n1_
              clear ho hb hg hat
              refine hK.out _ _ ?_
              clear hK K
              refine norm_ (a' := ?_) ?_ ?_
              rotate_left
              ·show Act.put _ (some 75) _ = _
               simp only [Act.put, List.setIfInBounds_toArray, List.set_cons_zero, List.set_cons_succ, i64_w, i32_w]
               rfl
              refine pure_ (i := 32) (N := some 3) (v := ?_) (a' := ?_) #[true, true, true, true, true, true, true, true, true, true, true, true, true, true, true, true, true, true, true, true, true, true, true, true, true, true, true, true, true, true, true, true, true] rfl rfl (any_of HT_.out (by kernel_rfl)) (fun _ _ _ h => h) (Or.inl ⟨by rfl, ?_⟩) ?_ ?_
              rotate_left
              ·intro w'
               go_simp
               with_reducible rfl
              rotate_left
              ·simp only [Act.put, List.setIfInBounds_toArray, List.set_cons_zero, List.set_cons_succ, i64_w, i32_w]
               rfl
              refine done_ (done_of HT_.out (by kernel_rfl)) ?_
              try go_wp2
              go_roundg k1
              case measure => have := HK1.out; omega
              case rel => exact ⟨(y118), (wrap64 (x4_1 + 1)), (by first | rfl | (simp; done) | (simp [*]; done)), H', ⟨by have := HK1.out; omega⟩, ⟨by (with_reducible repeat (first | apply Kd.R_alloc | apply Kd.R_drewN | apply Kd.R_drew)); exact HO120.out⟩, ⟨by repeat (first | (with_reducible first | exact HB.out | apply below_alloc | apply pw_below_drewN | apply below_drew1) | exact HB.out)⟩⟩
             ·rw [if_neg c26] at H
              exact absurd H (by simp)
            ·rw [if_neg c23] at H
             exact absurd H (by simp)
           ·rw [if_neg c22] at H
            exact absurd H (by simp)
          ·rw [if_neg c18] at H
           exact absurd H (by simp)
         ·rw [if_neg c17] at H
          exact absurd H (by simp)
        ·rw [if_neg c15] at H
         exact absurd H (by simp)
       ·rw [if_neg c14] at H
        exact absurd H (by simp)
      ·rw [if_neg c12] at H
       exact absurd H (by simp)
     ·rw [if_neg c11] at H
      exact absurd H (by simp)
   ·rw [if_neg c2] at H
    have c2b0 : decide (x4_1 < 64) = false := decide_eq_false c2
    clear c2
    obtain rfl := Option.some.inj H
    go_wp2
    go_ret
    exact ⟨_, by first | rfl | (simp [errW_none, errW_some] <;> rfl) | (simp [*, errW_none, errW_some] <;> rfl), by (with_reducible repeat (first | apply Kd.R_alloc | apply Kd.R_drewN | apply Kd.R_drew)); exact HO_3.out, by repeat (first | (with_reducible first | exact HB.out | apply below_alloc | apply pw_below_drewN | apply below_drew1) | exact HB.out)⟩
def coamingref02_keys.f  : Option (List Int) := some (([1116352408, 1899447441, 3049323471, 3921009573, 961987163, 1508970993, 2453635748, 2870763221, 3624381080, 310598401, 607225278, 1426881987, 1925078388, 2162078206, 2614888103, 3248222580, 3835390401, 4022224774, 264347078, 604807628, 770255983, 1249150122, 1555081692, 1996064986, 2554220882, 2821834349, 2952996808, 3210313671, 3336571891, 3584528711, 113926993, 338241895, 666307205, 773529912, 1294757372, 1396182291, 1695183700, 1986661051, 2177026350, 2456956037, 2730485921, 2820302411, 3259730800, 3345764771, 3516065817, 3600352804, 4094571909, 275423344, 430227734, 506948616, 659060556, 883997877, 958139571, 1322822218, 1537002063, 1747873779, 1955562222, 2024104815, 2227730452, 2361852424, 2428436474, 2756734187, 3204031479, 3329325298] : List Int))
set_option maxHeartbeats 8000000 in
set_option maxRecDepth 100000 in
theorem coamingref02_keys.calls  (r : List Int) (w : World) (h : coamingref02_keys.f  = some r) :
  Calls Tryd.prog 61 #[] w fun e w' => ∃ v0_ : Value, e = .returned (v0_) ∧ Kd.R (Kd.int .u32) 23 w' w.heap.size (fun _ => True) v0_ r ∧ Below w.heap.size w w' := by
 have HB := Aside0.mk (Below.refl w.heap.size w)
 have H : (some (([1116352408, 1899447441, 3049323471, 3921009573, 961987163, 1508970993, 2453635748, 2870763221, 3624381080, 310598401, 607225278, 1426881987, 1925078388, 2162078206, 2614888103, 3248222580, 3835390401, 4022224774, 264347078, 604807628, 770255983, 1249150122, 1555081692, 1996064986, 2554220882, 2821834349, 2952996808, 3210313671, 3336571891, 3584528711, 113926993, 338241895, 666307205, 773529912, 1294757372, 1396182291, 1695183700, 1986661051, 2177026350, 2456956037, 2730485921, 2820302411, 3259730800, 3345764771, 3516065817, 3600352804, 4094571909, 275423344, 430227734, 506948616, 659060556, 883997877, 958139571, 1322822218, 1537002063, 1747873779, 1955562222, 2024104815, 2227730452, 2361852424, 2428436474, 2756734187, 3204031479, 3329325298] : List Int))) = some r := h
 clear h
 obtain ⟨y121, hy121⟩ : ∃ y_ : List Int, y_ = (([1116352408, 1899447441, 3049323471, 3921009573, 961987163, 1508970993, 2453635748, 2870763221, 3624381080, 310598401, 607225278, 1426881987, 1925078388, 2162078206, 2614888103, 3248222580, 3835390401, 4022224774, 264347078, 604807628, 770255983, 1249150122, 1555081692, 1996064986, 2554220882, 2821834349, 2952996808, 3210313671, 3336571891, 3584528711, 113926993, 338241895, 666307205, 773529912, 1294757372, 1396182291, 1695183700, 1986661051, 2177026350, 2456956037, 2730485921, 2820302411, 3259730800, 3345764771, 3516065817, 3600352804, 4094571909, 275423344, 430227734, 506948616, 659060556, 883997877, 958139571, 1322822218, 1537002063, 1747873779, 1955562222, 2024104815, 2227730452, 2361852424, 2428436474, 2756734187, 3204031479, 3329325298] : List Int)) := ⟨_, rfl⟩
 replace H : (some y121) = some r := by first | (rw [hy121]; with_reducible exact H) | (have H2_ := (Option.bind_some _ _).symm.trans H; rw [hy121]; with_reducible exact H2_) | (have H2_ := (Option.bind_some _ _).symm.trans H; with_reducible exact H2_) | with_reducible exact H | (rw [hy121]; exact H) | exact H
 have Ny121 := Aside0.mk hy121
 clear hy121
 obtain rfl := Option.some.inj H
 go_enter Tryd.func61, Tryd.ntmps61
 go_wp2_with (first | ((with_reducible refine gate_dst (N := 1) rfl ?_); refine Kd.R_lit (Kd.int .u32) _ 23 ?hg (N := 1) ?hd (xs := ([1116352408, 1899447441, 3049323471, 3921009573, 961987163, 1508970993, 2453635748, 2870763221, 3624381080, 310598401, 607225278, 1426881987, 1925078388, 2162078206, 2614888103, 3248222580, 3835390401, 4022224774, 264347078, 604807628, 770255983, 1249150122, 1555081692, 1996064986, 2554220882, 2821834349, 2952996808, 3210313671, 3336571891, 3584528711, 113926993, 338241895, 666307205, 773529912, 1294757372, 1396182291, 1695183700, 1986661051, 2177026350, 2456956037, 2730485921, 2820302411, 3259730800, 3345764771, 3516065817, 3600352804, 4094571909, 275423344, 430227734, 506948616, 659060556, 883997877, 958139571, 1322822218, 1537002063, 1747873779, 1955562222, 2024104815, 2227730452, 2361852424, 2428436474, 2756734187, 3204031479, 3329325298] : List Int)) (inner := [.int .u32 1116352408, .int .u32 1899447441, .int .u32 3049323471, .int .u32 3921009573, .int .u32 961987163, .int .u32 1508970993, .int .u32 2453635748, .int .u32 2870763221, .int .u32 3624381080, .int .u32 310598401, .int .u32 607225278, .int .u32 1426881987, .int .u32 1925078388, .int .u32 2162078206, .int .u32 2614888103, .int .u32 3248222580, .int .u32 3835390401, .int .u32 4022224774, .int .u32 264347078, .int .u32 604807628, .int .u32 770255983, .int .u32 1249150122, .int .u32 1555081692, .int .u32 1996064986, .int .u32 2554220882, .int .u32 2821834349, .int .u32 2952996808, .int .u32 3210313671, .int .u32 3336571891, .int .u32 3584528711, .int .u32 113926993, .int .u32 338241895, .int .u32 666307205, .int .u32 773529912, .int .u32 1294757372, .int .u32 1396182291, .int .u32 1695183700, .int .u32 1986661051, .int .u32 2177026350, .int .u32 2456956037, .int .u32 2730485921, .int .u32 2820302411, .int .u32 3259730800, .int .u32 3345764771, .int .u32 3516065817, .int .u32 3600352804, .int .u32 4094571909, .int .u32 275423344, .int .u32 430227734, .int .u32 506948616, .int .u32 659060556, .int .u32 883997877, .int .u32 958139571, .int .u32 1322822218, .int .u32 1537002063, .int .u32 1747873779, .int .u32 1955562222, .int .u32 2024104815, .int .u32 2227730452, .int .u32 2361852424, .int .u32 2428436474, .int .u32 2756734187, .int .u32 3204031479, .int .u32 3329325298]) (ok := fun _ => True) (okp := fun _ => True) ?hr ?hp (fun _ hk => hk) trivial (Below.refl _ _) (Nat.le_refl _) (by simp) ?_; (case hd => rfl); (case hg => rfl); (case hr => first | (go_simp; done) | (go_simp; rfl) | (go_simp; simp only [IntKind.wrap_u32, Int.emod_add_emod, Int.add_emod_emod])); (case hp => exact (Reps.one (show Kd.M (Kd.int .u32) _ _ _ 1116352408 [.int .u32 1116352408] from rfl) (Reps.one (show Kd.M (Kd.int .u32) _ _ _ 1899447441 [.int .u32 1899447441] from rfl) (Reps.one (show Kd.M (Kd.int .u32) _ _ _ 3049323471 [.int .u32 3049323471] from rfl) (Reps.one (show Kd.M (Kd.int .u32) _ _ _ 3921009573 [.int .u32 3921009573] from rfl) (Reps.one (show Kd.M (Kd.int .u32) _ _ _ 961987163 [.int .u32 961987163] from rfl) (Reps.one (show Kd.M (Kd.int .u32) _ _ _ 1508970993 [.int .u32 1508970993] from rfl) (Reps.one (show Kd.M (Kd.int .u32) _ _ _ 2453635748 [.int .u32 2453635748] from rfl) (Reps.one (show Kd.M (Kd.int .u32) _ _ _ 2870763221 [.int .u32 2870763221] from rfl) (Reps.one (show Kd.M (Kd.int .u32) _ _ _ 3624381080 [.int .u32 3624381080] from rfl) (Reps.one (show Kd.M (Kd.int .u32) _ _ _ 310598401 [.int .u32 310598401] from rfl) (Reps.one (show Kd.M (Kd.int .u32) _ _ _ 607225278 [.int .u32 607225278] from rfl) (Reps.one (show Kd.M (Kd.int .u32) _ _ _ 1426881987 [.int .u32 1426881987] from rfl) (Reps.one (show Kd.M (Kd.int .u32) _ _ _ 1925078388 [.int .u32 1925078388] from rfl) (Reps.one (show Kd.M (Kd.int .u32) _ _ _ 2162078206 [.int .u32 2162078206] from rfl) (Reps.one (show Kd.M (Kd.int .u32) _ _ _ 2614888103 [.int .u32 2614888103] from rfl) (Reps.one (show Kd.M (Kd.int .u32) _ _ _ 3248222580 [.int .u32 3248222580] from rfl) (Reps.one (show Kd.M (Kd.int .u32) _ _ _ 3835390401 [.int .u32 3835390401] from rfl) (Reps.one (show Kd.M (Kd.int .u32) _ _ _ 4022224774 [.int .u32 4022224774] from rfl) (Reps.one (show Kd.M (Kd.int .u32) _ _ _ 264347078 [.int .u32 264347078] from rfl) (Reps.one (show Kd.M (Kd.int .u32) _ _ _ 604807628 [.int .u32 604807628] from rfl) (Reps.one (show Kd.M (Kd.int .u32) _ _ _ 770255983 [.int .u32 770255983] from rfl) (Reps.one (show Kd.M (Kd.int .u32) _ _ _ 1249150122 [.int .u32 1249150122] from rfl) (Reps.one (show Kd.M (Kd.int .u32) _ _ _ 1555081692 [.int .u32 1555081692] from rfl) (Reps.one (show Kd.M (Kd.int .u32) _ _ _ 1996064986 [.int .u32 1996064986] from rfl) (Reps.one (show Kd.M (Kd.int .u32) _ _ _ 2554220882 [.int .u32 2554220882] from rfl) (Reps.one (show Kd.M (Kd.int .u32) _ _ _ 2821834349 [.int .u32 2821834349] from rfl) (Reps.one (show Kd.M (Kd.int .u32) _ _ _ 2952996808 [.int .u32 2952996808] from rfl) (Reps.one (show Kd.M (Kd.int .u32) _ _ _ 3210313671 [.int .u32 3210313671] from rfl) (Reps.one (show Kd.M (Kd.int .u32) _ _ _ 3336571891 [.int .u32 3336571891] from rfl) (Reps.one (show Kd.M (Kd.int .u32) _ _ _ 3584528711 [.int .u32 3584528711] from rfl) (Reps.one (show Kd.M (Kd.int .u32) _ _ _ 113926993 [.int .u32 113926993] from rfl) (Reps.one (show Kd.M (Kd.int .u32) _ _ _ 338241895 [.int .u32 338241895] from rfl) (Reps.one (show Kd.M (Kd.int .u32) _ _ _ 666307205 [.int .u32 666307205] from rfl) (Reps.one (show Kd.M (Kd.int .u32) _ _ _ 773529912 [.int .u32 773529912] from rfl) (Reps.one (show Kd.M (Kd.int .u32) _ _ _ 1294757372 [.int .u32 1294757372] from rfl) (Reps.one (show Kd.M (Kd.int .u32) _ _ _ 1396182291 [.int .u32 1396182291] from rfl) (Reps.one (show Kd.M (Kd.int .u32) _ _ _ 1695183700 [.int .u32 1695183700] from rfl) (Reps.one (show Kd.M (Kd.int .u32) _ _ _ 1986661051 [.int .u32 1986661051] from rfl) (Reps.one (show Kd.M (Kd.int .u32) _ _ _ 2177026350 [.int .u32 2177026350] from rfl) (Reps.one (show Kd.M (Kd.int .u32) _ _ _ 2456956037 [.int .u32 2456956037] from rfl) (Reps.one (show Kd.M (Kd.int .u32) _ _ _ 2730485921 [.int .u32 2730485921] from rfl) (Reps.one (show Kd.M (Kd.int .u32) _ _ _ 2820302411 [.int .u32 2820302411] from rfl) (Reps.one (show Kd.M (Kd.int .u32) _ _ _ 3259730800 [.int .u32 3259730800] from rfl) (Reps.one (show Kd.M (Kd.int .u32) _ _ _ 3345764771 [.int .u32 3345764771] from rfl) (Reps.one (show Kd.M (Kd.int .u32) _ _ _ 3516065817 [.int .u32 3516065817] from rfl) (Reps.one (show Kd.M (Kd.int .u32) _ _ _ 3600352804 [.int .u32 3600352804] from rfl) (Reps.one (show Kd.M (Kd.int .u32) _ _ _ 4094571909 [.int .u32 4094571909] from rfl) (Reps.one (show Kd.M (Kd.int .u32) _ _ _ 275423344 [.int .u32 275423344] from rfl) (Reps.one (show Kd.M (Kd.int .u32) _ _ _ 430227734 [.int .u32 430227734] from rfl) (Reps.one (show Kd.M (Kd.int .u32) _ _ _ 506948616 [.int .u32 506948616] from rfl) (Reps.one (show Kd.M (Kd.int .u32) _ _ _ 659060556 [.int .u32 659060556] from rfl) (Reps.one (show Kd.M (Kd.int .u32) _ _ _ 883997877 [.int .u32 883997877] from rfl) (Reps.one (show Kd.M (Kd.int .u32) _ _ _ 958139571 [.int .u32 958139571] from rfl) (Reps.one (show Kd.M (Kd.int .u32) _ _ _ 1322822218 [.int .u32 1322822218] from rfl) (Reps.one (show Kd.M (Kd.int .u32) _ _ _ 1537002063 [.int .u32 1537002063] from rfl) (Reps.one (show Kd.M (Kd.int .u32) _ _ _ 1747873779 [.int .u32 1747873779] from rfl) (Reps.one (show Kd.M (Kd.int .u32) _ _ _ 1955562222 [.int .u32 1955562222] from rfl) (Reps.one (show Kd.M (Kd.int .u32) _ _ _ 2024104815 [.int .u32 2024104815] from rfl) (Reps.one (show Kd.M (Kd.int .u32) _ _ _ 2227730452 [.int .u32 2227730452] from rfl) (Reps.one (show Kd.M (Kd.int .u32) _ _ _ 2361852424 [.int .u32 2361852424] from rfl) (Reps.one (show Kd.M (Kd.int .u32) _ _ _ 2428436474 [.int .u32 2428436474] from rfl) (Reps.one (show Kd.M (Kd.int .u32) _ _ _ 2756734187 [.int .u32 2756734187] from rfl) (Reps.one (show Kd.M (Kd.int .u32) _ _ _ 3204031479 [.int .u32 3204031479] from rfl) (Reps.one (show Kd.M (Kd.int .u32) _ _ _ 3329325298 [.int .u32 3329325298] from rfl) (Reps.none _ _)))))))))))))))))))))))))))))))))))))))))))))))))))))))))))))))))); intro v122 w1 ho2 hb hg_ hnew_; clear hg_ hnew_; (first | rw [← Ny121.out] at ho2 | (simp only [Int.reduceToNat] at ho2; rw [← Ny121.out] at ho2)); have n0_ := Aside0.mk (Kd.R_lower ho2 (below_size (by repeat (first | (with_reducible first | exact HB.out | apply below_alloc | apply pw_below_drewN | apply below_drew1) | exact HB.out)))); have n1_ := Aside0.mk (below_step (by repeat (first | (with_reducible first | exact HB.out | apply below_alloc | apply pw_below_drewN | apply below_drew1) | exact HB.out)) hb); clear HB; have HO123 := n0_; have HB := n1_; clear n0_ n1_; clear hb ho2))
 go_ret
 exact ⟨_, by first | rfl | (simp [errW_none, errW_some] <;> rfl) | (simp [*, errW_none, errW_some] <;> rfl), by (with_reducible repeat (first | apply Kd.R_alloc | apply Kd.R_drewN | apply Kd.R_drew)); exact HO123.out, by repeat (first | (with_reducible first | exact HB.out | apply below_alloc | apply pw_below_drewN | apply below_drew1) | exact HB.out)⟩
end Go.Proofs.YtabdnlecpndfjaaDoor.PBase
