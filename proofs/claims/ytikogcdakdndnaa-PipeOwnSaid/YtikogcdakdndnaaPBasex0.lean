-- PRINTED by print.py (a twelfth state) out of the translation. Not trusted: Lean checks it.
import Derived.Test.YtikogcdakdndnaaProg
import Derived.Below
import Derived.Deep.Draws
import Derived.Deep.AppendLies
import Derived.Maps.AppendAt
import Derived.OwnWalk
import Derived.Laws.BytesArg
import Derived.Laws.MakeOwn
import Derived.Laws.OwnMore
import Derived.Deep.OwnRows
import Derived.Tactics
import Derived.Lib.ConvBytes
import Derived.Laws.Slices
import Derived.WalkKit
import Derived.KernelRfl
import Derived.RowKit3
import Derived.Deep.LoopGhost
import Derived.Deep.QuietTactic
import Derived.BigQuiet
import Derived.WideLaws
import Derived.Deep.DeepCutAuto
import Derived.Deep.CutBlock
import Derived.Deep.RegionHeld3
import Derived.Laws.Rows
import Derived.Lib.AppendStr
import Derived.ArgAppend
import Derived.Laws.IdiomCopy
import Derived.OrdersHeld
import Derived.Laws.BitsLemmas
import Derived.RowKit
import Derived.Test.YtikogcdakdndnaaWWords
import Derived.Test.YtikogcdakdndnaaWLast
import Derived.Test.YtikogcdakdndnaaWTab
import Derived.Test.YtikogcdakdndnaaWFour
import Derived.Test.YtikogcdakdndnaaWQPut
import Derived.Test.YtikogcdakdndnaaWApart
import Derived.Test.YtikogcdakdndnaaWArr
import Derived.Test.YtikogcdakdndnaaWZeros
import Derived.Test.YtikogcdakdndnaaWFoot
import Derived.Test.YtikogcdakdndnaaWKept
import Derived.Test.YtikogcdakdndnaaWShare
import Derived.Test.YtikogcdakdndnaaWN
import Derived.Test.YtikogcdakdndnaaWFootNe
import Derived.Test.YtikogcdakdndnaaWAt
import Derived.Test.YtikogcdakdndnaaWEqStruct
import Derived.Test.YtikogcdakdndnaaWRepsOne
import Derived.Test.YtikogcdakdndnaaWInv
import Derived.Test.YtikogcdakdndnaaWInvWords
import Derived.Test.YtikogcdakdndnaaWGuard
import Derived.Test.YtikogcdakdndnaaWNEv
import Derived.Test.YtikogcdakdndnaaWMore
namespace Go.Proofs.Ytikogcdakdndnaa.PBase
open Go.RowKit Go.Proofs.YtikogcdakdndnaaW.PrintWords Go.Proofs.YtikogcdakdndnaaW.PrintLast Go.Proofs.YtikogcdakdndnaaW.PrintMore
attribute [local go_sem] max2_int min2_int max_two min_two max_three min_three max_four min_four   -- for this text's walks alone
set_option linter.unusedVariables false
set_option linter.unusedSimpArgs false



def errW : Option Int → Value
  | none => .nilIface
  | some c => .iface 0 (.int .i64 c)
theorem errW_none : errW none = .nilIface := rfl
theorem errW_some (c : Int) : errW (some c) = .iface 0 (.int .i64 c) := rfl

-- the values' own types
def rd_L4 (xs : List (List Int)) (i : Int) : (List Int) := xs.getD i.toNat ([] : List Int)
theorem at_L4 {w : World} {A : Option Addr} {n : Nat} {xs : List (List Int)} (h : Kd.C (Kd.slice 5 (Kd.int .u8)) w A n xs) (i : Int) (h0 : 0 ≤ i) (h1 : i < n) : ∃ ad A0 c0, A = some ad ∧ w.cell? (ad.add i.toNat) = some (.slice A0 (rd_L4 xs i).length c0) ∧ (rd_L4 xs i).length ≤ c0 ∧ (Kd.int .u8).C w A0 (rd_L4 xs i).length (rd_L4 xs i) := by
  obtain ⟨ad, c, e, _, hK, hc0⟩ := Kd.C_get h ([] : List Int) i h0 h1
  have hc : ∀ j u, c[j]? = some u → w.cell? (ad.add (i.toNat * 1 + j)) = some u := hc0
  obtain ⟨A0, c0, rfl, l0, g0⟩ := hK
  exact ⟨ad, A0, c0, e, by have hq := hc 0 _ rfl; rwa [Nat.mul_one, Nat.add_zero] at hq, l0, g0⟩

/-! #### struct type 33 -/
structure S33 where
  f0 : Int
  f1 : Int
  f2 : Int
  f3 : Int
  f4 : Int
  f5 : (List Int)
def z33 : S33 := ⟨(0 : Int), (0 : Int), (0 : Int), (0 : Int), (0 : Int), ([] : List Int)⟩
def k33 : Kd S33 := Kd.iso (Kd.pair (Kd.int .u16) (Kd.pair (Kd.int .u16) (Kd.pair (Kd.int .u64) (Kd.pair (Kd.int .u64) (Kd.pair (Kd.int .u32) (Kd.slice 5 (Kd.int .u8))))))) (fun x : S33 => (x.f0, x.f1, x.f2, x.f3, x.f4, x.f5))
theorem k33_open {w : World} {x : S33} {cs : List Value} (h : k33.K w x cs) : ∃ A5 c5, cs = [.int .u16 x.f0, .int .u16 x.f1, .int .u64 x.f2, .int .u64 x.f3, .int .u32 x.f4, .slice A5 x.f5.length c5] ∧ x.f5.length ≤ c5 ∧ (Kd.int .u8).C w A5 x.f5.length x.f5 := by
  obtain ⟨_, _, rfl, rfl, ⟨_, _, rfl, rfl, ⟨_, _, rfl, rfl, ⟨_, _, rfl, rfl, ⟨_, _, rfl, rfl, ⟨A5, c5, rfl, l5, g5⟩⟩⟩⟩⟩⟩ := h
  exact ⟨A5, c5, rfl, l5, g5⟩
theorem k33_openM {w : World} {base : Nat} {ok : Nat → Prop} {x : S33} {cs : List Value} (h : k33.M w base ok x cs) : ∃ v5, cs = [.int .u16 x.f0, .int .u16 x.f1, .int .u64 x.f2, .int .u64 x.f3, .int .u32 x.f4, v5] ∧ (Kd.int .u8).R 5 w base ok v5 x.f5 := by
  obtain ⟨_, _, rfl, rfl, ⟨_, _, rfl, rfl, ⟨_, _, rfl, rfl, ⟨_, _, rfl, rfl, ⟨_, _, rfl, rfl, ⟨v5, rfl, g5⟩⟩⟩⟩⟩⟩ := h
  exact ⟨v5, rfl, g5⟩
theorem k33_mk (w : World) (x : S33) {A5 : Option Addr} {c5 : Nat} (l5 : x.f5.length ≤ c5) (g5 : (Kd.int .u8).C w A5 x.f5.length x.f5) : k33.K w x [.int .u16 x.f0, .int .u16 x.f1, .int .u64 x.f2, .int .u64 x.f3, .int .u32 x.f4, .slice A5 x.f5.length c5] := ⟨[.int .u16 x.f0], [.int .u16 x.f1, .int .u64 x.f2, .int .u64 x.f3, .int .u32 x.f4, .slice A5 x.f5.length c5], rfl, rfl, ⟨[.int .u16 x.f1], [.int .u64 x.f2, .int .u64 x.f3, .int .u32 x.f4, .slice A5 x.f5.length c5], rfl, rfl, ⟨[.int .u64 x.f2], [.int .u64 x.f3, .int .u32 x.f4, .slice A5 x.f5.length c5], rfl, rfl, ⟨[.int .u64 x.f3], [.int .u32 x.f4, .slice A5 x.f5.length c5], rfl, rfl, ⟨[.int .u32 x.f4], [.slice A5 x.f5.length c5], rfl, rfl, ⟨A5, c5, rfl, l5, g5⟩⟩⟩⟩⟩⟩
theorem k33_mkM (w : World) (base : Nat) (ok : Nat → Prop) (x : S33) {v5 : Value} (g5 : (Kd.int .u8).R 5 w base ok v5 x.f5) : k33.M w base ok x [.int .u16 x.f0, .int .u16 x.f1, .int .u64 x.f2, .int .u64 x.f3, .int .u32 x.f4, v5] := ⟨[.int .u16 x.f0], [.int .u16 x.f1, .int .u64 x.f2, .int .u64 x.f3, .int .u32 x.f4, v5], rfl, rfl, ⟨[.int .u16 x.f1], [.int .u64 x.f2, .int .u64 x.f3, .int .u32 x.f4, v5], rfl, rfl, ⟨[.int .u64 x.f2], [.int .u64 x.f3, .int .u32 x.f4, v5], rfl, rfl, ⟨[.int .u64 x.f3], [.int .u32 x.f4, v5], rfl, rfl, ⟨[.int .u32 x.f4], [v5], rfl, rfl, ⟨v5, rfl, g5⟩⟩⟩⟩⟩⟩
def rd_T33 (xs : List S33) (i : Int) : S33 := xs.getD i.toNat z33
theorem at_T33 {w : World} {A : Option Addr} {n : Nat} {xs : List S33} (h : Kd.C k33 w A n xs) (i : Int) (h0 : 0 ≤ i) (h1 : i < n) : ∃ ad A5 c5, A = some ad ∧ w.cell? (ad.add (i.toNat * 6)) = some (.int .u16 (rd_T33 xs i).f0) ∧ w.cell? ⟨(ad.add (i.toNat * 6)).block, (ad.add (i.toNat * 6)).off + 1, none⟩ = some (.int .u16 (rd_T33 xs i).f1) ∧ w.cell? ⟨(ad.add (i.toNat * 6)).block, (ad.add (i.toNat * 6)).off + 2, none⟩ = some (.int .u64 (rd_T33 xs i).f2) ∧ w.cell? ⟨(ad.add (i.toNat * 6)).block, (ad.add (i.toNat * 6)).off + 3, none⟩ = some (.int .u64 (rd_T33 xs i).f3) ∧ w.cell? ⟨(ad.add (i.toNat * 6)).block, (ad.add (i.toNat * 6)).off + 4, none⟩ = some (.int .u32 (rd_T33 xs i).f4) ∧ w.cell? ⟨(ad.add (i.toNat * 6)).block, (ad.add (i.toNat * 6)).off + 5, none⟩ = some (.slice A5 (rd_T33 xs i).f5.length c5) ∧ (rd_T33 xs i).f5.length ≤ c5 ∧ (Kd.int .u8).C w A5 (rd_T33 xs i).f5.length (rd_T33 xs i).f5 := by
  obtain ⟨ad, c, e, _, hK, hc0⟩ := Kd.C_get h z33 i h0 h1
  have hc : ∀ j u, c[j]? = some u → w.cell? (ad.add (i.toNat * 6 + j)) = some u := hc0
  obtain ⟨A5, c5, rfl, l5, g5⟩ := k33_open hK
  exact ⟨ad, A5, c5, e, hc 0 _ rfl, by rw [← add_field _ _ 1 (by omega)]; exact hc 1 _ rfl, by rw [← add_field _ _ 2 (by omega)]; exact hc 2 _ rfl, by rw [← add_field _ _ 3 (by omega)]; exact hc 3 _ rfl, by rw [← add_field _ _ 4 (by omega)]; exact hc 4 _ rfl, by rw [← add_field _ _ 5 (by omega)]; exact hc 5 _ rfl, l5, g5⟩

/-! #### struct type 41 -/
structure S41 where
  f0 : Bool
  f1 : Bool
  f2 : Int
  f3 : S33
def z41 : S41 := ⟨false, false, (0 : Int), z33⟩
def k41 : Kd S41 := Kd.iso (Kd.pair Kd.bool (Kd.pair Kd.bool (Kd.pair (Kd.int .i64) k33))) (fun x : S41 => (x.f0, x.f1, x.f2, x.f3))
theorem k41_open {w : World} {x : S41} {cs : List Value} (h : k41.K w x cs) : ∃ A8 c8, cs = [.bool x.f0, .bool x.f1, .int .i64 x.f2, .int .u16 x.f3.f0, .int .u16 x.f3.f1, .int .u64 x.f3.f2, .int .u64 x.f3.f3, .int .u32 x.f3.f4, .slice A8 x.f3.f5.length c8] ∧ x.f3.f5.length ≤ c8 ∧ (Kd.int .u8).C w A8 x.f3.f5.length x.f3.f5 := by
  obtain ⟨_, _, rfl, rfl, ⟨_, _, rfl, rfl, ⟨_, _, rfl, rfl, s3⟩⟩⟩ := h
  obtain ⟨A8, c8, rfl, l8, g8⟩ := k33_open s3
  exact ⟨A8, c8, rfl, l8, g8⟩
theorem k41_openM {w : World} {base : Nat} {ok : Nat → Prop} {x : S41} {cs : List Value} (h : k41.M w base ok x cs) : ∃ v8, cs = [.bool x.f0, .bool x.f1, .int .i64 x.f2, .int .u16 x.f3.f0, .int .u16 x.f3.f1, .int .u64 x.f3.f2, .int .u64 x.f3.f3, .int .u32 x.f3.f4, v8] ∧ (Kd.int .u8).R 5 w base ok v8 x.f3.f5 := by
  obtain ⟨_, _, rfl, rfl, ⟨_, _, rfl, rfl, ⟨_, _, rfl, rfl, s3⟩⟩⟩ := h
  obtain ⟨v8, rfl, g8⟩ := k33_openM s3
  exact ⟨v8, rfl, g8⟩
theorem k41_mk (w : World) (x : S41) {A8 : Option Addr} {c8 : Nat} (l8 : x.f3.f5.length ≤ c8) (g8 : (Kd.int .u8).C w A8 x.f3.f5.length x.f3.f5) : k41.K w x [.bool x.f0, .bool x.f1, .int .i64 x.f2, .int .u16 x.f3.f0, .int .u16 x.f3.f1, .int .u64 x.f3.f2, .int .u64 x.f3.f3, .int .u32 x.f3.f4, .slice A8 x.f3.f5.length c8] := ⟨[.bool x.f0], [.bool x.f1, .int .i64 x.f2, .int .u16 x.f3.f0, .int .u16 x.f3.f1, .int .u64 x.f3.f2, .int .u64 x.f3.f3, .int .u32 x.f3.f4, .slice A8 x.f3.f5.length c8], rfl, rfl, ⟨[.bool x.f1], [.int .i64 x.f2, .int .u16 x.f3.f0, .int .u16 x.f3.f1, .int .u64 x.f3.f2, .int .u64 x.f3.f3, .int .u32 x.f3.f4, .slice A8 x.f3.f5.length c8], rfl, rfl, ⟨[.int .i64 x.f2], [.int .u16 x.f3.f0, .int .u16 x.f3.f1, .int .u64 x.f3.f2, .int .u64 x.f3.f3, .int .u32 x.f3.f4, .slice A8 x.f3.f5.length c8], rfl, rfl, (k33_mk w x.f3 l8 g8)⟩⟩⟩
theorem k41_mkM (w : World) (base : Nat) (ok : Nat → Prop) (x : S41) {v8 : Value} (g8 : (Kd.int .u8).R 5 w base ok v8 x.f3.f5) : k41.M w base ok x [.bool x.f0, .bool x.f1, .int .i64 x.f2, .int .u16 x.f3.f0, .int .u16 x.f3.f1, .int .u64 x.f3.f2, .int .u64 x.f3.f3, .int .u32 x.f3.f4, v8] := ⟨[.bool x.f0], [.bool x.f1, .int .i64 x.f2, .int .u16 x.f3.f0, .int .u16 x.f3.f1, .int .u64 x.f3.f2, .int .u64 x.f3.f3, .int .u32 x.f3.f4, v8], rfl, rfl, ⟨[.bool x.f1], [.int .i64 x.f2, .int .u16 x.f3.f0, .int .u16 x.f3.f1, .int .u64 x.f3.f2, .int .u64 x.f3.f3, .int .u32 x.f3.f4, v8], rfl, rfl, ⟨[.int .i64 x.f2], [.int .u16 x.f3.f0, .int .u16 x.f3.f1, .int .u64 x.f3.f2, .int .u64 x.f3.f3, .int .u32 x.f3.f4, v8], rfl, rfl, (k33_mkM w base ok x.f3 g8)⟩⟩⟩
def rd_T41 (xs : List S41) (i : Int) : S41 := xs.getD i.toNat z41
theorem at_T41 {w : World} {A : Option Addr} {n : Nat} {xs : List S41} (h : Kd.C k41 w A n xs) (i : Int) (h0 : 0 ≤ i) (h1 : i < n) : ∃ ad A8 c8, A = some ad ∧ w.cell? (ad.add (i.toNat * 9)) = some (.bool (rd_T41 xs i).f0) ∧ w.cell? ⟨(ad.add (i.toNat * 9)).block, (ad.add (i.toNat * 9)).off + 1, none⟩ = some (.bool (rd_T41 xs i).f1) ∧ w.cell? ⟨(ad.add (i.toNat * 9)).block, (ad.add (i.toNat * 9)).off + 2, none⟩ = some (.int .i64 (rd_T41 xs i).f2) ∧ w.cell? ⟨(ad.add (i.toNat * 9)).block, (ad.add (i.toNat * 9)).off + 3, none⟩ = some (.int .u16 (rd_T41 xs i).f3.f0) ∧ w.cell? ⟨(ad.add (i.toNat * 9)).block, (ad.add (i.toNat * 9)).off + 4, none⟩ = some (.int .u16 (rd_T41 xs i).f3.f1) ∧ w.cell? ⟨(ad.add (i.toNat * 9)).block, (ad.add (i.toNat * 9)).off + 5, none⟩ = some (.int .u64 (rd_T41 xs i).f3.f2) ∧ w.cell? ⟨(ad.add (i.toNat * 9)).block, (ad.add (i.toNat * 9)).off + 6, none⟩ = some (.int .u64 (rd_T41 xs i).f3.f3) ∧ w.cell? ⟨(ad.add (i.toNat * 9)).block, (ad.add (i.toNat * 9)).off + 7, none⟩ = some (.int .u32 (rd_T41 xs i).f3.f4) ∧ w.cell? ⟨(ad.add (i.toNat * 9)).block, (ad.add (i.toNat * 9)).off + 8, none⟩ = some (.slice A8 (rd_T41 xs i).f3.f5.length c8) ∧ (rd_T41 xs i).f3.f5.length ≤ c8 ∧ (Kd.int .u8).C w A8 (rd_T41 xs i).f3.f5.length (rd_T41 xs i).f3.f5 := by
  obtain ⟨ad, c, e, _, hK, hc0⟩ := Kd.C_get h z41 i h0 h1
  have hc : ∀ j u, c[j]? = some u → w.cell? (ad.add (i.toNat * 9 + j)) = some u := hc0
  obtain ⟨A8, c8, rfl, l8, g8⟩ := k41_open hK
  exact ⟨ad, A8, c8, e, hc 0 _ rfl, by rw [← add_field _ _ 1 (by omega)]; exact hc 1 _ rfl, by rw [← add_field _ _ 2 (by omega)]; exact hc 2 _ rfl, by rw [← add_field _ _ 3 (by omega)]; exact hc 3 _ rfl, by rw [← add_field _ _ 4 (by omega)]; exact hc 4 _ rfl, by rw [← add_field _ _ 5 (by omega)]; exact hc 5 _ rfl, by rw [← add_field _ _ 6 (by omega)]; exact hc 6 _ rfl, by rw [← add_field _ _ 7 (by omega)]; exact hc 7 _ rfl, by rw [← add_field _ _ 8 (by omega)]; exact hc 8 _ rfl, l8, g8⟩

end Go.Proofs.Ytikogcdakdndnaa.PBase
