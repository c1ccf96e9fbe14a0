/- What the code of package sha keeps in memory, and the contracts of its small functions. -/
import Derived.Test.YthcilikinfhipaaDoorShaMath
import Derived.Test.YthcilikinfhipaaDoorPBasex1
import Derived.Test.YthcilikinfhipaaDoorWWords
import Derived.Test.YthcilikinfhipaaDoorBits
import Derived.Deep.LoopGhost
import Derived.Outline
import Derived.OwnWalk
set_option linter.unusedVariables false
set_option linter.unusedSimpArgs false
namespace Go.Proofs.YthcilikinfhipaaDoor
open Go.RowKit Go.Proofs.YthcilikinfhipaaDoorW.PrintWords
namespace Sh
def u32s (l : List Int) : Array Value := (l.map (Value.int .u32)).toArray
/-- a hash's cells -/
def hc (s p : List Int) (n : Int) : Array Value := (s.map (Value.int .u32) ++ p.map (Value.int .u8) ++ [Value.int .u64 n]).toArray
theorem hc_sum (s p : List Int) (n : Int) (i : Nat) (hs : i < s.length) : (hc s p n)[i]? = some (.int .u32 (s.getD i 0)) := by
  simp [hc, List.getElem?_append, hs, List.getD_eq_getElem?_getD, List.getElem?_eq_getElem hs]
theorem hc_rest (s p : List Int) (n : Int) (i : Nat) (hs : i < p.length) : (hc s p n)[s.length + i]? = some (.int .u8 (p.getD i 0)) := by
  simp [hc, List.getElem?_append, hs, List.getD_eq_getElem?_getD, List.getElem?_eq_getElem hs]
theorem hc_rest' (s : V) (p : List Int) (n : Int) (i : Nat) {o : Nat} (ho : o = 8) (hs : i < p.length) : (hc s.list p n)[o + i]? = some (.int .u8 (p.getD i 0)) := by
  subst ho
  exact hc_rest s.list p n i hs
theorem u32s_at (l : List Int) (i : Nat) (h : i < l.length) : (u32s l)[i]? = some (.int .u32 (l.getD i 0)) := by
  simp [u32s, List.getD_eq_getElem?_getD, List.getElem?_eq_getElem h]
theorem hc_n (s p : List Int) (n : Int) : (hc s p n)[s.length + p.length]? = some (.int .u64 n) := by
  simp [hc, List.getElem?_append]
theorem cellAt {w : World} {b : Nat} {C : Array Value} {t : TypeId} {fr : Nat × Nat} (h : w.heap[b]? = some (.cells C t fr)) (i : Nat) (v : Value) (hv : C[i]? = some v) : w.cell? ⟨b, i, none⟩ = some v := by
  unfold World.cell?
  rw [h]
  exact hv
theorem frozenAt {w : World} {b : Nat} {C : Array Value} {t : TypeId} (h : w.heap[b]? = some (.cells C t (0, 0))) (i : Nat) : w.frozen? ⟨b, i, none⟩ = false := by
  unfold World.frozen?
  rw [h]
  simp
theorem gb_refl (w : World) (r : Option Nat) : w.grownBy w r := ⟨rfl, rfl, rfl, Nat.le_refl _, fun _ _ _ => rfl⟩
theorem gb_trans {a b c : World} {r : Option Nat} (h : a.grownBy b r) (k : b.grownBy c r) : a.grownBy c r :=
  ⟨k.os.trans h.os, k.tape.trans h.tape, k.output.trans h.output, Nat.le_trans h.size k.size, fun i hi hr => (k.block i (Nat.lt_of_lt_of_le hi h.size) hr).trans (h.block i hi hr)⟩
theorem gb_below {a b c : World} {r : Option Nat} (h : a.grownBy b r) (k : Below a.heap.size b c) : a.grownBy c r :=
  ⟨k.os.trans h.os, k.tape.trans h.tape, k.output.trans h.output, Nat.le_trans h.size k.size, fun i hi hr => (k.block i hi).trans (h.block i hi hr)⟩
theorem gb_of_below {a b : World} {r : Option Nat} (k : Below a.heap.size a b) : a.grownBy b r := gb_below (gb_refl a r) k
theorem gb_drewN {a b : World} {r : Option Nat} (h : a.grownBy b r) (n : Nat) : a.grownBy (b.drewN n) r := gb_below h ⟨rfl, rfl, rfl, Nat.le_refl _, fun _ _ => rfl⟩
theorem gb_alloc {a b : World} {r : Option Nat} (h : a.grownBy b r) (o : Obj) : a.grownBy (b.alloc o) r := gb_below h ((Below.refl _ _).alloc h.size o)
theorem gb_set {a b : World} {k : Nat} (h : a.grownBy b (some k)) (i : Nat) (v : Value) : a.grownBy (b.setCell ⟨k, i, none⟩ v) (some k) := by
  refine gb_trans h ⟨rfl, rfl, rfl, ?_, fun j hj hr => Below.heap_setCell _ _ _ _ (fun e => hr (by rw [e]))⟩
  exact ((Below.refl 0 b).setCell (p := ⟨k, i, none⟩) (Nat.zero_le _) v).size
theorem gb_set_new {a b : World} {k : Nat} {r : Option Nat} (h : a.grownBy b r) (hk : a.heap.size ≤ k) (i : Nat) (v : Value) : a.grownBy (b.setCell ⟨k, i, none⟩ v) r :=
  gb_below h ((Below.refl _ _).setCell (p := ⟨k, i, none⟩) hk v)
/-- a cell is set -/
theorem row_set {w : World} {b : Nat} {C : Array Value} {t : TypeId} (h : w.heap[b]? = some (.cells C t (0, 0))) (i : Nat) (v : Value) : (w.setCell ⟨b, i, none⟩ v).heap[b]? = some (.cells (C.setIfInBounds i v) t (0, 0)) :=
  heap_setCell_same w b i C t v h
theorem row_far {w : World} {b : Nat} {o : Obj} (h : w.heap[b]? = some o) (k : Nat) (hk : b ≠ k) (i : Nat) (v : Value) : (w.setCell ⟨k, i, none⟩ v).heap[b]? = some o :=
  (Below.heap_setCell _ _ _ _ hk).trans h
theorem ror_7 (v : Int) : PBase.sha_ror.f v 7 = some (rot v 7) := by kernel_rfl
theorem ror_18 (v : Int) : PBase.sha_ror.f v 18 = some (rot v 18) := by kernel_rfl
theorem ror_17 (v : Int) : PBase.sha_ror.f v 17 = some (rot v 17) := by kernel_rfl
theorem ror_19 (v : Int) : PBase.sha_ror.f v 19 = some (rot v 19) := by kernel_rfl
theorem ror_6 (v : Int) : PBase.sha_ror.f v 6 = some (rot v 6) := by kernel_rfl
theorem ror_11 (v : Int) : PBase.sha_ror.f v 11 = some (rot v 11) := by kernel_rfl
theorem ror_25 (v : Int) : PBase.sha_ror.f v 25 = some (rot v 25) := by kernel_rfl
theorem ror_2 (v : Int) : PBase.sha_ror.f v 2 = some (rot v 2) := by kernel_rfl
theorem ror_13 (v : Int) : PBase.sha_ror.f v 13 = some (rot v 13) := by kernel_rfl
theorem ror_22 (v : Int) : PBase.sha_ror.f v 22 = some (rot v 22) := by kernel_rfl
theorem reads_at {w : World} {b o : Nat} {C : Array Value} {e : TypeId} {fr : Nat × Nat} (h : w.heap[b]? = some (.cells C e fr)) (k : IntKind) (xs : List Int) (hC : ∀ j, j < xs.length → C[o + j]? = some (.int k (xs.getD j 0))) (hl : xs.length ≤ 9223372036854775807) : Kd.C (Kd.int k) w (some ⟨b, o, none⟩) xs.length xs := by
  refine Kd.C_of_reads (d := 0) ⟨rfl, hl, fun hn => ⟨_, rfl, fun j hj => ?_⟩⟩
  have e1 : (⟨b, o, none⟩ : Addr).add j = ⟨b, o + j, none⟩ := by unfold Addr.add; split <;> simp_all
  rw [e1]
  unfold World.cell?
  rw [h]
  exact hC j hj
/-- the end of the array of 64 bytes -/
theorem slice_rest (b o : Nat) (k : IntKind) (i : Int) (l : Nat) (hi : i = l) (hl : l < 64) (W : World) :
    (Instr.sliceAt 34 (.pointer (some ⟨b, o, none⟩)) (some (.int k i)) none none).run Tryd.prog W = .ok (.slice (some ⟨b, o + l, none⟩) (64 - l) (64 - l)) W := by
  subst hi
  rw [run_sliceAt_array_l W 34 ⟨b, o, none⟩ (by kernel_rfl) k (l : Int) (by omega) (by rw [show Tryd.prog.arrayLen 34 = 64 by kernel_rfl]; omega)]
  rw [show Tryd.prog.arrayLen 34 = 64 by kernel_rfl, show Tryd.prog.elem 34 = 5 by kernel_rfl]
  rw [show (sizeOf 5).run Tryd.prog W = .ok 1 W by kernel_rfl]
  simp only [Result.andThen, slicedAt, Int.toNat_natCast]
  rw [if_neg (by omega)]
  congr 3
  unfold Addr.add
  simp
theorem four_is (p : List Int) (t : Nat) (hp : p.length = 64) (ht : t < 16) (hb : Bytes p) : PBase.sha_four.f (p.drop (4 * t)) = some (four p t) := by
  have hl : (p.drop (4 * t)).length = 64 - 4 * t := by rw [List.length_drop, hp]
  unfold PBase.sha_four.f
  rw [if_pos (by omega), if_pos (by omega), if_pos (by omega), if_pos (by omega)]
  have hr : ∀ j : Nat, j < 4 → rd (p.drop (4 * t)) j = p.getD (4 * t + j) 0 ∧ 0 ≤ p.getD (4 * t + j) 0 ∧ p.getD (4 * t + j) 0 ≤ 255 := by
    intro j hj
    have h1 : 4 * t + j < p.length := by omega
    have h2 : p.getD (4 * t + j) 0 = p[4 * t + j] := by rw [List.getD_eq_getElem?_getD, List.getElem?_eq_getElem h1]; rfl
    refine ⟨?_, ?_⟩
    · simp [rd, List.getD_eq_getElem?_getD]
    · rw [h2]; exact hb _ (List.getElem_mem h1)
  obtain ⟨e0, a0, b0⟩ := hr 0 (by decide)
  obtain ⟨e1, a1, b1⟩ := hr 1 (by decide)
  obtain ⟨e2, a2, b2⟩ := hr 2 (by decide)
  obtain ⟨e3, a3, b3⟩ := hr 3 (by decide)
  rw [show rd (p.drop (4 * t)) 0 = p.getD (4 * t + 0) 0 from e0, show rd (p.drop (4 * t)) 1 = p.getD (4 * t + 1) 0 from e1, show rd (p.drop (4 * t)) 2 = p.getD (4 * t + 2) 0 from e2, show rd (p.drop (4 * t)) 3 = p.getD (4 * t + 3) 0 from e3]
  unfold four
  rw [Nat.add_zero] at *
  generalize p.getD (4 * t) 0 = x0 at *
  generalize p.getD (4 * t + 1) 0 = x1 at *
  generalize p.getD (4 * t + 2) 0 = x2 at *
  generalize p.getD (4 * t + 3) 0 = x3 at *
  rw [show x0 % 4294967296 * 16777216 % 4294967296 = x0 * 16777216 by omega, show x1 % 4294967296 * 65536 % 4294967296 = x1 * 65536 by omega, show x2 % 4294967296 * 256 % 4294967296 = x2 * 256 by omega, show x3 % 4294967296 = x3 by omega]
  rw [Bt.or_u32 24 (x0 * 16777216) (x1 * 65536) (by omega) (by omega) (by omega) (by omega) (by omega) (by omega)]
  rw [Bt.or_u32 16 (x0 * 16777216 + x1 * 65536) (x2 * 256) (by omega) (by omega) (by omega) (by omega) (by omega) (by omega)]
  rw [Bt.or_u32 8 (x0 * 16777216 + x1 * 65536 + x2 * 256) x3 (by omega) (by omega) (by omega) (by omega) (by omega) (by omega)]
end Sh

/-- turning a number asks nothing of the world and leaves it as it was -/
theorem sha_ror.quiet (v : Int) (n r : Int) (w : World) (h : PBase.sha_ror.f v n = some r) :
    Calls Tryd.prog 23 #[.int .u32 v, .int .i64 n] w fun e w' => e = .returned (.int .u32 r) ∧ ∃ m, w' = w.drewN m := (PBase.sha_ror.calls v n r w h).mono fun _ _ ⟨he, hd⟩ => ⟨he, hd.out⟩
end Go.Proofs.YthcilikinfhipaaDoor
