/- wire.reader.number. -/
import Derived.Test.YtemhlinodccokaaClone
import Derived.Test.YtemhlinodccokaaBits
import Derived.Laws.EntriesVeiled
import Derived.WalkLawsBesides
set_option linter.unusedVariables false
set_option linter.unusedSimpArgs false
namespace Go.Proofs.Ytemhlinodccokaa
open Go.RowKit Go.Proofs.YtemhlinodccokaaW.PrintWords Go.Proofs.YtemhlinodccokaaW.PrintLast

namespace Wi
/-- what reads as bs by A reads by A' as what is left of it -/
def Cuts (A : Option Addr) (bs : List Int) (A' : Option Addr) (n : Nat) : Prop := ∀ W : World, Kd.C (Kd.int .u8) W A bs.length bs → Kd.C (Kd.int .u8) W A' (bs.drop n).length (bs.drop n)
/-- a width that there is -/
def wd (n : Int) : Nat := if n = 1 then 1 else if n = 2 then 2 else if n = 4 then 4 else 8
def num (bs : List Int) : Int := bs.foldl (fun n x => n * 256 + x) 0
def Bytes (l : List Int) : Prop := ∀ x ∈ l, 0 ≤ x ∧ x ≤ 255
theorem Bytes.take {l : List Int} (h : Bytes l) (n : Nat) : Bytes (l.take n) := fun x hx => h x (List.mem_of_mem_take hx)
theorem Bytes.drop {l : List Int} (h : Bytes l) (n : Nat) : Bytes (l.drop n) := fun x hx => h x (List.mem_of_mem_drop hx)
theorem num_snoc (l : List Int) (x : Int) : num (l ++ [x]) = num l * 256 + x := by simp [num]
theorem num_range (l : List Int) : Bytes l → 0 ≤ num l ∧ num l < 256 ^ l.length := by
  have key : ∀ (l r : List Int), Bytes (l ++ r) → 0 ≤ num l → num l < 256 ^ l.length → 0 ≤ num (l ++ r) ∧ num (l ++ r) < 256 ^ (l ++ r).length := by
    intro l r
    induction r generalizing l with
    | nil => intro _ h0 h1; rw [List.append_nil]; exact ⟨h0, h1⟩
    | cons x r ih =>
      intro hb h0 h1
      have hx := hb x (by simp)
      have := ih (l ++ [x]) (by rw [List.append_assoc]; exact hb) (by rw [num_snoc]; omega) (by rw [num_snoc, List.length_append, List.length_singleton, Int.pow_succ]; omega)
      rw [List.append_assoc] at this
      exact this
  intro h
  have := key [] l h (by simp [num]) (by simp [num])
  simpa using this
theorem pow256 : ∀ m, m < 8 → (256 : Int) ^ m ≤ 72057594037927936 := by decide
theorem take_snoc (l : List Int) (i : Nat) (h : i < l.length) : l.take (i + 1) = l.take i ++ [rd l i] := by
  rw [List.take_succ_eq_append_getElem h]
  simp [rd, List.getD_eq_getElem?_getD, List.getElem?_eq_getElem h]
theorem infoByte' : ∃ i, Try.prog.info? 5 = some i ∧ i.size = 1 := by
  obtain ⟨i, hi, _, h, _⟩ := info_parts Cl.infoByte
  exact ⟨i, hi, h⟩
end Wi

set_option maxHeartbeats 1000000 in
set_option maxRecDepth 100000 in
theorem Wi.number_short (g : Nat) (A : Option Addr) (c : Nat) (bs : List Int) (n : Nat) (hn : n ≤ 8) (w : World) (hg : w.heap[g]? = some (.cells #[.slice A bs.length c] 70 (0, 0))) (hl : bs.length < n) :
    Calls Try.prog 33 #[.pointer (some ⟨g, 0, none⟩), .int .i64 n] w fun e w' => (∃ u pv, e = .panicked [{ v := .iface u pv, recovered := false }]) ∧ w' = w := by
  have hc : w.cell? ⟨g, 0, none⟩ = some (.slice A bs.length c) := by unfold World.cell?; rw [hg]; rfl
  clear hg
  go_enter Try.func33, Try.ntmps33
  go_wp2_with fail
  exact ⟨rfl, ⟨_, _, rfl⟩, rfl⟩
set_option maxHeartbeats 1000000 in
set_option maxRecDepth 100000 in
theorem Wi.number_long (g : Nat) (A : Option Addr) (c : Nat) (bs : List Int) (n : Nat) (hn : n ≤ 8) (hn1 : 1 ≤ n) (w : World) (hg : w.heap[g]? = some (.cells #[.slice A bs.length c] 70 (0, 0))) (hl : n ≤ bs.length) (hC : Kd.C (Kd.int .u8) w A bs.length bs) (hcap : bs.length ≤ c) (hb : Wi.Bytes bs) :
    Calls Try.prog 33 #[.pointer (some ⟨g, 0, none⟩), .int .i64 n] w fun e w' => e = .returned (.int .u64 (Wi.num (bs.take n))) ∧ ∃ A' c', w' = w.setCell ⟨g, 0, none⟩ (.slice A' (bs.drop n).length c') ∧ (bs.drop n).length ≤ c' ∧ Wi.Cuts A bs A' n := by
  have hc : w.cell? ⟨g, 0, none⟩ = some (.slice A bs.length c) := by unfold World.cell?; rw [hg]; rfl
  have hfz : w.frozen? ⟨g, 0, none⟩ = false := by unfold World.frozen?; rw [hg]; simp
  obtain ⟨ti, hti, htz⟩ := Wi.infoByte'
  obtain ⟨A', hs, hr, hcl⟩ := print_drop_of (P := Try.prog) (Value.int .u8) 0 22 5 .i64 Try.underlying22 hti htz A c bs n (by omega) (by omega) hcap
  rw [Int.toNat_natCast] at hr hcl
  have hs' : ∀ W : World, (Instr.slice 22 (.slice A bs.length c) (some (.int .i64 (n : Int))) none none).run Try.prog W = .ok (.slice A' (bs.drop n).length (c - n)) W := fun W => by have := hs W; rw [Int.toNat_natCast] at this; exact this
  obtain ⟨dl, HDL⟩ : ∃ dl, Aside0 ((bs.drop n).length = dl) := ⟨_, ⟨rfl⟩⟩
  rw [HDL.out] at hs'
  have HC' : Aside0 (Wi.Cuts A bs A' n) := ⟨fun W h => Kd.C_of_reads (h1 := fun _ => rfl) (hr W (Kd.reads_of_C h))⟩
  have HCL := Aside0.mk hcl
  have HCC := Aside0.mk hC
  have HBB := Aside0.mk hb
  clear hg hr hcl hs hti htz hC hb
  go_enter Try.func33, Try.ntmps33
  go_wp2_with fail
  go_loop [4, 6, 30] (fun v4 v6 v30 => ∃ (i : Nat) (m : Int), v30 = .int .i64 i ∧ v4 = .int .u64 m ∧ i ≤ n ∧ 0 ≤ m ∧ Aside0 (m < 256 ^ i) ∧ Aside0 (m = Wi.num (bs.take i))) (fun _ _ i => n - (intOf i).toNat)
  case atStart => exact ⟨0, 0, rfl, rfl, Nat.zero_le _, Int.le_refl _, ⟨by simp⟩, ⟨by simp [Wi.num]⟩⟩
  case round =>
    obtain ⟨i, m, rfl, rfl, hi, hm0, HM1, HM⟩ := hrel
    by_cases hlt : i < n
    · obtain ⟨ad, e, hx⟩ := Kd.at_int HCC.out i (by omega) (by omega)
      cases e
      have hx' : w.cell? (ad.add i) = some (.int .u8 (rd bs i)) := by simpa using hx
      have hrg : 0 ≤ rd bs ↑i ∧ rd bs ↑i ≤ 255 := by
        have : rd bs ↑i = bs[i] := by simp [rd, List.getD_eq_getElem?_getD, List.getElem?_eq_getElem (show i < bs.length by omega)]
        rw [this]; exact HBB.out _ (List.getElem_mem _)
      clear hx
      have HS := Aside0.mk (Wi.take_snoc bs i (by omega))
      obtain ⟨x, HX⟩ : ∃ x, Aside0 (rd bs ↑i = x) := ⟨_, ⟨rfl⟩⟩
      rw [HX.out] at hx' hrg HS
      obtain ⟨hx0, hx1⟩ := hrg
      have hmb : m < 72057594037927936 := by have := HM1.out; have := Wi.pow256 i (by omega); omega
      have ho := Bt.or_256 m x hm0 hmb hx0 hx1
      go_wp2_with fail
      go_round
      case rel => exact ⟨i + 1, m * 256 + x, by go_num, rfl, by omega, by clear ho; omega, ⟨by have := HM1.out; rw [Int.pow_succ]; clear ho; omega⟩, ⟨by rw [HS.out, Wi.num_snoc, ← HM.out]⟩⟩
      case measure => simp [intOf]; omega
    · obtain rfl : i = n := by omega
      go_wp2_with fail
      go_ret
      have hd : dl = bs.length - i := by rw [← HDL.out, List.length_drop]
      have hcl := HCL.out
      rw [List.length_drop] at hcl
      refine ⟨by rw [HM.out]; rfl, A', c - i, ?_, by omega, HC'.out⟩
      rw [hd]
#print axioms Wi.number_long
end Go.Proofs.Ytemhlinodccokaa
