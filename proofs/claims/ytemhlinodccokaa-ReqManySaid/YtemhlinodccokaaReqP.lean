/- Replies, in plain words. -/
import Derived.Test.YtemhlinodccokaaReqM
set_option linter.unusedVariables false
set_option linter.unusedSimpArgs false
namespace Go.Proofs.Ytemhlinodccokaa
open Go.RowKit Go.Proofs.YtemhlinodccokaaW.PrintWords
namespace Wi
def rp0 (b : List Int) : Int := num (b.take 4)
def rp1 (b : List Int) : Int := num ((b.drop 4).take 4)
def rp2 (b : List Int) : Int := num ((b.drop 8).take 8)
theorem takes448 (b : List Int) : takes b [4, 4, 8] [] = if b.length < 16 then ([], [], false) else ([rp0 b, rp1 b, rp2 b], b.drop 16, true) := by
  simp only [takes, show wd 4 = 4 from rfl, show wd 8 = 8 from rfl, List.length_drop, List.drop_drop]
  by_cases h : b.length < 16
  · rw [if_pos h]
    by_cases h0 : b.length < 4
    · rw [if_pos h0]
    · rw [if_neg h0]
      by_cases h1 : b.length - 4 < 4
      · rw [if_pos h1]
      · rw [if_neg h1, if_pos (by omega)]
  · rw [if_neg h, if_neg (by omega), if_neg (by omega), if_neg (by omega)]
    rfl
theorem rp_bnd (b : List Int) (hb : Bytes b) : (0 ≤ rp0 b ∧ rp0 b < 4294967296) ∧ (0 ≤ rp1 b ∧ rp1 b < 4294967296) ∧ (0 ≤ rp2 b ∧ rp2 b < 18446744073709551616) :=
  ⟨num_bnd b hb 4, num_bnd _ (hb.drop 4) 4, num_bnd _ (hb.drop 8) 8⟩
/-- how many bytes of data the reply at the front has -/
def rpn (m : Int → Int) (b : List Int) : Int := if rp1 b = 0 then m (rp2 b) else 0
/-- there is a reply at the front -/
def rpOk (m : Int → Int) (b : List Int) : Prop := 16 ≤ b.length ∧ rp0 b = 1732535960 ∧ rpn m b + 16 ≤ b.length
instance (m : Int → Int) (b : List Int) : Decidable (rpOk m b) := by unfold rpOk; infer_instance
def rpData (m : Int → Int) (b : List Int) : List Int := (b.drop 16).take (rpn m b).toNat
def rpRest (m : Int → Int) (b : List Int) : List Int := (b.drop 16).drop (rpn m b).toNat
theorem rpRest_lt (m : Int → Int) (b : List Int) (h : rpOk m b) : (rpRest m b).length < b.length := by
  have := h.1
  unfold rpRest
  rw [List.length_drop, List.length_drop]
  omega
/-- all replies -/
def repls (m : Int → Int) (b : List Int) (an cs : List Int) (ds : List (List Int)) : List Int × List Int × List (List Int) × Bool :=
  if b.length = 0 then (an, cs, ds, true)
  else if h : rpOk m b then repls m (rpRest m b) (an ++ [rp1 b]) (cs ++ [rp2 b]) (ds ++ [rpData m b])
  else ([], [], [], false)
termination_by b.length
decreasing_by exact rpRest_lt m b h
theorem repls_nil (m : Int → Int) (an cs : List Int) (ds : List (List Int)) (b : List Int) (h : b.length = 0) : repls m b an cs ds = (an, cs, ds, true) := by rw [repls, if_pos h]
theorem repls_bad (m : Int → Int) (b : List Int) (an cs : List Int) (ds : List (List Int)) (h : b.length ≠ 0) (hk : ¬ rpOk m b) : repls m b an cs ds = ([], [], [], false) := by rw [repls, if_neg h, dif_neg hk]
theorem repls_good (m : Int → Int) (b : List Int) (an cs : List Int) (ds : List (List Int)) (hk : rpOk m b) : repls m b an cs ds = repls m (rpRest m b) (an ++ [rp1 b]) (cs ++ [rp2 b]) (ds ++ [rpData m b]) := by
  have := hk.1
  rw [repls, if_neg (by omega), dif_pos hk]
theorem rpData_len (m : Int → Int) (b : List Int) (h : rpOk m b) (hm : 0 ≤ rpn m b) : (rpData m b).length = (rpn m b).toNat := by
  have := h.2.2
  unfold rpData
  rw [List.length_take, List.length_drop]
  omega
end Wi
/-- a map of numbers, as its look-ups say -/
def Wi.Map (w : World) (V : Value) (m : Int → Int) : Prop := (∀ k, 0 ≤ m k ∧ m k ≤ 4294967295) ∧ ∀ W, Below w.heap.size w W → ∀ k : Int, 0 ≤ k → k ≤ 18446744073709551615 → (Instr.lookup 41 V (.int .u64 k) false).run Try.prog W = .ok (.int .u32 (m k)) W
theorem Wi.Map.below {w w' : World} {V : Value} {m : Int → Int} (h : Wi.Map w V m) (hb : Below w.heap.size w w') : Wi.Map w' V m := ⟨h.1, fun W hW => h.2 W (below_then hb hb.size hW)⟩
theorem Wi.Map.run {w : World} {V : Value} {m : Int → Int} (h : Wi.Map w V m) (k : Int) (h0 : 0 ≤ k) (h1 : k ≤ 18446744073709551615) : (Instr.lookup 41 V (.int .u64 k) false).run Try.prog w = .ok (.int .u32 (m k)) w := h.2 w (Below.refl _ _) k h0 h1
end Go.Proofs.Ytemhlinodccokaa
