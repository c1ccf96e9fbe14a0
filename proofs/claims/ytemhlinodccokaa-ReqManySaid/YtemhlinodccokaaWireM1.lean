/- wire's functions are the plain ones; plain laws of these. -/
import Derived.Test.YtemhlinodccokaaWireP
set_option linter.unusedVariables false
set_option linter.unusedSimpArgs false
namespace Go.Proofs.Ytemhlinodccokaa.Wi
open Go.RowKit Go.Proofs.Ytemhlinodccokaa Go.Proofs.YtemhlinodccokaaW.PrintWords Go.Proofs.YtemhlinodccokaaW.PrintLast Go.Proofs.YtemhlinodccokaaW.PrintMore


/-- v's n lowest bytes, the highest first -/
def be (v : Int) : Nat → List Int
  | 0 => []
  | n + 1 => (v / 256 ^ n % 256) :: be v n
/-- numbers as bytes, each of its width -/
def packs : List Int → List Int → List Int
  | w :: ws, v :: vs => be v (wd w) ++ packs ws vs
  | _, _ => []

theorem w64 (n : Int) (h0 : -9223372036854775808 ≤ n) (h1 : n ≤ 9223372036854775807) : wrap64 n = n := by unfold wrap64; omega
theorem rd_drop (l : List Int) (i : Nat) (h : i < l.length) : l.drop i = rd l i :: l.drop (i + 1) := by
  rw [List.drop_eq_getElem_cons h]
  simp [rd, List.getD_eq_getElem?_getD, List.getElem?_eq_getElem h]
theorem rd_mem (l : List Int) (i : Nat) (h : i < l.length) : rd l i ∈ l := by
  have : rd l i = l[i] := by simp [rd, List.getD_eq_getElem?_getD, List.getElem?_eq_getElem h]
  rw [this]; exact List.getElem_mem h
theorem width_f (n : Int) : wire_width.f n = some (wd n : Int) := by
  unfold wire_width.f wd
  split
  · rename_i h; subst h; rfl
  · split
    · rename_i h; subst h; rfl
    · split
      · rename_i h; subst h; rfl
      · rfl
theorem shr_be (v : Int) (n : Nat) (h : n ≤ 7) : shr .u64 v (8 * (n : Int)) = v / 256 ^ n := by
  unfold shr
  have e : (8 * (n : Int)).toNat = 8 * n := by omega
  rw [e, Nat.min_eq_left (by show 8 * n ≤ 64; omega), Int.pow_mul]
  rfl
theorem pl1 (x0 x1 : List Int) (i : Nat) (m : Int) (hi : i < x1.length) (hl : x1.length ≤ 1000000) : ∀ (n : Nat), n ≤ 8 → ∀ (K : Nat) (acc : List Int), acc.length + n ≤ 100000000 →
    wire_Pack.l1 (K + n + 1) x0 x1 acc i (8 * (n : Int)) m i = wire_Pack.l0 K x0 x1 (acc ++ be (rd x1 i) n) m (i + 1) := by
  intro n
  induction n with
  | zero =>
    intro _ K acc _
    rw [wire_Pack.l1, if_neg (by omega), be, List.append_nil, w64 _ (by omega) (by omega)]
  | succ n ih =>
    intro hn K acc ha
    rw [wire_Pack.l1, if_pos (by omega), if_pos (by omega), if_pos (by omega)]
    have e : wrap64 (8 * ((n + 1 : Nat) : Int) - 8) = 8 * (n : Int) := by rw [w64 _ (by omega) (by omega)]; omega
    rw [e, if_pos (by omega), if_pos (by omega), shr_be _ _ (by omega)]
    rw [show K + (n + 1) = K + n + 1 by omega, ih (by omega) K _ (by simp; omega), be, List.append_assoc]
    rfl
theorem pl0 (x0 x1 : List Int) (m : Nat) (hm : m = min x0.length x1.length) (h0 : x0.length ≤ 1000000) (h1 : x1.length ≤ 1000000) : ∀ (d i : Nat), i + d = m → ∀ (F : Nat) (acc : List Int), 10 * d + 1 ≤ F → acc.length + 8 * d ≤ 10000000 →
    wire_Pack.l0 F x0 x1 acc m i = some (acc ++ packs (x0.drop i) (x1.drop i)) := by
  intro d
  induction d with
  | zero =>
    intro i e F acc hF _
    obtain ⟨F, rfl⟩ : ∃ G, F = G + 1 := ⟨F - 1, by omega⟩
    rw [wire_Pack.l0, if_neg (by omega)]
    have : packs (x0.drop i) (x1.drop i) = [] := by
      by_cases c : x0.length ≤ i
      · rw [List.drop_eq_nil_of_le c]; rfl
      · rw [show x1.drop i = [] from List.drop_eq_nil_of_le (by omega)]
        cases x0.drop i <;> rfl
    rw [this, List.append_nil]
  | succ d ih =>
    intro i e F acc hF ha
    obtain ⟨F, rfl⟩ : ∃ G, F = G + 1 := ⟨F - 1, by omega⟩
    have hw := wd_range (rd x0 i)
    rw [wire_Pack.l0, if_pos (by omega), if_pos (by omega), if_pos (by omega), width_f, Option.bind_some, w64 _ (by omega) (by omega)]
    have hF' : F = (F - wd (rd x0 i) - 1) + wd (rd x0 i) + 1 := by omega
    have hbl : ∀ v n, (be v n).length = n := by intro v n; induction n with | zero => rfl | succ n ihn => simp [be, ihn]
    rw [hF', pl1 x0 x1 i m (by omega) h1 _ hw.2 _ _ (by omega)]
    have := ih (i + 1) (by omega) (F - wd (rd x0 i) - 1) (acc ++ be (rd x1 i) (wd (rd x0 i))) (by omega) (by rw [List.length_append, hbl]; omega)
    rw [show ((i : Int) + 1) = ((i + 1 : Nat) : Int) by omega, this, rd_drop x0 i (by omega), rd_drop x1 i (by omega), packs, List.append_assoc]
theorem pack_is (x0 x1 : List Int) (h0 : x0.length ≤ 100000) (h1 : x1.length ≤ 100000) (K : Nat) (hK : 10 * x0.length + 1 ≤ K) : wire_Pack.f K x0 x1 = some (packs x0 x1) := by
  unfold wire_Pack.f
  have e : mn (x0.length : Int) (x1.length : Int) = ((min x0.length x1.length : Nat) : Int) := by unfold mn; split <;> omega
  rw [e]
  have := pl0 x0 x1 _ rfl (by omega) (by omega) (min x0.length x1.length) 0 (by omega) K [] (by omega) (by simp; omega)
  simpa using this

theorem take_is (b ws : List Int) (h0 : b.length ≤ 1000000) (h1 : ws.length ≤ 1000000) (hb : Bytes b) : wire_Take.f b ws = some (takes b ws []) := by unfold wire_Take.f; rw [if_pos ⟨by omega, by omega, hb⟩]
theorem bytes_of_wf {l : List Int} (h : ∀ x ∈ l, (Lit.int .u8 x).wf = true) : Bytes l := fun x hx => by
  have := h x hx
  simp only [Lit.wf, IntKind.min, IntKind.max, IntKind.signed, IntKind.bits, Bool.and_eq_true, decide_eq_true_eq] at this
  simp at this
  omega

theorem takes_len (ws : List Int) : ∀ (b acc : List Int), (takes b ws acc).1.length ≤ acc.length + ws.length := by
  induction ws with
  | nil => intro b acc; simp [takes]
  | cons w ws ih =>
    intro b acc
    rw [takes]
    split
    · simp
    · have := ih (b.drop (wd w)) (acc ++ [num (b.take (wd w))])
      rw [List.length_append, List.length_singleton] at this
      rw [List.length_cons]
      omega

theorem be_len (v : Int) (n : Nat) : (be v n).length = n := by induction n with | zero => rfl | succ n ihn => simp [be, ihn]
theorem be_bytes (v : Int) (n : Nat) : Bytes (be v n) := by
  induction n with
  | zero => intro x hx; cases hx
  | succ n ih =>
    intro x hx
    rw [be, List.mem_cons] at hx
    rcases hx with rfl | hx
    · omega
    · exact ih x hx
theorem num_app (l r : List Int) : num (l ++ r) = num l * 256 ^ r.length + num r := by
  have key : ∀ (r : List Int) (a : Int), r.foldl (fun n x => n * 256 + x) a = a * 256 ^ r.length + num r := by
    intro r
    induction r with
    | nil => intro a; simp [num]
    | cons x r ih =>
      intro a
      have e : num (x :: r) = x * 256 ^ r.length + num r := by
        show List.foldl _ _ _ = _
        rw [List.foldl_cons, ih, Int.zero_mul, Int.zero_add]
      rw [List.foldl_cons, ih, e, List.length_cons, Int.pow_succ]
      generalize (256 : Int) ^ r.length = p
      rw [Int.add_mul, Int.mul_assoc, Int.mul_comm 256 p]
      omega
  unfold num
  rw [List.foldl_append, key]
  rfl
theorem num_be (v : Int) (hv : 0 ≤ v) (n : Nat) : num (be v n) = v % 256 ^ n := by
  induction n with
  | zero => simp [be, num]
  | succ n ih =>
    rw [be, show (v / 256 ^ n % 256) :: be v n = [v / 256 ^ n % 256] ++ be v n from rfl, num_app, be_len, ih]
    have h1 : num [v / 256 ^ n % 256] = v / 256 ^ n % 256 := by simp [num]
    rw [h1]
    obtain ⟨k, rfl⟩ := Int.eq_ofNat_of_zero_le hv
    have e : ((k % (256 ^ (n + 1)) : Nat) : Int) = ((k / 256 ^ n % 256 * 256 ^ n + k % 256 ^ n : Nat) : Int) := by
      rw [Nat.pow_succ, Nat.mod_mul, Nat.add_comm, Nat.mul_comm]
    simp only [Int.natCast_add, Int.natCast_mul, Int.natCast_emod, Int.natCast_ediv, Int.natCast_pow] at e
    exact e.symm
theorem packs_bytes : ∀ (ws vs : List Int), Bytes (packs ws vs)
  | w :: ws, v :: vs => by
    intro x hx
    rw [packs, List.mem_append] at hx
    exact hx.elim (be_bytes v (wd w) x) (packs_bytes ws vs x)
  | [], _ => fun x hx => by cases hx
  | _ :: _, [] => fun x hx => by cases hx
theorem packs_len : ∀ (ws vs : List Int), (packs ws vs).length ≤ 8 * ws.length
  | w :: ws, v :: vs => by
    have := packs_len ws vs
    have := wd_range w
    rw [packs, List.length_append, be_len, List.length_cons]
    omega
  | [], _ => by simp [packs]
  | _ :: _, [] => by simp [packs]
theorem packs_join : ∀ (n : Nat) (ws vs : List Int), packs (ws.take n) (vs.take n) ++ packs (ws.drop n) (vs.drop n) = packs ws vs
  | 0, ws, vs => by simp [packs]
  | n + 1, [], vs => by simp [packs]
  | n + 1, w :: ws, [] => by cases h : ws.drop n <;> simp [packs, h]
  | n + 1, w :: ws, v :: vs => by
    simp only [List.take_succ_cons, List.drop_succ_cons, packs, List.append_assoc]
    rw [packs_join n ws vs]
/-- the numbers as their widths hold them -/
def cuts : List Int → List Int → List Int
  | w :: ws, v :: vs => v % 256 ^ wd w :: cuts ws vs
  | _, _ => []
theorem takes_packs : ∀ (ws vs more acc : List Int), ws.length ≤ vs.length → (∀ x ∈ vs, 0 ≤ x) → takes (packs ws vs ++ more) ws acc = (acc ++ cuts ws vs, more, true)
  | [], vs, more, acc, _, _ => by simp [takes, packs, cuts]
  | w :: ws, [], more, acc, h, _ => by simp at h
  | w :: ws, v :: vs, more, acc, h, hv => by
    rw [packs, takes, if_neg (by simp [be_len]), List.append_assoc, List.drop_left' (be_len _ _), List.take_left' (be_len _ _), num_be v (hv v (by simp)), takes_packs ws vs more _ (by simpa using h) (fun x hx => hv x (by simp [hx])), cuts]
    simp
theorem takes_few : ∀ (ws vs acc b : List Int), ws.length ≤ vs.length → b.length < (packs ws vs).length → (takes b ws acc).2.2 = false
  | [], vs, acc, b, _, hb => by simp [packs] at hb
  | w :: ws, [], acc, b, h, _ => by simp at h
  | w :: ws, v :: vs, acc, b, h, hb => by
    rw [takes]
    split
    · rfl
    · rename_i hn
      rw [packs, List.length_append, be_len] at hb
      exact takes_few ws vs _ _ (by simpa using h) (by rw [List.length_drop]; omega)
theorem cuts_len : ∀ (ws vs : List Int), ws.length ≤ vs.length → (cuts ws vs).length = ws.length
  | [], _, _ => by simp [cuts]
  | w :: ws, [], h => by simp at h
  | w :: ws, v :: vs, h => by rw [cuts, List.length_cons, List.length_cons, cuts_len ws vs (by simpa using h)]
theorem cuts_rd : ∀ (ws vs : List Int) (i : Nat), ws.length ≤ vs.length → i < ws.length → rd (cuts ws vs) i = rd vs i % 256 ^ wd (rd ws i)
  | [], _, i, _, hi => by simp at hi
  | w :: ws, [], _, h, _ => by simp at h
  | w :: ws, v :: vs, 0, h, _ => by simp [cuts, rd]
  | w :: ws, v :: vs, i + 1, h, hi => by
    have := cuts_rd ws vs i (by simpa using h) (by simpa using hi)
    simpa [cuts, rd] using this
end Go.Proofs.Ytemhlinodccokaa.Wi
