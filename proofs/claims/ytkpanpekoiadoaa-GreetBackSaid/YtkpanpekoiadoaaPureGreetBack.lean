/- coaminglaw07.GreetBack: for every input; no conditions. -/
import Derived.Test.YtkpanpekoiadoaaPGreetBackx1
import Derived.Test.YtkpanpekoiadoaaGreetA
set_option linter.unusedVariables false
set_option linter.unusedSimpArgs false
namespace Go.Proofs.Ytkpanpekoiadoaa.Pure
open Go.RowKit Go.Proofs.Ytkpanpekoiadoaa Go.Proofs.Ytkpanpekoiadoaa.PGreetBack Go.Proofs.Ytkpanpekoiadoaa.PBase Go.Proofs.YtkpanpekoiadoaaW.PrintWords Go.Proofs.YtkpanpekoiadoaaW.PrintLast Go.Proofs.YtkpanpekoiadoaaW.PrintMore Go.Proofs.Ytkpanpekoiadoaa.Wi Go.Proofs.Ytkpanpekoiadoaa.Gr

theorem num4 (a b c d : Int) : num [a, b, c, d] = a * 16777216 + b * 65536 + c * 256 + d := by
  simp only [num, List.foldl_cons, List.foldl_nil]
  omega
theorem str_bytes (s : ByteArray) : strOfNums (bytesOf s) = s := by
  have h : (strOfNums (bytesOf s)).data.toList = s.data.toList := by
    rw [strOfNums_data, bytesOf, List.map_map]
    conv => rhs; rw [← List.map_id s.data.toList]
    refine List.map_congr_left (fun x _ => ?_)
    simp
  have h2 : (strOfNums (bytesOf s)).data = s.data := Array.toList_inj.1 h
  cases s
  exact congrArg ByteArray.mk h2
theorem bytes_bytesOf (s : ByteArray) : Bytes (bytesOf s) := by
  intro x hx
  rw [bytesOf, List.mem_map] at hx
  obtain ⟨b, _, rfl⟩ := hx
  have := b.toNat_lt
  omega
/-- what Asked tells of a name of few bytes and of what stands behind it -/
theorem ak_form (name q : List Int) (hn : name.length ≤ 255) : ak ([0, 0, 0, (name.length : Int)] ++ name ++ q) =
    if q.length < 2 then (⟨#[]⟩, [], 74) else if ((q.drop 2).length : Int) ≠ 2 * num (q.take 2) then (⟨#[]⟩, [], 74) else (strOfNums name, pairs (q.drop 2), 0) := by
  unfold ak
  have e1 : num (([0, 0, 0, (name.length : Int)] ++ name ++ q).take 4) = (name.length : Int) := by
    show num [0, 0, 0, (name.length : Int)] = _
    rw [num4]
    omega
  have e2 : ([0, 0, 0, (name.length : Int)] ++ name ++ q).drop 4 = name ++ q := by rw [List.append_assoc]; rfl
  rw [e1, e2, if_neg (by simp), if_neg (by omega), if_neg (by rw [List.length_append]; omega), Int.toNat_natCast, List.drop_left, List.take_left]
/-- numbers as two bytes each -/
def unpairs : List Int → List Int
  | [] => []
  | v :: l => v / 256 % 256 :: v % 256 :: unpairs l
theorem unpairs_len (l : List Int) : (unpairs l).length = 2 * l.length := by
  induction l with
  | nil => rfl
  | cons v l ih => simp only [unpairs, List.length_cons, ih]; omega
theorem unpairs_bytes (l : List Int) : Bytes (unpairs l) := by
  induction l with
  | nil => intro x hx; cases hx
  | cons v l ih =>
    intro x hx
    simp only [unpairs, List.mem_cons] at hx
    rcases hx with rfl | rfl | hx
    · omega
    · omega
    · exact ih x hx
theorem pairs_unpairs (l : List Int) (h : ∀ x ∈ l, 0 ≤ x ∧ x ≤ 65535) : pairs (unpairs l) = l := by
  induction l with
  | nil => rfl
  | cons v l ih =>
    have := h v (by simp)
    rw [unpairs, pairs, ih (fun x hx => h x (by simp [hx]))]
    congr 1
    omega
/-- what is asked, as bytes -/
def asks (s : ByteArray) (l : List Int) : List Int := [(l.length : Int) / 256 % 256, (l.length : Int) % 256] ++ unpairs l
theorem gb0 (s : ByteArray) (l1 : List Int) (m : Int) (N : Nat) (h1 : l1.length ≤ 300) : ∀ (d i : Nat), i + d = l1.length → ∀ (F : Nat) (acc : List Int), N + d ≤ F → acc.length + 2 * d ≤ 1000000 →
    ∃ F', N ≤ F' ∧ coaminglaw07_GreetBack.l0 F s l1 m acc (i : Int) = coaminglaw07_GreetBack.l0 F' s l1 m (acc ++ unpairs (l1.drop i)) (l1.length : Int) := by
  intro d
  induction d with
  | zero =>
    intro i e F acc hF _
    obtain rfl : i = l1.length := by omega
    exact ⟨F, by omega, by rw [show l1.drop l1.length = [] from List.drop_eq_nil_of_le (by omega), unpairs, List.append_nil]⟩
  | succ d ih =>
    intro i e F acc hF ha
    obtain ⟨F, rfl⟩ : ∃ G, F = G + 1 := ⟨F - 1, by omega⟩
    rw [coaminglaw07_GreetBack.l0, if_pos (by omega), if_pos (by omega), Option.bind_some, if_pos (by simp; omega), w64 _ (by omega) (by omega)]
    obtain ⟨F', q1, q2⟩ := ih (i + 1) (by omega) F (acc ++ [rd l1 i / 256 % 256, rd l1 i % 256]) (by omega) (by simp; omega)
    refine ⟨F', q1, Eq.trans q2 ?_⟩
    rw [rd_drop l1 i (by omega), unpairs, List.append_assoc]
    rfl
theorem gb1 (l1 : List Int) (m : Int) (b : List Int) (N : Nat) (h1 : l1.length ≤ 300) : ∀ (d i : Nat), i + d = l1.length → ∀ F, N + d ≤ F → ∃ F', N ≤ F' ∧ coaminglaw07_GreetBack.l1 F l1 m b l1 (i : Int) = coaminglaw07_GreetBack.l1 F' l1 m b l1 (l1.length : Int) := by
  intro d
  induction d with
  | zero =>
    intro i e F hF
    obtain rfl : i = l1.length := by omega
    exact ⟨F, by omega, rfl⟩
  | succ d ih =>
    intro i e F hF
    obtain ⟨F, rfl⟩ : ∃ G, F = G + 1 := ⟨F - 1, by omega⟩
    rw [coaminglaw07_GreetBack.l1, if_pos (by omega), if_pos (by omega), if_pos (by omega), if_pos rfl, w64 _ (by omega) (by omega)]
    exact ih (i + 1) (by omega) F (by omega)
theorem GreetBack : coaminglaw07_GreetBack.Pure := by
  intro s l1 m _ _ _ hw1 hm
  have hu : ∀ x ∈ l1, 0 ≤ x ∧ x ≤ 65535 := fun x hx => by
    have := hw1 x hx
    simp only [Lit.wf, IntKind.min, IntKind.max, IntKind.signed, IntKind.bits, Bool.and_eq_true, decide_eq_true_eq] at this
    simp at this
    omega
  have hmb : Bytes [m] := bytes_of_wf (fun x hx => by rw [List.mem_singleton] at hx; subst hx; exact hm)
  obtain ⟨K, hK⟩ : ∃ K, 9000000 ≤ K := ⟨9000000, Nat.le_refl _⟩
  refine ⟨K + 1, ?_⟩
  unfold coaminglaw07_GreetBack.f
  have yes : ∀ q, coaminglaw07_GreetBack.j0 (q + 1) s l1 m true = some true := fun q => by
    rw [coaminglaw07_GreetBack.j0, if_pos rfl]; rfl
  by_cases c1 : (s.size : Int) > 255
  · rw [if_pos c1]; exact yes K
  · rw [if_neg c1]
    by_cases c2 : (l1.length : Int) > 300
    · rw [if_pos c2]; exact yes K
    · rw [if_neg c2, show known_.f = some true from rfl, Option.bind_some]
      show coaminglaw07_GreetBack.j0 (K + 1) s l1 m false = some true
      have hs := bytesOf_length s
      have hsb := bytes_bytesOf s
      have hul := unpairs_len l1
      have hub := unpairs_bytes l1
      rw [coaminglaw07_GreetBack.j0, if_neg (by decide), Option.bind_some, if_pos (by simp; omega), Option.bind_some, Option.bind_some, if_pos (by simp [hs]; omega)]
      have e0 : [0, 0, 0, (s.size : Int) % 256] = [0, 0, 0, ((bytesOf s).length : Int)] := by rw [hs, Int.emod_eq_of_lt (by omega) (by omega)]
      rw [e0]
      obtain ⟨F1, q1, q2⟩ := gb0 s l1 m 1000000 (by omega) l1.length 0 (by omega) K ([0, 0, 0, ((bytesOf s).length : Int)] ++ bytesOf s ++ [(l1.length : Int) / 256 % 256, (l1.length : Int) % 256]) (by omega) (by simp; omega)
      refine Eq.trans q2 ?_
      have eb : [0, 0, 0, ((bytesOf s).length : Int)] ++ bytesOf s ++ [(l1.length : Int) / 256 % 256, (l1.length : Int) % 256] ++ unpairs (l1.drop 0) = [0, 0, 0, ((bytesOf s).length : Int)] ++ bytesOf s ++ asks s l1 := by
        rw [asks, List.drop_zero, List.append_assoc]
      rw [eb]
      clear eb q2
      have hal : (asks s l1).length = 2 + 2 * l1.length := by rw [asks, List.length_append, hul]; rfl
      have hab : Bytes (asks s l1) := fun x hx => by
        rw [asks, List.mem_append] at hx
        rcases hx with hx | hx
        · simp only [List.mem_cons, List.not_mem_nil, or_false] at hx; omega
        · exact hub x hx
      have hbl : ([0, 0, 0, ((bytesOf s).length : Int)] ++ bytesOf s ++ asks s l1).length = 4 + s.size + (2 + 2 * l1.length) := by
        rw [List.length_append, List.length_append, hs, hal]; rfl
      have hhb : Bytes ([0, 0, 0, ((bytesOf s).length : Int)] ++ bytesOf s) := fun x hx => by
        rw [List.mem_append] at hx
        rcases hx with hx | hx
        · simp only [List.mem_cons, List.not_mem_nil, or_false] at hx; omega
        · exact hsb x hx
      have hbb : Bytes ([0, 0, 0, ((bytesOf s).length : Int)] ++ bytesOf s ++ asks s l1) := fun x hx => (List.mem_append.1 hx).elim (hhb x) (hab x)
      have ea2 : num ((asks s l1).take 2) = (l1.length : Int) := by
        show num [(l1.length : Int) / 256 % 256, (l1.length : Int) % 256] = _
        simp only [num, List.foldl_cons, List.foldl_nil]
        omega
      have ead : (asks s l1).drop 2 = unpairs l1 := rfl
      have a1 : ak ([0, 0, 0, ((bytesOf s).length : Int)] ++ bytesOf s ++ asks s l1) = (s, l1, 0) := by
        rw [ak_form _ _ (by omega), if_neg (by omega), ead, ea2, if_neg (by rw [hul]; omega), str_bytes, pairs_unpairs l1 hu]
      have a2 : ak ([0, 0, 0, ((bytesOf s).length : Int)] ++ bytesOf s ++ asks s l1 ++ [m]) = (⟨#[]⟩, [], 74) := by
        rw [List.append_assoc _ (asks s l1) [m], ak_form _ _ (by omega), if_neg (by rw [List.length_append]; omega), if_pos]
        have e1 : (asks s l1 ++ [m]).take 2 = (asks s l1).take 2 := rfl
        rw [e1, ea2, List.length_drop, List.length_append, hal]
        simp only [List.length_singleton]
        omega
      have a3 : ak (([0, 0, 0, ((bytesOf s).length : Int)] ++ bytesOf s ++ asks s l1).take (4 + s.size + (2 + 2 * l1.length) - 1)) = (⟨#[]⟩, [], 74) := by
        have e1 : ([0, 0, 0, ((bytesOf s).length : Int)] ++ bytesOf s ++ asks s l1).take (4 + s.size + (2 + 2 * l1.length) - 1) = [0, 0, 0, ((bytesOf s).length : Int)] ++ bytesOf s ++ (asks s l1).take (1 + 2 * l1.length) := by
          have hh : ([0, 0, 0, ((bytesOf s).length : Int)] ++ bytesOf s).length = 4 + s.size := by rw [List.length_append, hs]; rfl
          rw [List.take_append, List.take_of_length_le (by omega), hh]
          congr 2
          omega
        rw [e1, ak_form _ _ (by omega)]
        have hl3 : ((asks s l1).take (1 + 2 * l1.length)).length = 1 + 2 * l1.length := by rw [List.length_take, hal]; omega
        by_cases z : l1.length = 0
        · rw [if_pos (by rw [hl3]; omega)]
        · rw [if_neg (by rw [hl3]; omega), if_pos]
          rw [List.take_take, Nat.min_eq_left (by omega), ea2, List.length_drop, hl3]
          omega
      obtain ⟨F1, rfl⟩ : ∃ G, F1 = G + 2 := ⟨F1 - 2, by omega⟩
      rw [coaminglaw07_GreetBack.l0, if_neg (by omega), asked_is _ (by rw [hbl]; omega) hbb (F1 + 1) (by omega), Option.bind_some, a1]
      simp only
      rw [if_pos trivial, if_pos trivial, bne_self_eq_false, coaminglaw07_GreetBack.j2, if_neg (by decide)]
      obtain ⟨F2, r1, r2⟩ := gb1 l1 m ([0, 0, 0, ((bytesOf s).length : Int)] ++ bytesOf s ++ asks s l1) 900000 (by omega) l1.length 0 (by omega) F1 (by omega)
      refine Eq.trans r2 ?_
      obtain ⟨F2, rfl⟩ : ∃ G, F2 = G + 1 := ⟨F2 - 1, by omega⟩
      have ew : wrap64 ((([0, 0, 0, ((bytesOf s).length : Int)] ++ bytesOf s ++ asks s l1).length : Int) - 1) = ((4 + s.size + (2 + 2 * l1.length) - 1 : Nat) : Int) := by rw [hbl, w64 _ (by omega) (by omega)]; omega
      rw [coaminglaw07_GreetBack.l1, if_neg (by clear ew; omega), lent_bytes _ (by clear ew; rw [hbl]; omega), Option.bind_some, if_pos (by clear ew; omega), asked_is _ (by clear ew; rw [List.length_append, hbl]; simp; omega) (fun x hx => (List.mem_append.1 hx).elim (hbb x) (hmb x)) F2 (by clear ew; omega), Option.bind_some, ew]
      clear ew
      rw [if_pos (by omega), if_pos (by omega), Int.toNat_natCast, asked_is _ (by rw [List.length_take]; omega) (hbb.take _) F2 (by omega), Option.bind_some, a2, a3]
      rfl

end Go.Proofs.Ytkpanpekoiadoaa.Pure
