/- The reference's Read is the plain one. -/
import Derived.Test.YtojecbigcamedaaSpellFnsB
set_option linter.unusedVariables false
set_option linter.unusedSimpArgs false
namespace Go.Proofs.Ytojecbigcamedaa.Sp
open Go.RowKit Go.Proofs.Ytojecbigcamedaa.PBase Go.Proofs.YtojecbigcamedaaW.PrintWords Go.Proofs.YtojecbigcamedaaW.PrintLast Go.Proofs.YtojecbigcamedaaW.PrintMore

/-- the reference: what is read is written again -/
theorem bs_of (l : List UInt8) : bs ⟨l.toArray⟩ = l.map fun c => (c.toNat : Int) := by simp [bs]
theorem toList_mk (l : List UInt8) : (ByteArray.mk l.toArray).toList = l := by
  rw [Go.ByteArray.toList_eq]
theorem toList_data' (s : ByteArray) : s.toList = s.data.toList := Go.ByteArray.toList_eq s
def finS (s : ByteArray) (o : List Int) : List Int × Int := if enc (bitsOf o) = s.data.toList then (o, 0) else ([], 40)
theorem ref_end (s : ByteArray) (k : Nat) (o R : List Int) (i : Nat) (hi : ¬ i < s.size) (hk : 600000 < k) (ho : o.length ≤ 10000) (hb : Bytes o) : coamingref04_Read.l0 (k + 1) s o (val R) R.length i = some ((digits ((bs s).drop i)).elim ([], 40) fun ds => finS s (take8 ds o R).1) := by
  rw [coamingref04_Read.l0, if_neg (by omega), List.drop_of_length_le (by rw [bs_length]; omega), refWrite_is o (by omega) hb k (by omega)]
  show _ = some (finS s o)
  unfold finS
  rw [Option.bind_some, toList_mk, toList_data']
  split <;> rfl
set_option maxHeartbeats 1000000 in
theorem ref_all (s : ByteArray) (hs : s.size ≤ 10000) (d : Nat) : ∀ (k : Nat) (o R : List Int) (i : Nat), s.size ≤ i + d → d + 600001 < k → Bits R → R.length < 8 → o.length + d ≤ 10000 → Bytes o →
    coamingref04_Read.l0 k s o (val R) R.length i = some ((digits ((bs s).drop i)).elim ([], 40) fun ds => finS s (take8 ds o R).1) := by
  induction d with
  | zero =>
    intro k o R i h hk hR hl ho hb
    obtain ⟨k, rfl⟩ : ∃ m, k = m + 1 := ⟨k - 1, by omega⟩
    exact ref_end s k o R i (by omega) (by omega) (by omega) hb
  | succ d ih =>
    intro k o R i h hk hR hl ho hby
    obtain ⟨k, rfl⟩ : ∃ m, k = m + 1 := ⟨k - 1, by omega⟩
    by_cases hi : i < s.size
    · rw [coamingref04_Read.l0, if_pos (by omega), if_pos (by omega)]
      have hb := bt_range s i
      rw [bs_drop s i hi]
      cases hd : dg (bt s i) with
      | none => rw [sign_none k _ hb.1 hb.2 (by omega) hd, Option.bind_some, if_pos (by decide), fold_none hd]
      | some v =>
        have hv := dg_range hd
        have hr := pow_le7 R hR hl
        have c0 : ¬ v < 0 := by omega
        have e2 : wrap64 (wrap64 (val R * 32) + v) = val (R ++ bits5 v) := by rw [w64 (val R * 32) (by omega) (by omega), w64 _ (by omega) (by omega), val_five R v hv.1 hv.2]
        have e3 : wrap64 ((R.length : Int) + 5) = ((R ++ bits5 v).length : Nat) := by rw [w64 _ (by omega) (by omega), five_length]; omega
        have e4 : wrap64 ((i : Int) + 1) = ((i + 1 : Nat) : Int) := by rw [w64 _ (by omega) (by omega)]; omega
        have hL : Bits (R ++ bits5 v) := hR.append (Bits5 v)
        have hLl := five_length R v
        rw [sign_some k _ v hb.1 hb.2 (by omega) hd, Option.bind_some, fold_some hd]
        rw [if_neg c0, e2, e3, e4]
        clear e2 e3 e4
        by_cases h8 : 8 ≤ R.length + 5
        · have hb' : Bits ((R ++ bits5 v).take 8 ++ (R ++ bits5 v).drop 8) := by rw [List.take_append_drop]; exact hL
          have hn : ((R ++ bits5 v).drop 8).length ≤ 4 := by rw [List.length_drop]; omega
          have hp : (0 : Int) < 2 ^ ((R ++ bits5 v).drop 8).length := Int.pow_pos (by decide)
          have hv8 := val8_of _ hb'.left (by rw [List.length_take]; omega)
          have e5 : IntKind.u64.wrap (((R ++ bits5 v).drop 8).length : Nat) = (((R ++ bits5 v).drop 8).length : Nat) := Bt.wraps_u64 _ (by omega) (by omega)
          have f1 := drop8_length (R ++ bits5 v) (by omega) (by omega)
          have f2 := rd_shr .i64 rfl (R ++ bits5 v) hL (by omega) (by omega)
          have f3 := rd_tmod (R ++ bits5 v) hL (by omega) (by omega)
          have c1 : ((R ++ bits5 v).length : Int) ≥ 8 := by omega
          have c2 : (0 : Int) ≤ (((R ++ bits5 v).drop 8).length : Nat) := by omega
          have c3 : o.length < 140737488355328 := by omega
          have c4 : ¬ shl .i64 1 (((R ++ bits5 v).drop 8).length : Nat) = 0 := by rw [rd_one _ hn]; omega
          rw [if_pos c1, f1, e5, if_pos c2, if_pos c3, if_neg c4, f2, f3]
          clear f1 f2 f3 e5 c4 c3
          rw [ih k _ _ (i + 1) (by omega) (by omega) hb'.right (by omega) (by rw [List.length_append, List.length_singleton]; omega) (fun x hx => by
            rcases List.mem_append.1 hx with hx | hx
            · exact hby x hx
            · rw [List.mem_singleton.1 hx]; exact hv8.2)]
          have e9 : ∀ ds, take8 (v :: ds) o R = take8 ds (o ++ [val ((R ++ bits5 v).take 8)]) ((R ++ bits5 v).drop 8) := fun ds => by rw [take8, if_pos h8]
          simp only [e9]
        · rw [if_neg (by omega)]
          rw [ih k _ _ (i + 1) (by omega) (by omega) hL (by omega) (by omega) hby]
          have e9 : ∀ ds, take8 (v :: ds) o R = take8 ds o (R ++ bits5 v) := fun ds => by rw [take8, if_neg h8]
          simp only [e9]
    · exact ref_end s k o R i hi (by omega) (by omega) hby

theorem map_nat_inj {a b : List UInt8} (h : a.map (fun c => (c.toNat : Int)) = b.map (fun c => (c.toNat : Int))) : a = b := by
  induction a generalizing b with
  | nil => cases b with
    | nil => rfl
    | cons _ _ => simp at h
  | cons x a ih => cases b with
    | nil => simp at h
    | cons y b =>
      simp only [List.map_cons, List.cons.injEq] at h
      rw [ih h.2]
      congr 1
      exact UInt8.toNat_inj.1 (by omega)
theorem readOf_ref (s : ByteArray) : ((digits (bs s)).elim ([], 40) fun ds => finS s (take8 ds [] []).1) = readOf (bs s) := by
  unfold readOf
  cases h : digits (bs s) with
  | none => rfl
  | some ds =>
    have hb := read_back h
    have hm := (digits_of h).2.1
    have e : s.data.toList = ds.map sg := map_nat_inj (by rw [List.map_map]; exact hm.symm)
    show finS s (take8 ds [] []).1 = _
    unfold finS
    rw [e]
    by_cases hc : enc (bitsOf (take8 ds [] []).1) = ds.map sg
    · obtain ⟨h1, h2⟩ := hb.1 hc
      rw [if_pos hc]
      show _ = if 5 ≤ (take8 ds [] []).2.length then _ else _
      rw [if_neg (by omega), if_pos h2]
    · rw [if_neg hc]
      show _ = if 5 ≤ (take8 ds [] []).2.length then _ else _
      by_cases h1 : 5 ≤ (take8 ds [] []).2.length
      · rw [if_pos h1]
      · rw [if_neg h1]
        by_cases h2 : val (take8 ds [] []).2 = 0
        · exact absurd (hb.2 ⟨by omega, h2⟩) hc
        · rw [if_neg h2]
theorem refRead_is (s : ByteArray) (hs : s.size ≤ 10000) (k : Nat) (hk : 700000 < k) : coamingref04_Read.f k s = some (readOf (bs s)) := by
  unfold coamingref04_Read.f
  have h := ref_all s hs s.size k [] [] 0 (by omega) (by omega) (by intro b h; simp at h) (by simp) (by simp; omega) (by intro b h; simp at h)
  rw [show coamingref04_Read.l0 k s [] 0 0 0 = coamingref04_Read.l0 k s [] (val []) (([] : List Int).length : Nat) ((0 : Nat) : Int) from rfl, h, List.drop_zero, readOf_ref]
/-- what is read is written so -/
theorem readOf_ok (s : ByteArray) (h : (readOf (bs s)).2 = 0) : enc (bitsOf (readOf (bs s)).1) = s.data.toList ∧ Bytes (readOf (bs s)).1 ∧ (readOf (bs s)).1.length ≤ s.size := by
  rw [← readOf_ref] at h ⊢
  cases hd : digits (bs s) with
  | none => rw [hd] at h; cases h
  | some ds =>
    rw [hd] at h
    have h' : (finS s (take8 ds [] []).1).2 = 0 := h
    show enc (bitsOf (finS s (take8 ds [] []).1).1) = _ ∧ Bytes (finS s (take8 ds [] []).1).1 ∧ (finS s (take8 ds [] []).1).1.length ≤ _
    unfold finS at h' ⊢
    split at h'
    · rename_i hc
      obtain ⟨t1, t2, t3, t4, t5⟩ := take8_spec ds [] [] (by intro b h; simp at h) (by simp) (by intro b h; simp at h)
      rw [if_pos hc]
      have := (digits_of hd).2.2
      rw [bs_length] at this
      exact ⟨hc, t4, by simp at t5; show (take8 ds [] []).1.length ≤ _; omega⟩
    · cases h'
theorem readOf_code (l : List Int) : (readOf l).2 = 0 ∨ (readOf l).2 = 40 := by
  unfold readOf
  cases digits l with
  | none => exact .inr rfl
  | some ds =>
    have key : ∀ p : List Int × List Int, (finR p).2 = 0 ∨ (finR p).2 = 40 := by
      intro p
      unfold finR
      split
      · exact .inr rfl
      · split
        · exact .inl rfl
        · exact .inr rfl
    exact key (take8 ds [] [])
theorem bytes_of_wf {l : List Int} (h : ∀ x ∈ l, (Lit.int .u8 x).wf = true) : Bytes l := fun x hx => by
  have := h x hx
  simpa [Lit.wf, IntKind.min, IntKind.max, IntKind.signed, IntKind.bits] using this

end Go.Proofs.Ytojecbigcamedaa.Sp
