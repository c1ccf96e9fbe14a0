/- What the law's proof stands on alone: ConnZ, ConnL4 (laid together by wip/pack.py). -/
import Derived.Test.YtgljicdpcapgnaaDoorXDP6
set_option linter.unusedVariables false
set_option linter.unusedSimpArgs false
namespace Go.Proofs.YtgljicdpcapgnaaDoor
open Go.RowKit Go.Proofs.YtgljicdpcapgnaaDoor.PBase Go.Proofs.YtgljicdpcapgnaaDoorW.PrintWords Go.Proofs.YtgljicdpcapgnaaDoorW.PrintLast Go.Proofs.YtgljicdpcapgnaaDoorW.PrintMore
namespace Cn
theorem take_pre (l m : List Int) (i n : Nat) (h : i + n ≤ l.length) : ((l ++ m).drop i).take n = (l.drop i).take n := by
  rw [List.drop_append_of_le_length (by omega), List.take_append_of_le_length (by rw [List.length_drop]; omega)]
theorem take_pre0 (l m : List Int) (n : Nat) (h : n ≤ l.length) : (l ++ m).take n = l.take n := List.take_append_of_le_length h
theorem fl_ext (l m : List Int) (h : (Gr.fl l).2.2 ≠ 70) : Gr.fl (l ++ m) = Gr.fl l := by
  unfold Gr.fl at h ⊢
  by_cases h4 : l.length < 4
  · rw [if_pos h4] at h; exact absurd rfl h
  · rw [if_neg h4, if_neg (by rw [List.length_append]; omega), take_pre0 l m 4 (by omega)]
theorem nx_ext (l m : List Int) (h : (Gr.nx l).2.2.2 ≠ 70) : Gr.nx (l ++ m) = Gr.nx l := by
  unfold Gr.nx at h ⊢
  by_cases h16 : l.length < 16
  · rw [if_pos h16] at h; exact absurd rfl h
  rw [if_neg h16] at h ⊢
  rw [if_neg (by rw [List.length_append]; omega), take_pre0 l m 8 (by omega), take_pre l m 12 4 (by omega), take_pre l m 8 4 (by omega)]
  by_cases h1 : Wi.num (l.take 8) ≠ 5280542401877725268
  · rw [if_pos h1, if_pos h1]
  rw [if_neg h1] at h ⊢
  rw [if_neg h1]
  by_cases h2 : Wi.num ((l.drop 12).take 4) > 1024
  · rw [if_pos h2, if_pos h2]
  rw [if_neg h2] at h ⊢
  rw [if_neg h2]
  by_cases h3 : 16 + Wi.num ((l.drop 12).take 4) > l.length
  · rw [if_pos h3] at h; exact absurd rfl h
  rw [if_neg h3, if_neg (by rw [List.length_append]; omega), take_pre l m 16 _ (by omega)]
theorem rq_ext (l m : List Int) (h28 : 28 ≤ l.length) : Wi.rq0 (l ++ m) = Wi.rq0 l ∧ Wi.rq1 (l ++ m) = Wi.rq1 l ∧ Wi.rq2 (l ++ m) = Wi.rq2 l ∧ Wi.rq3 (l ++ m) = Wi.rq3 l ∧ Wi.rq4 (l ++ m) = Wi.rq4 l ∧ Wi.rq5 (l ++ m) = Wi.rq5 l := by
  unfold Wi.rq0 Wi.rq1 Wi.rq2 Wi.rq3 Wi.rq4 Wi.rq5
  refine ⟨?_, ?_, ?_, ?_, ?_, ?_⟩
  · rw [take_pre0 l m _ (by omega)]
  all_goals rw [take_pre l m _ _ (by omega)]
theorem rnext_ext (l m : List Int) (h : (Wi.nextOf l).2.2.2.2.2.2.2 ≠ 80) : Wi.nextOf (l ++ m) = Wi.nextOf l := by
  unfold Wi.nextOf at h ⊢
  by_cases h28 : l.length < 28
  · rw [if_pos h28] at h; exact absurd rfl h
  rw [if_neg h28] at h ⊢
  obtain ⟨e0, e1, e2, e3, e4, e5⟩ := rq_ext l m (by omega)
  rw [if_neg (by rw [List.length_append]; omega), e0, e1, e2, e3, e4, e5]
  by_cases h1 : Wi.rq0 l ≠ 627086611
  · rw [if_pos h1, if_pos h1]
  rw [if_neg h1] at h ⊢
  rw [if_neg h1]
  by_cases h2 : Wi.rq2 l = 1
  · rw [if_pos h2] at h ⊢
    rw [if_pos h2]
    by_cases h3 : Wi.rq5 l > 65536
    · rw [if_pos h3, if_pos h3]
    rw [if_neg h3] at h ⊢
    rw [if_neg h3]
    by_cases h4 : 28 + Wi.rq5 l > l.length
    · rw [if_pos h4] at h; exact absurd rfl h
    rw [if_neg h4, if_neg (by rw [List.length_append]; omega), take_pre l m 28 _ (by omega)]
  · rw [if_neg h2, if_neg h2]
def ext (c : St) (m : List Int) : St := { c with kept := c.kept ++ m }
theorem ext_ext (c : St) (a b : List Int) : ext (ext c a) b = ext c (a ++ b) := by simp [ext]
theorem option_ext (l : List Ps.Tn) (c : St) (m : List Int) (k : Int) (d : List Int) (h2 : c.st ≠ 4) : option l (ext c m) k d = if (option l c k d).st = 4 then option l c k d else ext (option l c k d) m := by
  unfold option
  by_cases e2 : k = 2
  · rw [if_pos e2, if_pos e2]; rfl
  rw [if_neg e2, if_neg e2]
  by_cases e3 : k = 3
  · rw [if_pos e3, if_pos e3]; exact (if_neg (show ¬(say c k (if 0 < d.length then 2147483651 else 1) []).st = 4 from h2)).symm
  rw [if_neg e3, if_neg e3]
  by_cases e1 : k = 1
  · rw [if_pos e1, if_pos e1]
    unfold oldway
    split
    · rfl
    · rfl
  rw [if_neg e1, if_neg e1]
  by_cases e6 : k = 6 ∨ k = 7
  · rw [if_pos e6, if_pos e6]
    unfold asked
    by_cases a1 : (Gr.ak d).2.2 ≠ 0
    · rw [if_pos a1, if_pos a1, if_neg (by exact h2)]; rfl
    rw [if_neg a1, if_neg a1]
    by_cases a2 : (Ps.check l (Gr.ak d).1).2 ≠ 0
    · rw [if_pos a2, if_pos a2, if_neg (by exact h2)]; rfl
    rw [if_neg a2, if_neg a2]
    by_cases hw : 3 ∈ (Gr.ak d).2.1
    · simp only [if_pos hw]
      by_cases e7 : k = 7
      · rw [if_pos e7, if_pos e7]; rfl
      · rw [if_neg e7, if_neg e7, if_neg (by exact h2)]; rfl
    · simp only [if_neg hw]
      by_cases e7 : k = 7
      · rw [if_pos e7, if_pos e7]; rfl
      · rw [if_neg e7, if_neg e7, if_neg (by exact h2)]; rfl
  · rw [if_neg e6, if_neg e6, if_neg (by exact h2)]; rfl
theorem step_ext (l : List Ps.Tn) (c : St) (m : List Int) (h4 : c.st ≠ 4) (h70 : (step l c).2.1 ≠ 70) (h80 : (step l c).2.1 ≠ 80) : step l (ext c m) = ((step l c).1, (step l c).2.1, if (step l c).2.2.st = 4 then (step l c).2.2 else ext (step l c).2.2 m) := by
  unfold step at h70 h80 ⊢
  by_cases h1 : c.st = 1
  · rw [if_pos h1] at h70 h80
    rw [if_pos (show (ext c m).st = 1 from h1), if_pos h1]
    have e : Gr.fl (ext c m).kept = Gr.fl c.kept := fl_ext c.kept m h70
    rw [e]
    refine Prod.ext rfl (Prod.ext rfl ?_)
    show (if (Gr.fl c.kept).2.2 = 0 then _ else ext c m) = if (if (Gr.fl c.kept).2.2 = 0 then _ else c).st = 4 then (if (Gr.fl c.kept).2.2 = 0 then _ else c) else ext (if (Gr.fl c.kept).2.2 = 0 then _ else c) m
    by_cases h0 : (Gr.fl c.kept).2.2 = 0
    · rw [if_pos h0, if_pos h0, if_neg (by show ¬(2 : Int) = 4; decide)]; rfl
    · rw [if_neg h0, if_neg h0, if_neg h4]
  rw [if_neg h1] at h70 h80 ⊢
  rw [if_neg (show ¬(ext c m).st = 1 from h1)]
  by_cases h2 : c.st = 2
  · rw [if_pos h2] at h70 h80
    rw [if_pos (show (ext c m).st = 2 from h2), if_pos h2]
    have e : Gr.nx (ext c m).kept = Gr.nx c.kept := nx_ext c.kept m h70
    rw [e]
    refine Prod.ext rfl (Prod.ext rfl ?_)
    show (if (Gr.nx c.kept).2.2.2 = 0 then _ else ext c m) = if (if (Gr.nx c.kept).2.2.2 = 0 then _ else c).st = 4 then (if (Gr.nx c.kept).2.2.2 = 0 then _ else c) else ext (if (Gr.nx c.kept).2.2.2 = 0 then _ else c) m
    by_cases h0 : (Gr.nx c.kept).2.2.2 = 0
    · rw [if_pos h0, if_pos h0]; exact option_ext l c m _ _ h4
    · rw [if_neg h0, if_neg h0, if_neg h4]
  rw [if_neg h2] at h70 h80 ⊢
  rw [if_neg (show ¬(ext c m).st = 2 from h2)]
  by_cases h3 : c.st = 3
  · rw [if_pos h3] at h70 h80
    rw [if_pos (show (ext c m).st = 3 from h3), if_pos h3]
    unfold request at h70 h80 ⊢
    by_cases h16 : c.rs.length = 16
    · rw [if_pos h16] at h80; exact absurd rfl h80
    rw [if_neg h16] at h70 h80 ⊢
    rw [if_neg (show ¬(ext c m).rs.length = 16 from h16)]
    have hne : (Wi.nextOf c.kept).2.2.2.2.2.2.2 ≠ 80 := by
      intro hh
      revert h80
      generalize Wi.nextOf c.kept = r at hh ⊢
      obtain ⟨f, k, ck, off, len, data, n, e⟩ := r
      obtain rfl : e = 80 := hh
      intro h80
      exact h80 rfl
    rw [show Wi.nextOf (ext c m).kept = Wi.nextOf c.kept from rnext_ext c.kept m hne]
    generalize Wi.nextOf c.kept = r at hne ⊢
    obtain ⟨f, k, ck, off, len, data, n, e⟩ := r
    show (if e ≠ 0 then (0, e, ext c m) else if k = 2 then (n, 0, close (ext c m)) else (n, 0, { ext c m with rs := (ext c m).rs ++ [(f, k, ck, off, len, data)] })) = ((if e ≠ 0 then (0, e, c) else if k = 2 then (n, 0, close c) else (n, 0, { c with rs := c.rs ++ [(f, k, ck, off, len, data)] }) : Int × Int × St).1, (if e ≠ 0 then (0, e, c) else if k = 2 then (n, 0, close c) else (n, 0, { c with rs := c.rs ++ [(f, k, ck, off, len, data)] }) : Int × Int × St).2.1, _)
    by_cases he : e ≠ 0
    · simp only [if_pos he]
      rw [if_neg h4]
    · simp only [if_neg he]
      by_cases hk : k = 2
      · simp only [if_pos hk]
        rw [if_pos (show (close c).st = 4 from rfl)]; rfl
      · simp only [if_neg hk]
        rw [if_neg (show ¬c.st = 4 from h4)]; rfl
  · rw [if_neg h3] at h80; exact absurd rfl h80
theorem step_wait (l : List Ps.Tn) (c : St) (h : (step l c).2.1 ≠ 0) : (step l c).2.2 = c := by
  unfold step at h ⊢
  split
  · rename_i h1
    rw [if_pos h1] at h
    exact if_neg h
  · rename_i h1
    rw [if_neg h1] at h
    split
    · rename_i h2
      rw [if_pos h2] at h
      exact if_neg h
    · rename_i h2
      rw [if_neg h2] at h
      split
      · rename_i h3
        rw [if_pos h3] at h
        unfold request at h ⊢
        split
        · rfl
        · rename_i h16
          rw [if_neg h16] at h
          generalize Wi.nextOf c.kept = r at h ⊢
          obtain ⟨f, k, ck, off, len, data, n, e⟩ := r
          by_cases he : e ≠ 0
          · exact congrArg (fun x : Int × Int × St => x.2.2) (if_pos he)
          · exfalso
            apply h
            show ((if e ≠ 0 then (0, e, c) else if k = 2 then (n, 0, close c) else (n, 0, { c with rs := c.rs ++ [(f, k, ck, off, len, data)] }) : Int × Int × St)).2.1 = 0
            rw [if_neg he]
            split <;> rfl
      · rfl
theorem ok_ext {c : St} {m : List Int} (h : Ok c) (hm : Sh.Bytes m) (hl : c.kept.length + m.length ≤ 131072) : Ok (ext c m) := ⟨(fun x hx => (List.mem_append.1 hx).elim (h.by_ x) (hm x)), by show (c.kept ++ m).length ≤ _; rw [List.length_append]; exact hl, h.rs_, h.blk_⟩
theorem read_len (l : List Ps.Tn) : ∀ (n : Nat) (c : St), c.kept.length ≤ n → Ok c → (read l c).kept.length ≤ c.kept.length := by
  intro n
  induction n with
  | zero =>
    intro c hn ho
    have f4 := (step_facts l c ho).2.2.2
    have hs : (step l c).2.2.kept.length ≤ c.kept.length := by rcases f4 with ⟨e, _⟩ | ⟨e, _⟩ <;> rw [e] <;> simp
    rw [read_step l c ho]
    split
    · exact hs
    · split
      · rename_i he
        split
        · exact hs
        · rename_i h4
          have h2 := (next_ok l c ho he h4).2.1
          omega
      · exact Nat.zero_le _
  | succ n ih =>
    intro c hn ho
    have f4 := (step_facts l c ho).2.2.2
    have hs : (step l c).2.2.kept.length ≤ c.kept.length := by rcases f4 with ⟨e, _⟩ | ⟨e, _⟩ <;> rw [e] <;> simp
    rw [read_step l c ho]
    split
    · exact hs
    · split
      · rename_i he
        split
        · exact hs
        · rename_i h4
          obtain ⟨h1, h2, _⟩ := next_ok l c ho he h4
          have := ih (nextSt l c) (by omega) h1
          omega
      · exact Nat.zero_le _
theorem read_ext (l : List Ps.Tn) (m : List Int) (hm : Sh.Bytes m) : ∀ (n : Nat) (c : St), c.kept.length ≤ n → Ok c → c.st ≠ 4 → c.kept.length + m.length ≤ 131072 → read l (ext c m) = if (read l c).st = 4 then read l c else read l (ext (read l c) m) := by
  intro n
  induction n with
  | zero =>
    intro c hn ho h4 hl
    have hw := step_wait l c
    by_cases hmo : (step l c).2.1 = 70 ∨ (step l c).2.1 = 80
    · have e : read l c = c := by rw [read_step l c ho, if_pos hmo]; exact hw (by omega)
      rw [e, if_neg h4]
    · have hx := step_ext l c m h4 (fun h => hmo (.inl h)) (fun h => hmo (.inr h))
      by_cases h0 : (step l c).2.1 = 0
      · by_cases hs4 : (step l c).2.2.st = 4
        · have e : read l c = (step l c).2.2 := by rw [read_step l c ho, if_neg hmo, if_pos h0, if_pos hs4]
          rw [e, if_pos hs4, read_step l _ (ok_ext ho hm hl), hx, if_neg hmo, if_pos h0]
          simp only [if_pos hs4]
        · have h2 := (next_ok l c ho h0 hs4).2.1
          omega
      · have e : read l c = close c := by rw [read_step l c ho, if_neg hmo, if_neg h0, hw h0]
        rw [e, if_pos (show (close c).st = 4 from rfl), read_step l _ (ok_ext ho hm hl), hx, if_neg hmo, if_neg h0, hw h0]
        simp only [if_neg h4]
        rfl
  | succ n ih =>
    intro c hn ho h4 hl
    have hw := step_wait l c
    by_cases hmo : (step l c).2.1 = 70 ∨ (step l c).2.1 = 80
    · have e : read l c = c := by rw [read_step l c ho, if_pos hmo]; exact hw (by omega)
      rw [e, if_neg h4]
    · have hx := step_ext l c m h4 (fun h => hmo (.inl h)) (fun h => hmo (.inr h))
      by_cases h0 : (step l c).2.1 = 0
      · by_cases hs4 : (step l c).2.2.st = 4
        · have e : read l c = (step l c).2.2 := by rw [read_step l c ho, if_neg hmo, if_pos h0, if_pos hs4]
          rw [e, if_pos hs4, read_step l _ (ok_ext ho hm hl), hx, if_neg hmo, if_pos h0]
          simp only [if_pos hs4]
        · obtain ⟨g1, g2, _, g4, g5⟩ := next_ok l c ho h0 hs4
          have e : read l c = read l (nextSt l c) := by rw [read_step l c ho, if_neg hmo, if_pos h0, if_neg hs4]
          have en : nextSt l (ext c m) = ext (nextSt l c) m := by
            unfold nextSt
            rw [hx]
            simp only [if_neg hs4]
            show ({ ext (step l c).2.2 m with kept := ((step l c).2.2.kept ++ m).drop (step l c).1.toNat } : St) = _
            rw [List.drop_append_of_le_length (by omega)]
            rfl
          rw [e, ← ih (nextSt l c) (by omega) g1 hs4 (by omega), read_step l _ (ok_ext ho hm hl), en, hx]
          simp only [if_neg hs4]
          rw [if_neg hmo, if_pos h0, if_neg (by exact hs4)]
      · have e : read l c = close c := by rw [read_step l c ho, if_neg hmo, if_neg h0, hw h0]
        rw [e, if_pos (show (close c).st = 4 from rfl), read_step l _ (ok_ext ho hm hl), hx, if_neg hmo, if_neg h0, hw h0]
        simp only [if_neg h4]
        rfl
theorem feed_two (l : List Ps.Tn) (c : St) (a b : List Int) (ho : Ok c) (ha : Sh.Bytes a) (hb : Sh.Bytes b) (hl : c.kept.length + a.length + b.length ≤ 131072) : feed l (feed l c a) b = feed l c (a ++ b) := by
  by_cases h4 : c.st = 4
  · have e : ∀ x, feed l c x = c := fun x => by unfold feed; rw [if_pos h4]
    rw [e, e, e]
  · have e : ∀ x, x.length + c.kept.length ≤ 131072 → feed l c x = read l (ext c x) := fun x hx => by unfold feed; rw [if_neg h4, if_neg (by omega)]; rfl
    rw [e a (by omega), e (a ++ b) (by rw [List.length_append]; omega), ← ext_ext]
    have hoa : Ok (ext c a) := ok_ext ho ha (by omega)
    have hla : (ext c a).kept.length = c.kept.length + a.length := by show (c.kept ++ a).length = _; rw [List.length_append]
    rw [read_ext l b hb _ (ext c a) (Nat.le_refl _) hoa h4 (by rw [hla]; omega)]
    have hrl := read_len l _ (ext c a) (Nat.le_refl _) hoa
    by_cases hr : (read l (ext c a)).st = 4
    · rw [if_pos hr]
      unfold feed
      rw [if_pos hr]
    · rw [if_neg hr]
      unfold feed
      rw [if_neg hr, if_neg (by omega)]
      rfl
theorem feed_none (l : List Ps.Tn) : feed l (new 64) [] = new 64 := by kernel_rfl
end Cn
end Go.Proofs.YtgljicdpcapgnaaDoor
set_option linter.unusedVariables false
set_option linter.unusedSimpArgs false
namespace Go.Proofs.YtgljicdpcapgnaaDoor
open Go.RowKit Go.Proofs.YtgljicdpcapgnaaDoor.PBase Go.Proofs.YtgljicdpcapgnaaDoorW.PrintWords Go.Proofs.YtgljicdpcapgnaaDoorW.PrintLast Go.Proofs.YtgljicdpcapgnaaDoorW.PrintMore
attribute [local go_sem] min2_int min_two
namespace Cn
theorem take_next (l : List Int) (j n : Nat) : l.take j ++ (l.drop j).take n = l.take (j + n) := (List.take_add ..).symm
theorem new_fed (l : List Ps.Tn) (b : List Int) (hb : Sh.Bytes b) : Ok (feed l (new 64) b) ∧ (feed l (new 64) b).send.length ≤ 7000000000000 := by
  obtain ⟨h1, h2⟩ := feed_ok l (new 64) b (new_ok 64 (by decide)) hb
  have h3 : (new 64).send.length ≤ 8000 := hello_len
  exact ⟨h1, by omega⟩
end Cn
set_option maxHeartbeats 8000000 in
set_option maxRecDepth 100000 in
theorem connPieces_.calls (x0 : List Ps.Tn) (v0 : Value) (x1 : List Int) (v1 : Value) (x2 : List Int) (v2 : Value) (W : World) (hk : Sh.Ks W) (hK0 : (Kd.slice 58 Ps.kTn).K W x0 [v0]) (hw0 : x0.length ≤ maxLen ∧ ∀ x ∈ x0, Ps.TnIn x) (hK1 : (Kd.slice 5 (Kd.int .u8)).K W x1 [v1]) (hw1 : x1.length ≤ maxLen ∧ ∀ x ∈ x1, (Lit.int .u8 x).wf = true) (hK2 : (Kd.slice 5 (Kd.int .u8)).K W x2 [v2]) (hw2 : x2.length ≤ maxLen ∧ ∀ x ∈ x2, (Lit.int .u8 x).wf = true) :
  Calls Tryd.prog 6 #[v0, v1, v2] W fun e w' => e = .returned (.bool true) ∧ Below W.heap.size W w' := by
 obtain ⟨A0, c0, he0, hlc, hC⟩ := hK0
 obtain rfl : v0 = .slice A0 x0.length c0 := by simpa using he0
 obtain ⟨A1, c1, he1, hlc1, hC1⟩ := hK1
 obtain rfl : v1 = .slice A1 x1.length c1 := by simpa using he1
 obtain ⟨A2, c2, he2, hlc2, hC2⟩ := hK2
 obtain rfl : v2 = .slice A2 x2.length c2 := by simpa using he2
 have HK := Aside0.mk hk
 have HC := Aside0.mk hC
 have HC1 := Aside0.mk hC1
 have HC2 := Aside0.mk hC2
 have HI := Aside0.mk hw0.2
 have HBY := Aside0.mk (Ps.bytes_of hw1.2)
 have HBY2 := Aside0.mk (Ps.bytes_of hw2.2)
 obtain ⟨n, HN⟩ : ∃ n, Aside0 (x0.length = n) := ⟨_, ⟨rfl⟩⟩
 obtain ⟨m, HM⟩ : ∃ n, Aside0 (x1.length = n) := ⟨_, ⟨rfl⟩⟩
 obtain ⟨r, HR⟩ : ∃ n, Aside0 (x2.length = n) := ⟨_, ⟨rfl⟩⟩
 rw [HN.out] at hlc ⊢
 rw [HM.out] at hlc1 ⊢
 rw [HR.out] at hlc2 ⊢
 have HLC := Aside0.mk hlc
 have HLC1 := Aside0.mk hlc1
 clear hw0 hC he0 hk hlc hC1 he1 hlc1 hw1 hC2 he2 hlc2 hw2
 have HB0 : Aside0 (Below W.heap.size W (W.alloc (.cells #[.int .u8 0, .slice A1 m c1, .int .i64 0, .int .u32 0] 40))) := ⟨below_alloc (Below.refl _ _) _⟩
 have HH0 : Aside0 (0 < 1 → ∃ ad, (some (⟨W.heap.size, 0, none⟩ : Addr)) = some ad ∧ ∀ i : Nat, i < 1 → ∃ A c, (W.alloc (.cells #[.int .u8 0, .slice A1 m c1, .int .i64 0, .int .u32 0] 40)).cell? ⟨(ad.add (i * 4)).block, (ad.add (i * 4)).off + 1, none⟩ = some (.slice A ((fun _ => m) i) c)) := ⟨fun _ => ⟨_, rfl, fun i hi => by
  obtain rfl : i = 0 := by omega
  exact ⟨A1, c1, Lit.cell_new W _ _ _ 1⟩⟩⟩
 go_enter Tryd.func6, Tryd.ntmps6
 go_wp2_with fail
 refine (heavyc_.calls (Kd.C_below HC.out HB0.out) HN.out HLC.out HH0.out).mono ?_
 rintro e w1 ⟨b, rfl, hb, hb1⟩
 have HB1 := Aside0.mk (below_then HB0.out HB0.out.size hb1)
 have HLT := Aside0.mk hb
 clear hb hb1 HB0 HH0
 cases b with
 | true =>
  go_wp2_with fail
  refine (knownc_.calls _ (HK.out.below HB1.out)).mono ?_
  rintro e w2 ⟨rfl, hb2⟩
  have HB2 := Aside0.mk (below_then HB1.out HB1.out.size hb2)
  clear hb2
  go_wp2_with fail
  go_ret
  exact ⟨rfl, HB2.out⟩
 | false =>
 have HLI := Aside0.mk (HLT.out rfl)
 have HTW := Aside0.mk (Ps.few_wf HLI.out.1 HI.out)
 have HM3 : Aside0 (m ≤ 3000) := ⟨HLI.out.2.2 0 (by decide)⟩
 clear HLT HLI HI
 by_cases hr : (r : Int) > 200
 ·go_wp2_with fail
  refine (knownc_.calls _ (HK.out.below HB1.out)).mono ?_
  rintro e w2 ⟨rfl, hb2⟩
  have HB2 := Aside0.mk (below_then HB1.out HB1.out.size hb2)
  clear hb2
  go_wp2_with fail
  go_ret
  exact ⟨rfl, HB2.out⟩
 have HR2 : Aside0 (r ≤ 200) := ⟨by omega⟩
 go_wp2_with fail
 refine (knownc_.calls _ (HK.out.below HB1.out)).mono ?_
 rintro e w2 ⟨rfl, hb2⟩
 have HB2 := Aside0.mk (below_then HB1.out HB1.out.size hb2)
 clear hb2 HB1
 go_wp2_with fail
 clear hr
 refine (tables_.calls (Kd.C_below HC.out HB2.out) HN.out HTW.out).mono ?_
 rintro e w3 ⟨hb3, hpost⟩
 have HB3 := Aside0.mk (below_then HB2.out HB2.out.size hb3)
 rcases hpost with ⟨_, _, tb, q, rfl, ht⟩ | ⟨_, rfl⟩
 rotate_left
 ·go_wp2_with fail
  go_ret
  exact ⟨rfl, HB3.out⟩
 have HT := Aside0.mk ht
 have HX := Aside0.mk (Cn.Ctx.new (HK.out.below HB3.out) ht HTW.out)
 clear hb3 ht
 go_wp2_with fail
 refine (newconn_.calls w3 tb 64).mono ?_
 rintro e w4 ⟨p, rfl, hc4, hb4⟩
 have HC4 := Aside0.mk hc4.bound
 have HB4 := Aside0.mk hb4
 clear hc4 hb4
 go_wp2_with fail
 refine (newconn_.calls w4 tb 64).mono ?_
 rintro e w5 ⟨d, rfl, hd5, hb5⟩
 have HD5 := Aside0.mk hd5.bound
 have HC5 := Aside0.mk (HC4.out.below hb5)
 have HB5 := Aside0.mk (below_then HB4.out HB4.out.size hb5)
 have HS34 : Aside0 (w3.heap.size ≤ w4.heap.size) := ⟨HB4.out.size⟩
 have HS45 : Aside0 (w4.heap.size ≤ w5.heap.size) := ⟨hb5.size⟩
 clear hd5 hb5 HC4 HB4
 have HNW : Aside0 (Cn.hello.length ≤ 7000000000000) := ⟨by have := Cn.hello_len; omega⟩
 go_wp2_with fail
 refine (feedc_.calls (ok := fun k => (w3.heap.size ≤ k ∧ k < w4.heap.size) ∨ w5.heap.size ≤ k) HX.out (HC5.out.mono (fun k hk => .inl hk)) (fun k hk => .inr hk) (Cn.new_ok 64 (by decide)) HB5.out (fun k hk => hk.elim (fun h => h.1) (fun h => Nat.le_trans HS34.out (Nat.le_trans HS45.out h))) HNW.out (Kd.C_below HC1.out (below_then HB3.out HB3.out.size HB5.out)) HM.out HLC1.out HBY.out).mono ?_
 rintro e w6 ⟨rfl, hc6, hf6⟩
 have HC6 := Aside0.mk hc6.bound
 have HD6 := Aside0.mk (HD5.out.frame hf6 (fun k hk hh => by have := hk.1; have := hk.2; rcases hh with h | h <;> omega))
 have HB6 := Aside0.mk (hf6.below HB5.out HB5.out.size (fun k hk => hk.elim (fun h => h.1) (fun h => Nat.le_trans HS34.out (Nat.le_trans HS45.out h))))
 have HS56 : Aside0 (w5.heap.size ≤ w6.heap.size) := ⟨hf6.size⟩
 clear hc6 hf6 HC5 HD5 HB5
 go_wp2_with fail
 have HC6A : Aside0 (Cn.Cn w6 (fun k => (w3.heap.size ≤ k ∧ k < w4.heap.size) ∨ (w5.heap.size ≤ k ∧ k < w6.heap.size)) p tb (Cn.feed x0 (Cn.new 64) x1)) := ⟨HC6.out.mono (fun k hk => hk.1.elim .inl (fun h => .inr ⟨h, hk.2⟩))⟩
 have HD6A : Aside0 (Cn.Cn w6 (fun k => (w4.heap.size ≤ k ∧ k < w5.heap.size) ∨ w6.heap.size ≤ k) d tb (Cn.feed x0 (Cn.new 64) (x1.take 0))) := ⟨by rw [List.take_zero, Cn.feed_none]; exact HD6.out.mono (fun k hk => .inl hk)⟩
 have HOKD : Aside0 (∀ k, ((w4.heap.size ≤ k ∧ k < w5.heap.size) ∨ w6.heap.size ≤ k) → w3.heap.size ≤ k) := ⟨fun k hk => by have := HS34.out; have := HS45.out; have := HS56.out; rcases hk with h | h <;> omega⟩
 have HDIS : Aside0 (∀ k, ((w3.heap.size ≤ k ∧ k < w4.heap.size) ∨ (w5.heap.size ≤ k ∧ k < w6.heap.size)) → ¬((w4.heap.size ≤ k ∧ k < w5.heap.size) ∨ w6.heap.size ≤ k)) := ⟨fun k hk hh => by have := HS34.out; have := HS45.out; have := HS56.out; rcases hk with h | h <;> rcases hh with h' | h' <;> omega⟩
 have HL6 : Aside0 (w6.heap.size ≤ w6.heap.size) := ⟨Nat.le_refl _⟩
 have HA6 : Aside0 (Kd.C (Kd.int .u8) W A1 m (x1.drop 0)) := ⟨by rw [List.drop_zero]; have := HC1.out; rwa [HM.out] at this⟩
 have HJ6 : Aside0 (0 + m = m) := ⟨Nat.zero_add _⟩
 clear HC6 HD6
 go_loopw [12, 13] (fun rx ix wr => ∃ (i j L cr : Nat) (Ar : Option Addr), rx = .slice Ar L cr ∧ ix = .int .i64 i ∧ i ≤ r ∧ Aside0 (j + L = m) ∧ Aside0 (L ≤ cr) ∧ Aside0 (Kd.C (Kd.int .u8) W Ar L (x1.drop j)) ∧ Aside0 (Cn.Cn wr (fun k => (w3.heap.size ≤ k ∧ k < w4.heap.size) ∨ (w5.heap.size ≤ k ∧ k < w6.heap.size)) p tb (Cn.feed x0 (Cn.new 64) x1)) ∧ Aside0 (Cn.Cn wr (fun k => (w4.heap.size ≤ k ∧ k < w5.heap.size) ∨ w6.heap.size ≤ k) d tb (Cn.feed x0 (Cn.new 64) (x1.take j))) ∧ Aside0 (Below w3.heap.size w3 wr) ∧ Aside0 (w6.heap.size ≤ wr.heap.size)) (fun _ ix _ => r - (intOf ix).toNat)
 case atStart => exact ⟨0, 0, m, c1, A1, rfl, rfl, Nat.zero_le _, HJ6, HLC1, HA6, HC6A, HD6A, HB6, HL6⟩
 case round =>
  clear HJ6 HA6 HC6A HD6A HB6 HL6
  obtain ⟨i, j, L, cr, Ar, rfl, rfl, hi, HJ, HLR, HA, HC6, HD6, HB6, HL6⟩ := hrel
  by_cases hlt : i < r
  ·have hltI : (i : Int) < r := by omega
   have hi2 : (i : Int) < 200 := by have := HR2.out; omega
   have hL3 : (L : Int) ≤ 3000 := by have := HJ.out; have := HM3.out; omega
   have HBW := Aside0.mk (below_then HB3.out HB3.out.size HB6.out)
   obtain ⟨ad, hA, cv, HCV, hcell⟩ : ∃ ad, A2 = some ad ∧ ∃ cv : Int, Aside0 (0 ≤ cv ∧ cv ≤ 255) ∧ wr.cell? (ad.add i) = some (.int .u8 cv) := by
    obtain ⟨ad, e, hx⟩ := Kd.at_int HC2.out (i : Int) (by omega) (by rw [HR.out]; omega)
    rw [Int.toNat_natCast] at hx
    have hi' : i < x2.length := by rw [HR.out]; exact hlt
    exact ⟨ad, e, _, ⟨HBY2.out _ (Wi.rd_mem x2 i hi')⟩, (HBW.out.cell (World.block_lt_of_cell? _ _ hx)).trans hx⟩
   subst hA
   have hcv0 : 0 ≤ cv := HCV.out.1
   have hcv1 : cv ≤ 255 := HCV.out.2
   obtain ⟨nn, HNN⟩ : ∃ nn : Nat, Aside0 ((if (L : Int) < cv then (L : Int) else cv) = (nn : Int) ∧ nn ≤ L) := by
    by_cases h : (L : Int) < cv
    ·exact ⟨L, ⟨if_pos h, Nat.le_refl _⟩⟩
    ·exact ⟨cv.toNat, ⟨by rw [if_neg h]; omega, by omega⟩⟩
   have hdl : (x1.drop j).length = L := by rw [List.length_drop, HM.out]; have := HJ.out; omega
   have hct := Wk.cut_to_ (P := Tryd.prog) 23 5 .i64 Tryd.underlying23 Cn.size1 Ar cr (x1.drop j) (nn : Int) nn rfl (by rw [hdl]; exact HNN.out.2) (by rw [hdl]; exact HLR.out)
   obtain ⟨Ar', hcf, hcC⟩ := Wk.cut_from_ (P := Tryd.prog) 23 5 .i64 Tryd.underlying23 Cn.size1 .u8 Ar cr (x1.drop j) (nn : Int) nn rfl (by rw [hdl]; exact HNN.out.2) (by rw [hdl]; exact HLR.out)
   rw [hdl] at hct hcf hcC
   have HTK : Aside0 (Kd.C (Kd.int .u8) W Ar nn ((x1.drop j).take nn)) := ⟨by
    have h := Kd.C_take (m := nn) (show Kd.C (Kd.int .u8) W Ar (x1.drop j).length (x1.drop j) by rw [hdl]; exact HA.out) (by rw [hdl]; exact HNN.out.2)
    rwa [List.length_take, hdl, Nat.min_eq_left HNN.out.2] at h⟩
   have HTL : Aside0 (((x1.drop j).take nn).length = nn) := ⟨by rw [List.length_take, hdl, Nat.min_eq_left HNN.out.2]⟩
   have HDR : Aside0 (Kd.C (Kd.int .u8) W Ar' (L - nn) (x1.drop (j + nn))) := ⟨by
    have h := hcC W HA.out
    rw [List.drop_drop, List.length_drop, HM.out] at h
    rwa [show m - (j + nn) = L - nn from by have := HJ.out; omega] at h⟩
   clear hcC hdl
   have hmin := HNN.out.1
   go_wp2_with fail
   clear hmin hct hcell hcv0 hcv1
   have HF := Aside0.mk (Cn.new_fed x0 (x1.take j) (Cn.bytes_take HBY.out j))
   refine (feedc_.calls HX.out HD6.out (fun k hk => .inr (Nat.le_trans HL6.out hk)) HF.out.1 HB6.out HOKD.out HF.out.2 (by rw [HTL.out]; exact Kd.C_below HTK.out HBW.out) HTL.out (Nat.le_trans HNN.out.2 HLR.out) (Cn.bytes_take (Cn.bytes_drop HBY.out j) nn)).mono ?_
   rintro e w7 ⟨rfl, hd7, hf7⟩
   rw [Cn.feed_two x0 (Cn.new 64) _ _ (Cn.new_ok 64 (by decide)) (Cn.bytes_take HBY.out j) (Cn.bytes_take (Cn.bytes_drop HBY.out j) nn) (by
    rw [HTL.out, List.length_take, HM.out]
    show 0 + min j m + nn ≤ 131072
    have := HJ.out; have := HNN.out.2; have := HM3.out; omega), Cn.take_next] at hd7
   have HD7 := Aside0.mk hd7
   have HC7 := Aside0.mk (HC6.out.frame hf7 HDIS.out)
   have HB7 := Aside0.mk (hf7.below HB6.out HB6.out.size HOKD.out)
   have HL7 : Aside0 (w6.heap.size ≤ w7.heap.size) := ⟨Nat.le_trans HL6.out hf7.size⟩
   have HJ7 : Aside0 (j + nn + (L - nn) = m) := ⟨by have := HJ.out; have := HNN.out.2; omega⟩
   have HLR7 : Aside0 (L - nn ≤ cr - nn) := ⟨by have := HLR.out; omega⟩
   clear hd7 hf7
   go_wp2_with fail
   exact ⟨⟨i + 1, j + nn, L - nn, cr - nn, Ar', rfl, by simp, by omega, HJ7, HLR7, HDR, HC7, HD7, HB7, HL7⟩, by simp [intOf]; omega⟩
  ·obtain rfl : r = i := by omega
   have HBW := Aside0.mk (below_then HB3.out HB3.out.size HB6.out)
   have HTL : Aside0 ((x1.drop j).length = L) := ⟨by rw [List.length_drop, HM.out]; have := HJ.out; omega⟩
   have HF := Aside0.mk (Cn.new_fed x0 (x1.take j) (Cn.bytes_take HBY.out j))
   have HFE := Aside0.mk (Cn.new_fed x0 x1 HBY.out)
   go_wp2_with fail
   refine (feedc_.calls HX.out HD6.out (fun k hk => .inr (Nat.le_trans HL6.out hk)) HF.out.1 HB6.out HOKD.out HF.out.2 (by rw [HTL.out]; exact Kd.C_below HA.out HBW.out) HTL.out HLR.out (Cn.bytes_drop HBY.out j)).mono ?_
   rintro e w7 ⟨rfl, hd7, hf7⟩
   rw [Cn.feed_two x0 (Cn.new 64) _ _ (Cn.new_ok 64 (by decide)) (Cn.bytes_take HBY.out j) (Cn.bytes_drop HBY.out j) (by
    rw [HTL.out, List.length_take, HM.out]
    show 0 + min j m + L ≤ 131072
    have := HJ.out; have := HM3.out; omega), List.take_append_drop] at hd7
   obtain ⟨S, HS⟩ : ∃ S, Aside0 (Cn.feed x0 (Cn.new 64) x1 = S) := ⟨_, ⟨rfl⟩⟩
   have hc7 := HC6.out.frame hf7 HDIS.out
   have HFW := Aside0.mk (Cn.few_feed x0 (Cn.new 64) x1 (Cn.few_new 64))
   rw [HS.out] at hc7 hd7 HFE HFW
   have HD7 := Aside0.mk hd7
   have HC7 := Aside0.mk hc7
   have HB7 := Aside0.mk (hf7.below HB6.out HB6.out.size HOKD.out)
   have HOKC : Aside0 (∀ k, ((w3.heap.size ≤ k ∧ k < w4.heap.size) ∨ (w5.heap.size ≤ k ∧ k < w6.heap.size)) → w3.heap.size ≤ k) := ⟨fun k hk => by have := HS34.out; have := HS45.out; rcases hk with h | h <;> omega⟩
   have HRQ : Aside0 (∀ q ∈ S.rs, q.2.2.2.2.2.length < 140737488355328) := ⟨fun q hq => by have := HFE.out.1.rs_ q hq; omega⟩
   clear hd7 hf7 hc7
   go_wp2_with fail
   refine (state_.calls HC7.out).mono ?_
   rintro e w8 ⟨rfl, hb8⟩
   have HC8 := Aside0.mk (HC7.out.below hb8)
   have HD8 := Aside0.mk (HD7.out.below hb8)
   have HB8 := Aside0.mk (below_then HB7.out HB7.out.size hb8)
   clear hb8
   go_wp2_with fail
   refine (state_.calls HD8.out).mono ?_
   rintro e w9 ⟨rfl, hb9⟩
   have HC9 := Aside0.mk (HC8.out.below hb9)
   have HD9 := Aside0.mk (HD8.out.below hb9)
   have HB9 := Aside0.mk (below_then HB8.out HB8.out.size hb9)
   clear hb9
   go_wp2_with fail
   refine (export_.calls HC9.out).mono ?_
   rintro e w10 ⟨rfl, hb10⟩
   have HC10 := Aside0.mk (HC9.out.below hb10)
   have HD10 := Aside0.mk (HD9.out.below hb10)
   have HB10 := Aside0.mk (below_then HB9.out HB9.out.size hb10)
   clear hb10
   go_wp2_with fail
   refine (export_.calls HD10.out).mono ?_
   rintro e w11 ⟨rfl, hb11⟩
   have HC11 := Aside0.mk (HC10.out.below hb11)
   have HD11 := Aside0.mk (HD10.out.below hb11)
   have HB11 := Aside0.mk (below_then HB10.out HB10.out.size hb11)
   obtain ⟨x, HEX⟩ : ∃ x, Aside0 (S.ex = x) := ⟨_, ⟨rfl⟩⟩
   rw [HEX.out]
   obtain ⟨xt, xs, xr⟩ := x
   simp only [Cn.exc]
   clear hb11
   go_wp2_with fail
   refine (waits_.calls HC11.out HRQ.out).mono ?_
   rintro e w12 ⟨A12, n12, rfl, hR12, hb12⟩
   have HR12 := Aside0.mk (Kd.R_reads' hR12)
   have HC12 := Aside0.mk (HC11.out.below hb12)
   have HD12 := Aside0.mk (HD11.out.below hb12)
   have HB12 := Aside0.mk (below_then HB11.out HB11.out.size hb12)
   clear hb12 hR12
   go_wp2_with fail
   refine (waits_.calls HD12.out HRQ.out).mono ?_
   rintro e w13 ⟨A13, n13, rfl, hR13, hb13⟩
   have HR13 := Aside0.mk (Kd.R_reads' hR13)
   have HR12B := Aside0.mk (Kd.C_below HR12.out.2.2 hb13)
   have HC13 := Aside0.mk (HC12.out.below hb13)
   have HD13 := Aside0.mk (HD12.out.below hb13)
   have HB13 := Aside0.mk (below_then HB12.out HB12.out.size hb13)
   clear hb13 hR13
   go_wp2_with fail
   refine (Cn.sameall_ (rs := S.rs) (by have := HFW.out.1; omega) HR12B.out rfl HR12.out.2.1 HR13.out.2.2 rfl HR13.out.2.1).mono ?_
   rintro e w14 ⟨rfl, hb14⟩
   have HC14 := Aside0.mk (HC13.out.below hb14)
   have HD14 := Aside0.mk (HD13.out.below hb14)
   have HB14 := Aside0.mk (below_then HB13.out HB13.out.size hb14)
   clear hb14
   go_wp2_with fail
   refine (out_.calls HC14.out).mono ?_
   rintro e w15 ⟨A15, n15, rfl, hr15, hc15, hf15⟩
   have HR15 := Aside0.mk hr15
   have HD15 := Aside0.mk (HD14.out.frame hf15 (fun k hk hh => HDIS.out k hh hk))
   have HB15 := Aside0.mk (hf15.below HB14.out HB14.out.size HOKC.out)
   clear hc15 hf15 hr15
   go_wp2_with fail
   refine (out_.calls HD15.out).mono ?_
   rintro e w16 ⟨A16, n16, rfl, hr16, hd16, hf16⟩
   have HR16 := Aside0.mk (Kd.R_reads' hr16)
   have HR15B := Aside0.mk (Kd.R_reads' (Cn.R_frame HR15.out hf16 HDIS.out))
   have HB16 := Aside0.mk (hf16.below HB15.out HB15.out.size HOKD.out)
   clear hd16 hf16 hr16
   go_wp2_with fail
   refine (Cn.sameb_ (l := S.send) HR15B.out.2.2 rfl HR15B.out.2.1 HR16.out.2.2 rfl HR16.out.2.1).mono ?_
   rintro e w17 ⟨rfl, hb17⟩
   have HB17 := Aside0.mk (below_then HB3.out HB3.out.size (below_then HB16.out HB16.out.size hb17))
   clear hb17
   go_wp2_with fail
   go_ret
   exact ⟨rfl, HB17.out⟩
end Go.Proofs.YtgljicdpcapgnaaDoor
