/- The walk of the law ReqMany. -/
import Derived.Test.YtemhlinodccokaaReqMP
import Derived.Test.YtemhlinodccokaaReqMap
import Derived.Test.YtemhlinodccokaaReqS
set_option linter.unusedVariables false
set_option linter.unusedSimpArgs false
namespace Go.Proofs.Ytemhlinodccokaa
open Go.RowKit Go.Proofs.Ytemhlinodccokaa Go.Proofs.Ytemhlinodccokaa.PBase Go.Proofs.YtemhlinodccokaaW.PrintWords Go.Proofs.YtemhlinodccokaaW.PrintLast Go.Proofs.YtemhlinodccokaaW.PrintMore Go.Proofs.Ytemhlinodccokaa.Wi
open Go.ChangeMaps Go.Maps
namespace Rw
theorem blk_get2 {w : World} {A : Option Addr} {n : Nat} {xs : List (List Int)} (h : Kd.C (Kd.slice 5 (Kd.int .u8)) w A n xs) (i : Nat) (hi : i < xs.length) (hn : xs.length = n) : ∃ ad A1 c1, A = some ad ∧ w.cell? (ad.add i) = some (.slice A1 xs[i].length c1) ∧ Kd.C (Kd.int .u8) w A1 xs[i].length xs[i] ∧ xs[i].length ≤ c1 := by
  obtain ⟨ad, c, e, _, hK, hc0⟩ := Kd.C_get h ([] : List Int) (i : Int) (by omega) (by omega)
  rw [List.getD_eq_getElem?_getD, Int.toNat_natCast, List.getElem?_eq_getElem hi] at hK
  obtain ⟨A1, c1, rfl, hl, hC⟩ := hK
  have := hc0 0 _ rfl
  rw [Int.toNat_natCast, show (Kd.slice 5 (Kd.int .u8)).sz = 1 from rfl, Nat.mul_one, Nat.add_zero] at this
  exact ⟨ad, A1, c1, e, this, hC, hl⟩
theorem num_get64 {w : World} {A : Option Addr} {n : Nat} {xs : List Int} (h : Kd.C (Kd.int .u64) w A n xs) (i : Nat) (hi : i < xs.length) (hn : xs.length = n) : ∃ ad, A = some ad ∧ w.cell? (ad.add i) = some (.int .u64 xs[i]) := by
  obtain ⟨ad, c, e, _, hK, hc0⟩ := Kd.C_get h (0 : Int) (i : Int) (by omega) (by omega)
  rw [List.getD_eq_getElem?_getD, Int.toNat_natCast, List.getElem?_eq_getElem hi] at hK
  have hK' : c = [.int .u64 xs[i]] := by cases hK; rfl
  subst hK'
  have := hc0 0 _ rfl
  rw [Int.toNat_natCast, show (Kd.int .u64).sz = 1 from rfl, Nat.mul_one, Nat.add_zero] at this
  exact ⟨ad, e, this⟩
theorem rcat_bytes : ∀ (rs : List Rq) (k : Nat), (∀ r ∈ rs, RqWf r) → Bytes (rcat rs k)
  | [], _, _ => fun x hx => by simp [rcat] at hx
  | r :: rs, k, h => by
    show Bytes (rpb 0 k r.2.2.2.2.2 ++ rcat rs (k + 1))
    exact bytes_app (rpb_bytes _ _ _ (bytes_of (h r List.mem_cons_self).2.2.2.2.2.2)) (rcat_bytes rs (k + 1) (fun q hq => h q (List.mem_cons_of_mem _ hq)))
theorem whole (m : Int → Int) (rs : List Rq) (h : ∀ j (hj : j < rs.length), m ((j : Nat) : Int) = (rs[j].2.2.2.2.2.length : Int)) (hl : rs.length ≤ 30) : repls m (rcat rs 0) [] [] [] = (List.replicate rs.length 0, (List.range' 0 rs.length).map (fun i : Nat => (i : Int)), rs.map (fun r => r.2.2.2.2.2), true) := by
  have := many_good m rs 0 [] [] [] [] (fun j hj => by rw [Nat.zero_add]; exact h j hj) (by omega)
  rw [List.append_nil] at this
  rw [this, repls_nil _ _ _ _ _ rfl]
  simp
theorem long (m : Int → Int) (rs : List Rq) (x : Int) (h : ∀ j (hj : j < rs.length), m ((j : Nat) : Int) = (rs[j].2.2.2.2.2.length : Int)) (hl : rs.length ≤ 30) : (repls m (rcat rs 0 ++ [x]) [] [] []).2.2.2 = false := by
  rw [many_good m rs 0 [x] [] [] [] (fun j hj => by rw [Nat.zero_add]; exact h j hj) (by omega)]
  exact rest_bad m [x] _ _ _ (by simp) (by simp)
theorem short (m : Int → Int) (rs : List Rq) (h : ∀ j (hj : j < rs.length), m ((j : Nat) : Int) = (rs[j].2.2.2.2.2.length : Int)) (hl : rs.length ≤ 30) (hp : 0 < rs.length) : (repls m ((rcat rs 0).take ((rcat rs 0).length - 1)) [] [] []).2.2.2 = false := by
  obtain ⟨ini, last, rfl⟩ : ∃ ini last, rs = ini ++ [last] := ⟨rs.dropLast, rs.getLast (List.ne_nil_of_length_pos hp), (List.dropLast_concat_getLast (List.ne_nil_of_length_pos hp)).symm⟩
  rw [List.length_append, List.length_singleton] at hl
  have hL := rpb_len 0 ((0 + ini.length : Nat) : Int) last.2.2.2.2.2
  have e : (rcat (ini ++ [last]) 0).take ((rcat (ini ++ [last]) 0).length - 1) = rcat ini 0 ++ (rpb 0 ((0 + ini.length : Nat) : Int) last.2.2.2.2.2).take (15 + last.2.2.2.2.2.length) := by
    rw [rcat_snoc, List.length_append, hL, List.take_append, List.take_of_length_le (by omega)]
    congr 2
    omega
  rw [e, many_good m ini 0 _ [] [] [] (fun j hj => by
    rw [Nat.zero_add]
    have := h j (by rw [List.length_append]; omega)
    rw [this, List.getElem_append_left hj]) (by omega)]
  exact short_bad m _ _ _ _ _ ⟨by omega, by omega⟩ (by
    have := h ini.length (by rw [List.length_append, List.length_singleton]; omega)
    rw [Nat.zero_add, this]
    simp)
theorem rcat_len : ∀ (rs : List Rq) (k : Nat), (∀ r ∈ rs, r.2.2.2.2.2.length ≤ 60) → (rcat rs k).length ≤ 76 * rs.length
  | [], _, _ => by simp [rcat]
  | r :: rs, k, h => by
    have h1 := rcat_len rs (k + 1) (fun q hq => h q (List.mem_cons_of_mem _ hq))
    have h2 := h r List.mem_cons_self
    have h3 := rpb_len 0 k r.2.2.2.2.2
    show (rpb 0 k r.2.2.2.2.2 ++ rcat rs (k + 1)).length ≤ _
    rw [List.length_append, List.length_cons]
    omega
/-- a map of the lengths of what these requests hold, by their places -/
def Om (W : World) (bm : Nat) (rs : List Rq) : Prop := ∃ D : DataW Unit, W.ownsMap Try.prog 25 (plainElem Try.prog 26) bm rs.length D ∧ ∀ j (hj : j < rs.length), Wi.valOf D ((j : Nat) : Int) = rs[j].2.2.2.2.2.length
theorem Om.made (W : World) : Om (W.alloc (.map #[] 0)) W.heap.size [] := ⟨_, World.ownsMap_made _ _ _ _, fun j hj => absurd hj (Nat.not_lt_zero _)⟩
theorem Om.kept {W W' : World} {bm : Nat} {rs : List Rq} {row : Option Nat} (h : Om W bm rs) (hg : W.grownBy W' row) (hne : some bm ≠ row) : Om W' bm rs := by
  obtain ⟨D, h1, h2⟩ := h
  exact ⟨D, h1.kept hg hne, h2⟩
theorem Om.map {W : World} {bm : Nat} {rs : List Rq} (h : Om W bm rs) : ∃ m : Int → Int, Wi.Map W (.map (some bm)) m ∧ ∀ j (hj : j < rs.length), m ((j : Nat) : Int) = rs[j].2.2.2.2.2.length := by
  obtain ⟨D, h1, h2⟩ := h
  exact ⟨_, Wi.Map_of_owns h1, h2⟩
theorem Om.lt {W : World} {bm : Nat} {rs : List Rq} (h : Om W bm rs) : bm < W.heap.size := by
  obtain ⟨D, h1, _⟩ := h
  exact h1.lt
theorem Om.not_cells {W : World} {bm : Nat} {rs : List Rq} (h : Om W bm rs) {cs : Array Value} {t : TypeId} {p : Nat × Nat} : W.heap[bm]? ≠ some (.cells cs t p) := by
  obtain ⟨D, ⟨es, clock, hb, _⟩, _⟩ := h
  rw [hb]
  intro h
  injection h with h
  cases h
theorem valOf_put_same {D : DataW Unit} (hD : Go.Maps.IsMap D) (k L : Int) (hw : (Lit.int .u32 L).wf = true) : Wi.valOf (D.put (.int .u64 k) (.lit (.int .u32 L))) k = L :=
  Wi.valOf_is (Go.Maps.atKey_put_same hD (show WideAt.IsKeyLit (.int .u64 k) from trivial) _ _) hw
theorem valOf_put_other {D : DataW Unit} (k k' L : Int) (hne : k' ≠ k) : Wi.valOf (D.put (.int .u64 k) (.lit (.int .u32 L))) k' = Wi.valOf D k' := by
  unfold Wi.valOf
  rw [Go.Maps.atKey_put_other (fun h => hne (by injection h))]
theorem Om.put {W : World} {bm : Nat} {rs : List Rq} {r : Rq} {D : DataW Unit} (h : W.ownsMap Try.prog 25 (plainElem Try.prog 26) bm (rs.length + 1) (D.put (.int .u64 (rs.length : Int)) (.lit (.int .u32 (r.2.2.2.2.2.length : Int))))) (hD : Go.Maps.IsMap D) (h2 : ∀ j (hj : j < rs.length), Wi.valOf D ((j : Nat) : Int) = rs[j].2.2.2.2.2.length) (hl : r.2.2.2.2.2.length < 4294967296) : Om W bm (rs ++ [r]) := by
  refine ⟨_, by rw [List.length_append]; exact h, fun j hj => ?_⟩
  rw [List.length_append, List.length_singleton] at hj
  by_cases he : j = rs.length
  · subst he
    rw [valOf_put_same hD _ _ (Wi.wf32 (by omega) (by omega))]
    simp
  · rw [valOf_put_other _ _ _ (by omega), h2 j (by omega), List.getElem_append_left (by omega)]
end Rw
set_option maxHeartbeats 3000000 in
set_option maxRecDepth 100000 in
theorem reqMany_.calls (x0 : List Rq) (v0 : Value) (x1 : Int) (v1 : Value) (W : World) (hK0 : (Kd.slice 28 kRq).K W x0 [v0]) (hw0 : x0.length ≤ maxLen ∧ ∀ x ∈ x0, RqWf x) (hK1 : (Kd.int .u8).K W x1 [v1]) (hw1 : (Lit.int .u8 x1).wf = true) :
    Calls Try.prog 7 #[v0, v1] W fun e w' => e = .returned (.bool true) ∧ Below W.heap.size W w' := by
  obtain ⟨A, c, he0, hlc, hC⟩ := hK0
  obtain rfl : v0 = .slice A x0.length c := by simpa using he0
  obtain rfl : v1 = .int .u8 x1 := by cases hK1; rfl
  have HC := Aside0.mk hC
  have HWF := Aside0.mk hw0.2
  have HW1 := Aside0.mk hw1
  obtain ⟨n, HN⟩ : ∃ n, Aside0 (x0.length = n) := ⟨_, ⟨rfl⟩⟩
  rw [HN.out]
  clear hw0 hC hlc he0 hK1 hw1
  by_cases h30 : n ≤ 30
  · have h30i : (n : Int) ≤ 30 := by omega
    go_enter Try.func7, Try.ntmps7
    go_wp2_with fail
    refine (kn_.calls W).mono ?_
    rintro e w1 ⟨rfl, hb⟩
    have HB1 := Aside0.mk hb
    clear hb
    have hmm := @run_makeMap Try.prog
    go_wp2_with fail
    clear hmm
    obtain ⟨bm, HBM⟩ : ∃ b, Aside0 (w1.heap.size = b) := ⟨_, ⟨rfl⟩⟩
    have HO1 : Aside0 (Rw.Om (w1.alloc (.map #[] 0)) bm []) := ⟨by rw [← HBM.out]; exact Rw.Om.made w1⟩
    have HBW : Aside0 (W.heap.size ≤ bm) := ⟨by rw [← HBM.out]; exact HB1.out.size⟩
    have HB2 : Aside0 (Below W.heap.size W (w1.alloc (.map #[] 0))) := ⟨HB1.out.alloc HB1.out.size _⟩
    rw [HBM.out]
    go_loopw [5, 7] (fun v i wr => ∃ k : Nat, i = .int .i64 k ∧ k ≤ n ∧ Aside0 (Kd.R (Kd.int .u8) 5 wr W.heap.size (fun j => j ≠ bm) v (Rw.rcat (x0.take k) 0)) ∧ Aside0 (Below W.heap.size W wr) ∧ Aside0 (Rw.Om wr bm (x0.take k)) ∧ Aside0 (∀ r ∈ x0.take k, r.2.2.2.2.2.length ≤ 60)) (fun _ i _ => n - (intOf i).toNat)
    case atStart => exact ⟨0, rfl, Nat.zero_le _, ⟨Kd.R_nil _ _ _ _ _⟩, HB2, HO1, ⟨by simp⟩⟩
    case round =>
      obtain ⟨k, rfl, hk, HR, HB, HO, HD⟩ := hrel
      clear HB1 HB2 HO1
      by_cases hlt : k < n
      · have hltI : (k : Int) < n := by omega
        have hki : k < x0.length := by rw [HN.out]; exact hlt
        obtain ⟨ad, A1, c1, hA, -, hKr, -, -, hcw⟩ := Rw.row_get HC.out k hki rfl
        subst hA
        have HTK := Aside0.mk (List.take_succ_eq_append_getElem hki)
        obtain ⟨r, HRK⟩ : ∃ r, Aside0 (x0[k] = r) := ⟨_, ⟨rfl⟩⟩
        rw [HRK.out] at hKr hcw HTK
        obtain ⟨data, HDT⟩ : ∃ d, Aside0 (r.2.2.2.2.2 = d) := ⟨_, ⟨rfl⟩⟩
        obtain ⟨md, HMD⟩ : ∃ m, Aside0 (data.length = m) := ⟨_, ⟨rfl⟩⟩
        have HCW : Aside0 (Kd.C (Kd.int .u8) W A1 md data ∧ md ≤ c1) := ⟨by
          obtain ⟨A', c', he, hl', hC'⟩ := rq_cells hKr
          simp only [Rw.rqc, List.cons.injEq, Value.slice.injEq, and_true, true_and] at he
          rw [HDT.out, HMD.out] at hC' hl'
          obtain ⟨rfl, rfl⟩ := he
          exact ⟨hC', hl'⟩⟩
        rw [HDT.out, HMD.out] at hcw
        have HCELL : Aside0 (∀ w', Below W.heap.size W w' → w'.cell? ⟨(ad.add (k * 6)).block, (ad.add (k * 6)).off + 5, none⟩ = some (.slice A1 md c1)) := ⟨fun w' hb => (hb.cell (World.block_lt_of_cell? W _ hcw)).trans hcw⟩
        have hcell := HCELL.out wr HB.out
        clear hKr hcw
        by_cases h60 : (md : Int) > 60
        · go_wp2_with fail
          go_ret
          exact ⟨rfl, HB.out⟩
        · have hmd : md ≤ 60 := by omega
          have HLK : Aside0 ((x0.take k).length = k) := ⟨by rw [List.length_take]; omega⟩
          go_wp2_with fail
          have hrep := req_Reply.calls 1000 0 k A1 c1 data (rpb 0 k data) wr (by rw [HMD.out]; exact Kd.C_below HCW.out.1 HB.out) (by rw [HMD.out]; exact HCW.out.2) (reply_is 1000 (Nat.le_refl _) 0 k data (by omega) (by rw [HMD.out]; omega))
          rw [HMD.out] at hrep
          refine hrep.mono ?_
          clear hrep
          rintro e w2 ⟨v2, rfl, hR2, hb2⟩
          obtain ⟨A2, c2, rfl, hl2, hC2⟩ := Kd.R_reads hR2
          obtain ⟨nb, HNB⟩ : ∃ n, Aside0 ((rpb 0 k data).length = n) := ⟨_, ⟨rfl⟩⟩
          rw [HNB.out] at hC2 ⊢
          have HC2 := Aside0.mk hC2
          have HR2 := Aside0.mk (Kd.R_below HR.out hb2)
          have HB2 := Aside0.mk (below_then HB.out HB.out.size hb2)
          have HO2 := Aside0.mk (HO.out.kept (grown_of_below hb2 none) (by simp))
          have HFR : Aside0 (∀ j, w2.heap.size ≤ j → j ≠ bm) := ⟨fun j hj he => by have := HO2.out.lt; omega⟩
          have HNE : Aside0 (some bm ≠ u5.ownBlock) := ⟨fun he => HR2.out.1 bm he.symm rfl⟩
          have HAL : Aside0 (((Rw.rcat (x0.take k) 0).length + nb) * 1 ≤ 140737488355328) := ⟨by
            have h1 := Rw.rcat_len (x0.take k) 0 HD.out
            have h2 := rpb_len 0 k data
            rw [HLK.out] at h1
            rw [HNB.out, HMD.out] at h2
            omega⟩
          have HK5 : Aside0 (keyOf Try.prog 25 (.int .u64 (k : Int)) = some (.int .u64 (k : Int))) := ⟨keyOf_int_mk Try.underlying25 (Wi.wf64 (by omega) (by omega))⟩
          have HE4 : Aside0 (plainElem (H := Unit) Try.prog 26 (.int .u32 (md : Int)) = some (.lit (.int .u32 (md : Int)), [])) := ⟨plainElem_int Try.underlying26 (Wi.wf32 (by omega) (by omega))⟩
          have HML : Aside0 ((x0.take k).length < maxLen) := ⟨by rw [HLK.out]; unfold maxLen; omega⟩
          have HD2 : Aside0 (∀ r ∈ x0.take (k + 1), r.2.2.2.2.2.length ≤ 60) := ⟨fun q hq => by
            rw [HTK.out] at hq
            rcases List.mem_append.1 hq with h | h
            · exact HD.out q h
            · rw [List.mem_singleton.1 h, HDT.out, HMD.out]; exact hmd⟩
          clear hR2 hb2 hl2 hC2 HR HB HO HD hcell
          go_wp2_with (first
            | (at_builtin; refine Kd.R_append_rows (Kd.int .u8) (w0 := W) W.heap.size rfl (.tmp 43) (.tmp 51) 22 5 (.int .u8 0) 1 rfl Try.underlying22 Rw.infoByte rfl (by decide) (by omega) u5 (Rw.rcat (x0.take k) 0) (rpb 0 k data) A2 nb c2 (fun j => j ≠ bm) (fun _ => False) rfl rfl HR2.out HC2.out (fun _ _ h => h) (fun _ h => h.elim) HFR.out HB2.out HB2.out.size HAL.out ?_; intro v3 w3 ho hb hg _; have HR3 := Aside0.mk ho; have HB3 := Aside0.mk hb; have hcell3 := HCELL.out w3 hb; obtain ⟨D, hown, hval⟩ := HO2.out.kept hg HNE.out; have HOW := Aside0.mk hown; have HVAL := Aside0.mk hval; clear ho hb hg hown hval)
            | (refine wpList_mapUpdate_own w3 rfl (.tmp 53) (.tmp 55) (.tmp 62) 41 rfl 25 26 Wi.law Try.underlying41 (plainElem (H := Unit) Try.prog 26) bm (x0.take k).length D rfl HOW.out HML.out (.int .u64 (k : Int)) (.int .u32 (md : Int)) (.int .u64 (k : Int)) rfl rfl HK5.out (.lit (.int .u32 (md : Int))) [] HE4.out ?_; intro w4 ho hg; have HO4 := Aside0.mk ho; have HG4 := Aside0.mk hg; clear ho hg hcell3))
          have HR4 := Aside0.mk (Kd.R_grown HR3.out HG4.out (fun j hj he => hj (by injection he)))
          have HB4 := Aside0.mk (HB3.out.grown HG4.out HB3.out.size (fun j hj => by cases hj; exact HBW.out))
          have HIM : Go.Maps.IsMap D := by
            obtain ⟨es, clock, _, _, _, h⟩ := HOW.out
            exact ⟨_, h⟩
          have HOF : Aside0 (Rw.Om w4 bm (x0.take (k + 1))) := ⟨by
            rw [HTK.out]
            refine Rw.Om.put (D := D) ?_ HIM HVAL.out (by rw [HDT.out, HMD.out]; omega)
            rw [HDT.out, HMD.out, HLK.out]
            have := HO4.out
            rw [HLK.out] at this
            exact this⟩
          have HRF : Aside0 (Kd.R (Kd.int .u8) 5 w4 W.heap.size (fun j => j ≠ bm) v3 (Rw.rcat (x0.take (k + 1)) 0)) := ⟨by
            rw [HTK.out, Rw.rcat_snoc, HLK.out, HDT.out, Nat.zero_add]
            exact HR4.out⟩
          clear HR3 HR4 HB3 HOW HVAL HO4 HG4 HIM
          go_roundw
          case rel => exact ⟨k + 1, by go_num, by omega, HRF, HB4, HOF, HD2⟩
          case measure => simp [intOf]; omega
      · obtain rfl : n = k := by omega
        have HTA : Aside0 (x0.take n = x0) := ⟨by rw [← HN.out]; exact List.take_length⟩
        rw [HTA.out] at HR HD HO
        obtain ⟨A3, c3, rfl, hl3, hC3⟩ := Kd.R_reads HR.out
        obtain ⟨mm, hmap, hm⟩ := HO.out.map
        obtain ⟨nB, HNB⟩ : ∃ n, Aside0 ((Rw.rcat x0 0).length = n) := ⟨_, ⟨rfl⟩⟩
        have HC3 := Aside0.mk hC3
        have HL3 := Aside0.mk hl3
        have HMAP := Aside0.mk hmap
        have HMM := Aside0.mk hm
        have HLB : Aside0 (nB ≤ 2280) := ⟨by have h1 := Rw.rcat_len x0 0 HD.out; rw [HNB.out, HN.out] at h1; omega⟩
        have HBY := Aside0.mk (Rw.rcat_bytes x0 0 HWF.out)
        clear hl3 hC3 hmap hm HR HO
        have h1 := replies_.calls mm A3 c3 (Rw.rcat x0 0) (some bm) wr HC3.out HL3.out (by rw [HNB.out]; have := HLB.out; omega) HBY.out HMAP.out
        rw [Rw.whole mm x0 HMM.out (by rw [HN.out]; exact h30), HNB.out] at h1
        rw [HNB.out]
        go_wp2_with fail
        refine h1.mono ?_
        clear h1
        rintro e w2 ⟨v5, v6, v7, rfl, hR5, hR6, hR7, hb2⟩
        obtain ⟨A5, c5, rfl, hl5, hC5⟩ := Kd.R_reads hR5
        obtain ⟨A6, c6, rfl, hl6, hC6⟩ := Kd.R_reads hR6
        obtain ⟨A7, c7, rfl, hl7, hC7⟩ := Kd.R_reads hR7
        have e5 : (List.replicate x0.length (0 : Int)).length = n := by rw [List.length_replicate]; exact HN.out
        have e6 : ((List.range' 0 x0.length).map (fun i : Nat => (i : Int))).length = n := by rw [List.length_map, List.length_range']; exact HN.out
        have e7 : (x0.map (fun r : Rq => r.2.2.2.2.2)).length = n := by rw [List.length_map]; exact HN.out
        rw [e5] at hC5 ⊢
        rw [e6] at hC6 ⊢
        rw [e7] at hC7 ⊢
        have HC5 := Aside0.mk hC5
        have HC6 := Aside0.mk hC6
        have HC7 := Aside0.mk hC7
        have HE := Aside0.mk (And.intro e5 (And.intro e6 e7))
        have HB2 := Aside0.mk (below_then HB.out HB.out.size hb2)
        have HB02 := Aside0.mk hb2
        clear hR5 hR6 hR7 hl5 hl6 hl7 hC5 hC6 hC7 e5 e6 e7 hb2
        go_wp2_with fail
        go_loopw [12] (fun i wq => ∃ j : Nat, i = .int .i64 j ∧ j ≤ n ∧ Aside0 (Below w2.heap.size w2 wq)) (fun i _ => n - (intOf i).toNat)
        case atStart => exact ⟨0, rfl, Nat.zero_le _, ⟨Below.refl _ _⟩⟩
        case round =>
          obtain ⟨j, rfl, hj, HBq⟩ := hrel
          by_cases hlj : j < n
          · have hljI : (j : Int) < n := by omega
            have hji : j < x0.length := by rw [HN.out]; exact hlj
            have HW2 := Aside0.mk (below_then HB2.out HB2.out.size HBq.out)
            obtain ⟨a5, hA5, q5⟩ := Rw.num_get (Kd.C_below HC5.out HBq.out) j (by rw [HE.out.1]; exact hlj) HE.out.1
            obtain ⟨a6, hA6, q6⟩ := Rw.num_get64 (Kd.C_below HC6.out HBq.out) j (by rw [HE.out.2.1]; exact hlj) HE.out.2.1
            obtain ⟨a7, A9, c9, hA7, q7, hC9, h9⟩ := Rw.blk_get2 (Kd.C_below HC7.out HBq.out) j (by rw [HE.out.2.2]; exact hlj) HE.out.2.2
            obtain ⟨ad, A1, c1, hA, -, hKr, -, -, q8⟩ := Rw.row_get (Kd.C_below HC.out HW2.out) j hji rfl
            rw [List.getElem_replicate] at q5
            rw [List.getElem_map, List.getElem_range', Nat.zero_add, Nat.one_mul] at q6
            rw [List.getElem_map] at q7 hC9 h9
            subst hA5
            subst hA6
            subst hA7
            subst hA
            obtain ⟨r, HRK⟩ : ∃ r, Aside0 (x0[j] = r) := ⟨_, ⟨rfl⟩⟩
            rw [HRK.out] at q7 q8 hC9 hKr h9
            obtain ⟨md, HMD⟩ : ∃ m, Aside0 (r.2.2.2.2.2.length = m) := ⟨_, ⟨rfl⟩⟩
            have HSM : Aside0 (∀ w', Below wr.heap.size wr w' → md ≤ c9 → Calls Try.prog 15 #[.slice A9 md c9, .slice A1 md c1] w' fun e w'' => e = .returned (.bool true) ∧ Below w'.heap.size w' w'') := ⟨fun w' hb h9 => by
              obtain ⟨A', c', he, hl', hC'⟩ := rq_cells hKr
              simp only [Rw.rqc, List.cons.injEq, Value.slice.injEq, and_true, true_and] at he
              obtain ⟨rfl, rfl⟩ := he
              have := samebs_.calls (w := w') (l := r.2.2.2.2.2) (c := c9) (c' := c1) (Kd.C_below hC9 hb) (by rw [HMD.out]; exact h9) (Kd.C_below hC' hb) hl'
              rw [HMD.out] at this
              exact this⟩
            rw [HMD.out] at q7 q8 h9
            have HQ5 := Aside0.mk q5
            have HQ6 := Aside0.mk q6
            have HQ7 := Aside0.mk q7
            have HQ8 := Aside0.mk q8
            have H9 := Aside0.mk h9
            clear q5 q6 q7 q8 hC9 hKr h9
            go_wp2_with fail
            refine wp_region_noPanic ?_
            refine start_ (n := 27) (S := (fun w' => Below wr.heap.size wr w')) (ds := [24]) #[false, false, false, false, false, false, false, false, false, false, false, false, false, false, false, false, false, false, false, false, false, false, false, false, false, false, false] (by kernel_rfl) rfl rfl (Below.refl _ _).drew (fun hHeld => ?_)
            refine pure_ (i := 0) (N := (some 100)) (v := ?_) (a' := ?_) #[true, false, false, false, false, false, false, false, false, false, false, false, false, false, false, false, false, false, false, false, false, false, false, false, false, false, false] rfl rfl (by kernel_rfl) (fun _ _ _ h => h) (Or.inl ⟨by rfl, ?_⟩) ?_ ?_
            rotate_left
            · intro w'
              go_simp
              with_reducible rfl
            rotate_left
            · simp only [Act.put, List.setIfInBounds_toArray, List.set_cons_zero, List.set_cons_succ]
              rfl
            refine pure_ (i := 1) (N := (some 101)) (v := ?_) (a' := ?_) #[true, true, false, false, false, false, false, false, false, false, false, false, false, false, false, false, false, false, false, false, false, false, false, false, false, false, false] rfl rfl (by kernel_rfl) (fun _ _ _ h => h) (Or.inl ⟨by rfl, ?_⟩) ?_ ?_
            rotate_left
            · intro w'
              go_simp
              with_reducible rfl
            rotate_left
            · simp only [Act.put, List.setIfInBounds_toArray, List.set_cons_zero, List.set_cons_succ]
              rfl
            refine pure_ (i := 2) (N := (some 102)) (v := ?_) (a' := ?_) #[true, true, true, false, false, false, false, false, false, false, false, false, false, false, false, false, false, false, false, false, false, false, false, false, false, false, false] rfl rfl (by kernel_rfl) (fun _ _ _ h => h) (Or.inl ⟨by rfl, ?_⟩) ?_ ?_
            rotate_left
            · intro w'
              go_simp
              with_reducible rfl
            rotate_left
            · simp only [Act.put, List.setIfInBounds_toArray, List.set_cons_zero, List.set_cons_succ]
              rfl
            refine take_ (i := 3) (N := (some 103)) (v := ?_) (a' := ?_) #[true, true, true, true, false, false, false, false, false, false, false, false, false, false, false, false, false, false, false, false, false, false, false, false, false, false, false] rfl rfl (by kernel_rfl) (fun _ _ _ h => h) (Or.inl ⟨by rfl, ?_⟩) hHeld ?_ ?_
            rotate_left
            · intro w' hS'
              (have q1 := (hS'.cell (World.block_lt_of_cell? wr _ HQ5.out)).trans HQ5.out; go_simp)
              with_reducible rfl
            rotate_left
            · simp only [Act.put, List.setIfInBounds_toArray, List.set_cons_zero, List.set_cons_succ]
              rfl
            refine pure_ (i := 4) (N := (some 104)) (v := ?_) (a' := ?_) #[true, true, true, true, true, false, false, false, false, false, false, false, false, false, false, false, false, false, false, false, false, false, false, false, false, false, false] rfl rfl (by kernel_rfl) (fun _ _ _ h => h) (Or.inl ⟨by rfl, ?_⟩) ?_ ?_
            rotate_left
            · intro w'
              go_simp
              with_reducible rfl
            rotate_left
            · simp only [Act.put, List.setIfInBounds_toArray, List.set_cons_zero, List.set_cons_succ]
              rfl
            refine pure_ (i := 5) (N := (some 105)) (v := ?_) (a' := ?_) #[true, true, true, true, true, true, false, false, false, false, false, false, false, false, false, false, false, false, false, false, false, false, false, false, false, false, false] rfl rfl (by kernel_rfl) (fun _ _ _ h => h) (Or.inl ⟨by rfl, ?_⟩) ?_ ?_
            rotate_left
            · intro w'
              go_simp
              with_reducible rfl
            rotate_left
            · simp only [Act.put, List.setIfInBounds_toArray, List.set_cons_zero, List.set_cons_succ]
              rfl
            refine pure_ (i := 6) (N := (some 106)) (v := ?_) (a' := ?_) #[true, true, true, true, true, true, true, false, false, false, false, false, false, false, false, false, false, false, false, false, false, false, false, false, false, false, false] rfl rfl (by kernel_rfl) (fun _ _ _ h => h) (Or.inl ⟨by rfl, ?_⟩) ?_ ?_
            rotate_left
            · intro w'
              go_simp
              with_reducible rfl
            rotate_left
            · simp only [Act.put, List.setIfInBounds_toArray, List.set_cons_zero, List.set_cons_succ]
              rfl
            refine pure_ (i := 7) (N := (some 107)) (v := ?_) (a' := ?_) #[true, true, true, true, true, true, true, true, false, false, false, false, false, false, false, false, false, false, false, false, false, false, false, false, false, false, false] rfl rfl (by kernel_rfl) (fun _ _ _ h => h) (Or.inl ⟨by rfl, ?_⟩) ?_ ?_
            rotate_left
            · intro w'
              go_simp
              with_reducible rfl
            rotate_left
            · simp only [Act.put, List.setIfInBounds_toArray, List.set_cons_zero, List.set_cons_succ]
              rfl
            refine pure_ (i := 8) (N := (some 108)) (v := ?_) (a' := ?_) #[true, true, true, true, true, true, true, true, true, false, false, false, false, false, false, false, false, false, false, false, false, false, false, false, false, false, false] rfl rfl (by kernel_rfl) (fun _ _ _ h => h) (Or.inl ⟨by rfl, ?_⟩) ?_ ?_
            rotate_left
            · intro w'
              go_simp
              with_reducible rfl
            rotate_left
            · simp only [Act.put, List.setIfInBounds_toArray, List.set_cons_zero, List.set_cons_succ]
              rfl
            refine take_ (i := 9) (N := (some 109)) (v := ?_) (a' := ?_) #[true, true, true, true, true, true, true, true, true, true, false, false, false, false, false, false, false, false, false, false, false, false, false, false, false, false, false] rfl rfl (by kernel_rfl) (fun _ _ _ h => h) (Or.inl ⟨by rfl, ?_⟩) hHeld ?_ ?_
            rotate_left
            · intro w' hS'
              (have q1 := (hS'.cell (World.block_lt_of_cell? wr _ HQ6.out)).trans HQ6.out; go_simp)
              with_reducible rfl
            rotate_left
            · simp only [Act.put, List.setIfInBounds_toArray, List.set_cons_zero, List.set_cons_succ]
              rfl
            refine pure_ (i := 10) (N := (some 110)) (v := ?_) (a' := ?_) #[true, true, true, true, true, true, true, true, true, true, true, false, false, false, false, false, false, false, false, false, false, false, false, false, false, false, false] rfl rfl (by kernel_rfl) (fun _ _ _ h => h) (Or.inl ⟨by rfl, ?_⟩) ?_ ?_
            rotate_left
            · intro w'
              go_simp
              with_reducible rfl
            rotate_left
            · simp only [Act.put, List.setIfInBounds_toArray, List.set_cons_zero, List.set_cons_succ]
              rfl
            refine pure_ (i := 11) (N := (some 111)) (v := ?_) (a' := ?_) #[true, true, true, true, true, true, true, true, true, true, true, true, false, false, false, false, false, false, false, false, false, false, false, false, false, false, false] rfl rfl (by kernel_rfl) (fun _ _ _ h => h) (Or.inl ⟨by rfl, ?_⟩) ?_ ?_
            rotate_left
            · intro w'
              (have q1 := IntWalk.u64_in (j : Int) (by omega); go_simp)
              with_reducible rfl
            rotate_left
            · simp only [Act.put, List.setIfInBounds_toArray, List.set_cons_zero, List.set_cons_succ]
              rfl
            refine pure_ (i := 12) (N := (some 112)) (v := ?_) (a' := ?_) #[true, true, true, true, true, true, true, true, true, true, true, true, true, false, false, false, false, false, false, false, false, false, false, false, false, false, false] rfl rfl (by kernel_rfl) (fun _ _ _ h => h) (Or.inl ⟨by rfl, ?_⟩) ?_ ?_
            rotate_left
            · intro w'
              go_simp
              with_reducible rfl
            rotate_left
            · simp only [Act.put, List.setIfInBounds_toArray, List.set_cons_zero, List.set_cons_succ]
              rfl
            refine pure_ (i := 13) (N := (some 113)) (v := ?_) (a' := ?_) #[true, true, true, true, true, true, true, true, true, true, true, true, true, true, false, false, false, false, false, false, false, false, false, false, false, false, false] rfl rfl (by kernel_rfl) (fun _ _ _ h => h) (Or.inl ⟨by rfl, ?_⟩) ?_ ?_
            rotate_left
            · intro w'
              go_simp
              with_reducible rfl
            rotate_left
            · simp only [Act.put, List.setIfInBounds_toArray, List.set_cons_zero, List.set_cons_succ]
              rfl
            refine pure_ (i := 14) (N := (some 114)) (v := ?_) (a' := ?_) #[true, true, true, true, true, true, true, true, true, true, true, true, true, true, true, false, false, false, false, false, false, false, false, false, false, false, false] rfl rfl (by kernel_rfl) (fun _ _ _ h => h) (Or.inl ⟨by rfl, ?_⟩) ?_ ?_
            rotate_left
            · intro w'
              go_simp
              with_reducible rfl
            rotate_left
            · simp only [Act.put, List.setIfInBounds_toArray, List.set_cons_zero, List.set_cons_succ]
              rfl
            refine pure_ (i := 15) (N := (some 115)) (v := ?_) (a' := ?_) #[true, true, true, true, true, true, true, true, true, true, true, true, true, true, true, true, false, false, false, false, false, false, false, false, false, false, false] rfl rfl (by kernel_rfl) (fun _ _ _ h => h) (Or.inl ⟨by rfl, ?_⟩) ?_ ?_
            rotate_left
            · intro w'
              go_simp
              with_reducible rfl
            rotate_left
            · simp only [Act.put, List.setIfInBounds_toArray, List.set_cons_zero, List.set_cons_succ]
              rfl
            refine pure_ (i := 16) (N := (some 116)) (v := ?_) (a' := ?_) #[true, true, true, true, true, true, true, true, true, true, true, true, true, true, true, true, true, false, false, false, false, false, false, false, false, false, false] rfl rfl (by kernel_rfl) (fun _ _ _ h => h) (Or.inl ⟨by rfl, ?_⟩) ?_ ?_
            rotate_left
            · intro w'
              go_simp
              with_reducible rfl
            rotate_left
            · simp only [Act.put, List.setIfInBounds_toArray, List.set_cons_zero, List.set_cons_succ]
              rfl
            refine pure_ (i := 17) (N := (some 117)) (v := ?_) (a' := ?_) #[true, true, true, true, true, true, true, true, true, true, true, true, true, true, true, true, true, true, false, false, false, false, false, false, false, false, false] rfl rfl (by kernel_rfl) (fun _ _ _ h => h) (Or.inl ⟨by rfl, ?_⟩) ?_ ?_
            rotate_left
            · intro w'
              go_simp
              with_reducible rfl
            rotate_left
            · simp only [Act.put, List.setIfInBounds_toArray, List.set_cons_zero, List.set_cons_succ]
              rfl
            refine take_ (i := 18) (N := (some 118)) (v := ?_) (a' := ?_) #[true, true, true, true, true, true, true, true, true, true, true, true, true, true, true, true, true, true, true, false, false, false, false, false, false, false, false] rfl rfl (by kernel_rfl) (fun _ _ _ h => h) (Or.inl ⟨by rfl, ?_⟩) hHeld ?_ ?_
            rotate_left
            · intro w' hS'
              (have q1 := (hS'.cell (World.block_lt_of_cell? wr _ HQ7.out)).trans HQ7.out; go_simp)
              with_reducible rfl
            rotate_left
            · simp only [Act.put, List.setIfInBounds_toArray, List.set_cons_zero, List.set_cons_succ]
              rfl
            refine pure_ (i := 19) (N := (some 119)) (v := ?_) (a' := ?_) #[true, true, true, true, true, true, true, true, true, true, true, true, true, true, true, true, true, true, true, true, false, false, false, false, false, false, false] rfl rfl (by kernel_rfl) (fun _ _ _ h => h) (Or.inl ⟨by rfl, ?_⟩) ?_ ?_
            rotate_left
            · intro w'
              go_simp
              with_reducible rfl
            rotate_left
            · simp only [Act.put, List.setIfInBounds_toArray, List.set_cons_zero, List.set_cons_succ]
              rfl
            refine pure_ (i := 20) (N := (some 120)) (v := ?_) (a' := ?_) #[true, true, true, true, true, true, true, true, true, true, true, true, true, true, true, true, true, true, true, true, true, false, false, false, false, false, false] rfl rfl (by kernel_rfl) (fun _ _ _ h => h) (Or.inl ⟨by rfl, ?_⟩) ?_ ?_
            rotate_left
            · intro w'
              go_simp
              with_reducible rfl
            rotate_left
            · simp only [Act.put, List.setIfInBounds_toArray, List.set_cons_zero, List.set_cons_succ]
              rfl
            refine pure_ (i := 21) (N := (some 121)) (v := ?_) (a' := ?_) #[true, true, true, true, true, true, true, true, true, true, true, true, true, true, true, true, true, true, true, true, true, true, false, false, false, false, false] rfl rfl (by kernel_rfl) (fun _ _ _ h => h) (Or.inl ⟨by rfl, ?_⟩) ?_ ?_
            rotate_left
            · intro w'
              go_simp
              with_reducible rfl
            rotate_left
            · simp only [Act.put, List.setIfInBounds_toArray, List.set_cons_zero, List.set_cons_succ]
              rfl
            refine pure_ (i := 22) (N := (some 122)) (v := ?_) (a' := ?_) #[true, true, true, true, true, true, true, true, true, true, true, true, true, true, true, true, true, true, true, true, true, true, true, false, false, false, false] rfl rfl (by kernel_rfl) (fun _ _ _ h => h) (Or.inl ⟨by rfl, ?_⟩) ?_ ?_
            rotate_left
            · intro w'
              go_simp
              with_reducible rfl
            rotate_left
            · simp only [Act.put, List.setIfInBounds_toArray, List.set_cons_zero, List.set_cons_succ]
              rfl
            refine take_ (i := 23) (N := (some 123)) (v := ?_) (a' := ?_) #[true, true, true, true, true, true, true, true, true, true, true, true, true, true, true, true, true, true, true, true, true, true, true, true, false, false, false] rfl rfl (by kernel_rfl) (fun _ _ _ h => h) (Or.inl ⟨by rfl, ?_⟩) hHeld ?_ ?_
            rotate_left
            · intro w' hS'
              (have q1 := (hS'.cell (World.block_lt_of_cell? wr _ HQ8.out)).trans HQ8.out; go_simp)
              with_reducible rfl
            rotate_left
            · simp only [Act.put, List.setIfInBounds_toArray, List.set_cons_zero, List.set_cons_succ]
              rfl
            refine last_ (i := 24) (N := (some 124)) #[true, true, true, true, true, true, true, true, true, true, true, true, true, true, true, true, true, true, true, true, true, true, true, true, true, false, false] rfl rfl (by kernel_rfl) (by decide) (fun K hK => ?_)
            refine call_ 15 #[.slice A9 md c9, .slice A1 md c1] (by rfl) rfl (by go_simp) ?_
            have hd : Below wr.heap.size wr wr.drew := (Below.refl _ _).drew
            refine (HSM.out _ hd H9.out).mono ?_
            rintro e w6 ⟨rfl, hb6⟩
            have HB6 := Aside0.mk (below_then hd hd.size hb6)
            refine ⟨_, rfl, ?_⟩
            refine hK.out _ _ ?_
            clear hK K
            refine norm_ (a' := ?_) ?_ ?_
            rotate_left
            · show Act.put _ (some 124) _ = _
              simp only [Act.put, List.setIfInBounds_toArray, List.set_cons_zero, List.set_cons_succ]
              rfl
            refine pure_ (i := 25) (N := (some 125)) (v := ?_) (a' := ?_) #[true, true, true, true, true, true, true, true, true, true, true, true, true, true, true, true, true, true, true, true, true, true, true, true, true, true, false] rfl rfl (by kernel_rfl) (fun _ _ _ h => h) (Or.inl ⟨by rfl, ?_⟩) ?_ ?_
            rotate_left
            · intro w'
              go_simp
              with_reducible rfl
            rotate_left
            · simp only [Act.put, List.setIfInBounds_toArray, List.set_cons_zero, List.set_cons_succ]
              rfl
            refine pure_ (i := 26) (N := (some 126)) (v := ?_) (a' := ?_) #[true, true, true, true, true, true, true, true, true, true, true, true, true, true, true, true, true, true, true, true, true, true, true, true, true, true, true] rfl rfl (by kernel_rfl) (fun _ _ _ h => h) (Or.inl ⟨by rfl, ?_⟩) ?_ ?_
            rotate_left
            · intro w'
              go_simp
              with_reducible rfl
            rotate_left
            · simp only [Act.put, List.setIfInBounds_toArray, List.set_cons_zero, List.set_cons_succ]
              rfl
            refine done_ (by kernel_rfl) ?_
            refine NoPanic.normal ?_
            go_wp2_with fail
            go_roundw
            case rel => exact ⟨j + 1, by go_num, by omega, ⟨below_then HBq.out HBq.out.size HB6.out⟩⟩
            case measure => simp [intOf]; omega
          · obtain rfl : n = j := by omega
            have HW2 := Aside0.mk (below_then HB2.out HB2.out.size HBq.out)
            have HBr := Aside0.mk (below_then HB02.out HB02.out.size HBq.out)
            have HCr := Aside0.mk (Kd.C_below HC3.out HBr.out)
            have HMr := Aside0.mk (HMAP.out.below HBr.out)
            have hlent := lent_.calls (w := wr) (A := A3) (c := c3) (l := Rw.rcat x0 0) HCr.out HL3.out (by rw [HNB.out]; have := HLB.out; omega)
            rw [HNB.out] at hlent
            have HLENT := Aside0.mk hlent
            clear HC5 HC6 HC7 HB02 HBq HMAP hlent
            go_wp2_with fail
            refine HLENT.out.mono ?_
            rintro e w4 ⟨A8, c8, rfl, hR8, hb4⟩
            have HR8 := Aside0.mk hR8
            have HB4 := Aside0.mk hb4
            have HAL : Aside0 (((Rw.rcat x0 0).length + 1) * 1 ≤ 140737488355328) := ⟨by rw [HNB.out]; have := HLB.out; omega⟩
            clear hR8 hb4 HLENT
            go_wp2_with (at_builtin; refine Kd.R_append (Kd.int .u8) (w0 := wr) (W := w4) wr.heap.size rfl (.tmp 129) (.tmp 131) 22 5 (.int .u8 0) 1 rfl Try.underlying22 Rw.infoByte rfl (by decide) (by omega) (.slice A8 nB c8) (Rw.rcat x0 0) x1 [.int .u8 x1] (fun _ => True) (fun _ => False) rfl rfl rfl (fun _ h => h.elim) (fun _ _ => trivial) HR8.out HB4.out HB4.out.size HAL.out ?_; intro v9 w5 ho hb _ _; obtain ⟨A9, c9, rfl⟩ := Kd.R_slice ho; obtain ⟨na, HNA⟩ : ∃ n, Aside0 ((Rw.rcat x0 0 ++ [x1]).length = n) := ⟨_, ⟨rfl⟩⟩; rw [HNA.out] at ho ⊢; have HR9 := Aside0.mk ho; have HB5 := Aside0.mk hb; clear ho hb)
            have hby1 : Bytes [x1] := Rw.bytes_of (by simpa using HW1.out)
            have h9 := Kd.R_reads' HR9.out
            have hlong := replies_.calls mm A9 c9 (Rw.rcat x0 0 ++ [x1]) (some bm) w5 h9.2.2 (by rw [HNA.out]; exact h9.2.1) (by rw [List.length_append, HNB.out]; have := HLB.out; simp; omega) (bytes_app HBY.out hby1) (HMr.out.below HB5.out)
            rw [Rw.long mm x0 x1 HMM.out (by rw [HN.out]; exact h30), HNA.out] at hlong
            clear h9 hby1
            refine hlong.mono ?_
            clear hlong
            rintro e w6 ⟨z1, z2, z3, rfl, hz1, hz2, hz3, hb6⟩
            obtain ⟨B1, d1, rfl⟩ := Kd.R_slice hz1
            obtain ⟨B2, d2, rfl⟩ := Kd.R_slice hz2
            obtain ⟨B3, d3, rfl⟩ := Kd.R_slice hz3
            have HB6 := Aside0.mk (below_then HB5.out HB5.out.size hb6)
            clear hz1 hz2 hz3 hb6 HR9 HB5 HR8 HB4
            generalize (Wi.repls mm (Rw.rcat x0 0 ++ [x1]) [] [] []).1.length = g1
            generalize (Wi.repls mm (Rw.rcat x0 0 ++ [x1]) [] [] []).2.1.length = g2
            generalize (Wi.repls mm (Rw.rcat x0 0 ++ [x1]) [] [] []).2.2.1.length = g3
            by_cases hz : nB = 0
            · subst hz
              go_wp2_with fail
              go_ret
              exact ⟨rfl, below_then HW2.out HW2.out.size HB6.out⟩
            · have hzb : ((nB : Int) == 0) = false := by simp; omega
              have hn0 : 0 < x0.length := by
                rcases Nat.eq_zero_or_pos x0.length with h | h
                · have h2 := HNB.out
                  rw [List.eq_nil_of_length_eq_zero h] at h2
                  simp [Rw.rcat] at h2
                  omega
                · exact h
              have hs : ∀ W : World, (Instr.slice 22 (.slice A3 nB c3) none (some (.int .i64 ((nB : Int) - 1))) none).run Try.prog W = .ok (.slice A3 (nB - 1) c3) W := by
                have := Wk.cut_to_ (P := Try.prog) 22 5 .i64 Try.underlying22 Rw.infoByte1 A3 c3 (Rw.rcat x0 0) ((nB : Int) - 1) (nB - 1) (by omega) (by rw [HNB.out]; omega) HL3.out
                rwa [HNB.out] at this
              have hnc : (nB : Int) - 1 ≤ c3 := by have := HL3.out; rw [HNB.out] at this; omega
              have hn1 : 0 ≤ (nB : Int) - 1 := by omega
              have hnBI : (nB : Int) ≤ 2280 := by have := HLB.out; omega
              have hl1 : ((Rw.rcat x0 0).take (nB - 1)).length = nB - 1 := by rw [List.length_take, HNB.out]; omega
              have hshort := replies_.calls mm A3 c3 ((Rw.rcat x0 0).take (nB - 1)) (some bm) w6 (Kd.C_take (Kd.C_below (by rw [HNB.out]; exact (HNB.out ▸ HCr.out)) HB6.out) (by rw [HNB.out]; omega)) (by rw [hl1]; have := HL3.out; rw [HNB.out] at this; omega) (by rw [hl1]; have := HLB.out; omega) (fun x hx => HBY.out x (List.mem_of_mem_take hx)) (HMr.out.below HB6.out)
              have hsh := Rw.short mm x0 HMM.out (by rw [HN.out]; exact h30) hn0
              rw [HNB.out] at hsh
              rw [hsh, hl1] at hshort
              obtain ⟨p, hp⟩ : ∃ p, nB - 1 = p := ⟨_, rfl⟩
              rw [hp] at hs hshort
              have HSH := Aside0.mk hshort
              have HPP := Aside0.mk hp
              clear hshort hsh hl1 hp hn0
              go_wp2_with fail
              try rw [show ((nB : Int) - 1).toNat = p from by have := HPP.out; omega]
              try rw [HPP.out]
              with_reducible refine HSH.out.mono ?_
              clear HSH
              rintro e w7 ⟨z1, z2, z3, rfl, hz1, hz2, hz3, hb7⟩
              obtain ⟨B4, d4, rfl⟩ := Kd.R_slice hz1
              obtain ⟨B5, d5, rfl⟩ := Kd.R_slice hz2
              obtain ⟨B6, d6, rfl⟩ := Kd.R_slice hz3
              have HB7 := Aside0.mk (below_then HB6.out HB6.out.size hb7)
              clear hz1 hz2 hz3 hb7
              go_wp2_with fail
              go_ret
              exact ⟨rfl, below_then HW2.out HW2.out.size HB7.out⟩
  · have h30i : ¬ (n : Int) ≤ 30 := by omega
    go_enter Try.func7, Try.ntmps7
    go_wp2_with fail
    refine (kn_.calls W).mono ?_
    rintro e w1 ⟨rfl, hb⟩
    go_wp2_with fail
    go_ret
    exact ⟨rfl, hb⟩
#print axioms reqMany_.calls
end Go.Proofs.Ytemhlinodccokaa
