/- What the law's proof stands on, part 4: PassC, PassK, PassRow, PassG, PassL3 (laid together by wip/pack.py). -/
import Derived.Test.YtabdnlecpndfjaaDoorRows
import Derived.Test.YtabdnlecpndfjaaDoorCards
import Derived.Test.YtabdnlecpndfjaaDoorTie
import Derived.Test.YtabdnlecpndfjaaDoorXPassTagsP3
import Derived.ProofKit
import Derived.LaidMore
import Derived.OpenShut
import Derived.Stop.Joined
import Derived.SevenTiedAt
import Derived.SizedLaws
set_option linter.unusedVariables false
set_option linter.unusedSimpArgs false
namespace Go.Proofs.YtabdnlecpndfjaaDoor
open Go.RowKit Go.Proofs.YtabdnlecpndfjaaDoor.PBase Go.Proofs.YtabdnlecpndfjaaDoorW.PrintWords Go.Proofs.YtabdnlecpndfjaaDoorW.PrintLast Go.Proofs.YtabdnlecpndfjaaDoorW.PrintMore
namespace Ps
theorem same1_ {A0 A1 : Option Addr} {n0 n1 c0 c1 : Nat} {l0 l1 : List Int} {w : World} (h0 : Kd.C (Kd.int .u8) w A0 l0.length l0) (hn0 : l0.length = n0) (hc0 : n0 ≤ c0) (h1 : Kd.C (Kd.int .u8) w A1 l1.length l1) (hn1 : l1.length = n1) (hc1 : n1 ≤ c1) (hm : n0 ≤ 4611686018427387904) (hb0 : Sh.Bytes l0) (hb1 : Sh.Bytes l1) {b : Bool} (hb : decide (l0 = l1) = b) :
    Calls Tryd.prog 35 #[.slice A0 n0 c0, .slice A1 n1 c1] w fun e w' => e = .returned (.bool b) ∧ Below w.heap.size w w' := by
  subst hn0; subst hn1; subst hb
  exact (same_.calls A0 c0 l0 A1 c1 l1 w h0 hc0 h1 hc1 hm hb0 hb1).mono (fun _ _ ⟨a, m, hm⟩ => ⟨a, by rw [hm]; exact pw_below_drewN (Below.refl _ _) m⟩)
theorem cont_ {A : Option Addr} {n c : Nat} {l : List Int} {x : Int} {w : World} (h : Kd.C (Kd.int .u32) w A l.length l) (hn : l.length = n) (hc : n ≤ c) (hm : n ≤ 1000000) {b : Bool} (hb : decide (x ∈ l) = b) :
    Calls Tryd.prog 36 #[.slice A n c, .int .u32 x] w fun e w' => e = .returned (.bool b) ∧ Below w.heap.size w w' := by
  subst hn; subst hb
  exact (slices_Contains_uint32_uint32.calls (l.length + 1) A c l x _ w h hc (contains_is l x hm _ (Nat.lt_succ_self _))).mono (fun _ _ ⟨a, h⟩ => ⟨a, by obtain ⟨m, hm⟩ := h.out; rw [hm]; exact pw_below_drewN (Below.refl _ _) m⟩)
theorem token_ {A : Option Addr} {n c : Nat} {l : List Int} {w : World} (h : Kd.C (Kd.int .u8) w A l.length l) (hn : l.length = n) (hc : n ≤ c) (hb : Sh.Bytes l) (h18 : 18 ≤ n) {a b d : Int} {ro : Bool} (ht : tok l = (a, b, ro, d)) :
    Calls Tryd.prog 31 #[.slice A n c] w fun e w' => e = .returned (.agg #[.int .u32 a, .int .u32 b, .bool ro, .int .u64 d]) ∧ Below w.heap.size w w' := by
  subst hn
  exact pass_token.calls 10 A c l a b ro d w h hc ((token_is l hb h18 10 (by decide)).trans (by rw [ht]))
theorem cutTo {A : Option Addr} {n c : Nat} {l : List Int} (hn : l.length = n) (h : 18 ≤ n) (hc : n ≤ c) : ∀ W : World, (Instr.slice 22 (.slice A n c) none (some (.int .i64 18)) none).run Tryd.prog W = .ok (.slice A 18 c) W := by
  subst hn
  exact Wk.cut_to_ 22 5 .i64 Tryd.underlying22 (by kernel_rfl) A c l 18 18 rfl h hc
theorem cutFrom {A : Option Addr} {n c : Nat} {l : List Int} (hn : l.length = n) (h : 18 ≤ n) (hc : n ≤ c) : ∃ A' : Option Addr, (∀ W : World, (Instr.slice 22 (.slice A n c) (some (.int .i64 18)) none none).run Tryd.prog W = .ok (.slice A' (n - 18) (c - 18)) W) ∧
      ∀ W : World, Kd.C (Kd.int .u8) W A l.length l → Kd.C (Kd.int .u8) W A' (l.drop 18).length (l.drop 18) := by
  subst hn
  exact Wk.cut_from_ 22 5 .i64 Tryd.underlying22 (by kernel_rfl) .u8 A c l 18 18 rfl h hc
abbrev zt4 : List Value := [.int .u32 0, .int .u32 0, .bool false, .int .u64 0]
def ChPost (w : World) (l : List Tn) (s : ByteArray) (e : Ending) (w' : World) : Prop :=
  e = .returned (.tuple #[.agg (tkc (check l s).1).toArray, .int .u16 (check l s).2]) ∧ Below w.heap.size w w'
theorem check_form {l : List Tn} {s : ByteArray} (h : ¬ is s = true) : check l s = (zt, 50) := if_neg h
theorem check_none {l : List Tn} {s : ByteArray} (h : is s = true) (hf : find l (tok (got s)).1 = none) : check l s = (zt, 51) := by
  unfold check
  rw [if_pos h, hf]
theorem check_some {l : List Tn} {s : ByteArray} (h : is s = true) {x : Tn} (hf : find l (tok (got s)).1 = some x) : check l s = verdict x (got s) := by
  unfold check
  rw [if_pos h, hf]
end Ps
set_option maxHeartbeats 4000000 in
set_option maxRecDepth 100000 in
theorem check_.calls (p base : Nat) (l : List Ps.Tn) (s : ByteArray) (w : World) (hk : Sh.Ks w) (hT : Ps.Tb w base p l) (hs : s.size ≤ 1000000) (hW : ∀ x ∈ l, Ps.TnWf x) :
    Calls Tryd.prog 16 #[.pointer (some ⟨p, 0, none⟩), .string s] w (Ps.ChPost w l s) := by
  obtain ⟨bm, _, _, hP, hM⟩ := hT
  have HP := Aside0.mk hP
  have HM := Aside0.mk hM
  have HK := Aside0.mk hk
  have HW := Aside0.mk hW
  have HSZ := Aside0.mk Ps.sizeTn
  have HSK := Aside0.mk Ps.sizeTk
  have HZ4 : Aside0 (Below w.heap.size w (w.alloc (.cells Ps.zt4.toArray 26))) := ⟨below_alloc (Below.refl _ _) _⟩
  have HX4 : Aside0 (Wk.Blk (w.alloc (.cells Ps.zt4.toArray 26)) w.heap.size 26 Ps.zt4) := ⟨Wk.Blk.new w _ Ps.zt4⟩
  clear hP hM hk hW
  go_enter Tryd.func16, Tryd.ntmps16
  go_wp2_with fail
  refine (pass_read.calls (s.size + 2) s (Ps.got s) (Ps.is s) _ (Ps.read_is s hs _ (Nat.lt_succ_self _))).mono ?_
  rintro e w2 ⟨v2, rfl, hR2, hb2⟩
  obtain ⟨A2, c2, rfl⟩ := Kd.R_slice hR2
  obtain ⟨m, HMM⟩ : ∃ n, Aside0 ((Ps.got s).length = n) := ⟨_, ⟨rfl⟩⟩
  have HX2 := Aside0.mk (HX4.out.below_ hb2)
  have HB2 := Aside0.mk (below_then HZ4.out HZ4.out.size hb2)
  obtain ⟨hc2, hC2⟩ : (Ps.got s).length ≤ c2 ∧ Kd.C (Kd.int .u8) w2 A2 (Ps.got s).length (Ps.got s) := by
    obtain ⟨A', c', he, h1, h2⟩ := Kd.R_reads hR2
    injection he with e1 e2 e3
    subst e1; subst e3
    exact ⟨h1, h2⟩
  rw [HMM.out] at hc2 ⊢
  have HC2 := Aside0.mk hC2
  obtain ⟨fi, HFI⟩ : ∃ b, Aside0 (Ps.is s = b) := ⟨_, ⟨rfl⟩⟩
  rw [HFI.out]
  clear hR2 hb2 hC2 HZ4 HX4
  cases fi with
  | false =>
    go_wp2_with (refine Wk.store_all rfl rfl 26 (.tmp 4) (.tmp 19) rfl w.heap.size Ps.zt4 rfl rfl 26 _ HX2.out HSK.out rfl rfl ?_; intro wz hX hO; have HXZ := Aside0.mk hX; have HOZ := Aside0.mk hO; clear hX hO)
    refine bodyPost_ret (Wk.res_ct rfl _ w.heap.size 26 _ _ rfl HXZ.out Tryd.underlying26 rfl HSK.out) rfl ?_
    refine ⟨?_, Wk.Only.below HB2.out HOZ.out (Nat.le_refl _)⟩
    rw [Ps.check_form (by rw [HFI.out]; exact Bool.false_ne_true)]
    rfl
  | true =>
    obtain ⟨hfm, hgb, -⟩ := Ps.got_of s HFI.out
    have hm50 : m = 50 := by
      unfold Ps.form at hfm
      rw [decide_eq_true_eq] at hfm
      rw [← HMM.out]
      exact hfm.1
    have HGB := Aside0.mk hgb
    have HM50 := Aside0.mk hm50
    have hwf := Ps.tok_wf _ hgb
    obtain ⟨tk, HTK⟩ : ∃ t, Aside0 (Ps.tok (Ps.got s) = t) := ⟨_, ⟨rfl⟩⟩
    rw [HTK.out] at hwf
    obtain ⟨ti, se, ro, sz⟩ := tk
    have HTW : Aside0 ((0 ≤ ti ∧ ti < 4294967296) ∧ (0 ≤ se ∧ se < 4294967296) ∧ (0 ≤ sz ∧ sz < 18446744073709551616)) := ⟨hwf⟩
    clear hwf
    clear hfm hgb hm50 hs
    go_wp2_with fail
    refine (Ps.token_ HC2.out HMM.out hc2 HGB.out (by rw [HM50.out]; decide) HTK.out).mono ?_
    rintro e w3 ⟨rfl, hb3⟩
    have HB3 := Aside0.mk (below_then HB2.out HB2.out.size hb3)
    have HX3 := Aside0.mk (HX2.out.below_ hb3)
    have HC3 := Aside0.mk (Kd.C_below HC2.out hb3)
    clear hb3 HX2 HC2 HB2
    go_wp2_with fail
    generalize hWq : World.alloc w3 _ = w4
    have HB4 : Aside0 (Below w.heap.size w w4) := ⟨by rw [← hWq]; exact HB3.out.alloc HB3.out.size _⟩
    have HBD : Aside0 (Below w3.heap.size w3 w4) := ⟨by rw [← hWq]; exact below_alloc (Below.refl _ _) _⟩
    have HK4 : Aside0 (Wk.Blk w4 w3.heap.size 26 (Ps.tkc (ti, se, ro, sz))) := ⟨by rw [← hWq]; exact Wk.Blk.new w3 _ (Ps.tkc (ti, se, ro, sz))⟩
    have HX4 := Aside0.mk (HX3.out.below_ HBD.out)
    have HC4 := Aside0.mk (Kd.C_below HC3.out HBD.out)
    have HP4 := Aside0.mk (HP.out.below_ HB4.out)
    obtain ⟨g8, HG8⟩ : ∃ b, Aside0 (w3.heap.size = b) := ⟨_, ⟨rfl⟩⟩
    rw [HG8.out] at HK4 ⊢
    clear hWq HB3 HX3 HC3 HBD HG8 HP
    obtain ⟨A0, d0, A1, d1, hlo, hc0, hc1, g0, g1⟩ := (HM.out.below HB4.out).looks ti HTW.out.1.1 HTW.out.1.2
    obtain ⟨hwf, hwn⟩ : Ps.TnWf ((Ps.find l ti).getD Ps.zn) ∧ ((Ps.find l ti).isSome = true → Ps.find l ti = some ((Ps.find l ti).getD Ps.zn)) := ⟨Ps.got_wf HW.out ti, fun h => by
      obtain ⟨y, hy⟩ := Option.isSome_iff_exists.1 h
      rw [hy]; rfl⟩
    obtain ⟨fd, HFD⟩ : ∃ b, Aside0 ((Ps.find l ti).isSome = b) := ⟨_, ⟨rfl⟩⟩
    obtain ⟨x, HXX⟩ : ∃ x, Aside0 ((Ps.find l ti).getD Ps.zn = x) := ⟨_, ⟨rfl⟩⟩
    rw [HXX.out] at hlo hc0 hc1 g0 g1 hwf hwn
    rw [HFD.out] at hlo hwn
    have HFN := Aside0.mk hwn
    obtain ⟨i, l0, q, sx, l1⟩ := x
    obtain ⟨_, hm0, hm1, hby⟩ := hwf
    change l0.length ≤ 1000 at hm0
    change l1.length ≤ 1000 at hm1
    simp only [Ps.tnc] at hlo hc0 hc1 g0 g1
    have HG0 := Aside0.mk g0
    have HG1 := Aside0.mk g1
    have HBY : Aside0 (Sh.Bytes l0) := ⟨hby⟩
    obtain ⟨n0, HN0⟩ : ∃ n, Aside0 (l0.length = n) := ⟨_, ⟨rfl⟩⟩
    obtain ⟨n1, HN1⟩ : ∃ n, Aside0 (l1.length = n) := ⟨_, ⟨rfl⟩⟩
    rw [HN0.out] at hm0 hc0 hlo
    rw [HN1.out] at hm1 hc1 hlo
    have HLO := Aside0.mk hlo
    clear g0 g1 hby hlo hwn HXX
    refine wp_region_noPanic ?_
    refine start_ (n := 13) (S := (fun w' => Below w4.heap.size w4 w')) (ds := [11]) #[false, false, false, false, false, false, false, false, false, false, false, false, false] (by kernel_rfl) rfl rfl (Below.refl _ _).drew (fun hHeld => ?_)
    refine pure_ (i := 0) (N := (some 23)) (v := ?_) (a' := ?_) #[true, false, false, false, false, false, false, false, false, false, false, false, false] rfl rfl (by kernel_rfl) (fun _ _ _ h => h) (Or.inl ⟨by rfl, ?_⟩) ?_ ?_
    rotate_left
    · intro w'
      go_simp
      with_reducible rfl
    rotate_left
    · simp only [Act.put, List.setIfInBounds_toArray, List.set_cons_zero, List.set_cons_succ]
      rfl
    refine pure_ (i := 1) (N := (some 24)) (v := ?_) (a' := ?_) #[true, true, false, false, false, false, false, false, false, false, false, false, false] rfl rfl (by kernel_rfl) (fun _ _ _ h => h) (Or.inl ⟨by rfl, ?_⟩) ?_ ?_
    rotate_left
    · intro w'
      go_simp
      with_reducible rfl
    rotate_left
    · simp only [Act.put, List.setIfInBounds_toArray, List.set_cons_zero, List.set_cons_succ]
      rfl
    refine pure_ (i := 2) (N := (some 25)) (v := ?_) (a' := ?_) #[true, true, true, false, false, false, false, false, false, false, false, false, false] rfl rfl (by kernel_rfl) (fun _ _ _ h => h) (Or.inl ⟨by rfl, ?_⟩) ?_ ?_
    rotate_left
    · intro w'
      go_simp
      with_reducible rfl
    rotate_left
    · simp only [Act.put, List.setIfInBounds_toArray, List.set_cons_zero, List.set_cons_succ]
      rfl
    refine take_ (i := 3) (N := (some 26)) (v := ?_) (a' := ?_) #[true, true, true, true, false, false, false, false, false, false, false, false, false] rfl rfl (by kernel_rfl) (fun _ _ _ h => h) (Or.inl ⟨by rfl, ?_⟩) hHeld ?_ ?_
    rotate_left
    · intro w' hS'
      (have c1 := (HP4.out.below_ hS').at_ 0 rfl; go_simp)
      with_reducible rfl
    rotate_left
    · simp only [Act.put, List.setIfInBounds_toArray, List.set_cons_zero, List.set_cons_succ]
      rfl
    refine pure_ (i := 4) (N := (some 27)) (v := ?_) (a' := ?_) #[true, true, true, true, true, false, false, false, false, false, false, false, false] rfl rfl (by kernel_rfl) (fun _ _ _ h => h) (Or.inl ⟨by rfl, ?_⟩) ?_ ?_
    rotate_left
    · intro w'
      go_simp
      with_reducible rfl
    rotate_left
    · simp only [Act.put, List.setIfInBounds_toArray, List.set_cons_zero, List.set_cons_succ]
      rfl
    refine take_ (i := 5) (N := (some 28)) (v := ?_) (a' := ?_) #[true, true, true, true, true, true, false, false, false, false, false, false, false] rfl rfl (by kernel_rfl) (fun _ _ _ h => h) (Or.inl ⟨by rfl, ?_⟩) hHeld ?_ ?_
    rotate_left
    · intro w' hS'
      (have c1 := (HK4.out.below_ hS').at_ 0 rfl; go_simp)
      with_reducible rfl
    rotate_left
    · simp only [Act.put, List.setIfInBounds_toArray, List.set_cons_zero, List.set_cons_succ]
      rfl
    refine take_ (i := 6) (N := (some 29)) (v := ?_) (a' := ?_) #[true, true, true, true, true, true, true, false, false, false, false, false, false] rfl rfl (by kernel_rfl) (fun _ _ _ h => h) (Or.inl ⟨by rfl, ?_⟩) hHeld ?_ ?_
    rotate_left
    · intro w' hS'
      (have c1 := HLO.out w' hS'; go_simp)
      with_reducible rfl
    rotate_left
    · simp only [Act.put, List.setIfInBounds_toArray, List.set_cons_zero, List.set_cons_succ]
      rfl
    refine pure_ (i := 7) (N := (some 22)) (v := ?_) (a' := ?_) #[true, true, true, true, true, true, true, true, false, false, false, false, false] rfl rfl (by kernel_rfl) (fun _ _ _ h => h) (Or.inl ⟨by rfl, ?_⟩) ?_ ?_
    rotate_left
    · intro w'
      go_simp
      with_reducible rfl
    rotate_left
    · simp only [Act.put, List.setIfInBounds_toArray, List.set_cons_zero, List.set_cons_succ]
      rfl
    refine pure_ (i := 8) (N := (some 30)) (v := ?_) (a' := ?_) #[true, true, true, true, true, true, true, true, true, false, false, false, false] rfl rfl (by kernel_rfl) (fun _ _ _ h => h) (Or.inl ⟨by rfl, ?_⟩) ?_ ?_
    rotate_left
    · intro w'
      go_simp
      with_reducible rfl
    rotate_left
    · simp only [Act.put, List.setIfInBounds_toArray, List.set_cons_zero, List.set_cons_succ]
      rfl
    refine pure_ (i := 9) (N := (some 31)) (v := ?_) (a' := ?_) #[true, true, true, true, true, true, true, true, true, true, false, false, false] rfl rfl (by kernel_rfl) (fun _ _ _ h => h) (Or.inl ⟨by rfl, ?_⟩) ?_ ?_
    rotate_left
    · intro w'
      go_simp
      with_reducible rfl
    rotate_left
    · simp only [Act.put, List.setIfInBounds_toArray, List.set_cons_zero, List.set_cons_succ]
      rfl
    refine one_ (i := 10) (N := (some 9)) #[true, true, true, true, true, true, true, true, true, true, true, false, false] rfl rfl (by kernel_rfl) (by decide) (fun K hK => ?_)
    refine value_ (w1 := w4.drew.alloc (.cells Ps.z5.toArray 42)) (v := .pointer (some ⟨w4.drew.heap.size, 0, none⟩)) (by rfl) rfl (by go_simp) ?_
    refine hK.out _ _ (hHeld.alloc hHeld.size _) (fun hHeld => ?_)
    clear hK K
    refine norm_ (a' := ?_) ?_ ?_
    rotate_left
    · show Act.put _ (some 9) _ = _
      simp only [Act.put, List.setIfInBounds_toArray, List.set_cons_zero, List.set_cons_succ]
      rfl
    refine last_ (i := 11) (N := none) #[true, true, true, true, true, true, true, true, true, true, true, true, false] rfl rfl (by kernel_rfl) (by decide) (fun K hK => ?_)
    refine Wk.store_all_step (by rfl) rfl 42 (.tmp 9) (.tmp 30) rfl w4.drew.heap.size (Ps.tv i q sx (.slice A0 n0 d0) (.slice A1 n1 d1)) rfl rfl 42 Ps.z5 (Wk.Blk.new w4.drew 42 Ps.z5) HSZ.out rfl rfl ?_
    intro w5 hX hO
    have HX9 := Aside0.mk hX
    have HO5 := Aside0.mk hO
    clear hX hO
    refine hK.out _ _ ?_
    clear hK K
    refine pure_ (i := 12) (N := (some 10)) (v := ?_) (a' := ?_) #[true, true, true, true, true, true, true, true, true, true, true, true, true] rfl rfl (by kernel_rfl) (fun _ _ _ h => h) (Or.inl ⟨by rfl, ?_⟩) ?_ ?_
    rotate_left
    · intro w'
      go_simp
      with_reducible rfl
    rotate_left
    · simp only [Act.put, List.setIfInBounds_toArray, List.set_cons_zero, List.set_cons_succ]
      rfl
    refine done_ (by kernel_rfl) ?_
    refine NoPanic.normal ?_
    have HF5 := Aside0.mk (Wk.Only.fresh (w := w4.drew) HB4.out.drew HB4.out.size HO5.out)
    have HBD : Aside0 (Below w4.heap.size w4 w5) := ⟨Below.trans (Below.refl _ _).drew HF5.out.2.2⟩
    have HB5 : Aside0 (Below w.heap.size w w5) := ⟨HF5.out.2.1⟩
    have HX5 := Aside0.mk (HX4.out.below_ HBD.out)
    have HK5 := Aside0.mk (HK4.out.below_ HBD.out)
    have HC5 := Aside0.mk (Kd.C_below HC4.out HBD.out)
    have HG05 := Aside0.mk (Kd.C_below HG0.out HBD.out)
    have HG15 := Aside0.mk (Kd.C_below HG1.out HBD.out)
    obtain ⟨g9, HG9⟩ : ∃ b, Aside0 (w4.drew.heap.size = b) := ⟨_, ⟨rfl⟩⟩
    rw [HG9.out] at HX9 ⊢
    clear HBD HF5 HO5 HX4 HK4 HC4 HP4 HB4 HG0 HG1 HLO HG9 hHeld HM
    cases fd with
    | false =>
      go_wp2_with (refine Wk.store_all rfl rfl 26 (.tmp 4) (.tmp 34) rfl w.heap.size Ps.zt4 rfl rfl 26 _ HX5.out HSK.out rfl rfl ?_; intro wz hX hO; have HXZ := Aside0.mk hX; have HOZ := Aside0.mk hO; clear hX hO)
      refine bodyPost_ret (Wk.res_ct rfl _ w.heap.size 26 _ _ rfl HXZ.out Tryd.underlying26 rfl HSK.out) rfl ?_
      refine ⟨?_, Wk.Only.below HB5.out HOZ.out (Nat.le_refl _)⟩
      rw [Ps.check_none HFI.out (by rw [HTK.out]; exact Option.isNone_iff_eq_none.1 (by have := HFD.out; rw [Option.isNone_iff_eq_none]; cases h : Ps.find l ti with | none => rfl | some y => rw [h] at this; cases this))]
      rfl
    | true =>
      have HFS : Aside0 (Ps.check l s = Ps.verdict ⟨i, l0, q, sx, l1⟩ (Ps.got s)) := ⟨Ps.check_some HFI.out (by rw [HTK.out]; exact HFN.out rfl)⟩
      clear HFN HFD
      go_wp2_with fail
      have hcut := Ps.cutTo (A := A2) HMM.out (by rw [HM50.out]; decide) hc2
      obtain ⟨A3, hcutf, hcf⟩ := Ps.cutFrom (A := A2) HMM.out (by rw [HM50.out]; decide) hc2
      have HCF : Aside0 (∀ W : World, Kd.C (Kd.int .u8) W A2 (Ps.got s).length (Ps.got s) → Kd.C (Kd.int .u8) W A3 ((Ps.got s).drop 18).length ((Ps.got s).drop 18)) := ⟨hcf⟩
      clear hcf
      obtain ⟨bd, HBD⟩ : ∃ l, Aside0 ((Ps.got s).take 18 = l) := ⟨_, ⟨rfl⟩⟩
      have HBL : Aside0 (bd.length = 18) := ⟨by rw [← HBD.out, List.length_take, HMM.out, HM50.out]; rfl⟩
      have HBB : Aside0 (Sh.Bytes bd) := ⟨by rw [← HBD.out]; exact fun x hx => HGB.out x (List.mem_of_mem_take hx)⟩
      have HCT : Aside0 (∀ W : World, Kd.C (Kd.int .u8) W A2 (Ps.got s).length (Ps.got s) → Kd.C (Kd.int .u8) W A2 bd.length bd) := ⟨fun W h => by
        rw [← HBD.out]
        exact Kd.C_take h (by rw [HMM.out, HM50.out]; decide)⟩
      obtain ⟨D, HDD⟩ : ∃ D, Aside0 (Sh.u8s (Sh.hm l0 bd) = D) := ⟨_, ⟨rfl⟩⟩
      have HIF := Aside0.mk (Sh.tag_info HDD.out)
      have HOF : Aside0 (∀ (W : World) (b : Nat), Below w5.heap.size w5 W → W.cell? ⟨b, 0, none⟩ = some (.slice A2 18 c2) → Calls Tryd.prog 25 #[.slice A0 n0 d0, .slice (some ⟨b, 0, none⟩) 1 1] W fun e w' => e = .returned (.agg D) ∧ Below W.heap.size W w') := ⟨fun W b hb hc =>
        Sh.of1_ (HK.out.below (below_then HB5.out HB5.out.size hb)) (Kd.C_below HG05.out hb) HN0.out hc0 HBY.out (by omega) (HCT.out W (Kd.C_below HC5.out hb)) HBL.out (by have := HM50.out; omega) HBB.out (by decide) hc HDD.out⟩
      refine wp_region_noPanic ?_
      refine start_ (n := 8) (S := (fun w' => Below w5.heap.size w5 w')) (ds := [7]) #[false, false, false, false, false, false, false, false] (by kernel_rfl) rfl rfl (Below.refl _ _).drew (fun hHeld => ?_)
      refine pure_ (i := 0) (N := (some 35)) (v := ?_) (a' := ?_) #[true, false, false, false, false, false, false, false] rfl rfl (by kernel_rfl) (fun _ _ _ h => h) (Or.inl ⟨by rfl, ?_⟩) ?_ ?_
      rotate_left
      · intro w'
        go_simp
        with_reducible rfl
      rotate_left
      · simp only [Act.put, List.setIfInBounds_toArray, List.set_cons_zero, List.set_cons_succ]
        rfl
      refine take_ (i := 1) (N := (some 36)) (v := ?_) (a' := ?_) #[true, true, false, false, false, false, false, false] rfl rfl (by kernel_rfl) (fun _ _ _ h => h) (Or.inl ⟨by rfl, ?_⟩) hHeld ?_ ?_
      rotate_left
      · intro w' hS'
        (have c1 := (HX9.out.below_ hS').at_ 1 rfl; go_simp)
        with_reducible rfl
      rotate_left
      · simp only [Act.put, List.setIfInBounds_toArray, List.set_cons_zero, List.set_cons_succ]
        rfl
      refine pure_ (i := 2) (N := (some 37)) (v := ?_) (a' := ?_) #[true, true, true, false, false, false, false, false] rfl rfl (by kernel_rfl) (fun _ _ _ h => h) (Or.inl ⟨by rfl, ?_⟩) ?_ ?_
      rotate_left
      · intro w'
        go_simp
        with_reducible rfl
      rotate_left
      · simp only [Act.put, List.setIfInBounds_toArray, List.set_cons_zero, List.set_cons_succ]
        rfl
      refine pure_ (i := 3) (N := (some 38)) (v := ?_) (a' := ?_) #[true, true, true, true, false, false, false, false] rfl rfl (by kernel_rfl) (fun _ _ _ h => h) (Or.inl ⟨by rfl, ?_⟩) ?_ ?_
      rotate_left
      · intro w'
        (have h1 := hcut w'; go_simp)
        with_reducible rfl
      rotate_left
      · simp only [Act.put, List.setIfInBounds_toArray, List.set_cons_zero, List.set_cons_succ]
        rfl
      have HH := Aside0.mk hHeld
      generalize w5.drew = w6 at hHeld HH ⊢
      refine join_ (σ := Nat × Nat) (fuel' := 1) #[true, true, true, true, true, true, true, false] (fun s => [(39, .slice (some ⟨s.1, 0, none⟩) 1 1), (40, .agg D), (11, .pointer (some ⟨s.2, 0, none⟩))]) (fun s w' => Below w6.heap.size w6 w' ∧ w6.heap.size ≤ s.2 ∧ w'.heap[s.2]? = some (.cells (Sh.u8s (List.replicate 32 0)) 59 (0, 0))) ?_ (fun hJ => ?_)
      · rintro ⟨b4, b11⟩ w7 ⟨hB7, hge, hO7⟩
        refine norm_ (a' := ?_) ?_ ?_
        rotate_left
        · show Act.put (Act.put (Act.put _ (some 39) _) (some 40) _) (some 11) _ = _
          simp only [Act.put, List.setIfInBounds_toArray, List.set_cons_zero, List.set_cons_succ]
          rfl
        change w7.heap[b11]? = _ at hO7
        change w6.heap.size ≤ b11 at hge
        refine last_ (i := 7) (N := none) #[true, true, true, true, true, true, true, true] rfl rfl (by kernel_rfl) (by decide) (fun K hK => ?_)
        refine skip_ (w1 := w7.setRow b11 D) (by rfl) rfl (Sh.store_exec rfl rfl rfl hO7 HIF.out.1 HIF.out.2.1 HIF.out.2.2) ?_
        have HD8 : Aside0 ((w7.setRow b11 D).heap[b11]? = some (.cells D 59 (0, 0))) := ⟨setRow_heap _ _ _ _ _ _ hO7⟩
        have HB8 : Aside0 (Below w5.heap.size w5 (w7.setRow b11 D)) := ⟨below_then HH.out HH.out.size (below_setRow hB7 hge D)⟩
        generalize w7.setRow b11 D = w8 at HD8 HB8 ⊢
        refine hK.out _ _ ?_
        clear hK K hO7 hge hB7
        refine done_ (by kernel_rfl) ?_
        refine NoPanic.normal ?_
        have HX8 := Aside0.mk (HX5.out.below_ HB8.out)
        have HK8 := Aside0.mk (HK5.out.below_ HB8.out)
        have HX98 := Aside0.mk (HX9.out.below_ HB8.out)
        have HC8 := Aside0.mk (HCF.out _ (Kd.C_below HC5.out HB8.out))
        have HG18 := Aside0.mk (Kd.C_below HG15.out HB8.out)
        have HB58 := Aside0.mk (below_then HB5.out HB5.out.size HB8.out)
        have HT8 := Aside0.mk (Sh.tag_reads HDD.out HD8.out)
        have hsl := Sh.slice_all32 b11
        clear hHeld hcut
        clear HX5 HK5 HX9 HC5 HG15 HB5 HG05 HOF HCT HH HB8 HD8
        go_wp2_with fail
        refine wp_region_noPanic ?_
        refine start_ (n := 6) (S := (fun w' => Below w8.heap.size w8 w')) (ds := []) #[false, false, false, false, false, false] (by kernel_rfl) rfl rfl (Below.refl _ _).drew (fun hHeld => ?_)
        refine pure_ (i := 0) (N := (some 42)) (v := ?_) (a' := ?_) #[true, false, false, false, false, false] rfl rfl (by kernel_rfl) (fun _ _ _ h => h) (Or.inl ⟨by rfl, ?_⟩) ?_ ?_
        rotate_left
        · intro w'
          (have h1 := hsl w'; go_simp)
          with_reducible rfl
        rotate_left
        · simp only [Act.put, List.setIfInBounds_toArray, List.set_cons_zero, List.set_cons_succ]
          rfl
        refine pure_ (i := 1) (N := (some 43)) (v := ?_) (a' := ?_) #[true, true, false, false, false, false] rfl rfl (by kernel_rfl) (fun _ _ _ h => h) (Or.inl ⟨by rfl, ?_⟩) ?_ ?_
        rotate_left
        · intro w'
          go_simp
          with_reducible rfl
        rotate_left
        · simp only [Act.put, List.setIfInBounds_toArray, List.set_cons_zero, List.set_cons_succ]
          rfl
        refine pure_ (i := 2) (N := (some 44)) (v := ?_) (a' := ?_) #[true, true, true, false, false, false] rfl rfl (by kernel_rfl) (fun _ _ _ h => h) (Or.inl ⟨by rfl, ?_⟩) ?_ ?_
        rotate_left
        · intro w'
          (have h1 := hcutf w'; go_simp)
          with_reducible rfl
        rotate_left
        · simp only [Act.put, List.setIfInBounds_toArray, List.set_cons_zero, List.set_cons_succ]
          rfl
        refine one_ (i := 3) (N := (some 45)) #[true, true, true, true, false, false] rfl rfl (by kernel_rfl) (by decide) (fun K hK => ?_)
        refine call_ 35 #[.slice (some ⟨b11, 0, none⟩) 32 32, .slice A3 (m - 18) (c2 - 18)] (by rfl) rfl (by go_simp) ?_
        obtain ⟨sm, HSM⟩ : ∃ b, Aside0 (decide (Sh.hm l0 bd = (Ps.got s).drop 18) = b) := ⟨_, ⟨rfl⟩⟩
        refine (Ps.same1_ (Kd.C_below HT8.out hHeld) (Ps.hm_len _ _) (Nat.le_refl _) (Kd.C_below HC8.out hHeld) (by rw [List.length_drop, HMM.out]) (by omega) (by decide) (Ps.hm_bytes _ _) (fun x hx => HGB.out x (List.mem_of_mem_drop hx)) HSM.out).mono ?_
        rintro e w9 ⟨rfl, hb9⟩
        have HB9 := Aside0.mk (below_then hHeld hHeld.size hb9)
        clear hb9
        refine ⟨_, rfl, ?_⟩
        refine hK.out _ _ HB9.out (fun hHeld => ?_)
        clear hK K
        refine norm_ (a' := ?_) ?_ ?_
        rotate_left
        · show Act.put _ (some 45) _ = _
          simp only [Act.put, List.setIfInBounds_toArray, List.set_cons_zero, List.set_cons_succ]
          rfl
        refine pure_ (i := 4) (N := (some 46)) (v := ?_) (a' := ?_) #[true, true, true, true, true, false] rfl rfl (by kernel_rfl) (fun _ _ _ h => h) (Or.inl ⟨by rfl, ?_⟩) ?_ ?_
        rotate_left
        · intro w'
          go_simp
          with_reducible rfl
        rotate_left
        · simp only [Act.put, List.setIfInBounds_toArray, List.set_cons_zero, List.set_cons_succ]
          rfl
        refine pure_ (i := 5) (N := (some 41)) (v := ?_) (a' := ?_) #[true, true, true, true, true, true] rfl rfl (by kernel_rfl) (fun _ _ _ h => h) (Or.inl ⟨by rfl, ?_⟩) ?_ ?_
        rotate_left
        · intro w'
          go_simp
          with_reducible rfl
        rotate_left
        · simp only [Act.put, List.setIfInBounds_toArray, List.set_cons_zero, List.set_cons_succ]
          rfl
        refine done_ (by kernel_rfl) ?_
        refine NoPanic.normal ?_
        have HX9 := Aside0.mk (HX8.out.below_ HB9.out)
        have HB59 := Aside0.mk (below_then HB58.out HB58.out.size HB9.out)
        have HG19 := Aside0.mk (Kd.C_below HG18.out HB9.out)
        have HK9 := Aside0.mk (HK8.out.below_ HB9.out)
        have HX99 := Aside0.mk (HX98.out.below_ HB9.out)
        clear HX8 HK8 HX98 HC8 HG18 HB58 HT8 hHeld hsl HB9 hcutf
        cases sm with
        | false =>
          go_wp2_with (refine Wk.store_all rfl rfl 26 (.tmp 4) (.tmp 47) rfl w.heap.size Ps.zt4 rfl rfl 26 _ HX9.out HSK.out rfl rfl ?_; intro wz hX hO; have HXZ := Aside0.mk hX; have HOZ := Aside0.mk hO; clear hX hO)
          refine bodyPost_ret (Wk.res_ct rfl _ w.heap.size 26 _ _ rfl HXZ.out Tryd.underlying26 rfl HSK.out) rfl ?_
          refine ⟨?_, Wk.Only.below HB59.out HOZ.out (Nat.le_refl _)⟩
          rw [HFS.out, Ps.verdict, if_pos (by rw [HBD.out]; exact of_decide_eq_false HSM.out)]
          rfl
        | true =>
          have HV1 : Aside0 (Ps.check l s = if (Ps.tok (Ps.got s)).2.1 ∈ l1 then (Ps.zt, 53) else if (Ps.tok (Ps.got s)).2.2.2 = 0 ∨ (Ps.tok (Ps.got s)).2.2.2 > sx then (Ps.zt, 54) else (Ps.tok (Ps.got s), 0)) := ⟨by
            rw [HFS.out, Ps.verdict, if_neg (by rw [HBD.out]; exact fun h => h (of_decide_eq_true HSM.out))]⟩
          have c1 := HX99.out.at_ 4 rfl
          have c2 := HK9.out.at_ 1 rfl
          go_wp2_with fail
          obtain ⟨cn, HCN⟩ : ∃ b, Aside0 (decide (se ∈ l1) = b) := ⟨_, ⟨rfl⟩⟩
          refine (Ps.cont_ HG19.out HN1.out hc1 (by omega) HCN.out).mono ?_
          rintro e w10 ⟨rfl, hb10⟩
          have HX10 := Aside0.mk (HX9.out.below_ hb10)
          have HB10 := Aside0.mk (below_then HB59.out HB59.out.size hb10)
          have HK10 := Aside0.mk (HK9.out.below_ hb10)
          have HX910 := Aside0.mk (HX99.out.below_ hb10)
          clear HX9 HB59 HK9 HX99 HG19 hb10 c1 c2
          have HV2 : Aside0 (Ps.check l s = if se ∈ l1 then (Ps.zt, 53) else if sz = 0 ∨ sz > sx then (Ps.zt, 54) else ((ti, se, ro, sz), 0)) := ⟨by
            have := HV1.out
            rw [HTK.out] at this
            exact this⟩
          cases cn with
          | true =>
            go_wp2_with (refine Wk.store_all rfl rfl 26 (.tmp 4) (.tmp 54) rfl w.heap.size Ps.zt4 rfl rfl 26 _ HX10.out HSK.out rfl rfl ?_; intro wz hX hO; have HXZ := Aside0.mk hX; have HOZ := Aside0.mk hO; clear hX hO)
            refine bodyPost_ret (Wk.res_ct rfl _ w.heap.size 26 _ _ rfl HXZ.out Tryd.underlying26 rfl HSK.out) rfl ?_
            refine ⟨?_, Wk.Only.below HB10.out HOZ.out (Nat.le_refl _)⟩
            rw [HV2.out, if_pos (of_decide_eq_true HCN.out)]
            rfl
          | false =>
            have HV3 : Aside0 (Ps.check l s = if sz = 0 ∨ sz > sx then (Ps.zt, 54) else ((ti, se, ro, sz), 0)) := ⟨by rw [HV2.out, if_neg (of_decide_eq_false HCN.out)]⟩
            have c3 := HK10.out.at_ 3 rfl
            have c4 := HX910.out.at_ 3 rfl
            by_cases hz : sz = 0
            · have hzb : (sz == 0) = true := by simpa using hz
              go_wp2_with (refine Wk.store_all rfl rfl 26 (.tmp 4) (.tmp 64) rfl w.heap.size Ps.zt4 rfl rfl 26 _ HX10.out HSK.out rfl rfl ?_; intro wz hX hO; have HXZ := Aside0.mk hX; have HOZ := Aside0.mk hO; clear hX hO)
              refine bodyPost_ret (Wk.res_ct rfl _ w.heap.size 26 _ _ rfl HXZ.out Tryd.underlying26 rfl HSK.out) rfl ?_
              refine ⟨?_, Wk.Only.below HB10.out HOZ.out (Nat.le_refl _)⟩
              rw [HV3.out, if_pos (.inl hz)]
              rfl
            · have hzb : (sz == 0) = false := by simpa using hz
              by_cases hx : sz > sx
              · have hxb : sx < sz := hx
                go_wp2_with (refine Wk.store_all rfl rfl 26 (.tmp 4) (.tmp 64) rfl w.heap.size Ps.zt4 rfl rfl 26 _ HX10.out HSK.out rfl rfl ?_; intro wz hX hO; have HXZ := Aside0.mk hX; have HOZ := Aside0.mk hO; clear hX hO)
                refine bodyPost_ret (Wk.res_ct rfl _ w.heap.size 26 _ _ rfl HXZ.out Tryd.underlying26 rfl HSK.out) rfl ?_
                refine ⟨?_, Wk.Only.below HB10.out HOZ.out (Nat.le_refl _)⟩
                rw [HV3.out, if_pos (.inr hx)]
                rfl
              · have hrun : (Instr.loadAt 26 (.pointer (some ⟨g8, 0, none⟩))).run Tryd.prog w10 = .ok (.agg (Ps.tkc (ti, se, ro, sz)).toArray) w10 := Wk.run_load_blk (P := Tryd.prog) 26 g8 0 (Ps.tkc (ti, se, ro, sz)) _ HK10.out rfl Tryd.underlying26 rfl HSK.out
                go_wp2_with (first
                  | refine Wk.load rfl 26 (.tmp 8) rfl _ (.pointer (some ⟨g8, 0, none⟩)) rfl hrun ?_
                  | (refine Wk.store_all rfl rfl 26 (.tmp 4) (.tmp 65) rfl w.heap.size (Ps.tkc (ti, se, ro, sz)) rfl rfl 26 _ HX10.out HSK.out rfl rfl ?_; intro wz hX hO; have HXZ := Aside0.mk hX; have HOZ := Aside0.mk hO; clear hX hO))
                refine bodyPost_ret (Wk.res_ct rfl _ w.heap.size 26 _ _ rfl HXZ.out Tryd.underlying26 rfl HSK.out) rfl ?_
                refine ⟨?_, Wk.Only.below HB10.out HOZ.out (Nat.le_refl _)⟩
                rw [HV3.out, if_neg (fun h => h.elim hz (fun h => by omega))]
                rfl
      · have HHW : Aside0 (Below w6.heap.size w6 w6) := ⟨Below.refl _ _⟩
        refine two_ (i := 4) (j := 6) (Ni := some 39) (Nj := some 11) #[true, true, true, true, true, false, false, false] #[true, true, true, true, false, false, true, false] rfl rfl rfl rfl (by kernel_rfl) (by decide) (by decide) (fun K hK => ?_) (fun K hK => ?_)
        · refine value_ (w1 := w6.alloc (.cells #[.slice A2 18 c2] 22)) (v := .slice (some ⟨w6.heap.size, 0, none⟩) 1 1) (by rfl) rfl (by first | (go_simp; done) | (go_simp; rfl)) ?_
          have hce : (w6.alloc (.cells #[.slice A2 18 c2] 22)).cell? ⟨w6.heap.size, 0, none⟩ = some (.slice A2 18 c2) := Lit.cell_new w6 #[.slice A2 18 c2] 22 (0, 0) 0
          have hbn : Below w6.heap.size w6 (w6.alloc (.cells #[.slice A2 18 c2] 22)) := below_alloc (Below.refl _ _) _
          generalize World.alloc w6 (.cells #[.slice A2 18 c2] 22) = w4_w6 at *
          have HCE := Aside0.mk hce
          have hbt : Below w5.heap.size w5 w4_w6 := below_then hHeld hHeld.size hbn
          have HHN := Aside0.mk (below_then HHW.out HHW.out.size hbn)
          refine hK.out _ _ hbt (fun hHeld => ?_)
          clear hK K hbt hbn hce
          clear HHW; have HHW := HHN; clear HHN
          refine norm_ (a' := ?_) ?_ ?_
          rotate_left
          · show Act.put _ (some 39) _ = _
            simp only [Act.put, List.setIfInBounds_toArray, List.set_cons_zero, List.set_cons_succ]
            rfl
          refine two_ (i := 5) (j := 6) (Ni := some 40) (Nj := some 11) #[true, true, true, true, true, true, false, false] #[true, true, true, true, true, false, true, false] rfl rfl rfl rfl (by kernel_rfl) (by decide) (by decide) (fun K hK => ?_) (fun K hK => ?_)
          · refine call_ 25 #[.slice A0 n0 d0, .slice (some ⟨w6.heap.size, 0, none⟩) 1 1] (by rfl) rfl (by go_simp) ?_
            refine (HOF.out w4_w6 w6.heap.size hHeld HCE.out).mono ?_
            rintro e w5_w4_w6 ⟨rfl, hbn⟩
            refine ⟨_, rfl, ?_⟩
            have hbt : Below w5.heap.size w5 w5_w4_w6 := below_then hHeld hHeld.size hbn
            have HHN := Aside0.mk (below_then HHW.out HHW.out.size hbn)
            have HCE' := Aside0.mk ((hbn.cell (World.block_lt_of_cell? _ _ HCE.out)).trans HCE.out)
            refine hK.out _ _ hbt (fun hHeld => ?_)
            clear hK K hbt hbn
            clear HCE; have HCE := HCE'; clear HCE'
            clear HHW; have HHW := HHN; clear HHN
            refine norm_ (a' := ?_) ?_ ?_
            rotate_left
            · show Act.put _ (some 40) _ = _
              simp only [Act.put, List.setIfInBounds_toArray, List.set_cons_zero, List.set_cons_succ]
              rfl
            refine one_ (i := 6) (N := some 11) #[true, true, true, true, true, true, true, false] rfl rfl (by kernel_rfl) (by decide) (fun K hK => ?_)
            refine value_ (w1 := w5_w4_w6.alloc (.cells (Sh.u8s (List.replicate 32 0)) 59)) (v := .pointer (some ⟨w5_w4_w6.heap.size, 0, none⟩)) (by rfl) rfl (by first | (go_simp; done) | (go_simp; rfl)) ?_
            have hoe : (w5_w4_w6.alloc (.cells (Sh.u8s (List.replicate 32 0)) 59)).heap[w5_w4_w6.heap.size]? = some (.cells (Sh.u8s (List.replicate 32 0)) 59 (0, 0)) := heap_alloc_new w5_w4_w6 _
            have hbn : Below w5_w4_w6.heap.size w5_w4_w6 (w5_w4_w6.alloc (.cells (Sh.u8s (List.replicate 32 0)) 59)) := below_alloc (Below.refl _ _) _
            generalize World.alloc w5_w4_w6 (.cells (Sh.u8s (List.replicate 32 0)) 59) = w6_w5_w4_w6 at *
            have HOE := Aside0.mk hoe
            have hbt : Below w5.heap.size w5 w6_w5_w4_w6 := below_then hHeld hHeld.size hbn
            have HHN := Aside0.mk (below_then HHW.out HHW.out.size hbn)
            have HCE' := Aside0.mk ((hbn.cell (World.block_lt_of_cell? _ _ HCE.out)).trans HCE.out)
            have HGE : Aside0 (w6.heap.size ≤ w5_w4_w6.heap.size) := ⟨HHW.out.size⟩
            refine hK.out _ _ hbt (fun hHeld => ?_)
            clear hK K hbt hbn hoe
            clear HCE; have HCE := HCE'; clear HCE'
            clear HHW; have HHW := HHN; clear HHN
            refine norm_ (a' := ?_) ?_ ?_
            rotate_left
            · show Act.put _ (some 11) _ = _
              simp only [Act.put, List.setIfInBounds_toArray, List.set_cons_zero, List.set_cons_succ]
              rfl
            refine norm_ (a' := putAll _ ((fun s : Nat × Nat => [((39 : Tmp), Value.slice (some ⟨s.1, 0, none⟩) 1 1), (40, Value.agg D), (11, Value.pointer (some ⟨s.2, 0, none⟩))]) (w6.heap.size, w5_w4_w6.heap.size))) ?_ (hJ (w6.heap.size, w5_w4_w6.heap.size) w6_w5_w4_w6 ⟨HHW.out, HGE.out, HOE.out⟩)
            simp only [putAll, Act.put, List.setIfInBounds_toArray, List.set_cons_zero, List.set_cons_succ]
          · refine value_ (w1 := w4_w6.alloc (.cells (Sh.u8s (List.replicate 32 0)) 59)) (v := .pointer (some ⟨w4_w6.heap.size, 0, none⟩)) (by rfl) rfl (by first | (go_simp; done) | (go_simp; rfl)) ?_
            have hoe : (w4_w6.alloc (.cells (Sh.u8s (List.replicate 32 0)) 59)).heap[w4_w6.heap.size]? = some (.cells (Sh.u8s (List.replicate 32 0)) 59 (0, 0)) := heap_alloc_new w4_w6 _
            have hbn : Below w4_w6.heap.size w4_w6 (w4_w6.alloc (.cells (Sh.u8s (List.replicate 32 0)) 59)) := below_alloc (Below.refl _ _) _
            generalize World.alloc w4_w6 (.cells (Sh.u8s (List.replicate 32 0)) 59) = w6_w4_w6 at *
            have HOE := Aside0.mk hoe
            have hbt : Below w5.heap.size w5 w6_w4_w6 := below_then hHeld hHeld.size hbn
            have HHN := Aside0.mk (below_then HHW.out HHW.out.size hbn)
            have HCE' := Aside0.mk ((hbn.cell (World.block_lt_of_cell? _ _ HCE.out)).trans HCE.out)
            have HGE : Aside0 (w6.heap.size ≤ w4_w6.heap.size) := ⟨HHW.out.size⟩
            refine hK.out _ _ hbt (fun hHeld => ?_)
            clear hK K hbt hbn hoe
            clear HCE; have HCE := HCE'; clear HCE'
            clear HHW; have HHW := HHN; clear HHN
            refine norm_ (a' := ?_) ?_ ?_
            rotate_left
            · show Act.put _ (some 11) _ = _
              simp only [Act.put, List.setIfInBounds_toArray, List.set_cons_zero, List.set_cons_succ]
              rfl
            refine one_ (i := 5) (N := some 40) #[true, true, true, true, true, true, true, false] rfl rfl (by kernel_rfl) (by decide) (fun K hK => ?_)
            refine call_ 25 #[.slice A0 n0 d0, .slice (some ⟨w6.heap.size, 0, none⟩) 1 1] (by rfl) rfl (by go_simp) ?_
            refine (HOF.out w6_w4_w6 w6.heap.size hHeld HCE.out).mono ?_
            rintro e w5_w6_w4_w6 ⟨rfl, hbn⟩
            refine ⟨_, rfl, ?_⟩
            have hbt : Below w5.heap.size w5 w5_w6_w4_w6 := below_then hHeld hHeld.size hbn
            have HHN := Aside0.mk (below_then HHW.out HHW.out.size hbn)
            have HCE' := Aside0.mk ((hbn.cell (World.block_lt_of_cell? _ _ HCE.out)).trans HCE.out)
            have HOE' := Aside0.mk ((hbn.block _ (Array.getElem?_eq_some_iff.1 HOE.out).1).trans HOE.out)
            refine hK.out _ _ hbt (fun hHeld => ?_)
            clear hK K hbt hbn
            clear HCE; have HCE := HCE'; clear HCE'
            clear HOE; have HOE := HOE'; clear HOE'
            clear HHW; have HHW := HHN; clear HHN
            refine norm_ (a' := ?_) ?_ ?_
            rotate_left
            · show Act.put _ (some 40) _ = _
              simp only [Act.put, List.setIfInBounds_toArray, List.set_cons_zero, List.set_cons_succ]
              rfl
            refine norm_ (a' := putAll _ ((fun s : Nat × Nat => [((39 : Tmp), Value.slice (some ⟨s.1, 0, none⟩) 1 1), (40, Value.agg D), (11, Value.pointer (some ⟨s.2, 0, none⟩))]) (w6.heap.size, w4_w6.heap.size))) ?_ (hJ (w6.heap.size, w4_w6.heap.size) w5_w6_w4_w6 ⟨HHW.out, HGE.out, HOE.out⟩)
            simp only [putAll, Act.put, List.setIfInBounds_toArray, List.set_cons_zero, List.set_cons_succ]
        · refine value_ (w1 := w6.alloc (.cells (Sh.u8s (List.replicate 32 0)) 59)) (v := .pointer (some ⟨w6.heap.size, 0, none⟩)) (by rfl) rfl (by first | (go_simp; done) | (go_simp; rfl)) ?_
          have hoe : (w6.alloc (.cells (Sh.u8s (List.replicate 32 0)) 59)).heap[w6.heap.size]? = some (.cells (Sh.u8s (List.replicate 32 0)) 59 (0, 0)) := heap_alloc_new w6 _
          have hbn : Below w6.heap.size w6 (w6.alloc (.cells (Sh.u8s (List.replicate 32 0)) 59)) := below_alloc (Below.refl _ _) _
          generalize World.alloc w6 (.cells (Sh.u8s (List.replicate 32 0)) 59) = w6_w6 at *
          have HOE := Aside0.mk hoe
          have hbt : Below w5.heap.size w5 w6_w6 := below_then hHeld hHeld.size hbn
          have HHN := Aside0.mk (below_then HHW.out HHW.out.size hbn)
          have HGE : Aside0 (w6.heap.size ≤ w6.heap.size) := ⟨HHW.out.size⟩
          refine hK.out _ _ hbt (fun hHeld => ?_)
          clear hK K hbt hbn hoe
          clear HHW; have HHW := HHN; clear HHN
          refine norm_ (a' := ?_) ?_ ?_
          rotate_left
          · show Act.put _ (some 11) _ = _
            simp only [Act.put, List.setIfInBounds_toArray, List.set_cons_zero, List.set_cons_succ]
            rfl
          refine one_ (i := 4) (N := some 39) #[true, true, true, true, true, false, true, false] rfl rfl (by kernel_rfl) (by decide) (fun K hK => ?_)
          refine value_ (w1 := w6_w6.alloc (.cells #[.slice A2 18 c2] 22)) (v := .slice (some ⟨w6_w6.heap.size, 0, none⟩) 1 1) (by rfl) rfl (by first | (go_simp; done) | (go_simp; rfl)) ?_
          have hce : (w6_w6.alloc (.cells #[.slice A2 18 c2] 22)).cell? ⟨w6_w6.heap.size, 0, none⟩ = some (.slice A2 18 c2) := Lit.cell_new w6_w6 #[.slice A2 18 c2] 22 (0, 0) 0
          have hbn : Below w6_w6.heap.size w6_w6 (w6_w6.alloc (.cells #[.slice A2 18 c2] 22)) := below_alloc (Below.refl _ _) _
          generalize World.alloc w6_w6 (.cells #[.slice A2 18 c2] 22) = w4_w6_w6 at *
          have HCE := Aside0.mk hce
          have hbt : Below w5.heap.size w5 w4_w6_w6 := below_then hHeld hHeld.size hbn
          have HHN := Aside0.mk (below_then HHW.out HHW.out.size hbn)
          have HOE' := Aside0.mk ((hbn.block _ (Array.getElem?_eq_some_iff.1 HOE.out).1).trans HOE.out)
          refine hK.out _ _ hbt (fun hHeld => ?_)
          clear hK K hbt hbn hce
          clear HOE; have HOE := HOE'; clear HOE'
          clear HHW; have HHW := HHN; clear HHN
          refine norm_ (a' := ?_) ?_ ?_
          rotate_left
          · show Act.put _ (some 39) _ = _
            simp only [Act.put, List.setIfInBounds_toArray, List.set_cons_zero, List.set_cons_succ]
            rfl
          refine one_ (i := 5) (N := some 40) #[true, true, true, true, true, true, true, false] rfl rfl (by kernel_rfl) (by decide) (fun K hK => ?_)
          refine call_ 25 #[.slice A0 n0 d0, .slice (some ⟨w6_w6.heap.size, 0, none⟩) 1 1] (by rfl) rfl (by go_simp) ?_
          refine (HOF.out w4_w6_w6 w6_w6.heap.size hHeld HCE.out).mono ?_
          rintro e w5_w4_w6_w6 ⟨rfl, hbn⟩
          refine ⟨_, rfl, ?_⟩
          have hbt : Below w5.heap.size w5 w5_w4_w6_w6 := below_then hHeld hHeld.size hbn
          have HHN := Aside0.mk (below_then HHW.out HHW.out.size hbn)
          have HCE' := Aside0.mk ((hbn.cell (World.block_lt_of_cell? _ _ HCE.out)).trans HCE.out)
          have HOE' := Aside0.mk ((hbn.block _ (Array.getElem?_eq_some_iff.1 HOE.out).1).trans HOE.out)
          refine hK.out _ _ hbt (fun hHeld => ?_)
          clear hK K hbt hbn
          clear HCE; have HCE := HCE'; clear HCE'
          clear HOE; have HOE := HOE'; clear HOE'
          clear HHW; have HHW := HHN; clear HHN
          refine norm_ (a' := ?_) ?_ ?_
          rotate_left
          · show Act.put _ (some 40) _ = _
            simp only [Act.put, List.setIfInBounds_toArray, List.set_cons_zero, List.set_cons_succ]
            rfl
          refine norm_ (a' := putAll _ ((fun s : Nat × Nat => [((39 : Tmp), Value.slice (some ⟨s.1, 0, none⟩) 1 1), (40, Value.agg D), (11, Value.pointer (some ⟨s.2, 0, none⟩))]) (w6_w6.heap.size, w6.heap.size))) ?_ (hJ (w6_w6.heap.size, w6.heap.size) w5_w4_w6_w6 ⟨HHW.out, HGE.out, HOE.out⟩)
          simp only [putAll, Act.put, List.setIfInBounds_toArray, List.set_cons_zero, List.set_cons_succ]
end Go.Proofs.YtabdnlecpndfjaaDoor
set_option linter.unusedVariables false
set_option linter.unusedSimpArgs false
namespace Go.Proofs.YtabdnlecpndfjaaDoor
open Go.RowKit Go.Proofs.YtabdnlecpndfjaaDoor.PBase Go.Proofs.YtabdnlecpndfjaaDoorW.PrintWords Go.Proofs.YtabdnlecpndfjaaDoorW.PrintLast Go.Proofs.YtabdnlecpndfjaaDoorW.PrintMore
theorem opens_bytes : Opens Tryd.prog 22 (Kd.slice 5 (Kd.int .u8)) (fun xs => xs.length ≤ maxLen ∧ ∀ x ∈ xs, (Lit.int .u8 x).wf = true) := opens_slice Tryd.underlying22 (by kernel_rfl) (opens_int Tryd.underlying5)
namespace Ps
abbrev kTk : Kd Tk := Kd.pair (Kd.int .u32) (Kd.pair (Kd.int .u32) (Kd.pair Kd.bool (Kd.int .u64)))
theorem of32 {k : Int} (h : (Lit.int .u32 k).wf = true) : 0 ≤ k ∧ k < 4294967296 := by
  simp [Lit.wf, IntKind.min, IntKind.max, IntKind.signed, IntKind.bits] at h
  omega
theorem of64 {k : Int} (h : (Lit.int .u64 k).wf = true) : 0 ≤ k ∧ k < 18446744073709551616 := by
  simp [Lit.wf, IntKind.min, IntKind.max, IntKind.signed, IntKind.bits] at h
  omega
set_option maxRecDepth 100000 in
theorem opens_token : Opens Tryd.prog 26 kTk TkWf := by
  intro H enc w base spare held fuel cs x h
  obtain ⟨hl, hf⟩ := struct_fields Tryd.underlying26 h
  obtain ⟨a0, k0, w0⟩ := hf 0 _ rfl (opens_int Tryd.underlying23)
  obtain ⟨a1, k1, w1⟩ := hf 1 _ rfl (opens_int Tryd.underlying23)
  obtain ⟨a2, k2, w2⟩ := hf 2 _ rfl (opens_bool Tryd.underlying4)
  obtain ⟨a3, k3, w3⟩ := hf 3 _ rfl (opens_int Tryd.underlying24)
  have c64 : Tryd.prog.cellsOf 24 = 1 := by kernel_rfl
  have c32 : Tryd.prog.cellsOf 23 = 1 := by kernel_rfl
  have cb : Tryd.prog.cellsOf 4 = 1 := by kernel_rfl
  have c4 : Tryd.prog.cellsOf 26 = 4 := by kernel_rfl
  rw [c4] at hl
  change (Kd.int .u32).K w a0 ((cs.drop 0).take (Tryd.prog.cellsOf 23)) at k0
  rw [c32] at k0
  change (Kd.int .u32).K w a1 ((cs.drop 1).take (Tryd.prog.cellsOf 23)) at k1
  rw [c32] at k1
  change Kd.bool.K w a2 ((cs.drop 2).take (Tryd.prog.cellsOf 4)) at k2
  rw [cb] at k2
  change (Kd.int .u64).K w a3 ((cs.drop 3).take (Tryd.prog.cellsOf 24)) at k3
  rw [c64] at k3
  refine ⟨(a0, a1, a2, a3), ?_, of32 w0, of32 w1, of64 w3⟩
  match cs, hl with
  | [y0, y1, y2, y3], _ => exact pairK k0 (pairK k1 (pairK k2 k3))
theorem tk_cells {w : World} {t : Tk} {cs : List Value} (h : kTk.K w t cs) : cs = tkc t := by
  obtain ⟨_, _, rfl, rfl, _, _, rfl, rfl, _, _, rfl, rfl, rfl⟩ := h
  rfl
theorem bytes_of {l : List Int} (h : ∀ x ∈ l, (Lit.int .u8 x).wf = true) : Sh.Bytes l := Sp.bytes_of_wf h
theorem row1 {W : World} {g : Nat} {x : Tn} {A0 A1 : Option Addr} {c0 c1 : Nat} {T : TypeId} (hb : Wk.Blk W g T (tnc x A0 c0 A1 c1)) (l0 : x.f1.length ≤ c0) (g0 : Kd.C (Kd.int .u8) W A0 x.f1.length x.f1) (l1 : x.f4.length ≤ c1) (g1 : Kd.C (Kd.int .u32) W A1 x.f4.length x.f4) : kTn.C W (some ⟨g, 0, none⟩) 1 [x] := by
  refine ⟨rfl, by decide, fun _ => ⟨_, rfl, fun j p hj => ?_⟩⟩
  cases j with
  | zero =>
    obtain rfl : x = p := by simpa using hj
    refine ⟨tnc x A0 c0 A1 c1, rfl, PBase.k42_mk W x l0 g0 l1 g1, fun i u hu => ?_⟩
    have : (⟨g, 0, none⟩ : Addr).add (0 * 5 + i) = ⟨g, i, none⟩ := by rw [Nat.zero_mul, Nat.zero_add, add_plain]
    change W.cell? ((⟨g, 0, none⟩ : Addr).add (0 * 5 + i)) = some u
    rw [this]
    exact hb.at_ i hu
  | succ j => simp at hj
theorem conv1 (w : World) (o : Obj) (b : Value) : (convert 22 22 (.slice (some ⟨w.heap.size + 1, 0, none⟩) 1 1)).run Tryd.prog ((w.alloc o).alloc (.cells #[b] 5)) = .ok (.slice (some ⟨w.heap.size + 1, 0, none⟩) 1 1) ((w.alloc o).alloc (.cells #[b] 5 (1, 2))) := by
  have := Lib.run_convert_bytes_const (P := Tryd.prog) (w.alloc o) 22 5 #[b] 1 1 Tryd.underlying22 Tryd.underlying5
  rw [show (#[b] : Array Value).size = 1 from rfl, show (w.alloc o).heap.size = w.heap.size + 1 by show (w.heap.push _).size = _; simp] at this
  exact this
theorem heap3a (h : Array Obj) (a b c : Obj) : (((h.push a).push b).push c)[h.size]? = some a ∧ (((h.push a).push b).push c)[h.size + 1]? = some b ∧ (((h.push a).push b).push c)[h.size + 1 + 1]? = some c := by
  refine ⟨?_, ?_, ?_⟩
  · rw [Array.getElem?_push_lt (by simp; omega), Array.getElem_push_lt (by simp), Array.getElem_push_eq]
  · rw [Array.getElem?_push_lt (by simp), ← Array.getElem?_eq_getElem]
    have := Array.getElem?_push_size (xs := h.push a) (x := b)
    rwa [Array.size_push] at this
  · have := Array.getElem?_push_size (xs := (h.push a).push b) (x := c)
    rwa [Array.size_push, Array.size_push] at this
theorem heap3 (w : World) (a b c : Obj) : (((w.alloc a).alloc b).alloc c).heap[w.heap.size]? = some a ∧ (((w.alloc a).alloc b).alloc c).heap[w.heap.size + 1]? = some b ∧ (((w.alloc a).alloc b).alloc c).heap[w.heap.size + 1 + 1]? = some c ∧ Below w.heap.size w (((w.alloc a).alloc b).alloc c) :=
  ⟨(heap3a w.heap a b c).1, (heap3a w.heap a b c).2.1, (heap3a w.heap a b c).2.2, below_alloc (below_alloc (below_alloc (Below.refl _ _) _) _) _⟩
theorem iss_size (k : List Int) (t : Tk) : (iss k t).size = 80 := by
  show (ByteArray.mk (Sp.enc (Sp.bitsOf (sealed k t))).toArray).size = 80
  have : (Sp.enc (Sp.bitsOf (sealed k t))).length = 80 := by rw [Sp.enc_length, Sp.bitsOf_length, sealed_len]
  rw [← this]
  exact List.size_toArray
abbrev xk : Tk := (1, 2, false, 3)
abbrev xt : Tn := ⟨1, [108], 0, 5, []⟩
theorem body_k : body xk = [1, 0, 0, 0, 1, 0, 0, 0, 2, 0, 0, 0, 0, 0, 0, 0, 3, 0] := by kernel_rfl
theorem hm_k : Sh.hm [107] [1, 0, 0, 0, 1, 0, 0, 0, 2, 0, 0, 0, 0, 0, 0, 0, 3, 0] = [24, 249, 245, 206, 108, 233, 185, 88, 241, 239, 36, 25, 8, 110, 205, 119, 64, 115, 129, 106, 36, 47, 168, 185, 135, 80, 193, 223, 16, 89, 15, 230] := by kernel_rfl
theorem hm_l : Sh.hm [108] [1, 0, 0, 0, 1, 0, 0, 0, 2, 0, 0, 0, 0, 0, 0, 0, 3, 0] = [80, 160, 238, 212, 173, 232, 82, 25, 187, 107, 222, 108, 37, 116, 40, 180, 38, 103, 34, 211, 99, 60, 155, 229, 253, 22, 147, 197, 12, 83, 32, 25] := by kernel_rfl
theorem xk_wf : TkWf xk := by unfold TkWf; decide
theorem check_iss (l : List Tn) (k : List Int) (t : Tk) (h : TkWf t) : check l (iss k t) = match find l t.1 with | none => (zt, 51) | some x => verdict x (sealed k t) := by
  obtain ⟨h1, h2⟩ := got_iss k t
  unfold check
  rw [if_pos h2, h1, show tok (sealed k t) = t from tok_body t _ h]
  cases find l t.1 <;> rfl
theorem known_check : check [xt] (iss [107] xk) = (zt, 52) := by
  rw [check_iss _ _ _ xk_wf]
  show verdict xt (sealed [107] xk) = _
  unfold verdict
  rw [sealed_take, sealed_drop, body_k, hm_k]
  show (if Sh.hm [108] _ ≠ _ then _ else _) = _
  rw [hm_l, if_pos (by decide)]
end Ps
set_option maxHeartbeats 2000000 in
set_option maxRecDepth 100000 in
theorem known_.calls (w : World) (hk : Sh.Ks w) :
    Calls Tryd.prog 10 #[] w fun e w' => e = .returned (.bool true) ∧ Below w.heap.size w w' := by
  have HK := Aside0.mk hk
  clear hk
  have hcv1 := Ps.conv1 w (.cells #[.int .u32 1, .int .u32 2, .bool false, .int .u64 3] 26) (.int .u8 107)
  go_enter Tryd.func10, Tryd.ntmps10
  go_wp2_with fail
  generalize hWq : World.alloc (World.alloc w _) _ = W1
  have HB1 : Aside0 (Below w.heap.size w W1) := ⟨by rw [← hWq]; exact below_alloc (below_alloc (Below.refl _ _) _) _⟩
  have HX1 : Aside0 (Wk.Blk W1 w.heap.size 26 (Ps.tkc Ps.xk)) := ⟨by rw [← hWq]; exact (Wk.Blk.new w _ (Ps.tkc Ps.xk)).alloc _⟩
  have HC1 : Aside0 (Kd.C (Kd.int .u8) W1 (some ⟨w.heap.size + 1, 0, none⟩) 1 [107]) := ⟨by
    have h2 : W1.heap[w.heap.size + 1]? = some (.cells #[.int .u8 107] 5 (1, 2)) := by
      rw [← hWq]
      have := heap_alloc_new (w.alloc (.cells #[.int .u32 1, .int .u32 2, .bool false, .int .u64 3] 26)) (.cells #[.int .u8 107] 5 (1, 2))
      rwa [show (w.alloc (.cells #[.int .u32 1, .int .u32 2, .bool false, .int .u64 3] 26)).heap.size = w.heap.size + 1 by show (w.heap.push _).size = _; simp] at this
    exact Lit.reads_block h2 .u8 [107] rfl (by decide)⟩
  clear hWq hcv1
  obtain ⟨s1, HS1⟩ : ∃ s, Aside0 (Ps.iss [107] (1, 2, false, 3) = s) := ⟨_, ⟨rfl⟩⟩
  have HSS : Aside0 (s1.size = 80) := ⟨by rw [← HS1.out]; exact Ps.iss_size _ _⟩
  refine (issue_.calls (some ⟨w.heap.size + 1, 0, none⟩) 1 1 [107] 1 2 false 3 W1 (HK.out.below HB1.out) HC1.out rfl (Nat.le_refl _) (fun x hx => by rw [List.mem_singleton.1 hx]; decide) (by decide) Ps.xk_wf).mono ?_
  rintro e w2 ⟨rfl, hb2⟩
  rw [HS1.out]
  have HB2 := Aside0.mk (below_then HB1.out HB1.out.size hb2)
  have HX2 := Aside0.mk (HX1.out.below_ hb2)
  clear hb2 HB1 HX1 HC1
  go_wp2_with fail
  refine (pass_Look.calls 200 s1 1 2 false 3 0 w2 (by
    rw [Ps.look_is s1 (by rw [HSS.out]; decide) 200 (by rw [HSS.out]; decide), ← HS1.out, Ps.look_iss _ _ Ps.xk_wf])).mono ?_
  rintro e w3 ⟨rfl, hb3⟩
  have HB3 := Aside0.mk (below_then HB2.out HB2.out.size hb3)
  have HX3 := Aside0.mk (HX2.out.below_ hb3)
  clear hb3 HB2 HX2
  have hcv2 := Ps.conv1 w3 (.cells #[.int .u32 1, .int .u32 2, .bool false, .int .u64 3] 26) (.int .u8 108)
  go_wp2_with fail
  generalize hWq : World.alloc (World.alloc (World.alloc w3 _) _) _ = W4
  obtain ⟨e0, e1, e2, hb4⟩ : W4.heap[w3.heap.size]? = some (.cells #[.int .u32 1, .int .u32 2, .bool false, .int .u64 3] 26 (0, 0)) ∧ W4.heap[w3.heap.size + 1]? = some (.cells #[.int .u8 108] 5 (1, 2)) ∧ W4.heap[w3.heap.size + 1 + 1]? = some (.cells #[.int .u32 1, .slice (some ⟨w3.heap.size + 1, 0, none⟩) 1 1, .int .u64 0, .int .u64 5, .slice none 0 0] 42 (0, 0)) ∧ Below w3.heap.size w3 W4 := by rw [← hWq]; exact Ps.heap3 w3 _ _ _
  have HB4 := Aside0.mk (below_then HB3.out HB3.out.size hb4)
  have HX4 := Aside0.mk (HX3.out.below_ hb4)
  have HY4 : Aside0 (Wk.Blk W4 w3.heap.size 26 (Ps.tkc Ps.xk)) := ⟨⟨e0⟩⟩
  have HR4 : Aside0 (Ps.kTn.C W4 (some ⟨w3.heap.size + 1 + 1, 0, none⟩) 1 [Ps.xt]) := ⟨Ps.row1 (T := 42) (A0 := some ⟨w3.heap.size + 1, 0, none⟩) (c0 := 1) (A1 := none) (c1 := 0) ⟨e2⟩ (Nat.le_refl _) (Lit.reads_block e1 .u8 [108] rfl (by decide)) (Nat.le_refl _) (Kd.C_nil _ _)⟩
  clear hWq hcv2 e0 e1 e2 hb4 HB3 HX3
  have hxw : ∀ x ∈ [Ps.xt], Ps.TnWf x := fun x hx => by
    rw [List.mem_singleton.1 hx]
    exact ⟨⟨by decide, by decide⟩, by decide, by decide, fun y hy => by rw [List.mem_singleton.1 hy]; decide⟩
  have HXW := Aside0.mk hxw
  clear hxw
  refine (new_pass.calls (some ⟨w3.heap.size + 1 + 1, 0, none⟩) 1 1 [Ps.xt] W4 HR4.out rfl HXW.out).mono ?_
  rintro e w5 ⟨hb5, ⟨h, -⟩ | ⟨-, h, -⟩ | ⟨-, -, p, rfl, hTb⟩⟩
  · exact absurd h (by decide)
  · exact absurd h (by decide)
  have HB5 := Aside0.mk (below_then HB4.out HB4.out.size hb5)
  have HX5 := Aside0.mk (HX4.out.below_ hb5)
  have HY5 := Aside0.mk (HY4.out.below_ hb5)
  have HT5 := Aside0.mk hTb
  clear hTb hb5 HB4 HX4 HY4 HR4
  go_wp2_with fail
  refine (check_.calls p W4.heap.size [Ps.xt] s1 w5 (HK.out.below HB5.out) HT5.out (by rw [HSS.out]; decide) HXW.out).mono ?_
  rintro e w6 ⟨rfl, hb6⟩
  have HCK : Aside0 (Ps.check [Ps.xt] s1 = (Ps.zt, 52)) := ⟨by rw [← HS1.out]; exact Ps.known_check⟩
  rw [HCK.out]
  have HB6 := Aside0.mk (below_then HB5.out HB5.out.size hb6)
  have HX6 := Aside0.mk (HX5.out.below_ hb6)
  have HY6 := Aside0.mk (HY5.out.below_ hb6)
  clear hb6 HB5 HX5 HY5 HT5
  generalize hWq : World.alloc w6 (.cells #[.int .u32 0, .int .u32 0, .bool false, .int .u64 0] 26) = w7
  have hb7 : Below w6.heap.size w6 w7 := by rw [← hWq]; exact below_alloc (Below.refl _ _) _
  have HB7 := Aside0.mk (below_then HB6.out HB6.out.size hb7)
  have x0 := (HX6.out.below_ hb7).at_ 0 rfl
  have x1 := (HX6.out.below_ hb7).at_ 1 rfl
  have x2 := (HX6.out.below_ hb7).at_ 2 rfl
  have x3 := (HX6.out.below_ hb7).at_ 3 rfl
  have y0 := (HY6.out.below_ hb7).at_ 0 rfl
  have y1 := (HY6.out.below_ hb7).at_ 1 rfl
  have y2 := (HY6.out.below_ hb7).at_ 2 rfl
  have y3 := (HY6.out.below_ hb7).at_ 3 rfl
  simp only [Ps.zt]
  rw [← hWq] at x0 x1 x2 x3 y0 y1 y2 y3 HB7
  clear hb7 hWq
  go_wp2_with fail
  go_ret
  exact ⟨rfl, HB7.out⟩
end Go.Proofs.YtabdnlecpndfjaaDoor
namespace Go.Proofs.YtabdnlecpndfjaaDoor
open Go.ChangeShapes Go.WideShapes Go.ChangeAt Go.RowKit
set_option linter.unusedVariables false
theorem own : ownKnob Tryd.prog.godebug = none := by kernel_rfl
theorem laidOut : laidOutB Tryd.prog = true := by kernel_rfl
abbrev keysLaid : List (String × DataW Unit) := [("coaming/sha.keys", Rows.laid_coaming_sha_keys)]
theorem gKeys : Tryd.prog.globalNamed "coaming/sha.keys" = some 0 := by kernel_rfl
theorem tKeys : (Tryd.prog.globals[0]?).map (·.type) = some 108 := by kernel_rfl
theorem door_met (os : Os) (args : Array Value) : laidMetH Tryd.prog keysLaid ((World.doorLaid Tryd.prog 400 os).forCall (fun _ _ => 0) ⟨#[], args, []⟩).memory :=
  laidMetH_of_parts3 (fuel := 8) (laidMet_of_run' 8 (by kernel_rfl) (by kernel_rfl)) (by kernel_rfl) (by kernel_rfl)
theorem laid_at : (Rows.laid_coaming_sha_keys (H := Unit)) = .agg (Sh.keys.map fun k => .lit (.int .u32 k)) := rfl
theorem of_laid {W : World} (h : laidMetH Tryd.prog keysLaid W) : Sh.Ks W := by
  rw [MakeChecks.laidMetH_plain _ _ _ (by kernel_rfl)] at h
  obtain ⟨ps, ⟨g0, t0, cs0, f0, p0, q0, hg0, ht0, hv0, hd0, _, _⟩, _, _⟩ := h
  obtain rfl := Option.some.inj (gKeys.symm.trans hg0)
  obtain rfl := Option.some.inj (tKeys.symm.trans ht0)
  rw [laid_at] at hd0
  obtain ⟨xs, m1, rfl, hx1, hlen, hn3, hel⟩ := DataW.trod_array Tryd.underlying108 hd0
  have c38 : Tryd.prog.cellsOf 23 = 1 := by kernel_rfl
  intro i hi
  have h0 := hel i hi
  rw [c38, Nat.mul_one] at h0
  simp only [Prod.mk.injEq, DataW.agg.injEq] at hx1
  have hix : i < xs.length := by omega
  rw [List.getElem?_eq_getElem hix] at h0
  obtain ⟨k, e1, e2, _⟩ := DataW.trod_int Tryd.underlying23 h0
  have hk : (xs.map (·.1))[i]? = some (.lit (.int .u32 k)) := by rw [List.getElem?_map, List.getElem?_eq_getElem hix, e2]; rfl
  rw [← hx1.1, List.getElem?_map] at hk
  have hki : Sh.keys[i]? = some (Sh.keys.getD i 0) := by
    rw [List.getD_eq_getElem?_getD, List.getElem?_eq_getElem (by exact hi)]; rfl
  rw [hki] at hk
  have hkk : Sh.keys.getD i 0 = k := by simpa using hk
  rw [World.var?_cell hg0 hv0 i, hkk]
  have hc : (cs0.toList.drop i).take 1 = [.int .u32 k] := e1
  have : cs0.toList[i]? = some (.int .u32 k) := by
    have h2 : ((cs0.toList.drop i).take 1)[0]? = some (.int .u32 k) := by rw [hc]; rfl
    rw [List.getElem?_take, if_pos (by decide), List.getElem?_drop, Nat.add_zero] at h2
    exact h2
  simpa using this
def IsRow (k : IntKind) (w : World) (a : Option Addr) (len cap : Nat) (zs : List Int) : Prop :=
  (a = none ∧ len = 0 ∧ cap = 0 ∧ zs = []) ∨
  ∃ x, a = some x ∧ len ≤ cap ∧ cap ≤ maxLen ∧ zs.length = cap ∧ (∀ i, i < zs.length → w.cell? (x.add i) = some (.int k (zs.getD i 0))) ∧ ∀ n ∈ zs, (Lit.int k n).wf = true
open Go.Proofs.YtabdnlecpndfjaaDoorW.PrintWords in
theorem IsRow.reads {W : World} {a : Option Addr} {len cap : Nat} {zs : List Int} (h : IsRow .u8 W a len cap zs) : ∃ l : List Int, l.length = len ∧ l.length ≤ cap ∧ l.length ≤ 9223372036854775807 ∧ Sh.Bytes l ∧ Kd.C (Kd.int .u8) W a l.length l := by
  rcases h with ⟨rfl, rfl, rfl, rfl⟩ | ⟨x, rfl, h1, h2, h3, h4, h5⟩
  · exact ⟨[], rfl, Nat.le_refl _, by simp, (by intro y hy; cases hy), Kd.C_of_reads (d := 0) ⟨rfl, by simp, fun h => absurd h (by simp)⟩⟩
  · have hm : maxLen ≤ 9223372036854775807 := by decide
    have hl : (zs.take len).length = len := by rw [List.length_take]; omega
    refine ⟨zs.take len, hl, by omega, by omega, ?_, ?_⟩
    · intro y hy
      have := h5 y (List.mem_of_mem_take hy)
      simp only [Lit.wf, IntKind.min, IntKind.max, IntKind.signed, IntKind.bits] at this
      simp at this
      omega
    · refine Kd.C_of_reads (d := 0) ⟨rfl, by omega, fun _ => ⟨x, rfl, fun j hj => ?_⟩⟩
      rw [h4 j (by omega)]
      rw [List.getD_eq_getElem?_getD, List.getD_eq_getElem?_getD, List.getElem?_take, if_pos (by omega)]
end Go.Proofs.YtabdnlecpndfjaaDoor
set_option linter.unusedVariables false
set_option linter.unusedSimpArgs false
namespace Go.Proofs.YtabdnlecpndfjaaDoor.Ps
open Go.RowKit Go.Proofs.YtabdnlecpndfjaaDoor.Sp
def st (ds : List Int) : ByteArray := ⟨(ds.map sg).toArray⟩
theorem signs_of (l : List Int) (hl : l.length = 50) : ∃ ds : List Int, ds.length = 80 ∧ (∀ d ∈ ds, 0 ≤ d ∧ d < 32) ∧ txt l = st ds ∧ ds.flatMap bits5 = bitsOf l := by
  obtain ⟨ds, z, hz, h1, h2, h3⟩ := enc_is_digits _ (BitsOf l)
  have hlen := congrArg List.length h3
  rw [flat5_length, List.length_append, bitsOf_length, List.length_replicate, hl] at hlen
  have hz0 : z = 0 := by omega
  subst hz0
  refine ⟨ds, by omega, h1, by unfold txt st; rw [h2], ?_⟩
  rw [h3]; simp
theorem bits5_inj {a b : Int} (ha : 0 ≤ a ∧ a < 32) (hb : 0 ≤ b ∧ b < 32) (h : bits5 a = bits5 b) : a = b := by
  have := congrArg val h
  rwa [val_bits5 a ha.1 ha.2, val_bits5 b hb.1 hb.2] at this
theorem bits_take (l : List Int) : ∀ n, n ≤ l.length → (bitsOf l).take (8 * n) = bitsOf (l.take n) := by
  induction l with
  | nil => intro n hn; simp [bitsOf]
  | cons x r ih =>
    intro n hn
    cases n with
    | zero => rfl
    | succ n =>
      rw [List.take_succ_cons, bitsOf_cons, bitsOf_cons, show 8 * (n + 1) = (bits8 x).length + 8 * n by show _ = 8 + 8 * n; omega, List.take_length_add_append, ih n (by simpa using hn)]
theorem flip (l : List Int) (hl : l.length = 50) (hb : Sh.Bytes l) (p q : List Int) (d e : Int) (hd : 0 ≤ d ∧ d < 32) (he : 0 ≤ e ∧ e < 32) (hne : e ≠ d) (hp : ∀ x ∈ p, 0 ≤ x ∧ x < 32) (hq : ∀ x ∈ q, 0 ≤ x ∧ x < 32) (h30 : 30 ≤ p.length) (hf : (p ++ d :: q).flatMap bits5 = bitsOf l) :
    ∃ out, readOf (bs (st (p ++ e :: q))) = (out, 0) ∧ out.length = 50 ∧ Sh.Bytes out ∧ out.take 18 = l.take 18 ∧ out.drop 18 ≠ l.drop 18 := by
  have hr : ∀ x ∈ p ++ e :: q, 0 ≤ x ∧ x < 32 := fun x hx => by
    rcases List.mem_append.1 hx with h | h
    · exact hp x h
    · rcases List.mem_cons.1 h with rfl | h
      · exact he
      · exact hq x h
  have hdg : digits (bs (st (p ++ e :: q))) = some (p ++ e :: q) := by
    unfold st
    rw [bs_of, List.map_map]
    exact digits_map _ hr
  obtain ⟨t1, t2, t3, t4, t5⟩ := take8_spec (p ++ e :: q) [] [] (by intro b h; simp at h) (by simp) (by intro b h; simp at h)
  have t1' : bitsOf (take8 (p ++ e :: q) [] []).1 ++ (take8 (p ++ e :: q) [] []).2 = (p ++ e :: q).flatMap bits5 := by simpa [bitsOf] using t1
  have hlp : 5 * (p.length + (q.length + 1)) = 400 := by
    have := congrArg List.length hf
    rw [flat5_length, bitsOf_length, hl, List.length_append, List.length_cons] at this
    omega
  have hlen := congrArg List.length t1'
  rw [List.length_append, bitsOf_length, flat5_length, List.length_append, List.length_cons] at hlen
  have hR : (take8 (p ++ e :: q) [] []).2 = [] := List.eq_nil_of_length_eq_zero (by omega)
  have hO : (take8 (p ++ e :: q) [] []).1.length = 50 := by omega
  have hbo : bitsOf (take8 (p ++ e :: q) [] []).1 = (p ++ e :: q).flatMap bits5 := by rw [← t1', hR, List.append_nil]
  have h18 : (take8 (p ++ e :: q) [] []).1.take 18 = l.take 18 := by
    refine bitsOf_inj _ _ (fun x hx => t4 x (List.mem_of_mem_take hx)) (fun x hx => hb x (List.mem_of_mem_take hx)) ?_
    rw [← bits_take _ 18 (by omega), ← bits_take _ 18 (by omega), hbo, ← hf, List.flatMap_append, List.flatMap_append, List.take_append_of_le_length (by rw [flat5_length]; omega), List.take_append_of_le_length (by rw [flat5_length]; omega)]
  refine ⟨_, ?_, hO, t4, h18, fun hx => ?_⟩
  · unfold readOf
    rw [hdg]
    dsimp only
    rw [hR, if_neg (by simp), if_pos (show val [] = 0 from rfl)]
  · have hall : (take8 (p ++ e :: q) [] []).1 = l := by rw [← List.take_append_drop 18 (take8 (p ++ e :: q) [] []).1, h18, hx, List.take_append_drop]
    rw [hall, ← hf, List.flatMap_append, List.flatMap_append, List.flatMap_cons, List.flatMap_cons] at hbo
    have h2 := List.append_cancel_left hbo
    have h3 := (List.append_inj h2 rfl).1
    exact hne (bits5_inj he hd h3.symm)
theorem flip_check (key : List Int) (t : Tk) (h : TkWf t) (sz : Int) (p q : List Int) (d e : Int) (hd : 0 ≤ d ∧ d < 32) (he : 0 ≤ e ∧ e < 32) (hne : e ≠ d) (hp : ∀ x ∈ p, 0 ≤ x ∧ x < 32) (hq : ∀ x ∈ q, 0 ≤ x ∧ x < 32) (h30 : 30 ≤ p.length) (hf : (p ++ d :: q).flatMap bits5 = bitsOf (sealed key t)) :
    check [⟨t.1, key, 0, sz, []⟩] (st (p ++ e :: q)) = (zt, 52) := by
  obtain ⟨out, h1, h2, h3, h4, h5⟩ := flip (sealed key t) (sealed_len key t) (sealed_bytes key t) p q d e hd he hne hp hq h30 hf
  have hg : got (st (p ++ e :: q)) = out := by unfold got; rw [h1]
  have ho : out = body t ++ out.drop 18 := by rw [← sealed_take key t, ← h4, List.take_append_drop]
  have hfm : form out = true := by
    obtain ⟨a, _, _, _, b⟩ := body_parts t (out.drop 18)
    rw [← ho] at a b
    have := flag_range t.2.2.1
    unfold form
    rw [decide_eq_true_eq]
    exact ⟨h2, a, by omega⟩
  have hi : is (st (p ++ e :: q)) = true := by unfold is; rw [hg, hfm, h1]; rfl
  have ht : tok out = t := by rw [ho]; exact tok_body t _ h
  have hfd : find [(⟨t.1, key, 0, sz, []⟩ : Tn)] t.1 = some ⟨t.1, key, 0, sz, []⟩ := by
    unfold find
    rw [List.find?_cons_of_pos (by simp)]
  rw [check_some hi (x := ⟨t.1, key, 0, sz, []⟩) (by rw [hg, ht]; exact hfd), hg]
  unfold verdict
  rw [h4, sealed_take, if_pos]
  intro hh
  exact h5 (by rw [← hh, sealed_drop])
theorem none_check (key : List Int) (t : Tk) (h : TkWf t) (x : Tn) (hx : x.f0 ≠ t.1) : check [x] (iss key t) = (zt, 51) := by
  rw [check_iss _ _ _ h]
  have hf : find [x] t.1 = none := by
    unfold find
    rw [List.find?_cons_of_neg (by simpa using hx)]
    rfl
  rw [hf]
theorem good_1 (x : Tn) (h : 0 < x.f1.length) : good [] [x] = true := by
  rw [good, good]
  simp [find, h]
theorem xor_ne : ∀ d : Fin 32, ∀ j : Fin 5, 0 ≤ bits .xor .i64 (d.val : Int) (2 ^ j.val) ∧ bits .xor .i64 (d.val : Int) (2 ^ j.val) < 32 ∧ bits .xor .i64 (d.val : Int) (2 ^ j.val) ≠ (d.val : Int) := by decide +kernel
theorem sgk (k : Nat) (h : k < (ByteArray.mk #[97, 98, 99, 100, 101, 102, 103, 104, 105, 106, 107, 108, 109, 110, 111, 112, 113, 114, 115, 116, 117, 118, 119, 120, 121, 122, 50, 51, 52, 53, 54, 55]).size) : (ByteArray.mk #[97, 98, 99, 100, 101, 102, 103, 104, 105, 106, 107, 108, 109, 110, 111, 112, 113, 114, 115, 116, 117, 118, 119, 120, 121, 122, 50, 51, 52, 53, 54, 55])[k]'h = sg (k : Int) := by
  unfold sg sgs
  rw [Int.toNat_natCast, List.getD_eq_getElem?_getD, List.getElem?_eq_getElem (show k < 32 from h)]
  rfl
theorem st_at (ds : List Int) (s : ByteArray) (hs : s = st ds) (p : Nat) (h : p < s.size) (d : Int) (hd : ds[p]? = some d) : s[p]'h = sg d := by
  subst hs
  obtain ⟨hp, rfl⟩ := List.getElem?_eq_some_iff.1 hd
  rw [ByteArray.getElem_eq_getElem_data]
  simp only [st, List.getElem_toArray, List.getElem_map]
theorem sgx (e : Nat) (h : e < 32) : (ByteArray.mk #[97, 98, 99, 100, 101, 102, 103, 104, 105, 106, 107, 108, 109, 110, 111, 112, 113, 114, 115, 116, 117, 118, 119, 120, 121, 122, 50, 51, 52, 53, 54, 55]).extract e (e + 1) = ⟨#[sg (e : Int)]⟩ := by
  have := sgs_extract (e : Int) (by omega) (by omega)
  rwa [Int.toNat_natCast, show ((e : Int) + 1).toNat = e + 1 by omega] at this
theorem sg_ne {k d : Nat} (hk : k < d) (hd : d < 32) : sg (k : Int) ≠ sg (d : Int) := fun h => by
  have := sg_inj k d (by omega) (by omega) (by omega) (by omega) h
  omega
theorem cut_parts (ds : List Int) (p : Nat) (d : Int) (hd : ds[p]? = some d) : ds = ds.take p ++ d :: ds.drop (p + 1) ∧ (ds.take p).length = p := by
  obtain ⟨hp, rfl⟩ := List.getElem?_eq_some_iff.1 hd
  exact ⟨by rw [← List.drop_eq_getElem_cons hp, List.take_append_drop], by rw [List.length_take]; omega⟩
theorem st_parts (p q : List Int) (d e : Int) : (st (p ++ d :: q)).extract 0 p.length ++ ⟨#[sg e]⟩ ++ (st (p ++ d :: q)).extract (p.length + 1) (st (p ++ d :: q)).size = st (p ++ e :: q) := by
  have key : ((st (p ++ d :: q)).extract 0 p.length ++ ⟨#[sg e]⟩ ++ (st (p ++ d :: q)).extract (p.length + 1) (st (p ++ d :: q)).size).data.toList = (st (p ++ e :: q)).data.toList := by
    have hs : (st (p ++ d :: q)).size = p.length + (q.length + 1) := by
      show (ByteArray.mk ((p ++ d :: q).map sg).toArray).size = _
      have : ((p ++ d :: q).map sg).length = p.length + (q.length + 1) := by simp
      rw [← this]
      exact List.size_toArray
    rw [hs]
    simp only [ByteArray.data_append, Array.toList_append, ByteArray.data_extract, st, Array.toList_extract, List.extract_eq_take_drop]
    simp
    rw [show List.map sg p ++ sg d :: List.map sg q = (List.map sg p ++ [sg d]) ++ List.map sg q by simp, List.drop_left' (by simp), List.take_of_length_le (by simp; omega)]
  cases hA : (st (p ++ d :: q)).extract 0 p.length ++ ⟨#[sg e]⟩ ++ (st (p ++ d :: q)).extract (p.length + 1) (st (p ++ d :: q)).size with
  | mk A =>
    cases hB : st (p ++ e :: q) with
    | mk B =>
      rw [hA, hB] at key
      have : A = B := Array.toList_inj.1 key
      rw [this]
end Go.Proofs.YtabdnlecpndfjaaDoor.Ps
set_option linter.unusedVariables false
set_option linter.unusedSimpArgs false
namespace Go.Proofs.YtabdnlecpndfjaaDoor
open Go.RowKit Go.Proofs.YtabdnlecpndfjaaDoor.PBase Go.Proofs.YtabdnlecpndfjaaDoorW.PrintWords Go.Proofs.YtabdnlecpndfjaaDoorW.PrintLast Go.Proofs.YtabdnlecpndfjaaDoorW.PrintMore
set_option maxHeartbeats 4000000 in
set_option maxRecDepth 100000 in
theorem passTags_.calls (x0 : List Int) (v0 : Value) (x1 : Ps.Tk) (cs1 : List Value) (x2 : Int) (W : World) (hk : Sh.Ks W) (hK0 : (Kd.slice 5 (Kd.int .u8)).K W x0 [v0]) (hw0 : x0.length ≤ maxLen ∧ ∀ x ∈ x0, (Lit.int .u8 x).wf = true) (hK1 : Ps.kTk.K W x1 cs1) (hw1 : Ps.TkWf x1) (hw2 : (Lit.int .u8 x2).wf = true) :
    Calls Tryd.prog 6 #[v0, .agg cs1.toArray, .int .u8 x2] W fun e w' => e = .returned (.bool true) ∧ Below W.heap.size W w' := by
  obtain ⟨A0, c0, he0, hlc, hC⟩ := hK0
  obtain rfl : v0 = .slice A0 x0.length c0 := by simpa using he0
  obtain rfl := Ps.tk_cells hK1
  obtain ⟨a, b, ro, d⟩ := x1
  have HW := Aside0.mk hw1
  have HK := Aside0.mk hk
  have HC := Aside0.mk hC
  have HBY := Aside0.mk (Ps.bytes_of hw0.2)
  have HLC := Aside0.mk hlc
  obtain ⟨n, HN⟩ : ∃ n, Aside0 (x0.length = n) := ⟨_, ⟨rfl⟩⟩
  have hx2 : 0 ≤ x2 ∧ x2 ≤ 255 := Ps.bytes_of (l := [x2]) (fun x hx => by rw [List.mem_singleton.1 hx]; exact hw2) x2 (by simp)
  obtain ⟨bt, rfl⟩ := Int.eq_ofNat_of_zero_le hx2.1
  have hbt : bt ≤ 255 := by omega
  rw [HN.out]
  clear hw0 hC he0 hK1 hw1 hk hw2 hlc hx2
  have HA : Aside0 (Below W.heap.size W (W.alloc (.cells #[.int .u32 a, .int .u32 b, .bool ro, .int .u64 d] 26))) := ⟨below_alloc (Below.refl _ _) _⟩
  have HX : Aside0 (Wk.Blk (W.alloc (.cells #[.int .u32 a, .int .u32 b, .bool ro, .int .u64 d] 26)) W.heap.size 26 (Ps.tkc (a, b, ro, d))) := ⟨Wk.Blk.new W _ (Ps.tkc (a, b, ro, d))⟩
  go_enter Tryd.func6, Tryd.ntmps6
  have HSK := Aside0.mk Ps.sizeTk
  have HBT := Aside0.mk hbt
  clear hbt
  by_cases h4 : (n : Int) > 400
  · skip
    go_wp2_with fail
    refine (known_.calls _ (HK.out.below HA.out)).mono ?_
    rintro e w2 ⟨rfl, hb2⟩
    have HB2 := Aside0.mk (below_then HA.out HA.out.size hb2)
    clear hb2
    go_wp2_with fail
    go_ret
    exact ⟨rfl, HB2.out⟩
  by_cases h0 : (n : Int) = 0
  · skip
    go_wp2_with fail
    refine (known_.calls _ (HK.out.below HA.out)).mono ?_
    rintro e w2 ⟨rfl, hb2⟩
    have HB2 := Aside0.mk (below_then HA.out HA.out.size hb2)
    clear hb2
    go_wp2_with fail
    go_ret
    exact ⟨rfl, HB2.out⟩
  have HL : Aside0 (0 < n ∧ n ≤ 400) := ⟨by omega⟩
  go_wp2_with fail
  refine (known_.calls _ (HK.out.below HA.out)).mono ?_
  rintro e w2 ⟨rfl, hb2⟩
  have HB2 := Aside0.mk (below_then HA.out HA.out.size hb2)
  have HX2 := Aside0.mk (HX.out.below_ hb2)
  clear hb2 HA HX h4 h0
  have hrun : (Instr.loadAt 26 (.pointer (some ⟨W.heap.size, 0, none⟩))).run Tryd.prog w2 = .ok (.agg #[.int .u32 a, .int .u32 b, .bool ro, .int .u64 d]) w2 := Wk.run_load_blk (P := Tryd.prog) 26 W.heap.size 0 (Ps.tkc (a, b, ro, d)) _ HX2.out rfl Tryd.underlying26 rfl HSK.out
  go_wp2_with (refine Wk.load rfl 26 (.tmp 4) rfl _ (.pointer (some ⟨W.heap.size, 0, none⟩)) rfl hrun ?_)
  obtain ⟨s1, HS1⟩ : ∃ s, Aside0 (Ps.iss x0 (a, b, ro, d) = s) := ⟨_, ⟨rfl⟩⟩
  have hss : s1.size = 80 := by rw [← HS1.out]; exact Ps.iss_size _ _
  refine (issue_.calls A0 n c0 x0 a b ro d w2 (HK.out.below HB2.out) (Kd.C_below HC.out HB2.out) HN.out (by rw [← HN.out]; exact HLC.out) HBY.out (by have := HL.out; omega) HW.out).mono ?_
  rintro e w6 ⟨rfl, hb6⟩
  rw [HS1.out]
  have HB6 := Aside0.mk (below_then HB2.out HB2.out.size hb6)
  have HX6 := Aside0.mk (HX2.out.below_ hb6)
  clear hb6 HB2 HX2 hrun
  have hszI : (s1.size : Int) = 80 := by omega
  have HSS := Aside0.mk hss
  clear hss
  go_wp2_with fail
  obtain ⟨p, HP⟩ : ∃ p, Aside0 (30 + bt % 49 = p) := ⟨_, ⟨rfl⟩⟩
  have HPR : Aside0 (30 ≤ p ∧ p < 79) := ⟨by have := HP.out; omega⟩
  have ep : wrap64 (30 + (wrap64 (bt : Int)).tmod 49) = ((p : Nat) : Int) := by
    have h1 : wrap64 (bt : Int) = (bt : Int) := by unfold wrap64; have := HBT.out; omega
    have h2 : (bt : Int).tmod 49 = ((bt % 49 : Nat) : Int) := by rw [Int.tmod_eq_emod_of_nonneg (by omega)]; omega
    rw [h1, h2, ← HP.out]
    unfold wrap64
    omega
  rw [ep]
  clear ep
  obtain ⟨ds, HDL, HDR, HDT, HDF⟩ : ∃ ds : List Int, Aside0 (ds.length = 80) ∧ Aside0 (∀ d ∈ ds, 0 ≤ d ∧ d < 32) ∧ Aside0 (s1 = Ps.st ds) ∧ Aside0 (ds.flatMap Sp.bits5 = Sp.bitsOf (Ps.sealed x0 (a, b, ro, d))) := by
    obtain ⟨ds, h1, h2, h3, h4⟩ := Ps.signs_of (Ps.sealed x0 (a, b, ro, d)) (Ps.sealed_len _ _)
    exact ⟨ds, ⟨h1⟩, ⟨h2⟩, ⟨by rw [← HS1.out, ← h3]; rfl⟩, ⟨h4⟩⟩
  obtain ⟨dd, HDD⟩ : ∃ dd : Nat, Aside0 (ds[p]? = some (dd : Int) ∧ dd < 32) := by
    have hp : p < ds.length := by rw [HDL.out]; have := HPR.out; omega
    have := HDR.out _ (List.getElem_mem hp)
    obtain ⟨k, hk⟩ := Int.eq_ofNat_of_zero_le this.1
    exact ⟨k, ⟨by rw [List.getElem?_eq_getElem hp, hk], by omega⟩⟩
  go_loopw [9] (fun v9 wr => ∃ k : Nat, v9 = .int .i64 k ∧ k ≤ dd ∧ Aside0 (Below w6.heap.size w6 wr)) (fun v _ => dd - (intOf v).toNat)
  case atStart => exact ⟨0, rfl, Nat.zero_le _, ⟨Below.refl _ _⟩⟩
  case round =>
    obtain ⟨k, rfl, hk, HBR⟩ := hrel
    have hk32 : (k : Int) < 32 := by have := HDD.out.2; omega
    have hpI : (p : Int) < 80 := by have := HPR.out; omega
    obtain ⟨u, HU⟩ : ∃ u : Int, Aside0 (((sg (k : Int)).toNat : Int) = u) := ⟨_, ⟨rfl⟩⟩
    obtain ⟨v, HV⟩ : ∃ u : Int, Aside0 (((sg (dd : Int)).toNat : Int) = u) := ⟨_, ⟨rfl⟩⟩
    have HST : Aside0 (∀ h : p < s1.size, s1[p]'h = sg (dd : Int)) := ⟨fun h => Ps.st_at ds s1 HDT.out p h dd HDD.out.1⟩
    by_cases hlt : k < dd
    · have hkd : (u == v) = false := by
        rw [beq_eq_false_iff_ne, ← HU.out, ← HV.out]
        intro h
        exact Ps.sg_ne hlt HDD.out.2 (UInt8.toNat_inj.1 (by omega))
      go_wp2_with fail
      refine wp_region_noPanic ?_
      refine start_ (n := 6) (S := (fun w' => Below wr.heap.size wr w')) (ds := []) #[false, false, false, false, false, false] (by kernel_rfl) rfl rfl (Below.refl _ _).drew (fun hHeld => ?_)
      refine pure_ (i := 0) (N := (some 42)) (v := ?_) (a' := ?_) #[true, false, false, false, false, false] rfl rfl (by kernel_rfl) (fun _ _ _ h => h) (Or.inl ⟨by rfl, ?_⟩) ?_ ?_
      rotate_left
      · intro w'
        go_simp
        first | done | with_reducible rfl
      rotate_left
      · simp only [Act.put, List.setIfInBounds_toArray, List.set_cons_zero, List.set_cons_succ]
        rfl
      refine pure_ (i := 1) (N := (some 43)) (v := ?_) (a' := ?_) #[true, true, false, false, false, false] rfl rfl (by kernel_rfl) (fun _ _ _ h => h) (Or.inl ⟨by rfl, ?_⟩) ?_ ?_
      rotate_left
      · intro w'
        (go_simp; conv => lhs; rw [Ps.sgk, HU.out])
        first | done | with_reducible rfl
      rotate_left
      · simp only [Act.put, List.setIfInBounds_toArray, List.set_cons_zero, List.set_cons_succ]
        rfl
      refine pure_ (i := 2) (N := (some 44)) (v := ?_) (a' := ?_) #[true, true, true, false, false, false] rfl rfl (by kernel_rfl) (fun _ _ _ h => h) (Or.inl ⟨by rfl, ?_⟩) ?_ ?_
      rotate_left
      · intro w'
        go_simp
        first | done | with_reducible rfl
      rotate_left
      · simp only [Act.put, List.setIfInBounds_toArray, List.set_cons_zero, List.set_cons_succ]
        rfl
      refine pure_ (i := 3) (N := (some 45)) (v := ?_) (a' := ?_) #[true, true, true, true, false, false] rfl rfl (by kernel_rfl) (fun _ _ _ h => h) (Or.inl ⟨by rfl, ?_⟩) ?_ ?_
      rotate_left
      · intro w'
        go_simp
        first | done | with_reducible rfl
      rotate_left
      · simp only [Act.put, List.setIfInBounds_toArray, List.set_cons_zero, List.set_cons_succ]
        rfl
      refine pure_ (i := 4) (N := (some 46)) (v := ?_) (a' := ?_) #[true, true, true, true, true, false] rfl rfl (by kernel_rfl) (fun _ _ _ h => h) (Or.inl ⟨by rfl, ?_⟩) ?_ ?_
      rotate_left
      · intro w'
        (go_simp; conv => lhs; rw [HST.out, HV.out])
        first | done | with_reducible rfl
      rotate_left
      · simp only [Act.put, List.setIfInBounds_toArray, List.set_cons_zero, List.set_cons_succ]
        rfl
      refine pure_ (i := 5) (N := (some 47)) (v := ?_) (a' := ?_) #[true, true, true, true, true, true] rfl rfl (by kernel_rfl) (fun _ _ _ h => h) (Or.inl ⟨by rfl, ?_⟩) ?_ ?_
      rotate_left
      · intro w'
        go_simp
        first | done | with_reducible rfl
      rotate_left
      · simp only [Act.put, List.setIfInBounds_toArray, List.set_cons_zero, List.set_cons_succ]
        rfl
      refine done_ (by kernel_rfl) ?_
      refine NoPanic.normal ?_
      have HBD := Aside0.mk HBR.out.drew
      generalize wr.drew = wd at *
      go_wp2_with fail
      refine ⟨⟨k + 1, by simp, by omega, HBD⟩, by simp [intOf]; omega⟩
    · obtain rfl : k = dd := by omega
      obtain rfl : u = v := by rw [← HU.out, ← HV.out]
      clear hlt hk
      go_wp2_with fail
      refine wp_region_noPanic ?_
      refine start_ (n := 6) (S := (fun w' => Below wr.heap.size wr w')) (ds := []) #[false, false, false, false, false, false] (by kernel_rfl) rfl rfl (Below.refl _ _).drew (fun hHeld => ?_)
      refine pure_ (i := 0) (N := (some 42)) (v := ?_) (a' := ?_) #[true, false, false, false, false, false] rfl rfl (by kernel_rfl) (fun _ _ _ h => h) (Or.inl ⟨by rfl, ?_⟩) ?_ ?_
      rotate_left
      · intro w'
        go_simp
        first | done | with_reducible rfl
      rotate_left
      · simp only [Act.put, List.setIfInBounds_toArray, List.set_cons_zero, List.set_cons_succ]
        rfl
      refine pure_ (i := 1) (N := (some 43)) (v := ?_) (a' := ?_) #[true, true, false, false, false, false] rfl rfl (by kernel_rfl) (fun _ _ _ h => h) (Or.inl ⟨by rfl, ?_⟩) ?_ ?_
      rotate_left
      · intro w'
        (go_simp; conv => lhs; rw [Ps.sgk, HU.out])
        first | done | with_reducible rfl
      rotate_left
      · simp only [Act.put, List.setIfInBounds_toArray, List.set_cons_zero, List.set_cons_succ]
        rfl
      refine pure_ (i := 2) (N := (some 44)) (v := ?_) (a' := ?_) #[true, true, true, false, false, false] rfl rfl (by kernel_rfl) (fun _ _ _ h => h) (Or.inl ⟨by rfl, ?_⟩) ?_ ?_
      rotate_left
      · intro w'
        go_simp
        first | done | with_reducible rfl
      rotate_left
      · simp only [Act.put, List.setIfInBounds_toArray, List.set_cons_zero, List.set_cons_succ]
        rfl
      refine pure_ (i := 3) (N := (some 45)) (v := ?_) (a' := ?_) #[true, true, true, true, false, false] rfl rfl (by kernel_rfl) (fun _ _ _ h => h) (Or.inl ⟨by rfl, ?_⟩) ?_ ?_
      rotate_left
      · intro w'
        go_simp
        first | done | with_reducible rfl
      rotate_left
      · simp only [Act.put, List.setIfInBounds_toArray, List.set_cons_zero, List.set_cons_succ]
        rfl
      refine pure_ (i := 4) (N := (some 46)) (v := ?_) (a' := ?_) #[true, true, true, true, true, false] rfl rfl (by kernel_rfl) (fun _ _ _ h => h) (Or.inl ⟨by rfl, ?_⟩) ?_ ?_
      rotate_left
      · intro w'
        (go_simp; conv => lhs; rw [HST.out, HV.out])
        first | done | with_reducible rfl
      rotate_left
      · simp only [Act.put, List.setIfInBounds_toArray, List.set_cons_zero, List.set_cons_succ]
        rfl
      refine pure_ (i := 5) (N := (some 47)) (v := ?_) (a' := ?_) #[true, true, true, true, true, true] rfl rfl (by kernel_rfl) (fun _ _ _ h => h) (Or.inl ⟨by rfl, ?_⟩) ?_ ?_
      rotate_left
      · intro w'
        go_simp
        first | done | with_reducible rfl
      rotate_left
      · simp only [Act.put, List.setIfInBounds_toArray, List.set_cons_zero, List.set_cons_succ]
        rfl
      refine done_ (by kernel_rfl) ?_
      refine NoPanic.normal ?_
      have HBD := Aside0.mk HBR.out.drew
      generalize wr.drew = wd at *
      go_wp2_with fail
      have hk32' : k < 32 := HDD.out.2
      obtain ⟨e, HE, HE2⟩ : ∃ e : Nat, Aside0 (bits .xor .i64 (k : Int) (wrap64 (2 ^ (bt / 49 % 256 % 5))) = (e : Int)) ∧ Aside0 (e < 32 ∧ e ≠ k) := by
        have hj : bt / 49 % 256 % 5 < 5 := Nat.mod_lt _ (by decide)
        obtain ⟨h1, h2, h3⟩ := Ps.xor_ne ⟨k, hk32'⟩ ⟨_, hj⟩
        have hwr : ∀ j : Nat, j < 5 → wrap64 (2 ^ j) = 2 ^ j := by
          intro j hj
          rcases (show j = 0 ∨ j = 1 ∨ j = 2 ∨ j = 3 ∨ j = 4 by omega) with rfl | rfl | rfl | rfl | rfl <;> kernel_rfl
        rw [hwr _ hj]
        obtain ⟨e, he⟩ := Int.eq_ofNat_of_zero_le h1
        dsimp only at he h2 h3
        exact ⟨e, ⟨he⟩, ⟨by omega, fun hh => h3 (by omega)⟩⟩
      rw [HE.out]
      have heI : (e : Int) < 32 := by have := HE2.out.1; omega
      have hpL : (p : Int) < 79 := by have := HPR.out.2; omega
      have hp80 : (p : Int) ≤ 80 := by omega
      have he1 : (e : Int) + 1 ≤ 32 := by omega
      have he0 : 0 ≤ (e : Int) + 1 := by omega
      have hee : (e : Int) ≤ (e : Int) + 1 := by omega
      have hp1 : (p : Int) + 1 ≤ 80 := by omega
      have hp0 : 0 ≤ (p : Int) + 1 := by omega
      have hew : IntKind.i64.wrap ((e : Int) + 1) = ((e + 1 : Nat) : Int) := by rw [i64_w]; unfold wrap64; omega
      have hpw : IntKind.i64.wrap ((p : Int) + 1) = ((p + 1 : Nat) : Int) := by rw [i64_w]; unfold wrap64; omega
      refine wp_region_noPanic ?_
      refine start_ (n := 14) (S := (fun w' => Below wd.heap.size wd w')) (ds := []) #[false, false, false, false, false, false, false, false, false, false, false, false, false, false] (by kernel_rfl) rfl rfl (Below.refl _ _).drew (fun hHeld => ?_)
      refine pure_ (i := 0) (N := (some 56)) (v := ?_) (a' := ?_) #[true, false, false, false, false, false, false, false, false, false, false, false, false, false] rfl rfl (by kernel_rfl) (fun _ _ _ h => h) (Or.inl ⟨by rfl, ?_⟩) ?_ ?_
      rotate_left
      · intro w'
        go_simp
        first | done | with_reducible rfl
      rotate_left
      · simp only [Act.put, List.setIfInBounds_toArray, List.set_cons_zero, List.set_cons_succ]
        rfl
      refine pure_ (i := 1) (N := (some 57)) (v := ?_) (a' := ?_) #[true, true, false, false, false, false, false, false, false, false, false, false, false, false] rfl rfl (by kernel_rfl) (fun _ _ _ h => h) (Or.inl ⟨by rfl, ?_⟩) ?_ ?_
      rotate_left
      · intro w'
        go_simp
        first | done | with_reducible rfl
      rotate_left
      · simp only [Act.put, List.setIfInBounds_toArray, List.set_cons_zero, List.set_cons_succ]
        rfl
      refine pure_ (i := 2) (N := (some 58)) (v := ?_) (a' := ?_) #[true, true, true, false, false, false, false, false, false, false, false, false, false, false] rfl rfl (by kernel_rfl) (fun _ _ _ h => h) (Or.inl ⟨by rfl, ?_⟩) ?_ ?_
      rotate_left
      · intro w'
        go_simp
        first | done | with_reducible rfl
      rotate_left
      · simp only [Act.put, List.setIfInBounds_toArray, List.set_cons_zero, List.set_cons_succ]
        rfl
      refine pure_ (i := 3) (N := (some 59)) (v := ?_) (a' := ?_) #[true, true, true, true, false, false, false, false, false, false, false, false, false, false] rfl rfl (by kernel_rfl) (fun _ _ _ h => h) (Or.inl ⟨by rfl, ?_⟩) ?_ ?_
      rotate_left
      · intro w'
        go_simp
        first | done | with_reducible rfl
      rotate_left
      · simp only [Act.put, List.setIfInBounds_toArray, List.set_cons_zero, List.set_cons_succ]
        rfl
      refine pure_ (i := 4) (N := (some 60)) (v := ?_) (a' := ?_) #[true, true, true, true, true, false, false, false, false, false, false, false, false, false] rfl rfl (by kernel_rfl) (fun _ _ _ h => h) (Or.inl ⟨by rfl, ?_⟩) ?_ ?_
      rotate_left
      · intro w'
        go_simp
        first | done | with_reducible rfl
      rotate_left
      · simp only [Act.put, List.setIfInBounds_toArray, List.set_cons_zero, List.set_cons_succ]
        rfl
      refine pure_ (i := 5) (N := (some 61)) (v := ?_) (a' := ?_) #[true, true, true, true, true, true, false, false, false, false, false, false, false, false] rfl rfl (by kernel_rfl) (fun _ _ _ h => h) (Or.inl ⟨by rfl, ?_⟩) ?_ ?_
      rotate_left
      · intro w'
        go_simp
        first | done | with_reducible rfl
      rotate_left
      · simp only [Act.put, List.setIfInBounds_toArray, List.set_cons_zero, List.set_cons_succ]
        rfl
      refine pure_ (i := 6) (N := (some 62)) (v := ?_) (a' := ?_) #[true, true, true, true, true, true, true, false, false, false, false, false, false, false] rfl rfl (by kernel_rfl) (fun _ _ _ h => h) (Or.inl ⟨by rfl, ?_⟩) ?_ ?_
      rotate_left
      · intro w'
        (go_simp; rw [Ps.sgx e HE2.out.1])
        first | done | with_reducible rfl
      rotate_left
      · simp only [Act.put, List.setIfInBounds_toArray, List.set_cons_zero, List.set_cons_succ]
        rfl
      refine pure_ (i := 7) (N := (some 63)) (v := ?_) (a' := ?_) #[true, true, true, true, true, true, true, true, false, false, false, false, false, false] rfl rfl (by kernel_rfl) (fun _ _ _ h => h) (Or.inl ⟨by rfl, ?_⟩) ?_ ?_
      rotate_left
      · intro w'
        (go_simp; rw [if_neg (by have := HPR.out.2; omega)])
        first | done | with_reducible rfl
      rotate_left
      · simp only [Act.put, List.setIfInBounds_toArray, List.set_cons_zero, List.set_cons_succ]
        rfl
      refine pure_ (i := 8) (N := (some 64)) (v := ?_) (a' := ?_) #[true, true, true, true, true, true, true, true, true, false, false, false, false, false] rfl rfl (by kernel_rfl) (fun _ _ _ h => h) (Or.inl ⟨by rfl, ?_⟩) ?_ ?_
      rotate_left
      · intro w'
        go_simp
        first | done | with_reducible rfl
      rotate_left
      · simp only [Act.put, List.setIfInBounds_toArray, List.set_cons_zero, List.set_cons_succ]
        rfl
      refine pure_ (i := 9) (N := (some 65)) (v := ?_) (a' := ?_) #[true, true, true, true, true, true, true, true, true, true, false, false, false, false] rfl rfl (by kernel_rfl) (fun _ _ _ h => h) (Or.inl ⟨by rfl, ?_⟩) ?_ ?_
      rotate_left
      · intro w'
        go_simp
        first | done | with_reducible rfl
      rotate_left
      · simp only [Act.put, List.setIfInBounds_toArray, List.set_cons_zero, List.set_cons_succ]
        rfl
      refine pure_ (i := 10) (N := (some 66)) (v := ?_) (a' := ?_) #[true, true, true, true, true, true, true, true, true, true, true, false, false, false] rfl rfl (by kernel_rfl) (fun _ _ _ h => h) (Or.inl ⟨by rfl, ?_⟩) ?_ ?_
      rotate_left
      · intro w'
        go_simp
        first | done | with_reducible rfl
      rotate_left
      · simp only [Act.put, List.setIfInBounds_toArray, List.set_cons_zero, List.set_cons_succ]
        rfl
      refine pure_ (i := 11) (N := (some 67)) (v := ?_) (a' := ?_) #[true, true, true, true, true, true, true, true, true, true, true, true, false, false] rfl rfl (by kernel_rfl) (fun _ _ _ h => h) (Or.inl ⟨by rfl, ?_⟩) ?_ ?_
      rotate_left
      · intro w'
        go_simp
        first | done | with_reducible rfl
      rotate_left
      · simp only [Act.put, List.setIfInBounds_toArray, List.set_cons_zero, List.set_cons_succ]
        rfl
      refine pure_ (i := 12) (N := (some 68)) (v := ?_) (a' := ?_) #[true, true, true, true, true, true, true, true, true, true, true, true, true, false] rfl rfl (by kernel_rfl) (fun _ _ _ h => h) (Or.inl ⟨by rfl, ?_⟩) ?_ ?_
      rotate_left
      · intro w'
        (go_simp; rw [if_neg (by have := HPR.out.2; have := HSS.out; omega)])
        first | done | with_reducible rfl
      rotate_left
      · simp only [Act.put, List.setIfInBounds_toArray, List.set_cons_zero, List.set_cons_succ]
        rfl
      refine pure_ (i := 13) (N := (some 10)) (v := ?_) (a' := ?_) #[true, true, true, true, true, true, true, true, true, true, true, true, true, true] rfl rfl (by kernel_rfl) (fun _ _ _ h => h) (Or.inl ⟨by rfl, ?_⟩) ?_ ?_
      rotate_left
      · intro w'
        go_simp
        first | done | with_reducible rfl
      rotate_left
      · simp only [Act.put, List.setIfInBounds_toArray, List.set_cons_zero, List.set_cons_succ]
        rfl
      refine done_ (by kernel_rfl) ?_
      refine NoPanic.normal ?_
      obtain ⟨s2, HS2⟩ : ∃ s, Aside0 (s1.extract 0 p ++ ⟨#[sg (e : Int)]⟩ ++ s1.extract (p + 1) s1.size = s) := ⟨_, ⟨rfl⟩⟩
      rw [HS2.out]
      have HCK : Aside0 (s2.size = 80 ∧ Ps.check [⟨a, x0, 0, 18446744073709551615, []⟩] s2 = (Ps.zt, 52)) := ⟨by
        obtain ⟨hc1, hc2⟩ := Ps.cut_parts ds p k HDD.out.1
        have hs2 : s2 = Ps.st (ds.take p ++ (e : Int) :: ds.drop (p + 1)) := by
          rw [← HS2.out]
          have := Ps.st_parts (ds.take p) (ds.drop (p + 1)) (k : Int) (e : Int)
          rw [← hc1, hc2, ← HDT.out] at this
          exact this
        have hf := HDF.out
        rw [hc1] at hf
        refine ⟨?_, ?_⟩
        · rw [hs2]
          show (ByteArray.mk ((ds.take p ++ (e : Int) :: ds.drop (p + 1)).map sg).toArray).size = 80
          have : ((ds.take p ++ (e : Int) :: ds.drop (p + 1)).map sg).length = 80 := by
            rw [List.length_map, List.length_append, List.length_cons, hc2, List.length_drop, HDL.out]
            have := HPR.out
            omega
          rw [← this]
          exact List.size_toArray
        · rw [hs2]
          exact Ps.flip_check x0 (a, b, ro, d) HW.out 18446744073709551615 (ds.take p) (ds.drop (p + 1)) (k : Int) (e : Int) ⟨by omega, hk32⟩ ⟨by omega, heI⟩ (fun h => HE2.out.2 (by omega)) (fun x hx => HDR.out x (List.mem_of_mem_take hx)) (fun x hx => HDR.out x (List.mem_of_mem_drop hx)) (by rw [hc2]; exact HPR.out.1) hf⟩
      have HB7 : Aside0 (Below W.heap.size W wd.drew) := ⟨(HB6.out.trans (HBD.out.mono HB6.out.size)).drew⟩
      have HX7 : Aside0 (Wk.Blk wd.drew W.heap.size 26 (Ps.tkc (a, b, ro, d))) := ⟨(HX6.out.below_ HBD.out).drew⟩
      clear hHeld HBD HBR HB6 HX6 HS2 hew hpw hp80 he1 he0 hee hp1 hp0 hpL heI hk32' hk32 hpI HU HV HST HE HE2 HDD HDR HDF HDL HDT HPR HP
      generalize wd.drew = w7 at *
      have a0 := HX7.out.at_ 0 rfl
      simp only at a0
      go_wp2_with fail
      clear a0
      generalize hWq : World.alloc w7 _ = w8
      have hb8 : Below w7.heap.size w7 w8 := by rw [← hWq]; exact below_alloc (Below.refl _ _) _
      have hY8 : Wk.Blk w8 w7.heap.size 42 [.int .u32 a, .slice A0 n c0, .int .u64 0, .int .u64 18446744073709551615, .slice none 0 0] := by rw [← hWq]; exact Wk.Blk.new w7 _ _
      have HB8 := Aside0.mk (below_then HB7.out HB7.out.size hb8)
      have HX8 := Aside0.mk (HX7.out.below_ hb8)
      have HR8 : Aside0 (Ps.kTn.C w8 (some ⟨w7.heap.size, 0, none⟩) 1 [⟨a, x0, 0, 18446744073709551615, []⟩]) := ⟨Ps.row1 (x := ⟨a, x0, 0, 18446744073709551615, []⟩) (T := 42) (A0 := A0) (c0 := c0) (A1 := none) (c1 := 0) (by simp only [Ps.tnc]; rw [HN.out]; exact hY8) HLC.out (Kd.C_below HC.out HB8.out) (Nat.le_refl _) (Kd.C_nil _ _)⟩
      have HXW : Aside0 (∀ i : Int, 0 ≤ i ∧ i < 4294967296 → ∀ x ∈ [(⟨i, x0, 0, 18446744073709551615, []⟩ : Ps.Tn)], Ps.TnWf x) := ⟨fun i hi x hx => by
        rw [List.mem_singleton.1 hx]
        exact ⟨hi, by show x0.length ≤ 1000; rw [HN.out]; have := HL.out; omega, by show 0 ≤ 1000; decide, HBY.out⟩⟩
      have HGO : Aside0 (∀ i : Int, Ps.good [] [(⟨i, x0, 0, 18446744073709551615, []⟩ : Ps.Tn)] = true) := ⟨fun i => Ps.good_1 _ (by show 0 < x0.length; rw [HN.out]; exact HL.out.1)⟩
      clear hWq hb8 hY8 HB7 HX7
      refine (new_pass.calls (some ⟨w7.heap.size, 0, none⟩) 1 1 [⟨a, x0, 0, 18446744073709551615, []⟩] w8 HR8.out rfl (HXW.out a HW.out.1)).mono ?_
      rintro e w9 ⟨hb9, ⟨h, -⟩ | ⟨-, h, -⟩ | ⟨-, -, p1, rfl, hTb⟩⟩
      · exact absurd h (by decide)
      · rw [HGO.out] at h
        cases h
      have HB9 := Aside0.mk (below_then HB8.out HB8.out.size hb9)
      have HX9 := Aside0.mk (HX8.out.below_ hb9)
      have HT9 := Aside0.mk hTb
      obtain ⟨bs1, HBS⟩ : ∃ b, Aside0 (w8.heap.size = b) := ⟨_, ⟨rfl⟩⟩
      rw [HBS.out] at HT9
      clear hTb hb9 HB8 HX8 HR8 HBS
      obtain ⟨a2, HA2, HA3⟩ : ∃ a2, Aside0 ((a + 1) % 4294967296 = a2) ∧ Aside0 ((0 ≤ a2 ∧ a2 < 4294967296) ∧ a2 ≠ a) := ⟨_, ⟨rfl⟩, ⟨by
        have := HW.out.1
        dsimp only at this
        omega⟩⟩
      have a0 := HX9.out.at_ 0 rfl
      simp only at a0
      go_wp2_with fail
      rw [HA2.out]
      clear a0
      generalize hWq : World.alloc w9 _ = w10
      have hb10 : Below w9.heap.size w9 w10 := by rw [← hWq]; exact below_alloc (Below.refl _ _) _
      have hY10 : Wk.Blk w10 w9.heap.size 42 [.int .u32 a2, .slice A0 n c0, .int .u64 0, .int .u64 18446744073709551615, .slice none 0 0] := by rw [← hWq]; exact Wk.Blk.new w9 _ _
      have HB10 := Aside0.mk (below_then HB9.out HB9.out.size hb10)
      have HT10 := Aside0.mk (HT9.out.below hb10)
      have HR10 : Aside0 (Ps.kTn.C w10 (some ⟨w9.heap.size, 0, none⟩) 1 [⟨a2, x0, 0, 18446744073709551615, []⟩]) := ⟨Ps.row1 (x := ⟨a2, x0, 0, 18446744073709551615, []⟩) (T := 42) (A0 := A0) (c0 := c0) (A1 := none) (c1 := 0) (by simp only [Ps.tnc]; rw [HN.out]; exact hY10) HLC.out (Kd.C_below HC.out HB10.out) (Nat.le_refl _) (Kd.C_nil _ _)⟩
      clear hWq hb10 hY10 HB9 HX9 HT9
      refine (new_pass.calls (some ⟨w9.heap.size, 0, none⟩) 1 1 [⟨a2, x0, 0, 18446744073709551615, []⟩] w10 HR10.out rfl (HXW.out a2 HA3.out.1)).mono ?_
      rintro e w11 ⟨hb11, ⟨h, -⟩ | ⟨-, h, -⟩ | ⟨-, -, p2, rfl, hTb⟩⟩
      · exact absurd h (by decide)
      · rw [HGO.out] at h
        cases h
      have HB11 := Aside0.mk (below_then HB10.out HB10.out.size hb11)
      have HT11 := Aside0.mk (HT10.out.below hb11)
      have HU11 := Aside0.mk hTb
      obtain ⟨bs2, HBS⟩ : ∃ b, Aside0 (w10.heap.size = b) := ⟨_, ⟨rfl⟩⟩
      rw [HBS.out] at HU11
      clear hTb hb11 HB10 HT10 HR10 HBS HA2
      go_wp2_with fail
      refine (check_.calls p1 bs1 [⟨a, x0, 0, 18446744073709551615, []⟩] s2 w11 (HK.out.below HB11.out) HT11.out (by rw [HCK.out.1]; decide) (HXW.out a HW.out.1)).mono ?_
      rintro e w12 ⟨rfl, hb12⟩
      rw [HCK.out.2]
      have HB12 := Aside0.mk (below_then HB11.out HB11.out.size hb12)
      have HU12 := Aside0.mk (HU11.out.below hb12)
      clear hb12 HB11 HT11 HU11
      simp only [Ps.zt]
      go_wp2_with fail
      generalize hWq : World.alloc w12 _ = w13
      have hb13 : Below w12.heap.size w12 w13 := by rw [← hWq]; exact below_alloc (Below.refl _ _) _
      have HB13 := Aside0.mk (below_then HB12.out HB12.out.size hb13)
      have HU13 := Aside0.mk (HU12.out.below hb13)
      clear hWq hb13 HB12 HU12
      refine (check_.calls p2 bs2 [⟨a2, x0, 0, 18446744073709551615, []⟩] s1 w13 (HK.out.below HB13.out) HU13.out (by rw [HSS.out]; decide) (HXW.out a2 HA3.out.1)).mono ?_
      rintro e w14 ⟨rfl, hb14⟩
      have HN51 : Aside0 (Ps.check [⟨a2, x0, 0, 18446744073709551615, []⟩] s1 = (Ps.zt, 51)) := ⟨by rw [← HS1.out]; exact Ps.none_check x0 (a, b, ro, d) HW.out _ HA3.out.2⟩
      rw [HN51.out]
      have HB14 := Aside0.mk ((below_then HB13.out HB13.out.size hb14).alloc (below_then HB13.out HB13.out.size hb14).size (.cells #[.int .u32 0, .int .u32 0, .bool false, .int .u64 0] 26))
      clear hb14 HB13 HU13
      simp only [Ps.zt]
      go_wp2_with fail
      go_ret
      exact ⟨rfl, HB14.out⟩
end Go.Proofs.YtabdnlecpndfjaaDoor
