/- What the law's proof stands on, part 4: PassC, PassK, PassRow, PassF, PassL4 (laid together by wip/pack.py). -/
import Derived.Test.YtabdnlecpndfjaaDoorRows
import Derived.Test.YtabdnlecpndfjaaDoorCards
import Derived.Test.YtabdnlecpndfjaaDoorTie
import Derived.Test.YtabdnlecpndfjaaDoorXPassApartP3
import Derived.ProofKit
import Derived.LaidMore
import Derived.OpenShut
import Derived.Stop.Joined
import Derived.SevenTiedAt
import Derived.SizedLaws
set_option linter.unusedVariables false
set_option linter.unusedSimpArgs false
namespace Go.Proofs.YtabdnlecpndfjaaDoor
open Go.RowKit Go.Proofs.YtabdnlecpndfjaaDoor.PBase Go.Proofs.YtabdnlecpndfjaaDoorW.PrintWords Go.Proofs.YtabdnlecpndfjaaDoorW.PrintLast Go.Proofs.YtabdnlecpndfjaaDoorW.PrintMore
namespace Ps
theorem same1_ {A0 A1 : Option Addr} {n0 n1 c0 c1 : Nat} {l0 l1 : List Int} {w : World} (h0 : Kd.C (Kd.int .u8) w A0 l0.length l0) (hn0 : l0.length = n0) (hc0 : n0 ≤ c0) (h1 : Kd.C (Kd.int .u8) w A1 l1.length l1) (hn1 : l1.length = n1) (hc1 : n1 ≤ c1) (hm : n0 ≤ 4611686018427387904) (hb0 : Sh.Bytes l0) (hb1 : Sh.Bytes l1) {b : Bool} (hb : decide (l0 = l1) = b) :
    Calls Tryd.prog 35 #[.slice A0 n0 c0, .slice A1 n1 c1] w fun e w' => e = .returned (.bool b) ∧ Below w.heap.size w w' := by
  subst hn0; subst hn1; subst hb
  exact (same_.calls A0 c0 l0 A1 c1 l1 w h0 hc0 h1 hc1 hm hb0 hb1).mono (fun _ _ ⟨a, m, hm⟩ => ⟨a, by rw [hm]; exact pw_below_drewN (Below.refl _ _) m⟩)
theorem cont_ {A : Option Addr} {n c : Nat} {l : List Int} {x : Int} {w : World} (h : Kd.C (Kd.int .u32) w A l.length l) (hn : l.length = n) (hc : n ≤ c) (hm : n ≤ 1000000) {b : Bool} (hb : decide (x ∈ l) = b) :
    Calls Tryd.prog 36 #[.slice A n c, .int .u32 x] w fun e w' => e = .returned (.bool b) ∧ Below w.heap.size w w' := by
  subst hn; subst hb
  exact (slices_Contains_uint32_uint32.calls (l.length + 1) A c l x _ w h hc (contains_is l x hm _ (Nat.lt_succ_self _))).mono (fun _ _ ⟨a, h⟩ => ⟨a, by obtain ⟨m, hm⟩ := h.out; rw [hm]; exact pw_below_drewN (Below.refl _ _) m⟩)
theorem token_ {A : Option Addr} {n c : Nat} {l : List Int} {w : World} (h : Kd.C (Kd.int .u8) w A l.length l) (hn : l.length = n) (hc : n ≤ c) (hb : Sh.Bytes l) (h18 : 18 ≤ n) {a b d : Int} {ro : Bool} (ht : tok l = (a, b, ro, d)) :
    Calls Tryd.prog 31 #[.slice A n c] w fun e w' => e = .returned (.agg #[.int .u32 a, .int .u32 b, .bool ro, .int .u64 d]) ∧ Below w.heap.size w w' := by
  subst hn
  exact pass_token.calls 10 A c l a b ro d w h hc ((token_is l hb h18 10 (by decide)).trans (by rw [ht]))
theorem cutTo {A : Option Addr} {n c : Nat} {l : List Int} (hn : l.length = n) (h : 18 ≤ n) (hc : n ≤ c) : ∀ W : World, (Instr.slice 22 (.slice A n c) none (some (.int .i64 18)) none).run Tryd.prog W = .ok (.slice A 18 c) W := by
  subst hn
  exact Wk.cut_to_ 22 5 .i64 Tryd.underlying22 (by kernel_rfl) A c l 18 18 rfl h hc
theorem cutFrom {A : Option Addr} {n c : Nat} {l : List Int} (hn : l.length = n) (h : 18 ≤ n) (hc : n ≤ c) : ∃ A' : Option Addr, (∀ W : World, (Instr.slice 22 (.slice A n c) (some (.int .i64 18)) none none).run Tryd.prog W = .ok (.slice A' (n - 18) (c - 18)) W) ∧
      ∀ W : World, Kd.C (Kd.int .u8) W A l.length l → Kd.C (Kd.int .u8) W A' (l.drop 18).length (l.drop 18) := by
  subst hn
  exact Wk.cut_from_ 22 5 .i64 Tryd.underlying22 (by kernel_rfl) .u8 A c l 18 18 rfl h hc
abbrev zt4 : List Value := [.int .u32 0, .int .u32 0, .bool false, .int .u64 0]
def ChPost (w : World) (l : List Tn) (s : ByteArray) (e : Ending) (w' : World) : Prop :=
  e = .returned (.tuple #[.agg (tkc (check l s).1).toArray, .int .u16 (check l s).2]) ∧ Below w.heap.size w w'
theorem check_form {l : List Tn} {s : ByteArray} (h : ¬ is s = true) : check l s = (zt, 50) := if_neg h
theorem check_none {l : List Tn} {s : ByteArray} (h : is s = true) (hf : find l (tok (got s)).1 = none) : check l s = (zt, 51) := by
  unfold check
  rw [if_pos h, hf]
theorem check_some {l : List Tn} {s : ByteArray} (h : is s = true) {x : Tn} (hf : find l (tok (got s)).1 = some x) : check l s = verdict x (got s) := by
  unfold check
  rw [if_pos h, hf]
end Ps
set_option maxHeartbeats 4000000 in
set_option maxRecDepth 100000 in
theorem check_.calls (p base : Nat) (l : List Ps.Tn) (s : ByteArray) (w : World) (hk : Sh.Ks w) (hT : Ps.Tb w base p l) (hs : s.size ≤ 1000000) (hW : ∀ x ∈ l, Ps.TnWf x) :
    Calls Tryd.prog 16 #[.pointer (some ⟨p, 0, none⟩), .string s] w (Ps.ChPost w l s) := by
  obtain ⟨bm, _, _, hP, hM⟩ := hT
  have HP := Aside0.mk hP
  have HM := Aside0.mk hM
  have HK := Aside0.mk hk
  have HW := Aside0.mk hW
  have HSZ := Aside0.mk Ps.sizeTn
  have HSK := Aside0.mk Ps.sizeTk
  have HZ4 : Aside0 (Below w.heap.size w (w.alloc (.cells Ps.zt4.toArray 26))) := ⟨below_alloc (Below.refl _ _) _⟩
  have HX4 : Aside0 (Wk.Blk (w.alloc (.cells Ps.zt4.toArray 26)) w.heap.size 26 Ps.zt4) := ⟨Wk.Blk.new w _ Ps.zt4⟩
  clear hP hM hk hW
  go_enter Tryd.func16, Tryd.ntmps16
  go_wp2_with fail
  refine (pass_read.calls (s.size + 2) s (Ps.got s) (Ps.is s) _ (Ps.read_is s hs _ (Nat.lt_succ_self _))).mono ?_
  rintro e w2 ⟨v2, rfl, hR2, hb2⟩
  obtain ⟨A2, c2, rfl⟩ := Kd.R_slice hR2
  obtain ⟨m, HMM⟩ : ∃ n, Aside0 ((Ps.got s).length = n) := ⟨_, ⟨rfl⟩⟩
  have HX2 := Aside0.mk (HX4.out.below_ hb2)
  have HB2 := Aside0.mk (below_then HZ4.out HZ4.out.size hb2)
  obtain ⟨hc2, hC2⟩ : (Ps.got s).length ≤ c2 ∧ Kd.C (Kd.int .u8) w2 A2 (Ps.got s).length (Ps.got s) := by
    obtain ⟨A', c', he, h1, h2⟩ := Kd.R_reads hR2
    injection he with e1 e2 e3
    subst e1; subst e3
    exact ⟨h1, h2⟩
  rw [HMM.out] at hc2 ⊢
  have HC2 := Aside0.mk hC2
  obtain ⟨fi, HFI⟩ : ∃ b, Aside0 (Ps.is s = b) := ⟨_, ⟨rfl⟩⟩
  rw [HFI.out]
  clear hR2 hb2 hC2 HZ4 HX4
  cases fi with
  | false =>
    go_wp2_with (refine Wk.store_all rfl rfl 26 (.tmp 4) (.tmp 19) rfl w.heap.size Ps.zt4 rfl rfl 26 _ HX2.out HSK.out rfl rfl ?_; intro wz hX hO; have HXZ := Aside0.mk hX; have HOZ := Aside0.mk hO; clear hX hO)
    refine bodyPost_ret (Wk.res_ct rfl _ w.heap.size 26 _ _ rfl HXZ.out Tryd.underlying26 rfl HSK.out) rfl ?_
    refine ⟨?_, Wk.Only.below HB2.out HOZ.out (Nat.le_refl _)⟩
    rw [Ps.check_form (by rw [HFI.out]; exact Bool.false_ne_true)]
    rfl
  | true =>
    obtain ⟨hfm, hgb, -⟩ := Ps.got_of s HFI.out
    have hm50 : m = 50 := by
      unfold Ps.form at hfm
      rw [decide_eq_true_eq] at hfm
      rw [← HMM.out]
      exact hfm.1
    have HGB := Aside0.mk hgb
    have HM50 := Aside0.mk hm50
    have hwf := Ps.tok_wf _ hgb
    obtain ⟨tk, HTK⟩ : ∃ t, Aside0 (Ps.tok (Ps.got s) = t) := ⟨_, ⟨rfl⟩⟩
    rw [HTK.out] at hwf
    obtain ⟨ti, se, ro, sz⟩ := tk
    have HTW : Aside0 ((0 ≤ ti ∧ ti < 4294967296) ∧ (0 ≤ se ∧ se < 4294967296) ∧ (0 ≤ sz ∧ sz < 18446744073709551616)) := ⟨hwf⟩
    clear hwf
    clear hfm hgb hm50 hs
    go_wp2_with fail
    refine (Ps.token_ HC2.out HMM.out hc2 HGB.out (by rw [HM50.out]; decide) HTK.out).mono ?_
    rintro e w3 ⟨rfl, hb3⟩
    have HB3 := Aside0.mk (below_then HB2.out HB2.out.size hb3)
    have HX3 := Aside0.mk (HX2.out.below_ hb3)
    have HC3 := Aside0.mk (Kd.C_below HC2.out hb3)
    clear hb3 HX2 HC2 HB2
    go_wp2_with fail
    generalize hWq : World.alloc w3 _ = w4
    have HB4 : Aside0 (Below w.heap.size w w4) := ⟨by rw [← hWq]; exact HB3.out.alloc HB3.out.size _⟩
    have HBD : Aside0 (Below w3.heap.size w3 w4) := ⟨by rw [← hWq]; exact below_alloc (Below.refl _ _) _⟩
    have HK4 : Aside0 (Wk.Blk w4 w3.heap.size 26 (Ps.tkc (ti, se, ro, sz))) := ⟨by rw [← hWq]; exact Wk.Blk.new w3 _ (Ps.tkc (ti, se, ro, sz))⟩
    have HX4 := Aside0.mk (HX3.out.below_ HBD.out)
    have HC4 := Aside0.mk (Kd.C_below HC3.out HBD.out)
    have HP4 := Aside0.mk (HP.out.below_ HB4.out)
    obtain ⟨g8, HG8⟩ : ∃ b, Aside0 (w3.heap.size = b) := ⟨_, ⟨rfl⟩⟩
    rw [HG8.out] at HK4 ⊢
    clear hWq HB3 HX3 HC3 HBD HG8 HP
    obtain ⟨A0, d0, A1, d1, hlo, hc0, hc1, g0, g1⟩ := (HM.out.below HB4.out).looks ti HTW.out.1.1 HTW.out.1.2
    obtain ⟨hwf, hwn⟩ : Ps.TnWf ((Ps.find l ti).getD Ps.zn) ∧ ((Ps.find l ti).isSome = true → Ps.find l ti = some ((Ps.find l ti).getD Ps.zn)) := ⟨Ps.got_wf HW.out ti, fun h => by
      obtain ⟨y, hy⟩ := Option.isSome_iff_exists.1 h
      rw [hy]; rfl⟩
    obtain ⟨fd, HFD⟩ : ∃ b, Aside0 ((Ps.find l ti).isSome = b) := ⟨_, ⟨rfl⟩⟩
    obtain ⟨x, HXX⟩ : ∃ x, Aside0 ((Ps.find l ti).getD Ps.zn = x) := ⟨_, ⟨rfl⟩⟩
    rw [HXX.out] at hlo hc0 hc1 g0 g1 hwf hwn
    rw [HFD.out] at hlo hwn
    have HFN := Aside0.mk hwn
    obtain ⟨i, l0, q, sx, l1⟩ := x
    obtain ⟨_, hm0, hm1, hby⟩ := hwf
    change l0.length ≤ 1000 at hm0
    change l1.length ≤ 1000 at hm1
    simp only [Ps.tnc] at hlo hc0 hc1 g0 g1
    have HG0 := Aside0.mk g0
    have HG1 := Aside0.mk g1
    have HBY : Aside0 (Sh.Bytes l0) := ⟨hby⟩
    obtain ⟨n0, HN0⟩ : ∃ n, Aside0 (l0.length = n) := ⟨_, ⟨rfl⟩⟩
    obtain ⟨n1, HN1⟩ : ∃ n, Aside0 (l1.length = n) := ⟨_, ⟨rfl⟩⟩
    rw [HN0.out] at hm0 hc0 hlo
    rw [HN1.out] at hm1 hc1 hlo
    have HLO := Aside0.mk hlo
    clear g0 g1 hby hlo hwn HXX
    refine wp_region_noPanic ?_
    refine start_ (n := 13) (S := (fun w' => Below w4.heap.size w4 w')) (ds := [11]) #[false, false, false, false, false, false, false, false, false, false, false, false, false] (by kernel_rfl) rfl rfl (Below.refl _ _).drew (fun hHeld => ?_)
    refine pure_ (i := 0) (N := (some 23)) (v := ?_) (a' := ?_) #[true, false, false, false, false, false, false, false, false, false, false, false, false] rfl rfl (by kernel_rfl) (fun _ _ _ h => h) (Or.inl ⟨by rfl, ?_⟩) ?_ ?_
    rotate_left
    · intro w'
      go_simp
      with_reducible rfl
    rotate_left
    · simp only [Act.put, List.setIfInBounds_toArray, List.set_cons_zero, List.set_cons_succ]
      rfl
    refine pure_ (i := 1) (N := (some 24)) (v := ?_) (a' := ?_) #[true, true, false, false, false, false, false, false, false, false, false, false, false] rfl rfl (by kernel_rfl) (fun _ _ _ h => h) (Or.inl ⟨by rfl, ?_⟩) ?_ ?_
    rotate_left
    · intro w'
      go_simp
      with_reducible rfl
    rotate_left
    · simp only [Act.put, List.setIfInBounds_toArray, List.set_cons_zero, List.set_cons_succ]
      rfl
    refine pure_ (i := 2) (N := (some 25)) (v := ?_) (a' := ?_) #[true, true, true, false, false, false, false, false, false, false, false, false, false] rfl rfl (by kernel_rfl) (fun _ _ _ h => h) (Or.inl ⟨by rfl, ?_⟩) ?_ ?_
    rotate_left
    · intro w'
      go_simp
      with_reducible rfl
    rotate_left
    · simp only [Act.put, List.setIfInBounds_toArray, List.set_cons_zero, List.set_cons_succ]
      rfl
    refine take_ (i := 3) (N := (some 26)) (v := ?_) (a' := ?_) #[true, true, true, true, false, false, false, false, false, false, false, false, false] rfl rfl (by kernel_rfl) (fun _ _ _ h => h) (Or.inl ⟨by rfl, ?_⟩) hHeld ?_ ?_
    rotate_left
    · intro w' hS'
      (have c1 := (HP4.out.below_ hS').at_ 0 rfl; go_simp)
      with_reducible rfl
    rotate_left
    · simp only [Act.put, List.setIfInBounds_toArray, List.set_cons_zero, List.set_cons_succ]
      rfl
    refine pure_ (i := 4) (N := (some 27)) (v := ?_) (a' := ?_) #[true, true, true, true, true, false, false, false, false, false, false, false, false] rfl rfl (by kernel_rfl) (fun _ _ _ h => h) (Or.inl ⟨by rfl, ?_⟩) ?_ ?_
    rotate_left
    · intro w'
      go_simp
      with_reducible rfl
    rotate_left
    · simp only [Act.put, List.setIfInBounds_toArray, List.set_cons_zero, List.set_cons_succ]
      rfl
    refine take_ (i := 5) (N := (some 28)) (v := ?_) (a' := ?_) #[true, true, true, true, true, true, false, false, false, false, false, false, false] rfl rfl (by kernel_rfl) (fun _ _ _ h => h) (Or.inl ⟨by rfl, ?_⟩) hHeld ?_ ?_
    rotate_left
    · intro w' hS'
      (have c1 := (HK4.out.below_ hS').at_ 0 rfl; go_simp)
      with_reducible rfl
    rotate_left
    · simp only [Act.put, List.setIfInBounds_toArray, List.set_cons_zero, List.set_cons_succ]
      rfl
    refine take_ (i := 6) (N := (some 29)) (v := ?_) (a' := ?_) #[true, true, true, true, true, true, true, false, false, false, false, false, false] rfl rfl (by kernel_rfl) (fun _ _ _ h => h) (Or.inl ⟨by rfl, ?_⟩) hHeld ?_ ?_
    rotate_left
    · intro w' hS'
      (have c1 := HLO.out w' hS'; go_simp)
      with_reducible rfl
    rotate_left
    · simp only [Act.put, List.setIfInBounds_toArray, List.set_cons_zero, List.set_cons_succ]
      rfl
    refine pure_ (i := 7) (N := (some 22)) (v := ?_) (a' := ?_) #[true, true, true, true, true, true, true, true, false, false, false, false, false] rfl rfl (by kernel_rfl) (fun _ _ _ h => h) (Or.inl ⟨by rfl, ?_⟩) ?_ ?_
    rotate_left
    · intro w'
      go_simp
      with_reducible rfl
    rotate_left
    · simp only [Act.put, List.setIfInBounds_toArray, List.set_cons_zero, List.set_cons_succ]
      rfl
    refine pure_ (i := 8) (N := (some 30)) (v := ?_) (a' := ?_) #[true, true, true, true, true, true, true, true, true, false, false, false, false] rfl rfl (by kernel_rfl) (fun _ _ _ h => h) (Or.inl ⟨by rfl, ?_⟩) ?_ ?_
    rotate_left
    · intro w'
      go_simp
      with_reducible rfl
    rotate_left
    · simp only [Act.put, List.setIfInBounds_toArray, List.set_cons_zero, List.set_cons_succ]
      rfl
    refine pure_ (i := 9) (N := (some 31)) (v := ?_) (a' := ?_) #[true, true, true, true, true, true, true, true, true, true, false, false, false] rfl rfl (by kernel_rfl) (fun _ _ _ h => h) (Or.inl ⟨by rfl, ?_⟩) ?_ ?_
    rotate_left
    · intro w'
      go_simp
      with_reducible rfl
    rotate_left
    · simp only [Act.put, List.setIfInBounds_toArray, List.set_cons_zero, List.set_cons_succ]
      rfl
    refine one_ (i := 10) (N := (some 9)) #[true, true, true, true, true, true, true, true, true, true, true, false, false] rfl rfl (by kernel_rfl) (by decide) (fun K hK => ?_)
    refine value_ (w1 := w4.drew.alloc (.cells Ps.z5.toArray 42)) (v := .pointer (some ⟨w4.drew.heap.size, 0, none⟩)) (by rfl) rfl (by go_simp) ?_
    refine hK.out _ _ (hHeld.alloc hHeld.size _) (fun hHeld => ?_)
    clear hK K
    refine norm_ (a' := ?_) ?_ ?_
    rotate_left
    · show Act.put _ (some 9) _ = _
      simp only [Act.put, List.setIfInBounds_toArray, List.set_cons_zero, List.set_cons_succ]
      rfl
    refine last_ (i := 11) (N := none) #[true, true, true, true, true, true, true, true, true, true, true, true, false] rfl rfl (by kernel_rfl) (by decide) (fun K hK => ?_)
    refine Wk.store_all_step (by rfl) rfl 42 (.tmp 9) (.tmp 30) rfl w4.drew.heap.size (Ps.tv i q sx (.slice A0 n0 d0) (.slice A1 n1 d1)) rfl rfl 42 Ps.z5 (Wk.Blk.new w4.drew 42 Ps.z5) HSZ.out rfl rfl ?_
    intro w5 hX hO
    have HX9 := Aside0.mk hX
    have HO5 := Aside0.mk hO
    clear hX hO
    refine hK.out _ _ ?_
    clear hK K
    refine pure_ (i := 12) (N := (some 10)) (v := ?_) (a' := ?_) #[true, true, true, true, true, true, true, true, true, true, true, true, true] rfl rfl (by kernel_rfl) (fun _ _ _ h => h) (Or.inl ⟨by rfl, ?_⟩) ?_ ?_
    rotate_left
    · intro w'
      go_simp
      with_reducible rfl
    rotate_left
    · simp only [Act.put, List.setIfInBounds_toArray, List.set_cons_zero, List.set_cons_succ]
      rfl
    refine done_ (by kernel_rfl) ?_
    refine NoPanic.normal ?_
    have HF5 := Aside0.mk (Wk.Only.fresh (w := w4.drew) HB4.out.drew HB4.out.size HO5.out)
    have HBD : Aside0 (Below w4.heap.size w4 w5) := ⟨Below.trans (Below.refl _ _).drew HF5.out.2.2⟩
    have HB5 : Aside0 (Below w.heap.size w w5) := ⟨HF5.out.2.1⟩
    have HX5 := Aside0.mk (HX4.out.below_ HBD.out)
    have HK5 := Aside0.mk (HK4.out.below_ HBD.out)
    have HC5 := Aside0.mk (Kd.C_below HC4.out HBD.out)
    have HG05 := Aside0.mk (Kd.C_below HG0.out HBD.out)
    have HG15 := Aside0.mk (Kd.C_below HG1.out HBD.out)
    obtain ⟨g9, HG9⟩ : ∃ b, Aside0 (w4.drew.heap.size = b) := ⟨_, ⟨rfl⟩⟩
    rw [HG9.out] at HX9 ⊢
    clear HBD HF5 HO5 HX4 HK4 HC4 HP4 HB4 HG0 HG1 HLO HG9 hHeld HM
    cases fd with
    | false =>
      go_wp2_with (refine Wk.store_all rfl rfl 26 (.tmp 4) (.tmp 34) rfl w.heap.size Ps.zt4 rfl rfl 26 _ HX5.out HSK.out rfl rfl ?_; intro wz hX hO; have HXZ := Aside0.mk hX; have HOZ := Aside0.mk hO; clear hX hO)
      refine bodyPost_ret (Wk.res_ct rfl _ w.heap.size 26 _ _ rfl HXZ.out Tryd.underlying26 rfl HSK.out) rfl ?_
      refine ⟨?_, Wk.Only.below HB5.out HOZ.out (Nat.le_refl _)⟩
      rw [Ps.check_none HFI.out (by rw [HTK.out]; exact Option.isNone_iff_eq_none.1 (by have := HFD.out; rw [Option.isNone_iff_eq_none]; cases h : Ps.find l ti with | none => rfl | some y => rw [h] at this; cases this))]
      rfl
    | true =>
      have HFS : Aside0 (Ps.check l s = Ps.verdict ⟨i, l0, q, sx, l1⟩ (Ps.got s)) := ⟨Ps.check_some HFI.out (by rw [HTK.out]; exact HFN.out rfl)⟩
      clear HFN HFD
      go_wp2_with fail
      have hcut := Ps.cutTo (A := A2) HMM.out (by rw [HM50.out]; decide) hc2
      obtain ⟨A3, hcutf, hcf⟩ := Ps.cutFrom (A := A2) HMM.out (by rw [HM50.out]; decide) hc2
      have HCF : Aside0 (∀ W : World, Kd.C (Kd.int .u8) W A2 (Ps.got s).length (Ps.got s) → Kd.C (Kd.int .u8) W A3 ((Ps.got s).drop 18).length ((Ps.got s).drop 18)) := ⟨hcf⟩
      clear hcf
      obtain ⟨bd, HBD⟩ : ∃ l, Aside0 ((Ps.got s).take 18 = l) := ⟨_, ⟨rfl⟩⟩
      have HBL : Aside0 (bd.length = 18) := ⟨by rw [← HBD.out, List.length_take, HMM.out, HM50.out]; rfl⟩
      have HBB : Aside0 (Sh.Bytes bd) := ⟨by rw [← HBD.out]; exact fun x hx => HGB.out x (List.mem_of_mem_take hx)⟩
      have HCT : Aside0 (∀ W : World, Kd.C (Kd.int .u8) W A2 (Ps.got s).length (Ps.got s) → Kd.C (Kd.int .u8) W A2 bd.length bd) := ⟨fun W h => by
        rw [← HBD.out]
        exact Kd.C_take h (by rw [HMM.out, HM50.out]; decide)⟩
      obtain ⟨D, HDD⟩ : ∃ D, Aside0 (Sh.u8s (Sh.hm l0 bd) = D) := ⟨_, ⟨rfl⟩⟩
      have HIF := Aside0.mk (Sh.tag_info HDD.out)
      have HOF : Aside0 (∀ (W : World) (b : Nat), Below w5.heap.size w5 W → W.cell? ⟨b, 0, none⟩ = some (.slice A2 18 c2) → Calls Tryd.prog 25 #[.slice A0 n0 d0, .slice (some ⟨b, 0, none⟩) 1 1] W fun e w' => e = .returned (.agg D) ∧ Below W.heap.size W w') := ⟨fun W b hb hc =>
        Sh.of1_ (HK.out.below (below_then HB5.out HB5.out.size hb)) (Kd.C_below HG05.out hb) HN0.out hc0 HBY.out (by omega) (HCT.out W (Kd.C_below HC5.out hb)) HBL.out (by have := HM50.out; omega) HBB.out (by decide) hc HDD.out⟩
      refine wp_region_noPanic ?_
      refine start_ (n := 8) (S := (fun w' => Below w5.heap.size w5 w')) (ds := [7]) #[false, false, false, false, false, false, false, false] (by kernel_rfl) rfl rfl (Below.refl _ _).drew (fun hHeld => ?_)
      refine pure_ (i := 0) (N := (some 35)) (v := ?_) (a' := ?_) #[true, false, false, false, false, false, false, false] rfl rfl (by kernel_rfl) (fun _ _ _ h => h) (Or.inl ⟨by rfl, ?_⟩) ?_ ?_
      rotate_left
      · intro w'
        go_simp
        with_reducible rfl
      rotate_left
      · simp only [Act.put, List.setIfInBounds_toArray, List.set_cons_zero, List.set_cons_succ]
        rfl
      refine take_ (i := 1) (N := (some 36)) (v := ?_) (a' := ?_) #[true, true, false, false, false, false, false, false] rfl rfl (by kernel_rfl) (fun _ _ _ h => h) (Or.inl ⟨by rfl, ?_⟩) hHeld ?_ ?_
      rotate_left
      · intro w' hS'
        (have c1 := (HX9.out.below_ hS').at_ 1 rfl; go_simp)
        with_reducible rfl
      rotate_left
      · simp only [Act.put, List.setIfInBounds_toArray, List.set_cons_zero, List.set_cons_succ]
        rfl
      refine pure_ (i := 2) (N := (some 37)) (v := ?_) (a' := ?_) #[true, true, true, false, false, false, false, false] rfl rfl (by kernel_rfl) (fun _ _ _ h => h) (Or.inl ⟨by rfl, ?_⟩) ?_ ?_
      rotate_left
      · intro w'
        go_simp
        with_reducible rfl
      rotate_left
      · simp only [Act.put, List.setIfInBounds_toArray, List.set_cons_zero, List.set_cons_succ]
        rfl
      refine pure_ (i := 3) (N := (some 38)) (v := ?_) (a' := ?_) #[true, true, true, true, false, false, false, false] rfl rfl (by kernel_rfl) (fun _ _ _ h => h) (Or.inl ⟨by rfl, ?_⟩) ?_ ?_
      rotate_left
      · intro w'
        (have h1 := hcut w'; go_simp)
        with_reducible rfl
      rotate_left
      · simp only [Act.put, List.setIfInBounds_toArray, List.set_cons_zero, List.set_cons_succ]
        rfl
      have HH := Aside0.mk hHeld
      generalize w5.drew = w6 at hHeld HH ⊢
      refine join_ (σ := Nat × Nat) (fuel' := 1) #[true, true, true, true, true, true, true, false] (fun s => [(39, .slice (some ⟨s.1, 0, none⟩) 1 1), (40, .agg D), (11, .pointer (some ⟨s.2, 0, none⟩))]) (fun s w' => Below w6.heap.size w6 w' ∧ w6.heap.size ≤ s.2 ∧ w'.heap[s.2]? = some (.cells (Sh.u8s (List.replicate 32 0)) 59 (0, 0))) ?_ (fun hJ => ?_)
      · rintro ⟨b4, b11⟩ w7 ⟨hB7, hge, hO7⟩
        refine norm_ (a' := ?_) ?_ ?_
        rotate_left
        · show Act.put (Act.put (Act.put _ (some 39) _) (some 40) _) (some 11) _ = _
          simp only [Act.put, List.setIfInBounds_toArray, List.set_cons_zero, List.set_cons_succ]
          rfl
        change w7.heap[b11]? = _ at hO7
        change w6.heap.size ≤ b11 at hge
        refine last_ (i := 7) (N := none) #[true, true, true, true, true, true, true, true] rfl rfl (by kernel_rfl) (by decide) (fun K hK => ?_)
        refine skip_ (w1 := w7.setRow b11 D) (by rfl) rfl (Sh.store_exec rfl rfl rfl hO7 HIF.out.1 HIF.out.2.1 HIF.out.2.2) ?_
        have HD8 : Aside0 ((w7.setRow b11 D).heap[b11]? = some (.cells D 59 (0, 0))) := ⟨setRow_heap _ _ _ _ _ _ hO7⟩
        have HB8 : Aside0 (Below w5.heap.size w5 (w7.setRow b11 D)) := ⟨below_then HH.out HH.out.size (below_setRow hB7 hge D)⟩
        generalize w7.setRow b11 D = w8 at HD8 HB8 ⊢
        refine hK.out _ _ ?_
        clear hK K hO7 hge hB7
        refine done_ (by kernel_rfl) ?_
        refine NoPanic.normal ?_
        have HX8 := Aside0.mk (HX5.out.below_ HB8.out)
        have HK8 := Aside0.mk (HK5.out.below_ HB8.out)
        have HX98 := Aside0.mk (HX9.out.below_ HB8.out)
        have HC8 := Aside0.mk (HCF.out _ (Kd.C_below HC5.out HB8.out))
        have HG18 := Aside0.mk (Kd.C_below HG15.out HB8.out)
        have HB58 := Aside0.mk (below_then HB5.out HB5.out.size HB8.out)
        have HT8 := Aside0.mk (Sh.tag_reads HDD.out HD8.out)
        have hsl := Sh.slice_all32 b11
        clear hHeld hcut
        clear HX5 HK5 HX9 HC5 HG15 HB5 HG05 HOF HCT HH HB8 HD8
        go_wp2_with fail
        refine wp_region_noPanic ?_
        refine start_ (n := 6) (S := (fun w' => Below w8.heap.size w8 w')) (ds := []) #[false, false, false, false, false, false] (by kernel_rfl) rfl rfl (Below.refl _ _).drew (fun hHeld => ?_)
        refine pure_ (i := 0) (N := (some 42)) (v := ?_) (a' := ?_) #[true, false, false, false, false, false] rfl rfl (by kernel_rfl) (fun _ _ _ h => h) (Or.inl ⟨by rfl, ?_⟩) ?_ ?_
        rotate_left
        · intro w'
          (have h1 := hsl w'; go_simp)
          with_reducible rfl
        rotate_left
        · simp only [Act.put, List.setIfInBounds_toArray, List.set_cons_zero, List.set_cons_succ]
          rfl
        refine pure_ (i := 1) (N := (some 43)) (v := ?_) (a' := ?_) #[true, true, false, false, false, false] rfl rfl (by kernel_rfl) (fun _ _ _ h => h) (Or.inl ⟨by rfl, ?_⟩) ?_ ?_
        rotate_left
        · intro w'
          go_simp
          with_reducible rfl
        rotate_left
        · simp only [Act.put, List.setIfInBounds_toArray, List.set_cons_zero, List.set_cons_succ]
          rfl
        refine pure_ (i := 2) (N := (some 44)) (v := ?_) (a' := ?_) #[true, true, true, false, false, false] rfl rfl (by kernel_rfl) (fun _ _ _ h => h) (Or.inl ⟨by rfl, ?_⟩) ?_ ?_
        rotate_left
        · intro w'
          (have h1 := hcutf w'; go_simp)
          with_reducible rfl
        rotate_left
        · simp only [Act.put, List.setIfInBounds_toArray, List.set_cons_zero, List.set_cons_succ]
          rfl
        refine one_ (i := 3) (N := (some 45)) #[true, true, true, true, false, false] rfl rfl (by kernel_rfl) (by decide) (fun K hK => ?_)
        refine call_ 35 #[.slice (some ⟨b11, 0, none⟩) 32 32, .slice A3 (m - 18) (c2 - 18)] (by rfl) rfl (by go_simp) ?_
        obtain ⟨sm, HSM⟩ : ∃ b, Aside0 (decide (Sh.hm l0 bd = (Ps.got s).drop 18) = b) := ⟨_, ⟨rfl⟩⟩
        refine (Ps.same1_ (Kd.C_below HT8.out hHeld) (Ps.hm_len _ _) (Nat.le_refl _) (Kd.C_below HC8.out hHeld) (by rw [List.length_drop, HMM.out]) (by omega) (by decide) (Ps.hm_bytes _ _) (fun x hx => HGB.out x (List.mem_of_mem_drop hx)) HSM.out).mono ?_
        rintro e w9 ⟨rfl, hb9⟩
        have HB9 := Aside0.mk (below_then hHeld hHeld.size hb9)
        clear hb9
        refine ⟨_, rfl, ?_⟩
        refine hK.out _ _ HB9.out (fun hHeld => ?_)
        clear hK K
        refine norm_ (a' := ?_) ?_ ?_
        rotate_left
        · show Act.put _ (some 45) _ = _
          simp only [Act.put, List.setIfInBounds_toArray, List.set_cons_zero, List.set_cons_succ]
          rfl
        refine pure_ (i := 4) (N := (some 46)) (v := ?_) (a' := ?_) #[true, true, true, true, true, false] rfl rfl (by kernel_rfl) (fun _ _ _ h => h) (Or.inl ⟨by rfl, ?_⟩) ?_ ?_
        rotate_left
        · intro w'
          go_simp
          with_reducible rfl
        rotate_left
        · simp only [Act.put, List.setIfInBounds_toArray, List.set_cons_zero, List.set_cons_succ]
          rfl
        refine pure_ (i := 5) (N := (some 41)) (v := ?_) (a' := ?_) #[true, true, true, true, true, true] rfl rfl (by kernel_rfl) (fun _ _ _ h => h) (Or.inl ⟨by rfl, ?_⟩) ?_ ?_
        rotate_left
        · intro w'
          go_simp
          with_reducible rfl
        rotate_left
        · simp only [Act.put, List.setIfInBounds_toArray, List.set_cons_zero, List.set_cons_succ]
          rfl
        refine done_ (by kernel_rfl) ?_
        refine NoPanic.normal ?_
        have HX9 := Aside0.mk (HX8.out.below_ HB9.out)
        have HB59 := Aside0.mk (below_then HB58.out HB58.out.size HB9.out)
        have HG19 := Aside0.mk (Kd.C_below HG18.out HB9.out)
        have HK9 := Aside0.mk (HK8.out.below_ HB9.out)
        have HX99 := Aside0.mk (HX98.out.below_ HB9.out)
        clear HX8 HK8 HX98 HC8 HG18 HB58 HT8 hHeld hsl HB9 hcutf
        cases sm with
        | false =>
          go_wp2_with (refine Wk.store_all rfl rfl 26 (.tmp 4) (.tmp 47) rfl w.heap.size Ps.zt4 rfl rfl 26 _ HX9.out HSK.out rfl rfl ?_; intro wz hX hO; have HXZ := Aside0.mk hX; have HOZ := Aside0.mk hO; clear hX hO)
          refine bodyPost_ret (Wk.res_ct rfl _ w.heap.size 26 _ _ rfl HXZ.out Tryd.underlying26 rfl HSK.out) rfl ?_
          refine ⟨?_, Wk.Only.below HB59.out HOZ.out (Nat.le_refl _)⟩
          rw [HFS.out, Ps.verdict, if_pos (by rw [HBD.out]; exact of_decide_eq_false HSM.out)]
          rfl
        | true =>
          have HV1 : Aside0 (Ps.check l s = if (Ps.tok (Ps.got s)).2.1 ∈ l1 then (Ps.zt, 53) else if (Ps.tok (Ps.got s)).2.2.2 = 0 ∨ (Ps.tok (Ps.got s)).2.2.2 > sx then (Ps.zt, 54) else (Ps.tok (Ps.got s), 0)) := ⟨by
            rw [HFS.out, Ps.verdict, if_neg (by rw [HBD.out]; exact fun h => h (of_decide_eq_true HSM.out))]⟩
          have c1 := HX99.out.at_ 4 rfl
          have c2 := HK9.out.at_ 1 rfl
          go_wp2_with fail
          obtain ⟨cn, HCN⟩ : ∃ b, Aside0 (decide (se ∈ l1) = b) := ⟨_, ⟨rfl⟩⟩
          refine (Ps.cont_ HG19.out HN1.out hc1 (by omega) HCN.out).mono ?_
          rintro e w10 ⟨rfl, hb10⟩
          have HX10 := Aside0.mk (HX9.out.below_ hb10)
          have HB10 := Aside0.mk (below_then HB59.out HB59.out.size hb10)
          have HK10 := Aside0.mk (HK9.out.below_ hb10)
          have HX910 := Aside0.mk (HX99.out.below_ hb10)
          clear HX9 HB59 HK9 HX99 HG19 hb10 c1 c2
          have HV2 : Aside0 (Ps.check l s = if se ∈ l1 then (Ps.zt, 53) else if sz = 0 ∨ sz > sx then (Ps.zt, 54) else ((ti, se, ro, sz), 0)) := ⟨by
            have := HV1.out
            rw [HTK.out] at this
            exact this⟩
          cases cn with
          | true =>
            go_wp2_with (refine Wk.store_all rfl rfl 26 (.tmp 4) (.tmp 54) rfl w.heap.size Ps.zt4 rfl rfl 26 _ HX10.out HSK.out rfl rfl ?_; intro wz hX hO; have HXZ := Aside0.mk hX; have HOZ := Aside0.mk hO; clear hX hO)
            refine bodyPost_ret (Wk.res_ct rfl _ w.heap.size 26 _ _ rfl HXZ.out Tryd.underlying26 rfl HSK.out) rfl ?_
            refine ⟨?_, Wk.Only.below HB10.out HOZ.out (Nat.le_refl _)⟩
            rw [HV2.out, if_pos (of_decide_eq_true HCN.out)]
            rfl
          | false =>
            have HV3 : Aside0 (Ps.check l s = if sz = 0 ∨ sz > sx then (Ps.zt, 54) else ((ti, se, ro, sz), 0)) := ⟨by rw [HV2.out, if_neg (of_decide_eq_false HCN.out)]⟩
            have c3 := HK10.out.at_ 3 rfl
            have c4 := HX910.out.at_ 3 rfl
            by_cases hz : sz = 0
            · have hzb : (sz == 0) = true := by simpa using hz
              go_wp2_with (refine Wk.store_all rfl rfl 26 (.tmp 4) (.tmp 64) rfl w.heap.size Ps.zt4 rfl rfl 26 _ HX10.out HSK.out rfl rfl ?_; intro wz hX hO; have HXZ := Aside0.mk hX; have HOZ := Aside0.mk hO; clear hX hO)
              refine bodyPost_ret (Wk.res_ct rfl _ w.heap.size 26 _ _ rfl HXZ.out Tryd.underlying26 rfl HSK.out) rfl ?_
              refine ⟨?_, Wk.Only.below HB10.out HOZ.out (Nat.le_refl _)⟩
              rw [HV3.out, if_pos (.inl hz)]
              rfl
            · have hzb : (sz == 0) = false := by simpa using hz
              by_cases hx : sz > sx
              · have hxb : sx < sz := hx
                go_wp2_with (refine Wk.store_all rfl rfl 26 (.tmp 4) (.tmp 64) rfl w.heap.size Ps.zt4 rfl rfl 26 _ HX10.out HSK.out rfl rfl ?_; intro wz hX hO; have HXZ := Aside0.mk hX; have HOZ := Aside0.mk hO; clear hX hO)
                refine bodyPost_ret (Wk.res_ct rfl _ w.heap.size 26 _ _ rfl HXZ.out Tryd.underlying26 rfl HSK.out) rfl ?_
                refine ⟨?_, Wk.Only.below HB10.out HOZ.out (Nat.le_refl _)⟩
                rw [HV3.out, if_pos (.inr hx)]
                rfl
              · have hrun : (Instr.loadAt 26 (.pointer (some ⟨g8, 0, none⟩))).run Tryd.prog w10 = .ok (.agg (Ps.tkc (ti, se, ro, sz)).toArray) w10 := Wk.run_load_blk (P := Tryd.prog) 26 g8 0 (Ps.tkc (ti, se, ro, sz)) _ HK10.out rfl Tryd.underlying26 rfl HSK.out
                go_wp2_with (first
                  | refine Wk.load rfl 26 (.tmp 8) rfl _ (.pointer (some ⟨g8, 0, none⟩)) rfl hrun ?_
                  | (refine Wk.store_all rfl rfl 26 (.tmp 4) (.tmp 65) rfl w.heap.size (Ps.tkc (ti, se, ro, sz)) rfl rfl 26 _ HX10.out HSK.out rfl rfl ?_; intro wz hX hO; have HXZ := Aside0.mk hX; have HOZ := Aside0.mk hO; clear hX hO))
                refine bodyPost_ret (Wk.res_ct rfl _ w.heap.size 26 _ _ rfl HXZ.out Tryd.underlying26 rfl HSK.out) rfl ?_
                refine ⟨?_, Wk.Only.below HB10.out HOZ.out (Nat.le_refl _)⟩
                rw [HV3.out, if_neg (fun h => h.elim hz (fun h => by omega))]
                rfl
      · have HHW : Aside0 (Below w6.heap.size w6 w6) := ⟨Below.refl _ _⟩
        refine two_ (i := 4) (j := 6) (Ni := some 39) (Nj := some 11) #[true, true, true, true, true, false, false, false] #[true, true, true, true, false, false, true, false] rfl rfl rfl rfl (by kernel_rfl) (by decide) (by decide) (fun K hK => ?_) (fun K hK => ?_)
        · refine value_ (w1 := w6.alloc (.cells #[.slice A2 18 c2] 22)) (v := .slice (some ⟨w6.heap.size, 0, none⟩) 1 1) (by rfl) rfl (by first | (go_simp; done) | (go_simp; rfl)) ?_
          have hce : (w6.alloc (.cells #[.slice A2 18 c2] 22)).cell? ⟨w6.heap.size, 0, none⟩ = some (.slice A2 18 c2) := Lit.cell_new w6 #[.slice A2 18 c2] 22 (0, 0) 0
          have hbn : Below w6.heap.size w6 (w6.alloc (.cells #[.slice A2 18 c2] 22)) := below_alloc (Below.refl _ _) _
          generalize World.alloc w6 (.cells #[.slice A2 18 c2] 22) = w4_w6 at *
          have HCE := Aside0.mk hce
          have hbt : Below w5.heap.size w5 w4_w6 := below_then hHeld hHeld.size hbn
          have HHN := Aside0.mk (below_then HHW.out HHW.out.size hbn)
          refine hK.out _ _ hbt (fun hHeld => ?_)
          clear hK K hbt hbn hce
          clear HHW; have HHW := HHN; clear HHN
          refine norm_ (a' := ?_) ?_ ?_
          rotate_left
          · show Act.put _ (some 39) _ = _
            simp only [Act.put, List.setIfInBounds_toArray, List.set_cons_zero, List.set_cons_succ]
            rfl
          refine two_ (i := 5) (j := 6) (Ni := some 40) (Nj := some 11) #[true, true, true, true, true, true, false, false] #[true, true, true, true, true, false, true, false] rfl rfl rfl rfl (by kernel_rfl) (by decide) (by decide) (fun K hK => ?_) (fun K hK => ?_)
          · refine call_ 25 #[.slice A0 n0 d0, .slice (some ⟨w6.heap.size, 0, none⟩) 1 1] (by rfl) rfl (by go_simp) ?_
            refine (HOF.out w4_w6 w6.heap.size hHeld HCE.out).mono ?_
            rintro e w5_w4_w6 ⟨rfl, hbn⟩
            refine ⟨_, rfl, ?_⟩
            have hbt : Below w5.heap.size w5 w5_w4_w6 := below_then hHeld hHeld.size hbn
            have HHN := Aside0.mk (below_then HHW.out HHW.out.size hbn)
            have HCE' := Aside0.mk ((hbn.cell (World.block_lt_of_cell? _ _ HCE.out)).trans HCE.out)
            refine hK.out _ _ hbt (fun hHeld => ?_)
            clear hK K hbt hbn
            clear HCE; have HCE := HCE'; clear HCE'
            clear HHW; have HHW := HHN; clear HHN
            refine norm_ (a' := ?_) ?_ ?_
            rotate_left
            · show Act.put _ (some 40) _ = _
              simp only [Act.put, List.setIfInBounds_toArray, List.set_cons_zero, List.set_cons_succ]
              rfl
            refine one_ (i := 6) (N := some 11) #[true, true, true, true, true, true, true, false] rfl rfl (by kernel_rfl) (by decide) (fun K hK => ?_)
            refine value_ (w1 := w5_w4_w6.alloc (.cells (Sh.u8s (List.replicate 32 0)) 59)) (v := .pointer (some ⟨w5_w4_w6.heap.size, 0, none⟩)) (by rfl) rfl (by first | (go_simp; done) | (go_simp; rfl)) ?_
            have hoe : (w5_w4_w6.alloc (.cells (Sh.u8s (List.replicate 32 0)) 59)).heap[w5_w4_w6.heap.size]? = some (.cells (Sh.u8s (List.replicate 32 0)) 59 (0, 0)) := heap_alloc_new w5_w4_w6 _
            have hbn : Below w5_w4_w6.heap.size w5_w4_w6 (w5_w4_w6.alloc (.cells (Sh.u8s (List.replicate 32 0)) 59)) := below_alloc (Below.refl _ _) _
            generalize World.alloc w5_w4_w6 (.cells (Sh.u8s (List.replicate 32 0)) 59) = w6_w5_w4_w6 at *
            have HOE := Aside0.mk hoe
            have hbt : Below w5.heap.size w5 w6_w5_w4_w6 := below_then hHeld hHeld.size hbn
            have HHN := Aside0.mk (below_then HHW.out HHW.out.size hbn)
            have HCE' := Aside0.mk ((hbn.cell (World.block_lt_of_cell? _ _ HCE.out)).trans HCE.out)
            have HGE : Aside0 (w6.heap.size ≤ w5_w4_w6.heap.size) := ⟨HHW.out.size⟩
            refine hK.out _ _ hbt (fun hHeld => ?_)
            clear hK K hbt hbn hoe
            clear HCE; have HCE := HCE'; clear HCE'
            clear HHW; have HHW := HHN; clear HHN
            refine norm_ (a' := ?_) ?_ ?_
            rotate_left
            · show Act.put _ (some 11) _ = _
              simp only [Act.put, List.setIfInBounds_toArray, List.set_cons_zero, List.set_cons_succ]
              rfl
            refine norm_ (a' := putAll _ ((fun s : Nat × Nat => [((39 : Tmp), Value.slice (some ⟨s.1, 0, none⟩) 1 1), (40, Value.agg D), (11, Value.pointer (some ⟨s.2, 0, none⟩))]) (w6.heap.size, w5_w4_w6.heap.size))) ?_ (hJ (w6.heap.size, w5_w4_w6.heap.size) w6_w5_w4_w6 ⟨HHW.out, HGE.out, HOE.out⟩)
            simp only [putAll, Act.put, List.setIfInBounds_toArray, List.set_cons_zero, List.set_cons_succ]
          · refine value_ (w1 := w4_w6.alloc (.cells (Sh.u8s (List.replicate 32 0)) 59)) (v := .pointer (some ⟨w4_w6.heap.size, 0, none⟩)) (by rfl) rfl (by first | (go_simp; done) | (go_simp; rfl)) ?_
            have hoe : (w4_w6.alloc (.cells (Sh.u8s (List.replicate 32 0)) 59)).heap[w4_w6.heap.size]? = some (.cells (Sh.u8s (List.replicate 32 0)) 59 (0, 0)) := heap_alloc_new w4_w6 _
            have hbn : Below w4_w6.heap.size w4_w6 (w4_w6.alloc (.cells (Sh.u8s (List.replicate 32 0)) 59)) := below_alloc (Below.refl _ _) _
            generalize World.alloc w4_w6 (.cells (Sh.u8s (List.replicate 32 0)) 59) = w6_w4_w6 at *
            have HOE := Aside0.mk hoe
            have hbt : Below w5.heap.size w5 w6_w4_w6 := below_then hHeld hHeld.size hbn
            have HHN := Aside0.mk (below_then HHW.out HHW.out.size hbn)
            have HCE' := Aside0.mk ((hbn.cell (World.block_lt_of_cell? _ _ HCE.out)).trans HCE.out)
            have HGE : Aside0 (w6.heap.size ≤ w4_w6.heap.size) := ⟨HHW.out.size⟩
            refine hK.out _ _ hbt (fun hHeld => ?_)
            clear hK K hbt hbn hoe
            clear HCE; have HCE := HCE'; clear HCE'
            clear HHW; have HHW := HHN; clear HHN
            refine norm_ (a' := ?_) ?_ ?_
            rotate_left
            · show Act.put _ (some 11) _ = _
              simp only [Act.put, List.setIfInBounds_toArray, List.set_cons_zero, List.set_cons_succ]
              rfl
            refine one_ (i := 5) (N := some 40) #[true, true, true, true, true, true, true, false] rfl rfl (by kernel_rfl) (by decide) (fun K hK => ?_)
            refine call_ 25 #[.slice A0 n0 d0, .slice (some ⟨w6.heap.size, 0, none⟩) 1 1] (by rfl) rfl (by go_simp) ?_
            refine (HOF.out w6_w4_w6 w6.heap.size hHeld HCE.out).mono ?_
            rintro e w5_w6_w4_w6 ⟨rfl, hbn⟩
            refine ⟨_, rfl, ?_⟩
            have hbt : Below w5.heap.size w5 w5_w6_w4_w6 := below_then hHeld hHeld.size hbn
            have HHN := Aside0.mk (below_then HHW.out HHW.out.size hbn)
            have HCE' := Aside0.mk ((hbn.cell (World.block_lt_of_cell? _ _ HCE.out)).trans HCE.out)
            have HOE' := Aside0.mk ((hbn.block _ (Array.getElem?_eq_some_iff.1 HOE.out).1).trans HOE.out)
            refine hK.out _ _ hbt (fun hHeld => ?_)
            clear hK K hbt hbn
            clear HCE; have HCE := HCE'; clear HCE'
            clear HOE; have HOE := HOE'; clear HOE'
            clear HHW; have HHW := HHN; clear HHN
            refine norm_ (a' := ?_) ?_ ?_
            rotate_left
            · show Act.put _ (some 40) _ = _
              simp only [Act.put, List.setIfInBounds_toArray, List.set_cons_zero, List.set_cons_succ]
              rfl
            refine norm_ (a' := putAll _ ((fun s : Nat × Nat => [((39 : Tmp), Value.slice (some ⟨s.1, 0, none⟩) 1 1), (40, Value.agg D), (11, Value.pointer (some ⟨s.2, 0, none⟩))]) (w6.heap.size, w4_w6.heap.size))) ?_ (hJ (w6.heap.size, w4_w6.heap.size) w5_w6_w4_w6 ⟨HHW.out, HGE.out, HOE.out⟩)
            simp only [putAll, Act.put, List.setIfInBounds_toArray, List.set_cons_zero, List.set_cons_succ]
        · refine value_ (w1 := w6.alloc (.cells (Sh.u8s (List.replicate 32 0)) 59)) (v := .pointer (some ⟨w6.heap.size, 0, none⟩)) (by rfl) rfl (by first | (go_simp; done) | (go_simp; rfl)) ?_
          have hoe : (w6.alloc (.cells (Sh.u8s (List.replicate 32 0)) 59)).heap[w6.heap.size]? = some (.cells (Sh.u8s (List.replicate 32 0)) 59 (0, 0)) := heap_alloc_new w6 _
          have hbn : Below w6.heap.size w6 (w6.alloc (.cells (Sh.u8s (List.replicate 32 0)) 59)) := below_alloc (Below.refl _ _) _
          generalize World.alloc w6 (.cells (Sh.u8s (List.replicate 32 0)) 59) = w6_w6 at *
          have HOE := Aside0.mk hoe
          have hbt : Below w5.heap.size w5 w6_w6 := below_then hHeld hHeld.size hbn
          have HHN := Aside0.mk (below_then HHW.out HHW.out.size hbn)
          have HGE : Aside0 (w6.heap.size ≤ w6.heap.size) := ⟨HHW.out.size⟩
          refine hK.out _ _ hbt (fun hHeld => ?_)
          clear hK K hbt hbn hoe
          clear HHW; have HHW := HHN; clear HHN
          refine norm_ (a' := ?_) ?_ ?_
          rotate_left
          · show Act.put _ (some 11) _ = _
            simp only [Act.put, List.setIfInBounds_toArray, List.set_cons_zero, List.set_cons_succ]
            rfl
          refine one_ (i := 4) (N := some 39) #[true, true, true, true, true, false, true, false] rfl rfl (by kernel_rfl) (by decide) (fun K hK => ?_)
          refine value_ (w1 := w6_w6.alloc (.cells #[.slice A2 18 c2] 22)) (v := .slice (some ⟨w6_w6.heap.size, 0, none⟩) 1 1) (by rfl) rfl (by first | (go_simp; done) | (go_simp; rfl)) ?_
          have hce : (w6_w6.alloc (.cells #[.slice A2 18 c2] 22)).cell? ⟨w6_w6.heap.size, 0, none⟩ = some (.slice A2 18 c2) := Lit.cell_new w6_w6 #[.slice A2 18 c2] 22 (0, 0) 0
          have hbn : Below w6_w6.heap.size w6_w6 (w6_w6.alloc (.cells #[.slice A2 18 c2] 22)) := below_alloc (Below.refl _ _) _
          generalize World.alloc w6_w6 (.cells #[.slice A2 18 c2] 22) = w4_w6_w6 at *
          have HCE := Aside0.mk hce
          have hbt : Below w5.heap.size w5 w4_w6_w6 := below_then hHeld hHeld.size hbn
          have HHN := Aside0.mk (below_then HHW.out HHW.out.size hbn)
          have HOE' := Aside0.mk ((hbn.block _ (Array.getElem?_eq_some_iff.1 HOE.out).1).trans HOE.out)
          refine hK.out _ _ hbt (fun hHeld => ?_)
          clear hK K hbt hbn hce
          clear HOE; have HOE := HOE'; clear HOE'
          clear HHW; have HHW := HHN; clear HHN
          refine norm_ (a' := ?_) ?_ ?_
          rotate_left
          · show Act.put _ (some 39) _ = _
            simp only [Act.put, List.setIfInBounds_toArray, List.set_cons_zero, List.set_cons_succ]
            rfl
          refine one_ (i := 5) (N := some 40) #[true, true, true, true, true, true, true, false] rfl rfl (by kernel_rfl) (by decide) (fun K hK => ?_)
          refine call_ 25 #[.slice A0 n0 d0, .slice (some ⟨w6_w6.heap.size, 0, none⟩) 1 1] (by rfl) rfl (by go_simp) ?_
          refine (HOF.out w4_w6_w6 w6_w6.heap.size hHeld HCE.out).mono ?_
          rintro e w5_w4_w6_w6 ⟨rfl, hbn⟩
          refine ⟨_, rfl, ?_⟩
          have hbt : Below w5.heap.size w5 w5_w4_w6_w6 := below_then hHeld hHeld.size hbn
          have HHN := Aside0.mk (below_then HHW.out HHW.out.size hbn)
          have HCE' := Aside0.mk ((hbn.cell (World.block_lt_of_cell? _ _ HCE.out)).trans HCE.out)
          have HOE' := Aside0.mk ((hbn.block _ (Array.getElem?_eq_some_iff.1 HOE.out).1).trans HOE.out)
          refine hK.out _ _ hbt (fun hHeld => ?_)
          clear hK K hbt hbn
          clear HCE; have HCE := HCE'; clear HCE'
          clear HOE; have HOE := HOE'; clear HOE'
          clear HHW; have HHW := HHN; clear HHN
          refine norm_ (a' := ?_) ?_ ?_
          rotate_left
          · show Act.put _ (some 40) _ = _
            simp only [Act.put, List.setIfInBounds_toArray, List.set_cons_zero, List.set_cons_succ]
            rfl
          refine norm_ (a' := putAll _ ((fun s : Nat × Nat => [((39 : Tmp), Value.slice (some ⟨s.1, 0, none⟩) 1 1), (40, Value.agg D), (11, Value.pointer (some ⟨s.2, 0, none⟩))]) (w6_w6.heap.size, w6.heap.size))) ?_ (hJ (w6_w6.heap.size, w6.heap.size) w5_w4_w6_w6 ⟨HHW.out, HGE.out, HOE.out⟩)
          simp only [putAll, Act.put, List.setIfInBounds_toArray, List.set_cons_zero, List.set_cons_succ]
end Go.Proofs.YtabdnlecpndfjaaDoor
set_option linter.unusedVariables false
set_option linter.unusedSimpArgs false
namespace Go.Proofs.YtabdnlecpndfjaaDoor
open Go.RowKit Go.Proofs.YtabdnlecpndfjaaDoor.PBase Go.Proofs.YtabdnlecpndfjaaDoorW.PrintWords Go.Proofs.YtabdnlecpndfjaaDoorW.PrintLast Go.Proofs.YtabdnlecpndfjaaDoorW.PrintMore
theorem opens_bytes : Opens Tryd.prog 22 (Kd.slice 5 (Kd.int .u8)) (fun xs => xs.length ≤ maxLen ∧ ∀ x ∈ xs, (Lit.int .u8 x).wf = true) := opens_slice Tryd.underlying22 (by kernel_rfl) (opens_int Tryd.underlying5)
theorem opens_nums : Opens Tryd.prog 37 (Kd.slice 23 (Kd.int .u32)) (fun xs => xs.length ≤ maxLen ∧ ∀ x ∈ xs, (Lit.int .u32 x).wf = true) := opens_slice Tryd.underlying37 (by kernel_rfl) (opens_int Tryd.underlying23)
namespace Ps
def TnIn (x : Tn) : Prop := (Lit.int .u32 x.f0).wf = true ∧ (x.f1.length ≤ maxLen ∧ ∀ y ∈ x.f1, (Lit.int .u8 y).wf = true) ∧ (Lit.int .u64 x.f2).wf = true ∧ (Lit.int .u64 x.f3).wf = true ∧ x.f4.length ≤ maxLen ∧ ∀ y ∈ x.f4, (Lit.int .u32 y).wf = true
theorem of32 {k : Int} (h : (Lit.int .u32 k).wf = true) : 0 ≤ k ∧ k < 4294967296 := by
  simp [Lit.wf, IntKind.min, IntKind.max, IntKind.signed, IntKind.bits] at h
  omega
set_option maxRecDepth 100000 in
theorem opens_tenant : Opens Tryd.prog 42 kTn TnIn := by
  intro H enc w base spare held fuel cs x h
  obtain ⟨hl, hf⟩ := struct_fields Tryd.underlying42 h
  obtain ⟨a0, k0, w0⟩ := hf 0 _ rfl (opens_int Tryd.underlying23)
  obtain ⟨a1, k1, w1⟩ := hf 1 _ rfl opens_bytes
  obtain ⟨a2, k2, w2⟩ := hf 2 _ rfl (opens_int Tryd.underlying24)
  obtain ⟨a3, k3, w3⟩ := hf 3 _ rfl (opens_int Tryd.underlying24)
  obtain ⟨a4, k4, w4⟩ := hf 4 _ rfl opens_nums
  have c64 : Tryd.prog.cellsOf 24 = 1 := by kernel_rfl
  have c32 : Tryd.prog.cellsOf 23 = 1 := by kernel_rfl
  have cs0 : Tryd.prog.cellsOf 22 = 1 := by kernel_rfl
  have cs1 : Tryd.prog.cellsOf 37 = 1 := by kernel_rfl
  have c5 : Tryd.prog.cellsOf 42 = 5 := by kernel_rfl
  rw [c5] at hl
  change (Kd.int .u32).K w a0 ((cs.drop 0).take (Tryd.prog.cellsOf 23)) at k0
  rw [c32] at k0
  change (Kd.slice 5 (Kd.int .u8)).K w a1 ((cs.drop 1).take (Tryd.prog.cellsOf 22)) at k1
  rw [cs0] at k1
  change (Kd.int .u64).K w a2 ((cs.drop 2).take (Tryd.prog.cellsOf 24)) at k2
  rw [c64] at k2
  change (Kd.int .u64).K w a3 ((cs.drop 3).take (Tryd.prog.cellsOf 24)) at k3
  rw [c64] at k3
  change (Kd.slice 23 (Kd.int .u32)).K w a4 ((cs.drop 4).take (Tryd.prog.cellsOf 37)) at k4
  rw [cs1] at k4
  refine ⟨⟨a0, a1, a2, a3, a4⟩, ?_, w0, w1, w2, w3, w4⟩
  match cs, hl with
  | [y0, y1, y2, y3, y4], _ => exact pairK k0 (pairK k1 (pairK k2 (pairK k3 k4)))
theorem bytes_of {l : List Int} (h : ∀ x ∈ l, (Lit.int .u8 x).wf = true) : Sh.Bytes l := Sp.bytes_of_wf h
theorem row1 {W : World} {g : Nat} {x : Tn} {A0 A1 : Option Addr} {c0 c1 : Nat} {T : TypeId} (hb : Wk.Blk W g T (tnc x A0 c0 A1 c1)) (l0 : x.f1.length ≤ c0) (g0 : Kd.C (Kd.int .u8) W A0 x.f1.length x.f1) (l1 : x.f4.length ≤ c1) (g1 : Kd.C (Kd.int .u32) W A1 x.f4.length x.f4) : kTn.C W (some ⟨g, 0, none⟩) 1 [x] := by
  refine ⟨rfl, by decide, fun _ => ⟨_, rfl, fun j p hj => ?_⟩⟩
  cases j with
  | zero =>
    obtain rfl : x = p := by simpa using hj
    refine ⟨tnc x A0 c0 A1 c1, rfl, PBase.k42_mk W x l0 g0 l1 g1, fun i u hu => ?_⟩
    have : (⟨g, 0, none⟩ : Addr).add (0 * 5 + i) = ⟨g, i, none⟩ := by rw [Nat.zero_mul, Nat.zero_add, add_plain]
    change W.cell? ((⟨g, 0, none⟩ : Addr).add (0 * 5 + i)) = some u
    rw [this]
    exact hb.at_ i hu
  | succ j => simp at hj
theorem conv1 (w : World) (o : Obj) (b : Value) : (convert 22 22 (.slice (some ⟨w.heap.size + 1, 0, none⟩) 1 1)).run Tryd.prog ((w.alloc o).alloc (.cells #[b] 5)) = .ok (.slice (some ⟨w.heap.size + 1, 0, none⟩) 1 1) ((w.alloc o).alloc (.cells #[b] 5 (1, 2))) := by
  have := Lib.run_convert_bytes_const (P := Tryd.prog) (w.alloc o) 22 5 #[b] 1 1 Tryd.underlying22 Tryd.underlying5
  rw [show (#[b] : Array Value).size = 1 from rfl, show (w.alloc o).heap.size = w.heap.size + 1 by show (w.heap.push _).size = _; simp] at this
  exact this
theorem heap3a (h : Array Obj) (a b c : Obj) : (((h.push a).push b).push c)[h.size]? = some a ∧ (((h.push a).push b).push c)[h.size + 1]? = some b ∧ (((h.push a).push b).push c)[h.size + 1 + 1]? = some c := by
  refine ⟨?_, ?_, ?_⟩
  · rw [Array.getElem?_push_lt (by simp; omega), Array.getElem_push_lt (by simp), Array.getElem_push_eq]
  · rw [Array.getElem?_push_lt (by simp), ← Array.getElem?_eq_getElem]
    have := Array.getElem?_push_size (xs := h.push a) (x := b)
    rwa [Array.size_push] at this
  · have := Array.getElem?_push_size (xs := (h.push a).push b) (x := c)
    rwa [Array.size_push, Array.size_push] at this
theorem heap3 (w : World) (a b c : Obj) : (((w.alloc a).alloc b).alloc c).heap[w.heap.size]? = some a ∧ (((w.alloc a).alloc b).alloc c).heap[w.heap.size + 1]? = some b ∧ (((w.alloc a).alloc b).alloc c).heap[w.heap.size + 1 + 1]? = some c ∧ Below w.heap.size w (((w.alloc a).alloc b).alloc c) :=
  ⟨(heap3a w.heap a b c).1, (heap3a w.heap a b c).2.1, (heap3a w.heap a b c).2.2, below_alloc (below_alloc (below_alloc (Below.refl _ _) _) _) _⟩
theorem iss_size (k : List Int) (t : Tk) : (iss k t).size = 80 := by
  show (ByteArray.mk (Sp.enc (Sp.bitsOf (sealed k t))).toArray).size = 80
  have : (Sp.enc (Sp.bitsOf (sealed k t))).length = 80 := by rw [Sp.enc_length, Sp.bitsOf_length, sealed_len]
  rw [← this]
  exact List.size_toArray
abbrev xk : Tk := (1, 2, false, 3)
abbrev xt : Tn := ⟨1, [108], 0, 5, []⟩
theorem body_k : body xk = [1, 0, 0, 0, 1, 0, 0, 0, 2, 0, 0, 0, 0, 0, 0, 0, 3, 0] := by kernel_rfl
theorem hm_k : Sh.hm [107] [1, 0, 0, 0, 1, 0, 0, 0, 2, 0, 0, 0, 0, 0, 0, 0, 3, 0] = [24, 249, 245, 206, 108, 233, 185, 88, 241, 239, 36, 25, 8, 110, 205, 119, 64, 115, 129, 106, 36, 47, 168, 185, 135, 80, 193, 223, 16, 89, 15, 230] := by kernel_rfl
theorem hm_l : Sh.hm [108] [1, 0, 0, 0, 1, 0, 0, 0, 2, 0, 0, 0, 0, 0, 0, 0, 3, 0] = [80, 160, 238, 212, 173, 232, 82, 25, 187, 107, 222, 108, 37, 116, 40, 180, 38, 103, 34, 211, 99, 60, 155, 229, 253, 22, 147, 197, 12, 83, 32, 25] := by kernel_rfl
theorem xk_wf : TkWf xk := by unfold TkWf; decide
theorem check_iss (l : List Tn) (k : List Int) (t : Tk) (h : TkWf t) : check l (iss k t) = match find l t.1 with | none => (zt, 51) | some x => verdict x (sealed k t) := by
  obtain ⟨h1, h2⟩ := got_iss k t
  unfold check
  rw [if_pos h2, h1, show tok (sealed k t) = t from tok_body t _ h]
  cases find l t.1 <;> rfl
theorem known_check : check [xt] (iss [107] xk) = (zt, 52) := by
  rw [check_iss _ _ _ xk_wf]
  show verdict xt (sealed [107] xk) = _
  unfold verdict
  rw [sealed_take, sealed_drop, body_k, hm_k]
  show (if Sh.hm [108] _ ≠ _ then _ else _) = _
  rw [hm_l, if_pos (by decide)]
end Ps
set_option maxHeartbeats 2000000 in
set_option maxRecDepth 100000 in
theorem known_.calls (w : World) (hk : Sh.Ks w) :
    Calls Tryd.prog 10 #[] w fun e w' => e = .returned (.bool true) ∧ Below w.heap.size w w' := by
  have HK := Aside0.mk hk
  clear hk
  have hcv1 := Ps.conv1 w (.cells #[.int .u32 1, .int .u32 2, .bool false, .int .u64 3] 26) (.int .u8 107)
  go_enter Tryd.func10, Tryd.ntmps10
  go_wp2_with fail
  generalize hWq : World.alloc (World.alloc w _) _ = W1
  have HB1 : Aside0 (Below w.heap.size w W1) := ⟨by rw [← hWq]; exact below_alloc (below_alloc (Below.refl _ _) _) _⟩
  have HX1 : Aside0 (Wk.Blk W1 w.heap.size 26 (Ps.tkc Ps.xk)) := ⟨by rw [← hWq]; exact (Wk.Blk.new w _ (Ps.tkc Ps.xk)).alloc _⟩
  have HC1 : Aside0 (Kd.C (Kd.int .u8) W1 (some ⟨w.heap.size + 1, 0, none⟩) 1 [107]) := ⟨by
    have h2 : W1.heap[w.heap.size + 1]? = some (.cells #[.int .u8 107] 5 (1, 2)) := by
      rw [← hWq]
      have := heap_alloc_new (w.alloc (.cells #[.int .u32 1, .int .u32 2, .bool false, .int .u64 3] 26)) (.cells #[.int .u8 107] 5 (1, 2))
      rwa [show (w.alloc (.cells #[.int .u32 1, .int .u32 2, .bool false, .int .u64 3] 26)).heap.size = w.heap.size + 1 by show (w.heap.push _).size = _; simp] at this
    exact Lit.reads_block h2 .u8 [107] rfl (by decide)⟩
  clear hWq hcv1
  obtain ⟨s1, HS1⟩ : ∃ s, Aside0 (Ps.iss [107] (1, 2, false, 3) = s) := ⟨_, ⟨rfl⟩⟩
  have HSS : Aside0 (s1.size = 80) := ⟨by rw [← HS1.out]; exact Ps.iss_size _ _⟩
  refine (issue_.calls (some ⟨w.heap.size + 1, 0, none⟩) 1 1 [107] 1 2 false 3 W1 (HK.out.below HB1.out) HC1.out rfl (Nat.le_refl _) (fun x hx => by rw [List.mem_singleton.1 hx]; decide) (by decide) Ps.xk_wf).mono ?_
  rintro e w2 ⟨rfl, hb2⟩
  rw [HS1.out]
  have HB2 := Aside0.mk (below_then HB1.out HB1.out.size hb2)
  have HX2 := Aside0.mk (HX1.out.below_ hb2)
  clear hb2 HB1 HX1 HC1
  go_wp2_with fail
  refine (pass_Look.calls 200 s1 1 2 false 3 0 w2 (by
    rw [Ps.look_is s1 (by rw [HSS.out]; decide) 200 (by rw [HSS.out]; decide), ← HS1.out, Ps.look_iss _ _ Ps.xk_wf])).mono ?_
  rintro e w3 ⟨rfl, hb3⟩
  have HB3 := Aside0.mk (below_then HB2.out HB2.out.size hb3)
  have HX3 := Aside0.mk (HX2.out.below_ hb3)
  clear hb3 HB2 HX2
  have hcv2 := Ps.conv1 w3 (.cells #[.int .u32 1, .int .u32 2, .bool false, .int .u64 3] 26) (.int .u8 108)
  go_wp2_with fail
  generalize hWq : World.alloc (World.alloc (World.alloc w3 _) _) _ = W4
  obtain ⟨e0, e1, e2, hb4⟩ : W4.heap[w3.heap.size]? = some (.cells #[.int .u32 1, .int .u32 2, .bool false, .int .u64 3] 26 (0, 0)) ∧ W4.heap[w3.heap.size + 1]? = some (.cells #[.int .u8 108] 5 (1, 2)) ∧ W4.heap[w3.heap.size + 1 + 1]? = some (.cells #[.int .u32 1, .slice (some ⟨w3.heap.size + 1, 0, none⟩) 1 1, .int .u64 0, .int .u64 5, .slice none 0 0] 42 (0, 0)) ∧ Below w3.heap.size w3 W4 := by rw [← hWq]; exact Ps.heap3 w3 _ _ _
  have HB4 := Aside0.mk (below_then HB3.out HB3.out.size hb4)
  have HX4 := Aside0.mk (HX3.out.below_ hb4)
  have HY4 : Aside0 (Wk.Blk W4 w3.heap.size 26 (Ps.tkc Ps.xk)) := ⟨⟨e0⟩⟩
  have HR4 : Aside0 (Ps.kTn.C W4 (some ⟨w3.heap.size + 1 + 1, 0, none⟩) 1 [Ps.xt]) := ⟨Ps.row1 (T := 42) (A0 := some ⟨w3.heap.size + 1, 0, none⟩) (c0 := 1) (A1 := none) (c1 := 0) ⟨e2⟩ (Nat.le_refl _) (Lit.reads_block e1 .u8 [108] rfl (by decide)) (Nat.le_refl _) (Kd.C_nil _ _)⟩
  clear hWq hcv2 e0 e1 e2 hb4 HB3 HX3
  have hxw : ∀ x ∈ [Ps.xt], Ps.TnWf x := fun x hx => by
    rw [List.mem_singleton.1 hx]
    exact ⟨⟨by decide, by decide⟩, by decide, by decide, fun y hy => by rw [List.mem_singleton.1 hy]; decide⟩
  have HXW := Aside0.mk hxw
  clear hxw
  refine (new_pass.calls (some ⟨w3.heap.size + 1 + 1, 0, none⟩) 1 1 [Ps.xt] W4 HR4.out rfl HXW.out).mono ?_
  rintro e w5 ⟨hb5, ⟨h, -⟩ | ⟨-, h, -⟩ | ⟨-, -, p, rfl, hTb⟩⟩
  · exact absurd h (by decide)
  · exact absurd h (by decide)
  have HB5 := Aside0.mk (below_then HB4.out HB4.out.size hb5)
  have HX5 := Aside0.mk (HX4.out.below_ hb5)
  have HY5 := Aside0.mk (HY4.out.below_ hb5)
  have HT5 := Aside0.mk hTb
  clear hTb hb5 HB4 HX4 HY4 HR4
  go_wp2_with fail
  refine (check_.calls p W4.heap.size [Ps.xt] s1 w5 (HK.out.below HB5.out) HT5.out (by rw [HSS.out]; decide) HXW.out).mono ?_
  rintro e w6 ⟨rfl, hb6⟩
  have HCK : Aside0 (Ps.check [Ps.xt] s1 = (Ps.zt, 52)) := ⟨by rw [← HS1.out]; exact Ps.known_check⟩
  rw [HCK.out]
  have HB6 := Aside0.mk (below_then HB5.out HB5.out.size hb6)
  have HX6 := Aside0.mk (HX5.out.below_ hb6)
  have HY6 := Aside0.mk (HY5.out.below_ hb6)
  clear hb6 HB5 HX5 HY5 HT5
  generalize hWq : World.alloc w6 (.cells #[.int .u32 0, .int .u32 0, .bool false, .int .u64 0] 26) = w7
  have hb7 : Below w6.heap.size w6 w7 := by rw [← hWq]; exact below_alloc (Below.refl _ _) _
  have HB7 := Aside0.mk (below_then HB6.out HB6.out.size hb7)
  have x0 := (HX6.out.below_ hb7).at_ 0 rfl
  have x1 := (HX6.out.below_ hb7).at_ 1 rfl
  have x2 := (HX6.out.below_ hb7).at_ 2 rfl
  have x3 := (HX6.out.below_ hb7).at_ 3 rfl
  have y0 := (HY6.out.below_ hb7).at_ 0 rfl
  have y1 := (HY6.out.below_ hb7).at_ 1 rfl
  have y2 := (HY6.out.below_ hb7).at_ 2 rfl
  have y3 := (HY6.out.below_ hb7).at_ 3 rfl
  simp only [Ps.zt]
  rw [← hWq] at x0 x1 x2 x3 y0 y1 y2 y3 HB7
  clear hb7 hWq
  go_wp2_with fail
  go_ret
  exact ⟨rfl, HB7.out⟩
end Go.Proofs.YtabdnlecpndfjaaDoor
namespace Go.Proofs.YtabdnlecpndfjaaDoor
open Go.ChangeShapes Go.WideShapes Go.ChangeAt Go.RowKit
set_option linter.unusedVariables false
theorem own : ownKnob Tryd.prog.godebug = none := by kernel_rfl
theorem laidOut : laidOutB Tryd.prog = true := by kernel_rfl
abbrev keysLaid : List (String × DataW Unit) := [("coaming/sha.keys", Rows.laid_coaming_sha_keys)]
theorem gKeys : Tryd.prog.globalNamed "coaming/sha.keys" = some 0 := by kernel_rfl
theorem tKeys : (Tryd.prog.globals[0]?).map (·.type) = some 108 := by kernel_rfl
theorem door_met (os : Os) (args : Array Value) : laidMetH Tryd.prog keysLaid ((World.doorLaid Tryd.prog 400 os).forCall (fun _ _ => 0) ⟨#[], args, []⟩).memory :=
  laidMetH_of_parts3 (fuel := 8) (laidMet_of_run' 8 (by kernel_rfl) (by kernel_rfl)) (by kernel_rfl) (by kernel_rfl)
theorem laid_at : (Rows.laid_coaming_sha_keys (H := Unit)) = .agg (Sh.keys.map fun k => .lit (.int .u32 k)) := rfl
theorem of_laid {W : World} (h : laidMetH Tryd.prog keysLaid W) : Sh.Ks W := by
  rw [MakeChecks.laidMetH_plain _ _ _ (by kernel_rfl)] at h
  obtain ⟨ps, ⟨g0, t0, cs0, f0, p0, q0, hg0, ht0, hv0, hd0, _, _⟩, _, _⟩ := h
  obtain rfl := Option.some.inj (gKeys.symm.trans hg0)
  obtain rfl := Option.some.inj (tKeys.symm.trans ht0)
  rw [laid_at] at hd0
  obtain ⟨xs, m1, rfl, hx1, hlen, hn3, hel⟩ := DataW.trod_array Tryd.underlying108 hd0
  have c38 : Tryd.prog.cellsOf 23 = 1 := by kernel_rfl
  intro i hi
  have h0 := hel i hi
  rw [c38, Nat.mul_one] at h0
  simp only [Prod.mk.injEq, DataW.agg.injEq] at hx1
  have hix : i < xs.length := by omega
  rw [List.getElem?_eq_getElem hix] at h0
  obtain ⟨k, e1, e2, _⟩ := DataW.trod_int Tryd.underlying23 h0
  have hk : (xs.map (·.1))[i]? = some (.lit (.int .u32 k)) := by rw [List.getElem?_map, List.getElem?_eq_getElem hix, e2]; rfl
  rw [← hx1.1, List.getElem?_map] at hk
  have hki : Sh.keys[i]? = some (Sh.keys.getD i 0) := by
    rw [List.getD_eq_getElem?_getD, List.getElem?_eq_getElem (by exact hi)]; rfl
  rw [hki] at hk
  have hkk : Sh.keys.getD i 0 = k := by simpa using hk
  rw [World.var?_cell hg0 hv0 i, hkk]
  have hc : (cs0.toList.drop i).take 1 = [.int .u32 k] := e1
  have : cs0.toList[i]? = some (.int .u32 k) := by
    have h2 : ((cs0.toList.drop i).take 1)[0]? = some (.int .u32 k) := by rw [hc]; rfl
    rw [List.getElem?_take, if_pos (by decide), List.getElem?_drop, Nat.add_zero] at h2
    exact h2
  simpa using this
def IsRow (k : IntKind) (w : World) (a : Option Addr) (len cap : Nat) (zs : List Int) : Prop :=
  (a = none ∧ len = 0 ∧ cap = 0 ∧ zs = []) ∨
  ∃ x, a = some x ∧ len ≤ cap ∧ cap ≤ maxLen ∧ zs.length = cap ∧ (∀ i, i < zs.length → w.cell? (x.add i) = some (.int k (zs.getD i 0))) ∧ ∀ n ∈ zs, (Lit.int k n).wf = true
open Go.Proofs.YtabdnlecpndfjaaDoorW.PrintWords in
theorem IsRow.reads {W : World} {a : Option Addr} {len cap : Nat} {zs : List Int} (h : IsRow .u8 W a len cap zs) : ∃ l : List Int, l.length = len ∧ l.length ≤ cap ∧ l.length ≤ 9223372036854775807 ∧ Sh.Bytes l ∧ Kd.C (Kd.int .u8) W a l.length l := by
  rcases h with ⟨rfl, rfl, rfl, rfl⟩ | ⟨x, rfl, h1, h2, h3, h4, h5⟩
  · exact ⟨[], rfl, Nat.le_refl _, by simp, (by intro y hy; cases hy), Kd.C_of_reads (d := 0) ⟨rfl, by simp, fun h => absurd h (by simp)⟩⟩
  · have hm : maxLen ≤ 9223372036854775807 := by decide
    have hl : (zs.take len).length = len := by rw [List.length_take]; omega
    refine ⟨zs.take len, hl, by omega, by omega, ?_, ?_⟩
    · intro y hy
      have := h5 y (List.mem_of_mem_take hy)
      simp only [Lit.wf, IntKind.min, IntKind.max, IntKind.signed, IntKind.bits] at this
      simp at this
      omega
    · refine Kd.C_of_reads (d := 0) ⟨rfl, by omega, fun _ => ⟨x, rfl, fun j hj => ?_⟩⟩
      rw [h4 j (by omega)]
      rw [List.getD_eq_getElem?_getD, List.getD_eq_getElem?_getD, List.getElem?_take, if_pos (by omega)]
end Go.Proofs.YtabdnlecpndfjaaDoor
set_option linter.unusedVariables false
set_option linter.unusedSimpArgs false
namespace Go.Proofs.YtabdnlecpndfjaaDoor.Ps
open Go.RowKit Go.Proofs.YtabdnlecpndfjaaDoor.PBase Go.Proofs.YtabdnlecpndfjaaDoorW.PrintWords Go.Proofs.YtabdnlecpndfjaaDoorW.PrintLast Go.Proofs.YtabdnlecpndfjaaDoorW.PrintMore
def Dist (l : List Tn) : Prop := l.Pairwise (fun x y => x.f0 ≠ y.f0)
theorem find_none {l : List Tn} {id : Int} : find l id = none ↔ ∀ x ∈ l, x.f0 ≠ id := by
  unfold find
  rw [List.find?_eq_none]
  constructor
  · intro h x hx he
    exact h x hx (by simpa using he)
  · intro h x hx he
    exact h x hx (by simpa using he)
theorem good_iff : ∀ (l acc : List Tn), good acc l = true ↔ (∀ x ∈ l, 0 < x.f1.length) ∧ (∀ x ∈ l, find acc x.f0 = none) ∧ Dist l
  | [], acc => by simp [good, Dist]
  | x :: xs, acc => by
    rw [good]
    simp only [Bool.and_eq_true, Option.isNone_iff_eq_none, decide_eq_true_eq]
    rw [good_iff xs (acc ++ [x])]
    constructor
    · rintro ⟨⟨h1, h2⟩, h3, h4, h5⟩
      have h4' : ∀ y ∈ xs, y.f0 ≠ x.f0 ∧ find acc y.f0 = none := fun y hy => by
        have := h4 y hy
        rw [find_snoc acc x y.f0 h1] at this
        by_cases h : y.f0 = x.f0
        · rw [if_pos h] at this; cases this
        · rw [if_neg h] at this; exact ⟨h, this⟩
      refine ⟨?_, ?_, ?_⟩
      · intro y hy
        rcases List.mem_cons.1 hy with rfl | hy
        · exact h2
        · exact h3 y hy
      · intro y hy
        rcases List.mem_cons.1 hy with rfl | hy
        · exact h1
        · exact (h4' y hy).2
      · exact List.pairwise_cons.2 ⟨fun y hy he => (h4' y hy).1 he.symm, h5⟩
    · rintro ⟨h1, h2, h3⟩
      obtain ⟨h4, h5⟩ := List.pairwise_cons.1 h3
      have hx := h2 x List.mem_cons_self
      refine ⟨⟨hx, h1 x List.mem_cons_self⟩, fun y hy => h1 y (List.mem_cons_of_mem _ hy), fun y hy => ?_, h5⟩
      rw [find_snoc acc x y.f0 hx, if_neg (fun he => h4 y hy he.symm)]
      exact h2 y (List.mem_cons_of_mem _ hy)
theorem good_dist {l : List Tn} : good [] l = true ↔ (∀ x ∈ l, 0 < x.f1.length) ∧ Dist l := by
  rw [good_iff]
  constructor
  · exact fun h => ⟨h.1, h.2.2⟩
  · exact fun h => ⟨h.1, fun _ _ => rfl, h.2⟩
theorem find_of : ∀ {l : List Tn}, Dist l → ∀ {x : Tn}, x ∈ l → find l x.f0 = some x
  | [], _, x, h => by cases h
  | y :: ys, hd, x, h => by
    obtain ⟨h1, h2⟩ := List.pairwise_cons.1 hd
    unfold find
    rcases List.mem_cons.1 h with rfl | h
    · rw [List.find?_cons_of_pos (by simp)]
    · rw [List.find?_cons_of_neg (by simpa using h1 x h)]
      exact find_of h2 h
theorem find_perm {l m : List Tn} (hl : Dist l) (hm : Dist m) (hp : ∀ x, x ∈ l ↔ x ∈ m) (id : Int) : find l id = find m id := by
  cases h : find l id with
  | none =>
    refine (find_none.2 fun x hx => ?_).symm
    exact find_none.1 h x ((hp x).2 hx)
  | some x =>
    obtain ⟨h1, h2⟩ := find_mem h
    subst h2
    exact (find_of hm ((hp x).1 h1)).symm
theorem turn_good {l : List Tn} (n : Nat) (h : good [] l = true) : good [] (l.drop n ++ l.take n) = true ∧ ∀ id, find (l.drop n ++ l.take n) id = find l id := by
  obtain ⟨h1, h2⟩ := good_dist.1 h
  have hp : ∀ x, x ∈ l.drop n ++ l.take n ↔ x ∈ l := fun x => by
    rw [List.mem_append, or_comm, ← List.mem_append, List.take_append_drop]
  have hd : Dist (l.drop n ++ l.take n) := by
    have h3 : Dist (l.take n ++ l.drop n) := by rw [List.take_append_drop]; exact h2
    obtain ⟨a, b, c⟩ := List.pairwise_append.1 h3
    exact List.pairwise_append.2 ⟨b, a, fun x hx y hy he => c y hy x hx he.symm⟩
  exact ⟨good_dist.2 ⟨fun x hx => h1 x ((hp x).1 hx), hd⟩, fun id => find_perm hd h2 hp id⟩
theorem check_same {l m : List Tn} (h : ∀ id, find l id = find m id) (s : ByteArray) : check l s = check m s := by
  unfold check
  rw [h]
theorem verdict_cases (y : Tn) (b : List Int) : verdict y b = (zt, 52) ∨ verdict y b = (zt, 53) ∨ verdict y b = (zt, 54) ∨ verdict y b = (tok b, 0) := by
  unfold verdict
  split
  · exact .inl rfl
  · split
    · exact .inr (.inl rfl)
    · split
      · exact .inr (.inr (.inl rfl))
      · exact .inr (.inr (.inr rfl))
theorem verdict_51 (y : Tn) (b : List Int) : (verdict y b).2 ≠ 51 := by
  rcases verdict_cases y b with h | h | h | h <;> simp [h]
theorem one_good {l : List Tn} (h : good [] l = true) {x : Tn} (hx : x ∈ l) : good [] [x] = true := good_dist.2 ⟨fun y hy => by rw [List.mem_singleton.1 hy]; exact (good_dist.1 h).1 x hx, List.pairwise_singleton _ _⟩
theorem apart {l : List Tn} (h : good [] l = true) {x : Tn} (hx : x ∈ l) (s : ByteArray) :
    ((check [x] s).2 = 51 ∧ ((check l s).2 ≠ 0 ∨ (check l s).1.1 ≠ x.f0)) ∨ ((check [x] s).2 ≠ 51 ∧ check [x] s = check l s) := by
  by_cases hi : is s = true
  · by_cases hid : (tok (got s)).1 = x.f0
    · have h1 : find [x] (tok (got s)).1 = some x := by rw [hid]; exact find_of (List.pairwise_singleton _ _) (List.mem_singleton.2 rfl)
      have h2 : find l (tok (got s)).1 = some x := by rw [hid]; exact find_of (good_dist.1 h).2 hx
      rw [check_some hi h1, check_some hi h2]
      exact .inr ⟨verdict_51 _ _, rfl⟩
    · have h1 : find [x] (tok (got s)).1 = none := find_none.2 fun y hy he => hid (by rw [List.mem_singleton.1 hy] at he; exact he.symm)
      rw [check_none hi h1]
      refine .inl ⟨rfl, ?_⟩
      cases h2 : find l (tok (got s)).1 with
      | none => rw [check_none hi h2]; exact .inl (by decide)
      | some y =>
        rw [check_some hi h2]
        rcases verdict_cases y (got s) with h | h | h | h <;> rw [h]
        · exact .inl (by decide)
        · exact .inl (by decide)
        · exact .inl (by decide)
        · exact .inr hid
  · rw [check_form hi, check_form hi]
    exact .inr ⟨by decide, rfl⟩
def few (l : List Tn) : Bool := decide (l.length ≤ 70 ∧ ∀ x ∈ l, x.f1.length ≤ 200 ∧ x.f4.length ≤ 50)
theorem rdT (l : List Tn) (i : Nat) (hi : i < l.length) : PBase.rd_T42 l (i : Int) = l[i] := by
  unfold PBase.rd_T42
  rw [Int.toNat_natCast, List.getD_eq_getElem?_getD, List.getElem?_eq_getElem hi]
  rfl
theorem ten_l (l : List Tn) (hl : l.length ≤ 70) : ∀ (d i k : Nat), i + d = l.length → d < k → coamingref00_Tenants.l0 k l i = some (decide (∀ x ∈ l.drop i, x.f1.length ≤ 200 ∧ x.f4.length ≤ 50))
  | 0, i, k, hi, hk => by
    obtain ⟨k, rfl⟩ : ∃ m, k = m + 1 := ⟨k - 1, by omega⟩
    rw [coamingref00_Tenants.l0, if_neg (by omega), List.drop_of_length_le (by omega)]
    simp
  | d + 1, i, k, hi, hk => by
    obtain ⟨k, rfl⟩ : ∃ m, k = m + 1 := ⟨k - 1, by omega⟩
    have hlt : i < l.length := by omega
    have e1 : wrap64 ((i : Int) + 1) = ((i + 1 : Nat) : Int) := by unfold wrap64; omega
    rw [coamingref00_Tenants.l0, e1, rdT l i hlt, List.drop_eq_getElem_cons hlt]
    clear e1
    rw [if_pos (by omega), if_pos (by omega)]
    by_cases h1 : (l[i].f1.length : Int) > 200
    · rw [if_pos h1]
      congr 1
      exact (decide_eq_false (fun h => by have := (h _ List.mem_cons_self).1; omega)).symm
    · rw [if_neg h1]
      by_cases h2 : (l[i].f4.length : Int) > 50
      · rw [if_pos h2]
        congr 1
        exact (decide_eq_false (fun h => by have := (h _ List.mem_cons_self).2; omega)).symm
      · rw [if_neg h2, ten_l l hl d (i + 1) k (by omega) (by omega)]
        congr 1
        rw [decide_eq_decide]
        constructor
        · intro h x hx
          rcases List.mem_cons.1 hx with rfl | hx
          · exact ⟨by omega, by omega⟩
          · exact h x hx
        · exact fun h x hx => h x (List.mem_cons_of_mem _ hx)
theorem tenants_is (l : List Tn) (k : Nat) (hk : 100 ≤ k) : coamingref00_Tenants.f k l = some (few l) := by
  unfold coamingref00_Tenants.f few
  by_cases h : (l.length : Int) > 70
  · rw [if_pos h]
    congr 1
    exact (decide_eq_false (fun hh => by have := hh.1; omega)).symm
  · rw [if_neg h, show (0 : Int) = ((0 : Nat) : Int) from rfl, ten_l l (by omega) l.length 0 k (by omega) (by omega), List.drop_zero]
    congr 1
    rw [decide_eq_decide]
    exact ⟨fun hh => ⟨by omega, hh⟩, fun hh => hh.2⟩
theorem tenants_ {A : Option Addr} {n c : Nat} {l : List Tn} {w : World} (h : kTn.C w A l.length l) (hn : l.length = n) (hc : n ≤ c) {b : Bool} (hb : few l = b) :
    Calls Tryd.prog 17 #[.slice A n c] w fun e w' => e = .returned (.bool b) ∧ Below w.heap.size w w' := by
  subst hn; subst hb
  exact (coamingref00_Tenants.calls 100 A c l (few l) w h hc (tenants_is l 100 (Nat.le_refl _))).mono (fun _ _ ⟨a, h⟩ => ⟨a, by obtain ⟨m, hm⟩ := h.out; rw [hm]; exact pw_below_drewN (Below.refl _ _) m⟩)
theorem few_wf {l : List Tn} (h : few l = true) (hw : ∀ x ∈ l, TnIn x) : ∀ x ∈ l, TnWf x := fun x hx => by
  unfold few at h
  rw [decide_eq_true_eq] at h
  obtain ⟨h1, h2⟩ := h.2 x hx
  obtain ⟨a, b, _⟩ := hw x hx
  exact ⟨of32 a, by omega, by omega, bytes_of b.2⟩
theorem heap_tn : Kd.Heap kTn := Kd.heap_iso _ (Kd.heap_pair (Kd.heap_int _) (Kd.heap_pair (Kd.heap_slice _ (Kd.heap_int _)) (Kd.heap_pair (Kd.heap_int _) (Kd.heap_pair (Kd.heap_int _) (Kd.heap_slice _ (Kd.heap_int _))))))
theorem F_came {w : World} {A : Option Addr} {n : Nat} {l : List Tn} (h : kTn.C w A n l) : Kd.F kTn w (fun k => k < w.heap.size) A n l := fun W' hW => heap_tn.C (fun k hk => hW k hk hk) h
theorem infoTn : (Tryd.prog.info? 42).map (fun i => (i.zero, i.size, i.bytes)) = some (some (.agg z5.toArray), 5, 72) := by kernel_rfl
theorem slice_from (A : Option Addr) (n c : Nat) (xs : List Tn) (hn : xs.length = n) (h : Nat) (h1 : h ≤ n) (hc : n ≤ c) : ∃ (A' : Option Addr) (n' c' : Nat), (∀ W : World, (Instr.slice 43 (.slice A n c) (some (.int .i64 (h : Int))) none none).run Tryd.prog W = .ok (.slice A' n' c') W) ∧ n' ≤ n ∧ ∀ (W : World) (ok : Nat → Prop), Kd.F kTn W ok A n xs → Kd.F kTn W ok A' n' (xs.drop h) := by
  obtain ⟨i, hi1, hsz⟩ := Option.map_eq_some_iff.1 sizeTn
  refine ⟨if c = h then A else A.map (·.add (h * 5)), n - h, c - h, fun W => ?_, Nat.sub_le _ _, fun W ok hF => ?_⟩
  · have := cut_from (P := Tryd.prog) 43 42 .i64 Tryd.underlying43 hi1 5 hsz A n c (h : Int) (by omega) (by omega) W
    simpa using this
  · have := Kd.F_cut (m := h) (c := c) (by rw [hn]; exact hF) (by rw [hn]; exact h1) (by rw [hn]; exact hc)
    rw [List.length_drop, hn] at this
    exact this
theorem slice_to (A : Option Addr) (n c : Nat) (h : Nat) (h1 : h ≤ n) (hc : n ≤ c) (W : World) : (Instr.slice 43 (.slice A n c) none (some (.int .i64 (h : Int))) none).run Tryd.prog W = .ok (.slice A h c) W := by
  obtain ⟨i, hi1, hsz⟩ := Option.map_eq_some_iff.1 sizeTn
  have := cut_to (P := Tryd.prog) 43 42 .i64 Tryd.underlying43 hi1 A n c (h : Int) (by omega) (by omega) hc W
  simpa using this
theorem slice_one (A : Option Addr) (n c : Nat) (xs : List Tn) (hn : xs.length = n) (h : Nat) (h1 : h < n) (hc : n ≤ c) : ∃ (A' : Option Addr) (c' : Nat), (∀ W : World, (Instr.slice 43 (.slice A n c) (some (.int .i64 (h : Int))) (some (.int .i64 ((h : Int) + 1))) none).run Tryd.prog W = .ok (.slice A' 1 c') W) ∧ ∀ (W : World) (ok : Nat → Prop), Kd.F kTn W ok A n xs → Kd.F kTn W ok A' 1 [xs[h]] := by
  obtain ⟨i, hi1, hsz⟩ := Option.map_eq_some_iff.1 sizeTn
  refine ⟨if c = h then A else A.map (·.add (h * 5)), c - h, fun W => ?_, fun W ok hF => ?_⟩
  · have := cut_mid (P := Tryd.prog) 43 42 .i64 .i64 Tryd.underlying43 hi1 5 hsz A n c (h : Int) ((h + 1 : Nat) : Int) (by omega) (by omega) (by omega) hc W
    have e : ((h + 1 : Nat) : Int) = (h : Int) + 1 := by omega
    rw [e] at this
    simpa using this
  · have := Kd.F_mid (lo := h) (hi := h + 1) (c := c) (by rw [hn]; exact hF) (by omega) (by rw [hn]; omega) (by rw [hn]; exact hc)
    have e : (xs.take (h + 1)).drop h = [xs[h]] := by
      rw [List.take_succ_eq_append_getElem (by omega), List.drop_left' (by rw [List.length_take]; omega)]
    rw [e] at this
    exact this
theorem okp_came {sz : Nat} : ∀ k, k < sz → True ∧ some k ≠ (Value.slice none 0 0).ownBlock := fun k hk => ⟨trivial, by simp [Value.ownBlock]⟩
theorem okp_next {sz s2 : Nat} (hs : sz ≤ s2) {v : Value} (ha : v.ownBlock = (Value.slice none 0 0).ownBlock ∨ ∃ b, v.ownBlock = some b ∧ s2 ≤ b) : ∀ k, k < sz → True ∧ some k ≠ v.ownBlock := fun k hk => ⟨trivial, fun he => by
  rcases ha with h | ⟨b, h, hb⟩
  · rw [h] at he
    simp [Value.ownBlock] at he
  · rw [h] at he
    have := Option.some.inj he
    omega⟩
end Go.Proofs.YtabdnlecpndfjaaDoor.Ps
set_option linter.unusedVariables false
set_option linter.unusedSimpArgs false
namespace Go.Proofs.YtabdnlecpndfjaaDoor
open Go.RowKit Go.Proofs.YtabdnlecpndfjaaDoor.PBase Go.Proofs.YtabdnlecpndfjaaDoorW.PrintWords Go.Proofs.YtabdnlecpndfjaaDoorW.PrintLast Go.Proofs.YtabdnlecpndfjaaDoorW.PrintMore
set_option maxHeartbeats 4000000 in
set_option maxRecDepth 100000 in
theorem passApart_.calls (x0 : List Ps.Tn) (v0 : Value) (x1 : Int) (x2 : ByteArray) (W : World) (hk : Sh.Ks W) (hK0 : (Kd.slice 42 Ps.kTn).K W x0 [v0]) (hw0 : x0.length ≤ maxLen ∧ ∀ x ∈ x0, Ps.TnIn x) (hw1 : (Lit.int .i64 x1).wf = true) (hw2 : x2.size ≤ maxLen) :
    Calls Tryd.prog 7 #[v0, .int .i64 x1, .string x2] W fun e w' => e = .returned (.bool true) ∧ Below W.heap.size W w' := by
  obtain ⟨A0, c0, he0, hlc, hC⟩ := hK0
  obtain rfl : v0 = .slice A0 x0.length c0 := by simpa using he0
  have HK := Aside0.mk hk
  have HC := Aside0.mk hC
  have HI := Aside0.mk hw0.2
  obtain ⟨n, HN⟩ : ∃ n, Aside0 (x0.length = n) := ⟨_, ⟨rfl⟩⟩
  rw [HN.out] at hlc ⊢
  have HLC := Aside0.mk hlc
  have HW1 := Aside0.mk hw1
  obtain ⟨z, HZ⟩ : ∃ z, Aside0 (x2.size = z) := ⟨_, ⟨rfl⟩⟩
  clear hw0 hC he0 hk hlc hw2 hw1
  obtain ⟨fw, HFW⟩ : ∃ b, Aside0 (Ps.few x0 = b) := ⟨_, ⟨rfl⟩⟩
  go_enter Tryd.func7, Tryd.ntmps7
  go_wp2_with fail
  refine (Ps.tenants_ HC.out HN.out HLC.out HFW.out).mono ?_
  rintro e w1 ⟨rfl, hb1⟩
  have HB1 := Aside0.mk hb1
  clear hb1
  cases fw with
  | false =>
    go_wp2_with fail
    refine (known_.calls _ (HK.out.below HB1.out)).mono ?_
    rintro e w2 ⟨rfl, hb2⟩
    have HB2 := Aside0.mk (below_then HB1.out HB1.out.size hb2)
    clear hb2
    go_wp2_with fail
    go_ret
    exact ⟨rfl, HB2.out⟩
  | true =>
  have HTW := Aside0.mk (Ps.few_wf HFW.out HI.out)
  have HLN : Aside0 (n ≤ 70) := ⟨by
    have h := HFW.out
    unfold Ps.few at h
    rw [decide_eq_true_eq] at h
    rw [← HN.out]
    exact h.1⟩
  clear HI HFW
  by_cases h4 : z > 400
  · have hz : (x2.size : Int) > 400 := by rw [HZ.out]; omega
    go_wp2_with fail
    refine (known_.calls _ (HK.out.below HB1.out)).mono ?_
    rintro e w2 ⟨rfl, hb2⟩
    have HB2 := Aside0.mk (below_then HB1.out HB1.out.size hb2)
    clear hb2
    go_wp2_with fail
    go_ret
    exact ⟨rfl, HB2.out⟩
  have hz : ¬ (x2.size : Int) > 400 := by rw [HZ.out]; omega
  obtain ⟨y, HYS⟩ : ∃ y : Int, Aside0 ((x2.size : Int) = y) := ⟨_, ⟨rfl⟩⟩
  have hy : ¬ y > 400 := by rw [← HYS.out]; exact hz
  by_cases h0 : (n : Int) = 0
  · skip
    go_wp2_with fail
    refine (known_.calls _ (HK.out.below HB1.out)).mono ?_
    rintro e w2 ⟨rfl, hb2⟩
    have HB2 := Aside0.mk (below_then HB1.out HB1.out.size hb2)
    clear hb2
    go_wp2_with fail
    go_ret
    exact ⟨rfl, HB2.out⟩
  clear hy HYS
  have hb : (decide ((400 : Int) < (x2.size : Int)) || (n : Int) == 0) = false := by
    rw [Bool.or_eq_false_iff]
    exact ⟨decide_eq_false (by omega), by rw [beq_eq_false_iff_ne]; exact h0⟩
  go_wp2_with fail
  refine (known_.calls _ (HK.out.below HB1.out)).mono ?_
  rintro e w2 ⟨rfl, hb2⟩
  have HB2 := Aside0.mk (below_then HB1.out HB1.out.size hb2)
  have HSS : Aside0 (x2.size ≤ 1000000) := ⟨by rw [HZ.out]; omega⟩
  have HN0 : Aside0 (0 < n) := ⟨by omega⟩
  clear hb2 HB1 HZ h4
  go_wp2_with fail
  clear hz h0 hb
  refine (new_pass.calls A0 n c0 x0 w2 (Kd.C_below HC.out HB2.out) HN.out HTW.out).mono ?_
  rintro e w3 ⟨hb3, ⟨h, rfl⟩ | ⟨h, -, rfl⟩ | ⟨h64, hgd, p1, rfl, hTb⟩⟩
  · have HB3 := Aside0.mk (below_then HB2.out HB2.out.size hb3)
    clear hb3
    go_wp2_with fail
    go_ret
    exact ⟨rfl, HB3.out⟩
  · have HB3 := Aside0.mk (below_then HB2.out HB2.out.size hb3)
    clear hb3
    go_wp2_with fail
    go_ret
    exact ⟨rfl, HB3.out⟩
  have HB3 := Aside0.mk (below_then HB2.out HB2.out.size hb3)
  have HT3 := Aside0.mk hTb
  have HGD := Aside0.mk hgd
  obtain ⟨bs1, HBS⟩ : ∃ b, Aside0 (w2.heap.size = b) := ⟨_, ⟨rfl⟩⟩
  rw [HBS.out] at HT3
  clear hb3 hTb hgd HB2 HBS
  obtain ⟨p, hpp, HPN⟩ : ∃ p : Nat, max x1 0 % (n : Int) = (p : Int) ∧ Aside0 (p < n) := by
    have h0 : 0 ≤ max x1 0 % (n : Int) := Int.emod_nonneg _ (by have := HN0.out; omega)
    have h1 : max x1 0 % (n : Int) < n := Int.emod_lt_of_pos _ (by have := HN0.out; omega)
    obtain ⟨p, hp⟩ := Int.eq_ofNat_of_zero_le h0
    exact ⟨p, hp, ⟨by omega⟩⟩
  obtain ⟨A5, n5, c5, hs1, hn5, hF5⟩ := Ps.slice_from A0 n c0 x0 HN.out p (Nat.le_of_lt HPN.out) HLC.out
  have hs2 := Ps.slice_to A0 n c0 p (Nat.le_of_lt HPN.out) HLC.out
  have HF3 : Aside0 (Kd.F Ps.kTn w3 (fun k => k < W.heap.size) A0 n x0) := ⟨Kd.F_below (Ps.F_came (by rw [← HN.out]; exact HC.out)) HB3.out⟩
  have HF5 := Aside0.mk hF5
  have HFL : Aside0 ((x0.drop p).length = n5 ∧ (x0.take p).length = p) := ⟨by
    have h1 := Kd.F_len (hF5 w3 _ HF3.out)
    have := HN.out
    have := HPN.out
    exact ⟨h1, by rw [List.length_take]; omega⟩⟩
  have HLE : Aside0 ((([] : List Ps.Tn).length + n5) * 72 ≤ 140737488355328 ∧ ((x0.drop p).length + p) * 72 ≤ 140737488355328) := ⟨by
    have h1 := HLN.out
    have h2 := HPN.out
    have h3 := HFL.out.1
    rw [h3]
    simp only [List.length_nil]
    omega⟩
  have HTL : Aside0 ((x0.drop p ++ x0.take p).length = n) := ⟨by have h3 := HFL.out; rw [List.length_append, h3.1, h3.2]; have := HN.out; rw [List.length_drop] at h3; have := HPN.out; omega⟩
  have hnz : ¬ (n : Int) = 0 := by have := HN0.out; omega
  clear hn5 hF5
  go_wp2_with (first
    | (at_builtin; refine Kd.N_append_rows Ps.kTn (w0 := W) (W := w3) W.heap.size rfl (.tmp 55) (.tmp 58) 43 42 (.agg Ps.z5.toArray) 72 rfl Tryd.underlying43 Ps.infoTn rfl (by decide) (by omega) (.slice none 0 0) [] (x0.drop p) A5 n5 c5 (fun _ => True) (fun k => k < W.heap.size) rfl rfl (Kd.N_nil _ _ _ _ _) (HF5.out w3 _ HF3.out) Ps.okp_came (fun _ _ => trivial) HB3.out HB3.out.size HLE.out.1 ?_; intro v4 w4 hn4 hb4 hg4 ha4; rw [List.nil_append] at hn4; obtain ⟨A8, c8, rfl⟩ := Kd.N_slice hn4; rw [HFL.out.1] at hn4 ha4 ⊢; have HN4 := Aside0.mk hn4; have HB4 := Aside0.mk hb4; have HG4 := Aside0.mk hg4; have HA4 := Aside0.mk ha4; have HFT : Aside0 (Kd.F Ps.kTn w4 (fun k => k < W.heap.size) A0 p (x0.take p)) := ⟨by (have hh := Kd.F_take (m := p) (by rw [HN.out]; exact Kd.F_grown HF3.out hg4 (fun k _ => by simp [Value.ownBlock])) (by rw [HN.out]; exact Nat.le_of_lt HPN.out)); rwa [HFL.out.2] at hh⟩; clear hn4 hb4 hg4 ha4)
    | (at_builtin; refine Kd.N_append_rows Ps.kTn (w0 := W) (W := w4) W.heap.size rfl (.tmp 60) (.tmp 63) 43 42 (.agg Ps.z5.toArray) 72 rfl Tryd.underlying43 Ps.infoTn rfl (by decide) (by omega) (.slice A8 n5 c8) (x0.drop p) (x0.take p) A0 p c0 (fun _ => True) (fun k => k < W.heap.size) rfl rfl HN4.out HFT.out (Ps.okp_next HB3.out.size HA4.out) (fun _ _ => trivial) HB4.out HB4.out.size HLE.out.2 ?_; intro v5 w5 hn5 hb5 hg5 ha5; obtain ⟨A9, c9, rfl⟩ := Kd.N_slice hn5; rw [HTL.out] at hn5 ⊢; have HN5 := Aside0.mk hn5; have HB5 := Aside0.mk hb5; have HG5 := Aside0.mk hg5; clear hn5 hb5 hg5 ha5))
  obtain ⟨HTG, HTF⟩ : Aside0 (Ps.good [] (x0.drop p ++ x0.take p) = true) ∧ Aside0 (∀ s, Ps.check (x0.drop p ++ x0.take p) s = Ps.check x0 s) := by
    obtain ⟨h1, h2⟩ := Ps.turn_good p HGD.out
    exact ⟨⟨h1⟩, ⟨fun s => Ps.check_same h2 s⟩⟩
  have HTW5 : Aside0 (∀ x ∈ x0.drop p ++ x0.take p, Ps.TnWf x) := ⟨fun x hx => HTW.out x (by
    rcases List.mem_append.1 hx with h | h
    · exact List.mem_of_mem_drop h
    · exact List.mem_of_mem_take h)⟩
  have HC5 : Aside0 (Ps.kTn.C w5 A9 (x0.drop p ++ x0.take p).length (x0.drop p ++ x0.take p)) := ⟨(Kd.N_reads' HN5.out).2.2⟩
  have HT5 : Aside0 (Ps.Tb w5 bs1 p1 x0) := ⟨by
    have h4 : w3.grownBy w4 none := HG4.out
    have h5 : w3.grownBy w5 none := by
      refine ⟨h4.os ▸ HG5.out.os, h4.tape ▸ HG5.out.tape, h4.output ▸ HG5.out.output, Nat.le_trans h4.size HG5.out.size, fun k hk hr => ?_⟩
      refine (HG5.out.block k (Nat.lt_of_lt_of_le hk h4.size) (fun he => ?_)).trans (h4.block k hk hr)
      rcases HA4.out with h | ⟨b, h, hb⟩
      · rw [h] at he
        simp [Value.ownBlock] at he
      · rw [h] at he
        have := Option.some.inj he
        omega
    exact HT3.out.kept h5 (fun k hk => by cases hk)⟩
  clear hpp hs1 hs2 hnz HF3 HF5 HFL HLE HN4 HB4 HG4 HA4 HFT HN5 HG5 HT3 HB3
  refine (new_pass.calls A9 n c9 (x0.drop p ++ x0.take p) w5 HC5.out HTL.out HTW5.out).mono ?_
  rintro e w6 ⟨hb6, ⟨h, rfl⟩ | ⟨h, hg, rfl⟩ | ⟨_, -, p2, rfl, hTb⟩⟩
  · exact absurd h (by omega)
  · rw [HTG.out] at hg
    cases hg
  have HB6 := Aside0.mk (below_then HB5.out HB5.out.size hb6)
  have HT6 := Aside0.mk (HT5.out.below hb6)
  have HU6 := Aside0.mk hTb
  obtain ⟨bs2, HBS⟩ : ∃ b, Aside0 (w5.heap.size = b) := ⟨_, ⟨rfl⟩⟩
  rw [HBS.out] at HU6
  obtain ⟨A7, c7, hs3, hF7⟩ := Ps.slice_one A0 n c0 x0 HN.out p HPN.out HLC.out
  have hpi : p < x0.length := by rw [HN.out]; exact HPN.out
  have HC7 : Aside0 (Ps.kTn.C w6 A7 1 [x0[p]]) := ⟨Kd.C_below (Kd.F_now (hF7 W _ (Ps.F_came (by rw [← HN.out]; exact HC.out)))) HB6.out⟩
  have HXM := Aside0.mk (List.getElem_mem hpi)
  have HXD : Aside0 (∃ ad, A0 = some ad ∧ W.cell? (ad.add (p * 5)) = some (.int .u32 x0[p].f0)) := ⟨by
    obtain ⟨ad, B0, d0, B1, d1, hA, -, hc, -⟩ := Ps.row_get HC.out p hpi rfl
    exact ⟨ad, hA, hc 0 _ rfl⟩⟩
  obtain ⟨x, HXP⟩ : ∃ x, Aside0 (x0[p] = x) := ⟨_, ⟨rfl⟩⟩
  rw [HXP.out] at HC7 HXM HXD
  clear hb6 hTb hF7 HBS HT5 HC5 HB5
  have hp70 : (p : Int) < 70 := by have := HPN.out; have := HLN.out; omega
  go_wp2_with fail
  clear hs3
  have HXW : Aside0 (∀ y ∈ [x], Ps.TnWf y) := ⟨fun y hy => by rw [List.mem_singleton.1 hy]; exact HTW.out x HXM.out⟩
  have HXG : Aside0 (Ps.good [] [x] = true) := ⟨Ps.one_good HGD.out HXM.out⟩
  refine (new_pass.calls A7 1 c7 [x] w6 HC7.out rfl HXW.out).mono ?_
  rintro e w7 ⟨hb7, ⟨h, rfl⟩ | ⟨h, hg, rfl⟩ | ⟨_, -, p3, rfl, hTb⟩⟩
  · exact absurd h (by decide)
  · rw [HXG.out] at hg
    cases hg
  have HB7 := Aside0.mk (below_then HB6.out HB6.out.size hb7)
  have HT7 := Aside0.mk (HT6.out.below hb7)
  have HU7 := Aside0.mk (HU6.out.below hb7)
  have HV7 := Aside0.mk hTb
  obtain ⟨bs3, HBS⟩ : ∃ b, Aside0 (w6.heap.size = b) := ⟨_, ⟨rfl⟩⟩
  rw [HBS.out] at HV7
  clear hb7 hTb HBS HT6 HU6 HB6 HC7
  go_wp2_with fail
  obtain ⟨ai, ae, ao, as_, ax, HAC⟩ : ∃ i e o s x, Aside0 (Ps.check x0 x2 = ((i, e, o, s), x)) := ⟨_, _, _, _, _, ⟨rfl⟩⟩
  obtain ⟨ci, ce, co, cs, cx, HCC⟩ : ∃ i e o s r, Aside0 (Ps.check [x] x2 = ((i, e, o, s), r)) := ⟨_, _, _, _, _, ⟨rfl⟩⟩
  refine (check_.calls p1 bs1 x0 x2 w7 (HK.out.below HB7.out) HT7.out HSS.out HTW.out).mono ?_
  rintro e w8 ⟨rfl, hb8⟩
  rw [HAC.out]
  have HB8 := Aside0.mk (below_then HB7.out HB7.out.size hb8)
  have HU8 := Aside0.mk (HU7.out.below hb8)
  have HV8 := Aside0.mk (HV7.out.below hb8)
  clear hb8 HB7 HT7 HU7 HV7
  go_wp2_with fail
  generalize hWq : World.alloc w8 _ = w9
  have hb9 : Below w8.heap.size w8 w9 := by rw [← hWq]; exact below_alloc (Below.refl _ _) _
  have HX9 : Aside0 (Wk.Blk w9 w8.heap.size 26 (Ps.tkc (ai, ae, ao, as_))) := ⟨by rw [← hWq]; exact Wk.Blk.new w8 _ (Ps.tkc (ai, ae, ao, as_))⟩
  have HB9 := Aside0.mk (below_then HB8.out HB8.out.size hb9)
  have HU9 := Aside0.mk (HU8.out.below hb9)
  have HV9 := Aside0.mk (HV8.out.below hb9)
  obtain ⟨g16, HG16⟩ : ∃ b, Aside0 (w8.heap.size = b) := ⟨_, ⟨rfl⟩⟩
  rw [HG16.out] at HX9 ⊢
  clear hWq hb9 HB8 HU8 HV8 HG16
  refine (check_.calls p2 bs2 (x0.drop p ++ x0.take p) x2 w9 (HK.out.below HB9.out) HU9.out HSS.out HTW5.out).mono ?_
  rintro e w10 ⟨rfl, hb10⟩
  rw [HTF.out, HAC.out]
  have HB10 := Aside0.mk (below_then HB9.out HB9.out.size hb10)
  have HV10 := Aside0.mk (HV9.out.below hb10)
  have HX10 := Aside0.mk (HX9.out.below_ hb10)
  clear hb10 HB9 HU9 HV9 HX9
  go_wp2_with fail
  generalize hWq : World.alloc w10 _ = w11
  have hb11 : Below w10.heap.size w10 w11 := by rw [← hWq]; exact below_alloc (Below.refl _ _) _
  have HY11 : Aside0 (Wk.Blk w11 w10.heap.size 26 (Ps.tkc (ai, ae, ao, as_))) := ⟨by rw [← hWq]; exact Wk.Blk.new w10 _ (Ps.tkc (ai, ae, ao, as_))⟩
  have HB11 := Aside0.mk (below_then HB10.out HB10.out.size hb11)
  have HV11 := Aside0.mk (HV10.out.below hb11)
  have HX11 := Aside0.mk (HX10.out.below_ hb11)
  obtain ⟨g18, HG18⟩ : ∃ b, Aside0 (w10.heap.size = b) := ⟨_, ⟨rfl⟩⟩
  rw [HG18.out] at HY11 ⊢
  clear hWq hb11 HB10 HV10 HX10 HG18
  refine (check_.calls p3 bs3 [x] x2 w11 (HK.out.below HB11.out) HV11.out HSS.out HXW.out).mono ?_
  rintro e w12 ⟨rfl, hb12⟩
  rw [HCC.out]
  have HB12 := Aside0.mk (below_then HB11.out HB11.out.size hb12)
  have HX12 := Aside0.mk (HX11.out.below_ hb12)
  have HY12 := Aside0.mk (HY11.out.below_ hb12)
  clear hb12 HB11 HV11 HX11 HY11
  go_wp2_with fail
  generalize hWq : World.alloc w12 _ = w13
  have hb13 : Below w12.heap.size w12 w13 := by rw [← hWq]; exact below_alloc (Below.refl _ _) _
  have HZ13 : Aside0 (Wk.Blk w13 w12.heap.size 26 (Ps.tkc (ci, ce, co, cs))) := ⟨by rw [← hWq]; exact Wk.Blk.new w12 _ (Ps.tkc (ci, ce, co, cs))⟩
  have HB13 := Aside0.mk (below_then HB12.out HB12.out.size hb13)
  have HX13 := Aside0.mk (HX12.out.below_ hb13)
  have HY13 := Aside0.mk (HY12.out.below_ hb13)
  obtain ⟨g20, HG20⟩ : ∃ b, Aside0 (w12.heap.size = b) := ⟨_, ⟨rfl⟩⟩
  rw [HG20.out] at HZ13 ⊢
  clear hWq hb13 HB12 HX12 HY12 HG20
  obtain ⟨ad, rfl, hxd⟩ := HXD.out
  have HCE := Aside0.mk ((HB13.out.cell (World.block_lt_of_cell? _ _ hxd)).trans hxd)
  have HCL := Aside0.mk (World.block_lt_of_cell? _ _ HCE.out)
  have HPNI : (p : Int) < n := by have := HPN.out; omega
  have HSK := Aside0.mk Ps.sizeTk
  have HAP : Aside0 ((cx = 51 ∧ (ax ≠ 0 ∨ ai ≠ x.f0)) ∨ (cx ≠ 51 ∧ (((ci, ce, co, cs), cx) : Ps.Tk × Int) = ((ai, ae, ao, as_), ax))) := ⟨by
    have := Ps.apart HGD.out HXM.out x2
    rw [HAC.out, HCC.out] at this
    exact this⟩
  obtain ⟨f0, HF0⟩ : ∃ f, Aside0 (x.f0 = f) := ⟨_, ⟨rfl⟩⟩
  rw [HF0.out] at HCE HAP
  clear hxd HXD HAC HCC
  rcases HAP.out with ⟨rfl, hax⟩ | ⟨hcx, he⟩
  · by_cases hx0 : ax = 0
    · subst hx0
      have hai : (ai == f0) = false := by rw [beq_eq_false_iff_ne]; exact hax.resolve_left (fun h => h rfl)
      clear hax
      refine wp_region_noPanic ?_
      refine start_ (n := 37) (S := (fun w' => Below w13.heap.size w13 w')) (ds := []) #[false, false, false, false, false, false, false, false, false, false, false, false, false, false, false, false, false, false, false, false, false, false, false, false, false, false, false, false, false, false, false, false, false, false, false, false, false] (by kernel_rfl) rfl rfl (Below.refl _ _).drew (fun hHeld => ?_)
      refine take_ (i := 0) (N := (some 103)) (v := ?_) (a' := ?_) #[true, false, false, false, false, false, false, false, false, false, false, false, false, false, false, false, false, false, false, false, false, false, false, false, false, false, false, false, false, false, false, false, false, false, false, false, false] rfl rfl (by kernel_rfl) (fun _ _ _ h => h) (Or.inl ⟨by rfl, ?_⟩) hHeld ?_ ?_
      rotate_left
      · intro w' hS'
        (have hl := Wk.run_load_blk (P := Tryd.prog) 26 g16 0 (Ps.tkc (ai, ae, ao, as_)) _ (HX13.out.below_ hS') rfl Tryd.underlying26 rfl HSK.out; refine (Wk.exec_load 26 (.tmp 16) rfl _ _ rfl hl).trans ?_)
        first | done | with_reducible rfl
      rotate_left
      · simp only [Act.put, List.setIfInBounds_toArray, List.set_cons_zero, List.set_cons_succ]
        rfl
      refine take_ (i := 1) (N := (some 104)) (v := ?_) (a' := ?_) #[true, true, false, false, false, false, false, false, false, false, false, false, false, false, false, false, false, false, false, false, false, false, false, false, false, false, false, false, false, false, false, false, false, false, false, false, false] rfl rfl (by kernel_rfl) (fun _ _ _ h => h) (Or.inl ⟨by rfl, ?_⟩) hHeld ?_ ?_
      rotate_left
      · intro w' hS'
        (have hl := Wk.run_load_blk (P := Tryd.prog) 26 g18 0 (Ps.tkc (ai, ae, ao, as_)) _ (HY13.out.below_ hS') rfl Tryd.underlying26 rfl HSK.out; refine (Wk.exec_load 26 (.tmp 18) rfl _ _ rfl hl).trans ?_)
        first | done | with_reducible rfl
      rotate_left
      · simp only [Act.put, List.setIfInBounds_toArray, List.set_cons_zero, List.set_cons_succ]
        rfl
      refine pure_ (i := 2) (N := (some 105)) (v := ?_) (a' := ?_) #[true, true, true, false, false, false, false, false, false, false, false, false, false, false, false, false, false, false, false, false, false, false, false, false, false, false, false, false, false, false, false, false, false, false, false, false, false] rfl rfl (by kernel_rfl) (fun _ _ _ h => h) (Or.inl ⟨by rfl, ?_⟩) ?_ ?_
      rotate_left
      · intro w'
        go_simp
        first | done | with_reducible rfl
      rotate_left
      · simp only [Act.put, List.setIfInBounds_toArray, List.set_cons_zero, List.set_cons_succ]
        rfl
      refine pure_ (i := 3) (N := (some 106)) (v := ?_) (a' := ?_) #[true, true, true, true, false, false, false, false, false, false, false, false, false, false, false, false, false, false, false, false, false, false, false, false, false, false, false, false, false, false, false, false, false, false, false, false, false] rfl rfl (by kernel_rfl) (fun _ _ _ h => h) (Or.inl ⟨by rfl, ?_⟩) ?_ ?_
      rotate_left
      · intro w'
        go_simp
        first | done | with_reducible rfl
      rotate_left
      · simp only [Act.put, List.setIfInBounds_toArray, List.set_cons_zero, List.set_cons_succ]
        rfl
      refine pure_ (i := 4) (N := (some 107)) (v := ?_) (a' := ?_) #[true, true, true, true, true, false, false, false, false, false, false, false, false, false, false, false, false, false, false, false, false, false, false, false, false, false, false, false, false, false, false, false, false, false, false, false, false] rfl rfl (by kernel_rfl) (fun _ _ _ h => h) (Or.inl ⟨by rfl, ?_⟩) ?_ ?_
      rotate_left
      · intro w'
        go_simp
        first | done | with_reducible rfl
      rotate_left
      · simp only [Act.put, List.setIfInBounds_toArray, List.set_cons_zero, List.set_cons_succ]
        rfl
      refine pure_ (i := 5) (N := (some 108)) (v := ?_) (a' := ?_) #[true, true, true, true, true, true, false, false, false, false, false, false, false, false, false, false, false, false, false, false, false, false, false, false, false, false, false, false, false, false, false, false, false, false, false, false, false] rfl rfl (by kernel_rfl) (fun _ _ _ h => h) (Or.inl ⟨by rfl, ?_⟩) ?_ ?_
      rotate_left
      · intro w'
        go_simp
        first | done | with_reducible rfl
      rotate_left
      · simp only [Act.put, List.setIfInBounds_toArray, List.set_cons_zero, List.set_cons_succ]
        rfl
      refine pure_ (i := 6) (N := (some 109)) (v := ?_) (a' := ?_) #[true, true, true, true, true, true, true, false, false, false, false, false, false, false, false, false, false, false, false, false, false, false, false, false, false, false, false, false, false, false, false, false, false, false, false, false, false] rfl rfl (by kernel_rfl) (fun _ _ _ h => h) (Or.inl ⟨by rfl, ?_⟩) ?_ ?_
      rotate_left
      · intro w'
        go_simp
        first | done | with_reducible rfl
      rotate_left
      · simp only [Act.put, List.setIfInBounds_toArray, List.set_cons_zero, List.set_cons_succ]
        rfl
      refine pure_ (i := 7) (N := (some 110)) (v := ?_) (a' := ?_) #[true, true, true, true, true, true, true, true, false, false, false, false, false, false, false, false, false, false, false, false, false, false, false, false, false, false, false, false, false, false, false, false, false, false, false, false, false] rfl rfl (by kernel_rfl) (fun _ _ _ h => h) (Or.inl ⟨by rfl, ?_⟩) ?_ ?_
      rotate_left
      · intro w'
        go_simp
        first | done | with_reducible rfl
      rotate_left
      · simp only [Act.put, List.setIfInBounds_toArray, List.set_cons_zero, List.set_cons_succ]
        rfl
      refine pure_ (i := 8) (N := (some 111)) (v := ?_) (a' := ?_) #[true, true, true, true, true, true, true, true, true, false, false, false, false, false, false, false, false, false, false, false, false, false, false, false, false, false, false, false, false, false, false, false, false, false, false, false, false] rfl rfl (by kernel_rfl) (fun _ _ _ h => h) (Or.inl ⟨by rfl, ?_⟩) ?_ ?_
      rotate_left
      · intro w'
        go_simp
        first | done | with_reducible rfl
      rotate_left
      · simp only [Act.put, List.setIfInBounds_toArray, List.set_cons_zero, List.set_cons_succ]
        rfl
      refine pure_ (i := 9) (N := (some 112)) (v := ?_) (a' := ?_) #[true, true, true, true, true, true, true, true, true, true, false, false, false, false, false, false, false, false, false, false, false, false, false, false, false, false, false, false, false, false, false, false, false, false, false, false, false] rfl rfl (by kernel_rfl) (fun _ _ _ h => h) (Or.inl ⟨by rfl, ?_⟩) ?_ ?_
      rotate_left
      · intro w'
        go_simp
        first | done | with_reducible rfl
      rotate_left
      · simp only [Act.put, List.setIfInBounds_toArray, List.set_cons_zero, List.set_cons_succ]
        rfl
      refine pure_ (i := 10) (N := (some 113)) (v := ?_) (a' := ?_) #[true, true, true, true, true, true, true, true, true, true, true, false, false, false, false, false, false, false, false, false, false, false, false, false, false, false, false, false, false, false, false, false, false, false, false, false, false] rfl rfl (by kernel_rfl) (fun _ _ _ h => h) (Or.inl ⟨by rfl, ?_⟩) ?_ ?_
      rotate_left
      · intro w'
        go_simp
        first | done | with_reducible rfl
      rotate_left
      · simp only [Act.put, List.setIfInBounds_toArray, List.set_cons_zero, List.set_cons_succ]
        rfl
      refine pure_ (i := 11) (N := (some 114)) (v := ?_) (a' := ?_) #[true, true, true, true, true, true, true, true, true, true, true, true, false, false, false, false, false, false, false, false, false, false, false, false, false, false, false, false, false, false, false, false, false, false, false, false, false] rfl rfl (by kernel_rfl) (fun _ _ _ h => h) (Or.inl ⟨by rfl, ?_⟩) ?_ ?_
      rotate_left
      · intro w'
        go_simp
        first | done | with_reducible rfl
      rotate_left
      · simp only [Act.put, List.setIfInBounds_toArray, List.set_cons_zero, List.set_cons_succ]
        rfl
      refine pure_ (i := 12) (N := (some 115)) (v := ?_) (a' := ?_) #[true, true, true, true, true, true, true, true, true, true, true, true, true, false, false, false, false, false, false, false, false, false, false, false, false, false, false, false, false, false, false, false, false, false, false, false, false] rfl rfl (by kernel_rfl) (fun _ _ _ h => h) (Or.inl ⟨by rfl, ?_⟩) ?_ ?_
      rotate_left
      · intro w'
        go_simp
        first | done | with_reducible rfl
      rotate_left
      · simp only [Act.put, List.setIfInBounds_toArray, List.set_cons_zero, List.set_cons_succ]
        rfl
      refine pure_ (i := 13) (N := (some 116)) (v := ?_) (a' := ?_) #[true, true, true, true, true, true, true, true, true, true, true, true, true, true, false, false, false, false, false, false, false, false, false, false, false, false, false, false, false, false, false, false, false, false, false, false, false] rfl rfl (by kernel_rfl) (fun _ _ _ h => h) (Or.inl ⟨by rfl, ?_⟩) ?_ ?_
      rotate_left
      · intro w'
        go_simp
        first | done | with_reducible rfl
      rotate_left
      · simp only [Act.put, List.setIfInBounds_toArray, List.set_cons_zero, List.set_cons_succ]
        rfl
      refine pure_ (i := 14) (N := (some 117)) (v := ?_) (a' := ?_) #[true, true, true, true, true, true, true, true, true, true, true, true, true, true, true, false, false, false, false, false, false, false, false, false, false, false, false, false, false, false, false, false, false, false, false, false, false] rfl rfl (by kernel_rfl) (fun _ _ _ h => h) (Or.inl ⟨by rfl, ?_⟩) ?_ ?_
      rotate_left
      · intro w'
        go_simp
        first | done | with_reducible rfl
      rotate_left
      · simp only [Act.put, List.setIfInBounds_toArray, List.set_cons_zero, List.set_cons_succ]
        rfl
      refine pure_ (i := 15) (N := (some 118)) (v := ?_) (a' := ?_) #[true, true, true, true, true, true, true, true, true, true, true, true, true, true, true, true, false, false, false, false, false, false, false, false, false, false, false, false, false, false, false, false, false, false, false, false, false] rfl rfl (by kernel_rfl) (fun _ _ _ h => h) (Or.inl ⟨by rfl, ?_⟩) ?_ ?_
      rotate_left
      · intro w'
        go_simp
        first | done | with_reducible rfl
      rotate_left
      · simp only [Act.put, List.setIfInBounds_toArray, List.set_cons_zero, List.set_cons_succ]
        rfl
      refine take_ (i := 16) (N := (some 119)) (v := ?_) (a' := ?_) #[true, true, true, true, true, true, true, true, true, true, true, true, true, true, true, true, true, false, false, false, false, false, false, false, false, false, false, false, false, false, false, false, false, false, false, false, false] rfl rfl (by kernel_rfl) (fun _ _ _ h => h) (Or.inl ⟨by rfl, ?_⟩) hHeld ?_ ?_
      rotate_left
      · intro w' hS'
        (have c1 := (HX13.out.below_ hS').at_ 0 rfl; go_simp)
        first | done | with_reducible rfl
      rotate_left
      · simp only [Act.put, List.setIfInBounds_toArray, List.set_cons_zero, List.set_cons_succ]
        rfl
      refine pure_ (i := 17) (N := (some 120)) (v := ?_) (a' := ?_) #[true, true, true, true, true, true, true, true, true, true, true, true, true, true, true, true, true, true, false, false, false, false, false, false, false, false, false, false, false, false, false, false, false, false, false, false, false] rfl rfl (by kernel_rfl) (fun _ _ _ h => h) (Or.inl ⟨by rfl, ?_⟩) ?_ ?_
      rotate_left
      · intro w'
        go_simp
        first | done | with_reducible rfl
      rotate_left
      · simp only [Act.put, List.setIfInBounds_toArray, List.set_cons_zero, List.set_cons_succ]
        rfl
      refine pure_ (i := 18) (N := (some 121)) (v := ?_) (a' := ?_) #[true, true, true, true, true, true, true, true, true, true, true, true, true, true, true, true, true, true, true, false, false, false, false, false, false, false, false, false, false, false, false, false, false, false, false, false, false] rfl rfl (by kernel_rfl) (fun _ _ _ h => h) (Or.inl ⟨by rfl, ?_⟩) ?_ ?_
      rotate_left
      · intro w'
        go_simp
        first | done | with_reducible rfl
      rotate_left
      · simp only [Act.put, List.setIfInBounds_toArray, List.set_cons_zero, List.set_cons_succ]
        rfl
      refine pure_ (i := 19) (N := (some 122)) (v := ?_) (a' := ?_) #[true, true, true, true, true, true, true, true, true, true, true, true, true, true, true, true, true, true, true, true, false, false, false, false, false, false, false, false, false, false, false, false, false, false, false, false, false] rfl rfl (by kernel_rfl) (fun _ _ _ h => h) (Or.inl ⟨by rfl, ?_⟩) ?_ ?_
      rotate_left
      · intro w'
        go_simp
        first | done | with_reducible rfl
      rotate_left
      · simp only [Act.put, List.setIfInBounds_toArray, List.set_cons_zero, List.set_cons_succ]
        rfl
      refine pure_ (i := 20) (N := (some 123)) (v := ?_) (a' := ?_) #[true, true, true, true, true, true, true, true, true, true, true, true, true, true, true, true, true, true, true, true, true, false, false, false, false, false, false, false, false, false, false, false, false, false, false, false, false] rfl rfl (by kernel_rfl) (fun _ _ _ h => h) (Or.inl ⟨by rfl, ?_⟩) ?_ ?_
      rotate_left
      · intro w'
        go_simp
        first | done | with_reducible rfl
      rotate_left
      · simp only [Act.put, List.setIfInBounds_toArray, List.set_cons_zero, List.set_cons_succ]
        rfl
      refine take_ (i := 21) (N := (some 124)) (v := ?_) (a' := ?_) #[true, true, true, true, true, true, true, true, true, true, true, true, true, true, true, true, true, true, true, true, true, true, false, false, false, false, false, false, false, false, false, false, false, false, false, false, false] rfl rfl (by kernel_rfl) (fun _ _ _ h => h) (Or.inl ⟨by rfl, ?_⟩) hHeld ?_ ?_
      rotate_left
      · intro w' hS'
        (have c1 := (hS'.cell HCL.out).trans HCE.out; go_simp)
        first | done | with_reducible rfl
      rotate_left
      · simp only [Act.put, List.setIfInBounds_toArray, List.set_cons_zero, List.set_cons_succ]
        rfl
      refine pure_ (i := 22) (N := (some 125)) (v := ?_) (a' := ?_) #[true, true, true, true, true, true, true, true, true, true, true, true, true, true, true, true, true, true, true, true, true, true, true, false, false, false, false, false, false, false, false, false, false, false, false, false, false] rfl rfl (by kernel_rfl) (fun _ _ _ h => h) (Or.inl ⟨by rfl, ?_⟩) ?_ ?_
      rotate_left
      · intro w'
        (refine Eq.trans (b := .ok (Next.value (.bool true)) w') (by first | (go_simp; done) | (go_simp; simp_all; done) | (go_simp; omega)) ?_)
        first | done | with_reducible rfl
      rotate_left
      · simp only [Act.put, List.setIfInBounds_toArray, List.set_cons_zero, List.set_cons_succ]
        rfl
      refine pure_ (i := 23) (N := (some 126)) (v := ?_) (a' := ?_) #[true, true, true, true, true, true, true, true, true, true, true, true, true, true, true, true, true, true, true, true, true, true, true, true, false, false, false, false, false, false, false, false, false, false, false, false, false] rfl rfl (by kernel_rfl) (fun _ _ _ h => h) (Or.inl ⟨by rfl, ?_⟩) ?_ ?_
      rotate_left
      · intro w'
        go_simp
        first | done | with_reducible rfl
      rotate_left
      · simp only [Act.put, List.setIfInBounds_toArray, List.set_cons_zero, List.set_cons_succ]
        rfl
      refine pure_ (i := 24) (N := (some 127)) (v := ?_) (a' := ?_) #[true, true, true, true, true, true, true, true, true, true, true, true, true, true, true, true, true, true, true, true, true, true, true, true, true, false, false, false, false, false, false, false, false, false, false, false, false] rfl rfl (by kernel_rfl) (fun _ _ _ h => h) (Or.inl ⟨by rfl, ?_⟩) ?_ ?_
      rotate_left
      · intro w'
        go_simp
        first | done | with_reducible rfl
      rotate_left
      · simp only [Act.put, List.setIfInBounds_toArray, List.set_cons_zero, List.set_cons_succ]
        rfl
      refine pure_ (i := 25) (N := (some 128)) (v := ?_) (a' := ?_) #[true, true, true, true, true, true, true, true, true, true, true, true, true, true, true, true, true, true, true, true, true, true, true, true, true, true, false, false, false, false, false, false, false, false, false, false, false] rfl rfl (by kernel_rfl) (fun _ _ _ h => h) (Or.inl ⟨by rfl, ?_⟩) ?_ ?_
      rotate_left
      · intro w'
        go_simp
        first | done | with_reducible rfl
      rotate_left
      · simp only [Act.put, List.setIfInBounds_toArray, List.set_cons_zero, List.set_cons_succ]
        rfl
      refine pure_ (i := 26) (N := (some 129)) (v := undef) (a' := ?_) #[true, true, true, true, true, true, true, true, true, true, true, true, true, true, true, true, true, true, true, true, true, true, true, true, true, true, true, false, false, false, false, false, false, false, false, false, false] rfl rfl (by kernel_rfl) (fun _ _ _ h => h) (Or.inr ⟨by rfl, rfl⟩) ?_ ?_
      rotate_left
      · simp only [Act.put, List.setIfInBounds_toArray, List.set_cons_zero, List.set_cons_succ]
        rfl
      refine pure_ (i := 27) (N := (some 130)) (v := undef) (a' := ?_) #[true, true, true, true, true, true, true, true, true, true, true, true, true, true, true, true, true, true, true, true, true, true, true, true, true, true, true, true, false, false, false, false, false, false, false, false, false] rfl rfl (by kernel_rfl) (fun _ _ _ h => h) (Or.inr ⟨by rfl, rfl⟩) ?_ ?_
      rotate_left
      · simp only [Act.put, List.setIfInBounds_toArray, List.set_cons_zero, List.set_cons_succ]
        rfl
      refine pure_ (i := 28) (N := (some 131)) (v := undef) (a' := ?_) #[true, true, true, true, true, true, true, true, true, true, true, true, true, true, true, true, true, true, true, true, true, true, true, true, true, true, true, true, true, false, false, false, false, false, false, false, false] rfl rfl (by kernel_rfl) (fun _ _ _ h => h) (Or.inr ⟨by rfl, rfl⟩) ?_ ?_
      rotate_left
      · simp only [Act.put, List.setIfInBounds_toArray, List.set_cons_zero, List.set_cons_succ]
        rfl
      refine pure_ (i := 29) (N := (some 132)) (v := undef) (a' := ?_) #[true, true, true, true, true, true, true, true, true, true, true, true, true, true, true, true, true, true, true, true, true, true, true, true, true, true, true, true, true, true, false, false, false, false, false, false, false] rfl rfl (by kernel_rfl) (fun _ _ _ h => h) (Or.inr ⟨by rfl, rfl⟩) ?_ ?_
      rotate_left
      · simp only [Act.put, List.setIfInBounds_toArray, List.set_cons_zero, List.set_cons_succ]
        rfl
      refine pure_ (i := 30) (N := (some 133)) (v := undef) (a' := ?_) #[true, true, true, true, true, true, true, true, true, true, true, true, true, true, true, true, true, true, true, true, true, true, true, true, true, true, true, true, true, true, true, false, false, false, false, false, false] rfl rfl (by kernel_rfl) (fun _ _ _ h => h) (Or.inr ⟨by rfl, rfl⟩) ?_ ?_
      rotate_left
      · simp only [Act.put, List.setIfInBounds_toArray, List.set_cons_zero, List.set_cons_succ]
        rfl
      refine pure_ (i := 31) (N := (some 134)) (v := undef) (a' := ?_) #[true, true, true, true, true, true, true, true, true, true, true, true, true, true, true, true, true, true, true, true, true, true, true, true, true, true, true, true, true, true, true, true, false, false, false, false, false] rfl rfl (by kernel_rfl) (fun _ _ _ h => h) (Or.inr ⟨by rfl, rfl⟩) ?_ ?_
      rotate_left
      · simp only [Act.put, List.setIfInBounds_toArray, List.set_cons_zero, List.set_cons_succ]
        rfl
      refine pure_ (i := 32) (N := (some 135)) (v := undef) (a' := ?_) #[true, true, true, true, true, true, true, true, true, true, true, true, true, true, true, true, true, true, true, true, true, true, true, true, true, true, true, true, true, true, true, true, true, false, false, false, false] rfl rfl (by kernel_rfl) (fun _ _ _ h => h) (Or.inr ⟨by rfl, rfl⟩) ?_ ?_
      rotate_left
      · simp only [Act.put, List.setIfInBounds_toArray, List.set_cons_zero, List.set_cons_succ]
        rfl
      refine pure_ (i := 33) (N := (some 136)) (v := undef) (a' := ?_) #[true, true, true, true, true, true, true, true, true, true, true, true, true, true, true, true, true, true, true, true, true, true, true, true, true, true, true, true, true, true, true, true, true, true, false, false, false] rfl rfl (by kernel_rfl) (fun _ _ _ h => h) (Or.inr ⟨by rfl, rfl⟩) ?_ ?_
      rotate_left
      · simp only [Act.put, List.setIfInBounds_toArray, List.set_cons_zero, List.set_cons_succ]
        rfl
      refine pure_ (i := 34) (N := (some 137)) (v := ?_) (a' := ?_) #[true, true, true, true, true, true, true, true, true, true, true, true, true, true, true, true, true, true, true, true, true, true, true, true, true, true, true, true, true, true, true, true, true, true, true, false, false] rfl rfl (by kernel_rfl) (fun _ _ _ h => h) (Or.inl ⟨by rfl, ?_⟩) ?_ ?_
      rotate_left
      · intro w'
        go_simp
        first | done | with_reducible rfl
      rotate_left
      · simp only [Act.put, List.setIfInBounds_toArray, List.set_cons_zero, List.set_cons_succ]
        rfl
      refine pure_ (i := 35) (N := (some 138)) (v := ?_) (a' := ?_) #[true, true, true, true, true, true, true, true, true, true, true, true, true, true, true, true, true, true, true, true, true, true, true, true, true, true, true, true, true, true, true, true, true, true, true, true, false] rfl rfl (by kernel_rfl) (fun _ _ _ h => h) (Or.inl ⟨by rfl, ?_⟩) ?_ ?_
      rotate_left
      · intro w'
        go_simp
        first | done | with_reducible rfl
      rotate_left
      · simp only [Act.put, List.setIfInBounds_toArray, List.set_cons_zero, List.set_cons_succ]
        rfl
      refine pure_ (i := 36) (N := (some 6)) (v := ?_) (a' := ?_) #[true, true, true, true, true, true, true, true, true, true, true, true, true, true, true, true, true, true, true, true, true, true, true, true, true, true, true, true, true, true, true, true, true, true, true, true, true] rfl rfl (by kernel_rfl) (fun _ _ _ h => h) (Or.inl ⟨by rfl, ?_⟩) ?_ ?_
      rotate_left
      · intro w'
        go_simp
        first | done | with_reducible rfl
      rotate_left
      · simp only [Act.put, List.setIfInBounds_toArray, List.set_cons_zero, List.set_cons_succ]
        rfl
      refine done_ (by kernel_rfl) ?_
      refine NoPanic.normal ?_
      have HBF := Aside0.mk (below_drew HB13.out)
      go_wp2_with fail
      go_ret
      exact ⟨rfl, HBF.out⟩
    · have hxb : (ax == 0) = false := by rw [beq_eq_false_iff_ne]; exact hx0
      clear hax
      refine wp_region_noPanic ?_
      refine start_ (n := 37) (S := (fun w' => Below w13.heap.size w13 w')) (ds := []) #[false, false, false, false, false, false, false, false, false, false, false, false, false, false, false, false, false, false, false, false, false, false, false, false, false, false, false, false, false, false, false, false, false, false, false, false, false] (by kernel_rfl) rfl rfl (Below.refl _ _).drew (fun hHeld => ?_)
      refine take_ (i := 0) (N := (some 103)) (v := ?_) (a' := ?_) #[true, false, false, false, false, false, false, false, false, false, false, false, false, false, false, false, false, false, false, false, false, false, false, false, false, false, false, false, false, false, false, false, false, false, false, false, false] rfl rfl (by kernel_rfl) (fun _ _ _ h => h) (Or.inl ⟨by rfl, ?_⟩) hHeld ?_ ?_
      rotate_left
      · intro w' hS'
        (have hl := Wk.run_load_blk (P := Tryd.prog) 26 g16 0 (Ps.tkc (ai, ae, ao, as_)) _ (HX13.out.below_ hS') rfl Tryd.underlying26 rfl HSK.out; refine (Wk.exec_load 26 (.tmp 16) rfl _ _ rfl hl).trans ?_)
        first | done | with_reducible rfl
      rotate_left
      · simp only [Act.put, List.setIfInBounds_toArray, List.set_cons_zero, List.set_cons_succ]
        rfl
      refine take_ (i := 1) (N := (some 104)) (v := ?_) (a' := ?_) #[true, true, false, false, false, false, false, false, false, false, false, false, false, false, false, false, false, false, false, false, false, false, false, false, false, false, false, false, false, false, false, false, false, false, false, false, false] rfl rfl (by kernel_rfl) (fun _ _ _ h => h) (Or.inl ⟨by rfl, ?_⟩) hHeld ?_ ?_
      rotate_left
      · intro w' hS'
        (have hl := Wk.run_load_blk (P := Tryd.prog) 26 g18 0 (Ps.tkc (ai, ae, ao, as_)) _ (HY13.out.below_ hS') rfl Tryd.underlying26 rfl HSK.out; refine (Wk.exec_load 26 (.tmp 18) rfl _ _ rfl hl).trans ?_)
        first | done | with_reducible rfl
      rotate_left
      · simp only [Act.put, List.setIfInBounds_toArray, List.set_cons_zero, List.set_cons_succ]
        rfl
      refine pure_ (i := 2) (N := (some 105)) (v := ?_) (a' := ?_) #[true, true, true, false, false, false, false, false, false, false, false, false, false, false, false, false, false, false, false, false, false, false, false, false, false, false, false, false, false, false, false, false, false, false, false, false, false] rfl rfl (by kernel_rfl) (fun _ _ _ h => h) (Or.inl ⟨by rfl, ?_⟩) ?_ ?_
      rotate_left
      · intro w'
        go_simp
        first | done | with_reducible rfl
      rotate_left
      · simp only [Act.put, List.setIfInBounds_toArray, List.set_cons_zero, List.set_cons_succ]
        rfl
      refine pure_ (i := 3) (N := (some 106)) (v := ?_) (a' := ?_) #[true, true, true, true, false, false, false, false, false, false, false, false, false, false, false, false, false, false, false, false, false, false, false, false, false, false, false, false, false, false, false, false, false, false, false, false, false] rfl rfl (by kernel_rfl) (fun _ _ _ h => h) (Or.inl ⟨by rfl, ?_⟩) ?_ ?_
      rotate_left
      · intro w'
        go_simp
        first | done | with_reducible rfl
      rotate_left
      · simp only [Act.put, List.setIfInBounds_toArray, List.set_cons_zero, List.set_cons_succ]
        rfl
      refine pure_ (i := 4) (N := (some 107)) (v := ?_) (a' := ?_) #[true, true, true, true, true, false, false, false, false, false, false, false, false, false, false, false, false, false, false, false, false, false, false, false, false, false, false, false, false, false, false, false, false, false, false, false, false] rfl rfl (by kernel_rfl) (fun _ _ _ h => h) (Or.inl ⟨by rfl, ?_⟩) ?_ ?_
      rotate_left
      · intro w'
        go_simp
        first | done | with_reducible rfl
      rotate_left
      · simp only [Act.put, List.setIfInBounds_toArray, List.set_cons_zero, List.set_cons_succ]
        rfl
      refine pure_ (i := 5) (N := (some 108)) (v := ?_) (a' := ?_) #[true, true, true, true, true, true, false, false, false, false, false, false, false, false, false, false, false, false, false, false, false, false, false, false, false, false, false, false, false, false, false, false, false, false, false, false, false] rfl rfl (by kernel_rfl) (fun _ _ _ h => h) (Or.inl ⟨by rfl, ?_⟩) ?_ ?_
      rotate_left
      · intro w'
        go_simp
        first | done | with_reducible rfl
      rotate_left
      · simp only [Act.put, List.setIfInBounds_toArray, List.set_cons_zero, List.set_cons_succ]
        rfl
      refine pure_ (i := 6) (N := (some 109)) (v := ?_) (a' := ?_) #[true, true, true, true, true, true, true, false, false, false, false, false, false, false, false, false, false, false, false, false, false, false, false, false, false, false, false, false, false, false, false, false, false, false, false, false, false] rfl rfl (by kernel_rfl) (fun _ _ _ h => h) (Or.inl ⟨by rfl, ?_⟩) ?_ ?_
      rotate_left
      · intro w'
        go_simp
        first | done | with_reducible rfl
      rotate_left
      · simp only [Act.put, List.setIfInBounds_toArray, List.set_cons_zero, List.set_cons_succ]
        rfl
      refine pure_ (i := 7) (N := (some 110)) (v := ?_) (a' := ?_) #[true, true, true, true, true, true, true, true, false, false, false, false, false, false, false, false, false, false, false, false, false, false, false, false, false, false, false, false, false, false, false, false, false, false, false, false, false] rfl rfl (by kernel_rfl) (fun _ _ _ h => h) (Or.inl ⟨by rfl, ?_⟩) ?_ ?_
      rotate_left
      · intro w'
        go_simp
        first | done | with_reducible rfl
      rotate_left
      · simp only [Act.put, List.setIfInBounds_toArray, List.set_cons_zero, List.set_cons_succ]
        rfl
      refine pure_ (i := 8) (N := (some 111)) (v := ?_) (a' := ?_) #[true, true, true, true, true, true, true, true, true, false, false, false, false, false, false, false, false, false, false, false, false, false, false, false, false, false, false, false, false, false, false, false, false, false, false, false, false] rfl rfl (by kernel_rfl) (fun _ _ _ h => h) (Or.inl ⟨by rfl, ?_⟩) ?_ ?_
      rotate_left
      · intro w'
        go_simp
        first | done | with_reducible rfl
      rotate_left
      · simp only [Act.put, List.setIfInBounds_toArray, List.set_cons_zero, List.set_cons_succ]
        rfl
      refine pure_ (i := 9) (N := (some 112)) (v := ?_) (a' := ?_) #[true, true, true, true, true, true, true, true, true, true, false, false, false, false, false, false, false, false, false, false, false, false, false, false, false, false, false, false, false, false, false, false, false, false, false, false, false] rfl rfl (by kernel_rfl) (fun _ _ _ h => h) (Or.inl ⟨by rfl, ?_⟩) ?_ ?_
      rotate_left
      · intro w'
        go_simp
        first | done | with_reducible rfl
      rotate_left
      · simp only [Act.put, List.setIfInBounds_toArray, List.set_cons_zero, List.set_cons_succ]
        rfl
      refine pure_ (i := 10) (N := (some 113)) (v := ?_) (a' := ?_) #[true, true, true, true, true, true, true, true, true, true, true, false, false, false, false, false, false, false, false, false, false, false, false, false, false, false, false, false, false, false, false, false, false, false, false, false, false] rfl rfl (by kernel_rfl) (fun _ _ _ h => h) (Or.inl ⟨by rfl, ?_⟩) ?_ ?_
      rotate_left
      · intro w'
        go_simp
        first | done | with_reducible rfl
      rotate_left
      · simp only [Act.put, List.setIfInBounds_toArray, List.set_cons_zero, List.set_cons_succ]
        rfl
      refine pure_ (i := 11) (N := (some 114)) (v := ?_) (a' := ?_) #[true, true, true, true, true, true, true, true, true, true, true, true, false, false, false, false, false, false, false, false, false, false, false, false, false, false, false, false, false, false, false, false, false, false, false, false, false] rfl rfl (by kernel_rfl) (fun _ _ _ h => h) (Or.inl ⟨by rfl, ?_⟩) ?_ ?_
      rotate_left
      · intro w'
        go_simp
        first | done | with_reducible rfl
      rotate_left
      · simp only [Act.put, List.setIfInBounds_toArray, List.set_cons_zero, List.set_cons_succ]
        rfl
      refine pure_ (i := 12) (N := (some 115)) (v := ?_) (a' := ?_) #[true, true, true, true, true, true, true, true, true, true, true, true, true, false, false, false, false, false, false, false, false, false, false, false, false, false, false, false, false, false, false, false, false, false, false, false, false] rfl rfl (by kernel_rfl) (fun _ _ _ h => h) (Or.inl ⟨by rfl, ?_⟩) ?_ ?_
      rotate_left
      · intro w'
        go_simp
        first | done | with_reducible rfl
      rotate_left
      · simp only [Act.put, List.setIfInBounds_toArray, List.set_cons_zero, List.set_cons_succ]
        rfl
      refine pure_ (i := 13) (N := (some 116)) (v := ?_) (a' := ?_) #[true, true, true, true, true, true, true, true, true, true, true, true, true, true, false, false, false, false, false, false, false, false, false, false, false, false, false, false, false, false, false, false, false, false, false, false, false] rfl rfl (by kernel_rfl) (fun _ _ _ h => h) (Or.inl ⟨by rfl, ?_⟩) ?_ ?_
      rotate_left
      · intro w'
        (refine Eq.trans (b := .ok (Next.value (.bool true)) w') (by first | (go_simp; done) | (go_simp; simp_all; done) | (go_simp; omega)) ?_)
        first | done | with_reducible rfl
      rotate_left
      · simp only [Act.put, List.setIfInBounds_toArray, List.set_cons_zero, List.set_cons_succ]
        rfl
      refine pure_ (i := 14) (N := (some 117)) (v := ?_) (a' := ?_) #[true, true, true, true, true, true, true, true, true, true, true, true, true, true, true, false, false, false, false, false, false, false, false, false, false, false, false, false, false, false, false, false, false, false, false, false, false] rfl rfl (by kernel_rfl) (fun _ _ _ h => h) (Or.inl ⟨by rfl, ?_⟩) ?_ ?_
      rotate_left
      · intro w'
        go_simp
        first | done | with_reducible rfl
      rotate_left
      · simp only [Act.put, List.setIfInBounds_toArray, List.set_cons_zero, List.set_cons_succ]
        rfl
      refine pure_ (i := 15) (N := (some 118)) (v := undef) (a' := ?_) #[true, true, true, true, true, true, true, true, true, true, true, true, true, true, true, true, false, false, false, false, false, false, false, false, false, false, false, false, false, false, false, false, false, false, false, false, false] rfl rfl (by kernel_rfl) (fun _ _ _ h => h) (Or.inr ⟨by rfl, rfl⟩) ?_ ?_
      rotate_left
      · simp only [Act.put, List.setIfInBounds_toArray, List.set_cons_zero, List.set_cons_succ]
        rfl
      refine pure_ (i := 16) (N := (some 119)) (v := undef) (a' := ?_) #[true, true, true, true, true, true, true, true, true, true, true, true, true, true, true, true, true, false, false, false, false, false, false, false, false, false, false, false, false, false, false, false, false, false, false, false, false] rfl rfl (by kernel_rfl) (fun _ _ _ h => h) (Or.inr ⟨by rfl, rfl⟩) ?_ ?_
      rotate_left
      · simp only [Act.put, List.setIfInBounds_toArray, List.set_cons_zero, List.set_cons_succ]
        rfl
      refine pure_ (i := 17) (N := (some 120)) (v := undef) (a' := ?_) #[true, true, true, true, true, true, true, true, true, true, true, true, true, true, true, true, true, true, false, false, false, false, false, false, false, false, false, false, false, false, false, false, false, false, false, false, false] rfl rfl (by kernel_rfl) (fun _ _ _ h => h) (Or.inr ⟨by rfl, rfl⟩) ?_ ?_
      rotate_left
      · simp only [Act.put, List.setIfInBounds_toArray, List.set_cons_zero, List.set_cons_succ]
        rfl
      refine pure_ (i := 18) (N := (some 121)) (v := undef) (a' := ?_) #[true, true, true, true, true, true, true, true, true, true, true, true, true, true, true, true, true, true, true, false, false, false, false, false, false, false, false, false, false, false, false, false, false, false, false, false, false] rfl rfl (by kernel_rfl) (fun _ _ _ h => h) (Or.inr ⟨by rfl, rfl⟩) ?_ ?_
      rotate_left
      · simp only [Act.put, List.setIfInBounds_toArray, List.set_cons_zero, List.set_cons_succ]
        rfl
      refine pure_ (i := 19) (N := (some 122)) (v := undef) (a' := ?_) #[true, true, true, true, true, true, true, true, true, true, true, true, true, true, true, true, true, true, true, true, false, false, false, false, false, false, false, false, false, false, false, false, false, false, false, false, false] rfl rfl (by kernel_rfl) (fun _ _ _ h => h) (Or.inr ⟨by rfl, rfl⟩) ?_ ?_
      rotate_left
      · simp only [Act.put, List.setIfInBounds_toArray, List.set_cons_zero, List.set_cons_succ]
        rfl
      refine pure_ (i := 20) (N := (some 123)) (v := undef) (a' := ?_) #[true, true, true, true, true, true, true, true, true, true, true, true, true, true, true, true, true, true, true, true, true, false, false, false, false, false, false, false, false, false, false, false, false, false, false, false, false] rfl rfl (by kernel_rfl) (fun _ _ _ h => h) (Or.inr ⟨by rfl, rfl⟩) ?_ ?_
      rotate_left
      · simp only [Act.put, List.setIfInBounds_toArray, List.set_cons_zero, List.set_cons_succ]
        rfl
      refine pure_ (i := 21) (N := (some 124)) (v := undef) (a' := ?_) #[true, true, true, true, true, true, true, true, true, true, true, true, true, true, true, true, true, true, true, true, true, true, false, false, false, false, false, false, false, false, false, false, false, false, false, false, false] rfl rfl (by kernel_rfl) (fun _ _ _ h => h) (Or.inr ⟨by rfl, rfl⟩) ?_ ?_
      rotate_left
      · simp only [Act.put, List.setIfInBounds_toArray, List.set_cons_zero, List.set_cons_succ]
        rfl
      refine pure_ (i := 22) (N := (some 125)) (v := undef) (a' := ?_) #[true, true, true, true, true, true, true, true, true, true, true, true, true, true, true, true, true, true, true, true, true, true, true, false, false, false, false, false, false, false, false, false, false, false, false, false, false] rfl rfl (by kernel_rfl) (fun _ _ _ h => h) (Or.inr ⟨by rfl, rfl⟩) ?_ ?_
      rotate_left
      · simp only [Act.put, List.setIfInBounds_toArray, List.set_cons_zero, List.set_cons_succ]
        rfl
      refine pure_ (i := 23) (N := (some 126)) (v := ?_) (a' := ?_) #[true, true, true, true, true, true, true, true, true, true, true, true, true, true, true, true, true, true, true, true, true, true, true, true, false, false, false, false, false, false, false, false, false, false, false, false, false] rfl rfl (by kernel_rfl) (fun _ _ _ h => h) (Or.inl ⟨by rfl, ?_⟩) ?_ ?_
      rotate_left
      · intro w'
        go_simp
        first | done | with_reducible rfl
      rotate_left
      · simp only [Act.put, List.setIfInBounds_toArray, List.set_cons_zero, List.set_cons_succ]
        rfl
      refine pure_ (i := 24) (N := (some 127)) (v := ?_) (a' := ?_) #[true, true, true, true, true, true, true, true, true, true, true, true, true, true, true, true, true, true, true, true, true, true, true, true, true, false, false, false, false, false, false, false, false, false, false, false, false] rfl rfl (by kernel_rfl) (fun _ _ _ h => h) (Or.inl ⟨by rfl, ?_⟩) ?_ ?_
      rotate_left
      · intro w'
        go_simp
        first | done | with_reducible rfl
      rotate_left
      · simp only [Act.put, List.setIfInBounds_toArray, List.set_cons_zero, List.set_cons_succ]
        rfl
      refine pure_ (i := 25) (N := (some 128)) (v := ?_) (a' := ?_) #[true, true, true, true, true, true, true, true, true, true, true, true, true, true, true, true, true, true, true, true, true, true, true, true, true, true, false, false, false, false, false, false, false, false, false, false, false] rfl rfl (by kernel_rfl) (fun _ _ _ h => h) (Or.inl ⟨by rfl, ?_⟩) ?_ ?_
      rotate_left
      · intro w'
        go_simp
        first | done | with_reducible rfl
      rotate_left
      · simp only [Act.put, List.setIfInBounds_toArray, List.set_cons_zero, List.set_cons_succ]
        rfl
      refine pure_ (i := 26) (N := (some 129)) (v := undef) (a' := ?_) #[true, true, true, true, true, true, true, true, true, true, true, true, true, true, true, true, true, true, true, true, true, true, true, true, true, true, true, false, false, false, false, false, false, false, false, false, false] rfl rfl (by kernel_rfl) (fun _ _ _ h => h) (Or.inr ⟨by rfl, rfl⟩) ?_ ?_
      rotate_left
      · simp only [Act.put, List.setIfInBounds_toArray, List.set_cons_zero, List.set_cons_succ]
        rfl
      refine pure_ (i := 27) (N := (some 130)) (v := undef) (a' := ?_) #[true, true, true, true, true, true, true, true, true, true, true, true, true, true, true, true, true, true, true, true, true, true, true, true, true, true, true, true, false, false, false, false, false, false, false, false, false] rfl rfl (by kernel_rfl) (fun _ _ _ h => h) (Or.inr ⟨by rfl, rfl⟩) ?_ ?_
      rotate_left
      · simp only [Act.put, List.setIfInBounds_toArray, List.set_cons_zero, List.set_cons_succ]
        rfl
      refine pure_ (i := 28) (N := (some 131)) (v := undef) (a' := ?_) #[true, true, true, true, true, true, true, true, true, true, true, true, true, true, true, true, true, true, true, true, true, true, true, true, true, true, true, true, true, false, false, false, false, false, false, false, false] rfl rfl (by kernel_rfl) (fun _ _ _ h => h) (Or.inr ⟨by rfl, rfl⟩) ?_ ?_
      rotate_left
      · simp only [Act.put, List.setIfInBounds_toArray, List.set_cons_zero, List.set_cons_succ]
        rfl
      refine pure_ (i := 29) (N := (some 132)) (v := undef) (a' := ?_) #[true, true, true, true, true, true, true, true, true, true, true, true, true, true, true, true, true, true, true, true, true, true, true, true, true, true, true, true, true, true, false, false, false, false, false, false, false] rfl rfl (by kernel_rfl) (fun _ _ _ h => h) (Or.inr ⟨by rfl, rfl⟩) ?_ ?_
      rotate_left
      · simp only [Act.put, List.setIfInBounds_toArray, List.set_cons_zero, List.set_cons_succ]
        rfl
      refine pure_ (i := 30) (N := (some 133)) (v := undef) (a' := ?_) #[true, true, true, true, true, true, true, true, true, true, true, true, true, true, true, true, true, true, true, true, true, true, true, true, true, true, true, true, true, true, true, false, false, false, false, false, false] rfl rfl (by kernel_rfl) (fun _ _ _ h => h) (Or.inr ⟨by rfl, rfl⟩) ?_ ?_
      rotate_left
      · simp only [Act.put, List.setIfInBounds_toArray, List.set_cons_zero, List.set_cons_succ]
        rfl
      refine pure_ (i := 31) (N := (some 134)) (v := undef) (a' := ?_) #[true, true, true, true, true, true, true, true, true, true, true, true, true, true, true, true, true, true, true, true, true, true, true, true, true, true, true, true, true, true, true, true, false, false, false, false, false] rfl rfl (by kernel_rfl) (fun _ _ _ h => h) (Or.inr ⟨by rfl, rfl⟩) ?_ ?_
      rotate_left
      · simp only [Act.put, List.setIfInBounds_toArray, List.set_cons_zero, List.set_cons_succ]
        rfl
      refine pure_ (i := 32) (N := (some 135)) (v := undef) (a' := ?_) #[true, true, true, true, true, true, true, true, true, true, true, true, true, true, true, true, true, true, true, true, true, true, true, true, true, true, true, true, true, true, true, true, true, false, false, false, false] rfl rfl (by kernel_rfl) (fun _ _ _ h => h) (Or.inr ⟨by rfl, rfl⟩) ?_ ?_
      rotate_left
      · simp only [Act.put, List.setIfInBounds_toArray, List.set_cons_zero, List.set_cons_succ]
        rfl
      refine pure_ (i := 33) (N := (some 136)) (v := undef) (a' := ?_) #[true, true, true, true, true, true, true, true, true, true, true, true, true, true, true, true, true, true, true, true, true, true, true, true, true, true, true, true, true, true, true, true, true, true, false, false, false] rfl rfl (by kernel_rfl) (fun _ _ _ h => h) (Or.inr ⟨by rfl, rfl⟩) ?_ ?_
      rotate_left
      · simp only [Act.put, List.setIfInBounds_toArray, List.set_cons_zero, List.set_cons_succ]
        rfl
      refine pure_ (i := 34) (N := (some 137)) (v := ?_) (a' := ?_) #[true, true, true, true, true, true, true, true, true, true, true, true, true, true, true, true, true, true, true, true, true, true, true, true, true, true, true, true, true, true, true, true, true, true, true, false, false] rfl rfl (by kernel_rfl) (fun _ _ _ h => h) (Or.inl ⟨by rfl, ?_⟩) ?_ ?_
      rotate_left
      · intro w'
        go_simp
        first | done | with_reducible rfl
      rotate_left
      · simp only [Act.put, List.setIfInBounds_toArray, List.set_cons_zero, List.set_cons_succ]
        rfl
      refine pure_ (i := 35) (N := (some 138)) (v := ?_) (a' := ?_) #[true, true, true, true, true, true, true, true, true, true, true, true, true, true, true, true, true, true, true, true, true, true, true, true, true, true, true, true, true, true, true, true, true, true, true, true, false] rfl rfl (by kernel_rfl) (fun _ _ _ h => h) (Or.inl ⟨by rfl, ?_⟩) ?_ ?_
      rotate_left
      · intro w'
        go_simp
        first | done | with_reducible rfl
      rotate_left
      · simp only [Act.put, List.setIfInBounds_toArray, List.set_cons_zero, List.set_cons_succ]
        rfl
      refine pure_ (i := 36) (N := (some 6)) (v := ?_) (a' := ?_) #[true, true, true, true, true, true, true, true, true, true, true, true, true, true, true, true, true, true, true, true, true, true, true, true, true, true, true, true, true, true, true, true, true, true, true, true, true] rfl rfl (by kernel_rfl) (fun _ _ _ h => h) (Or.inl ⟨by rfl, ?_⟩) ?_ ?_
      rotate_left
      · intro w'
        go_simp
        first | done | with_reducible rfl
      rotate_left
      · simp only [Act.put, List.setIfInBounds_toArray, List.set_cons_zero, List.set_cons_succ]
        rfl
      refine done_ (by kernel_rfl) ?_
      refine NoPanic.normal ?_
      have HBF := Aside0.mk (below_drew HB13.out)
      go_wp2_with fail
      go_ret
      exact ⟨rfl, HBF.out⟩
  · simp only [Prod.mk.injEq] at he
    obtain ⟨⟨rfl, rfl, rfl, rfl⟩, rfl⟩ := he
    have hxb : (cx == 51) = false := by rw [beq_eq_false_iff_ne]; exact hcx
    clear HAP
    refine wp_region_noPanic ?_
    refine start_ (n := 37) (S := (fun w' => Below w13.heap.size w13 w')) (ds := []) #[false, false, false, false, false, false, false, false, false, false, false, false, false, false, false, false, false, false, false, false, false, false, false, false, false, false, false, false, false, false, false, false, false, false, false, false, false] (by kernel_rfl) rfl rfl (Below.refl _ _).drew (fun hHeld => ?_)
    refine take_ (i := 0) (N := (some 103)) (v := ?_) (a' := ?_) #[true, false, false, false, false, false, false, false, false, false, false, false, false, false, false, false, false, false, false, false, false, false, false, false, false, false, false, false, false, false, false, false, false, false, false, false, false] rfl rfl (by kernel_rfl) (fun _ _ _ h => h) (Or.inl ⟨by rfl, ?_⟩) hHeld ?_ ?_
    rotate_left
    · intro w' hS'
      (have hl := Wk.run_load_blk (P := Tryd.prog) 26 g16 0 (Ps.tkc (ci, ce, co, cs)) _ (HX13.out.below_ hS') rfl Tryd.underlying26 rfl HSK.out; refine (Wk.exec_load 26 (.tmp 16) rfl _ _ rfl hl).trans ?_)
      first | done | with_reducible rfl
    rotate_left
    · simp only [Act.put, List.setIfInBounds_toArray, List.set_cons_zero, List.set_cons_succ]
      rfl
    refine take_ (i := 1) (N := (some 104)) (v := ?_) (a' := ?_) #[true, true, false, false, false, false, false, false, false, false, false, false, false, false, false, false, false, false, false, false, false, false, false, false, false, false, false, false, false, false, false, false, false, false, false, false, false] rfl rfl (by kernel_rfl) (fun _ _ _ h => h) (Or.inl ⟨by rfl, ?_⟩) hHeld ?_ ?_
    rotate_left
    · intro w' hS'
      (have hl := Wk.run_load_blk (P := Tryd.prog) 26 g18 0 (Ps.tkc (ci, ce, co, cs)) _ (HY13.out.below_ hS') rfl Tryd.underlying26 rfl HSK.out; refine (Wk.exec_load 26 (.tmp 18) rfl _ _ rfl hl).trans ?_)
      first | done | with_reducible rfl
    rotate_left
    · simp only [Act.put, List.setIfInBounds_toArray, List.set_cons_zero, List.set_cons_succ]
      rfl
    refine pure_ (i := 2) (N := (some 105)) (v := ?_) (a' := ?_) #[true, true, true, false, false, false, false, false, false, false, false, false, false, false, false, false, false, false, false, false, false, false, false, false, false, false, false, false, false, false, false, false, false, false, false, false, false] rfl rfl (by kernel_rfl) (fun _ _ _ h => h) (Or.inl ⟨by rfl, ?_⟩) ?_ ?_
    rotate_left
    · intro w'
      go_simp
      first | done | with_reducible rfl
    rotate_left
    · simp only [Act.put, List.setIfInBounds_toArray, List.set_cons_zero, List.set_cons_succ]
      rfl
    refine pure_ (i := 3) (N := (some 106)) (v := ?_) (a' := ?_) #[true, true, true, true, false, false, false, false, false, false, false, false, false, false, false, false, false, false, false, false, false, false, false, false, false, false, false, false, false, false, false, false, false, false, false, false, false] rfl rfl (by kernel_rfl) (fun _ _ _ h => h) (Or.inl ⟨by rfl, ?_⟩) ?_ ?_
    rotate_left
    · intro w'
      go_simp
      first | done | with_reducible rfl
    rotate_left
    · simp only [Act.put, List.setIfInBounds_toArray, List.set_cons_zero, List.set_cons_succ]
      rfl
    refine pure_ (i := 4) (N := (some 107)) (v := ?_) (a' := ?_) #[true, true, true, true, true, false, false, false, false, false, false, false, false, false, false, false, false, false, false, false, false, false, false, false, false, false, false, false, false, false, false, false, false, false, false, false, false] rfl rfl (by kernel_rfl) (fun _ _ _ h => h) (Or.inl ⟨by rfl, ?_⟩) ?_ ?_
    rotate_left
    · intro w'
      go_simp
      first | done | with_reducible rfl
    rotate_left
    · simp only [Act.put, List.setIfInBounds_toArray, List.set_cons_zero, List.set_cons_succ]
      rfl
    refine pure_ (i := 5) (N := (some 108)) (v := ?_) (a' := ?_) #[true, true, true, true, true, true, false, false, false, false, false, false, false, false, false, false, false, false, false, false, false, false, false, false, false, false, false, false, false, false, false, false, false, false, false, false, false] rfl rfl (by kernel_rfl) (fun _ _ _ h => h) (Or.inl ⟨by rfl, ?_⟩) ?_ ?_
    rotate_left
    · intro w'
      go_simp
      first | done | with_reducible rfl
    rotate_left
    · simp only [Act.put, List.setIfInBounds_toArray, List.set_cons_zero, List.set_cons_succ]
      rfl
    refine pure_ (i := 6) (N := (some 109)) (v := ?_) (a' := ?_) #[true, true, true, true, true, true, true, false, false, false, false, false, false, false, false, false, false, false, false, false, false, false, false, false, false, false, false, false, false, false, false, false, false, false, false, false, false] rfl rfl (by kernel_rfl) (fun _ _ _ h => h) (Or.inl ⟨by rfl, ?_⟩) ?_ ?_
    rotate_left
    · intro w'
      go_simp
      first | done | with_reducible rfl
    rotate_left
    · simp only [Act.put, List.setIfInBounds_toArray, List.set_cons_zero, List.set_cons_succ]
      rfl
    refine pure_ (i := 7) (N := (some 110)) (v := ?_) (a' := ?_) #[true, true, true, true, true, true, true, true, false, false, false, false, false, false, false, false, false, false, false, false, false, false, false, false, false, false, false, false, false, false, false, false, false, false, false, false, false] rfl rfl (by kernel_rfl) (fun _ _ _ h => h) (Or.inl ⟨by rfl, ?_⟩) ?_ ?_
    rotate_left
    · intro w'
      go_simp
      first | done | with_reducible rfl
    rotate_left
    · simp only [Act.put, List.setIfInBounds_toArray, List.set_cons_zero, List.set_cons_succ]
      rfl
    refine pure_ (i := 8) (N := (some 111)) (v := ?_) (a' := ?_) #[true, true, true, true, true, true, true, true, true, false, false, false, false, false, false, false, false, false, false, false, false, false, false, false, false, false, false, false, false, false, false, false, false, false, false, false, false] rfl rfl (by kernel_rfl) (fun _ _ _ h => h) (Or.inl ⟨by rfl, ?_⟩) ?_ ?_
    rotate_left
    · intro w'
      go_simp
      first | done | with_reducible rfl
    rotate_left
    · simp only [Act.put, List.setIfInBounds_toArray, List.set_cons_zero, List.set_cons_succ]
      rfl
    refine pure_ (i := 9) (N := (some 112)) (v := ?_) (a' := ?_) #[true, true, true, true, true, true, true, true, true, true, false, false, false, false, false, false, false, false, false, false, false, false, false, false, false, false, false, false, false, false, false, false, false, false, false, false, false] rfl rfl (by kernel_rfl) (fun _ _ _ h => h) (Or.inl ⟨by rfl, ?_⟩) ?_ ?_
    rotate_left
    · intro w'
      go_simp
      first | done | with_reducible rfl
    rotate_left
    · simp only [Act.put, List.setIfInBounds_toArray, List.set_cons_zero, List.set_cons_succ]
      rfl
    refine pure_ (i := 10) (N := (some 113)) (v := ?_) (a' := ?_) #[true, true, true, true, true, true, true, true, true, true, true, false, false, false, false, false, false, false, false, false, false, false, false, false, false, false, false, false, false, false, false, false, false, false, false, false, false] rfl rfl (by kernel_rfl) (fun _ _ _ h => h) (Or.inl ⟨by rfl, ?_⟩) ?_ ?_
    rotate_left
    · intro w'
      go_simp
      first | done | with_reducible rfl
    rotate_left
    · simp only [Act.put, List.setIfInBounds_toArray, List.set_cons_zero, List.set_cons_succ]
      rfl
    refine pure_ (i := 11) (N := (some 114)) (v := ?_) (a' := ?_) #[true, true, true, true, true, true, true, true, true, true, true, true, false, false, false, false, false, false, false, false, false, false, false, false, false, false, false, false, false, false, false, false, false, false, false, false, false] rfl rfl (by kernel_rfl) (fun _ _ _ h => h) (Or.inl ⟨by rfl, ?_⟩) ?_ ?_
    rotate_left
    · intro w'
      go_simp
      first | done | with_reducible rfl
    rotate_left
    · simp only [Act.put, List.setIfInBounds_toArray, List.set_cons_zero, List.set_cons_succ]
      rfl
    refine pure_ (i := 12) (N := (some 115)) (v := undef) (a' := ?_) #[true, true, true, true, true, true, true, true, true, true, true, true, true, false, false, false, false, false, false, false, false, false, false, false, false, false, false, false, false, false, false, false, false, false, false, false, false] rfl rfl (by kernel_rfl) (fun _ _ _ h => h) (Or.inr ⟨by rfl, rfl⟩) ?_ ?_
    rotate_left
    · simp only [Act.put, List.setIfInBounds_toArray, List.set_cons_zero, List.set_cons_succ]
      rfl
    refine pure_ (i := 13) (N := (some 116)) (v := undef) (a' := ?_) #[true, true, true, true, true, true, true, true, true, true, true, true, true, true, false, false, false, false, false, false, false, false, false, false, false, false, false, false, false, false, false, false, false, false, false, false, false] rfl rfl (by kernel_rfl) (fun _ _ _ h => h) (Or.inr ⟨by rfl, rfl⟩) ?_ ?_
    rotate_left
    · simp only [Act.put, List.setIfInBounds_toArray, List.set_cons_zero, List.set_cons_succ]
      rfl
    refine pure_ (i := 14) (N := (some 117)) (v := undef) (a' := ?_) #[true, true, true, true, true, true, true, true, true, true, true, true, true, true, true, false, false, false, false, false, false, false, false, false, false, false, false, false, false, false, false, false, false, false, false, false, false] rfl rfl (by kernel_rfl) (fun _ _ _ h => h) (Or.inr ⟨by rfl, rfl⟩) ?_ ?_
    rotate_left
    · simp only [Act.put, List.setIfInBounds_toArray, List.set_cons_zero, List.set_cons_succ]
      rfl
    refine pure_ (i := 15) (N := (some 118)) (v := undef) (a' := ?_) #[true, true, true, true, true, true, true, true, true, true, true, true, true, true, true, true, false, false, false, false, false, false, false, false, false, false, false, false, false, false, false, false, false, false, false, false, false] rfl rfl (by kernel_rfl) (fun _ _ _ h => h) (Or.inr ⟨by rfl, rfl⟩) ?_ ?_
    rotate_left
    · simp only [Act.put, List.setIfInBounds_toArray, List.set_cons_zero, List.set_cons_succ]
      rfl
    refine pure_ (i := 16) (N := (some 119)) (v := undef) (a' := ?_) #[true, true, true, true, true, true, true, true, true, true, true, true, true, true, true, true, true, false, false, false, false, false, false, false, false, false, false, false, false, false, false, false, false, false, false, false, false] rfl rfl (by kernel_rfl) (fun _ _ _ h => h) (Or.inr ⟨by rfl, rfl⟩) ?_ ?_
    rotate_left
    · simp only [Act.put, List.setIfInBounds_toArray, List.set_cons_zero, List.set_cons_succ]
      rfl
    refine pure_ (i := 17) (N := (some 120)) (v := undef) (a' := ?_) #[true, true, true, true, true, true, true, true, true, true, true, true, true, true, true, true, true, true, false, false, false, false, false, false, false, false, false, false, false, false, false, false, false, false, false, false, false] rfl rfl (by kernel_rfl) (fun _ _ _ h => h) (Or.inr ⟨by rfl, rfl⟩) ?_ ?_
    rotate_left
    · simp only [Act.put, List.setIfInBounds_toArray, List.set_cons_zero, List.set_cons_succ]
      rfl
    refine pure_ (i := 18) (N := (some 121)) (v := undef) (a' := ?_) #[true, true, true, true, true, true, true, true, true, true, true, true, true, true, true, true, true, true, true, false, false, false, false, false, false, false, false, false, false, false, false, false, false, false, false, false, false] rfl rfl (by kernel_rfl) (fun _ _ _ h => h) (Or.inr ⟨by rfl, rfl⟩) ?_ ?_
    rotate_left
    · simp only [Act.put, List.setIfInBounds_toArray, List.set_cons_zero, List.set_cons_succ]
      rfl
    refine pure_ (i := 19) (N := (some 122)) (v := undef) (a' := ?_) #[true, true, true, true, true, true, true, true, true, true, true, true, true, true, true, true, true, true, true, true, false, false, false, false, false, false, false, false, false, false, false, false, false, false, false, false, false] rfl rfl (by kernel_rfl) (fun _ _ _ h => h) (Or.inr ⟨by rfl, rfl⟩) ?_ ?_
    rotate_left
    · simp only [Act.put, List.setIfInBounds_toArray, List.set_cons_zero, List.set_cons_succ]
      rfl
    refine pure_ (i := 20) (N := (some 123)) (v := undef) (a' := ?_) #[true, true, true, true, true, true, true, true, true, true, true, true, true, true, true, true, true, true, true, true, true, false, false, false, false, false, false, false, false, false, false, false, false, false, false, false, false] rfl rfl (by kernel_rfl) (fun _ _ _ h => h) (Or.inr ⟨by rfl, rfl⟩) ?_ ?_
    rotate_left
    · simp only [Act.put, List.setIfInBounds_toArray, List.set_cons_zero, List.set_cons_succ]
      rfl
    refine pure_ (i := 21) (N := (some 124)) (v := undef) (a' := ?_) #[true, true, true, true, true, true, true, true, true, true, true, true, true, true, true, true, true, true, true, true, true, true, false, false, false, false, false, false, false, false, false, false, false, false, false, false, false] rfl rfl (by kernel_rfl) (fun _ _ _ h => h) (Or.inr ⟨by rfl, rfl⟩) ?_ ?_
    rotate_left
    · simp only [Act.put, List.setIfInBounds_toArray, List.set_cons_zero, List.set_cons_succ]
      rfl
    refine pure_ (i := 22) (N := (some 125)) (v := undef) (a' := ?_) #[true, true, true, true, true, true, true, true, true, true, true, true, true, true, true, true, true, true, true, true, true, true, true, false, false, false, false, false, false, false, false, false, false, false, false, false, false] rfl rfl (by kernel_rfl) (fun _ _ _ h => h) (Or.inr ⟨by rfl, rfl⟩) ?_ ?_
    rotate_left
    · simp only [Act.put, List.setIfInBounds_toArray, List.set_cons_zero, List.set_cons_succ]
      rfl
    refine pure_ (i := 23) (N := (some 126)) (v := undef) (a' := ?_) #[true, true, true, true, true, true, true, true, true, true, true, true, true, true, true, true, true, true, true, true, true, true, true, true, false, false, false, false, false, false, false, false, false, false, false, false, false] rfl rfl (by kernel_rfl) (fun _ _ _ h => h) (Or.inr ⟨by rfl, rfl⟩) ?_ ?_
    rotate_left
    · simp only [Act.put, List.setIfInBounds_toArray, List.set_cons_zero, List.set_cons_succ]
      rfl
    refine pure_ (i := 24) (N := (some 127)) (v := ?_) (a' := ?_) #[true, true, true, true, true, true, true, true, true, true, true, true, true, true, true, true, true, true, true, true, true, true, true, true, true, false, false, false, false, false, false, false, false, false, false, false, false] rfl rfl (by kernel_rfl) (fun _ _ _ h => h) (Or.inl ⟨by rfl, ?_⟩) ?_ ?_
    rotate_left
    · intro w'
      go_simp
      first | done | with_reducible rfl
    rotate_left
    · simp only [Act.put, List.setIfInBounds_toArray, List.set_cons_zero, List.set_cons_succ]
      rfl
    refine pure_ (i := 25) (N := (some 128)) (v := ?_) (a' := ?_) #[true, true, true, true, true, true, true, true, true, true, true, true, true, true, true, true, true, true, true, true, true, true, true, true, true, true, false, false, false, false, false, false, false, false, false, false, false] rfl rfl (by kernel_rfl) (fun _ _ _ h => h) (Or.inl ⟨by rfl, ?_⟩) ?_ ?_
    rotate_left
    · intro w'
      go_simp
      first | done | with_reducible rfl
    rotate_left
    · simp only [Act.put, List.setIfInBounds_toArray, List.set_cons_zero, List.set_cons_succ]
      rfl
    refine take_ (i := 26) (N := (some 129)) (v := ?_) (a' := ?_) #[true, true, true, true, true, true, true, true, true, true, true, true, true, true, true, true, true, true, true, true, true, true, true, true, true, true, true, false, false, false, false, false, false, false, false, false, false] rfl rfl (by kernel_rfl) (fun _ _ _ h => h) (Or.inl ⟨by rfl, ?_⟩) hHeld ?_ ?_
    rotate_left
    · intro w' hS'
      (have hl := Wk.run_load_blk (P := Tryd.prog) 26 g16 0 (Ps.tkc (ci, ce, co, cs)) _ (HX13.out.below_ hS') rfl Tryd.underlying26 rfl HSK.out; refine (Wk.exec_load 26 (.tmp 16) rfl _ _ rfl hl).trans ?_)
      first | done | with_reducible rfl
    rotate_left
    · simp only [Act.put, List.setIfInBounds_toArray, List.set_cons_zero, List.set_cons_succ]
      rfl
    refine take_ (i := 27) (N := (some 130)) (v := ?_) (a' := ?_) #[true, true, true, true, true, true, true, true, true, true, true, true, true, true, true, true, true, true, true, true, true, true, true, true, true, true, true, true, false, false, false, false, false, false, false, false, false] rfl rfl (by kernel_rfl) (fun _ _ _ h => h) (Or.inl ⟨by rfl, ?_⟩) hHeld ?_ ?_
    rotate_left
    · intro w' hS'
      (have hl := Wk.run_load_blk (P := Tryd.prog) 26 g20 0 (Ps.tkc (ci, ce, co, cs)) _ (HZ13.out.below_ hS') rfl Tryd.underlying26 rfl HSK.out; refine (Wk.exec_load 26 (.tmp 20) rfl _ _ rfl hl).trans ?_)
      first | done | with_reducible rfl
    rotate_left
    · simp only [Act.put, List.setIfInBounds_toArray, List.set_cons_zero, List.set_cons_succ]
      rfl
    refine pure_ (i := 28) (N := (some 131)) (v := ?_) (a' := ?_) #[true, true, true, true, true, true, true, true, true, true, true, true, true, true, true, true, true, true, true, true, true, true, true, true, true, true, true, true, true, false, false, false, false, false, false, false, false] rfl rfl (by kernel_rfl) (fun _ _ _ h => h) (Or.inl ⟨by rfl, ?_⟩) ?_ ?_
    rotate_left
    · intro w'
      go_simp
      first | done | with_reducible rfl
    rotate_left
    · simp only [Act.put, List.setIfInBounds_toArray, List.set_cons_zero, List.set_cons_succ]
      rfl
    refine pure_ (i := 29) (N := (some 132)) (v := ?_) (a' := ?_) #[true, true, true, true, true, true, true, true, true, true, true, true, true, true, true, true, true, true, true, true, true, true, true, true, true, true, true, true, true, true, false, false, false, false, false, false, false] rfl rfl (by kernel_rfl) (fun _ _ _ h => h) (Or.inl ⟨by rfl, ?_⟩) ?_ ?_
    rotate_left
    · intro w'
      go_simp
      first | done | with_reducible rfl
    rotate_left
    · simp only [Act.put, List.setIfInBounds_toArray, List.set_cons_zero, List.set_cons_succ]
      rfl
    refine pure_ (i := 30) (N := (some 133)) (v := ?_) (a' := ?_) #[true, true, true, true, true, true, true, true, true, true, true, true, true, true, true, true, true, true, true, true, true, true, true, true, true, true, true, true, true, true, true, false, false, false, false, false, false] rfl rfl (by kernel_rfl) (fun _ _ _ h => h) (Or.inl ⟨by rfl, ?_⟩) ?_ ?_
    rotate_left
    · intro w'
      go_simp
      first | done | with_reducible rfl
    rotate_left
    · simp only [Act.put, List.setIfInBounds_toArray, List.set_cons_zero, List.set_cons_succ]
      rfl
    refine pure_ (i := 31) (N := (some 134)) (v := ?_) (a' := ?_) #[true, true, true, true, true, true, true, true, true, true, true, true, true, true, true, true, true, true, true, true, true, true, true, true, true, true, true, true, true, true, true, true, false, false, false, false, false] rfl rfl (by kernel_rfl) (fun _ _ _ h => h) (Or.inl ⟨by rfl, ?_⟩) ?_ ?_
    rotate_left
    · intro w'
      go_simp
      first | done | with_reducible rfl
    rotate_left
    · simp only [Act.put, List.setIfInBounds_toArray, List.set_cons_zero, List.set_cons_succ]
      rfl
    refine pure_ (i := 32) (N := (some 135)) (v := ?_) (a' := ?_) #[true, true, true, true, true, true, true, true, true, true, true, true, true, true, true, true, true, true, true, true, true, true, true, true, true, true, true, true, true, true, true, true, true, false, false, false, false] rfl rfl (by kernel_rfl) (fun _ _ _ h => h) (Or.inl ⟨by rfl, ?_⟩) ?_ ?_
    rotate_left
    · intro w'
      go_simp
      first | done | with_reducible rfl
    rotate_left
    · simp only [Act.put, List.setIfInBounds_toArray, List.set_cons_zero, List.set_cons_succ]
      rfl
    refine pure_ (i := 33) (N := (some 136)) (v := ?_) (a' := ?_) #[true, true, true, true, true, true, true, true, true, true, true, true, true, true, true, true, true, true, true, true, true, true, true, true, true, true, true, true, true, true, true, true, true, true, false, false, false] rfl rfl (by kernel_rfl) (fun _ _ _ h => h) (Or.inl ⟨by rfl, ?_⟩) ?_ ?_
    rotate_left
    · intro w'
      go_simp
      first | done | with_reducible rfl
    rotate_left
    · simp only [Act.put, List.setIfInBounds_toArray, List.set_cons_zero, List.set_cons_succ]
      rfl
    refine pure_ (i := 34) (N := (some 137)) (v := ?_) (a' := ?_) #[true, true, true, true, true, true, true, true, true, true, true, true, true, true, true, true, true, true, true, true, true, true, true, true, true, true, true, true, true, true, true, true, true, true, true, false, false] rfl rfl (by kernel_rfl) (fun _ _ _ h => h) (Or.inl ⟨by rfl, ?_⟩) ?_ ?_
    rotate_left
    · intro w'
      go_simp
      first | done | with_reducible rfl
    rotate_left
    · simp only [Act.put, List.setIfInBounds_toArray, List.set_cons_zero, List.set_cons_succ]
      rfl
    refine pure_ (i := 35) (N := (some 138)) (v := ?_) (a' := ?_) #[true, true, true, true, true, true, true, true, true, true, true, true, true, true, true, true, true, true, true, true, true, true, true, true, true, true, true, true, true, true, true, true, true, true, true, true, false] rfl rfl (by kernel_rfl) (fun _ _ _ h => h) (Or.inl ⟨by rfl, ?_⟩) ?_ ?_
    rotate_left
    · intro w'
      go_simp
      first | done | with_reducible rfl
    rotate_left
    · simp only [Act.put, List.setIfInBounds_toArray, List.set_cons_zero, List.set_cons_succ]
      rfl
    refine pure_ (i := 36) (N := (some 6)) (v := ?_) (a' := ?_) #[true, true, true, true, true, true, true, true, true, true, true, true, true, true, true, true, true, true, true, true, true, true, true, true, true, true, true, true, true, true, true, true, true, true, true, true, true] rfl rfl (by kernel_rfl) (fun _ _ _ h => h) (Or.inl ⟨by rfl, ?_⟩) ?_ ?_
    rotate_left
    · intro w'
      go_simp
      first | done | with_reducible rfl
    rotate_left
    · simp only [Act.put, List.setIfInBounds_toArray, List.set_cons_zero, List.set_cons_succ]
      rfl
    refine done_ (by kernel_rfl) ?_
    refine NoPanic.normal ?_
    have HBF := Aside0.mk (below_drew HB13.out)
    go_wp2_with fail
    go_ret
    exact ⟨rfl, HBF.out⟩
end Go.Proofs.YtabdnlecpndfjaaDoor
