/- What the law's proof stands on, part 4: PBasex8, PBasex9, SpellFns, SpellFnsB, SpellFnsC, ShaMath, ShaN, ShaMix, ShaWr, ShaSum, ShaRef, ShaRS, ShaK, MacM, PassM, Wk, Open, PassT, PassP, MacD (laid together by wip/pack.py). -/
import Derived.Test.YtgljicdpcapgnaaDoorXDP3
import Derived.Laws.CopyOwn
import Derived.Lib.SlBytesConst
import Derived.Laws.Closers25b
import Derived.ChangeArms
import Derived.ChangeSlices
import Derived.ChangeOld
import Derived.Maps.OwnOps
import Derived.Maps.OwnSet
import Derived.Maps.Views
namespace Go.Proofs.YtgljicdpcapgnaaDoor.PBase
open Go.RowKit Go.Proofs.YtgljicdpcapgnaaDoorW.PrintWords Go.Proofs.YtgljicdpcapgnaaDoorW.PrintLast Go.Proofs.YtgljicdpcapgnaaDoorW.PrintMore
attribute [local go_sem] max2_int min2_int max_two min_two max_three min_three max_four min_four   -- for this text's walks alone
set_option linter.unusedVariables false
set_option linter.unusedSimpArgs false
def coamingref20_Same.f (a0_0 : Int) (a0_1 : Int) (a0_2 : Int) (a0_3 : Int) (a0_4 : Int) (l0_5 : List Int) (a1_0 : Int) (a1_1 : Int) (a1_2 : Int) (a1_3 : Int) (a1_4 : Int) (l1_5 : List Int) : Option (Bool) := if a0_0 = a1_0 then (if a0_1 = a1_1 then (if a0_2 = a1_2 then (if a0_3 = a1_3 then (if a0_4 = a1_4 then (some ((strOfNums l0_5).toList == (strOfNums l1_5).toList)) else (some false)) else (some false)) else (some false)) else (some false)) else (some false)
set_option maxHeartbeats 8000000 in
set_option maxRecDepth 100000 in
theorem coamingref20_Same.calls (a0_0 : Int) (a0_1 : Int) (a0_2 : Int) (a0_3 : Int) (a0_4 : Int) (A0_5 : Option Addr) (c0_5 : Nat) (l0_5 : List Int) (a1_0 : Int) (a1_1 : Int) (a1_2 : Int) (a1_3 : Int) (a1_4 : Int) (A1_5 : Option Addr) (c1_5 : Nat) (l1_5 : List Int) (r : Bool) (w : World) (hr0_5 : Kd.C (Kd.int .u8) w A0_5 l0_5.length l0_5) (hc0_5 : l0_5.length ≤ c0_5) (hr1_5 : Kd.C (Kd.int .u8) w A1_5 l1_5.length l1_5) (hc1_5 : l1_5.length ≤ c1_5) (h : coamingref20_Same.f a0_0 a0_1 a0_2 a0_3 a0_4 l0_5 a1_0 a1_1 a1_2 a1_3 a1_4 l1_5 = some r) :
  Calls Tryd.prog 30 #[.agg #[.int .u16 a0_0, .int .u16 a0_1, .int .u64 a0_2, .int .u64 a0_3, .int .u32 a0_4, .slice A0_5 l0_5.length c0_5], .agg #[.int .u16 a1_0, .int .u16 a1_1, .int .u64 a1_2, .int .u64 a1_3, .int .u32 a1_4, .slice A1_5 l1_5.length c1_5]] w fun e w' => e = .returned (.bool r) ∧ Below w.heap.size w w' := by
 have hu61 := Tryd.underlying61
 have HR0_5 := Aside0.mk hr0_5
 have HC0_5 := Aside0.mk hc0_5
 clear hr0_5 hc0_5
 have HR1_5 := Aside0.mk hr1_5
 have HC1_5 := Aside0.mk hc1_5
 clear hr1_5 hc1_5
 have HB := Aside0.mk (Below.refl w.heap.size w)
 have H : (if a0_0 = a1_0 then (if a0_1 = a1_1 then (if a0_2 = a1_2 then (if a0_3 = a1_3 then (if a0_4 = a1_4 then (some ((strOfNums l0_5).toList == (strOfNums l1_5).toList)) else (some false)) else (some false)) else (some false)) else (some false)) else (some false)) = some r := h
 clear h
 by_cases c3 : a0_0 = a1_0
 ·rw [if_pos c3] at H
  have c3b0 : (a0_0 == a1_0) = true := beq_iff_eq.mpr c3
  have c3b1 : (a0_0 != a1_0) = false := bne_eq_false_iff_eq.mpr c3
  clear c3
  by_cases c4 : a0_1 = a1_1
  ·rw [if_pos c4] at H
   have c4b0 : (a0_1 == a1_1) = true := beq_iff_eq.mpr c4
   have c4b1 : (a0_1 != a1_1) = false := bne_eq_false_iff_eq.mpr c4
   clear c4
   by_cases c5 : a0_2 = a1_2
   ·rw [if_pos c5] at H
    have c5b0 : (a0_2 == a1_2) = true := beq_iff_eq.mpr c5
    have c5b1 : (a0_2 != a1_2) = false := bne_eq_false_iff_eq.mpr c5
    clear c5
    by_cases c6 : a0_3 = a1_3
    ·rw [if_pos c6] at H
     have c6b0 : (a0_3 == a1_3) = true := beq_iff_eq.mpr c6
     have c6b1 : (a0_3 != a1_3) = false := bne_eq_false_iff_eq.mpr c6
     clear c6
     by_cases c7 : a0_4 = a1_4
     ·rw [if_pos c7] at H
      have c7b0 : (a0_4 == a1_4) = true := beq_iff_eq.mpr c7
      have c7b1 : (a0_4 != a1_4) = false := bne_eq_false_iff_eq.mpr c7
      clear c7
      obtain rfl := Option.some.inj H
      go_enter Tryd.func30, Tryd.ntmps30
      go_wp2_with (first | ((with_reducible refine gate_dst (N := 2) rfl ?_); refine box_event ?hg (N := 2) ?hd (cs := #[.int .u16 a0_0, .int .u16 a0_1, .int .u64 a0_2, .int .u64 a0_3, .int .u32 a0_4, .slice A0_5 l0_5.length c0_5]) (t := 61) ?hr ?_; (case hd => rfl); (case hg => rfl); (case hr => first | (go_simp; done) | (go_simp; rfl) | (go_simp; simp only [IntKind.wrap_u32, Int.emod_add_emod, Int.add_emod_emod])); intro gb390 hg w8 hbox hb; have n0_ := Aside0.mk (below_step (by repeat (first | (with_reducible first | exact HB.out | apply below_alloc | apply pw_below_drewN | apply below_drew1) | exact HB.out)) hb); have n1_ := Aside0.mk (hbox); have n2_ := Aside0.mk ((by rw [hg]; exact (below_size (by repeat (first | (with_reducible first | exact HB.out | apply below_alloc | apply pw_below_drewN | apply below_drew1) | exact HB.out))) : w.heap.size ≤ gb390)); have n3_ := Aside0.mk ((by rw [hg]; exact (below_size (by repeat (first | (with_reducible first | exact HB.out | apply below_alloc | apply pw_below_drewN | apply below_drew1) | exact HB.out))) : w.heap.size ≤ gb390)); clear HB; have HB := n0_; have BK390 := n1_; have GW390 := n2_; have GE390 := n3_; clear n0_ n1_ n2_ n3_; clear hb hbox hg) | ((with_reducible refine gate_dst (N := 3) rfl ?_); refine box_event ?hg (N := 3) ?hd (cs := #[.int .u16 a1_0, .int .u16 a1_1, .int .u64 a1_2, .int .u64 a1_3, .int .u32 a1_4, .slice A1_5 l1_5.length c1_5]) (t := 61) ?hr ?_; (case hd => rfl); (case hg => rfl); (case hr => first | (go_simp; done) | (go_simp; rfl) | (go_simp; simp only [IntKind.wrap_u32, Int.emod_add_emod, Int.add_emod_emod])); intro gb391 hg w9 hbox hb; have n0_ := Aside0.mk (blk_below (g := gb390) (o := .cells #[.int .u16 a0_0, .int .u16 a0_1, .int .u64 a0_2, .int .u64 a0_3, .int .u32 a0_4, .slice A0_5 l0_5.length c0_5] 61 (0, 0)) (by (with_reducible repeat (first | refine blk_drewN ?_ _ | refine blk_drew ?_ | refine blk_alloc ?_ _)); exact BK390.out) hb); have n1_ := Aside0.mk (below_step (by repeat (first | (with_reducible first | exact HB.out | apply below_alloc | apply pw_below_drewN | apply below_drew1 | refine below_set ?_ GE390.out) | exact HB.out)) hb); have n2_ := Aside0.mk (hbox); have n3_ := Aside0.mk ((by rw [hg]; exact (below_size (by repeat (first | (with_reducible first | exact HB.out | apply below_alloc | apply pw_below_drewN | apply below_drew1 | refine below_set ?_ GE390.out) | exact HB.out))) : w.heap.size ≤ gb391)); have n4_ := Aside0.mk ((by rw [hg]; exact (below_size (by repeat (first | (with_reducible first | exact HB.out | apply below_alloc | apply pw_below_drewN | apply below_drew1 | refine below_set ?_ GE390.out) | exact HB.out))) : w.heap.size ≤ gb391)); have n5_ := Aside0.mk ((by rw [hg]; exact Nat.ne_of_lt (blk_lt (g := gb390) (o := .cells #[.int .u16 a0_0, .int .u16 a0_1, .int .u64 a0_2, .int .u64 a0_3, .int .u32 a0_4, .slice A0_5 l0_5.length c0_5] 61 (0, 0)) (by (with_reducible repeat (first | refine blk_drewN ?_ _ | refine blk_drew ?_ | refine blk_alloc ?_ _)); exact BK390.out)) : gb390 ≠ gb391)); have n6_ := Aside0.mk ((by rw [hg]; exact Nat.ne_of_gt (blk_lt (g := gb390) (o := .cells #[.int .u16 a0_0, .int .u16 a0_1, .int .u64 a0_2, .int .u64 a0_3, .int .u32 a0_4, .slice A0_5 l0_5.length c0_5] 61 (0, 0)) (by (with_reducible repeat (first | refine blk_drewN ?_ _ | refine blk_drew ?_ | refine blk_alloc ?_ _)); exact BK390.out)) : gb391 ≠ gb390)); clear BK390; clear HB; have BK390 := n0_; have HB := n1_; have BK391 := n2_; have GW391 := n3_; have GE391 := n4_; have NB390_391 := n5_; have NB391_390 := n6_; clear n0_ n1_ n2_ n3_ n4_ n5_ n6_; clear hb hbox hg; have hnb10 := NB390_391.out; have hnc10 := NB391_390.out; have hcz11_0 : w9.cell? ⟨gb390, 0, none⟩ = some (.int .u16 a0_0) := (blk_cell BK390.out 0).trans rfl; have hcz11_1 : w9.cell? ⟨gb390, 1, none⟩ = some (.int .u16 a0_1) := (blk_cell BK390.out 1).trans rfl; have hcz11_2 : w9.cell? ⟨gb390, 2, none⟩ = some (.int .u64 a0_2) := (blk_cell BK390.out 2).trans rfl; have hcz11_3 : w9.cell? ⟨gb390, 3, none⟩ = some (.int .u64 a0_3) := (blk_cell BK390.out 3).trans rfl; have hcz11_4 : w9.cell? ⟨gb390, 4, none⟩ = some (.int .u32 a0_4) := (blk_cell BK390.out 4).trans rfl; have hcz11_5 : w9.cell? ⟨gb390, 5, none⟩ = some (.slice A0_5 l0_5.length c0_5) := (blk_cell BK390.out 5).trans rfl; have hfz11_0 := blk_frozen BK390.out 0; have hfz11_1 := blk_frozen BK390.out 1; have hfz11_2 := blk_frozen BK390.out 2; have hfz11_3 := blk_frozen BK390.out 3; have hfz11_4 := blk_frozen BK390.out 4; have hfz11_5 := blk_frozen BK390.out 5; have hcz12_0 : w9.cell? ⟨gb391, 0, none⟩ = some (.int .u16 a1_0) := (blk_cell BK391.out 0).trans rfl; have hcz12_1 : w9.cell? ⟨gb391, 1, none⟩ = some (.int .u16 a1_1) := (blk_cell BK391.out 1).trans rfl; have hcz12_2 : w9.cell? ⟨gb391, 2, none⟩ = some (.int .u64 a1_2) := (blk_cell BK391.out 2).trans rfl; have hcz12_3 : w9.cell? ⟨gb391, 3, none⟩ = some (.int .u64 a1_3) := (blk_cell BK391.out 3).trans rfl; have hcz12_4 : w9.cell? ⟨gb391, 4, none⟩ = some (.int .u32 a1_4) := (blk_cell BK391.out 4).trans rfl; have hcz12_5 : w9.cell? ⟨gb391, 5, none⟩ = some (.slice A1_5 l1_5.length c1_5) := (blk_cell BK391.out 5).trans rfl; have hfz12_0 := blk_frozen BK391.out 0; have hfz12_1 := blk_frozen BK391.out 1; have hfz12_2 := blk_frozen BK391.out 2; have hfz12_3 := blk_frozen BK391.out 3; have hfz12_4 := blk_frozen BK391.out 4; have hfz12_5 := blk_frozen BK391.out 5; have hcv13 := Kd.C_string (P := Tryd.prog) (A := A0_5) (c := c0_5) Tryd.underlying23 Tryd.underlying5 Tryd.underlying9 (Kd.C_below HR0_5.out HB.out); have hcv14 := Kd.C_string (P := Tryd.prog) (A := A1_5) (c := c1_5) Tryd.underlying23 Tryd.underlying5 Tryd.underlying9 (Kd.C_below HR1_5.out HB.out)))
      go_ret
      exact ⟨by first | rfl | (simp [errW_none, errW_some] <;> rfl) | (simp [*, errW_none, errW_some] <;> rfl), by repeat (first | (with_reducible first | exact HB.out | apply below_alloc | apply pw_below_drewN | apply below_drew1 | refine below_set ?_ GE390.out | refine below_set ?_ GE391.out) | exact HB.out)⟩
     ·rw [if_neg c7] at H
      have c7b0 : (a0_4 == a1_4) = false := beq_eq_false_iff_ne.mpr c7
      have c7b1 : (a0_4 != a1_4) = true := bne_iff_ne.mpr c7
      obtain rfl := Option.some.inj H
      go_enter Tryd.func30, Tryd.ntmps30
      go_wp2_with (first | ((with_reducible refine gate_dst (N := 2) rfl ?_); refine box_event ?hg (N := 2) ?hd (cs := #[.int .u16 a0_0, .int .u16 a0_1, .int .u64 a0_2, .int .u64 a0_3, .int .u32 a0_4, .slice A0_5 l0_5.length c0_5]) (t := 61) ?hr ?_; (case hd => rfl); (case hg => rfl); (case hr => first | (go_simp; done) | (go_simp; rfl) | (go_simp; simp only [IntKind.wrap_u32, Int.emod_add_emod, Int.add_emod_emod])); intro gb390 hg w15 hbox hb; have n0_ := Aside0.mk (below_step (by repeat (first | (with_reducible first | exact HB.out | apply below_alloc | apply pw_below_drewN | apply below_drew1) | exact HB.out)) hb); have n1_ := Aside0.mk (hbox); have n2_ := Aside0.mk ((by rw [hg]; exact (below_size (by repeat (first | (with_reducible first | exact HB.out | apply below_alloc | apply pw_below_drewN | apply below_drew1) | exact HB.out))) : w.heap.size ≤ gb390)); have n3_ := Aside0.mk ((by rw [hg]; exact (below_size (by repeat (first | (with_reducible first | exact HB.out | apply below_alloc | apply pw_below_drewN | apply below_drew1) | exact HB.out))) : w.heap.size ≤ gb390)); clear HB; have HB := n0_; have BK390 := n1_; have GW390 := n2_; have GE390 := n3_; clear n0_ n1_ n2_ n3_; clear hb hbox hg) | ((with_reducible refine gate_dst (N := 3) rfl ?_); refine box_event ?hg (N := 3) ?hd (cs := #[.int .u16 a1_0, .int .u16 a1_1, .int .u64 a1_2, .int .u64 a1_3, .int .u32 a1_4, .slice A1_5 l1_5.length c1_5]) (t := 61) ?hr ?_; (case hd => rfl); (case hg => rfl); (case hr => first | (go_simp; done) | (go_simp; rfl) | (go_simp; simp only [IntKind.wrap_u32, Int.emod_add_emod, Int.add_emod_emod])); intro gb391 hg w16 hbox hb; have n0_ := Aside0.mk (blk_below (g := gb390) (o := .cells #[.int .u16 a0_0, .int .u16 a0_1, .int .u64 a0_2, .int .u64 a0_3, .int .u32 a0_4, .slice A0_5 l0_5.length c0_5] 61 (0, 0)) (by (with_reducible repeat (first | refine blk_drewN ?_ _ | refine blk_drew ?_ | refine blk_alloc ?_ _)); exact BK390.out) hb); have n1_ := Aside0.mk (below_step (by repeat (first | (with_reducible first | exact HB.out | apply below_alloc | apply pw_below_drewN | apply below_drew1 | refine below_set ?_ GE390.out) | exact HB.out)) hb); have n2_ := Aside0.mk (hbox); have n3_ := Aside0.mk ((by rw [hg]; exact (below_size (by repeat (first | (with_reducible first | exact HB.out | apply below_alloc | apply pw_below_drewN | apply below_drew1 | refine below_set ?_ GE390.out) | exact HB.out))) : w.heap.size ≤ gb391)); have n4_ := Aside0.mk ((by rw [hg]; exact (below_size (by repeat (first | (with_reducible first | exact HB.out | apply below_alloc | apply pw_below_drewN | apply below_drew1 | refine below_set ?_ GE390.out) | exact HB.out))) : w.heap.size ≤ gb391)); have n5_ := Aside0.mk ((by rw [hg]; exact Nat.ne_of_lt (blk_lt (g := gb390) (o := .cells #[.int .u16 a0_0, .int .u16 a0_1, .int .u64 a0_2, .int .u64 a0_3, .int .u32 a0_4, .slice A0_5 l0_5.length c0_5] 61 (0, 0)) (by (with_reducible repeat (first | refine blk_drewN ?_ _ | refine blk_drew ?_ | refine blk_alloc ?_ _)); exact BK390.out)) : gb390 ≠ gb391)); have n6_ := Aside0.mk ((by rw [hg]; exact Nat.ne_of_gt (blk_lt (g := gb390) (o := .cells #[.int .u16 a0_0, .int .u16 a0_1, .int .u64 a0_2, .int .u64 a0_3, .int .u32 a0_4, .slice A0_5 l0_5.length c0_5] 61 (0, 0)) (by (with_reducible repeat (first | refine blk_drewN ?_ _ | refine blk_drew ?_ | refine blk_alloc ?_ _)); exact BK390.out)) : gb391 ≠ gb390)); clear BK390; clear HB; have BK390 := n0_; have HB := n1_; have BK391 := n2_; have GW391 := n3_; have GE391 := n4_; have NB390_391 := n5_; have NB391_390 := n6_; clear n0_ n1_ n2_ n3_ n4_ n5_ n6_; clear hb hbox hg; have hnb17 := NB390_391.out; have hnc17 := NB391_390.out; have hcz18_0 : w16.cell? ⟨gb390, 0, none⟩ = some (.int .u16 a0_0) := (blk_cell BK390.out 0).trans rfl; have hcz18_1 : w16.cell? ⟨gb390, 1, none⟩ = some (.int .u16 a0_1) := (blk_cell BK390.out 1).trans rfl; have hcz18_2 : w16.cell? ⟨gb390, 2, none⟩ = some (.int .u64 a0_2) := (blk_cell BK390.out 2).trans rfl; have hcz18_3 : w16.cell? ⟨gb390, 3, none⟩ = some (.int .u64 a0_3) := (blk_cell BK390.out 3).trans rfl; have hcz18_4 : w16.cell? ⟨gb390, 4, none⟩ = some (.int .u32 a0_4) := (blk_cell BK390.out 4).trans rfl; have hcz18_5 : w16.cell? ⟨gb390, 5, none⟩ = some (.slice A0_5 l0_5.length c0_5) := (blk_cell BK390.out 5).trans rfl; have hfz18_0 := blk_frozen BK390.out 0; have hfz18_1 := blk_frozen BK390.out 1; have hfz18_2 := blk_frozen BK390.out 2; have hfz18_3 := blk_frozen BK390.out 3; have hfz18_4 := blk_frozen BK390.out 4; have hfz18_5 := blk_frozen BK390.out 5; have hcz19_0 : w16.cell? ⟨gb391, 0, none⟩ = some (.int .u16 a1_0) := (blk_cell BK391.out 0).trans rfl; have hcz19_1 : w16.cell? ⟨gb391, 1, none⟩ = some (.int .u16 a1_1) := (blk_cell BK391.out 1).trans rfl; have hcz19_2 : w16.cell? ⟨gb391, 2, none⟩ = some (.int .u64 a1_2) := (blk_cell BK391.out 2).trans rfl; have hcz19_3 : w16.cell? ⟨gb391, 3, none⟩ = some (.int .u64 a1_3) := (blk_cell BK391.out 3).trans rfl; have hcz19_4 : w16.cell? ⟨gb391, 4, none⟩ = some (.int .u32 a1_4) := (blk_cell BK391.out 4).trans rfl; have hcz19_5 : w16.cell? ⟨gb391, 5, none⟩ = some (.slice A1_5 l1_5.length c1_5) := (blk_cell BK391.out 5).trans rfl; have hfz19_0 := blk_frozen BK391.out 0; have hfz19_1 := blk_frozen BK391.out 1; have hfz19_2 := blk_frozen BK391.out 2; have hfz19_3 := blk_frozen BK391.out 3; have hfz19_4 := blk_frozen BK391.out 4; have hfz19_5 := blk_frozen BK391.out 5))
      go_ret
      exact ⟨by first | rfl | (simp [errW_none, errW_some] <;> rfl) | (simp [*, errW_none, errW_some] <;> rfl), by repeat (first | (with_reducible first | exact HB.out | apply below_alloc | apply pw_below_drewN | apply below_drew1 | refine below_set ?_ GE390.out | refine below_set ?_ GE391.out) | exact HB.out)⟩
    ·rw [if_neg c6] at H
     have c6b0 : (a0_3 == a1_3) = false := beq_eq_false_iff_ne.mpr c6
     have c6b1 : (a0_3 != a1_3) = true := bne_iff_ne.mpr c6
     obtain rfl := Option.some.inj H
     go_enter Tryd.func30, Tryd.ntmps30
     go_wp2_with (first | ((with_reducible refine gate_dst (N := 2) rfl ?_); refine box_event ?hg (N := 2) ?hd (cs := #[.int .u16 a0_0, .int .u16 a0_1, .int .u64 a0_2, .int .u64 a0_3, .int .u32 a0_4, .slice A0_5 l0_5.length c0_5]) (t := 61) ?hr ?_; (case hd => rfl); (case hg => rfl); (case hr => first | (go_simp; done) | (go_simp; rfl) | (go_simp; simp only [IntKind.wrap_u32, Int.emod_add_emod, Int.add_emod_emod])); intro gb390 hg w20 hbox hb; have n0_ := Aside0.mk (below_step (by repeat (first | (with_reducible first | exact HB.out | apply below_alloc | apply pw_below_drewN | apply below_drew1) | exact HB.out)) hb); have n1_ := Aside0.mk (hbox); have n2_ := Aside0.mk ((by rw [hg]; exact (below_size (by repeat (first | (with_reducible first | exact HB.out | apply below_alloc | apply pw_below_drewN | apply below_drew1) | exact HB.out))) : w.heap.size ≤ gb390)); have n3_ := Aside0.mk ((by rw [hg]; exact (below_size (by repeat (first | (with_reducible first | exact HB.out | apply below_alloc | apply pw_below_drewN | apply below_drew1) | exact HB.out))) : w.heap.size ≤ gb390)); clear HB; have HB := n0_; have BK390 := n1_; have GW390 := n2_; have GE390 := n3_; clear n0_ n1_ n2_ n3_; clear hb hbox hg) | ((with_reducible refine gate_dst (N := 3) rfl ?_); refine box_event ?hg (N := 3) ?hd (cs := #[.int .u16 a1_0, .int .u16 a1_1, .int .u64 a1_2, .int .u64 a1_3, .int .u32 a1_4, .slice A1_5 l1_5.length c1_5]) (t := 61) ?hr ?_; (case hd => rfl); (case hg => rfl); (case hr => first | (go_simp; done) | (go_simp; rfl) | (go_simp; simp only [IntKind.wrap_u32, Int.emod_add_emod, Int.add_emod_emod])); intro gb391 hg w21 hbox hb; have n0_ := Aside0.mk (blk_below (g := gb390) (o := .cells #[.int .u16 a0_0, .int .u16 a0_1, .int .u64 a0_2, .int .u64 a0_3, .int .u32 a0_4, .slice A0_5 l0_5.length c0_5] 61 (0, 0)) (by (with_reducible repeat (first | refine blk_drewN ?_ _ | refine blk_drew ?_ | refine blk_alloc ?_ _)); exact BK390.out) hb); have n1_ := Aside0.mk (below_step (by repeat (first | (with_reducible first | exact HB.out | apply below_alloc | apply pw_below_drewN | apply below_drew1 | refine below_set ?_ GE390.out) | exact HB.out)) hb); have n2_ := Aside0.mk (hbox); have n3_ := Aside0.mk ((by rw [hg]; exact (below_size (by repeat (first | (with_reducible first | exact HB.out | apply below_alloc | apply pw_below_drewN | apply below_drew1 | refine below_set ?_ GE390.out) | exact HB.out))) : w.heap.size ≤ gb391)); have n4_ := Aside0.mk ((by rw [hg]; exact (below_size (by repeat (first | (with_reducible first | exact HB.out | apply below_alloc | apply pw_below_drewN | apply below_drew1 | refine below_set ?_ GE390.out) | exact HB.out))) : w.heap.size ≤ gb391)); have n5_ := Aside0.mk ((by rw [hg]; exact Nat.ne_of_lt (blk_lt (g := gb390) (o := .cells #[.int .u16 a0_0, .int .u16 a0_1, .int .u64 a0_2, .int .u64 a0_3, .int .u32 a0_4, .slice A0_5 l0_5.length c0_5] 61 (0, 0)) (by (with_reducible repeat (first | refine blk_drewN ?_ _ | refine blk_drew ?_ | refine blk_alloc ?_ _)); exact BK390.out)) : gb390 ≠ gb391)); have n6_ := Aside0.mk ((by rw [hg]; exact Nat.ne_of_gt (blk_lt (g := gb390) (o := .cells #[.int .u16 a0_0, .int .u16 a0_1, .int .u64 a0_2, .int .u64 a0_3, .int .u32 a0_4, .slice A0_5 l0_5.length c0_5] 61 (0, 0)) (by (with_reducible repeat (first | refine blk_drewN ?_ _ | refine blk_drew ?_ | refine blk_alloc ?_ _)); exact BK390.out)) : gb391 ≠ gb390)); clear BK390; clear HB; have BK390 := n0_; have HB := n1_; have BK391 := n2_; have GW391 := n3_; have GE391 := n4_; have NB390_391 := n5_; have NB391_390 := n6_; clear n0_ n1_ n2_ n3_ n4_ n5_ n6_; clear hb hbox hg; have hnb22 := NB390_391.out; have hnc22 := NB391_390.out; have hcz23_0 : w21.cell? ⟨gb390, 0, none⟩ = some (.int .u16 a0_0) := (blk_cell BK390.out 0).trans rfl; have hcz23_1 : w21.cell? ⟨gb390, 1, none⟩ = some (.int .u16 a0_1) := (blk_cell BK390.out 1).trans rfl; have hcz23_2 : w21.cell? ⟨gb390, 2, none⟩ = some (.int .u64 a0_2) := (blk_cell BK390.out 2).trans rfl; have hcz23_3 : w21.cell? ⟨gb390, 3, none⟩ = some (.int .u64 a0_3) := (blk_cell BK390.out 3).trans rfl; have hcz23_4 : w21.cell? ⟨gb390, 4, none⟩ = some (.int .u32 a0_4) := (blk_cell BK390.out 4).trans rfl; have hcz23_5 : w21.cell? ⟨gb390, 5, none⟩ = some (.slice A0_5 l0_5.length c0_5) := (blk_cell BK390.out 5).trans rfl; have hfz23_0 := blk_frozen BK390.out 0; have hfz23_1 := blk_frozen BK390.out 1; have hfz23_2 := blk_frozen BK390.out 2; have hfz23_3 := blk_frozen BK390.out 3; have hfz23_4 := blk_frozen BK390.out 4; have hfz23_5 := blk_frozen BK390.out 5; have hcz24_0 : w21.cell? ⟨gb391, 0, none⟩ = some (.int .u16 a1_0) := (blk_cell BK391.out 0).trans rfl; have hcz24_1 : w21.cell? ⟨gb391, 1, none⟩ = some (.int .u16 a1_1) := (blk_cell BK391.out 1).trans rfl; have hcz24_2 : w21.cell? ⟨gb391, 2, none⟩ = some (.int .u64 a1_2) := (blk_cell BK391.out 2).trans rfl; have hcz24_3 : w21.cell? ⟨gb391, 3, none⟩ = some (.int .u64 a1_3) := (blk_cell BK391.out 3).trans rfl; have hcz24_4 : w21.cell? ⟨gb391, 4, none⟩ = some (.int .u32 a1_4) := (blk_cell BK391.out 4).trans rfl; have hcz24_5 : w21.cell? ⟨gb391, 5, none⟩ = some (.slice A1_5 l1_5.length c1_5) := (blk_cell BK391.out 5).trans rfl; have hfz24_0 := blk_frozen BK391.out 0; have hfz24_1 := blk_frozen BK391.out 1; have hfz24_2 := blk_frozen BK391.out 2; have hfz24_3 := blk_frozen BK391.out 3; have hfz24_4 := blk_frozen BK391.out 4; have hfz24_5 := blk_frozen BK391.out 5))
     go_ret
     exact ⟨by first | rfl | (simp [errW_none, errW_some] <;> rfl) | (simp [*, errW_none, errW_some] <;> rfl), by repeat (first | (with_reducible first | exact HB.out | apply below_alloc | apply pw_below_drewN | apply below_drew1 | refine below_set ?_ GE390.out | refine below_set ?_ GE391.out) | exact HB.out)⟩
   ·rw [if_neg c5] at H
    have c5b0 : (a0_2 == a1_2) = false := beq_eq_false_iff_ne.mpr c5
    have c5b1 : (a0_2 != a1_2) = true := bne_iff_ne.mpr c5
    obtain rfl := Option.some.inj H
    go_enter Tryd.func30, Tryd.ntmps30
    go_wp2_with (first | ((with_reducible refine gate_dst (N := 2) rfl ?_); refine box_event ?hg (N := 2) ?hd (cs := #[.int .u16 a0_0, .int .u16 a0_1, .int .u64 a0_2, .int .u64 a0_3, .int .u32 a0_4, .slice A0_5 l0_5.length c0_5]) (t := 61) ?hr ?_; (case hd => rfl); (case hg => rfl); (case hr => first | (go_simp; done) | (go_simp; rfl) | (go_simp; simp only [IntKind.wrap_u32, Int.emod_add_emod, Int.add_emod_emod])); intro gb390 hg w25 hbox hb; have n0_ := Aside0.mk (below_step (by repeat (first | (with_reducible first | exact HB.out | apply below_alloc | apply pw_below_drewN | apply below_drew1) | exact HB.out)) hb); have n1_ := Aside0.mk (hbox); have n2_ := Aside0.mk ((by rw [hg]; exact (below_size (by repeat (first | (with_reducible first | exact HB.out | apply below_alloc | apply pw_below_drewN | apply below_drew1) | exact HB.out))) : w.heap.size ≤ gb390)); have n3_ := Aside0.mk ((by rw [hg]; exact (below_size (by repeat (first | (with_reducible first | exact HB.out | apply below_alloc | apply pw_below_drewN | apply below_drew1) | exact HB.out))) : w.heap.size ≤ gb390)); clear HB; have HB := n0_; have BK390 := n1_; have GW390 := n2_; have GE390 := n3_; clear n0_ n1_ n2_ n3_; clear hb hbox hg) | ((with_reducible refine gate_dst (N := 3) rfl ?_); refine box_event ?hg (N := 3) ?hd (cs := #[.int .u16 a1_0, .int .u16 a1_1, .int .u64 a1_2, .int .u64 a1_3, .int .u32 a1_4, .slice A1_5 l1_5.length c1_5]) (t := 61) ?hr ?_; (case hd => rfl); (case hg => rfl); (case hr => first | (go_simp; done) | (go_simp; rfl) | (go_simp; simp only [IntKind.wrap_u32, Int.emod_add_emod, Int.add_emod_emod])); intro gb391 hg w26 hbox hb; have n0_ := Aside0.mk (blk_below (g := gb390) (o := .cells #[.int .u16 a0_0, .int .u16 a0_1, .int .u64 a0_2, .int .u64 a0_3, .int .u32 a0_4, .slice A0_5 l0_5.length c0_5] 61 (0, 0)) (by (with_reducible repeat (first | refine blk_drewN ?_ _ | refine blk_drew ?_ | refine blk_alloc ?_ _)); exact BK390.out) hb); have n1_ := Aside0.mk (below_step (by repeat (first | (with_reducible first | exact HB.out | apply below_alloc | apply pw_below_drewN | apply below_drew1 | refine below_set ?_ GE390.out) | exact HB.out)) hb); have n2_ := Aside0.mk (hbox); have n3_ := Aside0.mk ((by rw [hg]; exact (below_size (by repeat (first | (with_reducible first | exact HB.out | apply below_alloc | apply pw_below_drewN | apply below_drew1 | refine below_set ?_ GE390.out) | exact HB.out))) : w.heap.size ≤ gb391)); have n4_ := Aside0.mk ((by rw [hg]; exact (below_size (by repeat (first | (with_reducible first | exact HB.out | apply below_alloc | apply pw_below_drewN | apply below_drew1 | refine below_set ?_ GE390.out) | exact HB.out))) : w.heap.size ≤ gb391)); have n5_ := Aside0.mk ((by rw [hg]; exact Nat.ne_of_lt (blk_lt (g := gb390) (o := .cells #[.int .u16 a0_0, .int .u16 a0_1, .int .u64 a0_2, .int .u64 a0_3, .int .u32 a0_4, .slice A0_5 l0_5.length c0_5] 61 (0, 0)) (by (with_reducible repeat (first | refine blk_drewN ?_ _ | refine blk_drew ?_ | refine blk_alloc ?_ _)); exact BK390.out)) : gb390 ≠ gb391)); have n6_ := Aside0.mk ((by rw [hg]; exact Nat.ne_of_gt (blk_lt (g := gb390) (o := .cells #[.int .u16 a0_0, .int .u16 a0_1, .int .u64 a0_2, .int .u64 a0_3, .int .u32 a0_4, .slice A0_5 l0_5.length c0_5] 61 (0, 0)) (by (with_reducible repeat (first | refine blk_drewN ?_ _ | refine blk_drew ?_ | refine blk_alloc ?_ _)); exact BK390.out)) : gb391 ≠ gb390)); clear BK390; clear HB; have BK390 := n0_; have HB := n1_; have BK391 := n2_; have GW391 := n3_; have GE391 := n4_; have NB390_391 := n5_; have NB391_390 := n6_; clear n0_ n1_ n2_ n3_ n4_ n5_ n6_; clear hb hbox hg; have hnb27 := NB390_391.out; have hnc27 := NB391_390.out; have hcz28_0 : w26.cell? ⟨gb390, 0, none⟩ = some (.int .u16 a0_0) := (blk_cell BK390.out 0).trans rfl; have hcz28_1 : w26.cell? ⟨gb390, 1, none⟩ = some (.int .u16 a0_1) := (blk_cell BK390.out 1).trans rfl; have hcz28_2 : w26.cell? ⟨gb390, 2, none⟩ = some (.int .u64 a0_2) := (blk_cell BK390.out 2).trans rfl; have hcz28_3 : w26.cell? ⟨gb390, 3, none⟩ = some (.int .u64 a0_3) := (blk_cell BK390.out 3).trans rfl; have hcz28_4 : w26.cell? ⟨gb390, 4, none⟩ = some (.int .u32 a0_4) := (blk_cell BK390.out 4).trans rfl; have hcz28_5 : w26.cell? ⟨gb390, 5, none⟩ = some (.slice A0_5 l0_5.length c0_5) := (blk_cell BK390.out 5).trans rfl; have hfz28_0 := blk_frozen BK390.out 0; have hfz28_1 := blk_frozen BK390.out 1; have hfz28_2 := blk_frozen BK390.out 2; have hfz28_3 := blk_frozen BK390.out 3; have hfz28_4 := blk_frozen BK390.out 4; have hfz28_5 := blk_frozen BK390.out 5; have hcz29_0 : w26.cell? ⟨gb391, 0, none⟩ = some (.int .u16 a1_0) := (blk_cell BK391.out 0).trans rfl; have hcz29_1 : w26.cell? ⟨gb391, 1, none⟩ = some (.int .u16 a1_1) := (blk_cell BK391.out 1).trans rfl; have hcz29_2 : w26.cell? ⟨gb391, 2, none⟩ = some (.int .u64 a1_2) := (blk_cell BK391.out 2).trans rfl; have hcz29_3 : w26.cell? ⟨gb391, 3, none⟩ = some (.int .u64 a1_3) := (blk_cell BK391.out 3).trans rfl; have hcz29_4 : w26.cell? ⟨gb391, 4, none⟩ = some (.int .u32 a1_4) := (blk_cell BK391.out 4).trans rfl; have hcz29_5 : w26.cell? ⟨gb391, 5, none⟩ = some (.slice A1_5 l1_5.length c1_5) := (blk_cell BK391.out 5).trans rfl; have hfz29_0 := blk_frozen BK391.out 0; have hfz29_1 := blk_frozen BK391.out 1; have hfz29_2 := blk_frozen BK391.out 2; have hfz29_3 := blk_frozen BK391.out 3; have hfz29_4 := blk_frozen BK391.out 4; have hfz29_5 := blk_frozen BK391.out 5))
    go_ret
    exact ⟨by first | rfl | (simp [errW_none, errW_some] <;> rfl) | (simp [*, errW_none, errW_some] <;> rfl), by repeat (first | (with_reducible first | exact HB.out | apply below_alloc | apply pw_below_drewN | apply below_drew1 | refine below_set ?_ GE390.out | refine below_set ?_ GE391.out) | exact HB.out)⟩
  ·rw [if_neg c4] at H
   have c4b0 : (a0_1 == a1_1) = false := beq_eq_false_iff_ne.mpr c4
   have c4b1 : (a0_1 != a1_1) = true := bne_iff_ne.mpr c4
   obtain rfl := Option.some.inj H
   go_enter Tryd.func30, Tryd.ntmps30
   go_wp2_with (first | ((with_reducible refine gate_dst (N := 2) rfl ?_); refine box_event ?hg (N := 2) ?hd (cs := #[.int .u16 a0_0, .int .u16 a0_1, .int .u64 a0_2, .int .u64 a0_3, .int .u32 a0_4, .slice A0_5 l0_5.length c0_5]) (t := 61) ?hr ?_; (case hd => rfl); (case hg => rfl); (case hr => first | (go_simp; done) | (go_simp; rfl) | (go_simp; simp only [IntKind.wrap_u32, Int.emod_add_emod, Int.add_emod_emod])); intro gb390 hg w30 hbox hb; have n0_ := Aside0.mk (below_step (by repeat (first | (with_reducible first | exact HB.out | apply below_alloc | apply pw_below_drewN | apply below_drew1) | exact HB.out)) hb); have n1_ := Aside0.mk (hbox); have n2_ := Aside0.mk ((by rw [hg]; exact (below_size (by repeat (first | (with_reducible first | exact HB.out | apply below_alloc | apply pw_below_drewN | apply below_drew1) | exact HB.out))) : w.heap.size ≤ gb390)); have n3_ := Aside0.mk ((by rw [hg]; exact (below_size (by repeat (first | (with_reducible first | exact HB.out | apply below_alloc | apply pw_below_drewN | apply below_drew1) | exact HB.out))) : w.heap.size ≤ gb390)); clear HB; have HB := n0_; have BK390 := n1_; have GW390 := n2_; have GE390 := n3_; clear n0_ n1_ n2_ n3_; clear hb hbox hg) | ((with_reducible refine gate_dst (N := 3) rfl ?_); refine box_event ?hg (N := 3) ?hd (cs := #[.int .u16 a1_0, .int .u16 a1_1, .int .u64 a1_2, .int .u64 a1_3, .int .u32 a1_4, .slice A1_5 l1_5.length c1_5]) (t := 61) ?hr ?_; (case hd => rfl); (case hg => rfl); (case hr => first | (go_simp; done) | (go_simp; rfl) | (go_simp; simp only [IntKind.wrap_u32, Int.emod_add_emod, Int.add_emod_emod])); intro gb391 hg w31 hbox hb; have n0_ := Aside0.mk (blk_below (g := gb390) (o := .cells #[.int .u16 a0_0, .int .u16 a0_1, .int .u64 a0_2, .int .u64 a0_3, .int .u32 a0_4, .slice A0_5 l0_5.length c0_5] 61 (0, 0)) (by (with_reducible repeat (first | refine blk_drewN ?_ _ | refine blk_drew ?_ | refine blk_alloc ?_ _)); exact BK390.out) hb); have n1_ := Aside0.mk (below_step (by repeat (first | (with_reducible first | exact HB.out | apply below_alloc | apply pw_below_drewN | apply below_drew1 | refine below_set ?_ GE390.out) | exact HB.out)) hb); have n2_ := Aside0.mk (hbox); have n3_ := Aside0.mk ((by rw [hg]; exact (below_size (by repeat (first | (with_reducible first | exact HB.out | apply below_alloc | apply pw_below_drewN | apply below_drew1 | refine below_set ?_ GE390.out) | exact HB.out))) : w.heap.size ≤ gb391)); have n4_ := Aside0.mk ((by rw [hg]; exact (below_size (by repeat (first | (with_reducible first | exact HB.out | apply below_alloc | apply pw_below_drewN | apply below_drew1 | refine below_set ?_ GE390.out) | exact HB.out))) : w.heap.size ≤ gb391)); have n5_ := Aside0.mk ((by rw [hg]; exact Nat.ne_of_lt (blk_lt (g := gb390) (o := .cells #[.int .u16 a0_0, .int .u16 a0_1, .int .u64 a0_2, .int .u64 a0_3, .int .u32 a0_4, .slice A0_5 l0_5.length c0_5] 61 (0, 0)) (by (with_reducible repeat (first | refine blk_drewN ?_ _ | refine blk_drew ?_ | refine blk_alloc ?_ _)); exact BK390.out)) : gb390 ≠ gb391)); have n6_ := Aside0.mk ((by rw [hg]; exact Nat.ne_of_gt (blk_lt (g := gb390) (o := .cells #[.int .u16 a0_0, .int .u16 a0_1, .int .u64 a0_2, .int .u64 a0_3, .int .u32 a0_4, .slice A0_5 l0_5.length c0_5] 61 (0, 0)) (by (with_reducible repeat (first | refine blk_drewN ?_ _ | refine blk_drew ?_ | refine blk_alloc ?_ _)); exact BK390.out)) : gb391 ≠ gb390)); clear BK390; clear HB; have BK390 := n0_; have HB := n1_; have BK391 := n2_; have GW391 := n3_; have GE391 := n4_; have NB390_391 := n5_; have NB391_390 := n6_; clear n0_ n1_ n2_ n3_ n4_ n5_ n6_; clear hb hbox hg; have hnb32 := NB390_391.out; have hnc32 := NB391_390.out; have hcz33_0 : w31.cell? ⟨gb390, 0, none⟩ = some (.int .u16 a0_0) := (blk_cell BK390.out 0).trans rfl; have hcz33_1 : w31.cell? ⟨gb390, 1, none⟩ = some (.int .u16 a0_1) := (blk_cell BK390.out 1).trans rfl; have hcz33_2 : w31.cell? ⟨gb390, 2, none⟩ = some (.int .u64 a0_2) := (blk_cell BK390.out 2).trans rfl; have hcz33_3 : w31.cell? ⟨gb390, 3, none⟩ = some (.int .u64 a0_3) := (blk_cell BK390.out 3).trans rfl; have hcz33_4 : w31.cell? ⟨gb390, 4, none⟩ = some (.int .u32 a0_4) := (blk_cell BK390.out 4).trans rfl; have hcz33_5 : w31.cell? ⟨gb390, 5, none⟩ = some (.slice A0_5 l0_5.length c0_5) := (blk_cell BK390.out 5).trans rfl; have hfz33_0 := blk_frozen BK390.out 0; have hfz33_1 := blk_frozen BK390.out 1; have hfz33_2 := blk_frozen BK390.out 2; have hfz33_3 := blk_frozen BK390.out 3; have hfz33_4 := blk_frozen BK390.out 4; have hfz33_5 := blk_frozen BK390.out 5; have hcz34_0 : w31.cell? ⟨gb391, 0, none⟩ = some (.int .u16 a1_0) := (blk_cell BK391.out 0).trans rfl; have hcz34_1 : w31.cell? ⟨gb391, 1, none⟩ = some (.int .u16 a1_1) := (blk_cell BK391.out 1).trans rfl; have hcz34_2 : w31.cell? ⟨gb391, 2, none⟩ = some (.int .u64 a1_2) := (blk_cell BK391.out 2).trans rfl; have hcz34_3 : w31.cell? ⟨gb391, 3, none⟩ = some (.int .u64 a1_3) := (blk_cell BK391.out 3).trans rfl; have hcz34_4 : w31.cell? ⟨gb391, 4, none⟩ = some (.int .u32 a1_4) := (blk_cell BK391.out 4).trans rfl; have hcz34_5 : w31.cell? ⟨gb391, 5, none⟩ = some (.slice A1_5 l1_5.length c1_5) := (blk_cell BK391.out 5).trans rfl; have hfz34_0 := blk_frozen BK391.out 0; have hfz34_1 := blk_frozen BK391.out 1; have hfz34_2 := blk_frozen BK391.out 2; have hfz34_3 := blk_frozen BK391.out 3; have hfz34_4 := blk_frozen BK391.out 4; have hfz34_5 := blk_frozen BK391.out 5))
   go_ret
   exact ⟨by first | rfl | (simp [errW_none, errW_some] <;> rfl) | (simp [*, errW_none, errW_some] <;> rfl), by repeat (first | (with_reducible first | exact HB.out | apply below_alloc | apply pw_below_drewN | apply below_drew1 | refine below_set ?_ GE390.out | refine below_set ?_ GE391.out) | exact HB.out)⟩
 ·rw [if_neg c3] at H
  have c3b0 : (a0_0 == a1_0) = false := beq_eq_false_iff_ne.mpr c3
  have c3b1 : (a0_0 != a1_0) = true := bne_iff_ne.mpr c3
  obtain rfl := Option.some.inj H
  go_enter Tryd.func30, Tryd.ntmps30
  go_wp2_with (first | ((with_reducible refine gate_dst (N := 2) rfl ?_); refine box_event ?hg (N := 2) ?hd (cs := #[.int .u16 a0_0, .int .u16 a0_1, .int .u64 a0_2, .int .u64 a0_3, .int .u32 a0_4, .slice A0_5 l0_5.length c0_5]) (t := 61) ?hr ?_; (case hd => rfl); (case hg => rfl); (case hr => first | (go_simp; done) | (go_simp; rfl) | (go_simp; simp only [IntKind.wrap_u32, Int.emod_add_emod, Int.add_emod_emod])); intro gb390 hg w35 hbox hb; have n0_ := Aside0.mk (below_step (by repeat (first | (with_reducible first | exact HB.out | apply below_alloc | apply pw_below_drewN | apply below_drew1) | exact HB.out)) hb); have n1_ := Aside0.mk (hbox); have n2_ := Aside0.mk ((by rw [hg]; exact (below_size (by repeat (first | (with_reducible first | exact HB.out | apply below_alloc | apply pw_below_drewN | apply below_drew1) | exact HB.out))) : w.heap.size ≤ gb390)); have n3_ := Aside0.mk ((by rw [hg]; exact (below_size (by repeat (first | (with_reducible first | exact HB.out | apply below_alloc | apply pw_below_drewN | apply below_drew1) | exact HB.out))) : w.heap.size ≤ gb390)); clear HB; have HB := n0_; have BK390 := n1_; have GW390 := n2_; have GE390 := n3_; clear n0_ n1_ n2_ n3_; clear hb hbox hg) | ((with_reducible refine gate_dst (N := 3) rfl ?_); refine box_event ?hg (N := 3) ?hd (cs := #[.int .u16 a1_0, .int .u16 a1_1, .int .u64 a1_2, .int .u64 a1_3, .int .u32 a1_4, .slice A1_5 l1_5.length c1_5]) (t := 61) ?hr ?_; (case hd => rfl); (case hg => rfl); (case hr => first | (go_simp; done) | (go_simp; rfl) | (go_simp; simp only [IntKind.wrap_u32, Int.emod_add_emod, Int.add_emod_emod])); intro gb391 hg w36 hbox hb; have n0_ := Aside0.mk (blk_below (g := gb390) (o := .cells #[.int .u16 a0_0, .int .u16 a0_1, .int .u64 a0_2, .int .u64 a0_3, .int .u32 a0_4, .slice A0_5 l0_5.length c0_5] 61 (0, 0)) (by (with_reducible repeat (first | refine blk_drewN ?_ _ | refine blk_drew ?_ | refine blk_alloc ?_ _)); exact BK390.out) hb); have n1_ := Aside0.mk (below_step (by repeat (first | (with_reducible first | exact HB.out | apply below_alloc | apply pw_below_drewN | apply below_drew1 | refine below_set ?_ GE390.out) | exact HB.out)) hb); have n2_ := Aside0.mk (hbox); have n3_ := Aside0.mk ((by rw [hg]; exact (below_size (by repeat (first | (with_reducible first | exact HB.out | apply below_alloc | apply pw_below_drewN | apply below_drew1 | refine below_set ?_ GE390.out) | exact HB.out))) : w.heap.size ≤ gb391)); have n4_ := Aside0.mk ((by rw [hg]; exact (below_size (by repeat (first | (with_reducible first | exact HB.out | apply below_alloc | apply pw_below_drewN | apply below_drew1 | refine below_set ?_ GE390.out) | exact HB.out))) : w.heap.size ≤ gb391)); have n5_ := Aside0.mk ((by rw [hg]; exact Nat.ne_of_lt (blk_lt (g := gb390) (o := .cells #[.int .u16 a0_0, .int .u16 a0_1, .int .u64 a0_2, .int .u64 a0_3, .int .u32 a0_4, .slice A0_5 l0_5.length c0_5] 61 (0, 0)) (by (with_reducible repeat (first | refine blk_drewN ?_ _ | refine blk_drew ?_ | refine blk_alloc ?_ _)); exact BK390.out)) : gb390 ≠ gb391)); have n6_ := Aside0.mk ((by rw [hg]; exact Nat.ne_of_gt (blk_lt (g := gb390) (o := .cells #[.int .u16 a0_0, .int .u16 a0_1, .int .u64 a0_2, .int .u64 a0_3, .int .u32 a0_4, .slice A0_5 l0_5.length c0_5] 61 (0, 0)) (by (with_reducible repeat (first | refine blk_drewN ?_ _ | refine blk_drew ?_ | refine blk_alloc ?_ _)); exact BK390.out)) : gb391 ≠ gb390)); clear BK390; clear HB; have BK390 := n0_; have HB := n1_; have BK391 := n2_; have GW391 := n3_; have GE391 := n4_; have NB390_391 := n5_; have NB391_390 := n6_; clear n0_ n1_ n2_ n3_ n4_ n5_ n6_; clear hb hbox hg; have hnb37 := NB390_391.out; have hnc37 := NB391_390.out; have hcz38_0 : w36.cell? ⟨gb390, 0, none⟩ = some (.int .u16 a0_0) := (blk_cell BK390.out 0).trans rfl; have hcz38_1 : w36.cell? ⟨gb390, 1, none⟩ = some (.int .u16 a0_1) := (blk_cell BK390.out 1).trans rfl; have hcz38_2 : w36.cell? ⟨gb390, 2, none⟩ = some (.int .u64 a0_2) := (blk_cell BK390.out 2).trans rfl; have hcz38_3 : w36.cell? ⟨gb390, 3, none⟩ = some (.int .u64 a0_3) := (blk_cell BK390.out 3).trans rfl; have hcz38_4 : w36.cell? ⟨gb390, 4, none⟩ = some (.int .u32 a0_4) := (blk_cell BK390.out 4).trans rfl; have hcz38_5 : w36.cell? ⟨gb390, 5, none⟩ = some (.slice A0_5 l0_5.length c0_5) := (blk_cell BK390.out 5).trans rfl; have hfz38_0 := blk_frozen BK390.out 0; have hfz38_1 := blk_frozen BK390.out 1; have hfz38_2 := blk_frozen BK390.out 2; have hfz38_3 := blk_frozen BK390.out 3; have hfz38_4 := blk_frozen BK390.out 4; have hfz38_5 := blk_frozen BK390.out 5; have hcz39_0 : w36.cell? ⟨gb391, 0, none⟩ = some (.int .u16 a1_0) := (blk_cell BK391.out 0).trans rfl; have hcz39_1 : w36.cell? ⟨gb391, 1, none⟩ = some (.int .u16 a1_1) := (blk_cell BK391.out 1).trans rfl; have hcz39_2 : w36.cell? ⟨gb391, 2, none⟩ = some (.int .u64 a1_2) := (blk_cell BK391.out 2).trans rfl; have hcz39_3 : w36.cell? ⟨gb391, 3, none⟩ = some (.int .u64 a1_3) := (blk_cell BK391.out 3).trans rfl; have hcz39_4 : w36.cell? ⟨gb391, 4, none⟩ = some (.int .u32 a1_4) := (blk_cell BK391.out 4).trans rfl; have hcz39_5 : w36.cell? ⟨gb391, 5, none⟩ = some (.slice A1_5 l1_5.length c1_5) := (blk_cell BK391.out 5).trans rfl; have hfz39_0 := blk_frozen BK391.out 0; have hfz39_1 := blk_frozen BK391.out 1; have hfz39_2 := blk_frozen BK391.out 2; have hfz39_3 := blk_frozen BK391.out 3; have hfz39_4 := blk_frozen BK391.out 4; have hfz39_5 := blk_frozen BK391.out 5))
  go_ret
  exact ⟨by first | rfl | (simp [errW_none, errW_some] <;> rfl) | (simp [*, errW_none, errW_some] <;> rfl), by repeat (first | (with_reducible first | exact HB.out | apply below_alloc | apply pw_below_drewN | apply below_drew1 | refine below_set ?_ GE390.out | refine below_set ?_ GE391.out) | exact HB.out)⟩
def coamingref20_SameAll.l0 : Nat → List (S61) → List (S61) → Int → Option (Bool)
 | 0, _, _, _ => none
 | k + 1, x0, x1, x5 => if x5 < (x0.length : Int) then (if 0 ≤ x5 then (if x5 < (x1.length : Int) then ((coamingref20_Same.f ((rd_T61 x0 x5).f0) ((rd_T61 x0 x5).f1) ((rd_T61 x0 x5).f2) ((rd_T61 x0 x5).f3) ((rd_T61 x0 x5).f4) ((rd_T61 x0 x5).f5) ((rd_T61 x1 x5).f0) ((rd_T61 x1 x5).f1) ((rd_T61 x1 x5).f2) ((rd_T61 x1 x5).f3) ((rd_T61 x1 x5).f4) ((rd_T61 x1 x5).f5)).bind fun t394 => (if t394 = true then (coamingref20_SameAll.l0 k x0 x1 (wrap64 (x5 + 1))) else (some false))) else (none)) else (none)) else (some true)
def coamingref20_SameAll.f (k : Nat) (l0 : List (S61)) (l1 : List (S61)) : Option (Bool) := if (l0.length : Int) = (l1.length : Int) then (coamingref20_SameAll.l0 k l0 l1 0) else (some false)
def coamingref20_SameAll.T6 : Bool × List (List Nat × List Nat) := (true, [([], []), ([], []), ([0, 1], [0, 1]), ([2], [2]), ([], []), ([], []), ([4, 5], [4, 5]), ([6], [6]), ([3, 7], [3, 7]), ([8, 8, 0, 1, 2, 3, 4, 5, 6, 7, 8], [8])])
def coamingref20_SameAll.B6 : List Nat := [0, 0, 3, 7, 0, 0, 48, 112, 255, 511]
theorem coamingref20_SameAll.tab6 : rtab .any (opsOf Tryd.f17 6) = coamingref20_SameAll.T6 := by kernel_rfl
theorem coamingref20_SameAll.bits6 : waitsOk coamingref20_SameAll.T6.2 coamingref20_SameAll.B6 = true := by kernel_rfl
set_option maxHeartbeats 8000000 in
set_option maxRecDepth 100000 in
theorem coamingref20_SameAll.calls (k : Nat) (A0 : Option Addr) (c0 : Nat) (l0 : List (S61)) (A1 : Option Addr) (c1 : Nat) (l1 : List (S61)) (r : Bool) (w : World) (hr0 : Kd.C k61 w A0 l0.length l0) (hc0 : l0.length ≤ c0) (hr1 : Kd.C k61 w A1 l1.length l1) (hc1 : l1.length ≤ c1) (h : coamingref20_SameAll.f k l0 l1 = some r) :
  Calls Tryd.prog 17 #[.slice A0 l0.length c0, .slice A1 l1.length c1] w fun e w' => e = .returned (.bool r) ∧ Below w.heap.size w w' := by
 have hu61 := Tryd.underlying61
 have HR0 := Aside0.mk hr0
 have HC0 := Aside0.mk hc0
 clear hr0 hc0
 have HR1 := Aside0.mk hr1
 have HC1 := Aside0.mk hc1
 clear hr1 hc1
 have HB := Aside0.mk (Below.refl w.heap.size w)
 have H : (if (l0.length : Int) = (l1.length : Int) then (coamingref20_SameAll.l0 k l0 l1 0) else (some false)) = some r := h
 clear h
 by_cases c3 : (l0.length : Int) = (l1.length : Int)
 ·rw [if_pos c3] at H
  have c3b0 : ((l0.length : Int) == (l1.length : Int)) = true := beq_iff_eq.mpr c3
  have c3b1 : ((l0.length : Int) != (l1.length : Int)) = false := bne_eq_false_iff_eq.mpr c3
  have c3b2 : (l0.length == l1.length) = true := by first | simpa using c3 | (simp at c3 ⊢; omega)
  clear c3
  have H' := Aside0.mk H
  clear H
  go_enter Tryd.func17, Tryd.ntmps17
  go_wp2
  go_loopg [5] k (fun kq v5 w' => ∃ (x5_1 : Int), v5 = .int .i64 x5_1 ∧ Aside0 (coamingref20_SameAll.l0 kq l0 l1 x5_1 = some r) ∧ Aside0 (kq ≤ k) ∧ Aside0 (Below w.heap.size w w'))
  case atStart => exact ⟨(0), (by first | rfl | (simp; done) | (simp [*]; done)), H', ⟨Nat.le_refl _⟩, ⟨by repeat (first | (with_reducible first | exact HB.out | apply below_alloc | apply pw_below_drewN | apply below_drew1) | exact HB.out)⟩⟩
  case round =>
   clear H'
   try clear c1
   try clear p2
   try clear c3
   try clear c3b0
   try clear c3b1
   try clear c3b2
   obtain ⟨x5_1, rfl, HA, HK1, HB⟩ := hrel
   cases gk with
   | zero => exact absurd HA.out (by simp [coamingref20_SameAll.l0])
   | succ k1 =>
    have H := HA.out
    clear HA
    simp only [coamingref20_SameAll.l0] at H
    by_cases c4 : x5_1 < (l0.length : Int)
    ·rw [if_pos c4] at H
     have c4b0 : decide (x5_1 < (l0.length : Int)) = true := decide_eq_true c4
     clear c4
     by_cases c5 : 0 ≤ x5_1
     ·rw [if_pos c5] at H
      have c5b0 : decide (0 ≤ x5_1) = true := decide_eq_true c5
      clear c5
      by_cases c6 : x5_1 < (l1.length : Int)
      ·rw [if_pos c6] at H
       have c6b0 : decide (x5_1 < (l1.length : Int)) = true := decide_eq_true c6
       clear c6
       replace H := Option.bind_eq_some_iff.mp H
       obtain ⟨t394, A70, H⟩ := H
       replace H : (if t394 = true then (coamingref20_SameAll.l0 k1 l0 l1 (wrap64 (x5_1 + 1))) else (some false)) = some r := H
       have A7 := Aside0.mk A70
       clear A70
       by_cases c8 : t394 = true
       ·subst c8
        have H1 : (coamingref20_SameAll.l0 k1 l0 l1 (wrap64 (x5_1 + 1))) = some r := by rw [if_pos rfl] at H; exact H
        clear H
        have H := H1
        clear H1
        have H' := Aside0.mk H
        clear H
        try go_wp2
        have n0_ := Aside0.mk (below_drew1 HB.out)
        clear HB
        have HB := n0_
        clear n0_
        have p392 : 0 ≤ (x5_1 : Int) := of_decide_eq_true (by first | (with_reducible assumption) | assumption)
        have q392 : x5_1 < (l0.length : Int) := of_decide_eq_true (by first | (with_reducible assumption) | assumption)
        obtain ⟨ad392, A392_5, c392_5, e392, hx392_0, hx392_1, hx392_2, hx392_3, hx392_4, hx392_5, hl392_5, hi392_5⟩ := at_T61 HR0.out x5_1 p392 q392
        have hw392_5 := hx392_5
        have hw392_4 := hx392_4
        have hw392_3 := hx392_3
        have hw392_2 := hx392_2
        have hw392_1 := hx392_1
        have hw392_0 := hx392_0
        cases e392
        replace hx392_0 := (HB.out.cell (World.block_lt_of_cell? w _ hx392_0)).trans hx392_0
        replace hx392_1 := (HB.out.cell (World.block_lt_of_cell? w _ hx392_1)).trans hx392_1
        replace hx392_2 := (HB.out.cell (World.block_lt_of_cell? w _ hx392_2)).trans hx392_2
        replace hx392_3 := (HB.out.cell (World.block_lt_of_cell? w _ hx392_3)).trans hx392_3
        replace hx392_4 := (HB.out.cell (World.block_lt_of_cell? w _ hx392_4)).trans hx392_4
        replace hx392_5 := (HB.out.cell (World.block_lt_of_cell? w _ hx392_5)).trans hx392_5
        have HR392_5 := Aside0.mk hi392_5
        have HC392_5 := Aside0.mk hl392_5
        clear hi392_5 hl392_5
        replace p392 := eq_true p392
        replace q392 := eq_true q392
        have p393 : 0 ≤ (x5_1 : Int) := of_decide_eq_true (by first | (with_reducible assumption) | assumption)
        have q393 : x5_1 < (l1.length : Int) := of_decide_eq_true (by first | (with_reducible assumption) | assumption)
        obtain ⟨ad393, A393_5, c393_5, e393, hx393_0, hx393_1, hx393_2, hx393_3, hx393_4, hx393_5, hl393_5, hi393_5⟩ := at_T61 HR1.out x5_1 p393 q393
        have hw393_5 := hx393_5
        have hw393_4 := hx393_4
        have hw393_3 := hx393_3
        have hw393_2 := hx393_2
        have hw393_1 := hx393_1
        have hw393_0 := hx393_0
        cases e393
        replace hx393_0 := (HB.out.cell (World.block_lt_of_cell? w _ hx393_0)).trans hx393_0
        replace hx393_1 := (HB.out.cell (World.block_lt_of_cell? w _ hx393_1)).trans hx393_1
        replace hx393_2 := (HB.out.cell (World.block_lt_of_cell? w _ hx393_2)).trans hx393_2
        replace hx393_3 := (HB.out.cell (World.block_lt_of_cell? w _ hx393_3)).trans hx393_3
        replace hx393_4 := (HB.out.cell (World.block_lt_of_cell? w _ hx393_4)).trans hx393_4
        replace hx393_5 := (HB.out.cell (World.block_lt_of_cell? w _ hx393_5)).trans hx393_5
        have HR393_5 := Aside0.mk hi393_5
        have HC393_5 := Aside0.mk hl393_5
        clear hi393_5 hl393_5
        replace p393 := eq_true p393
        replace q393 := eq_true q393
        refine start_ (n := 10) (S := fun w' => w'.cell? (ad392.add ((x5_1).toNat * 6)) = some (.int .u16 ((rd_T61 l0 x5_1).f0)) ∧ w'.cell? ⟨(ad392.add ((x5_1).toNat * 6)).block, (ad392.add ((x5_1).toNat * 6)).off + 1, none⟩ = some (.int .u16 ((rd_T61 l0 x5_1).f1)) ∧ w'.cell? ⟨(ad392.add ((x5_1).toNat * 6)).block, (ad392.add ((x5_1).toNat * 6)).off + 2, none⟩ = some (.int .u64 ((rd_T61 l0 x5_1).f2)) ∧ w'.cell? ⟨(ad392.add ((x5_1).toNat * 6)).block, (ad392.add ((x5_1).toNat * 6)).off + 3, none⟩ = some (.int .u64 ((rd_T61 l0 x5_1).f3)) ∧ w'.cell? ⟨(ad392.add ((x5_1).toNat * 6)).block, (ad392.add ((x5_1).toNat * 6)).off + 4, none⟩ = some (.int .u32 ((rd_T61 l0 x5_1).f4)) ∧ w'.cell? ⟨(ad392.add ((x5_1).toNat * 6)).block, (ad392.add ((x5_1).toNat * 6)).off + 5, none⟩ = some (.slice A392_5 ((rd_T61 l0 x5_1).f5).length c392_5) ∧ w'.cell? (ad393.add ((x5_1).toNat * 6)) = some (.int .u16 ((rd_T61 l1 x5_1).f0)) ∧ w'.cell? ⟨(ad393.add ((x5_1).toNat * 6)).block, (ad393.add ((x5_1).toNat * 6)).off + 1, none⟩ = some (.int .u16 ((rd_T61 l1 x5_1).f1)) ∧ w'.cell? ⟨(ad393.add ((x5_1).toNat * 6)).block, (ad393.add ((x5_1).toNat * 6)).off + 2, none⟩ = some (.int .u64 ((rd_T61 l1 x5_1).f2)) ∧ w'.cell? ⟨(ad393.add ((x5_1).toNat * 6)).block, (ad393.add ((x5_1).toNat * 6)).off + 3, none⟩ = some (.int .u64 ((rd_T61 l1 x5_1).f3)) ∧ w'.cell? ⟨(ad393.add ((x5_1).toNat * 6)).block, (ad393.add ((x5_1).toNat * 6)).off + 4, none⟩ = some (.int .u32 ((rd_T61 l1 x5_1).f4)) ∧ w'.cell? ⟨(ad393.add ((x5_1).toNat * 6)).block, (ad393.add ((x5_1).toNat * 6)).off + 5, none⟩ = some (.slice A393_5 ((rd_T61 l1 x5_1).f5).length c393_5)) (ds := []) #[false, false, false, false, false, false, false, false, false, false] (by kernel_rfl) rfl rfl ⟨((HB.out.cell (World.block_lt_of_cell? w _ hw392_0)).trans hw392_0), ((HB.out.cell (World.block_lt_of_cell? w _ hw392_1)).trans hw392_1), ((HB.out.cell (World.block_lt_of_cell? w _ hw392_2)).trans hw392_2), ((HB.out.cell (World.block_lt_of_cell? w _ hw392_3)).trans hw392_3), ((HB.out.cell (World.block_lt_of_cell? w _ hw392_4)).trans hw392_4), ((HB.out.cell (World.block_lt_of_cell? w _ hw392_5)).trans hw392_5), ((HB.out.cell (World.block_lt_of_cell? w _ hw393_0)).trans hw393_0), ((HB.out.cell (World.block_lt_of_cell? w _ hw393_1)).trans hw393_1), ((HB.out.cell (World.block_lt_of_cell? w _ hw393_2)).trans hw393_2), ((HB.out.cell (World.block_lt_of_cell? w _ hw393_3)).trans hw393_3), ((HB.out.cell (World.block_lt_of_cell? w _ hw393_4)).trans hw393_4), ((HB.out.cell (World.block_lt_of_cell? w _ hw393_5)).trans hw393_5)⟩ (fun hHeld => ?_); refine with_tabW coamingref20_SameAll.tab6 coamingref20_SameAll.bits6 (fun HT_ HW_ => ?_)
        generalize wr.drew = w9 at HB HR392_5 HR393_5 hx392_0 hx392_1 hx392_2 hx392_3 hx392_4 hx392_5 hx393_0 hx393_1 hx393_2 hx393_3 hx393_4 hx393_5 hHeld ⊢
        refine pure_ (i := 0) (N := some 18) (v := ?_) (a' := ?_) #[true, false, false, false, false, false, false, false, false, false] rfl rfl (any_of HT_.out (by kernel_rfl)) (fun _ _ _ h => h) (Or.inl ⟨by rfl, ?_⟩) ?_ ?_
        rotate_left
        ·intro w'
         go_simp
         with_reducible rfl
        rotate_left
        ·simp only [Act.put, List.setIfInBounds_toArray, List.set_cons_zero, List.set_cons_succ, i64_w, i32_w]
         rfl
        refine pure_ (i := 1) (N := some 19) (v := ?_) (a' := ?_) #[true, true, false, false, false, false, false, false, false, false] rfl rfl (any_of HT_.out (by kernel_rfl)) (fun _ _ _ h => h) (Or.inl ⟨by rfl, ?_⟩) ?_ ?_
        rotate_left
        ·intro w'
         go_simp
         with_reducible rfl
        rotate_left
        ·simp only [Act.put, List.setIfInBounds_toArray, List.set_cons_zero, List.set_cons_succ, i64_w, i32_w]
         rfl
        refine pure_ (i := 2) (N := some 20) (v := ?_) (a' := ?_) #[true, true, true, false, false, false, false, false, false, false] rfl rfl (any_of HT_.out (by kernel_rfl)) (fun _ _ _ h => h) (Or.inl ⟨by rfl, ?_⟩) ?_ ?_
        rotate_left
        ·intro w'
         go_simp
         with_reducible rfl
        rotate_left
        ·simp only [Act.put, List.setIfInBounds_toArray, List.set_cons_zero, List.set_cons_succ, i64_w, i32_w]
         rfl
        refine pure_ (i := 4) (N := some 22) (v := ?_) (a' := ?_) #[true, true, true, false, true, false, false, false, false, false] rfl rfl (any_of HT_.out (by kernel_rfl)) (fun _ _ _ h => h) (Or.inl ⟨by rfl, ?_⟩) ?_ ?_
        rotate_left
        ·intro w'
         go_simp
         with_reducible rfl
        rotate_left
        ·simp only [Act.put, List.setIfInBounds_toArray, List.set_cons_zero, List.set_cons_succ, i64_w, i32_w]
         rfl
        refine pure_ (i := 5) (N := some 23) (v := ?_) (a' := ?_) #[true, true, true, false, true, true, false, false, false, false] rfl rfl (any_of HT_.out (by kernel_rfl)) (fun _ _ _ h => h) (Or.inl ⟨by rfl, ?_⟩) ?_ ?_
        rotate_left
        ·intro w'
         go_simp
         with_reducible rfl
        rotate_left
        ·simp only [Act.put, List.setIfInBounds_toArray, List.set_cons_zero, List.set_cons_succ, i64_w, i32_w]
         rfl
        refine pure_ (i := 6) (N := some 24) (v := ?_) (a' := ?_) #[true, true, true, false, true, true, true, false, false, false] rfl rfl (any_of HT_.out (by kernel_rfl)) (fun _ _ _ h => h) (Or.inl ⟨by rfl, ?_⟩) ?_ ?_
        rotate_left
        ·intro w'
         go_simp
         with_reducible rfl
        rotate_left
        ·simp only [Act.put, List.setIfInBounds_toArray, List.set_cons_zero, List.set_cons_succ, i64_w, i32_w]
         rfl
        refine take_ (i := 3) (N := some 21) (v := ?_) (a' := ?_) #[true, true, true, true, true, true, true, false, false, false] rfl rfl (take_ofW HT_.out HW_.out (by kernel_rfl)) (fun _ _ _ h => h) (Or.inl ⟨by rfl, ?_⟩) hHeld ?_ ?_
        rotate_left
        ·rintro w' ⟨s0, s1, s2, s3, s4, s5, s6, s7, s8, s9, s10, s11⟩
         go_simp
         with_reducible rfl
        rotate_left
        ·simp only [Act.put, List.setIfInBounds_toArray, List.set_cons_zero, List.set_cons_succ, i64_w, i32_w]
         rfl
        refine take_ (i := 7) (N := some 25) (v := ?_) (a' := ?_) #[true, true, true, true, true, true, true, true, false, false] rfl rfl (take_ofW HT_.out HW_.out (by kernel_rfl)) (fun _ _ _ h => h) (Or.inl ⟨by rfl, ?_⟩) hHeld ?_ ?_
        rotate_left
        ·rintro w' ⟨s0, s1, s2, s3, s4, s5, s6, s7, s8, s9, s10, s11⟩
         go_simp
         with_reducible rfl
        rotate_left
        ·simp only [Act.put, List.setIfInBounds_toArray, List.set_cons_zero, List.set_cons_succ, i64_w, i32_w]
         rfl
        refine one_ (i := 8) (N := some 26) #[true, true, true, true, true, true, true, true, true, false] rfl rfl (one_of HT_.out (by kernel_rfl)) (by decide) (fun K hK => ?_)
        refine goes_ Tryd.func30 (by kernel_rfl) rfl #[.agg #[.int .u16 ((rd_T61 l0 x5_1).f0), .int .u16 ((rd_T61 l0 x5_1).f1), .int .u64 ((rd_T61 l0 x5_1).f2), .int .u64 ((rd_T61 l0 x5_1).f3), .int .u32 ((rd_T61 l0 x5_1).f4), .slice A392_5 ((rd_T61 l0 x5_1).f5).length c392_5], .agg #[.int .u16 ((rd_T61 l1 x5_1).f0), .int .u16 ((rd_T61 l1 x5_1).f1), .int .u64 ((rd_T61 l1 x5_1).f2), .int .u64 ((rd_T61 l1 x5_1).f3), .int .u32 ((rd_T61 l1 x5_1).f4), .slice A393_5 ((rd_T61 l1 x5_1).f5).length c393_5]] (by rfl) rfl rfl (by (try simp only [List.map_toArray, List.map_cons, List.map_nil]); first | done | rfl | (simp only [List.length_drop, List.length_take]; rfl) | (simp only [List.length_drop, List.length_take]; (repeat rw [Nat.min_eq_left (by simp only [eq_iff_iff, iff_true] at *; omega)]); rfl)) ?_
        with_reducible refine (coamingref20_Same.calls ((rd_T61 l0 x5_1).f0) ((rd_T61 l0 x5_1).f1) ((rd_T61 l0 x5_1).f2) ((rd_T61 l0 x5_1).f3) ((rd_T61 l0 x5_1).f4) _ _ ((rd_T61 l0 x5_1).f5) ((rd_T61 l1 x5_1).f0) ((rd_T61 l1 x5_1).f1) ((rd_T61 l1 x5_1).f2) ((rd_T61 l1 x5_1).f3) ((rd_T61 l1 x5_1).f4) _ _ ((rd_T61 l1 x5_1).f5) true _ ?side1 ?side2 ?side3 ?side4 A7.out).mono ?_
        (case side1 => repeat (first | exact (Kd.C_below HR392_5.out HB.out) | (with_reducible refine Kd.C_alloc ?_ _) | (with_reducible refine Kd.C_drewN ?_ _) | (with_reducible refine Kd.C_drew ?_)))
        (case side2 => exact HC392_5.out)
        (case side3 => repeat (first | exact (Kd.C_below HR393_5.out HB.out) | (with_reducible refine Kd.C_alloc ?_ _) | (with_reducible refine Kd.C_drewN ?_ _) | (with_reducible refine Kd.C_drew ?_)))
        (case side4 => exact HC393_5.out)
        rintro e w10 ⟨rfl, hb⟩
        refine ⟨_, rfl, ?_⟩
        have n0_ := Aside0.mk (below_step (by repeat (first | (with_reducible first | exact HB.out | apply below_alloc | apply pw_below_drewN | apply below_drew1) | exact HB.out)) hb)
        clear HB
        have HB := n0_
        clear n0_
        (try clear hb)
        (try clear hb2)
        (try clear hk)
        (try clear hi)
        refine hK.out _ _ ⟨((HB.out.cell (World.block_lt_of_cell? w _ hw392_0)).trans hw392_0), ((HB.out.cell (World.block_lt_of_cell? w _ hw392_1)).trans hw392_1), ((HB.out.cell (World.block_lt_of_cell? w _ hw392_2)).trans hw392_2), ((HB.out.cell (World.block_lt_of_cell? w _ hw392_3)).trans hw392_3), ((HB.out.cell (World.block_lt_of_cell? w _ hw392_4)).trans hw392_4), ((HB.out.cell (World.block_lt_of_cell? w _ hw392_5)).trans hw392_5), ((HB.out.cell (World.block_lt_of_cell? w _ hw393_0)).trans hw393_0), ((HB.out.cell (World.block_lt_of_cell? w _ hw393_1)).trans hw393_1), ((HB.out.cell (World.block_lt_of_cell? w _ hw393_2)).trans hw393_2), ((HB.out.cell (World.block_lt_of_cell? w _ hw393_3)).trans hw393_3), ((HB.out.cell (World.block_lt_of_cell? w _ hw393_4)).trans hw393_4), ((HB.out.cell (World.block_lt_of_cell? w _ hw393_5)).trans hw393_5)⟩ (fun hHeld => ?_)
        clear hK K
        refine norm_ (a' := ?_) ?_ ?_
        rotate_left
        ·show Act.put _ (some 26) _ = _
         simp only [Act.put, List.setIfInBounds_toArray, List.set_cons_zero, List.set_cons_succ, i64_w, i32_w]
         rfl
        refine pure_ (i := 9) (N := some 6) (v := ?_) (a' := ?_) #[true, true, true, true, true, true, true, true, true, true] rfl rfl (any_of HT_.out (by kernel_rfl)) (fun _ _ _ h => h) (Or.inl ⟨by rfl, ?_⟩) ?_ ?_
        rotate_left
        ·intro w'
         go_simp
         with_reducible rfl
        rotate_left
        ·simp only [Act.put, List.setIfInBounds_toArray, List.set_cons_zero, List.set_cons_succ, i64_w, i32_w]
         rfl
        refine done_ (done_of HT_.out (by kernel_rfl)) ?_
        try go_wp2
        go_roundg k1
        case measure => have := HK1.out; omega
        case rel => exact ⟨(wrap64 (x5_1 + 1)), (by first | rfl | (simp; done) | (simp [*]; done)), H', ⟨by have := HK1.out; omega⟩, ⟨by repeat (first | (with_reducible first | exact HB.out | apply below_alloc | apply pw_below_drewN | apply below_drew1) | exact HB.out)⟩⟩
       ·replace c8 := Bool.eq_false_iff.mpr c8
        subst c8
        have H1 : (some false) = some r := by rw [if_neg (show ¬ (false = true) by decide)] at H; exact H
        clear H
        have H := H1
        clear H1
        obtain rfl := Option.some.inj H
        try go_wp2
        have n0_ := Aside0.mk (below_drew1 HB.out)
        clear HB
        have HB := n0_
        clear n0_
        have p392 : 0 ≤ (x5_1 : Int) := of_decide_eq_true (by first | (with_reducible assumption) | assumption)
        have q392 : x5_1 < (l0.length : Int) := of_decide_eq_true (by first | (with_reducible assumption) | assumption)
        obtain ⟨ad392, A392_5, c392_5, e392, hx392_0, hx392_1, hx392_2, hx392_3, hx392_4, hx392_5, hl392_5, hi392_5⟩ := at_T61 HR0.out x5_1 p392 q392
        have hw392_5 := hx392_5
        have hw392_4 := hx392_4
        have hw392_3 := hx392_3
        have hw392_2 := hx392_2
        have hw392_1 := hx392_1
        have hw392_0 := hx392_0
        cases e392
        replace hx392_0 := (HB.out.cell (World.block_lt_of_cell? w _ hx392_0)).trans hx392_0
        replace hx392_1 := (HB.out.cell (World.block_lt_of_cell? w _ hx392_1)).trans hx392_1
        replace hx392_2 := (HB.out.cell (World.block_lt_of_cell? w _ hx392_2)).trans hx392_2
        replace hx392_3 := (HB.out.cell (World.block_lt_of_cell? w _ hx392_3)).trans hx392_3
        replace hx392_4 := (HB.out.cell (World.block_lt_of_cell? w _ hx392_4)).trans hx392_4
        replace hx392_5 := (HB.out.cell (World.block_lt_of_cell? w _ hx392_5)).trans hx392_5
        have HR392_5 := Aside0.mk hi392_5
        have HC392_5 := Aside0.mk hl392_5
        clear hi392_5 hl392_5
        replace p392 := eq_true p392
        replace q392 := eq_true q392
        have p393 : 0 ≤ (x5_1 : Int) := of_decide_eq_true (by first | (with_reducible assumption) | assumption)
        have q393 : x5_1 < (l1.length : Int) := of_decide_eq_true (by first | (with_reducible assumption) | assumption)
        obtain ⟨ad393, A393_5, c393_5, e393, hx393_0, hx393_1, hx393_2, hx393_3, hx393_4, hx393_5, hl393_5, hi393_5⟩ := at_T61 HR1.out x5_1 p393 q393
        have hw393_5 := hx393_5
        have hw393_4 := hx393_4
        have hw393_3 := hx393_3
        have hw393_2 := hx393_2
        have hw393_1 := hx393_1
        have hw393_0 := hx393_0
        cases e393
        replace hx393_0 := (HB.out.cell (World.block_lt_of_cell? w _ hx393_0)).trans hx393_0
        replace hx393_1 := (HB.out.cell (World.block_lt_of_cell? w _ hx393_1)).trans hx393_1
        replace hx393_2 := (HB.out.cell (World.block_lt_of_cell? w _ hx393_2)).trans hx393_2
        replace hx393_3 := (HB.out.cell (World.block_lt_of_cell? w _ hx393_3)).trans hx393_3
        replace hx393_4 := (HB.out.cell (World.block_lt_of_cell? w _ hx393_4)).trans hx393_4
        replace hx393_5 := (HB.out.cell (World.block_lt_of_cell? w _ hx393_5)).trans hx393_5
        have HR393_5 := Aside0.mk hi393_5
        have HC393_5 := Aside0.mk hl393_5
        clear hi393_5 hl393_5
        replace p393 := eq_true p393
        replace q393 := eq_true q393
        refine start_ (n := 10) (S := fun w' => w'.cell? (ad392.add ((x5_1).toNat * 6)) = some (.int .u16 ((rd_T61 l0 x5_1).f0)) ∧ w'.cell? ⟨(ad392.add ((x5_1).toNat * 6)).block, (ad392.add ((x5_1).toNat * 6)).off + 1, none⟩ = some (.int .u16 ((rd_T61 l0 x5_1).f1)) ∧ w'.cell? ⟨(ad392.add ((x5_1).toNat * 6)).block, (ad392.add ((x5_1).toNat * 6)).off + 2, none⟩ = some (.int .u64 ((rd_T61 l0 x5_1).f2)) ∧ w'.cell? ⟨(ad392.add ((x5_1).toNat * 6)).block, (ad392.add ((x5_1).toNat * 6)).off + 3, none⟩ = some (.int .u64 ((rd_T61 l0 x5_1).f3)) ∧ w'.cell? ⟨(ad392.add ((x5_1).toNat * 6)).block, (ad392.add ((x5_1).toNat * 6)).off + 4, none⟩ = some (.int .u32 ((rd_T61 l0 x5_1).f4)) ∧ w'.cell? ⟨(ad392.add ((x5_1).toNat * 6)).block, (ad392.add ((x5_1).toNat * 6)).off + 5, none⟩ = some (.slice A392_5 ((rd_T61 l0 x5_1).f5).length c392_5) ∧ w'.cell? (ad393.add ((x5_1).toNat * 6)) = some (.int .u16 ((rd_T61 l1 x5_1).f0)) ∧ w'.cell? ⟨(ad393.add ((x5_1).toNat * 6)).block, (ad393.add ((x5_1).toNat * 6)).off + 1, none⟩ = some (.int .u16 ((rd_T61 l1 x5_1).f1)) ∧ w'.cell? ⟨(ad393.add ((x5_1).toNat * 6)).block, (ad393.add ((x5_1).toNat * 6)).off + 2, none⟩ = some (.int .u64 ((rd_T61 l1 x5_1).f2)) ∧ w'.cell? ⟨(ad393.add ((x5_1).toNat * 6)).block, (ad393.add ((x5_1).toNat * 6)).off + 3, none⟩ = some (.int .u64 ((rd_T61 l1 x5_1).f3)) ∧ w'.cell? ⟨(ad393.add ((x5_1).toNat * 6)).block, (ad393.add ((x5_1).toNat * 6)).off + 4, none⟩ = some (.int .u32 ((rd_T61 l1 x5_1).f4)) ∧ w'.cell? ⟨(ad393.add ((x5_1).toNat * 6)).block, (ad393.add ((x5_1).toNat * 6)).off + 5, none⟩ = some (.slice A393_5 ((rd_T61 l1 x5_1).f5).length c393_5)) (ds := []) #[false, false, false, false, false, false, false, false, false, false] (by kernel_rfl) rfl rfl ⟨((HB.out.cell (World.block_lt_of_cell? w _ hw392_0)).trans hw392_0), ((HB.out.cell (World.block_lt_of_cell? w _ hw392_1)).trans hw392_1), ((HB.out.cell (World.block_lt_of_cell? w _ hw392_2)).trans hw392_2), ((HB.out.cell (World.block_lt_of_cell? w _ hw392_3)).trans hw392_3), ((HB.out.cell (World.block_lt_of_cell? w _ hw392_4)).trans hw392_4), ((HB.out.cell (World.block_lt_of_cell? w _ hw392_5)).trans hw392_5), ((HB.out.cell (World.block_lt_of_cell? w _ hw393_0)).trans hw393_0), ((HB.out.cell (World.block_lt_of_cell? w _ hw393_1)).trans hw393_1), ((HB.out.cell (World.block_lt_of_cell? w _ hw393_2)).trans hw393_2), ((HB.out.cell (World.block_lt_of_cell? w _ hw393_3)).trans hw393_3), ((HB.out.cell (World.block_lt_of_cell? w _ hw393_4)).trans hw393_4), ((HB.out.cell (World.block_lt_of_cell? w _ hw393_5)).trans hw393_5)⟩ (fun hHeld => ?_); refine with_tabW coamingref20_SameAll.tab6 coamingref20_SameAll.bits6 (fun HT_ HW_ => ?_)
        generalize wr.drew = w11 at HB HR392_5 HR393_5 hx392_0 hx392_1 hx392_2 hx392_3 hx392_4 hx392_5 hx393_0 hx393_1 hx393_2 hx393_3 hx393_4 hx393_5 hHeld ⊢
        refine pure_ (i := 0) (N := some 18) (v := ?_) (a' := ?_) #[true, false, false, false, false, false, false, false, false, false] rfl rfl (any_of HT_.out (by kernel_rfl)) (fun _ _ _ h => h) (Or.inl ⟨by rfl, ?_⟩) ?_ ?_
        rotate_left
        ·intro w'
         go_simp
         with_reducible rfl
        rotate_left
        ·simp only [Act.put, List.setIfInBounds_toArray, List.set_cons_zero, List.set_cons_succ, i64_w, i32_w]
         rfl
        refine pure_ (i := 1) (N := some 19) (v := ?_) (a' := ?_) #[true, true, false, false, false, false, false, false, false, false] rfl rfl (any_of HT_.out (by kernel_rfl)) (fun _ _ _ h => h) (Or.inl ⟨by rfl, ?_⟩) ?_ ?_
        rotate_left
        ·intro w'
         go_simp
         with_reducible rfl
        rotate_left
        ·simp only [Act.put, List.setIfInBounds_toArray, List.set_cons_zero, List.set_cons_succ, i64_w, i32_w]
         rfl
        refine pure_ (i := 2) (N := some 20) (v := ?_) (a' := ?_) #[true, true, true, false, false, false, false, false, false, false] rfl rfl (any_of HT_.out (by kernel_rfl)) (fun _ _ _ h => h) (Or.inl ⟨by rfl, ?_⟩) ?_ ?_
        rotate_left
        ·intro w'
         go_simp
         with_reducible rfl
        rotate_left
        ·simp only [Act.put, List.setIfInBounds_toArray, List.set_cons_zero, List.set_cons_succ, i64_w, i32_w]
         rfl
        refine pure_ (i := 4) (N := some 22) (v := ?_) (a' := ?_) #[true, true, true, false, true, false, false, false, false, false] rfl rfl (any_of HT_.out (by kernel_rfl)) (fun _ _ _ h => h) (Or.inl ⟨by rfl, ?_⟩) ?_ ?_
        rotate_left
        ·intro w'
         go_simp
         with_reducible rfl
        rotate_left
        ·simp only [Act.put, List.setIfInBounds_toArray, List.set_cons_zero, List.set_cons_succ, i64_w, i32_w]
         rfl
        refine pure_ (i := 5) (N := some 23) (v := ?_) (a' := ?_) #[true, true, true, false, true, true, false, false, false, false] rfl rfl (any_of HT_.out (by kernel_rfl)) (fun _ _ _ h => h) (Or.inl ⟨by rfl, ?_⟩) ?_ ?_
        rotate_left
        ·intro w'
         go_simp
         with_reducible rfl
        rotate_left
        ·simp only [Act.put, List.setIfInBounds_toArray, List.set_cons_zero, List.set_cons_succ, i64_w, i32_w]
         rfl
        refine pure_ (i := 6) (N := some 24) (v := ?_) (a' := ?_) #[true, true, true, false, true, true, true, false, false, false] rfl rfl (any_of HT_.out (by kernel_rfl)) (fun _ _ _ h => h) (Or.inl ⟨by rfl, ?_⟩) ?_ ?_
        rotate_left
        ·intro w'
         go_simp
         with_reducible rfl
        rotate_left
        ·simp only [Act.put, List.setIfInBounds_toArray, List.set_cons_zero, List.set_cons_succ, i64_w, i32_w]
         rfl
        refine take_ (i := 3) (N := some 21) (v := ?_) (a' := ?_) #[true, true, true, true, true, true, true, false, false, false] rfl rfl (take_ofW HT_.out HW_.out (by kernel_rfl)) (fun _ _ _ h => h) (Or.inl ⟨by rfl, ?_⟩) hHeld ?_ ?_
        rotate_left
        ·rintro w' ⟨s0, s1, s2, s3, s4, s5, s6, s7, s8, s9, s10, s11⟩
         go_simp
         with_reducible rfl
        rotate_left
        ·simp only [Act.put, List.setIfInBounds_toArray, List.set_cons_zero, List.set_cons_succ, i64_w, i32_w]
         rfl
        refine take_ (i := 7) (N := some 25) (v := ?_) (a' := ?_) #[true, true, true, true, true, true, true, true, false, false] rfl rfl (take_ofW HT_.out HW_.out (by kernel_rfl)) (fun _ _ _ h => h) (Or.inl ⟨by rfl, ?_⟩) hHeld ?_ ?_
        rotate_left
        ·rintro w' ⟨s0, s1, s2, s3, s4, s5, s6, s7, s8, s9, s10, s11⟩
         go_simp
         with_reducible rfl
        rotate_left
        ·simp only [Act.put, List.setIfInBounds_toArray, List.set_cons_zero, List.set_cons_succ, i64_w, i32_w]
         rfl
        refine one_ (i := 8) (N := some 26) #[true, true, true, true, true, true, true, true, true, false] rfl rfl (one_of HT_.out (by kernel_rfl)) (by decide) (fun K hK => ?_)
        refine goes_ Tryd.func30 (by kernel_rfl) rfl #[.agg #[.int .u16 ((rd_T61 l0 x5_1).f0), .int .u16 ((rd_T61 l0 x5_1).f1), .int .u64 ((rd_T61 l0 x5_1).f2), .int .u64 ((rd_T61 l0 x5_1).f3), .int .u32 ((rd_T61 l0 x5_1).f4), .slice A392_5 ((rd_T61 l0 x5_1).f5).length c392_5], .agg #[.int .u16 ((rd_T61 l1 x5_1).f0), .int .u16 ((rd_T61 l1 x5_1).f1), .int .u64 ((rd_T61 l1 x5_1).f2), .int .u64 ((rd_T61 l1 x5_1).f3), .int .u32 ((rd_T61 l1 x5_1).f4), .slice A393_5 ((rd_T61 l1 x5_1).f5).length c393_5]] (by rfl) rfl rfl (by (try simp only [List.map_toArray, List.map_cons, List.map_nil]); first | done | rfl | (simp only [List.length_drop, List.length_take]; rfl) | (simp only [List.length_drop, List.length_take]; (repeat rw [Nat.min_eq_left (by simp only [eq_iff_iff, iff_true] at *; omega)]); rfl)) ?_
        with_reducible refine (coamingref20_Same.calls ((rd_T61 l0 x5_1).f0) ((rd_T61 l0 x5_1).f1) ((rd_T61 l0 x5_1).f2) ((rd_T61 l0 x5_1).f3) ((rd_T61 l0 x5_1).f4) _ _ ((rd_T61 l0 x5_1).f5) ((rd_T61 l1 x5_1).f0) ((rd_T61 l1 x5_1).f1) ((rd_T61 l1 x5_1).f2) ((rd_T61 l1 x5_1).f3) ((rd_T61 l1 x5_1).f4) _ _ ((rd_T61 l1 x5_1).f5) false _ ?side1 ?side2 ?side3 ?side4 A7.out).mono ?_
        (case side1 => repeat (first | exact (Kd.C_below HR392_5.out HB.out) | (with_reducible refine Kd.C_alloc ?_ _) | (with_reducible refine Kd.C_drewN ?_ _) | (with_reducible refine Kd.C_drew ?_)))
        (case side2 => exact HC392_5.out)
        (case side3 => repeat (first | exact (Kd.C_below HR393_5.out HB.out) | (with_reducible refine Kd.C_alloc ?_ _) | (with_reducible refine Kd.C_drewN ?_ _) | (with_reducible refine Kd.C_drew ?_)))
        (case side4 => exact HC393_5.out)
        rintro e w12 ⟨rfl, hb⟩
        refine ⟨_, rfl, ?_⟩
        have n0_ := Aside0.mk (below_step (by repeat (first | (with_reducible first | exact HB.out | apply below_alloc | apply pw_below_drewN | apply below_drew1) | exact HB.out)) hb)
        clear HB
        have HB := n0_
        clear n0_
        (try clear hb)
        (try clear hb2)
        (try clear hk)
        (try clear hi)
        refine hK.out _ _ ⟨((HB.out.cell (World.block_lt_of_cell? w _ hw392_0)).trans hw392_0), ((HB.out.cell (World.block_lt_of_cell? w _ hw392_1)).trans hw392_1), ((HB.out.cell (World.block_lt_of_cell? w _ hw392_2)).trans hw392_2), ((HB.out.cell (World.block_lt_of_cell? w _ hw392_3)).trans hw392_3), ((HB.out.cell (World.block_lt_of_cell? w _ hw392_4)).trans hw392_4), ((HB.out.cell (World.block_lt_of_cell? w _ hw392_5)).trans hw392_5), ((HB.out.cell (World.block_lt_of_cell? w _ hw393_0)).trans hw393_0), ((HB.out.cell (World.block_lt_of_cell? w _ hw393_1)).trans hw393_1), ((HB.out.cell (World.block_lt_of_cell? w _ hw393_2)).trans hw393_2), ((HB.out.cell (World.block_lt_of_cell? w _ hw393_3)).trans hw393_3), ((HB.out.cell (World.block_lt_of_cell? w _ hw393_4)).trans hw393_4), ((HB.out.cell (World.block_lt_of_cell? w _ hw393_5)).trans hw393_5)⟩ (fun hHeld => ?_)
        clear hK K
        refine norm_ (a' := ?_) ?_ ?_
        rotate_left
        ·show Act.put _ (some 26) _ = _
         simp only [Act.put, List.setIfInBounds_toArray, List.set_cons_zero, List.set_cons_succ, i64_w, i32_w]
         rfl
        refine pure_ (i := 9) (N := some 6) (v := ?_) (a' := ?_) #[true, true, true, true, true, true, true, true, true, true] rfl rfl (any_of HT_.out (by kernel_rfl)) (fun _ _ _ h => h) (Or.inl ⟨by rfl, ?_⟩) ?_ ?_
        rotate_left
        ·intro w'
         go_simp
         with_reducible rfl
        rotate_left
        ·simp only [Act.put, List.setIfInBounds_toArray, List.set_cons_zero, List.set_cons_succ, i64_w, i32_w]
         rfl
        refine done_ (done_of HT_.out (by kernel_rfl)) ?_
        try go_wp2
        go_ret
        exact ⟨by first | rfl | (simp [errW_none, errW_some] <;> rfl) | (simp [*, errW_none, errW_some] <;> rfl), by repeat (first | (with_reducible first | exact HB.out | apply below_alloc | apply pw_below_drewN | apply below_drew1) | exact HB.out)⟩
      ·rw [if_neg c6] at H
       exact absurd H (by simp)
     ·rw [if_neg c5] at H
      exact absurd H (by simp)
    ·rw [if_neg c4] at H
     have c4b0 : decide (x5_1 < (l0.length : Int)) = false := decide_eq_false c4
     clear c4
     obtain rfl := Option.some.inj H
     go_wp2
     go_ret
     exact ⟨by first | rfl | (simp [errW_none, errW_some] <;> rfl) | (simp [*, errW_none, errW_some] <;> rfl), by repeat (first | (with_reducible first | exact HB.out | apply below_alloc | apply pw_below_drewN | apply below_drew1) | exact HB.out)⟩
 ·rw [if_neg c3] at H
  have c3b0 : ((l0.length : Int) == (l1.length : Int)) = false := beq_eq_false_iff_ne.mpr c3
  have c3b1 : ((l0.length : Int) != (l1.length : Int)) = true := bne_iff_ne.mpr c3
  have c3b2 : (l0.length == l1.length) = false := by first | simpa using c3 | (simp at c3 ⊢; omega)
  obtain rfl := Option.some.inj H
  go_enter Tryd.func17, Tryd.ntmps17
  go_wp2
  go_ret
  exact ⟨by first | rfl | (simp [errW_none, errW_some] <;> rfl) | (simp [*, errW_none, errW_some] <;> rfl), by repeat (first | (with_reducible first | exact HB.out | apply below_alloc | apply pw_below_drewN | apply below_drew1) | exact HB.out)⟩
end Go.Proofs.YtgljicdpcapgnaaDoor.PBase
namespace Go.Proofs.YtgljicdpcapgnaaDoor.PBase
open Go.RowKit Go.Proofs.YtgljicdpcapgnaaDoorW.PrintWords Go.Proofs.YtgljicdpcapgnaaDoorW.PrintLast Go.Proofs.YtgljicdpcapgnaaDoorW.PrintMore
attribute [local go_sem] max2_int min2_int max_two min_two max_three min_three max_four min_four   -- for this text's walks alone
set_option linter.unusedVariables false
set_option linter.unusedSimpArgs false
def coamingref00_SameBytes.f (l0 : List Int) (l1 : List Int) : Option (Bool) := some ((strOfNums l0).toList == (strOfNums l1).toList)
set_option maxHeartbeats 8000000 in
set_option maxRecDepth 100000 in
theorem coamingref00_SameBytes.calls (A0 : Option Addr) (c0 : Nat) (l0 : List Int) (A1 : Option Addr) (c1 : Nat) (l1 : List Int) (r : Bool) (w : World) (hr0 : Kd.C (Kd.int .u8) w A0 l0.length l0) (hc0 : l0.length ≤ c0) (hr1 : Kd.C (Kd.int .u8) w A1 l1.length l1) (hc1 : l1.length ≤ c1) (h : coamingref00_SameBytes.f l0 l1 = some r) :
  Calls Tryd.prog 19 #[.slice A0 l0.length c0, .slice A1 l1.length c1] w fun e w' => e = .returned (.bool r) ∧ Drawn0 w w' := by
 have HR0 := Aside0.mk hr0
 have HC0 := Aside0.mk hc0
 clear hr0 hc0
 have HR1 := Aside0.mk hr1
 have HC1 := Aside0.mk hc1
 clear hr1 hc1
 have H : (some ((strOfNums l0).toList == (strOfNums l1).toList)) = some r := h
 clear h
 obtain rfl := Option.some.inj H
 have hcv3 := Kd.C_string (P := Tryd.prog) (A := A0) (c := c0) Tryd.underlying23 Tryd.underlying5 Tryd.underlying9 HR0.out
 have hcv4 := Kd.C_string (P := Tryd.prog) (A := A1) (c := c1) Tryd.underlying23 Tryd.underlying5 Tryd.underlying9 HR1.out
 go_enter Tryd.func19, Tryd.ntmps19
 go_wp2
 go_ret
 exact ⟨by first | rfl | (simp; done) | (simp [*]; done), by repeat (first | exact Drawn0.refl _ | apply Drawn0.step)⟩
def conn_refused.f (a0 : Int) : Option (Int) := if a0 = 74 then (some 2147483651) else (if a0 = 50 then (some 2147483654) else (if a0 = 51 then (some 2147483654) else (some 2147483650)))
set_option maxHeartbeats 8000000 in
set_option maxRecDepth 100000 in
theorem conn_refused.calls (a0 : Int) (r : Int) (w : World) (h : conn_refused.f a0 = some r) :
  Calls Tryd.prog 83 #[.int .u16 a0] w fun e w' => e = .returned (.int .u32 r) ∧ Drawn0 w w' := by
 have H : (if a0 = 74 then (some 2147483651) else (if a0 = 50 then (some 2147483654) else (if a0 = 51 then (some 2147483654) else (some 2147483650)))) = some r := h
 clear h
 by_cases c2 : a0 = 74
 ·rw [if_pos c2] at H
  have c2b0 : (a0 == 74) = true := beq_iff_eq.mpr c2
  have c2b1 : (a0 != 74) = false := bne_eq_false_iff_eq.mpr c2
  clear c2
  obtain rfl := Option.some.inj H
  go_enter Tryd.func83, Tryd.ntmps83
  go_wp2
  go_ret
  exact ⟨by first | rfl | (simp; done) | (simp [*]; done), by repeat (first | exact Drawn0.refl _ | apply Drawn0.step)⟩
 ·rw [if_neg c2] at H
  have c2b0 : (a0 == 74) = false := beq_eq_false_iff_ne.mpr c2
  have c2b1 : (a0 != 74) = true := bne_iff_ne.mpr c2
  by_cases c3 : a0 = 50
  ·rw [if_pos c3] at H
   have c3b0 : (a0 == 50) = true := beq_iff_eq.mpr c3
   have c3b1 : (a0 != 50) = false := bne_eq_false_iff_eq.mpr c3
   clear c3
   obtain rfl := Option.some.inj H
   go_enter Tryd.func83, Tryd.ntmps83
   go_wp2
   go_ret
   exact ⟨by first | rfl | (simp; done) | (simp [*]; done), by repeat (first | exact Drawn0.refl _ | apply Drawn0.step)⟩
  ·rw [if_neg c3] at H
   have c3b0 : (a0 == 50) = false := beq_eq_false_iff_ne.mpr c3
   have c3b1 : (a0 != 50) = true := bne_iff_ne.mpr c3
   by_cases c4 : a0 = 51
   ·rw [if_pos c4] at H
    have c4b0 : (a0 == 51) = true := beq_iff_eq.mpr c4
    have c4b1 : (a0 != 51) = false := bne_eq_false_iff_eq.mpr c4
    clear c4
    obtain rfl := Option.some.inj H
    go_enter Tryd.func83, Tryd.ntmps83
    go_wp2
    go_ret
    exact ⟨by first | rfl | (simp; done) | (simp [*]; done), by repeat (first | exact Drawn0.refl _ | apply Drawn0.step)⟩
   ·rw [if_neg c4] at H
    have c4b0 : (a0 == 51) = false := beq_eq_false_iff_ne.mpr c4
    have c4b1 : (a0 != 51) = true := bne_iff_ne.mpr c4
    obtain rfl := Option.some.inj H
    go_enter Tryd.func83, Tryd.ntmps83
    go_wp2
    go_ret
    exact ⟨by first | rfl | (simp; done) | (simp [*]; done), by repeat (first | exact Drawn0.refl _ | apply Drawn0.step)⟩
end Go.Proofs.YtgljicdpcapgnaaDoor.PBase
set_option linter.unusedVariables false
set_option linter.unusedSimpArgs false
namespace Go.Proofs.YtgljicdpcapgnaaDoor.Sp
open Go.RowKit Go.Proofs.YtgljicdpcapgnaaDoor.PBase Go.Proofs.YtgljicdpcapgnaaDoorW.PrintWords Go.Proofs.YtgljicdpcapgnaaDoorW.PrintLast Go.Proofs.YtgljicdpcapgnaaDoorW.PrintMore
theorem w64 (n : Int) (h0 : -9223372036854775808 ≤ n) (h1 : n ≤ 9223372036854775807) : wrap64 n = n := by unfold wrap64; omega
def bs (s : ByteArray) : List Int := s.data.toList.map fun c => (c.toNat : Int)
theorem bs_length (s : ByteArray) : (bs s).length = s.size := by simp [bs]
theorem bs_drop (s : ByteArray) (i : Nat) (h : i < s.size) : (bs s).drop i = bt s i :: (bs s).drop (i + 1) := by
  rw [List.drop_eq_getElem_cons (by rw [bs_length]; exact h)]
  congr 1
  simp [bs, bt, h]
  rfl
theorem number_is (k : Nat) (c : Int) (h0 : 0 ≤ c) (h1 : c ≤ 255) (hk : 0 < k) : spell_number.f k c = some (match dg c with | some d => (d, true) | none => (0, false)) := by
  obtain ⟨k, rfl⟩ : ∃ m, k = m + 1 := ⟨k - 1, by omega⟩
  have h : ∀ c : Fin 256, spell_number.f 1 (c.val : Int) = some (match dg (c.val : Int) with | some d => (d, true) | none => (0, false)) := by decide +kernel
  have h2 := h ⟨c.toNat, by omega⟩
  simp only [Int.toNat_of_nonneg h0] at h2
  unfold spell_number.f at h2 ⊢
  simp only [spell_number.j0] at h2 ⊢
  exact h2
theorem number_some (k : Nat) (c v : Int) (h0 : 0 ≤ c) (h1 : c ≤ 255) (hk : 0 < k) (h : dg c = some v) : spell_number.f k c = some (v, true) := by rw [number_is k c h0 h1 hk, h]
theorem number_none (k : Nat) (c : Int) (h0 : 0 ≤ c) (h1 : c ≤ 255) (hk : 0 < k) (h : dg c = none) : spell_number.f k c = some (0, false) := by rw [number_is k c h0 h1 hk, h]
theorem fold_none {α : Type} {c : Int} {cs : List Int} {z : α} {f : List Int → α} (h : dg c = none) : (digits (c :: cs)).elim z f = z := by rw [digits, h]; rfl
theorem fold_some {α : Type} {c v : Int} {cs : List Int} {z : α} {f : List Int → α} (h : dg c = some v) : (digits (c :: cs)).elim z f = (digits cs).elim z (fun ds => f (v :: ds)) := by
  rw [digits, h]
  cases digits cs <;> rfl
end Go.Proofs.YtgljicdpcapgnaaDoor.Sp
set_option linter.unusedVariables false
set_option linter.unusedSimpArgs false
namespace Go.Proofs.YtgljicdpcapgnaaDoor.Sp
open Go.RowKit Go.Proofs.YtgljicdpcapgnaaDoor.PBase Go.Proofs.YtgljicdpcapgnaaDoorW.PrintWords Go.Proofs.YtgljicdpcapgnaaDoorW.PrintLast Go.Proofs.YtgljicdpcapgnaaDoorW.PrintMore
theorem val_foldl (B : List Int) : ∀ a : Int, B.foldl (fun h b => 2 * h + b) a = a * 2 ^ B.length + val B := by
  induction B with
  | nil => intro a; simp [val]
  | cons b B ih =>
    intro a
    have h1 := ih (2 * a + b)
    have h2 := ih (2 * 0 + b)
    simp only [List.foldl_cons, val, List.length_cons] at *
    rw [h1, h2, Int.pow_succ, show (2 : Int) * 0 + b = b by omega, Int.add_mul]
    rw [show a * (2 ^ B.length * 2) = 2 * a * 2 ^ B.length by rw [Int.mul_comm (2 ^ B.length) 2, ← Int.mul_assoc, Int.mul_comm a 2]]
    omega
theorem val_append (A B : List Int) : val (A ++ B) = val A * 2 ^ B.length + val B := by
  show (A ++ B).foldl _ 0 = _
  rw [List.foldl_append]
  exact val_foldl B _
theorem val_range (B : List Int) (h : Bits B) : 0 ≤ val B ∧ val B < 2 ^ B.length := by
  induction B with
  | nil => simp [val]
  | cons b B ih =>
    have hb := h.head
    have := ih h.tail
    have e : val (b :: B) = b * 2 ^ B.length + val B := by rw [← val_foldl B b]; simp [val]
    rw [e, List.length_cons, Int.pow_succ]
    have hp : (0 : Int) < 2 ^ B.length := Int.pow_pos (by decide)
    rcases (by omega : b = 0 ∨ b = 1) with rfl | rfl <;> omega
theorem val_bits5 (d : Int) (h0 : 0 ≤ d) (h1 : d < 32) : val (bits5 d) = d := by simp only [val, bits5, List.foldl]; omega
theorem val_five (R : List Int) (d : Int) (h0 : 0 ≤ d) (h1 : d < 32) : val (R ++ bits5 d) = val R * 32 + d := by
  rw [val_append, val_bits5 d h0 h1]
  rfl
theorem val_split (L : List Int) (h : Bits L) (n : Nat) (hn : L.length = 8 + n) : val L / 2 ^ n = val (L.take 8) ∧ val L % 2 ^ n = val (L.drop 8) := by
  have e := val_append (L.take 8) (L.drop 8)
  rw [List.take_append_drop, List.length_drop, show L.length - 8 = n by omega] at e
  have hb : Bits (L.take 8 ++ L.drop 8) := by rw [List.take_append_drop]; exact h
  have hr := val_range _ hb.right
  rw [List.length_drop, show L.length - 8 = n by omega] at hr
  have hp : (0 : Int) < 2 ^ n := Int.pow_pos (by decide)
  rw [e]
  constructor
  · rw [Int.add_comm, Int.add_mul_ediv_right _ _ (by omega), Int.ediv_eq_zero_of_lt hr.1 hr.2]
    omega
  · rw [Int.add_comm, Int.add_mul_emod_self_right, Int.emod_eq_of_lt hr.1 hr.2]
theorem pow7 : ∀ m, m < 8 → (2 : Int) ^ m ≤ 128 := by decide
theorem pow12 : ∀ m, m < 13 → (2 : Int) ^ m ≤ 4096 := by decide
theorem pow_le7 (R : List Int) (h : Bits R) (hl : R.length < 8) : 0 ≤ val R ∧ val R < 128 := by
  have := val_range R h
  have h2 := pow7 R.length hl
  omega
theorem pow_le12 (L : List Int) (h : Bits L) (hl : L.length ≤ 12) : 0 ≤ val L ∧ val L < 4096 := by
  have := val_range L h
  have h2 := pow12 L.length (by omega)
  omega
theorem five_length (R : List Int) (v : Int) : (R ++ bits5 v).length = R.length + 5 := by simp [bits5]
theorem rd_or (R : List Int) (v : Int) (hR : Bits R) (hl : R.length < 8) (h0 : 0 ≤ v) (h1 : v < 32) : Go.bits .or .u64 (IntKind.u64.wrap (val R * 32)) v = val (R ++ bits5 v) := by
  have hr := pow_le7 R hR hl
  rw [Bt.wraps_u64 _ (by omega) (by omega), Bt.or_u64 5 _ _ (by omega) (by omega) (by omega) h0 (by omega) (by omega), val_five R v h0 h1]
theorem rd_shr (k : IntKind) (hk : k.bits = 64) (L : List Int) (h : Bits L) (h8 : 8 ≤ L.length) (hl : L.length ≤ 12) : shr k (val L) ((L.drop 8).length : Nat) % 256 = val (L.take 8) := by
  have hn : (L.drop 8).length ≤ 4 := by rw [List.length_drop]; omega
  have hs := (val_split L h (L.drop 8).length (by rw [List.length_drop]; omega)).1
  have hb' : Bits (L.take 8 ++ L.drop 8) := by rw [List.take_append_drop]; exact h
  have hv := val8_of _ hb'.left (by rw [List.length_take]; omega)
  unfold shr
  rw [Int.toNat_natCast, Nat.min_eq_left (by omega), hs]
  omega
theorem rd_mask (L : List Int) (h : Bits L) (h8 : 8 ≤ L.length) (hl : L.length ≤ 12) : Go.bits .and .u64 (val L) (IntKind.u64.wrap (shl .u64 1 ((L.drop 8).length : Nat) - 1)) = val (L.drop 8) := by
  have hn : (L.drop 8).length ≤ 4 := by rw [List.length_drop]; omega
  have hs := (val_split L h (L.drop 8).length (by rw [List.length_drop]; omega)).2
  have hL := pow_le12 L h hl
  have e8 : shl .u64 1 ((L.drop 8).length : Nat) = IntKind.u64.wrap (2 ^ ((L.drop 8).length : Int).toNat) := by
    unfold shl
    rw [Int.toNat_natCast, Nat.min_eq_left (by show _ ≤ 64; omega), Int.one_mul]
  rw [e8, Bt.mask_low _ _ hL.1 (by omega) (by omega) (by omega), Int.toNat_natCast, hs]
theorem drop8_length (L : List Int) (h8 : 8 ≤ L.length) (hl : L.length ≤ 12) : wrap64 ((L.length : Nat) - 8 : Int) = ((L.drop 8).length : Nat) := by
  rw [w64 _ (by omega) (by omega), List.length_drop]; omega
def finR (p : List Int × List Int) : List Int × Int := if 5 ≤ p.2.length then ([], 40) else if val p.2 = 0 then (p.1, 0) else ([], 40)
theorem read_end (s : ByteArray) (k : Nat) (o R : List Int) (i : Nat) (hi : ¬ i < s.size) : spell_Read.l0 (k + 1) s o (val R) R.length s.size i = some ((digits ((bs s).drop i)).elim ([], 40) fun ds => finR (take8 ds o R)) := by
  rw [spell_Read.l0, if_neg (by omega), List.drop_of_length_le (by rw [bs_length]; omega)]
  show _ = some (finR (o, R))
  unfold finR
  by_cases h5 : 5 ≤ R.length
  · rw [if_pos (by omega), if_pos (show 5 ≤ (o, R).2.length from h5)]
  · rw [if_neg (by omega), if_neg (show ¬ 5 ≤ (o, R).2.length from h5)]
    by_cases hv : val R = 0
    · rw [if_pos hv, if_pos (show val (o, R).2 = 0 from hv)]
    · rw [if_neg hv, if_neg (show ¬ val (o, R).2 = 0 from hv)]
set_option maxHeartbeats 1000000 in
theorem read_all (s : ByteArray) (hs : s.size ≤ 1000000) (d : Nat) : ∀ (k : Nat) (o R : List Int) (i : Nat), s.size ≤ i + d → d + 1 < k → Bits R → R.length < 8 → o.length + d ≤ 10000000 →
    spell_Read.l0 k s o (val R) R.length s.size i = some ((digits ((bs s).drop i)).elim ([], 40) fun ds => finR (take8 ds o R)) := by
  induction d with
  | zero =>
    intro k o R i h hk hR hl ho
    obtain ⟨k, rfl⟩ : ∃ m, k = m + 1 := ⟨k - 1, by omega⟩
    exact read_end s k o R i (by omega)
  | succ d ih =>
    intro k o R i h hk hR hl ho
    obtain ⟨k, rfl⟩ : ∃ m, k = m + 1 := ⟨k - 1, by omega⟩
    by_cases hi : i < s.size
    · rw [spell_Read.l0, if_pos (by omega), if_pos (by omega), if_pos (by omega)]
      have hb := bt_range s i
      rw [bs_drop s i hi]
      cases hd : dg (bt s i) with
      | none => rw [number_none k _ hb.1 hb.2 (by omega) hd, Option.bind_some, if_neg (by decide), fold_none hd]
      | some v =>
        have hv := dg_range hd
        have e3 : wrap64 ((R.length : Int) + 5) = ((R ++ bits5 v).length : Nat) := by rw [w64 _ (by omega) (by omega), five_length]; omega
        have e4 : wrap64 ((i : Int) + 1) = ((i + 1 : Nat) : Int) := by rw [w64 _ (by omega) (by omega)]; omega
        have hL : Bits (R ++ bits5 v) := hR.append (Bits5 v)
        have hLl := five_length R v
        rw [number_some k _ v hb.1 hb.2 (by omega) hd, Option.bind_some, if_pos rfl, fold_some hd]
        rw [rd_or R v hR hl hv.1 hv.2, e3, e4]
        clear e3 e4
        by_cases h8 : 8 ≤ R.length + 5
        · have hb' : Bits ((R ++ bits5 v).take 8 ++ (R ++ bits5 v).drop 8) := by rw [List.take_append_drop]; exact hL
          have f1 := drop8_length (R ++ bits5 v) (by omega) (by omega)
          have f2 := rd_shr .u64 rfl (R ++ bits5 v) hL (by omega) (by omega)
          have f3 := rd_mask (R ++ bits5 v) hL (by omega) (by omega)
          have c1 : ((R ++ bits5 v).length : Int) ≥ 8 := by omega
          have c2 : (0 : Int) ≤ (((R ++ bits5 v).drop 8).length : Nat) := by omega
          have c3 : o.length < 140737488355328 := by omega
          rw [if_pos c1]
          rw [f1]
          rw [if_pos c2]
          rw [if_pos c3]
          rw [f2]
          rw [f3]
          clear f1 f2 f3 c3
          rw [ih k _ _ (i + 1) (by omega) (by omega) hb'.right (by rw [List.length_drop]; omega) (by rw [List.length_append, List.length_singleton]; omega)]
          have e9 : ∀ ds, take8 (v :: ds) o R = take8 ds (o ++ [val ((R ++ bits5 v).take 8)]) ((R ++ bits5 v).drop 8) := fun ds => by rw [take8, if_pos h8]
          simp only [e9]
        · rw [if_neg (by omega)]
          rw [ih k _ _ (i + 1) (by omega) (by omega) hL (by omega) (by omega)]
          have e9 : ∀ ds, take8 (v :: ds) o R = take8 ds o (R ++ bits5 v) := fun ds => by rw [take8, if_neg h8]
          simp only [e9]
    · exact read_end s k o R i hi
theorem read_is (s : ByteArray) (hs : s.size ≤ 1000000) (k : Nat) (hk : s.size + 1 < k) : spell_Read.f k s = some (readOf (bs s)) := by
  unfold spell_Read.f
  have h := read_all s hs s.size k [] [] 0 (by omega) hk (by intro b h; simp at h) (by simp) (by simp; omega)
  rw [show spell_Read.l0 k s [] 0 0 s.size 0 = spell_Read.l0 k s [] (val []) (([] : List Int).length : Nat) s.size ((0 : Nat) : Int) from rfl, h]
  unfold readOf finR
  rw [List.drop_zero]
  cases digits (bs s) <;> rfl
end Go.Proofs.YtgljicdpcapgnaaDoor.Sp
set_option linter.unusedVariables false
set_option linter.unusedSimpArgs false
namespace Go.Proofs.YtgljicdpcapgnaaDoor.Sp
open Go.RowKit Go.Proofs.YtgljicdpcapgnaaDoor.PBase Go.Proofs.YtgljicdpcapgnaaDoorW.PrintWords Go.Proofs.YtgljicdpcapgnaaDoorW.PrintLast Go.Proofs.YtgljicdpcapgnaaDoorW.PrintMore
def finS (s : ByteArray) (o : List Int) : List Int × Int := if enc (bitsOf o) = s.data.toList then (o, 0) else ([], 40)
theorem map_nat_inj {a b : List UInt8} (h : a.map (fun c => (c.toNat : Int)) = b.map (fun c => (c.toNat : Int))) : a = b := by
  induction a generalizing b with
  | nil => cases b with
    | nil => rfl
    | cons _ _ => simp at h
  | cons x a ih => cases b with
    | nil => simp at h
    | cons y b =>
      simp only [List.map_cons, List.cons.injEq] at h
      rw [ih h.2]
      congr 1
      exact UInt8.toNat_inj.1 (by omega)
theorem readOf_ref (s : ByteArray) : ((digits (bs s)).elim ([], 40) fun ds => finS s (take8 ds [] []).1) = readOf (bs s) := by
  unfold readOf
  cases h : digits (bs s) with
  | none => rfl
  | some ds =>
    have hb := read_back h
    have hm := (digits_of h).2.1
    have e : s.data.toList = ds.map sg := map_nat_inj (by rw [List.map_map]; exact hm.symm)
    show finS s (take8 ds [] []).1 = _
    unfold finS
    rw [e]
    by_cases hc : enc (bitsOf (take8 ds [] []).1) = ds.map sg
    · obtain ⟨h1, h2⟩ := hb.1 hc
      rw [if_pos hc]
      show _ = if 5 ≤ (take8 ds [] []).2.length then _ else _
      rw [if_neg (by omega), if_pos h2]
    · rw [if_neg hc]
      show _ = if 5 ≤ (take8 ds [] []).2.length then _ else _
      by_cases h1 : 5 ≤ (take8 ds [] []).2.length
      · rw [if_pos h1]
      · rw [if_neg h1]
        by_cases h2 : val (take8 ds [] []).2 = 0
        · exact absurd (hb.2 ⟨by omega, h2⟩) hc
        · rw [if_neg h2]
theorem readOf_ok (s : ByteArray) (h : (readOf (bs s)).2 = 0) : enc (bitsOf (readOf (bs s)).1) = s.data.toList ∧ Bytes (readOf (bs s)).1 ∧ (readOf (bs s)).1.length ≤ s.size := by
  rw [← readOf_ref] at h ⊢
  cases hd : digits (bs s) with
  | none => rw [hd] at h; cases h
  | some ds =>
    rw [hd] at h
    have h' : (finS s (take8 ds [] []).1).2 = 0 := h
    show enc (bitsOf (finS s (take8 ds [] []).1).1) = _ ∧ Bytes (finS s (take8 ds [] []).1).1 ∧ (finS s (take8 ds [] []).1).1.length ≤ _
    unfold finS at h' ⊢
    split at h'
    · rename_i hc
      obtain ⟨t1, t2, t3, t4, t5⟩ := take8_spec ds [] [] (by intro b h; simp at h) (by simp) (by intro b h; simp at h)
      rw [if_pos hc]
      have := (digits_of hd).2.2
      rw [bs_length] at this
      exact ⟨hc, t4, by simp at t5; show (take8 ds [] []).1.length ≤ _; omega⟩
    · cases h'
theorem readOf_code (l : List Int) : (readOf l).2 = 0 ∨ (readOf l).2 = 40 := by
  unfold readOf
  cases digits l with
  | none => exact .inr rfl
  | some ds =>
    have key : ∀ p : List Int × List Int, (finR p).2 = 0 ∨ (finR p).2 = 40 := by
      intro p
      unfold finR
      split
      · exact .inr rfl
      · split
        · exact .inl rfl
        · exact .inr rfl
    exact key (take8 ds [] [])
theorem bytes_of_wf {l : List Int} (h : ∀ x ∈ l, (Lit.int .u8 x).wf = true) : Bytes l := fun x hx => by
  have := h x hx
  simpa [Lit.wf, IntKind.min, IntKind.max, IntKind.signed, IntKind.bits] using this
end Go.Proofs.YtgljicdpcapgnaaDoor.Sp
set_option linter.unusedVariables false
set_option linter.unusedSimpArgs false
namespace Go.Proofs.YtgljicdpcapgnaaDoor.Sh
def rot (v : Int) (n : Nat) : Int := bits .or .u32 (IntKind.u32.wrap (v * 2 ^ (32 - n))) (v / 2 ^ n)
def m32 (x : Int) : Int := x % 4294967296
def s0 (a : Int) : Int := bits .xor .u32 (bits .xor .u32 (rot a 7) (rot a 18)) (a / 8)
def s1 (b : Int) : Int := bits .xor .u32 (bits .xor .u32 (rot b 17) (rot b 19)) (b / 1024)
def keys : List Int := [
  0x428a2f98, 0x71374491, 0xb5c0fbcf, 0xe9b5dba5, 0x3956c25b, 0x59f111f1, 0x923f82a4, 0xab1c5ed5,
  0xd807aa98, 0x12835b01, 0x243185be, 0x550c7dc3, 0x72be5d74, 0x80deb1fe, 0x9bdc06a7, 0xc19bf174,
  0xe49b69c1, 0xefbe4786, 0x0fc19dc6, 0x240ca1cc, 0x2de92c6f, 0x4a7484aa, 0x5cb0a9dc, 0x76f988da,
  0x983e5152, 0xa831c66d, 0xb00327c8, 0xbf597fc7, 0xc6e00bf3, 0xd5a79147, 0x06ca6351, 0x14292967,
  0x27b70a85, 0x2e1b2138, 0x4d2c6dfc, 0x53380d13, 0x650a7354, 0x766a0abb, 0x81c2c92e, 0x92722c85,
  0xa2bfe8a1, 0xa81a664b, 0xc24b8b70, 0xc76c51a3, 0xd192e819, 0xd6990624, 0xf40e3585, 0x106aa070,
  0x19a4c116, 0x1e376c08, 0x2748774c, 0x34b0bcb5, 0x391c0cb3, 0x4ed8aa4a, 0x5b9cca4f, 0x682e6ff3,
  0x748f82ee, 0x78a5636f, 0x84c87814, 0x8cc70208, 0x90befffa, 0xa4506ceb, 0xbef9a3f7, 0xc67178f2]
def st0 : List Int := [0x6a09e667, 0xbb67ae85, 0x3c6ef372, 0xa54ff53a, 0x510e527f, 0x9b05688c, 0x1f83d9ab, 0x5be0cd19]
def four (p : List Int) (t : Nat) : Int := p.getD (4 * t) 0 * 16777216 + p.getD (4 * t + 1) 0 * 65536 + p.getD (4 * t + 2) 0 * 256 + p.getD (4 * t + 3) 0
def next (w : List Int) (t : Nat) : Int := m32 (m32 (m32 (w.getD (t - 16) 0 + s0 (w.getD (t - 15) 0)) + w.getD (t - 7) 0) + s1 (w.getD (t - 2) 0))
def words (p : List Int) : Nat → List Int
  | 0 => []
  | t + 1 => words p t ++ [if t < 16 then four p t else next (words p t) t]
def big1 (e : Int) : Int := bits .xor .u32 (bits .xor .u32 (rot e 6) (rot e 11)) (rot e 25)
def big0 (a : Int) : Int := bits .xor .u32 (bits .xor .u32 (rot a 2) (rot a 13)) (rot a 22)
def ch (e f g : Int) : Int := bits .xor .u32 (bits .and .u32 e f) (bits .andNot .u32 g e)
def maj (a b c : Int) : Int := bits .xor .u32 (bits .xor .u32 (bits .and .u32 a b) (bits .and .u32 a c)) (bits .and .u32 b c)
structure V where
  (a b c d e f g h : Int)
def V.x (v : V) (k w : Int) : Int := m32 (m32 (m32 (m32 (v.h + big1 v.e) + ch v.e v.f v.g) + k) + w)
def V.y (v : V) : Int := m32 (big0 v.a + maj v.a v.b v.c)
def V.rnd (v : V) (k w : Int) : V := ⟨m32 (v.x k w + v.y), v.a, v.b, v.c, m32 (v.d + v.x k w), v.e, v.f, v.g⟩
def V.list (v : V) : List Int := [v.a, v.b, v.c, v.d, v.e, v.f, v.g, v.h]
def V.add (v s : V) : V := ⟨m32 (s.a + v.a), m32 (s.b + v.b), m32 (s.c + v.c), m32 (s.d + v.d), m32 (s.e + v.e), m32 (s.f + v.f), m32 (s.g + v.g), m32 (s.h + v.h)⟩
def v0 : V := ⟨0x6a09e667, 0xbb67ae85, 0x3c6ef372, 0xa54ff53a, 0x510e527f, 0x9b05688c, 0x1f83d9ab, 0x5be0cd19⟩
def rounds (ws : List Int) (v : V) : Nat → V
  | 0 => v
  | t + 1 => (rounds ws v t).rnd (keys.getD t 0) (ws.getD t 0)
def comp (s : V) (p : List Int) : V := (rounds (words p 64) s 64).add s
def feed (bs : List Int) : Nat → V
  | 0 => v0
  | k + 1 => comp (feed bs k) ((bs.drop (64 * k)).take 64)
def state (bs : List Int) : V := feed bs (bs.length / 64)
def tail (bs : List Int) : List Int := bs.drop (64 * (bs.length / 64))
def be8 (x : Int) : List Int := (List.range 8).map fun i => x / 2 ^ (56 - 8 * i) % 256
def zeros (n : Nat) : Nat := (119 - n % 64) % 64
def padded (bs : List Int) : List Int := bs ++ [128] ++ List.replicate (zeros bs.length) 0 ++ be8 (bs.length * 8)
def outs (s : V) : List Int := (List.range 32).map fun i => s.list.getD (i / 4) 0 / 2 ^ (24 - i % 4 * 8) % 256
def dig (bs : List Int) : List Int := outs (state (padded bs))
abbrev Bytes (l : List Int) : Prop := ∀ x ∈ l, 0 ≤ x ∧ x ≤ 255
theorem words_length (p : List Int) (t : Nat) : (words p t).length = t := by
  induction t with
  | zero => rfl
  | succ t ih => simp [words, ih]
theorem words_prefix (p : List Int) (t k : Nat) (h : t ≤ k) : (words p k).take t = words p t := by
  induction k with
  | zero => obtain rfl : t = 0 := by omega
            rfl
  | succ k ih =>
    by_cases ht : t = k + 1
    · subst ht
      rw [List.take_of_length_le (by rw [words_length]; exact Nat.le_refl _)]
    · rw [words, List.take_append_of_le_length (by rw [words_length]; omega), ih (by omega)]
theorem words_at (p : List Int) (t k i : Nat) (h : t ≤ k) (hi : i < t) : (words p k).getD i 0 = (words p t).getD i 0 := by
  rw [← words_prefix p t k h, List.getD_eq_getElem?_getD, List.getD_eq_getElem?_getD, List.getElem?_take, if_pos hi]
theorem feed_app (bs c : List Int) (k : Nat) (h : 64 * k ≤ bs.length) : feed (bs ++ c) k = feed bs k := by
  induction k with
  | zero => rfl
  | succ k ih =>
    rw [feed, feed, ih (by omega), List.drop_append_of_le_length (by omega), List.take_append_of_le_length (by rw [List.length_drop]; omega)]
theorem tail_length (bs : List Int) : (tail bs).length = bs.length % 64 := by
  rw [tail, List.length_drop]; omega
theorem state_full (bs c : List Int) (h : bs.length % 64 + c.length = 64) : state (bs ++ c) = comp (state bs) (tail bs ++ c) ∧ tail (bs ++ c) = [] := by
  have e : (bs ++ c).length / 64 = bs.length / 64 + 1 := by rw [List.length_append]; omega
  constructor
  · unfold state
    rw [e, feed, feed_app _ _ _ (by omega), List.drop_append_of_le_length (by omega)]
    congr 1
    rw [List.take_of_length_le]
    · rfl
    · rw [List.length_append, List.length_drop]; omega
  · unfold tail
    rw [e]
    exact List.drop_of_length_le (by rw [List.length_append]; omega)
theorem state_part (bs c : List Int) (h : bs.length % 64 + c.length < 64) : state (bs ++ c) = state bs ∧ tail (bs ++ c) = tail bs ++ c := by
  have e : (bs ++ c).length / 64 = bs.length / 64 := by rw [List.length_append]; omega
  constructor
  · unfold state
    rw [e, feed_app _ _ _ (by omega)]
  · unfold tail
    rw [e, List.drop_append_of_le_length (by omega)]
theorem list_length (v : V) : v.list.length = 8 := rfl
theorem be8_length (x : Int) : (be8 x).length = 8 := by simp [be8]
theorem outs_length (s : V) : (outs s).length = 32 := by simp [outs]
end Go.Proofs.YtgljicdpcapgnaaDoor.Sh
set_option linter.unusedVariables false
set_option linter.unusedSimpArgs false
namespace Go.Proofs.YtgljicdpcapgnaaDoor
open Go.RowKit Go.Proofs.YtgljicdpcapgnaaDoorW.PrintWords
namespace Sh
def u32s (l : List Int) : Array Value := (l.map (Value.int .u32)).toArray
def hc (s p : List Int) (n : Int) : Array Value := (s.map (Value.int .u32) ++ p.map (Value.int .u8) ++ [Value.int .u64 n]).toArray
theorem hc_sum (s p : List Int) (n : Int) (i : Nat) (hs : i < s.length) : (hc s p n)[i]? = some (.int .u32 (s.getD i 0)) := by
  simp [hc, List.getElem?_append, hs, List.getD_eq_getElem?_getD, List.getElem?_eq_getElem hs]
theorem hc_rest (s p : List Int) (n : Int) (i : Nat) (hs : i < p.length) : (hc s p n)[s.length + i]? = some (.int .u8 (p.getD i 0)) := by
  simp [hc, List.getElem?_append, hs, List.getD_eq_getElem?_getD, List.getElem?_eq_getElem hs]
theorem hc_rest' (s : V) (p : List Int) (n : Int) (i : Nat) {o : Nat} (ho : o = 8) (hs : i < p.length) : (hc s.list p n)[o + i]? = some (.int .u8 (p.getD i 0)) := by
  subst ho
  exact hc_rest s.list p n i hs
theorem u32s_at (l : List Int) (i : Nat) (h : i < l.length) : (u32s l)[i]? = some (.int .u32 (l.getD i 0)) := by
  simp [u32s, List.getD_eq_getElem?_getD, List.getElem?_eq_getElem h]
theorem hc_n (s p : List Int) (n : Int) : (hc s p n)[s.length + p.length]? = some (.int .u64 n) := by
  simp [hc, List.getElem?_append]
theorem cellAt {w : World} {b : Nat} {C : Array Value} {t : TypeId} {fr : Nat × Nat} (h : w.heap[b]? = some (.cells C t fr)) (i : Nat) (v : Value) (hv : C[i]? = some v) : w.cell? ⟨b, i, none⟩ = some v := by
  unfold World.cell?
  rw [h]
  exact hv
theorem frozenAt {w : World} {b : Nat} {C : Array Value} {t : TypeId} (h : w.heap[b]? = some (.cells C t (0, 0))) (i : Nat) : w.frozen? ⟨b, i, none⟩ = false := by
  unfold World.frozen?
  rw [h]
  simp
theorem gb_refl (w : World) (r : Option Nat) : w.grownBy w r := ⟨rfl, rfl, rfl, Nat.le_refl _, fun _ _ _ => rfl⟩
theorem gb_trans {a b c : World} {r : Option Nat} (h : a.grownBy b r) (k : b.grownBy c r) : a.grownBy c r :=
  ⟨k.os.trans h.os, k.tape.trans h.tape, k.output.trans h.output, Nat.le_trans h.size k.size, fun i hi hr => (k.block i (Nat.lt_of_lt_of_le hi h.size) hr).trans (h.block i hi hr)⟩
theorem gb_below {a b c : World} {r : Option Nat} (h : a.grownBy b r) (k : Below a.heap.size b c) : a.grownBy c r :=
  ⟨k.os.trans h.os, k.tape.trans h.tape, k.output.trans h.output, Nat.le_trans h.size k.size, fun i hi hr => (k.block i hi).trans (h.block i hi hr)⟩
theorem gb_of_below {a b : World} {r : Option Nat} (k : Below a.heap.size a b) : a.grownBy b r := gb_below (gb_refl a r) k
theorem gb_set {a b : World} {k : Nat} (h : a.grownBy b (some k)) (i : Nat) (v : Value) : a.grownBy (b.setCell ⟨k, i, none⟩ v) (some k) := by
  refine gb_trans h ⟨rfl, rfl, rfl, ?_, fun j hj hr => Below.heap_setCell _ _ _ _ (fun e => hr (by rw [e]))⟩
  exact ((Below.refl 0 b).setCell (p := ⟨k, i, none⟩) (Nat.zero_le _) v).size
theorem row_set {w : World} {b : Nat} {C : Array Value} {t : TypeId} (h : w.heap[b]? = some (.cells C t (0, 0))) (i : Nat) (v : Value) : (w.setCell ⟨b, i, none⟩ v).heap[b]? = some (.cells (C.setIfInBounds i v) t (0, 0)) :=
  heap_setCell_same w b i C t v h
theorem row_far {w : World} {b : Nat} {o : Obj} (h : w.heap[b]? = some o) (k : Nat) (hk : b ≠ k) (i : Nat) (v : Value) : (w.setCell ⟨k, i, none⟩ v).heap[b]? = some o :=
  (Below.heap_setCell _ _ _ _ hk).trans h
theorem ror_7 (v : Int) : PBase.sha_ror.f v 7 = some (rot v 7) := by kernel_rfl
theorem ror_18 (v : Int) : PBase.sha_ror.f v 18 = some (rot v 18) := by kernel_rfl
theorem ror_17 (v : Int) : PBase.sha_ror.f v 17 = some (rot v 17) := by kernel_rfl
theorem ror_19 (v : Int) : PBase.sha_ror.f v 19 = some (rot v 19) := by kernel_rfl
theorem ror_6 (v : Int) : PBase.sha_ror.f v 6 = some (rot v 6) := by kernel_rfl
theorem ror_11 (v : Int) : PBase.sha_ror.f v 11 = some (rot v 11) := by kernel_rfl
theorem ror_25 (v : Int) : PBase.sha_ror.f v 25 = some (rot v 25) := by kernel_rfl
theorem ror_2 (v : Int) : PBase.sha_ror.f v 2 = some (rot v 2) := by kernel_rfl
theorem ror_13 (v : Int) : PBase.sha_ror.f v 13 = some (rot v 13) := by kernel_rfl
theorem ror_22 (v : Int) : PBase.sha_ror.f v 22 = some (rot v 22) := by kernel_rfl
theorem reads_at {w : World} {b o : Nat} {C : Array Value} {e : TypeId} {fr : Nat × Nat} (h : w.heap[b]? = some (.cells C e fr)) (k : IntKind) (xs : List Int) (hC : ∀ j, j < xs.length → C[o + j]? = some (.int k (xs.getD j 0))) (hl : xs.length ≤ 9223372036854775807) : Kd.C (Kd.int k) w (some ⟨b, o, none⟩) xs.length xs := by
  refine Kd.C_of_reads (d := 0) ⟨rfl, hl, fun hn => ⟨_, rfl, fun j hj => ?_⟩⟩
  have e1 : (⟨b, o, none⟩ : Addr).add j = ⟨b, o + j, none⟩ := by unfold Addr.add; split <;> simp_all
  rw [e1]
  unfold World.cell?
  rw [h]
  exact hC j hj
theorem slice_rest (b o : Nat) (k : IntKind) (i : Int) (l : Nat) (hi : i = l) (hl : l < 64) (W : World) :
    (Instr.sliceAt 121 (.pointer (some ⟨b, o, none⟩)) (some (.int k i)) none none).run Tryd.prog W = .ok (.slice (some ⟨b, o + l, none⟩) (64 - l) (64 - l)) W := by
  subst hi
  rw [run_sliceAt_array_l W 121 ⟨b, o, none⟩ (by kernel_rfl) k (l : Int) (by omega) (by rw [show Tryd.prog.arrayLen 121 = 64 by kernel_rfl]; omega)]
  rw [show Tryd.prog.arrayLen 121 = 64 by kernel_rfl, show Tryd.prog.elem 121 = 5 by kernel_rfl]
  rw [show (sizeOf 5).run Tryd.prog W = .ok 1 W by kernel_rfl]
  simp only [Result.andThen, slicedAt, Int.toNat_natCast]
  rw [if_neg (by omega)]
  congr 3
  unfold Addr.add
  simp
theorem four_is (p : List Int) (t : Nat) (hp : p.length = 64) (ht : t < 16) (hb : Bytes p) : PBase.sha_four.f (p.drop (4 * t)) = some (four p t) := by
  have hl : (p.drop (4 * t)).length = 64 - 4 * t := by rw [List.length_drop, hp]
  unfold PBase.sha_four.f
  rw [if_pos (by omega), if_pos (by omega), if_pos (by omega), if_pos (by omega)]
  have hr : ∀ j : Nat, j < 4 → rd (p.drop (4 * t)) j = p.getD (4 * t + j) 0 ∧ 0 ≤ p.getD (4 * t + j) 0 ∧ p.getD (4 * t + j) 0 ≤ 255 := by
    intro j hj
    have h1 : 4 * t + j < p.length := by omega
    have h2 : p.getD (4 * t + j) 0 = p[4 * t + j] := by rw [List.getD_eq_getElem?_getD, List.getElem?_eq_getElem h1]; rfl
    refine ⟨?_, ?_⟩
    · simp [rd, List.getD_eq_getElem?_getD]
    · rw [h2]; exact hb _ (List.getElem_mem h1)
  obtain ⟨e0, a0, b0⟩ := hr 0 (by decide)
  obtain ⟨e1, a1, b1⟩ := hr 1 (by decide)
  obtain ⟨e2, a2, b2⟩ := hr 2 (by decide)
  obtain ⟨e3, a3, b3⟩ := hr 3 (by decide)
  rw [show rd (p.drop (4 * t)) 0 = p.getD (4 * t + 0) 0 from e0, show rd (p.drop (4 * t)) 1 = p.getD (4 * t + 1) 0 from e1, show rd (p.drop (4 * t)) 2 = p.getD (4 * t + 2) 0 from e2, show rd (p.drop (4 * t)) 3 = p.getD (4 * t + 3) 0 from e3]
  unfold four
  rw [Nat.add_zero] at *
  generalize p.getD (4 * t) 0 = x0 at *
  generalize p.getD (4 * t + 1) 0 = x1 at *
  generalize p.getD (4 * t + 2) 0 = x2 at *
  generalize p.getD (4 * t + 3) 0 = x3 at *
  rw [show x0 % 4294967296 * 16777216 % 4294967296 = x0 * 16777216 by omega, show x1 % 4294967296 * 65536 % 4294967296 = x1 * 65536 by omega, show x2 % 4294967296 * 256 % 4294967296 = x2 * 256 by omega, show x3 % 4294967296 = x3 by omega]
  rw [Bt.or_u32 24 (x0 * 16777216) (x1 * 65536) (by omega) (by omega) (by omega) (by omega) (by omega) (by omega)]
  rw [Bt.or_u32 16 (x0 * 16777216 + x1 * 65536) (x2 * 256) (by omega) (by omega) (by omega) (by omega) (by omega) (by omega)]
  rw [Bt.or_u32 8 (x0 * 16777216 + x1 * 65536 + x2 * 256) x3 (by omega) (by omega) (by omega) (by omega) (by omega) (by omega)]
end Sh
theorem sha_ror.quiet (v : Int) (n r : Int) (w : World) (h : PBase.sha_ror.f v n = some r) :
    Calls Tryd.prog 89 #[.int .u32 v, .int .i64 n] w fun e w' => e = .returned (.int .u32 r) ∧ ∃ m, w' = w.drewN m := (PBase.sha_ror.calls v n r w h).mono fun _ _ ⟨he, hd⟩ => ⟨he, hd.out⟩
end Go.Proofs.YtgljicdpcapgnaaDoor
set_option linter.unusedVariables false
set_option linter.unusedSimpArgs false
namespace Go.Proofs.YtgljicdpcapgnaaDoor
open Go.RowKit Go.Proofs.YtgljicdpcapgnaaDoorW.PrintWords Go.Proofs.YtgljicdpcapgnaaDoorW.PrintLast
namespace Sh
structure Mx (w : World) (hb : Nat) (C : Array Value) (p : List Int) (t : Nat) (B : Array Value) (ws : List Int) (wr : World) : Prop where
  h : wr.heap[hb]? = some (.cells C 138 (0, 0))
  bw : wr.heap[w.heap.size]? = some (.cells (u32s ws) 157 (0, 0))
  bv : wr.heap[w.heap.size + 1]? = some (.cells B 136 (0, 0))
  ks : ∀ i, i < 64 → wr.cell? ⟨0, i, none⟩ = some (.int .u32 (keys.getD i 0))
  g : Below w.heap.size w wr
  len : ws.length = 64
  wt : ws.take t = words p t
  lt : hb < w.heap.size
  hb0 : hb ≠ 0
theorem u32s_set (l : List Int) (i : Nat) (x : Int) : (u32s l).setIfInBounds i (.int .u32 x) = u32s (l.set i x) := by
  simp [u32s, List.map_set]
theorem quiet_then {P : Program} {f : FuncId} {args : Array Value} {W : World} {k a : Nat} {v : Value}
    (h : Calls P f args (W.drewN (k + a)) fun e w' => e = .returned v ∧ ∃ m, w' = (W.drewN (k + a)).drewN m) : Calls P f args (W.drewN (k + a)) fun e w'' => e = .returned v ∧ ∃ n, w'' = W.drewN (k + n) :=
  h.mono fun _ _ ⟨he, m, hm⟩ => ⟨he, a + m, by rw [hm, World.drewN_drewN, Nat.add_assoc]⟩
theorem getD_set_here (l : List Int) (i : Nat) (x : Int) (h : i < (l.set i x).length) : (l.set i x).getD i 0 = x := by
  rw [List.length_set] at h
  simp [List.getD_eq_getElem?_getD, List.getElem?_set, h]
theorem u32s_here (l : List Int) (i : Nat) (x : Int) (h : i < (l.set i x).length) : (u32s (l.set i x))[i]? = some (.int .u32 x) := by
  rw [u32s_at _ _ h]
  rw [List.length_set] at h
  simp [List.getD_eq_getElem?_getD, List.getElem?_set, h]
theorem Mx.drewN {w : World} {hb : Nat} {C : Array Value} {p : List Int} {t : Nat} {B : Array Value} {ws : List Int} {wr : World} (h : Mx w hb C p t B ws wr) (m : Nat) : Mx w hb C p t B ws (wr.drewN m) :=
  ⟨h.h, h.bw, h.bv, h.ks, ⟨h.g.os, h.g.tape, h.g.output, h.g.size, h.g.block⟩, h.len, h.wt, h.lt, h.hb0⟩
theorem Mx.drew {w : World} {hb : Nat} {C : Array Value} {p : List Int} {t : Nat} {B : Array Value} {ws : List Int} {wr : World} (h : Mx w hb C p t B ws wr) : Mx w hb C p t B ws wr.drew :=
  ⟨h.h, h.bw, h.bv, h.ks, ⟨h.g.os, h.g.tape, h.g.output, h.g.size, h.g.block⟩, h.len, h.wt, h.lt, h.hb0⟩
theorem Mx.far {w : World} {hb : Nat} {C : Array Value} {p : List Int} {t : Nat} {B : Array Value} {ws : List Int} {wr : World} (h : Mx w hb C p t B ws wr) (k i : Nat) (v : Value) (hk : w.heap.size ≤ k) : (wr.setCell ⟨k, i, none⟩ v).heap[hb]? = some (.cells C 138 (0, 0)) ∧ (∀ j, j < 64 → (wr.setCell ⟨k, i, none⟩ v).cell? ⟨0, j, none⟩ = some (.int .u32 (keys.getD j 0))) ∧ Below w.heap.size w (wr.setCell ⟨k, i, none⟩ v) := by
  refine ⟨row_far h.h k (by have := h.lt; omega) i v, fun j hj => ?_, h.g.setCell (p := ⟨k, i, none⟩) hk v⟩
  exact (World.cell?_of_block (Below.heap_setCell _ _ _ _ (by show 0 ≠ k; have := h.lt; omega))).trans (h.ks j hj)
theorem Mx.word {w : World} {hb : Nat} {C : Array Value} {p : List Int} {t : Nat} {B : Array Value} {ws : List Int} {wr : World} (h : Mx w hb C p t B ws wr) (ht : t < 64) (x : Int) (hx : x = if t < 16 then four p t else next (words p t) t) : Mx w hb C p (t + 1) B (ws.set t x) (wr.setCell ⟨w.heap.size, t, none⟩ (.int .u32 x)) := by
  obtain ⟨f1, f2, f3⟩ := h.far w.heap.size t (.int .u32 x) (Nat.le_refl _)
  refine ⟨f1, ?_, row_far h.bv _ (by omega) _ _, f2, f3, by rw [List.length_set]; exact h.len, ?_, h.lt, h.hb0⟩
  · rw [row_set h.bw, u32s_set]
  · rw [words, ← hx, ← h.wt, List.take_add_one, List.take_set_of_le (Nat.le_refl t)]
    simp [h.len, ht]
theorem set8 (a b c d e f g h x0 x1 x2 x3 x4 x5 x6 x7 : Int) : ((((((((u32s [a, b, c, d, e, f, g, h]).setIfInBounds 0 (.int .u32 x0)).setIfInBounds 1 (.int .u32 x1)).setIfInBounds 2 (.int .u32 x2)).setIfInBounds 3 (.int .u32 x3)).setIfInBounds 4 (.int .u32 x4)).setIfInBounds 5 (.int .u32 x5)).setIfInBounds 6 (.int .u32 x6)).setIfInBounds 7 (.int .u32 x7) = u32s [x0, x1, x2, x3, x4, x5, x6, x7] := by simp [u32s]
theorem Mx.vset {w : World} {hb : Nat} {C : Array Value} {p : List Int} {t : Nat} {B : Array Value} {ws : List Int} {wr : World} (h : Mx w hb C p t B ws wr) (i : Nat) (v : Value) : Mx w hb C p t (B.setIfInBounds i v) ws (wr.setCell ⟨w.heap.size + 1, i, none⟩ v) := by
  obtain ⟨f1, f2, f3⟩ := h.far (w.heap.size + 1) i v (Nat.le_succ _)
  exact ⟨f1, row_far h.bw _ (by omega) _ _, row_set h.bv i v, f2, f3, h.len, h.wt, h.lt, h.hb0⟩
theorem Mx.vec {w : World} {hb : Nat} {C : Array Value} {p : List Int} {s : V} {t : Nat} {v : V} {ws : List Int} {W : World} (h : Mx w hb C p (t + 1) (u32s v.list) ws W) (hv : rounds (words p 64) s t = v) (ht : t < 64) (kx x xa xe : Int) (hk : keys.getD t 0 = kx) (hx : ws.getD t 0 = x)
    (ha : xa = (v.rnd kx x).a) (he : xe = (v.rnd kx x).e) :
    Mx w hb C p (t + 1) (u32s (rounds (words p 64) s (t + 1)).list) ws ((((((((W.setCell ⟨w.heap.size + 1, 0, none⟩ (.int .u32 xa)).setCell ⟨w.heap.size + 1, 1, none⟩ (.int .u32 v.a)).setCell ⟨w.heap.size + 1, 2, none⟩ (.int .u32 v.b)).setCell ⟨w.heap.size + 1, 3, none⟩ (.int .u32 v.c)).setCell ⟨w.heap.size + 1, 4, none⟩ (.int .u32 xe)).setCell ⟨w.heap.size + 1, 5, none⟩ (.int .u32 v.e)).setCell ⟨w.heap.size + 1, 6, none⟩ (.int .u32 v.f)).setCell ⟨w.heap.size + 1, 7, none⟩ (.int .u32 v.g)) := by
  have hx2 : (words p 64).getD t 0 = x := by
    rw [words_at p (t + 1) 64 t (by omega) (by omega), ← h.wt, ← hx, List.getD_eq_getElem?_getD, List.getD_eq_getElem?_getD, List.getElem?_take, if_pos (by omega)]
  have e : rounds (words p 64) s (t + 1) = v.rnd kx x := by
    rw [rounds, hv, hk, hx2]
  have h8 := (((((((Mx.vset (B := u32s [v.a, v.b, v.c, v.d, v.e, v.f, v.g, v.h]) h 0 (.int .u32 xa)).vset 1 (.int .u32 v.a)).vset 2 (.int .u32 v.b)).vset 3 (.int .u32 v.c)).vset 4 (.int .u32 xe)).vset 5 (.int .u32 v.e)).vset 6 (.int .u32 v.f)).vset 7 (.int .u32 v.g)
  rw [set8] at h8
  have e2 : (v.rnd kx x).list = [xa, v.a, v.b, v.c, xe, v.e, v.f, v.g] := by unfold V.list; rw [ha, he]; rfl
  rw [e, e2]
  exact h8
structure M2 (w : World) (hb : Nat) (C B : Array Value) (wr : World) : Prop where
  h : wr.heap[hb]? = some (.cells C 138 (0, 0))
  bv : wr.heap[w.heap.size + 1]? = some (.cells B 136 (0, 0))
  g : w.grownBy wr (some hb)
  lt : hb < w.heap.size
theorem M2.set {w : World} {hb : Nat} {C B : Array Value} {wr : World} (h : M2 w hb C B wr) (i : Nat) (v : Value) : M2 w hb (C.setIfInBounds i v) B (wr.drew.setCell ⟨hb, i, none⟩ v) :=
  ⟨row_set (w := wr.drew) h.h i v, row_far (w := wr.drew) h.bv hb (by have := h.lt; omega) i v, gb_set (b := wr.drew) ⟨h.g.os, h.g.tape, h.g.output, h.g.size, h.g.block⟩ i v, h.lt⟩
def some8 (v s : V) (k : Nat) : List Int := (v.add s).list.take k ++ s.list.drop k
theorem some8_length (v s : V) (k : Nat) (hk : k ≤ 8) : (some8 v s k).length = 8 := by
  unfold some8; rw [List.length_append, List.length_take, List.length_drop, list_length, list_length]; omega
theorem some8_at (v s : V) (k : Nat) (hk : k < 8) : (some8 v s k).getD k 0 = s.list.getD k 0 ∧ (some8 v s k).set k (IntKind.u32.wrap (s.list.getD k 0 + v.list.getD k 0)) = some8 v s (k + 1) := by
  rw [IntKind.wrap_u32]
  match k, hk with
  | 0, _ => exact ⟨rfl, rfl⟩
  | 1, _ => exact ⟨rfl, rfl⟩
  | 2, _ => exact ⟨rfl, rfl⟩
  | 3, _ => exact ⟨rfl, rfl⟩
  | 4, _ => exact ⟨rfl, rfl⟩
  | 5, _ => exact ⟨rfl, rfl⟩
  | 6, _ => exact ⟨rfl, rfl⟩
  | 7, _ => exact ⟨rfl, rfl⟩
theorem hc_set (s p : List Int) (n : Int) (i : Nat) (x : Int) (h : i < s.length) : (hc s p n).setIfInBounds i (.int .u32 x) = hc (s.set i x) p n := by
  simp [hc, List.map_set, List.set_append, h]
end Sh
set_option maxHeartbeats 2000000 in
set_option maxRecDepth 100000 in
theorem mix_.calls (hb : Nat) (s : Sh.V) (p : List Int) (n : Int) (w : World) (hp : p.length = 64) (hby : Sh.Bytes p) (hh : w.heap[hb]? = some (.cells (Sh.hc s.list p n) 138 (0, 0))) (hb0 : hb ≠ 0)
  (hk : ∀ i, i < 64 → w.cell? ⟨0, i, none⟩ = some (.int .u32 (Sh.keys.getD i 0))) :
  Calls Tryd.prog 73 #[.pointer (some ⟨hb, 0, none⟩)] w fun e w' => e = .returned (.tuple #[]) ∧ w'.heap[hb]? = some (.cells (Sh.hc (Sh.comp s p).list p n) 138 (0, 0)) ∧ w.grownBy w' (some hb) := by
 have HH := Aside0.mk hh
 have HK := Aside0.mk hk
 have hlt : hb < w.heap.size := (Array.getElem?_eq_some_iff.1 hh).1
 clear hh hk
 have c0 : w.cell? ⟨hb, 0, none⟩ = some (.int .u32 s.a) := Sh.cellAt HH.out 0 _ (Sh.hc_sum s.list p n 0 (by rw [Sh.list_length]; decide))
 have c1 : w.cell? ⟨hb, 1, none⟩ = some (.int .u32 s.b) := Sh.cellAt HH.out 1 _ (Sh.hc_sum s.list p n 1 (by rw [Sh.list_length]; decide))
 have c2 : w.cell? ⟨hb, 2, none⟩ = some (.int .u32 s.c) := Sh.cellAt HH.out 2 _ (Sh.hc_sum s.list p n 2 (by rw [Sh.list_length]; decide))
 have c3 : w.cell? ⟨hb, 3, none⟩ = some (.int .u32 s.d) := Sh.cellAt HH.out 3 _ (Sh.hc_sum s.list p n 3 (by rw [Sh.list_length]; decide))
 have c4 : w.cell? ⟨hb, 4, none⟩ = some (.int .u32 s.e) := Sh.cellAt HH.out 4 _ (Sh.hc_sum s.list p n 4 (by rw [Sh.list_length]; decide))
 have c5 : w.cell? ⟨hb, 5, none⟩ = some (.int .u32 s.f) := Sh.cellAt HH.out 5 _ (Sh.hc_sum s.list p n 5 (by rw [Sh.list_length]; decide))
 have c6 : w.cell? ⟨hb, 6, none⟩ = some (.int .u32 s.g) := Sh.cellAt HH.out 6 _ (Sh.hc_sum s.list p n 6 (by rw [Sh.list_length]; decide))
 have c7 : w.cell? ⟨hb, 7, none⟩ = some (.int .u32 s.h) := Sh.cellAt HH.out 7 _ (Sh.hc_sum s.list p n 7 (by rw [Sh.list_length]; decide))
 go_enter Tryd.func73, Tryd.ntmps73
 go_wp2_with fail
 clear c0 c1 c2 c3 c4 c5 c6 c7
 go_loopw [16] (fun v16 wr => ∃ (t : Nat) (ws : List Int), v16 = .int .i64 t ∧ t ≤ 64 ∧ Aside0 (Sh.Mx w hb (Sh.hc s.list p n) p t (Sh.u32s (Sh.rounds (Sh.words p 64) s t).list) ws wr)) (fun i _ => 64 - (intOf i).toNat)
 case atStart =>
  refine ⟨0, List.replicate 64 0, rfl, by omega, ⟨?_⟩⟩
  refine ⟨?_, ?_, ?_, ?_, ?_, rfl, rfl, hlt, hb0⟩
  ·exact (Below.heap_alloc _ _ _ (by show hb < (w.heap.push _).size; simp; omega)).trans ((Below.heap_alloc _ _ _ hlt).trans HH.out)
  ·refine (Below.heap_alloc _ _ _ (by show w.heap.size < (w.heap.push _).size; simp)).trans ?_
   exact heap_alloc_new _ _
  ·have := heap_alloc_new (w.alloc (.cells (Sh.u32s (List.replicate 64 0)) 157)) (.cells (Sh.u32s s.list) 136)
   have e : (w.alloc (.cells (Sh.u32s (List.replicate 64 0)) 157)).heap.size = w.heap.size + 1 := by show (w.heap.push _).size = _; simp
   rw [e] at this
   exact this
  ·intro i hi
   exact (((below_alloc (below_alloc (Below.refl _ _) _) _).cell (World.block_lt_of_cell? w _ (HK.out i hi)))).trans (HK.out i hi)
  ·exact below_alloc (below_alloc (Below.refl _ _) _) _
 case round =>
  obtain ⟨t, ws, rfl, ht, HM⟩ := hrel
  by_cases hlt : t < 64
  ·by_cases h16 : t < 16
   ·have hs := Sh.slice_rest hb 8 .i64 (4 * (t : Int)) (4 * t) (by omega) (by omega)
    have hlen : (p.drop (4 * t)).length = 64 - 4 * t := by rw [List.length_drop, hp]
    have HC := Aside0.mk (Sh.reads_at (o := 8 + 4 * t) HM.out.h .u8 (p.drop (4 * t)) (fun j hj => by rw [hlen] at hj; rw [Nat.add_assoc, Sh.hc_rest' _ _ _ _ rfl (by omega)]; simp [List.getD_eq_getElem?_getD]) (by omega))
    have HF := PBase.sha_four.calls (some ⟨hb, 8 + 4 * t, none⟩) (64 - 4 * t) (p.drop (4 * t)) (Sh.four p t) wr HC.out (by omega) (Sh.four_is p t hp h16 hby)
    rw [hlen] at HF
    have HF' := Aside0.mk HF
    clear HF HC
    have ct : wr.cell? ⟨w.heap.size, t, none⟩ = some (.int .u32 (ws.getD t 0)) := Sh.cellAt HM.out.bw _ _ (Sh.u32s_at _ _ (by rw [HM.out.len]; omega))
    have cf : wr.frozen? ⟨w.heap.size, t, none⟩ = false := Sh.frozenAt HM.out.bw t
    go_wp2_with fail
    refine HF'.out.mono ?_
    rintro e w1 ⟨rfl, hd⟩
    obtain ⟨m, rfl⟩ := hd.out
    clear hd HF'
    have HM2 := Aside0.mk (Sh.Mx.word (HM.out.drewN m) hlt (Sh.four p t) (by rw [if_pos h16]))
    go_wp2_with fail
    generalize Sh.four p t = x at *
    generalize (wr.drewN m).setCell ⟨w.heap.size, t, none⟩ (.int .u32 x) = W at *
    clear ct cf hs
    obtain ⟨v, HV⟩ : ∃ v, Aside0 (Sh.rounds (Sh.words p 64) s t = v) := ⟨_, ⟨rfl⟩⟩
    obtain ⟨kx, HKX⟩ : ∃ k, Aside0 (Sh.keys.getD t 0 = k) := ⟨_, ⟨rfl⟩⟩
    have b0 : W.cell? ⟨w.heap.size + 1, 0, none⟩ = some (.int .u32 v.a) := Sh.cellAt HM2.out.bv 0 _ (by rw [HV.out]; rfl)
    have b1 : W.cell? ⟨w.heap.size + 1, 1, none⟩ = some (.int .u32 v.b) := Sh.cellAt HM2.out.bv 1 _ (by rw [HV.out]; rfl)
    have b2 : W.cell? ⟨w.heap.size + 1, 2, none⟩ = some (.int .u32 v.c) := Sh.cellAt HM2.out.bv 2 _ (by rw [HV.out]; rfl)
    have b3 : W.cell? ⟨w.heap.size + 1, 3, none⟩ = some (.int .u32 v.d) := Sh.cellAt HM2.out.bv 3 _ (by rw [HV.out]; rfl)
    have b4 : W.cell? ⟨w.heap.size + 1, 4, none⟩ = some (.int .u32 v.e) := Sh.cellAt HM2.out.bv 4 _ (by rw [HV.out]; rfl)
    have b5 : W.cell? ⟨w.heap.size + 1, 5, none⟩ = some (.int .u32 v.f) := Sh.cellAt HM2.out.bv 5 _ (by rw [HV.out]; rfl)
    have b6 : W.cell? ⟨w.heap.size + 1, 6, none⟩ = some (.int .u32 v.g) := Sh.cellAt HM2.out.bv 6 _ (by rw [HV.out]; rfl)
    have b7 : W.cell? ⟨w.heap.size + 1, 7, none⟩ = some (.int .u32 v.h) := Sh.cellAt HM2.out.bv 7 _ (by rw [HV.out]; rfl)
    have f0 : W.frozen? ⟨w.heap.size + 1, 0, none⟩ = false := Sh.frozenAt HM2.out.bv 0
    have f1 : W.frozen? ⟨w.heap.size + 1, 1, none⟩ = false := Sh.frozenAt HM2.out.bv 1
    have f2 : W.frozen? ⟨w.heap.size + 1, 2, none⟩ = false := Sh.frozenAt HM2.out.bv 2
    have f3 : W.frozen? ⟨w.heap.size + 1, 3, none⟩ = false := Sh.frozenAt HM2.out.bv 3
    have f4 : W.frozen? ⟨w.heap.size + 1, 4, none⟩ = false := Sh.frozenAt HM2.out.bv 4
    have f5 : W.frozen? ⟨w.heap.size + 1, 5, none⟩ = false := Sh.frozenAt HM2.out.bv 5
    have f6 : W.frozen? ⟨w.heap.size + 1, 6, none⟩ = false := Sh.frozenAt HM2.out.bv 6
    have f7 : W.frozen? ⟨w.heap.size + 1, 7, none⟩ = false := Sh.frozenAt HM2.out.bv 7
    have bk : W.cell? ⟨0, t, none⟩ = some (.int .u32 kx) := by rw [← HKX.out]; exact HM2.out.ks t hlt
    have bx : W.cell? ⟨w.heap.size, t, none⟩ = some (.int .u32 x) := Sh.cellAt HM2.out.bw t _ (Sh.u32s_here ws t x (by rw [HM2.out.len]; exact hlt))
    go_wp2_with fail
    go_quiet (fail)
    go_wp2_with fail
    go_quiet (first | exact Sh.quiet_then (sha_ror.quiet _ _ _ _ (Sh.ror_6 _)) | exact Sh.quiet_then (sha_ror.quiet _ _ _ _ (Sh.ror_11 _)) | exact Sh.quiet_then (sha_ror.quiet _ _ _ _ (Sh.ror_25 _)))
    go_wp2_with fail
    go_quiet (first | exact Sh.quiet_then (sha_ror.quiet _ _ _ _ (Sh.ror_2 _)) | exact Sh.quiet_then (sha_ror.quiet _ _ _ _ (Sh.ror_13 _)) | exact Sh.quiet_then (sha_ror.quiet _ _ _ _ (Sh.ror_22 _)))
    go_wp2_with fail
    refine ⟨⟨t + 1, ws.set t x, rfl, by omega, ⟨?_⟩⟩, by simp [intOf]; omega⟩
    refine Sh.Mx.vec (s := s) (v := v) (HV.out ▸ HM2.out.drewN _) HV.out hlt kx x _ _ HKX.out ?_ ?_ ?_
    ·exact Sh.getD_set_here ws t x (by rw [HM2.out.len]; exact hlt)
    ·simp only [Sh.V.rnd, Sh.V.x, Sh.V.y, Sh.m32, Sh.big1, Sh.big0, Sh.ch, Sh.maj, Int.emod_add_emod, Int.add_emod_emod]
    ·simp only [Sh.V.rnd, Sh.V.x, Sh.V.y, Sh.m32, Sh.big1, Sh.big0, Sh.ch, Sh.maj, Int.emod_add_emod, Int.add_emod_emod]
   ·obtain ⟨a15, A15⟩ : ∃ a, Aside0 (a = t - 15) := ⟨_, ⟨rfl⟩⟩
    obtain ⟨a2, A2⟩ : ∃ a, Aside0 (a = t - 2) := ⟨_, ⟨rfl⟩⟩
    obtain ⟨a16, A16⟩ : ∃ a, Aside0 (a = t - 16) := ⟨_, ⟨rfl⟩⟩
    obtain ⟨a7, A7⟩ : ∃ a, Aside0 (a = t - 7) := ⟨_, ⟨rfl⟩⟩
    have k15 : (a15 : Int) < 64 := by have := A15.out; omega
    have k2 : (a2 : Int) < 64 := by have := A2.out; omega
    have k16 : (a16 : Int) < 64 := by have := A16.out; omega
    have k7 : (a7 : Int) < 64 := by have := A7.out; omega
    have i15 : wr.cell? ⟨w.heap.size, a15, none⟩ = some (.int .u32 (ws.getD a15 0)) := Sh.cellAt HM.out.bw _ _ (Sh.u32s_at _ _ (by rw [HM.out.len]; omega))
    have i2 : wr.cell? ⟨w.heap.size, a2, none⟩ = some (.int .u32 (ws.getD a2 0)) := Sh.cellAt HM.out.bw _ _ (Sh.u32s_at _ _ (by rw [HM.out.len]; omega))
    obtain ⟨x15, X15⟩ : ∃ x, Aside0 (ws.getD a15 0 = x) := ⟨_, ⟨rfl⟩⟩
    obtain ⟨x2, X2⟩ : ∃ x, Aside0 (ws.getD a2 0 = x) := ⟨_, ⟨rfl⟩⟩
    rw [X15.out] at i15
    rw [X2.out] at i2
    have w15 : IntKind.i64.wrap ((t : Int) - 15) = a15 := by have := A15.out; rw [IntKind.wrap_i64]; omega
    have w2 : IntKind.i64.wrap ((t : Int) - 2) = a2 := by have := A2.out; rw [IntKind.wrap_i64]; omega
    have w16 : IntKind.i64.wrap ((t : Int) - 16) = a16 := by have := A16.out; rw [IntKind.wrap_i64]; omega
    have w7 : IntKind.i64.wrap ((t : Int) - 7) = a7 := by have := A7.out; rw [IntKind.wrap_i64]; omega
    go_wp2_with fail
    go_quiet (fail)
    clear i15 i2 w15 w2 k15 k2
    have i16 : wr.cell? ⟨w.heap.size, a16, none⟩ = some (.int .u32 (ws.getD a16 0)) := Sh.cellAt HM.out.bw _ _ (Sh.u32s_at _ _ (by rw [HM.out.len]; omega))
    have i7 : wr.cell? ⟨w.heap.size, a7, none⟩ = some (.int .u32 (ws.getD a7 0)) := Sh.cellAt HM.out.bw _ _ (Sh.u32s_at _ _ (by rw [HM.out.len]; omega))
    obtain ⟨x16, X16⟩ : ∃ x, Aside0 (ws.getD a16 0 = x) := ⟨_, ⟨rfl⟩⟩
    obtain ⟨x7, X7⟩ : ∃ x, Aside0 (ws.getD a7 0 = x) := ⟨_, ⟨rfl⟩⟩
    rw [X16.out] at i16
    rw [X7.out] at i7
    have I16 := Aside0.mk (show (wr.drewN nq).drew.cell? ⟨w.heap.size, a16, none⟩ = some (.int .u32 x16) from i16)
    have I7 := Aside0.mk (show (wr.drewN nq).drew.cell? ⟨w.heap.size, a7, none⟩ = some (.int .u32 x7) from i7)
    clear i16 i7
    have ct : wr.cell? ⟨w.heap.size, t, none⟩ = some (.int .u32 (ws.getD t 0)) := Sh.cellAt HM.out.bw _ _ (Sh.u32s_at _ _ (by rw [HM.out.len]; omega))
    have cf : wr.frozen? ⟨w.heap.size, t, none⟩ = false := Sh.frozenAt HM.out.bw t
    have CT := Aside0.mk ct
    have CF := Aside0.mk cf
    clear ct cf
    go_wp2_with fail
    refine wp_region_noPanic ?_
    refine start_ (n := 30) (S := (fun w' => w'.cell? ⟨w.heap.size, a16, none⟩ = some (.int .u32 x16) ∧ w'.cell? ⟨w.heap.size, a7, none⟩ = some (.int .u32 x7))) (ds := [29]) #[false, false, false, false, false, false, false, false, false, false, false, false, false, false, false, false, false, false, false, false, false, false, false, false, false, false, false, false, false, false] (by kernel_rfl) rfl rfl ⟨I16.out, I7.out⟩ (fun hHeld => ?_)
    refine pure_ (i := 0) (N := (some 38)) (v := ?_) (a' := ?_) #[true, false, false, false, false, false, false, false, false, false, false, false, false, false, false, false, false, false, false, false, false, false, false, false, false, false, false, false, false, false] rfl rfl (by kernel_rfl) (fun _ _ _ h => h) (Or.inl ⟨by rfl, ?_⟩) ?_ ?_
    rotate_left
    ·intro w'
     go_simp
     first | done | with_reducible rfl
    rotate_left
    ·simp only [Act.put, List.setIfInBounds_toArray, List.set_cons_zero, List.set_cons_succ]
     rfl
    refine pure_ (i := 1) (N := (some 39)) (v := ?_) (a' := ?_) #[true, true, false, false, false, false, false, false, false, false, false, false, false, false, false, false, false, false, false, false, false, false, false, false, false, false, false, false, false, false] rfl rfl (by kernel_rfl) (fun _ _ _ h => h) (Or.inl ⟨by rfl, ?_⟩) ?_ ?_
    rotate_left
    ·intro w'
     go_simp
     first | done | with_reducible rfl
    rotate_left
    ·simp only [Act.put, List.setIfInBounds_toArray, List.set_cons_zero, List.set_cons_succ]
     rfl
    refine pure_ (i := 2) (N := (some 40)) (v := ?_) (a' := ?_) #[true, true, true, false, false, false, false, false, false, false, false, false, false, false, false, false, false, false, false, false, false, false, false, false, false, false, false, false, false, false] rfl rfl (by kernel_rfl) (fun _ _ _ h => h) (Or.inl ⟨by rfl, ?_⟩) ?_ ?_
    rotate_left
    ·intro w'
     go_simp
     first | done | with_reducible rfl
    rotate_left
    ·simp only [Act.put, List.setIfInBounds_toArray, List.set_cons_zero, List.set_cons_succ]
     rfl
    refine pure_ (i := 3) (N := (some 41)) (v := ?_) (a' := ?_) #[true, true, true, true, false, false, false, false, false, false, false, false, false, false, false, false, false, false, false, false, false, false, false, false, false, false, false, false, false, false] rfl rfl (by kernel_rfl) (fun _ _ _ h => h) (Or.inl ⟨by rfl, ?_⟩) ?_ ?_
    rotate_left
    ·intro w'
     go_simp
     first | done | with_reducible rfl
    rotate_left
    ·simp only [Act.put, List.setIfInBounds_toArray, List.set_cons_zero, List.set_cons_succ]
     rfl
    refine take_ (i := 4) (N := (some 42)) (v := ?_) (a' := ?_) #[true, true, true, true, true, false, false, false, false, false, false, false, false, false, false, false, false, false, false, false, false, false, false, false, false, false, false, false, false, false] rfl rfl (by kernel_rfl) (fun _ _ _ h => h) (Or.inl ⟨by rfl, ?_⟩) hHeld ?_ ?_
    rotate_left
    ·intro w' hS'
     (obtain ⟨hS0, _⟩ := hS'; go_simp)
     first | done | with_reducible rfl
    rotate_left
    ·simp only [Act.put, List.setIfInBounds_toArray, List.set_cons_zero, List.set_cons_succ]
     rfl
    refine pure_ (i := 5) (N := (some 43)) (v := ?_) (a' := ?_) #[true, true, true, true, true, true, false, false, false, false, false, false, false, false, false, false, false, false, false, false, false, false, false, false, false, false, false, false, false, false] rfl rfl (by kernel_rfl) (fun _ _ _ h => h) (Or.inl ⟨by rfl, ?_⟩) ?_ ?_
    rotate_left
    ·intro w'
     go_simp
     first | done | with_reducible rfl
    rotate_left
    ·simp only [Act.put, List.setIfInBounds_toArray, List.set_cons_zero, List.set_cons_succ]
     rfl
    refine pure_ (i := 7) (N := (some 45)) (v := ?_) (a' := ?_) #[true, true, true, true, true, true, false, true, false, false, false, false, false, false, false, false, false, false, false, false, false, false, false, false, false, false, false, false, false, false] rfl rfl (by kernel_rfl) (fun _ _ _ h => h) (Or.inl ⟨by rfl, ?_⟩) ?_ ?_
    rotate_left
    ·intro w'
     go_simp
     first | done | with_reducible rfl
    rotate_left
    ·simp only [Act.put, List.setIfInBounds_toArray, List.set_cons_zero, List.set_cons_succ]
     rfl
    refine pure_ (i := 10) (N := (some 48)) (v := ?_) (a' := ?_) #[true, true, true, true, true, true, false, true, false, false, true, false, false, false, false, false, false, false, false, false, false, false, false, false, false, false, false, false, false, false] rfl rfl (by kernel_rfl) (fun _ _ _ h => h) (Or.inl ⟨by rfl, ?_⟩) ?_ ?_
    rotate_left
    ·intro w'
     go_simp
     first | done | with_reducible rfl
    rotate_left
    ·simp only [Act.put, List.setIfInBounds_toArray, List.set_cons_zero, List.set_cons_succ]
     rfl
    refine pure_ (i := 11) (N := (some 49)) (v := ?_) (a' := ?_) #[true, true, true, true, true, true, false, true, false, false, true, true, false, false, false, false, false, false, false, false, false, false, false, false, false, false, false, false, false, false] rfl rfl (by kernel_rfl) (fun _ _ _ h => h) (Or.inl ⟨by rfl, ?_⟩) ?_ ?_
    rotate_left
    ·intro w'
     go_simp
     first | done | with_reducible rfl
    rotate_left
    ·simp only [Act.put, List.setIfInBounds_toArray, List.set_cons_zero, List.set_cons_succ]
     rfl
    refine pure_ (i := 14) (N := (some 52)) (v := ?_) (a' := ?_) #[true, true, true, true, true, true, false, true, false, false, true, true, false, false, true, false, false, false, false, false, false, false, false, false, false, false, false, false, false, false] rfl rfl (by kernel_rfl) (fun _ _ _ h => h) (Or.inl ⟨by rfl, ?_⟩) ?_ ?_
    rotate_left
    ·intro w'
     go_simp
     first | done | with_reducible rfl
    rotate_left
    ·simp only [Act.put, List.setIfInBounds_toArray, List.set_cons_zero, List.set_cons_succ]
     rfl
    refine pure_ (i := 15) (N := (some 53)) (v := ?_) (a' := ?_) #[true, true, true, true, true, true, false, true, false, false, true, true, false, false, true, true, false, false, false, false, false, false, false, false, false, false, false, false, false, false] rfl rfl (by kernel_rfl) (fun _ _ _ h => h) (Or.inl ⟨by rfl, ?_⟩) ?_ ?_
    rotate_left
    ·intro w'
     go_simp
     first | done | with_reducible rfl
    rotate_left
    ·simp only [Act.put, List.setIfInBounds_toArray, List.set_cons_zero, List.set_cons_succ]
     rfl
    refine pure_ (i := 16) (N := (some 54)) (v := ?_) (a' := ?_) #[true, true, true, true, true, true, false, true, false, false, true, true, false, false, true, true, true, false, false, false, false, false, false, false, false, false, false, false, false, false] rfl rfl (by kernel_rfl) (fun _ _ _ h => h) (Or.inl ⟨by rfl, ?_⟩) ?_ ?_
    rotate_left
    ·intro w'
     go_simp
     first | done | with_reducible rfl
    rotate_left
    ·simp only [Act.put, List.setIfInBounds_toArray, List.set_cons_zero, List.set_cons_succ]
     rfl
    refine take_ (i := 17) (N := (some 55)) (v := ?_) (a' := ?_) #[true, true, true, true, true, true, false, true, false, false, true, true, false, false, true, true, true, true, false, false, false, false, false, false, false, false, false, false, false, false] rfl rfl (by kernel_rfl) (fun _ _ _ h => h) (Or.inl ⟨by rfl, ?_⟩) hHeld ?_ ?_
    rotate_left
    ·intro w' hS'
     (obtain ⟨_, hS1⟩ := hS'; go_simp)
     first | done | with_reducible rfl
    rotate_left
    ·simp only [Act.put, List.setIfInBounds_toArray, List.set_cons_zero, List.set_cons_succ]
     rfl
    refine pure_ (i := 19) (N := (some 57)) (v := ?_) (a' := ?_) #[true, true, true, true, true, true, false, true, false, false, true, true, false, false, true, true, true, true, false, true, false, false, false, false, false, false, false, false, false, false] rfl rfl (by kernel_rfl) (fun _ _ _ h => h) (Or.inl ⟨by rfl, ?_⟩) ?_ ?_
    rotate_left
    ·intro w'
     go_simp
     first | done | with_reducible rfl
    rotate_left
    ·simp only [Act.put, List.setIfInBounds_toArray, List.set_cons_zero, List.set_cons_succ]
     rfl
    refine pure_ (i := 21) (N := (some 59)) (v := ?_) (a' := ?_) #[true, true, true, true, true, true, false, true, false, false, true, true, false, false, true, true, true, true, false, true, false, true, false, false, false, false, false, false, false, false] rfl rfl (by kernel_rfl) (fun _ _ _ h => h) (Or.inl ⟨by rfl, ?_⟩) ?_ ?_
    rotate_left
    ·intro w'
     go_simp
     first | done | with_reducible rfl
    rotate_left
    ·simp only [Act.put, List.setIfInBounds_toArray, List.set_cons_zero, List.set_cons_succ]
     rfl
    refine pure_ (i := 24) (N := (some 62)) (v := ?_) (a' := ?_) #[true, true, true, true, true, true, false, true, false, false, true, true, false, false, true, true, true, true, false, true, false, true, false, false, true, false, false, false, false, false] rfl rfl (by kernel_rfl) (fun _ _ _ h => h) (Or.inl ⟨by rfl, ?_⟩) ?_ ?_
    rotate_left
    ·intro w'
     go_simp
     first | done | with_reducible rfl
    rotate_left
    ·simp only [Act.put, List.setIfInBounds_toArray, List.set_cons_zero, List.set_cons_succ]
     rfl
    refine pure_ (i := 25) (N := (some 63)) (v := ?_) (a' := ?_) #[true, true, true, true, true, true, false, true, false, false, true, true, false, false, true, true, true, true, false, true, false, true, false, false, true, true, false, false, false, false] rfl rfl (by kernel_rfl) (fun _ _ _ h => h) (Or.inl ⟨by rfl, ?_⟩) ?_ ?_
    rotate_left
    ·intro w'
     go_simp
     first | done | with_reducible rfl
    rotate_left
    ·simp only [Act.put, List.setIfInBounds_toArray, List.set_cons_zero, List.set_cons_succ]
     rfl
    refine one_ (i := 6) (N := (some 44)) #[true, true, true, true, true, true, true, true, false, false, true, true, false, false, true, true, true, true, false, true, false, true, false, false, true, true, false, false, false, false] rfl rfl (by kernel_rfl) (by decide) (fun K hK => ?_)
    refine call_ 89 #[.int .u32 x15, .int .i64 7] (by rfl) rfl (by go_simp) ?_
    refine (sha_ror.quiet x15 7 _ _ (Sh.ror_7 _)).mono ?_
    rintro e w' ⟨rfl, m6, rfl⟩
    refine ⟨_, rfl, ?_⟩
    refine hK.out _ _ hHeld (fun hHeld => ?_)
    clear hK K
    refine norm_ (a' := ?_) ?_ ?_
    rotate_left
    ·show Act.put _ (some 44) _ = _
     simp only [Act.put, List.setIfInBounds_toArray, List.set_cons_zero, List.set_cons_succ]
     rfl
    refine one_ (i := 8) (N := (some 46)) #[true, true, true, true, true, true, true, true, true, false, true, true, false, false, true, true, true, true, false, true, false, true, false, false, true, true, false, false, false, false] rfl rfl (by kernel_rfl) (by decide) (fun K hK => ?_)
    refine call_ 89 #[.int .u32 x15, .int .i64 18] (by rfl) rfl (by go_simp) ?_
    refine (sha_ror.quiet x15 18 _ _ (Sh.ror_18 _)).mono ?_
    rintro e w' ⟨rfl, m8, rfl⟩
    refine ⟨_, rfl, ?_⟩
    refine hK.out _ _ hHeld (fun hHeld => ?_)
    clear hK K
    refine norm_ (a' := ?_) ?_ ?_
    rotate_left
    ·show Act.put _ (some 46) _ = _
     simp only [Act.put, List.setIfInBounds_toArray, List.set_cons_zero, List.set_cons_succ]
     rfl
    refine pure_ (i := 9) (N := (some 47)) (v := ?_) (a' := ?_) #[true, true, true, true, true, true, true, true, true, true, true, true, false, false, true, true, true, true, false, true, false, true, false, false, true, true, false, false, false, false] rfl rfl (by kernel_rfl) (fun _ _ _ h => h) (Or.inl ⟨by rfl, ?_⟩) ?_ ?_
    rotate_left
    ·intro w'
     go_simp
     first | done | with_reducible rfl
    rotate_left
    ·simp only [Act.put, List.setIfInBounds_toArray, List.set_cons_zero, List.set_cons_succ]
     rfl
    refine pure_ (i := 12) (N := (some 50)) (v := ?_) (a' := ?_) #[true, true, true, true, true, true, true, true, true, true, true, true, true, false, true, true, true, true, false, true, false, true, false, false, true, true, false, false, false, false] rfl rfl (by kernel_rfl) (fun _ _ _ h => h) (Or.inl ⟨by rfl, ?_⟩) ?_ ?_
    rotate_left
    ·intro w'
     go_simp
     first | done | with_reducible rfl
    rotate_left
    ·simp only [Act.put, List.setIfInBounds_toArray, List.set_cons_zero, List.set_cons_succ]
     rfl
    refine pure_ (i := 13) (N := (some 51)) (v := ?_) (a' := ?_) #[true, true, true, true, true, true, true, true, true, true, true, true, true, true, true, true, true, true, false, true, false, true, false, false, true, true, false, false, false, false] rfl rfl (by kernel_rfl) (fun _ _ _ h => h) (Or.inl ⟨by rfl, ?_⟩) ?_ ?_
    rotate_left
    ·intro w'
     go_simp
     first | done | with_reducible rfl
    rotate_left
    ·simp only [Act.put, List.setIfInBounds_toArray, List.set_cons_zero, List.set_cons_succ]
     rfl
    refine pure_ (i := 18) (N := (some 56)) (v := ?_) (a' := ?_) #[true, true, true, true, true, true, true, true, true, true, true, true, true, true, true, true, true, true, true, true, false, true, false, false, true, true, false, false, false, false] rfl rfl (by kernel_rfl) (fun _ _ _ h => h) (Or.inl ⟨by rfl, ?_⟩) ?_ ?_
    rotate_left
    ·intro w'
     go_simp
     first | done | with_reducible rfl
    rotate_left
    ·simp only [Act.put, List.setIfInBounds_toArray, List.set_cons_zero, List.set_cons_succ]
     rfl
    refine one_ (i := 20) (N := (some 58)) #[true, true, true, true, true, true, true, true, true, true, true, true, true, true, true, true, true, true, true, true, true, true, false, false, true, true, false, false, false, false] rfl rfl (by kernel_rfl) (by decide) (fun K hK => ?_)
    refine call_ 89 #[.int .u32 x2, .int .i64 17] (by rfl) rfl (by go_simp) ?_
    refine (sha_ror.quiet x2 17 _ _ (Sh.ror_17 _)).mono ?_
    rintro e w' ⟨rfl, m20, rfl⟩
    refine ⟨_, rfl, ?_⟩
    refine hK.out _ _ hHeld (fun hHeld => ?_)
    clear hK K
    refine norm_ (a' := ?_) ?_ ?_
    rotate_left
    ·show Act.put _ (some 58) _ = _
     simp only [Act.put, List.setIfInBounds_toArray, List.set_cons_zero, List.set_cons_succ]
     rfl
    refine one_ (i := 22) (N := (some 60)) #[true, true, true, true, true, true, true, true, true, true, true, true, true, true, true, true, true, true, true, true, true, true, true, false, true, true, false, false, false, false] rfl rfl (by kernel_rfl) (by decide) (fun K hK => ?_)
    refine call_ 89 #[.int .u32 x2, .int .i64 19] (by rfl) rfl (by go_simp) ?_
    refine (sha_ror.quiet x2 19 _ _ (Sh.ror_19 _)).mono ?_
    rintro e w' ⟨rfl, m22, rfl⟩
    refine ⟨_, rfl, ?_⟩
    refine hK.out _ _ hHeld (fun hHeld => ?_)
    clear hK K
    refine norm_ (a' := ?_) ?_ ?_
    rotate_left
    ·show Act.put _ (some 60) _ = _
     simp only [Act.put, List.setIfInBounds_toArray, List.set_cons_zero, List.set_cons_succ]
     rfl
    refine pure_ (i := 23) (N := (some 61)) (v := ?_) (a' := ?_) #[true, true, true, true, true, true, true, true, true, true, true, true, true, true, true, true, true, true, true, true, true, true, true, true, true, true, false, false, false, false] rfl rfl (by kernel_rfl) (fun _ _ _ h => h) (Or.inl ⟨by rfl, ?_⟩) ?_ ?_
    rotate_left
    ·intro w'
     go_simp
     first | done | with_reducible rfl
    rotate_left
    ·simp only [Act.put, List.setIfInBounds_toArray, List.set_cons_zero, List.set_cons_succ]
     rfl
    refine pure_ (i := 26) (N := (some 64)) (v := ?_) (a' := ?_) #[true, true, true, true, true, true, true, true, true, true, true, true, true, true, true, true, true, true, true, true, true, true, true, true, true, true, true, false, false, false] rfl rfl (by kernel_rfl) (fun _ _ _ h => h) (Or.inl ⟨by rfl, ?_⟩) ?_ ?_
    rotate_left
    ·intro w'
     go_simp
     first | done | with_reducible rfl
    rotate_left
    ·simp only [Act.put, List.setIfInBounds_toArray, List.set_cons_zero, List.set_cons_succ]
     rfl
    refine pure_ (i := 27) (N := (some 65)) (v := ?_) (a' := ?_) #[true, true, true, true, true, true, true, true, true, true, true, true, true, true, true, true, true, true, true, true, true, true, true, true, true, true, true, true, false, false] rfl rfl (by kernel_rfl) (fun _ _ _ h => h) (Or.inl ⟨by rfl, ?_⟩) ?_ ?_
    rotate_left
    ·intro w'
     go_simp
     first | done | with_reducible rfl
    rotate_left
    ·simp only [Act.put, List.setIfInBounds_toArray, List.set_cons_zero, List.set_cons_succ]
     rfl
    refine pure_ (i := 28) (N := (some 66)) (v := ?_) (a' := ?_) #[true, true, true, true, true, true, true, true, true, true, true, true, true, true, true, true, true, true, true, true, true, true, true, true, true, true, true, true, true, false] rfl rfl (by kernel_rfl) (fun _ _ _ h => h) (Or.inl ⟨by rfl, ?_⟩) ?_ ?_
    rotate_left
    ·intro w'
     go_simp
     first | done | with_reducible rfl
    rotate_left
    ·simp only [Act.put, List.setIfInBounds_toArray, List.set_cons_zero, List.set_cons_succ]
     rfl
    refine last_ (i := 29) (N := none) #[true, true, true, true, true, true, true, true, true, true, true, true, true, true, true, true, true, true, true, true, true, true, true, true, true, true, true, true, true, true] rfl rfl (by kernel_rfl) (by decide) (fun K hK => ?_)
    have ct := CT.out
    have cf := CF.out
    refine skip_ (w1 := (((((wr.drewN nq).drew.drewN m6).drewN m8).drewN m20).drewN m22).setCell ⟨w.heap.size, t, none⟩ (.int .u32 (IntKind.u32.wrap (IntKind.u32.wrap (IntKind.u32.wrap (x16 + bits .xor .u32 (bits .xor .u32 (Sh.rot x15 7) (Sh.rot x15 18)) (x15 / 8)) + x7) + bits .xor .u32 (bits .xor .u32 (Sh.rot x2 17) (Sh.rot x2 19)) (x2 / 1024))))) (by rfl) rfl (by go_simp) ?_
    clear ct cf
    refine hK.out _ _ ?_
    clear hK K
    refine done_ (by kernel_rfl) ?_
    have HM2 := Aside0.mk (Sh.Mx.word (((((HM.out.drewN nq).drew.drewN m6).drewN m8).drewN m20).drewN m22) hlt (IntKind.u32.wrap (IntKind.u32.wrap (IntKind.u32.wrap (x16 + bits .xor .u32 (bits .xor .u32 (Sh.rot x15 7) (Sh.rot x15 18)) (x15 / 8)) + x7) + bits .xor .u32 (bits .xor .u32 (Sh.rot x2 17) (Sh.rot x2 19)) (x2 / 1024))) (by
     rw [if_neg h16]
     have hw : ∀ a, a < t → (Sh.words p t).getD a 0 = ws.getD a 0 := by
      intro a ha
      rw [← HM.out.wt, List.getD_eq_getElem?_getD, List.getD_eq_getElem?_getD, List.getElem?_take, if_pos ha]
     have := A15.out
     have := A2.out
     have := A16.out
     have := A7.out
     unfold Sh.next
     rw [hw _ (by omega), hw _ (by omega), hw _ (by omega), hw _ (by omega), ← A15.out, ← A2.out, ← A16.out, ← A7.out, X15.out, X2.out, X16.out, X7.out]
     simp only [IntKind.wrap_u32, Sh.m32, Sh.s0, Sh.s1]))
    generalize IntKind.u32.wrap (IntKind.u32.wrap (IntKind.u32.wrap (x16 + bits .xor .u32 (bits .xor .u32 (Sh.rot x15 7) (Sh.rot x15 18)) (x15 / 8)) + x7) + bits .xor .u32 (bits .xor .u32 (Sh.rot x2 17) (Sh.rot x2 19)) (x2 / 1024)) = x at *
    generalize (((((wr.drewN nq).drew.drewN m6).drewN m8).drewN m20).drewN m22).setCell ⟨w.heap.size, t, none⟩ (.int .u32 x) = W at *
    clear CT CF I16 I7 A15 A2 A16 A7 X15 X2 X16 X7 w16 w7 k16 k7 hHeld
    refine NoPanic.normal ?_
    obtain ⟨v, HV⟩ : ∃ v, Aside0 (Sh.rounds (Sh.words p 64) s t = v) := ⟨_, ⟨rfl⟩⟩
    obtain ⟨kx, HKX⟩ : ∃ k, Aside0 (Sh.keys.getD t 0 = k) := ⟨_, ⟨rfl⟩⟩
    have b0 : W.cell? ⟨w.heap.size + 1, 0, none⟩ = some (.int .u32 v.a) := Sh.cellAt HM2.out.bv 0 _ (by rw [HV.out]; rfl)
    have b1 : W.cell? ⟨w.heap.size + 1, 1, none⟩ = some (.int .u32 v.b) := Sh.cellAt HM2.out.bv 1 _ (by rw [HV.out]; rfl)
    have b2 : W.cell? ⟨w.heap.size + 1, 2, none⟩ = some (.int .u32 v.c) := Sh.cellAt HM2.out.bv 2 _ (by rw [HV.out]; rfl)
    have b3 : W.cell? ⟨w.heap.size + 1, 3, none⟩ = some (.int .u32 v.d) := Sh.cellAt HM2.out.bv 3 _ (by rw [HV.out]; rfl)
    have b4 : W.cell? ⟨w.heap.size + 1, 4, none⟩ = some (.int .u32 v.e) := Sh.cellAt HM2.out.bv 4 _ (by rw [HV.out]; rfl)
    have b5 : W.cell? ⟨w.heap.size + 1, 5, none⟩ = some (.int .u32 v.f) := Sh.cellAt HM2.out.bv 5 _ (by rw [HV.out]; rfl)
    have b6 : W.cell? ⟨w.heap.size + 1, 6, none⟩ = some (.int .u32 v.g) := Sh.cellAt HM2.out.bv 6 _ (by rw [HV.out]; rfl)
    have b7 : W.cell? ⟨w.heap.size + 1, 7, none⟩ = some (.int .u32 v.h) := Sh.cellAt HM2.out.bv 7 _ (by rw [HV.out]; rfl)
    have f0 : W.frozen? ⟨w.heap.size + 1, 0, none⟩ = false := Sh.frozenAt HM2.out.bv 0
    have f1 : W.frozen? ⟨w.heap.size + 1, 1, none⟩ = false := Sh.frozenAt HM2.out.bv 1
    have f2 : W.frozen? ⟨w.heap.size + 1, 2, none⟩ = false := Sh.frozenAt HM2.out.bv 2
    have f3 : W.frozen? ⟨w.heap.size + 1, 3, none⟩ = false := Sh.frozenAt HM2.out.bv 3
    have f4 : W.frozen? ⟨w.heap.size + 1, 4, none⟩ = false := Sh.frozenAt HM2.out.bv 4
    have f5 : W.frozen? ⟨w.heap.size + 1, 5, none⟩ = false := Sh.frozenAt HM2.out.bv 5
    have f6 : W.frozen? ⟨w.heap.size + 1, 6, none⟩ = false := Sh.frozenAt HM2.out.bv 6
    have f7 : W.frozen? ⟨w.heap.size + 1, 7, none⟩ = false := Sh.frozenAt HM2.out.bv 7
    have bk : W.cell? ⟨0, t, none⟩ = some (.int .u32 kx) := by rw [← HKX.out]; exact HM2.out.ks t hlt
    have bx : W.cell? ⟨w.heap.size, t, none⟩ = some (.int .u32 x) := Sh.cellAt HM2.out.bw t _ (Sh.u32s_here ws t x (by rw [HM2.out.len]; exact hlt))
    go_wp2_with fail
    go_quiet (fail)
    go_wp2_with fail
    go_quiet (first | exact Sh.quiet_then (sha_ror.quiet _ _ _ _ (Sh.ror_6 _)) | exact Sh.quiet_then (sha_ror.quiet _ _ _ _ (Sh.ror_11 _)) | exact Sh.quiet_then (sha_ror.quiet _ _ _ _ (Sh.ror_25 _)))
    go_wp2_with fail
    go_quiet (first | exact Sh.quiet_then (sha_ror.quiet _ _ _ _ (Sh.ror_2 _)) | exact Sh.quiet_then (sha_ror.quiet _ _ _ _ (Sh.ror_13 _)) | exact Sh.quiet_then (sha_ror.quiet _ _ _ _ (Sh.ror_22 _)))
    go_wp2_with fail
    refine ⟨⟨t + 1, ws.set t x, rfl, by omega, ⟨?_⟩⟩, by simp [intOf]; omega⟩
    refine Sh.Mx.vec (s := s) (v := v) (HV.out ▸ HM2.out.drewN _) HV.out hlt kx x _ _ HKX.out ?_ ?_ ?_
    ·exact Sh.getD_set_here ws t x (by rw [HM2.out.len]; exact hlt)
    ·simp only [Sh.V.rnd, Sh.V.x, Sh.V.y, Sh.m32, Sh.big1, Sh.big0, Sh.ch, Sh.maj, Int.emod_add_emod, Int.add_emod_emod]
    ·simp only [Sh.V.rnd, Sh.V.x, Sh.V.y, Sh.m32, Sh.big1, Sh.big0, Sh.ch, Sh.maj, Int.emod_add_emod, Int.add_emod_emod]
  ·obtain rfl : t = 64 := by omega
   obtain ⟨v, HV⟩ : ∃ v, Aside0 (Sh.rounds (Sh.words p 64) s 64 = v) := ⟨_, ⟨rfl⟩⟩
   have HM1 : Aside0 (Sh.M2 w hb (Sh.hc (Sh.some8 v s 0) p n) (Sh.u32s v.list) wr) := ⟨⟨HM.out.h, by rw [← HV.out]; exact HM.out.bv, Sh.gb_of_below HM.out.g, HM.out.lt⟩⟩
   have HCO : Aside0 (Sh.comp s p = v.add s) := ⟨by rw [Sh.comp, HV.out]⟩
   clear HM HV ht hlt HH HK
   go_wp2_with fail
   go_loopw [143] (fun v143 wr => ∃ k : Nat, v143 = .int .i64 k ∧ k ≤ 8 ∧ Aside0 (Sh.M2 w hb (Sh.hc (Sh.some8 v s k) p n) (Sh.u32s v.list) wr)) (fun i _ => 8 - (intOf i).toNat)
   case atStart => exact ⟨0, rfl, by omega, HM1⟩
   case round =>
    clear HM1
    obtain ⟨k, rfl, hk, HM⟩ := hrel
    by_cases hlt : k < 8
    ·have hl8 := Sh.some8_length v s k hk
     obtain ⟨e1, e2⟩ := Sh.some8_at v s k hlt
     have I1 : Aside0 (wr.drew.cell? ⟨hb, k, none⟩ = some (.int .u32 (s.list.getD k 0))) := ⟨by rw [← e1]; exact Sh.cellAt (w := wr.drew) HM.out.h k _ (Sh.hc_sum _ _ _ _ (by rw [hl8]; exact hlt))⟩
     have I2 : Aside0 (wr.drew.cell? ⟨w.heap.size + 1, k, none⟩ = some (.int .u32 (v.list.getD k 0))) := ⟨Sh.cellAt (w := wr.drew) HM.out.bv k _ (Sh.u32s_at _ _ (by rw [Sh.list_length]; exact hlt))⟩
     have CF : Aside0 (wr.drew.frozen? ⟨hb, k, none⟩ = false) := ⟨Sh.frozenAt (w := wr.drew) HM.out.h k⟩
     have E2 := Aside0.mk e2
     clear e1 e2 hl8
     generalize s.list.getD k 0 = y at *
     generalize v.list.getD k 0 = z at *
     go_wp2_with fail
     refine wp_region_noPanic ?_
     refine start_ (n := 14) (S := (fun w' => w'.cell? ⟨hb, k, none⟩ = some (.int .u32 y) ∧ w'.cell? ⟨w.heap.size + 1, k, none⟩ = some (.int .u32 z))) (ds := [13]) #[false, false, false, false, false, false, false, false, false, false, false, false, false, false] (by kernel_rfl) rfl rfl ⟨I1.out, I2.out⟩ (fun hHeld => ?_)
     refine pure_ (i := 0) (N := (some 146)) (v := ?_) (a' := ?_) #[true, false, false, false, false, false, false, false, false, false, false, false, false, false] rfl rfl (by kernel_rfl) (fun _ _ _ h => h) (Or.inl ⟨by rfl, ?_⟩) ?_ ?_
     rotate_left
     ·intro w'
      go_simp
      first | done | with_reducible rfl
     rotate_left
     ·simp only [Act.put, List.setIfInBounds_toArray, List.set_cons_zero, List.set_cons_succ]
      rfl
     refine pure_ (i := 1) (N := (some 147)) (v := ?_) (a' := ?_) #[true, true, false, false, false, false, false, false, false, false, false, false, false, false] rfl rfl (by kernel_rfl) (fun _ _ _ h => h) (Or.inl ⟨by rfl, ?_⟩) ?_ ?_
     rotate_left
     ·intro w'
      go_simp
      first | done | with_reducible rfl
     rotate_left
     ·simp only [Act.put, List.setIfInBounds_toArray, List.set_cons_zero, List.set_cons_succ]
      rfl
     refine pure_ (i := 2) (N := (some 148)) (v := ?_) (a' := ?_) #[true, true, true, false, false, false, false, false, false, false, false, false, false, false] rfl rfl (by kernel_rfl) (fun _ _ _ h => h) (Or.inl ⟨by rfl, ?_⟩) ?_ ?_
     rotate_left
     ·intro w'
      go_simp
      first | done | with_reducible rfl
     rotate_left
     ·simp only [Act.put, List.setIfInBounds_toArray, List.set_cons_zero, List.set_cons_succ]
      rfl
     refine pure_ (i := 3) (N := (some 149)) (v := ?_) (a' := ?_) #[true, true, true, true, false, false, false, false, false, false, false, false, false, false] rfl rfl (by kernel_rfl) (fun _ _ _ h => h) (Or.inl ⟨by rfl, ?_⟩) ?_ ?_
     rotate_left
     ·intro w'
      go_simp
      first | done | with_reducible rfl
     rotate_left
     ·simp only [Act.put, List.setIfInBounds_toArray, List.set_cons_zero, List.set_cons_succ]
      rfl
     refine pure_ (i := 4) (N := (some 150)) (v := ?_) (a' := ?_) #[true, true, true, true, true, false, false, false, false, false, false, false, false, false] rfl rfl (by kernel_rfl) (fun _ _ _ h => h) (Or.inl ⟨by rfl, ?_⟩) ?_ ?_
     rotate_left
     ·intro w'
      go_simp
      first | done | with_reducible rfl
     rotate_left
     ·simp only [Act.put, List.setIfInBounds_toArray, List.set_cons_zero, List.set_cons_succ]
      rfl
     refine take_ (i := 5) (N := (some 151)) (v := ?_) (a' := ?_) #[true, true, true, true, true, true, false, false, false, false, false, false, false, false] rfl rfl (by kernel_rfl) (fun _ _ _ h => h) (Or.inl ⟨by rfl, ?_⟩) hHeld ?_ ?_
     rotate_left
     ·intro w' hS'
      (obtain ⟨hS0, _⟩ := hS'; go_simp)
      first | done | with_reducible rfl
     rotate_left
     ·simp only [Act.put, List.setIfInBounds_toArray, List.set_cons_zero, List.set_cons_succ]
      rfl
     refine pure_ (i := 6) (N := (some 152)) (v := ?_) (a' := ?_) #[true, true, true, true, true, true, true, false, false, false, false, false, false, false] rfl rfl (by kernel_rfl) (fun _ _ _ h => h) (Or.inl ⟨by rfl, ?_⟩) ?_ ?_
     rotate_left
     ·intro w'
      go_simp
      first | done | with_reducible rfl
     rotate_left
     ·simp only [Act.put, List.setIfInBounds_toArray, List.set_cons_zero, List.set_cons_succ]
      rfl
     refine pure_ (i := 7) (N := (some 153)) (v := ?_) (a' := ?_) #[true, true, true, true, true, true, true, true, false, false, false, false, false, false] rfl rfl (by kernel_rfl) (fun _ _ _ h => h) (Or.inl ⟨by rfl, ?_⟩) ?_ ?_
     rotate_left
     ·intro w'
      go_simp
      first | done | with_reducible rfl
     rotate_left
     ·simp only [Act.put, List.setIfInBounds_toArray, List.set_cons_zero, List.set_cons_succ]
      rfl
     refine take_ (i := 8) (N := (some 154)) (v := ?_) (a' := ?_) #[true, true, true, true, true, true, true, true, true, false, false, false, false, false] rfl rfl (by kernel_rfl) (fun _ _ _ h => h) (Or.inl ⟨by rfl, ?_⟩) hHeld ?_ ?_
     rotate_left
     ·intro w' hS'
      (obtain ⟨_, hS1⟩ := hS'; go_simp)
      first | done | with_reducible rfl
     rotate_left
     ·simp only [Act.put, List.setIfInBounds_toArray, List.set_cons_zero, List.set_cons_succ]
      rfl
     refine pure_ (i := 9) (N := (some 155)) (v := ?_) (a' := ?_) #[true, true, true, true, true, true, true, true, true, true, false, false, false, false] rfl rfl (by kernel_rfl) (fun _ _ _ h => h) (Or.inl ⟨by rfl, ?_⟩) ?_ ?_
     rotate_left
     ·intro w'
      go_simp
      first | done | with_reducible rfl
     rotate_left
     ·simp only [Act.put, List.setIfInBounds_toArray, List.set_cons_zero, List.set_cons_succ]
      rfl
     refine pure_ (i := 10) (N := (some 156)) (v := ?_) (a' := ?_) #[true, true, true, true, true, true, true, true, true, true, true, false, false, false] rfl rfl (by kernel_rfl) (fun _ _ _ h => h) (Or.inl ⟨by rfl, ?_⟩) ?_ ?_
     rotate_left
     ·intro w'
      go_simp
      first | done | with_reducible rfl
     rotate_left
     ·simp only [Act.put, List.setIfInBounds_toArray, List.set_cons_zero, List.set_cons_succ]
      rfl
     refine pure_ (i := 11) (N := (some 157)) (v := ?_) (a' := ?_) #[true, true, true, true, true, true, true, true, true, true, true, true, false, false] rfl rfl (by kernel_rfl) (fun _ _ _ h => h) (Or.inl ⟨by rfl, ?_⟩) ?_ ?_
     rotate_left
     ·intro w'
      go_simp
      first | done | with_reducible rfl
     rotate_left
     ·simp only [Act.put, List.setIfInBounds_toArray, List.set_cons_zero, List.set_cons_succ]
      rfl
     refine pure_ (i := 12) (N := (some 158)) (v := ?_) (a' := ?_) #[true, true, true, true, true, true, true, true, true, true, true, true, true, false] rfl rfl (by kernel_rfl) (fun _ _ _ h => h) (Or.inl ⟨by rfl, ?_⟩) ?_ ?_
     rotate_left
     ·intro w'
      go_simp
      first | done | with_reducible rfl
     rotate_left
     ·simp only [Act.put, List.setIfInBounds_toArray, List.set_cons_zero, List.set_cons_succ]
      rfl
     refine last_ (i := 13) (N := none) #[true, true, true, true, true, true, true, true, true, true, true, true, true, true] rfl rfl (by kernel_rfl) (by decide) (fun K hK => ?_)
     have ct := I1.out
     have cf := CF.out
     refine skip_ (w1 := wr.drew.setCell ⟨hb, k, none⟩ (.int .u32 (IntKind.u32.wrap (y + z)))) (by rfl) rfl (by go_simp) ?_
     clear ct cf
     refine hK.out _ _ ?_
     clear hK K
     refine done_ (by kernel_rfl) ?_
     have HM2 : Aside0 (Sh.M2 w hb (Sh.hc (Sh.some8 v s (k + 1)) p n) (Sh.u32s v.list) (wr.drew.setCell ⟨hb, k, none⟩ (.int .u32 (IntKind.u32.wrap (y + z))))) := ⟨by
      have := HM.out.set k (.int .u32 (IntKind.u32.wrap (y + z)))
      rw [Sh.hc_set _ _ _ _ _ (by rw [Sh.some8_length v s k hk]; exact hlt), E2.out] at this
      exact this⟩
     clear HM I1 I2 CF E2 hHeld
     refine NoPanic.normal ?_
     go_wp2_with fail
     exact ⟨⟨k + 1, by go_num, by omega, HM2⟩, by simp [intOf]; omega⟩
    ·obtain rfl : k = 8 := by omega
     go_wp2_with fail
     refine ⟨rfl, .tuple #[], by simp [results, Tryd.results73, go_sem], rfl, ?_, HM.out.g⟩
     rw [HCO.out]
     exact HM.out.h
end Go.Proofs.YtgljicdpcapgnaaDoor
set_option linter.unusedVariables false
set_option linter.unusedSimpArgs false
namespace Go.Proofs.YtgljicdpcapgnaaDoor
open Go.RowKit Go.Proofs.YtgljicdpcapgnaaDoorW.PrintWords Go.Proofs.YtgljicdpcapgnaaDoorW.PrintLast
namespace Sh
structure Ha (w : World) (b : Nat) (bs : List Int) (rest : List Int) : Prop where
  len : rest.length = 64
  tl : rest.take (bs.length % 64) = tail bs
  by_ : Bytes rest
  h : w.heap[b]? = some (.cells (hc (state bs).list rest bs.length) 138 (0, 0))
def Ks (w : World) : Prop := ∀ i, i < 64 → w.cell? ⟨0, i, none⟩ = some (.int .u32 (keys.getD i 0))
theorem Ks.far {w W : World} (h : Ks w) {hb : Nat} (hg : w.grownBy W (some hb)) (h0 : hb ≠ 0) : Ks W := fun i hi => hg.cell (h i hi) (fun e => h0 (Option.some.inj e).symm)
theorem Ks.below {w W : World} (h : Ks w) (hg : Below w.heap.size w W) : Ks W := fun i hi => (hg.cell (World.block_lt_of_cell? w _ (h i hi))).trans (h i hi)
theorem add_block (a : Addr) (j : Nat) : (a.add j).block = a.block := by unfold Addr.add; split <;> rfl
theorem add_add (a : Addr) (i j : Nat) : (a.add i).add j = a.add (i + j) := by
  by_cases hi : i = 0
  · subst hi; rw [Addr.add_zero', Nat.zero_add]
  · by_cases hj : j = 0
    · subst hj; rw [Addr.add_zero', Nat.add_zero]
    · simp [Addr.add, hi, hj, Nat.add_assoc]
theorem hc_splice (s : V) (rest c : List Int) (n : Int) (r : Nat) (h : r + c.length ≤ rest.length) : (splice (hc s.list rest n).toList (8 + r) (c.map (Value.int .u8))) = (hc s.list (rest.take r ++ c ++ rest.drop (r + c.length)) n).toList := by
  have h8 : s.list.length = 8 := rfl
  simp only [splice, hc, List.toList_toArray, List.length_map, List.append_assoc, List.map_append]
  rw [List.take_append, List.take_append, List.drop_append, List.drop_append]
  simp only [List.length_map, h8]
  rw [show 8 + r - 8 = r by omega, show 8 + r + c.length - 8 = r + c.length by omega, show r - rest.length = 0 by omega, show r + c.length - rest.length = 0 by omega, List.take_of_length_le (l := s.list.map _) (by rw [List.length_map, h8]; omega), List.drop_of_length_le (l := s.list.map _) (by rw [List.length_map, h8]; omega)]
  simp [List.map_take, List.map_drop]
theorem hc_setn (s : V) (rest : List Int) (n m : Int) (h : rest.length = 64) : (hc s.list rest n).setIfInBounds 72 (.int .u64 m) = hc s.list rest m := by
  have h8 : s.list.length = 8 := rfl
  simp only [hc, List.setIfInBounds_toArray]
  rw [List.set_append_right _ _ (by simp [h8, h])]
  simp [h8, h]
theorem cell_n {w : World} {b : Nat} {bs rest : List Int} (h : Ha w b bs rest) : w.cell? ⟨b, 72, none⟩ = some (.int .u64 bs.length) := by
  have := cellAt h.h (8 + rest.length) _ (hc_n (state bs).list rest bs.length)
  rw [h.len] at this
  exact this
theorem rest_put (bs rest c : List Int) (hl : rest.length = 64) (ht : rest.take (bs.length % 64) = tail bs) (hb : Bytes rest) (hc : Bytes c) (h : bs.length % 64 + c.length ≤ 64) :
    (rest.take (bs.length % 64) ++ c ++ rest.drop (bs.length % 64 + c.length)).length = 64 ∧ Bytes (rest.take (bs.length % 64) ++ c ++ rest.drop (bs.length % 64 + c.length)) ∧
    (rest.take (bs.length % 64) ++ c ++ rest.drop (bs.length % 64 + c.length)).take (bs.length % 64 + c.length) = tail bs ++ c := by
  refine ⟨by simp only [List.length_append, List.length_take, List.length_drop]; omega, ?_, ?_⟩
  · intro x hx
    simp only [List.mem_append] at hx
    rcases hx with (hx | hx) | hx
    · exact hb x (List.mem_of_mem_take hx)
    · exact hc x hx
    · exact hb x (List.mem_of_mem_drop hx)
  · rw [ht, List.take_left' (by rw [List.length_append, tail_length])]
theorem ha_next {w : World} {hb : Nat} (bs2 cs rest1 : List Int) (M : Nat) (hM : M = bs2.length + cs.length) (h64 : rest1.length = 64) (hby : Bytes rest1) (hle : bs2.length % 64 + cs.length ≤ 64) (hc0 : 0 < cs.length) (ht : rest1.take (bs2.length % 64 + cs.length) = tail bs2 ++ cs) :
    (M % 64 = 0 → w.heap[hb]? = some (.cells (hc (comp (state bs2) rest1).list rest1 M) 138 (0, 0)) → Ha w hb (bs2 ++ cs) rest1) ∧ (¬ M % 64 = 0 → w.heap[hb]? = some (.cells (hc (state bs2).list rest1 M) 138 (0, 0)) → Ha w hb (bs2 ++ cs) rest1) := by
  have hl : (bs2 ++ cs).length = M := by rw [List.length_append]; exact hM.symm
  constructor
  · intro h0 h
    have hf : bs2.length % 64 + cs.length = 64 := by omega
    obtain ⟨e1, e2⟩ := state_full bs2 cs hf
    have er : rest1 = tail bs2 ++ cs := by rw [← ht, hf, List.take_of_length_le (by omega)]
    refine ⟨h64, ?_, hby, ?_⟩
    · rw [hl, h0, e2]; rfl
    · rw [hl, e1, ← er]; exact h
  · intro h0 h
    have hf : bs2.length % 64 + cs.length < 64 := by omega
    obtain ⟨e1, e2⟩ := state_part bs2 cs hf
    refine ⟨h64, ?_, hby, ?_⟩
    · rw [hl, e2, ← ht, show M % 64 = bs2.length % 64 + cs.length by omega]
    · rw [hl, e1]; exact h
set_option maxRecDepth 100000 in
theorem copy_run {w : World} {g : Nat} {s : V} {rest : List Int} {n : Int} (ty : TypeId) (r m c1 c2 : Nat) (ad : Addr) (cs : List Int) (hg : w.heap[g]? = some (.cells (hc s.list rest n) 138 (0, 0))) (hl : rest.length = 64)
    (hn : cs.length = Nat.min m (64 - r)) (hr : r < 64) (hsrc : ∀ j, j < cs.length → w.cell? (ad.add j) = some (.int .u8 (cs.getD j 0))) :
    (Builtin.copy_ #[23, 23] ty #[.slice (some ⟨g, 8 + r, none⟩) (64 - r) c1, .slice (some ad) m c2]).run Tryd.prog w = .ok (goInt cs.length) (w.setRow g (hc s.list (rest.take r ++ cs ++ rest.drop (r + cs.length)) n)) := by
  have hle : r + cs.length ≤ 64 := by have : m.min (64 - r) ≤ 64 - r := Nat.min_le_right _ _; omega
  have hrun := run_copy_row (P := Tryd.prog) w 23 23 ty 5 g (8 + r) (64 - r) c1 ad m c2 (hc s.list rest n) 138 (cs.map (Value.int .u8)) (by kernel_rfl) (by kernel_rfl) hg (by rw [List.length_map]; exact hn)
    (fun j v hv => by
      rw [List.getElem?_map] at hv
      have hj : j < cs.length := by
        rcases Nat.lt_or_ge j cs.length with h | h
        · exact h
        · rw [List.getElem?_eq_none h] at hv; cases hv
      rw [hsrc j hj]
      rw [List.getElem?_eq_getElem hj] at hv
      rw [← hv, List.getD_eq_getElem?_getD, List.getElem?_eq_getElem hj]
      rfl)
    (by simp [hc, hl, list_length]; omega) (by intro v hv; simp only [List.mem_map] at hv; obtain ⟨x, _, rfl⟩ := hv; rfl)
  rw [hrun]
  rw [List.length_map]
  congr 2
  rw [List.append_assoc]
  have := hc_splice s rest cs n r (by rw [hl]; exact hle)
  unfold splice at this
  rw [List.length_map] at this
  rw [this]
theorem src {w wr : World} {ad : Addr} {l : List Int} {hb : Nat} (h : Kd.C (Kd.int .u8) w (some ad) l.length l) (hg : w.grownBy wr (some hb)) (hA : ad.block ≠ hb) (i : Nat) (hi : i < l.length) : wr.cell? (ad.add i) = some (.int .u8 (l.getD i 0)) := by
  obtain ⟨_, _, h3⟩ := Kd.reads_of_C (d := (0 : Int)) h
  obtain ⟨ad', e, hc⟩ := h3 (by omega)
  obtain rfl := Option.some.inj e
  exact hg.cell (hc i hi) (fun e2 => hA (by rw [← add_block ad i]; exact Option.some.inj e2))
theorem gb_row {a b : World} {k : Nat} (h : a.grownBy b (some k)) (cs : Array Value) : a.grownBy (b.setRow k cs) (some k) :=
  gb_trans h ⟨rfl, rfl, rfl, by simp [World.setRow], fun j hj hr => setRow_other b k j cs (fun e => hr (by rw [e]))⟩
theorem cut_run (w : World) (A : Option Addr) (m c : Nat) (k : Nat) (hk : k ≤ m) :
    (Instr.slice 23 (.slice A m c) (some (.int .i64 k)) none none).run Tryd.prog w = .ok (.slice (if c = k then A else A.map (·.add k)) (m - k) (c - k)) w := by
  rw [run_slice_l w 23 A m c (by kernel_rfl) .i64 k (by omega) (by omega)]
  rw [show Tryd.prog.elem 23 = 5 by kernel_rfl, show (sizeOf 5).run Tryd.prog w = .ok 1 w by kernel_rfl]
  simp [Result.andThen, sliced]
theorem cutAt_run (w : World) (A : Option Addr) (m c : Nat) (k : Nat) (hk : k ≤ m) :
    (Instr.sliceAt 23 (.slice A m c) (some (.int .i64 k)) none none).run Tryd.prog w = .ok (.slice (if c = k then A else A.map (·.add k)) (m - k) (c - k)) w := by
  rw [run_sliceAt_slice w _ _ _ _ _ (by kernel_rfl)]
  exact cut_run w A m c k hk
end Sh
set_option maxHeartbeats 2000000 in
set_option maxRecDepth 100000 in
theorem write_.calls (hb : Nat) (bs rest : List Int) (A : Option Addr) (c : Nat) (l : List Int) (w : World) (hH : Sh.Ha w hb bs rest) (hb0 : hb ≠ 0) (hk : Sh.Ks w) (hr : Kd.C (Kd.int .u8) w A l.length l) (hc : l.length ≤ c)
  (hA : 0 < l.length → ∀ a, A = some a → a.block ≠ hb) (hby : Sh.Bytes l) (hlen : bs.length + l.length ≤ 1099511627776) :
  Calls Tryd.prog 60 #[.pointer (some ⟨hb, 0, none⟩), .slice A l.length c] w fun e w' => e = .returned (.tuple #[]) ∧ (∃ rest', Sh.Ha w' hb (bs ++ l) rest') ∧ w.grownBy w' (some hb) := by
 have HK := Aside0.mk hk
 have HR := Aside0.mk hr
 have HA := Aside0.mk hA
 have HB := Aside0.mk hby
 have HH := Aside0.mk hH
 clear hk hr hA hby hH
 go_enter Tryd.func60, Tryd.ntmps60
 go_wp2_with fail
 go_loopw [1] (fun v1 wr => ∃ (j : Nat) (A' : Option Addr) (c' : Nat) (rest' : List Int), v1 = .slice A' (l.length - j) c' ∧ j ≤ l.length ∧ l.length - j ≤ c' ∧ Aside0 (j < l.length → ∃ ad, A = some ad ∧ A' = some (ad.add j)) ∧ Aside0 (Sh.Ha wr hb (bs ++ l.take j) rest') ∧ Aside0 (w.grownBy wr (some hb))) (fun v _ => match v with | .slice _ n _ => n | _ => 0)
 case atStart =>
  refine ⟨0, A, c, rest, rfl, by omega, by omega, ⟨fun hj => ?_⟩, ⟨by simpa using HH.out⟩, ⟨Sh.gb_refl _ _⟩⟩
  obtain ⟨ad, e, _⟩ := Kd.at_int HR.out 0 (by omega) (by omega)
  exact ⟨ad, e, by rw [e, Addr.add_zero']⟩
 case round =>
  clear HH
  obtain ⟨j, A', c', rest', rfl, hj, hc', HA', HH, HG⟩ := hrel
  by_cases hlt : j < l.length
  ·obtain ⟨ad, e1, e2⟩ := HA'.out hlt
   subst e1; subst e2
   clear HA'
   obtain ⟨N, HN⟩ : ∃ N, Aside0 ((bs ++ l.take j).length = N) := ⟨_, ⟨rfl⟩⟩
   have hN : N ≤ 1099511627776 := by rw [← HN.out, List.length_append, List.length_take]; omega
   have HNJ : Aside0 (N = bs.length + j) := ⟨by rw [← HN.out, List.length_append, List.length_take]; omega⟩
   have cn := Sh.cell_n HH.out
   rw [HN.out] at cn
   have hs := Sh.slice_rest hb 8 .u64 ((N : Int).tmod 64) (N % 64) (by rw [Int.tmod_eq_emod_of_nonneg (by omega)]; omega) (by omega)
   obtain ⟨k, hkd⟩ : ∃ k, k = Nat.min (l.length - j) (64 - N % 64) := ⟨_, rfl⟩
   have hk1 : k ≤ l.length - j := by rw [hkd]; exact Nat.min_le_left _ _
   have hk2 : k ≤ 64 - N % 64 := by rw [hkd]; exact Nat.min_le_right _ _
   have hk0 : 0 < k := by rw [hkd]; exact Nat.lt_min.2 ⟨by omega, by omega⟩
   have hk3 : k = l.length - j ∨ k = 64 - N % 64 := by
    rw [hkd]
    rcases Nat.le_total (l.length - j) (64 - N % 64) with h | h
    ·exact .inl (Nat.min_eq_left h)
    ·exact .inr (Nat.min_eq_right h)
   have HKD := Aside0.mk hkd
   clear hkd
   obtain ⟨cs, HCS⟩ : ∃ cs, Aside0 ((l.drop j).take k = cs) := ⟨_, ⟨rfl⟩⟩
   have hcl : cs.length = k := by rw [← HCS.out, List.length_take, List.length_drop]; omega
   obtain ⟨st, HST⟩ : ∃ st, Aside0 (Sh.state (bs ++ l.take j) = st) := ⟨_, ⟨rfl⟩⟩
   have HST2 : Aside0 (wr.drew.heap[hb]? = some (.cells (Sh.hc st.list rest' N) 138 (0, 0))) := ⟨by
    have := HH.out.h
    rw [HN.out, HST.out] at this
    exact this⟩
   have HCC := Aside0.mk (Sh.copy_run (w := wr.drew) 3 (N % 64) (l.length - j) (64 - N % 64) c' (ad.add j) cs HST2.out HH.out.len (by rw [hcl, HKD.out]) (by omega) (fun i hi => by
    have := Sh.src HR.out HG.out (HA.out (by omega) ad rfl) (j + i) (by omega)
    rw [← Sh.add_add] at this
    refine Eq.trans this ?_
    rw [← HCS.out, List.getD_eq_getElem?_getD, List.getD_eq_getElem?_getD, List.getElem?_take, if_pos (by omega), List.getElem?_drop]))
   have CN := Aside0.mk (show wr.drew.cell? ⟨hb, 72, none⟩ = some (.int .u64 N) from cn)
   clear cn
   go_wp2_with fail
   refine wp_region_noPanic ?_
   refine start_ (n := 12) (S := (fun w' => w'.cell? ⟨hb, 72, none⟩ = some (.int .u64 N))) (ds := [10]) #[false, false, false, false, false, false, false, false, false, false, false, false] (by kernel_rfl) rfl rfl CN.out (fun hHeld => ?_)
   refine pure_ (i := 0) (N := (some 8)) (v := ?_) (a' := ?_) #[true, false, false, false, false, false, false, false, false, false, false, false] rfl rfl (by kernel_rfl) (fun _ _ _ h => h) (Or.inl ⟨by rfl, ?_⟩) ?_ ?_
   rotate_left
   ·intro w'
    go_simp
    first | done | with_reducible rfl
   rotate_left
   ·simp only [Act.put, List.setIfInBounds_toArray, List.set_cons_zero, List.set_cons_succ]
    rfl
   refine pure_ (i := 1) (N := (some 9)) (v := ?_) (a' := ?_) #[true, true, false, false, false, false, false, false, false, false, false, false] rfl rfl (by kernel_rfl) (fun _ _ _ h => h) (Or.inl ⟨by rfl, ?_⟩) ?_ ?_
   rotate_left
   ·intro w'
    go_simp
    first | done | with_reducible rfl
   rotate_left
   ·simp only [Act.put, List.setIfInBounds_toArray, List.set_cons_zero, List.set_cons_succ]
    rfl
   refine pure_ (i := 2) (N := (some 10)) (v := ?_) (a' := ?_) #[true, true, true, false, false, false, false, false, false, false, false, false] rfl rfl (by kernel_rfl) (fun _ _ _ h => h) (Or.inl ⟨by rfl, ?_⟩) ?_ ?_
   rotate_left
   ·intro w'
    go_simp
    first | done | with_reducible rfl
   rotate_left
   ·simp only [Act.put, List.setIfInBounds_toArray, List.set_cons_zero, List.set_cons_succ]
    rfl
   refine pure_ (i := 3) (N := (some 11)) (v := ?_) (a' := ?_) #[true, true, true, true, false, false, false, false, false, false, false, false] rfl rfl (by kernel_rfl) (fun _ _ _ h => h) (Or.inl ⟨by rfl, ?_⟩) ?_ ?_
   rotate_left
   ·intro w'
    go_simp
    first | done | with_reducible rfl
   rotate_left
   ·simp only [Act.put, List.setIfInBounds_toArray, List.set_cons_zero, List.set_cons_succ]
    rfl
   refine pure_ (i := 4) (N := (some 12)) (v := ?_) (a' := ?_) #[true, true, true, true, true, false, false, false, false, false, false, false] rfl rfl (by kernel_rfl) (fun _ _ _ h => h) (Or.inl ⟨by rfl, ?_⟩) ?_ ?_
   rotate_left
   ·intro w'
    go_simp
    first | done | with_reducible rfl
   rotate_left
   ·simp only [Act.put, List.setIfInBounds_toArray, List.set_cons_zero, List.set_cons_succ]
    rfl
   refine pure_ (i := 5) (N := (some 13)) (v := ?_) (a' := ?_) #[true, true, true, true, true, true, false, false, false, false, false, false] rfl rfl (by kernel_rfl) (fun _ _ _ h => h) (Or.inl ⟨by rfl, ?_⟩) ?_ ?_
   rotate_left
   ·intro w'
    go_simp
    first | done | with_reducible rfl
   rotate_left
   ·simp only [Act.put, List.setIfInBounds_toArray, List.set_cons_zero, List.set_cons_succ]
    rfl
   refine take_ (i := 6) (N := (some 14)) (v := ?_) (a' := ?_) #[true, true, true, true, true, true, true, false, false, false, false, false] rfl rfl (by kernel_rfl) (fun _ _ _ h => h) (Or.inl ⟨by rfl, ?_⟩) hHeld ?_ ?_
   rotate_left
   ·intro w' hS'
    go_simp
    first | done | with_reducible rfl
   rotate_left
   ·simp only [Act.put, List.setIfInBounds_toArray, List.set_cons_zero, List.set_cons_succ]
    rfl
   refine pure_ (i := 7) (N := (some 15)) (v := ?_) (a' := ?_) #[true, true, true, true, true, true, true, true, false, false, false, false] rfl rfl (by kernel_rfl) (fun _ _ _ h => h) (Or.inl ⟨by rfl, ?_⟩) ?_ ?_
   rotate_left
   ·intro w'
    go_simp
    first | done | with_reducible rfl
   rotate_left
   ·simp only [Act.put, List.setIfInBounds_toArray, List.set_cons_zero, List.set_cons_succ]
    rfl
   refine pure_ (i := 8) (N := (some 16)) (v := ?_) (a' := ?_) #[true, true, true, true, true, true, true, true, true, false, false, false] rfl rfl (by kernel_rfl) (fun _ _ _ h => h) (Or.inl ⟨by rfl, ?_⟩) ?_ ?_
   rotate_left
   ·intro w'
    go_simp
    first | done | with_reducible rfl
   rotate_left
   ·simp only [Act.put, List.setIfInBounds_toArray, List.set_cons_zero, List.set_cons_succ]
    rfl
   refine pure_ (i := 9) (N := (some 17)) (v := ?_) (a' := ?_) #[true, true, true, true, true, true, true, true, true, true, false, false] rfl rfl (by kernel_rfl) (fun _ _ _ h => h) (Or.inl ⟨by rfl, ?_⟩) ?_ ?_
   rotate_left
   ·intro w'
    go_simp
    first | done | with_reducible rfl
   rotate_left
   ·simp only [Act.put, List.setIfInBounds_toArray, List.set_cons_zero, List.set_cons_succ]
    rfl
   refine last_ (i := 10) (N := (some 18)) #[true, true, true, true, true, true, true, true, true, true, true, false] rfl rfl (by kernel_rfl) (by decide) (fun K hK => ?_)
   have hcc := HCC.out
   rw [hcl] at hcc
   refine value_ (w1 := wr.drew.setRow hb (Sh.hc st.list (rest'.take (N % 64) ++ cs ++ rest'.drop (N % 64 + k)) N)) (v := .int .i64 k) (by rfl) rfl (by simp [execOp, resolve, invoke, builtin, Act.eval, hcc, Result.andThen, goInt]) ?_
   clear hcc
   refine hK.out _ _ ?_
   clear hK K
   refine norm_ (a' := ?_) ?_ ?_
   rotate_left
   ·show Act.put _ (some 18) _ = _
    simp only [Act.put, List.setIfInBounds_toArray, List.set_cons_zero, List.set_cons_succ]
    rfl
   refine pure_ (i := 11) (N := (some 4)) (v := ?_) (a' := ?_) #[true, true, true, true, true, true, true, true, true, true, true, true] rfl rfl (by kernel_rfl) (fun _ _ _ h => h) (Or.inl ⟨by rfl, ?_⟩) ?_ ?_
   rotate_left
   ·intro w'
    go_simp
    first | done | with_reducible rfl
   rotate_left
   ·simp only [Act.put, List.setIfInBounds_toArray, List.set_cons_zero, List.set_cons_succ]
    rfl
   refine done_ (by kernel_rfl) ?_
   obtain ⟨rest1, HR1⟩ : ∃ r, Aside0 (rest'.take (N % 64) ++ cs ++ rest'.drop (N % 64 + k) = r) := ⟨_, ⟨rfl⟩⟩
   rw [HR1.out]
   have H1 := Aside0.mk (show (wr.drew.setRow hb (Sh.hc st.list rest1 N)).heap[hb]? = some (.cells (Sh.hc st.list rest1 N) 138 (0, 0)) from setRow_heap wr.drew hb _ _ _ _ HST2.out)
   have G1 := Aside0.mk (show w.grownBy (wr.drew.setRow hb (Sh.hc st.list rest1 N)) (some hb) from Sh.gb_row (b := wr.drew) ⟨HG.out.os, HG.out.tape, HG.out.output, HG.out.size, HG.out.block⟩ _)
   generalize wr.drew.setRow hb (Sh.hc st.list rest1 N) = W1 at *
   have HR64 : rest1.length = 64 ∧ Sh.Bytes rest1 ∧ rest1.take (N % 64 + k) = Sh.tail (bs ++ l.take j) ++ cs := by
    have := Sh.rest_put (bs ++ l.take j) rest' cs HH.out.len HH.out.tl HH.out.by_ (fun x hx => HB.out x (List.mem_of_mem_drop (List.mem_of_mem_take (HCS.out ▸ hx)))) (by rw [HN.out, hcl]; omega)
    rw [HN.out, hcl, HR1.out] at this
    exact this
   clear HCC CN hs hHeld HST2
   obtain ⟨M, HMd⟩ : ∃ M, Aside0 (M = N + k) := ⟨_, ⟨rfl⟩⟩
   have hM : M = N + k := HMd.out
   have c1 : W1.cell? ⟨hb, 72, none⟩ = some (.int .u64 N) := by
    have := Sh.cellAt H1.out (8 + rest1.length) _ (Sh.hc_n st.list rest1 N)
    rw [HR64.1] at this
    exact this
   have f1 : W1.frozen? ⟨hb, 72, none⟩ = false := Sh.frozenAt H1.out 72
   have q1 := fun W => Sh.cut_run W (some (ad.add j)) (l.length - j) c' k hk1
   have q2 := fun W => Sh.cutAt_run W (some (ad.add j)) (l.length - j) c' k hk1
   obtain ⟨A2, HA2⟩ : ∃ A2, Aside0 ((if c' = k then some (ad.add j) else (some (ad.add j)).map (·.add k)) = A2) := ⟨_, ⟨rfl⟩⟩
   rw [HA2.out] at q1 q2
   have wk : IntKind.u64.wrap (k : Int) = k := Bt.wraps_u64 _ (by omega) (by omega)
   have wn : IntKind.u64.wrap ((N : Int) + k) = M := by rw [Bt.wraps_u64 _ (by omega) (by omega)]; omega
   have HW2 := Aside0.mk (show (W1.setCell ⟨hb, 72, none⟩ (.int .u64 M)).heap[hb]? = some (.cells (Sh.hc st.list rest1 M) 138 (0, 0)) from by rw [Sh.row_set H1.out, Sh.hc_setn _ _ _ _ HR64.1])
   have HTK : Aside0 (bs ++ l.take (j + k) = (bs ++ l.take j) ++ cs) := ⟨by rw [List.append_assoc, ← HCS.out, List.take_add]⟩
   have HML : Aside0 (M = (bs ++ l.take j).length + cs.length) := ⟨by rw [HN.out, hcl]; exact hM⟩
   clear hM
   by_cases hf : M % 64 = 0
   ·have ht : (M : Int).tmod 64 = 0 := by rw [Int.tmod_eq_emod_of_nonneg (by omega)]; omega
    refine NoPanic.normal ?_
    go_wp2_with fail
    have HM := Aside0.mk (mix_.calls hb st rest1 M _ HR64.1 HR64.2.1 (HW2.out) hb0 (HK.out.far (Sh.gb_set G1.out 72 (.int .u64 M)) hb0))
    refine HM.out.mono ?_
    rintro e w3 ⟨rfl, h3, g3⟩
    have H3 := Aside0.mk h3
    have G3 := Aside0.mk (Sh.gb_trans (Sh.gb_set G1.out 72 (.int .u64 M)) g3)
    clear h3 g3 HM
    go_wp2_with fail
    refine ⟨⟨j + k, A2, c' - k, rest1, by rw [Nat.sub_sub], by omega, by omega, ⟨fun hjk => ?_⟩, ⟨?_⟩, ⟨?_⟩⟩, by show l.length - j - k < l.length - j; omega⟩
    ·refine ⟨ad, rfl, ?_⟩
     rw [← HA2.out, if_neg (by omega)]
     show some ((ad.add j).add k) = _
     rw [Sh.add_add]
    ·rw [HTK.out]
     exact (Sh.ha_next (bs ++ l.take j) cs rest1 M HML.out HR64.1 HR64.2.1 (by rw [HN.out, hcl]; omega) (by omega) (by rw [HN.out, hcl]; exact HR64.2.2)).1 hf (by rw [HST.out]; exact H3.out)
    ·exact G3.out
   ·have ht : ¬ (M : Int).tmod 64 = 0 := by rw [Int.tmod_eq_emod_of_nonneg (by omega)]; omega
    refine NoPanic.normal ?_
    go_wp2_with fail
    refine ⟨⟨j + k, A2, c' - k, rest1, by rw [Nat.sub_sub], by omega, by omega, ⟨fun hjk => ?_⟩, ⟨?_⟩, ⟨?_⟩⟩, by show l.length - j - k < l.length - j; omega⟩
    ·refine ⟨ad, rfl, ?_⟩
     rw [← HA2.out, if_neg (by omega)]
     show some ((ad.add j).add k) = _
     rw [Sh.add_add]
    ·rw [HTK.out]
     exact (Sh.ha_next (bs ++ l.take j) cs rest1 M HML.out HR64.1 HR64.2.1 (by rw [HN.out, hcl]; omega) (by omega) (by rw [HN.out, hcl]; exact HR64.2.2)).2 hf (by rw [HST.out]; exact HW2.out)
    ·exact Sh.gb_set G1.out 72 (.int .u64 M)
  ·obtain rfl : j = l.length := by omega
   go_wp2_with fail
   refine ⟨rfl, .tuple #[], by simp [results, Tryd.results60, go_sem], rfl, ⟨rest', ?_⟩, HG.out⟩
   have := HH.out
   rwa [List.take_length] at this
end Go.Proofs.YtgljicdpcapgnaaDoor
set_option linter.unusedVariables false
set_option linter.unusedSimpArgs false
namespace Go.Proofs.YtgljicdpcapgnaaDoor
open Go.RowKit Go.Proofs.YtgljicdpcapgnaaDoorW.PrintWords Go.Proofs.YtgljicdpcapgnaaDoorW.PrintLast
namespace Sh
theorem ha_new (w : World) : Ha (w.alloc (.cells (hc v0.list (List.replicate 64 0) 0) 138)) w.heap.size [] (List.replicate 64 0) :=
  ⟨rfl, rfl, by intro x hx; obtain ⟨_, rfl⟩ := List.mem_replicate.1 hx; omega, heap_alloc_new _ _⟩
def z73 : Array Value := hc (List.replicate 8 0) (List.replicate 64 0) 0
theorem z73_size : z73.size = 73 := rfl
theorem z73_zero (w : World) : (zeroValue 138).run Tryd.prog w = .ok (.agg z73) w := by kernel_rfl
theorem z73_set : ((((((((z73.setIfInBounds 0 (.int .u32 1779033703)).setIfInBounds 1 (.int .u32 3144134277)).setIfInBounds 2 (.int .u32 1013904242)).setIfInBounds 3 (.int .u32 2773480762)).setIfInBounds 4 (.int .u32 1359893119)).setIfInBounds 5 (.int .u32 2600822924)).setIfInBounds 6 (.int .u32 528734635)).setIfInBounds 7 (.int .u32 1541459225)) = hc v0.list (List.replicate 64 0) 0 := by kernel_rfl
end Sh
set_option maxHeartbeats 1000000 in
set_option maxRecDepth 100000 in
theorem new_.calls (w : World) : Calls Tryd.prog 59 #[] w fun e w' => e = .returned (.pointer (some ⟨w.heap.size, 0, none⟩)) ∧ Sh.Ha w' w.heap.size [] (List.replicate 64 0) ∧ Below w.heap.size w w' := by
 have HN := Aside0.mk (Sh.ha_new w)
 have hz := Sh.z73_zero
 have hz2 := Sh.z73_size
 have hz3 := Sh.z73_set
 generalize Sh.hc Sh.v0.list (List.replicate 64 0) 0 = C at *
 generalize Sh.z73 = Z at *
 go_enter Tryd.func59, Tryd.ntmps59
 go_wp2_with fail
 go_ret
 exact ⟨rfl, HN.out, below_alloc (Below.refl _ _) _⟩
namespace Sh
def u8s (l : List Int) : Array Value := (l.map (Value.int .u8)).toArray
structure Sm (w : World) (bs : List Int) (rest : List Int) (wr : World) : Prop where
  o : wr.heap[w.heap.size]? = some (.cells (u8s (List.replicate 32 0)) 79 (0, 0))
  h : Ha wr (w.heap.size + 1) bs rest
  g : Below w.heap.size w wr
  k : Ks w
theorem u8s_at (l : List Int) (i : Nat) (h : i < l.length) : (u8s l)[i]? = some (.int .u8 (l.getD i 0)) := by
  simp [u8s, List.getD_eq_getElem?_getD, List.getElem?_eq_getElem h]
theorem u8s_set (l : List Int) (i : Nat) (x : Int) : (u8s l).setIfInBounds i (.int .u8 x) = u8s (l.set i x) := by
  simp [u8s, List.map_set]
theorem be8_take (x : Int) (i : Nat) (hi : i < 8) : (be8 x).take (i + 1) = (be8 x).take i ++ [x / 2 ^ (56 - 8 * i) % 256] := by
  rw [List.take_add_one]
  simp [be8, hi]
theorem put_next (xs : List Int) (n k : Nat) (hn : xs.length = n) (hk : k < n) (x : Int) (hx : xs.getD k 0 = x) : (xs.take k ++ List.replicate (n - k) 0).set k x = xs.take (k + 1) ++ List.replicate (n - (k + 1)) 0 := by
  have hl : (xs.take k).length = k := by rw [List.length_take]; omega
  rw [List.set_append_right _ _ (by omega), hl, Nat.sub_self, List.take_add_one, List.getElem?_eq_getElem (by omega), show n - k = (n - (k + 1)) + 1 by omega, List.replicate_succ]
  rw [List.getD_eq_getElem?_getD, List.getElem?_eq_getElem (by omega)] at hx
  simp only [Option.getD_some] at hx
  simp [hx]
theorem outs_at (s : V) (k : Nat) (hk : k < 32) : (outs s).getD k 0 = s.list.getD (k / 4) 0 / 2 ^ (24 - k % 4 * 8) % 256 := by
  simp [outs, List.getD_eq_getElem?_getD, hk]
structure S3 (w : World) (b : Nat) (C : Array Value) (L : List Int) (wr : World) : Prop where
  o : wr.heap[w.heap.size]? = some (.cells (u8s (List.replicate 32 0)) 79 (0, 0))
  h : wr.heap[w.heap.size + 1]? = some (.cells C 138 (0, 0))
  u : wr.heap[b]? = some (.cells (u8s L) 79 (0, 0))
  g : Below w.heap.size w wr
  lt : w.heap.size + 1 < b
theorem S3.put {w : World} {b : Nat} {C : Array Value} {L : List Int} {wr : World} (h : S3 w b C L wr) (k : Nat) (x : Int) : S3 w b C (L.set k x) (wr.setCell ⟨b, k, none⟩ (.int .u8 x)) :=
  ⟨row_far h.o _ (by have := h.lt; omega) _ _, row_far h.h _ (by have := h.lt; omega) _ _, by rw [row_set h.u, u8s_set], h.g.setCell (p := ⟨b, k, none⟩) (by show w.heap.size ≤ b; have := h.lt; omega) _, h.lt⟩
theorem Sm.write {w wr : World} {bs rest : List Int} (h : Sm w bs rest wr) (x : Int) (hx : 0 ≤ x ∧ x ≤ 255) (hl : bs.length + 1 ≤ 1099511627776) :
    Calls Tryd.prog 60 #[.pointer (some ⟨w.heap.size + 1, 0, none⟩), .slice (some ⟨wr.heap.size, 0, none⟩) 1 1] (wr.alloc (.cells #[.int .u8 x] 5)) fun e w' => e = .returned (.tuple #[]) ∧ ∃ rest', Sm w (bs ++ [x]) rest' w' := by
  have hlt : w.heap.size + 1 < wr.heap.size := (Array.getElem?_eq_some_iff.1 h.h.h).1
  have b1 : ∀ k, k < wr.heap.size → (wr.alloc (.cells #[.int .u8 x] 5)).heap[k]? = wr.heap[k]? := fun k hk => Below.heap_alloc _ _ _ hk
  have g1 : Below w.heap.size w (wr.alloc (.cells #[.int .u8 x] 5)) := h.g.alloc h.g.size _
  refine (write_.calls (w.heap.size + 1) bs rest (some ⟨wr.heap.size, 0, none⟩) 1 [x] _ ⟨h.h.len, h.h.tl, h.h.by_, (b1 _ hlt).trans h.h.h⟩ (by omega) (h.k.below g1) (Lit.reads_new wr #[.int .u8 x] 5 (0, 0) .u8 [x] rfl (by simp)) (Nat.le_refl _)
    (fun _ a e => by obtain rfl := Option.some.inj e; show wr.heap.size ≠ _; omega) (by intro y hy; obtain rfl := List.mem_singleton.1 hy; exact hx) (by simpa using hl)).mono ?_
  rintro e w' ⟨rfl, ⟨rest', h2⟩, g2⟩
  refine ⟨rfl, rest', ⟨?_, h2, ?_, h.k⟩⟩
  · exact (g2.block _ (by show w.heap.size < (wr.heap.push _).size; rw [Array.size_push]; omega) (by simp)).trans ((b1 _ (by omega)).trans h.o)
  · exact ⟨g2.os.trans g1.os, g2.tape.trans g1.tape, g2.output.trans g1.output, Nat.le_trans g1.size g2.size, fun k hk => (g2.block k (by show k < (wr.heap.push _).size; rw [Array.size_push]; omega) (by intro e; have := Option.some.inj e; omega)).trans (g1.block k hk)⟩
end Sh
set_option maxHeartbeats 2000000 in
set_option maxRecDepth 100000 in
theorem sum_.calls (hb : Nat) (bs rest : List Int) (w : World) (hH : Sh.Ha w hb bs rest) (hk : Sh.Ks w) (hby : Sh.Bytes bs) (hlen : bs.length ≤ 1099511000000) :
  Calls Tryd.prog 61 #[.pointer (some ⟨hb, 0, none⟩)] w fun e w' => e = .returned (.agg (Sh.u8s (Sh.dig bs))) ∧ Below w.heap.size w w' := by
 have HH := Aside0.mk hH
 have HK := Aside0.mk hk
 have hlt : hb < w.heap.size := (Array.getElem?_eq_some_iff.1 hH.h).1
 clear hH hk hby
 obtain ⟨C, HC⟩ : ∃ C, Aside0 (Sh.hc (Sh.state bs).list rest bs.length = C) := ⟨_, ⟨rfl⟩⟩
 have hz := Sh.z73_zero
 obtain ⟨Z, HZ⟩ : ∃ Z, Aside0 (Sh.z73 = Z) := ⟨_, ⟨rfl⟩⟩
 rw [HZ.out] at hz
 go_enter Tryd.func61, Tryd.ntmps61
 have HG1 : Aside0 ((w.alloc (.cells (Sh.u8s (List.replicate 32 0)) 79)).heap[hb]? = some (.cells C 138 (0, 0))) := ⟨by
  rw [← HC.out]
  exact (Below.heap_alloc _ _ _ hlt).trans HH.out.h⟩
 have HG2 : Aside0 (((w.alloc (.cells (Sh.u8s (List.replicate 32 0)) 79)).alloc (.cells Z 138)).heap[w.heap.size + 1]? = some (.cells Z 138 (0, 0))) := ⟨by
  have := heap_alloc_new (w.alloc (.cells (Sh.u8s (List.replicate 32 0)) 79)) (.cells Z 138)
  rwa [show (w.alloc (.cells (Sh.u8s (List.replicate 32 0)) 79)).heap.size = w.heap.size + 1 by show (w.heap.push _).size = _; simp] at this⟩
 have hCs : C.size = 73 := by rw [← HC.out]; simp [Sh.hc, Sh.list_length, HH.out.len]
 have HS : Aside0 ((Tryd.prog.info? 138).map (·.size) = some C.size) := ⟨by rw [hCs]; kernel_rfl⟩
 have HZC : Aside0 (Z.size = C.size) := ⟨by rw [hCs, ← HZ.out]; rfl⟩
 have HONE : Aside0 (C.all (·.oneCell') = true) := ⟨by rw [← HC.out]; simp [Sh.hc, Value.oneCell']⟩
 clear hCs
 have HSM : Aside0 (Sh.Sm w bs rest (((w.alloc (.cells (Sh.u8s (List.replicate 32 0)) 79)).alloc (.cells Z 138)).setRow (w.heap.size + 1) C)) := ⟨by
  refine ⟨?_, ⟨HH.out.len, HH.out.tl, HH.out.by_, ?_⟩, ?_, HK.out⟩
  ·rw [setRow_other _ _ _ _ (by omega)]
   exact (Below.heap_alloc _ _ _ (by show w.heap.size < (w.heap.push _).size; simp)).trans (heap_alloc_new _ _)
  ·rw [HC.out]
   exact setRow_heap _ _ _ _ _ _ HG2.out
  ·exact below_setRow (below_alloc (below_alloc (Below.refl _ _) _) _) (by omega) _⟩
 obtain ⟨N, HN⟩ : ∃ N, Aside0 (bs.length = N) := ⟨_, ⟨rfl⟩⟩
 have hN : N ≤ 1099511000000 := by rw [← HN.out]; exact hlen
 go_wp2_with (first | (refine wpList_load_row rfl 138 (.tmp 9) rfl hb rfl 138 C (0, 0) _ HG1.out Tryd.underlying138 rfl HS.out ?_) | (refine wpList_store_row rfl 138 (.tmp 3) (.tmp 10) rfl (w.heap.size + 1) C rfl rfl 138 Z HG2.out HS.out HZC.out HONE.out ?_; generalize hWq : World.setRow _ (w.heap.size + 1) C = W; have HM : Aside0 (Sh.Sm w bs rest W) := ⟨by rw [← hWq]; exact HSM.out⟩; have cn := Sh.cell_n HM.out.h; rw [HN.out] at cn; clear hWq))
 clear cn HG1 HG2 HSM HS HZC HONE HZ hz HC HH
 refine (HM.out.write 128 (by omega) (by rw [HN.out]; omega)).mono ?_
 rintro e w1 ⟨rfl, rest1, h1⟩
 have H1 := Aside0.mk h1
 clear h1 HM
 go_wp2_with fail
 go_loopw [20] (fun _ wr => ∃ (z : Nat) (rest' : List Int), z ≤ Sh.zeros N ∧ Aside0 (Sh.Sm w (bs ++ [128] ++ List.replicate z 0) rest' wr)) (fun _ wr => match wr.cell? ⟨w.heap.size + 1, 72, none⟩ with | some (.int _ n) => ((120 - n) % 64).toNat | _ => 0)
 case atStart => exact ⟨0, rest1, Nat.zero_le _, ⟨by simpa using H1.out⟩⟩
 case round =>
  clear H1
  obtain ⟨z, rest', hz, HM⟩ := hrel
  have hzn : Sh.zeros N = (119 - N % 64) % 64 := rfl
  have cm := Sh.cell_n HM.out.h
  obtain ⟨M, HMd⟩ : ∃ M, Aside0 ((bs ++ [128] ++ List.replicate z 0).length = M) := ⟨_, ⟨rfl⟩⟩
  have hM : M = N + 1 + z := by rw [← HMd.out, ← HN.out, List.length_append, List.length_append, List.length_replicate]; rfl
  rw [HMd.out] at cm
  by_cases hlt2 : z < Sh.zeros N
  ·have ht3 : ¬ (M : Int) % 64 = 56 := by omega
   have ht2 : ((M : Int) % 64 != 56) = true := by simpa using ht3
   clear ht3
   have HMN := Aside0.mk hM
   have HZN := Aside0.mk hzn
   clear hM hzn
   go_wp2_with fail
   refine (HM.out.write 0 (by omega) (by rw [HMd.out, HMN.out]; have := HZN.out; omega)).mono ?_
   rintro e w2 ⟨rfl, rest2, h2⟩
   have cm2 := Sh.cell_n h2.h
   have H2 : Aside0 (Sh.Sm w (bs ++ [128] ++ List.replicate (z + 1) 0) rest2 w2) := ⟨by
    rw [List.replicate_succ', ← List.append_assoc]; exact h2⟩
   rw [List.length_append, HMd.out] at cm2
   have CM := Aside0.mk cm
   have CM2 := Aside0.mk cm2
   clear h2 cm cm2 HM
   go_wp2_with fail
   refine ⟨⟨z + 1, rest2, by omega, H2⟩, ?_⟩
   rw [CM.out, CM2.out]
   simp only [List.length_cons, List.length_nil]
   have := HMN.out
   have := HZN.out
   omega
  ·obtain rfl : z = Sh.zeros N := by omega
   have ht : (M : Int) % 64 = 56 := by omega
   clear hM hzn
   go_wp2_with fail
   clear cm ht
   obtain ⟨P0, HP0⟩ : ∃ P, Aside0 (bs ++ [128] ++ List.replicate (Sh.zeros N) 0 = P) := ⟨_, ⟨rfl⟩⟩
   have HM0 : Aside0 (Sh.Sm w (P0 ++ (Sh.be8 (N * 8)).take 0) rest' wr) := ⟨by rw [← HP0.out]; simpa using HM.out⟩
   have HPL : Aside0 (P0.length = M) := ⟨by rw [← HP0.out]; exact HMd.out⟩
   have hMM : M ≤ N + 64 := by
    have : Sh.zeros N = (119 - N % 64) % 64 := rfl
    have := HMd.out
    rw [List.length_append, List.length_append, List.length_replicate, HN.out] at this
    simp only [List.length_cons, List.length_nil] at this
    omega
   clear HM HMd hz hlt2
   go_loopw [22] (fun v22 wr => ∃ (i : Nat) (rest' : List Int), v22 = .int .i64 i ∧ i ≤ 8 ∧ Aside0 (Sh.Sm w (P0 ++ (Sh.be8 (N * 8)).take i) rest' wr)) (fun v _ => 8 - (intOf v).toNat)
   case atStart => exact ⟨0, rest', rfl, by omega, HM0⟩
   case round =>
    clear HM0
    obtain ⟨i, rest', rfl, hi, HM⟩ := hrel
    by_cases hlt3 : i < 8
    ·go_wp2_with fail
     have hx0 : 0 ≤ (N : Int) * 8 / 2 ^ (56 - 8 * i) % 256 := by omega
     have hx1 : (N : Int) * 8 / 2 ^ (56 - 8 * i) % 256 ≤ 255 := by omega
     refine (HM.out.write _ ⟨hx0, hx1⟩ (by rw [List.length_append, HPL.out, List.length_take]; omega)).mono ?_
     rintro e w2 ⟨rfl, rest2, h2⟩
     have H2 : Aside0 (Sh.Sm w (P0 ++ (Sh.be8 (N * 8)).take (i + 1)) rest2 w2) := ⟨by
      rw [Sh.be8_take _ _ hlt3, ← List.append_assoc]; exact h2⟩
     clear h2 hx0 hx1 HM
     go_wp2_with fail
     exact ⟨⟨i + 1, rest2, by go_num, by omega, H2⟩, by simp [intOf]; omega⟩
    ·obtain rfl : i = 8 := by omega
     have HP : Aside0 (P0 ++ (Sh.be8 (N * 8)).take 8 = Sh.padded bs) := ⟨by
      rw [List.take_of_length_le (by rw [Sh.be8_length]; exact Nat.le_refl _), ← HP0.out, ← HN.out]; rfl⟩
     rw [HP.out] at HM
     obtain ⟨st, HST⟩ : ∃ st, Aside0 (Sh.state (Sh.padded bs) = st) := ⟨_, ⟨rfl⟩⟩
     obtain ⟨C3, HC3⟩ : ∃ C, Aside0 (Sh.hc st.list rest' (Sh.padded bs).length = C) := ⟨_, ⟨rfl⟩⟩
     have hltb : w.heap.size + 1 < wr.heap.size := (Array.getElem?_eq_some_iff.1 HM.out.h.h).1
     have HS3 : Aside0 (Sh.S3 w wr.heap.size C3 ((Sh.outs st).take 0 ++ List.replicate (32 - 0) 0) (wr.alloc (.cells (Sh.u8s (List.replicate 32 0)) 79))) := ⟨by
      refine ⟨(Below.heap_alloc _ _ _ (by omega)).trans HM.out.o, ?_, heap_alloc_new _ _, HM.out.g.alloc HM.out.g.size _, hltb⟩
      rw [← HC3.out, ← HST.out]
      exact (Below.heap_alloc _ _ _ hltb).trans HM.out.h.h⟩
     have HSUM : Aside0 (∀ j, j < 8 → C3[j]? = some (.int .u32 (st.list.getD j 0))) := ⟨fun j hj => by rw [← HC3.out]; exact Sh.hc_sum _ _ _ _ hj⟩
     have HD : Aside0 (Sh.dig bs = Sh.outs st) := ⟨by rw [Sh.dig, HST.out]⟩
     clear HM HP HP0 HPL HC3 HST
     go_wp2_with fail
     obtain ⟨b, HB⟩ : ∃ b, Aside0 (wr.heap.size = b) := ⟨_, ⟨rfl⟩⟩
     rw [HB.out] at HS3 ⊢
     go_loopw [34] (fun v34 wr => ∃ k : Nat, v34 = .int .i64 k ∧ k ≤ 32 ∧ Aside0 (Sh.S3 w b C3 ((Sh.outs st).take k ++ List.replicate (32 - k) 0) wr)) (fun v _ => 32 - (intOf v).toNat)
     case atStart => exact ⟨0, rfl, by omega, HS3⟩
     case round =>
      clear HS3
      obtain ⟨k, rfl, hk, HM⟩ := hrel
      by_cases hlt4 : k < 32
      ·have cs := Sh.cellAt HM.out.h (k / 4) _ (HSUM.out (k / 4) (by omega))
       have hl32 : ((Sh.outs st).take k ++ List.replicate (32 - k) 0).length = 32 := by rw [List.length_append, List.length_take, Sh.outs_length, List.length_replicate]; omega
       have cu := Sh.cellAt HM.out.u k _ (Sh.u8s_at _ k (by rw [hl32]; exact hlt4))
       have fu := Sh.frozenAt HM.out.u k
       clear hl32
       generalize ((Sh.outs st).take k ++ List.replicate (32 - k) 0).getD k 0 = old at cu
       go_wp2_with fail
       have HN2 : Aside0 (Sh.S3 w b C3 ((Sh.outs st).take (k + 1) ++ List.replicate (32 - (k + 1)) 0) (wr.setCell ⟨b, k, none⟩ (.int .u8 (st.list.getD (k / 4) 0 / 2 ^ (24 - k % 4 * 8) % 256)))) := ⟨by
        have := HM.out.put k (st.list.getD (k / 4) 0 / 2 ^ (24 - k % 4 * 8) % 256)
        rwa [Sh.put_next _ 32 k (Sh.outs_length st) hlt4 _ (Sh.outs_at st k hlt4)] at this⟩
       rw [List.getD_eq_getElem?_getD] at HN2
       exact ⟨⟨k + 1, by go_num, by omega, HN2⟩, by simp [intOf]; omega⟩
      ·obtain rfl : k = 32 := by omega
       have hL : (Sh.outs st).take 32 ++ List.replicate (32 - 32) 0 = Sh.outs st := by
        rw [List.take_of_length_le (by rw [Sh.outs_length]; exact Nat.le_refl _)]; simp
       rw [hL] at HM
       clear hL
       have hl32 : (Sh.outs st).length = 32 := Sh.outs_length st
       obtain ⟨D, HDD⟩ : ∃ D, Aside0 (Sh.u8s (Sh.outs st) = D) := ⟨_, ⟨rfl⟩⟩
       have hDs : D.size = 32 := by rw [← HDD.out]; simp [Sh.u8s, hl32]
       have HS : Aside0 ((Tryd.prog.info? 79).map (·.size) = some D.size) := ⟨by rw [hDs]; kernel_rfl⟩
       have HU : Aside0 (wr.heap[b]? = some (.cells D 79 (0, 0))) := ⟨by rw [← HDD.out]; exact HM.out.u⟩
       have HZ2 : Aside0 ((Sh.u8s (List.replicate 32 0)).size = D.size) := ⟨by rw [hDs]; rfl⟩
       have HONE : Aside0 (D.all (·.oneCell') = true) := ⟨by rw [← HDD.out]; simp [Sh.u8s, Value.oneCell']⟩
       have HO := Aside0.mk HM.out.o
       clear hDs hl32
       go_wp2_with (first | (refine wpList_load_row rfl 79 (.tmp 6) rfl b rfl 79 D (0, 0) _ HU.out Tryd.underlying79 rfl HS.out ?_) | (refine wpList_store_row rfl 79 (.tmp 2) (.tmp 51) rfl w.heap.size D rfl rfl 79 _ HO.out HS.out HZ2.out HONE.out ?_))
       refine ⟨rfl, .agg D, ?_, ?_, below_setRow HM.out.g (Nat.le_refl _) D⟩
       ·exact results_cell_row rfl _ _ w.heap.size 79 D (0, 0) _ rfl (setRow_heap wr w.heap.size _ D _ _ HO.out) Tryd.underlying79 rfl HS.out
       ·rw [HD.out, HDD.out]
end Go.Proofs.YtgljicdpcapgnaaDoor
set_option linter.unusedVariables false
set_option linter.unusedSimpArgs false
namespace Go.Proofs.YtgljicdpcapgnaaDoor
open Go.RowKit Go.Proofs.YtgljicdpcapgnaaDoorW.PrintWords
namespace Sh
open PBase
theorem rd_nat (l : List Int) (i : Nat) : rd l (i : Int) = l.getD i 0 := by simp [rd, List.getD_eq_getElem?_getD]
theorem w64 (x : Int) (h0 : -9223372036854775808 ≤ x) (h1 : x < 9223372036854775808) : wrap64 x = x := by unfold wrap64; omega
end Sh
end Go.Proofs.YtgljicdpcapgnaaDoor
set_option linter.unusedVariables false
set_option linter.unusedSimpArgs false
namespace Go.Proofs.YtgljicdpcapgnaaDoor
open Go.RowKit Go.Proofs.YtgljicdpcapgnaaDoorW.PrintWords Go.Proofs.YtgljicdpcapgnaaDoorW.PrintLast Go.Proofs.YtgljicdpcapgnaaDoorW.PrintMore
namespace Sh
structure Rm (w : World) (v : Value) (acc : List Int) (wr : World) : Prop where
  o : wr.heap[w.heap.size]? = some (.cells (u8s (List.replicate 32 0)) 79 (0, 0))
  r : Kd.R (Kd.int .u8) 5 wr w.heap.size (fun k => w.heap.size < k) v acc
  g : Below w.heap.size w wr
theorem Rm.next {w wr w2 : World} {v v1 : Value} {acc acc1 : List Int} (h : Rm w v acc wr) (hr : Kd.R (Kd.int .u8) 5 w2 w.heap.size (fun k => w.heap.size < k) v1 acc1) (hb : Below w.heap.size w w2) (hg : wr.grownBy w2 v.ownBlock) : Rm w v1 acc1 w2 :=
  ⟨(hg.block _ (Array.getElem?_eq_some_iff.1 h.o).1 (fun e => by have := h.r.1 _ e.symm; omega)).trans h.o, hr, hb⟩
theorem Rm.lt {w wr : World} {v : Value} {acc : List Int} (h : Rm w v acc wr) : w.heap.size < wr.heap.size := (Array.getElem?_eq_some_iff.1 h.o).1
structure S4 (w3 : World) (L : List Int) (wr : World) : Prop where
  u : wr.heap[w3.heap.size]? = some (.cells (u8s L) 79 (0, 0))
  g : Below w3.heap.size w3 wr
theorem S4.put {w3 : World} {L : List Int} {wr : World} (h : S4 w3 L wr) (k : Nat) (x : Int) : S4 w3 (L.set k x) (wr.setCell ⟨w3.heap.size, k, none⟩ (.int .u8 x)) :=
  ⟨by rw [row_set h.u, u8s_set], h.g.setCell (p := ⟨w3.heap.size, k, none⟩) (Nat.le_refl _) _⟩
end Sh
end Go.Proofs.YtgljicdpcapgnaaDoor
set_option linter.unusedVariables false
set_option linter.unusedSimpArgs false
namespace Go.Proofs.YtgljicdpcapgnaaDoor
open Go.RowKit Go.Proofs.YtgljicdpcapgnaaDoorW.PrintWords Go.Proofs.YtgljicdpcapgnaaDoorW.PrintLast Go.Proofs.YtgljicdpcapgnaaDoorW.PrintMore
namespace Sh
theorem dig_length (l : List Int) : (dig l).length = 32 := by rw [dig]; exact outs_length _
theorem below_of_gb {w a b : World} {k : Nat} (h : Below w.heap.size w a) (hg : a.grownBy b (some k)) (hk : w.heap.size ≤ k) : Below w.heap.size w b :=
  ⟨hg.os.trans h.os, hg.tape.trans h.tape, hg.output.trans h.output, Nat.le_trans h.size hg.size, fun j hj => (hg.block j (Nat.lt_of_lt_of_le hj h.size) (fun e => by have := Option.some.inj e; omega)).trans (h.block j hj)⟩
theorem Ha.below {w W : World} {b : Nat} {bs rest : List Int} (h : Ha w b bs rest) (hb : Below w.heap.size w W) : Ha W b bs rest :=
  ⟨h.len, h.tl, h.by_, (hb.block _ (Array.getElem?_eq_some_iff.1 h.h).1).trans h.h⟩
theorem far_of_C {w : World} {A : Option Addr} {n : Nat} {l : List Int} (h : Kd.C (Kd.int .u8) w A n l) (hl : 0 < l.length) {a : Addr} (e : A = some a) {b : Nat} (hb : w.heap.size ≤ b) : a.block ≠ b := by
  obtain ⟨h1, _, h3⟩ := Kd.reads_of_C (d := (0 : Int)) h
  obtain ⟨ad, e2, hc⟩ := h3 (by omega)
  obtain rfl := Option.some.inj (e.symm.trans e2)
  have := World.block_lt_of_cell? w _ (hc 0 (by omega))
  rw [add_block] at this
  omega
theorem Ha.lt {w : World} {b : Nat} {bs rest : List Int} (h : Ha w b bs rest) : b < w.heap.size := (Array.getElem?_eq_some_iff.1 h.h).1
end Sh
end Go.Proofs.YtgljicdpcapgnaaDoor
set_option linter.unusedVariables false
set_option linter.unusedSimpArgs false
namespace Go.Proofs.YtgljicdpcapgnaaDoor.Sh
open Go.RowKit Go.Proofs.YtgljicdpcapgnaaDoorW.PrintWords
def turn (l : List Int) (t : Int) : List Int := l.map fun x => bits .xor .u8 x t
def kblock (key : List Int) : List Int := if 64 < key.length then dig key ++ List.replicate 32 0 else key ++ List.replicate (64 - key.length) 0
def hm (key b : List Int) : List Int := dig (turn (kblock key) 92 ++ dig (turn (kblock key) 54 ++ b))
def cat (ps : Nat → List Int) : Nat → List Int
  | 0 => []
  | i + 1 => cat ps i ++ ps i
theorem cat_bytes (ps : Nat → List Int) (n : Nat) (h : ∀ i, i < n → Bytes (ps i)) : ∀ i, i ≤ n → Bytes (cat ps i)
  | 0, _ => by intro x hx; cases hx
  | i + 1, hi => by
    intro x hx
    rcases List.mem_append.1 hx with hx | hx
    · exact cat_bytes ps n h i (by omega) x hx
    · exact h i (by omega) x hx
theorem turn_length (l : List Int) (t : Int) : (turn l t).length = l.length := by simp [turn]
theorem turn_bytes (l : List Int) (t : Int) : Bytes (turn l t) := by
  intro x hx
  obtain ⟨y, _, rfl⟩ := List.mem_map.1 hx
  exact ⟨bits_lo_u8 _ _ _, bits_hi_u8 _ _ _⟩
theorem outs_bytes (s : V) : Bytes (outs s) := by
  intro x hx
  simp only [outs, List.mem_map] at hx
  obtain ⟨i, _, rfl⟩ := hx
  omega
theorem dig_bytes (l : List Int) : Bytes (dig l) := outs_bytes _
theorem rep_bytes (n : Nat) : Bytes (List.replicate n 0) := by
  intro x hx
  obtain ⟨_, rfl⟩ := List.mem_replicate.1 hx
  omega
theorem app_bytes {a b : List Int} (ha : Bytes a) (hb : Bytes b) : Bytes (a ++ b) := by
  intro x hx
  rcases List.mem_append.1 hx with h | h
  · exact ha x h
  · exact hb x h
theorem kblock_length (key : List Int) : (kblock key).length = 64 := by
  unfold kblock
  split
  · rw [List.length_append, dig_length, List.length_replicate]
  · rw [List.length_append, List.length_replicate]; omega
theorem kblock_bytes (key : List Int) (h : Bytes key) : Bytes (kblock key) := by
  unfold kblock
  split
  · exact app_bytes (dig_bytes _) (rep_bytes _)
  · exact app_bytes h (rep_bytes _)
def some64 (l : List Int) (t : Int) (k : Nat) : List Int := (turn l t).take k ++ l.drop k
theorem some64_length (l : List Int) (t : Int) (k : Nat) : (some64 l t k).length = l.length := by
  unfold some64; rw [List.length_append, List.length_take, List.length_drop, turn_length]; omega
theorem some64_at (l : List Int) (t : Int) (k : Nat) (hk : k < l.length) : (some64 l t k).getD k 0 = l.getD k 0 ∧ (some64 l t k).set k (bits .xor .u8 (l.getD k 0) t) = some64 l t (k + 1) := by
  have hl : ((turn l t).take k).length = k := by rw [List.length_take, turn_length]; omega
  constructor
  · unfold some64
    rw [List.getD_eq_getElem?_getD, List.getElem?_append_right (by omega), hl, Nat.sub_self, List.getElem?_drop, Nat.add_zero, List.getD_eq_getElem?_getD]
  · unfold some64
    rw [List.set_append_right _ _ (by omega), hl, Nat.sub_self, List.take_add_one, List.drop_eq_getElem_cons hk]
    have : (turn l t)[k]? = some (bits .xor .u8 (l.getD k 0) t) := by
      simp [turn, List.getElem?_map, List.getElem?_eq_getElem hk, List.getD_eq_getElem?_getD]
    rw [this, Option.toList_some, List.append_assoc, List.set_cons_zero]
    rfl
end Go.Proofs.YtgljicdpcapgnaaDoor.Sh
set_option linter.unusedVariables false
set_option linter.unusedSimpArgs false
namespace Go.Proofs.YtgljicdpcapgnaaDoor.Ps
open Go.RowKit
abbrev Tk := Int × Int × Bool × Int
abbrev Tn := PBase.S58
def zt : Tk := (0, 0, false, 0)
def be : Nat → Int → List Int
  | 0, _ => []
  | n + 1, x => x / 256 ^ n % 256 :: be n x
def fr (a : Int) (l : List Int) : Int := l.foldl (fun n x => n * 256 + x) a
def num (l : List Int) : Int := fr 0 l
def flag (b : Bool) : Int := if b then 1 else 0
def body (t : Tk) : List Int := 1 :: (be 4 t.1 ++ (be 4 t.2.1 ++ (be 8 t.2.2.2 ++ [flag t.2.2.1])))
def tok (b : List Int) : Tk := (num ((b.drop 1).take 4), num ((b.drop 5).take 4), b.getD 17 0 == 1, num ((b.drop 9).take 8))
def form (b : List Int) : Bool := decide (b.length = 50 ∧ b.getD 0 0 = 1 ∧ b.getD 17 0 ≤ 1)
def txt (l : List Int) : ByteArray := ⟨(Sp.enc (Sp.bitsOf l)).toArray⟩
def got (s : ByteArray) : List Int := (Sp.readOf (Sp.bs s)).1
def is (s : ByteArray) : Bool := decide ((Sp.readOf (Sp.bs s)).2 = 0) && form (got s)
def look (s : ByteArray) : Tk × Int := if is s = true then (tok (got s), 0) else (zt, 50)
def find (l : List Tn) (id : Int) : Option Tn := l.find? fun x => x.f0 == id
def verdict (x : Tn) (b : List Int) : Tk × Int :=
  if Sh.hm x.f1 (b.take 18) ≠ b.drop 18 then (zt, 52) else if (tok b).2.1 ∈ x.f4 then (zt, 53) else if (tok b).2.2.2 = 0 ∨ (tok b).2.2.2 > x.f3 then (zt, 54) else (tok b, 0)
def check (l : List Tn) (s : ByteArray) : Tk × Int := if is s = true then (match find l (tok (got s)).1 with | none => (zt, 51) | some x => verdict x (got s)) else (zt, 50)
def good : List Tn → List Tn → Bool
  | _, [] => true
  | acc, x :: xs => ((find acc x.f0).isNone && decide (0 < x.f1.length)) && good (acc ++ [x]) xs
def TnWf (x : Tn) : Prop := (0 ≤ x.f0 ∧ x.f0 < 4294967296) ∧ x.f1.length ≤ 1000 ∧ x.f4.length ≤ 1000 ∧ Sh.Bytes x.f1
def TkWf (t : Tk) : Prop := (0 ≤ t.1 ∧ t.1 < 4294967296) ∧ (0 ≤ t.2.1 ∧ t.2.1 < 4294967296) ∧ (0 ≤ t.2.2.2 ∧ t.2.2.2 < 18446744073709551616)
theorem be_len : ∀ (n : Nat) (x : Int), (be n x).length = n
  | 0, _ => rfl
  | n + 1, x => by simp [be, be_len n x]
theorem fr_append (a : Int) (l m : List Int) : fr a (l ++ m) = fr (fr a l) m := List.foldl_append
theorem fr_is (l : List Int) : ∀ a, fr a l = a * 256 ^ l.length + fr 0 l := by
  induction l with
  | nil => intro a; simp [fr]
  | cons c r ih =>
    intro a
    have h1 : fr a (c :: r) = fr (a * 256 + c) r := rfl
    have h2 : fr 0 (c :: r) = fr (0 * 256 + c) r := rfl
    rw [h1, h2, ih, ih (0 * 256 + c), List.length_cons, Int.pow_succ]
    rw [Int.add_mul, Int.add_mul]
    have : a * 256 * 256 ^ r.length = a * (256 ^ r.length * 256) := by rw [Int.mul_assoc, Int.mul_comm 256]
    rw [this]
    omega
theorem pow_pos (n : Nat) : (0 : Int) < 256 ^ n := Int.pow_pos (by decide)
theorem pow_mono (m n : Nat) (h : m ≤ n) : (256 : Int) ^ m ≤ 256 ^ n := by
  rw [show (256 : Int) = ((256 : Nat) : Int) from rfl, ← Int.natCast_pow, ← Int.natCast_pow]
  exact Int.ofNat_le.2 (Nat.pow_le_pow_right (by decide) h)
theorem num_range (l : List Int) (h : Sh.Bytes l) : 0 ≤ num l ∧ num l < 256 ^ l.length := by
  induction l with
  | nil => simp [num, fr]
  | cons c r ih =>
    have hc := h c List.mem_cons_self
    have ih := ih fun x hx => h x (List.mem_cons_of_mem _ hx)
    unfold num at ih ⊢
    have h1 : fr 0 (c :: r) = fr (0 * 256 + c) r := rfl
    rw [h1, fr_is, Int.zero_mul, Int.zero_add, List.length_cons, Int.pow_succ]
    have p := pow_pos r.length
    have q0 : 0 ≤ c * 256 ^ r.length := Int.mul_nonneg hc.1 (by omega)
    have q1 : c * 256 ^ r.length ≤ 255 * 256 ^ r.length := Int.mul_le_mul_of_nonneg_right hc.2 (by omega)
    omega
theorem hm_len (k b : List Int) : (Sh.hm k b).length = 32 := Sh.dig_length _
theorem hm_bytes (k b : List Int) : Sh.Bytes (Sh.hm k b) := Sh.dig_bytes _
theorem got_of (s : ByteArray) (h : is s = true) : form (got s) = true ∧ Sh.Bytes (got s) ∧ s = txt (got s) := by
  unfold is at h
  rw [Bool.and_eq_true, decide_eq_true_eq] at h
  obtain ⟨h1, h2⟩ := h
  obtain ⟨a, b, c⟩ := Sp.readOf_ok s h1
  refine ⟨h2, b, ?_⟩
  unfold txt got
  rw [a]
theorem tok_wf (b : List Int) (hb : Sh.Bytes b) : TkWf (tok b) := by
  have hsub : ∀ i n, Sh.Bytes ((b.drop i).take n) := fun i n x hx => hb x (List.mem_of_mem_drop (List.mem_of_mem_take hx))
  have key : ∀ i n, 0 ≤ num ((b.drop i).take n) ∧ num ((b.drop i).take n) < 256 ^ n := fun i n => by
    have h1 := num_range _ (hsub i n)
    have h2 : ((b.drop i).take n).length ≤ n := by rw [List.length_take]; exact Nat.min_le_left _ _
    have h3 : (256 : Int) ^ ((b.drop i).take n).length ≤ 256 ^ n := by
      exact pow_mono _ _ h2
    omega
  have k1 := key 1 4
  have k2 := key 5 4
  have k3 := key 9 8
  rw [show (256 : Int) ^ 4 = 4294967296 by decide] at k1 k2
  rw [show (256 : Int) ^ 8 = 18446744073709551616 by decide] at k3
  exact ⟨k1, k2, k3⟩
end Go.Proofs.YtgljicdpcapgnaaDoor.Ps
set_option linter.unusedVariables false
set_option linter.unusedSimpArgs false
namespace Go.Proofs.YtgljicdpcapgnaaDoor.Wk
open Go.RowKit Go.Proofs.YtgljicdpcapgnaaDoorW.PrintWords Go.Proofs.YtgljicdpcapgnaaDoorW.PrintLast
structure Blk (w : World) (g : Nat) (t : TypeId) (cs : List Value) : Prop where mk :: (out : w.heap[g]? = some (.cells cs.toArray t (0, 0)))
structure Only (w w' : World) (g : Nat) : Prop where
  os : w'.os = w.os
  tape : w'.tape = w.tape
  output : w'.output = w.output
  size : w'.heap.size = w.heap.size
  block : ∀ k, k ≠ g → w'.heap[k]? = w.heap[k]?
section
variable {w w' w0 : World} {g : Nat} {t : TypeId} {cs : List Value}
theorem Blk.lt (h : Blk w g t cs) : g < w.heap.size := (Array.getElem?_eq_some_iff.1 h.out).1
theorem Blk.cell (h : Blk w g t cs) (i : Nat) : w.cell? ⟨g, i, none⟩ = cs[i]? := by rw [cell_of_row w g i _ t (0, 0) h.out]; simp
theorem Blk.at_ (h : Blk w g t cs) (i : Nat) {v : Value} (hv : cs[i]? = some v) : w.cell? ⟨g, i, none⟩ = some v := (h.cell i).trans hv
theorem Blk.frozen (h : Blk w g t cs) (i : Nat) : w.frozen? ⟨g, i, none⟩ = false := blk_frozen h.out i
theorem Blk.new (w : World) (t : TypeId) (cs : List Value) : Blk (w.alloc (.cells cs.toArray t)) w.heap.size t cs := ⟨heap_alloc_new w _⟩
theorem Blk.alloc (h : Blk w g t cs) (o : Obj) : Blk (w.alloc o) g t cs := ⟨(Below.heap_alloc w o g h.lt).trans h.out⟩
theorem Blk.drew (h : Blk w g t cs) : Blk w.drew g t cs := ⟨h.out⟩
theorem Blk.below {B : Nat} (h : Blk w g t cs) (hb : Below B w w') (hg : g < B) : Blk w' g t cs := ⟨(hb.block g hg).trans h.out⟩
theorem Blk.below_ (h : Blk w g t cs) (hb : Below w.heap.size w w') : Blk w' g t cs := h.below hb h.lt
theorem Blk.grown {row : Option Nat} (h : Blk w g t cs) (hb : w.grownBy w' row) (hg : some g ≠ row) : Blk w' g t cs := ⟨(hb.block g h.lt hg).trans h.out⟩
theorem Blk.only {g' : Nat} (h : Blk w g t cs) (hb : Only w w' g') (hg : g ≠ g') : Blk w' g t cs := ⟨(hb.block g hg).trans h.out⟩
theorem Blk.ne_ {g' : Nat} {t' : TypeId} {cs' : List Value} (h : Blk w g t cs) (h' : Blk w g' t' cs') (hne : t ≠ t') : g ≠ g' := blk_ne h.out h'.out hne
theorem Blk.far (h : Blk w g t cs) {p : Addr} (hp : g ≠ p.block) (u : Value) : Blk (w.setCell p u) g t cs := ⟨(Below.heap_setCell w p u g hp).trans h.out⟩
theorem Only.grown (h : Only w w' g) : w.grownBy w' (some g) := ⟨h.os, h.tape, h.output, Nat.le_of_eq h.size.symm, fun k _ hk => h.block k (fun e => hk (by rw [e]))⟩
theorem Only.below {B : Nat} (hB : Below B w0 w) (h : Only w w' g) (hg : B ≤ g) : Below B w0 w' :=
  hB.trans ⟨h.os, h.tape, h.output, Nat.le_of_eq h.size.symm, fun k hk => h.block k (by omega)⟩
theorem only_setCells (w : World) (g off : Nat) (vs : List Value) : Only w (w.setCells g off vs) g :=
  ⟨(setCells_same g vs off w).1, (setCells_same g vs off w).2.1, (setCells_same g vs off w).2.2.1, (setCells_same g vs off w).2.2.2, fun k hk => setCells_far vs off k hk⟩
theorem Only.fresh {B : Nat} {o : Obj} (hB : Below B w0 w) (hBs : B ≤ w.heap.size) (h : Only (w.alloc o) w' w.heap.size) : w'.heap.size = w.heap.size + 1 ∧ Below B w0 w' ∧ Below w.heap.size w w' := by
  refine ⟨by rw [h.size]; simp, Only.below (hB.alloc hBs o) h hBs, Only.below ((Below.refl _ _).alloc (Nat.le_refl _) o) h (Nat.le_refl _)⟩
def over (cs : List Value) (off : Nat) (vs : List Value) : List Value := cs.take off ++ vs ++ cs.drop (off + vs.length)
theorem over_all (cs vs : List Value) (h : vs.length = cs.length) : over cs 0 vs = vs := by
  unfold over
  rw [Nat.zero_add, h, List.drop_length]
  simp
theorem blk_setCells (h : Blk w g t cs) (off : Nat) (vs : List Value) (hl : off + vs.length ≤ cs.length) : Blk (w.setCells g off vs) g t (over cs off vs) := by
  obtain ⟨cur, h1, _, h3⟩ := setCells_row vs off w _ h.out (by simpa using hl)
  refine ⟨h1.trans ?_⟩
  have : cur = (over cs off vs).toArray := by
    apply Array.ext'
    rw [h3]
    simp [over]
  rw [this]
end
section
variable {P : Program} {ops : Array Oper} {rest : List Oper} {o : Oper} {a : Act} {w : World} {Q : Exit → Act → World → Prop} {K : Act → World → Prop}
theorem run_store (t : TypeId) (g off : Nat) (u : Value) (seg : List Value) (e : TypeId) (cur : List Value) (hh : Blk w g e cur) (hu : u.cells.toList = seg) (ht : (P.info? t).map (·.size) = some seg.length) (hfit : off + seg.length ≤ cur.length) (h1 : seg.all (·.oneCell') = true) :
    (Instr.storeAt t (.pointer (some ⟨g, off, none⟩)) u).run P w = .ok () (w.setCells g off seg) :=
  run_store_run t u seg hh.out hu ht (by simpa using hfit) (List.all_eq_true.1 h1)
theorem wp_store (hN : o.dst = none) (t : TypeId) (p x : Operand) (ho : o.op = .store t p x) (g off : Nat) (u : Value) (seg : List Value) (hp : a.eval p = .pointer (some ⟨g, off, none⟩)) (hx : a.eval x = u) (hu : u.cells.toList = seg)
    (e : TypeId) (cur : List Value) (hh : Blk w g e cur) (ht : (P.info? t).map (·.size) = some seg.length) (hfit : off + seg.length ≤ cur.length) (h1 : seg.all (·.oneCell') = true)
    (h : ∀ w', Blk w' g e (over cur off seg) → Only w w' g → K a w') : o.wp P a w K Q := by
  unfold Oper.wp execOp
  simp only [ho, hp, hx, Sem.run_bind, Sem.run_pure, Result.andThen_ok, run_store t g off u seg e cur hh hu ht hfit h1]
  show K (a.put o.dst undef) _
  rw [hN]
  exact h _ (blk_setCells hh off seg hfit) (only_setCells w g off seg)
theorem store (hgd : o.guard = none) (hN : o.dst = none) (t : TypeId) (p x : Operand) (ho : o.op = .store t p x) (g off : Nat) (u : Value) (seg : List Value) (hp : a.eval p = .pointer (some ⟨g, off, none⟩)) (hx : a.eval x = u) (hu : u.cells.toList = seg)
    (e : TypeId) (cur : List Value) (hh : Blk w g e cur) (ht : (P.info? t).map (·.size) = some seg.length) (hfit : off + seg.length ≤ cur.length) (h1 : seg.all (·.oneCell') = true)
    (h : ∀ w', Blk w' g e (over cur off seg) → Only w w' g → wpList P ops Q rest a w') : wpList P ops Q (o :: rest) a w :=
  wpList_plain hgd fun K hK => wp_store hN t p x ho g off u seg hp hx hu e cur hh ht hfit h1 (fun w' h2 h3 => hK _ _ (h w' h2 h3))
theorem store_all (hgd : o.guard = none) (hN : o.dst = none) (t : TypeId) (p x : Operand) (ho : o.op = .store t p x) (g : Nat) (seg : List Value) (hp : a.eval p = .pointer (some ⟨g, 0, none⟩)) (hx : a.eval x = .agg seg.toArray)
    (e : TypeId) (cur : List Value) (hh : Blk w g e cur) (ht : (P.info? t).map (·.size) = some seg.length) (hfit : seg.length = cur.length) (h1 : seg.all (·.oneCell') = true)
    (h : ∀ w', Blk w' g e seg → Only w w' g → wpList P ops Q rest a w') : wpList P ops Q (o :: rest) a w :=
  store hgd hN t p x ho g 0 _ seg hp hx (by simp [Value.cells]) e cur hh ht (by omega) h1 (fun w' h2 h3 => h w' (by rw [over_all cur seg hfit] at h2; exact h2) h3)
theorem store_all_step {N : Option Tmp} (hw : Region.wanted o (yielded ops a.tmps) = true) (hN : o.dst = none) (t : TypeId) (p x : Operand) (ho : o.op = .store t p x) (g : Nat) (seg : List Value) (hp : a.eval p = .pointer (some ⟨g, 0, none⟩)) (hx : a.eval x = .agg seg.toArray)
    (e : TypeId) (cur : List Value) (hh : Blk w g e cur) (ht : (P.info? t).map (·.size) = some seg.length) (hfit : seg.length = cur.length) (h1 : seg.all (·.oneCell') = true)
    (h : ∀ w', Blk w' g e seg → Only w w' g → K a w') : if Region.wanted o (yielded ops a.tmps) = true then Oper.wp P o a w K Q else K (a.put N undef) w := by
  rw [if_pos hw]
  exact wp_store hN t p x ho g 0 _ seg hp hx (by simp [Value.cells]) e cur hh ht (by omega) h1 (fun w' h2 h3 => h w' (by rw [over_all cur seg hfit] at h2; exact h2) h3)
theorem store_step {N : Option Tmp} (hw : Region.wanted o (yielded ops a.tmps) = true) (hN : o.dst = none) (t : TypeId) (p x : Operand) (ho : o.op = .store t p x) (g off : Nat) (u : Value) (seg : List Value) (hp : a.eval p = .pointer (some ⟨g, off, none⟩)) (hx : a.eval x = u) (hu : u.cells.toList = seg)
    (e : TypeId) (cur : List Value) (hh : Blk w g e cur) (ht : (P.info? t).map (·.size) = some seg.length) (hfit : off + seg.length ≤ cur.length) (h1 : seg.all (·.oneCell') = true)
    (h : ∀ w', Blk w' g e (over cur off seg) → Only w w' g → K a w') : if Region.wanted o (yielded ops a.tmps) = true then Oper.wp P o a w K Q else K (a.put N undef) w := by
  rw [if_pos hw]
  exact wp_store hN t p x ho g off u seg hp hx hu e cur hh ht hfit h1 h
theorem run_load (t : TypeId) (g off : Nat) (seg : List Value) (d : TypeDesc) (hc : ∀ j v, seg[j]? = some v → w.cell? ⟨g, off + j, none⟩ = some v) (hu : P.underlying t = some d) (hd : (match d with | .struct _ | .array _ _ => true | _ => false) = true) (ht : (P.info? t).map (·.size) = some seg.length) :
    (Instr.loadAt t (.pointer (some ⟨g, off, none⟩))).run P w = .ok (.agg seg.toArray) w := by
  obtain ⟨i, hi, hsz⟩ := Option.map_eq_some_iff.1 ht
  have hl : (loadCells ⟨g, off, none⟩ seg.length).run P w = .ok seg.toArray w :=
    run_loadCells_list (P := P) w ⟨g, off, none⟩ seg (fun j v hv => by
      have hadd : (⟨g, off, none⟩ : Addr).add j = ⟨g, off + j, none⟩ := by unfold Addr.add; split <;> simp_all
      rw [hadd]
      exact hc j v hv)
  have hagg : (isAgg t).run P w = .ok true w := by
    unfold isAgg
    rw [Sem.run_bind, run_underlying hu w]
    cases d <;> simp_all
  simp [Instr.loadAt, Instr.sureAddr, loadVar, Sem.run_bind, hagg, sizeOf, typeInfo, hi, hsz, hl]
theorem run_load_blk (t : TypeId) (g off : Nat) (seg : List Value) (d : TypeDesc) {e : TypeId} {cur : List Value} (hh : Blk w g e cur) (hseg : (cur.drop off).take seg.length = seg) (hu : P.underlying t = some d) (hd : (match d with | .struct _ | .array _ _ => true | _ => false) = true) (ht : (P.info? t).map (·.size) = some seg.length) :
    (Instr.loadAt t (.pointer (some ⟨g, off, none⟩))).run P w = .ok (.agg seg.toArray) w := by
  refine run_load t g off seg d (fun j v hv => ?_) hu hd ht
  rw [hh.cell]
  rw [← hseg] at hv
  have hj : j < seg.length := by
    rcases Nat.lt_or_ge j seg.length with h | h
    · exact h
    · rw [List.getElem?_take, if_neg (by omega)] at hv; cases hv
  rw [List.getElem?_take, if_pos hj, List.getElem?_drop] at hv
  exact hv
theorem wp_load (t : TypeId) (p : Operand) (ho : o.op = .load t p) (v pv : Value) (hp : a.eval p = pv) (hrun : (Instr.loadAt t pv).run P w = .ok v w)
    (h : K (a.put o.dst v) w) : o.wp P a w K Q := by
  unfold Oper.wp execOp
  simp only [ho, hp, Sem.run_bind, Sem.run_pure, Result.andThen_ok, hrun]
  exact h
theorem exec_load (t : TypeId) (p : Operand) (ho : o.op = .load t p) (v pv : Value) (hp : a.eval p = pv) (hrun : (Instr.loadAt t pv).run P w = .ok v w) : (execOp a.eval o).run P w = .ok (.value v) w := by
  unfold execOp
  simp only [ho, hp, Sem.run_bind, Sem.run_pure, Result.andThen_ok, hrun]
theorem load (hgd : o.guard = none) (t : TypeId) (p : Operand) (ho : o.op = .load t p) (v pv : Value) (hp : a.eval p = pv) (hrun : (Instr.loadAt t pv).run P w = .ok v w)
    (h : wpList P ops Q rest (a.put o.dst v) w) : wpList P ops Q (o :: rest) a w :=
  wpList_plain hgd fun K hK => wp_load t p ho v pv hp hrun (hK _ _ h)
theorem res_c {fn : Func} {p : Tmp} {ty : TypeId} (h : fn.results = #[.cell p ty]) (tmps : Array Value) (g : Nat) (t : TypeId) (cs : List Value) (d : TypeDesc) (hp : tmps.getD p undef = .pointer (some ⟨g, 0, none⟩)) (hg : Blk w g t cs)
    (hu : P.underlying ty = some d) (hd : (match d with | .struct _ | .array _ _ => true | _ => false) = true) (hi : (P.info? ty).map (·.size) = some cs.length) : (results fn tmps).run P w = .ok (.agg cs.toArray) w :=
  results_cell_row h tmps w g t cs.toArray (0, 0) d hp hg.out hu hd (by simpa using hi)
theorem res_ct {fn : Func} {p u : Tmp} {ty : TypeId} (h : fn.results = #[.cell p ty, .tmp u]) (tmps : Array Value) (g : Nat) (t : TypeId) (cs : List Value) (d : TypeDesc) (hp : tmps.getD p undef = .pointer (some ⟨g, 0, none⟩)) (hg : Blk w g t cs)
    (hu : P.underlying ty = some d) (hd : (match d with | .struct _ | .array _ _ => true | _ => false) = true) (hi : (P.info? ty).map (·.size) = some cs.length) : (results fn tmps).run P w = .ok (.tuple #[.agg cs.toArray, tmps.getD u undef]) w :=
  results_ct h tmps w g t cs.toArray (0, 0) d hp hg.out hu hd (by simpa using hi)
theorem res_ctt {fn : Func} {p u v : Tmp} {ty : TypeId} (h : fn.results = #[.cell p ty, .tmp u, .tmp v]) (tmps : Array Value) (g : Nat) (t : TypeId) (cs : List Value) (d : TypeDesc) (hp : tmps.getD p undef = .pointer (some ⟨g, 0, none⟩)) (hg : Blk w g t cs)
    (hu : P.underlying ty = some d) (hd : (match d with | .struct _ | .array _ _ => true | _ => false) = true) (hi : (P.info? ty).map (·.size) = some cs.length) : (results fn tmps).run P w = .ok (.tuple #[.agg cs.toArray, tmps.getD u undef, tmps.getD v undef]) w :=
  results_ctt h tmps w g t cs.toArray (0, 0) d hp hg.out hu hd (by simpa using hi)
end
theorem R_only {α : Type} {d : Kd α} {e : Nat} {w w' : World} {base : Nat} {ok : Nat → Prop} {v : Value} {xs : List α} {g : Nat} {t : TypeId} {cs : List Value} (h : d.R e w base ok v xs) (hb : Blk w g t cs) (ht : ∀ q, q ∈ e :: d.E → q ≠ t) (hO : Only w w' g) : d.R e w' base ok v xs :=
  Kd.R_mono (Kd.R_grown (Kd.R_types h hb.out ht) hO.grown (fun k hk he => hk.2 (by injection he))) (fun _ hk => hk.1)
section
variable {P : Program}
theorem cut_mid_ (t e : TypeId) (kl kh : IntKind) (ht : P.underlying t = some (.slice e)) (hi : (P.info? e).map (·.size) = some 1) (k : IntKind) (A : Option Addr) (c : Nat) (l : List Int) (lo' hi' : Int) (lo h : Nat) (e1 : lo' = lo) (e2 : hi' = h) (h1 : lo ≤ h) (h2 : h ≤ l.length) (hc : l.length ≤ c) :
    ∃ A' : Option Addr, (∀ W : World, (Instr.slice t (.slice A l.length c) (some (.int kl lo')) (some (.int kh hi')) none).run P W = .ok (.slice A' (h - lo) (c - lo)) W) ∧
      ((l.drop lo).take (h - lo)).length = h - lo ∧ ∀ W : World, Kd.C (Kd.int k) W A l.length l → Kd.C (Kd.int k) W A' (h - lo) ((l.drop lo).take (h - lo)) := by
  subst e1; subst e2
  obtain ⟨i, hi1, hsz⟩ := Option.map_eq_some_iff.1 hi
  have hl : ((l.drop lo).take (h - lo)).length = h - lo := by rw [List.length_take, List.length_drop]; omega
  refine ⟨if c = lo then A else A.map (·.add (lo * 1)), fun W => ?_, hl, fun W hC => ?_⟩
  · have := cut_mid (P := P) t e kl kh ht hi1 1 hsz A l.length c (lo : Int) (h : Int) (by omega) (by omega) (by omega) hc W
    simpa using this
  · have := Kd.C_mid (lo := lo) (hi := h) (c := c) hC h1 h2 hc
    rw [List.drop_take] at this
    rw [hl] at this
    exact this
theorem cut_from_ (t e : TypeId) (kl : IntKind) (ht : P.underlying t = some (.slice e)) (hi : (P.info? e).map (·.size) = some 1) (k : IntKind) (A : Option Addr) (c : Nat) (l : List Int) (lo' : Int) (lo : Nat) (e1 : lo' = lo) (h1 : lo ≤ l.length) (hc : l.length ≤ c) :
    ∃ A' : Option Addr, (∀ W : World, (Instr.slice t (.slice A l.length c) (some (.int kl lo')) none none).run P W = .ok (.slice A' (l.length - lo) (c - lo)) W) ∧
      ∀ W : World, Kd.C (Kd.int k) W A l.length l → Kd.C (Kd.int k) W A' (l.drop lo).length (l.drop lo) := by
  subst e1
  obtain ⟨i, hi1, hsz⟩ := Option.map_eq_some_iff.1 hi
  refine ⟨if c = lo then A else A.map (·.add (lo * 1)), fun W => ?_, fun W hC => Kd.C_drop (c := c) hC h1 hc⟩
  have := cut_from (P := P) t e kl ht hi1 1 hsz A l.length c (lo : Int) (by omega) (by omega) W
  simpa using this
theorem cut_to_ (t e : TypeId) (kh : IntKind) (ht : P.underlying t = some (.slice e)) (hi : (P.info? e).map (·.size) = some 1) (A : Option Addr) (c : Nat) (l : List Int) (hi' : Int) (h : Nat) (e2 : hi' = h) (h2 : h ≤ l.length) (hc : l.length ≤ c) :
    ∀ W : World, (Instr.slice t (.slice A l.length c) none (some (.int kh hi')) none).run P W = .ok (.slice A h c) W := by
  subst e2
  obtain ⟨i, hi1, hsz⟩ := Option.map_eq_some_iff.1 hi
  intro W
  have := cut_to (P := P) t e kh ht hi1 A l.length c (h : Int) (by omega) (by omega) hc W
  simpa using this
end
section
variable {P : Program} {ops : Array Oper} {o : Oper} {a : Act} {w : World} {Q : Exit → Act → World → Prop} {K : Act → World → Prop}
end
end Go.Proofs.YtgljicdpcapgnaaDoor.Wk
set_option linter.unusedVariables false
set_option linter.unusedSimpArgs false
namespace Go.Proofs.YtgljicdpcapgnaaDoor
open Go.RowKit Go.Proofs.YtgljicdpcapgnaaDoorW.PrintWords
def Opens {α : Type} (P : Program) (t : TypeId) (d : Kd α) (Wf : α → Prop) : Prop :=
  ∀ {H : Type} (enc : TypeId × Value → H) (w : World) (base : Nat) (spare : Nat → Bool) (held : Bool) (fuel : Nat) (cs : List Value) (x : DataW H × List MemPlace), DataW.trod enc P w base spare held fuel t cs = some x → ∃ a, d.K w a cs ∧ Wf a
section
variable {P : Program}
theorem opens_int {t : TypeId} {k : IntKind} (ht : P.underlying t = some (.int k)) : Opens P t (Kd.int k) (fun n => (Lit.int k n).wf = true) := by
  intro H enc w base spare held fuel cs x h
  obtain ⟨n, rfl, _, hw⟩ := DataW.trod_int ht h
  exact ⟨n, rfl, hw⟩
theorem cells_at {w : World} {base : Nat} {a : Addr} {n : Nat} {cs : List Value} (h : w.cells? base a n = some cs) : ∀ j u, cs[j]? = some u → w.cell? (a.add j) = some u := by
  intro j u hu
  unfold World.cells? at h
  split at h
  · have hj : j < n := by
      have := mapM_some_length h
      have hl := (List.getElem?_eq_some_iff.1 hu).1
      simp at this
      omega
    have := mapM_some_get h j j (by simp [hj])
    rw [this, hu]
  · cases h
theorem opens_slice {α : Type} {d : Kd α} {Wf : α → Prop} {t e : TypeId} (ht : P.underlying t = some (.slice e)) (hs : P.cellsOf e = d.sz) (he : Opens P e d Wf) : Opens P t (Kd.slice e d) (fun xs => xs.length ≤ maxLen ∧ ∀ x ∈ xs, Wf x) := by
  intro H enc w base spare held fuel cs x h
  rcases DataW.trod_slice ht h with ⟨rfl, _⟩ | ⟨a, len, cap, elems, rest, n, rfl, rfl, _, _, hl, hm, hlen, hel, _, _⟩
  · exact ⟨[], ⟨none, 0, rfl, Nat.le_refl _, rfl, by simp, fun h => absurd h (by simp)⟩, by simp, fun x hx => by cases hx⟩
  · have key : ∀ i, i < len → ∃ p : α, Wf p ∧ ∃ c, c.length = d.sz ∧ d.K w p c ∧ ∀ j u, c[j]? = some u → w.cell? (a.add (i * d.sz + j)) = some u := by
      intro i hi
      have h1 := hel i hi
      rw [List.getElem?_eq_getElem (by omega)] at h1
      obtain ⟨c, hc, htr⟩ := Option.bind_eq_some_iff.1 h1
      obtain ⟨p, hK, hW⟩ := he enc w base spare held n c _ htr
      refine ⟨p, hW, c, d.K_len hK, hK, fun j u hu => ?_⟩
      have := cells_at hc j u hu
      rw [hs, add_add] at this
      exact this
    have hmx : maxLen ≤ 9223372036854775807 := by decide
    refine ⟨(List.range len).attach.map (fun i => (key i.1 (List.mem_range.1 i.2)).choose), ⟨some a, cap, by simp, by simp; omega, rfl, by simp; omega, fun _ => ⟨a, rfl, fun j p hj => ?_⟩⟩, by simp; omega, fun x hx => ?_⟩
    · obtain ⟨hj1, hj2⟩ := List.getElem?_eq_some_iff.1 hj
      simp at hj1 hj2
      subst hj2
      obtain ⟨_, c, h1, h2, h3⟩ := (key j hj1).choose_spec
      exact ⟨c, h1, h2, h3⟩
    · obtain ⟨i, _, rfl⟩ := List.mem_map.1 hx
      exact (key i.1 (List.mem_range.1 i.2)).choose_spec.1
theorem pairK {α β : Type} {a : Kd α} {b : Kd β} {w : World} {x : α} {y : β} {cs : List Value} (h0 : a.K w x (cs.take a.sz)) (h1 : b.K w y (cs.drop a.sz)) : (Kd.pair a b).K w (x, y) cs := ⟨_, _, (List.take_append_drop _ _).symm, h0, h1⟩
theorem struct_fields {t : TypeId} {fs : Array Field} (ht : P.underlying t = some (.struct fs)) {H : Type} {enc : TypeId × Value → H} {w : World} {base : Nat} {spare : Nat → Bool} {held : Bool} {fuel : Nat} {cs : List Value} {x : DataW H × List MemPlace} (h : DataW.trod enc P w base spare held fuel t cs = some x) :
    cs.length = P.cellsOf t ∧ ∀ {α : Type} {d : Kd α} {Wf : α → Prop} (i : Nat) (f : Field), fs[i]? = some f → Opens P f.type d Wf → ∃ a, d.K w a ((cs.drop f.offset).take (P.cellsOf f.type)) ∧ Wf a := by
  obtain ⟨xs, n, rfl, _, hl, hxs, hel⟩ := DataW.trod_struct ht h
  refine ⟨hl, fun i f hf ho => ?_⟩
  have h1 := hel i f hf
  have hi : i < xs.length := by
    have := (Array.getElem?_eq_some_iff.1 hf).1
    omega
  rw [List.getElem?_eq_getElem hi] at h1
  exact ho enc w base spare held n _ _ h1
end
end Go.Proofs.YtgljicdpcapgnaaDoor
set_option linter.unusedVariables false
set_option linter.unusedSimpArgs false
namespace Go.Proofs.YtgljicdpcapgnaaDoor.Ps
open Go.RowKit Go.Proofs.YtgljicdpcapgnaaDoorW.PrintWords Go.Proofs.YtgljicdpcapgnaaDoorW.PrintLast Go.Proofs.YtgljicdpcapgnaaDoorW.PrintMore Go.Proofs.YtgljicdpcapgnaaDoor.Wk Go.Maps
abbrev kTn : Kd Tn := PBase.k58
abbrev tnc (x : Tn) (A0 : Option Addr) (c0 : Nat) (A1 : Option Addr) (c1 : Nat) : List Value := [.int .u32 x.f0, .slice A0 x.f1.length c0, .int .u64 x.f2, .int .u64 x.f3, .slice A1 x.f4.length c1]
abbrev z5 : List Value := [.int .u32 0, .slice none 0 0, .int .u64 0, .int .u64 0, .slice none 0 0]
abbrev zn : Tn := PBase.z58
theorem sizeTn : (Tryd.prog.info? 58).map (·.size) = some 5 := by kernel_rfl
def hold (v : Value) : Option (DataW Value × List MemPlace) := some (.held v, [])
theorem hold_inv {v d : Value} {ps : List MemPlace} (h : hold v = some (.held d, ps)) : v = d := DataW.held.inj (Prod.mk.inj (Option.some.inj h)).1
theorem law32 : Keyed Tryd.prog 33 := int_keyed Tryd.underlying33
theorem zeroTn (w : World) : (zeroValue 58).run Tryd.prog w = .ok (.agg z5.toArray) w := by kernel_rfl
theorem wf32 {k : Int} (h0 : 0 ≤ k) (h1 : k < 4294967296) : (Lit.int .u32 k).wf = true := by
  simp [Lit.wf, IntKind.min, IntKind.max, IntKind.signed, IntKind.bits]
  omega
theorem key32 {k : Int} (h0 : 0 ≤ k) (h1 : k < 4294967296) : keyOf Tryd.prog 33 (.int .u32 k) = some (.int .u32 k) := keyOf_int_mk Tryd.underlying33 (wf32 h0 h1)
def Held (W : World) (b : Nat) (x : Tn) (v : Value) : Prop := ∃ A0 c0 A1 c1, v = .agg (tnc x A0 c0 A1 c1).toArray ∧ x.f1.length ≤ c0 ∧ x.f4.length ≤ c1 ∧ Kd.F (Kd.int .u8) W (fun k => b < k) A0 x.f1.length x.f1 ∧ Kd.F (Kd.int .u32) W (fun k => b < k) A1 x.f4.length x.f4
theorem Held.kept {W W' : World} {b : Nat} {x : Tn} {v : Value} {row : Option Nat} (h : Held W b x v) (hg : W.grownBy W' row) (hr : ∀ k, row = some k → k ≤ b) : Held W' b x v := by
  obtain ⟨A0, c0, A1, c1, h1, h2, h3, h4, h5⟩ := h
  exact ⟨A0, c0, A1, c1, h1, h2, h3, Kd.F_grown h4 hg (fun k hk he => by have := hr k he.symm; omega), Kd.F_grown h5 hg (fun k hk he => by have := hr k he.symm; omega)⟩
def Says (W : World) (b : Nat) (l : List Tn) (D : DataW Value) : Prop := ∀ id, 0 ≤ id → id < 4294967296 →
  match find l id with
  | none => has D (.int .u32 id) = false
  | some x => has D (.int .u32 id) = true ∧ ∃ v, (∀ z, D.atKey (.int .u32 id) z = .held v) ∧ Held W b x v
def Tm (W : World) (b : Nat) (l : List Tn) : Prop := ∃ D, W.ownsMap Tryd.prog 33 hold b l.length D ∧ Says W b l D
theorem isMap_of {W : World} {k b n : Nat} {R : Value → Option (DataW Value × List MemPlace)} {D : DataW Value} (h : W.ownsMap Tryd.prog k R b n D) : IsMap D := by
  obtain ⟨es, clock, _, _, _, h⟩ := h
  exact ⟨_, h⟩
theorem Says.kept {W W' : World} {b : Nat} {l : List Tn} {D : DataW Value} {row : Option Nat} (h : Says W b l D) (hg : W.grownBy W' row) (hr : ∀ k, row = some k → k ≤ b) : Says W' b l D := by
  intro id h0 h1
  have := h id h0 h1
  split
  · rename_i he; rw [he] at this; exact this
  · rename_i x he
    rw [he] at this
    obtain ⟨ha, v, hv, hH⟩ := this
    exact ⟨ha, v, hv, hH.kept hg hr⟩
theorem Tm.lt {W : World} {b : Nat} {l : List Tn} (h : Tm W b l) : b < W.heap.size := by
  obtain ⟨D, h, _⟩ := h
  exact h.lt
theorem Tm.kept {W W' : World} {b : Nat} {l : List Tn} {row : Option Nat} (h : Tm W b l) (hg : W.grownBy W' row) (hr : ∀ k, row = some k → k < b) : Tm W' b l := by
  obtain ⟨D, h1, h2⟩ := h
  exact ⟨D, h1.kept hg (fun he => by have := hr b he.symm; omega), h2.kept hg (fun k hk => Nat.le_of_lt (hr k hk))⟩
theorem Tm.below {W W' : World} {b : Nat} {l : List Tn} (h : Tm W b l) (hb : Below W.heap.size W W') : Tm W' b l := h.kept (grown_of_below hb none) (fun k hk => by cases hk)
theorem has_nil (k : Lit) : has (DataW.map [] : DataW Value) k = false := rfl
theorem Tm.made (W : World) : Tm (W.alloc (.map #[] 0)) W.heap.size [] := ⟨_, World.ownsMap_made _ _ _ _, fun id _ _ => has_nil _⟩
theorem find_snoc (l : List Tn) (x : Tn) (id : Int) (hx : find l x.f0 = none) : find (l ++ [x]) id = if id = x.f0 then some x else find l id := by
  unfold find at *
  rw [List.find?_append]
  by_cases h : id = x.f0
  · subst h
    rw [hx, if_pos rfl]
    simp
  · rw [if_neg h]
    have : List.find? (fun y : Tn => y.f0 == id) [x] = none := by
      rw [List.find?_cons_of_neg (by simp; omega)]
      rfl
    rw [this]
    cases List.find? (fun y : Tn => y.f0 == id) l <;> rfl
theorem Tm.put {W W' : World} {b : Nat} {l : List Tn} {x : Tn} {v : Value} {D : DataW Value} (hS : Says W b l D) (hM : IsMap D) (hx : find l x.f0 = none) (hH : Held W b x v) (hg : W.grownBy W' (some b))
    (h : W'.ownsMap Tryd.prog 33 hold b (l.length + 1) (D.put (.int .u32 x.f0) (.held v))) : Tm W' b (l ++ [x]) := by
  refine ⟨_, by rw [List.length_append]; exact h, fun id h0 h1 => ?_⟩
  have hr : ∀ k, some b = some k → k ≤ b := fun k hk => by cases hk; exact Nat.le_refl _
  rw [find_snoc l x id hx]
  by_cases he : id = x.f0
  · subst he
    rw [if_pos rfl]
    exact ⟨has_put_same hM (show WideAt.IsKeyLit (.int .u32 x.f0) from trivial) _, v, fun z => atKey_put_same hM (show WideAt.IsKeyLit (.int .u32 x.f0) from trivial) _ z, hH.kept hg hr⟩
  · rw [if_neg he]
    have hne : (Lit.int .u32 id) ≠ .int .u32 x.f0 := fun h => he (by injection h)
    have := hS.kept hg hr id h0 h1
    split
    · rename_i hf; rw [hf] at this; rw [has_put_other hne]; exact this
    · rename_i y hf
      rw [hf] at this
      obtain ⟨ha, u, hu, hy⟩ := this
      exact ⟨by rw [has_put_other hne]; exact ha, u, fun z => by rw [atKey_put_other hne]; exact hu z, hy⟩
theorem Tm.look {W : World} {b : Nat} {l : List Tn} (h : Tm W b l) (id : Int) (h0 : 0 ≤ id) (h1 : id < 4294967296) :
    (find l id = none ∧ ∀ W', Below W.heap.size W W' → (Instr.lookup 85 (.map (some b)) (.int .u32 id) true).run Tryd.prog W' = .ok (.tuple #[.agg z5.toArray, .bool false]) W') ∨
    ∃ x A0 c0 A1 c1, find l id = some x ∧ (∀ W', Below W.heap.size W W' → (Instr.lookup 85 (.map (some b)) (.int .u32 id) true).run Tryd.prog W' = .ok (.tuple #[.agg (tnc x A0 c0 A1 c1).toArray, .bool true]) W') ∧ x.f1.length ≤ c0 ∧ x.f4.length ≤ c1 ∧ Kd.C (Kd.int .u8) W A0 x.f1.length x.f1 ∧ Kd.C (Kd.int .u32) W A1 x.f4.length x.f4 := by
  obtain ⟨D, hO, hS⟩ := h
  have key : ∀ W', Below W.heap.size W W' → ∃ v ps, (Instr.lookup 85 (.map (some b)) (.int .u32 id) true).run Tryd.prog W' = .ok (.tuple #[v, .bool (has D (.int .u32 id))]) W' ∧ hold v = some (D.atKey (.int .u32 id) (.held (.agg z5.toArray)), ps) := fun W' hb =>
    (hO.kept (grown_of_below hb none) (fun he => by cases he)).look_ok law32 Tryd.underlying85 (zeroTn W') (zd := .held (.agg z5.toArray)) (zp := []) rfl (key32 h0 h1)
  have := hS id h0 h1
  cases hf : find l id with
  | none =>
    rw [hf] at this
    refine .inl ⟨rfl, fun W' hb => ?_⟩
    obtain ⟨v, ps, hrun, hv⟩ := key W' hb
    change has D (.int .u32 id) = false at this
    rw [this] at hrun
    rw [hrun]
    rw [atKey_of_not_has this] at hv
    rw [hold_inv hv]
  | some x =>
    rw [hf] at this
    obtain ⟨ha, u, hu, A0, c0, A1, c1, rfl, l0, l1, f0, f1⟩ := this
    refine .inr ⟨x, A0, c0, A1, c1, rfl, fun W' hb => ?_, l0, l1, Kd.F_now f0, Kd.F_now f1⟩
    obtain ⟨v, ps, hrun, hv⟩ := key W' hb
    rw [ha] at hrun
    rw [hu] at hv
    rw [hold_inv hv] at hrun
    exact hrun
theorem Tm.update {W : World} {b : Nat} {l : List Tn} (h : Tm W b l) (x : Tn) (v : Value) (h0 : 0 ≤ x.f0 ∧ x.f0 < 4294967296) (hl : l.length < maxLen) (hx : find l x.f0 = none) (hH : Held W b x v) :
    ∃ W', (Instr.mapUpdate 85 (.map (some b)) (.int .u32 x.f0) v).run Tryd.prog W = .ok () W' ∧ Tm W' b (l ++ [x]) ∧ W.grownBy W' (some b) := by
  obtain ⟨D, hO, hS⟩ := h
  obtain ⟨W', h1, h2, h3⟩ := hO.update law32 Tryd.underlying85 hl (key32 h0.1 h0.2) (val := v) (d := .held v) (ps := []) rfl
  exact ⟨W', h1, Tm.put hS (isMap_of hO) hx hH h3 h2, h3⟩
section
variable {P : Program} {ops : Array Oper} {rest : List Oper} {o : Oper} {a : Act} {w w' : World} {Q : Exit → Act → World → Prop} {K : Act → World → Prop}
theorem map_step {N : Option Tmp} (hw : Region.wanted o (yielded ops a.tmps) = true) (hN : o.dst = none) (t : TypeId) (m x v : Operand) (ho : o.op = .mapUpdate t m x v) (mv key val : Value) (hm : a.eval m = mv) (hx : a.eval x = key) (hv : a.eval v = val)
    (hrun : (Instr.mapUpdate t mv key val).run P w = .ok () w') (h : K a w') : if Region.wanted o (yielded ops a.tmps) = true then Oper.wp P o a w K Q else K (a.put N undef) w := by
  rw [if_pos hw]
  unfold Oper.wp execOp
  simp only [ho, hm, hx, hv, Sem.run_bind, Sem.run_pure, Result.andThen_ok, hrun]
  show K (a.put o.dst undef) _
  rw [hN]
  exact h
end
def Tb (W : World) (base p : Nat) (l : List Tn) : Prop := ∃ b, base ≤ p ∧ base ≤ b ∧ Blk W p 87 [.map (some b)] ∧ Tm W b l
theorem Tb.kept {W W' : World} {base p : Nat} {l : List Tn} {row : Option Nat} (h : Tb W base p l) (hg : W.grownBy W' row) (hr : ∀ k, row = some k → k < base) : Tb W' base p l := by
  obtain ⟨b, h1, h2, h3, h4⟩ := h
  exact ⟨b, h1, h2, h3.grown hg (fun he => by have := hr p he.symm; omega), h4.kept hg (fun k hk => by have := hr k hk; omega)⟩
theorem Tb.below {W W' : World} {base p : Nat} {l : List Tn} (h : Tb W base p l) (hb : Below W.heap.size W W') : Tb W' base p l := h.kept (grown_of_below hb none) (fun k hk => by cases hk)
theorem tn_cells {w : World} {x : Tn} {cs : List Value} (h : kTn.K w x cs) : ∃ A0 c0 A1 c1, cs = tnc x A0 c0 A1 c1 ∧ x.f1.length ≤ c0 ∧ x.f4.length ≤ c1 ∧ Kd.C (Kd.int .u8) w A0 x.f1.length x.f1 ∧ Kd.C (Kd.int .u32) w A1 x.f4.length x.f4 := by
  obtain ⟨A0, c0, A1, c1, rfl, l0, g0, l1, g1⟩ := PBase.k58_open h
  exact ⟨A0, c0, A1, c1, rfl, l0, l1, g0, g1⟩
theorem row_get {w : World} {A : Option Addr} {n : Nat} {rs : List Tn} (h : kTn.C w A n rs) (i : Nat) (hi : i < rs.length) (hn : rs.length = n) : ∃ ad A0 c0 A1 c1, A = some ad ∧
    (∀ w', Below w.heap.size w w' → (Instr.loadAt 58 (.pointer (some (ad.add (i * 5))))).run Tryd.prog w' = .ok (.agg (tnc rs[i] A0 c0 A1 c1).toArray) w') ∧
    (∀ j v, (tnc rs[i] A0 c0 A1 c1)[j]? = some v → w.cell? (ad.add (i * 5 + j)) = some v) ∧
    rs[i].f1.length ≤ c0 ∧ rs[i].f4.length ≤ c1 ∧ Kd.C (Kd.int .u8) w A0 rs[i].f1.length rs[i].f1 ∧ Kd.C (Kd.int .u32) w A1 rs[i].f4.length rs[i].f4 := by
  obtain ⟨ad, c, e, _, hK, hc0⟩ := Kd.C_get h zn (i : Int) (by omega) (by omega)
  rw [List.getD_eq_getElem?_getD, Int.toNat_natCast, List.getElem?_eq_getElem hi] at hK
  change kTn.K w rs[i] c at hK
  have hc : ∀ j u, c[j]? = some u → w.cell? (ad.add (i * 5 + j)) = some u := fun j u hu => by
    have := hc0 j u hu
    rwa [Int.toNat_natCast] at this
  obtain ⟨A0, c0, A1, c1, rfl, l0, l1, g0, g1⟩ := tn_cells hK
  refine ⟨ad, A0, c0, A1, c1, e, ?_, hc, l0, l1, g0, g1⟩
  intro w' hb
  have hu := Tryd.underlying58
  obtain ⟨q, hi, hsz⟩ := Option.map_eq_some_iff.1 sizeTn
  have hl : (loadCells (ad.add (i * 5)) 5).run Tryd.prog w' = .ok (tnc rs[i] A0 c0 A1 c1).toArray w' :=
    run_loadCells_list (P := Tryd.prog) w' (ad.add (i * 5)) (tnc rs[i] A0 c0 A1 c1) (fun j v hv => by rw [add_add]; have := hc j v hv; exact (hb.cell (World.block_lt_of_cell? w _ this)).trans this)
  have hagg : (isAgg 58).run Tryd.prog w' = .ok true w' := by
    unfold isAgg
    rw [Sem.run_bind, run_underlying hu w']
    rfl
  simp [Instr.loadAt, Instr.sureAddr, loadVar, Sem.run_bind, hagg, sizeOf, typeInfo, hi, hsz, hl]
def Tr (W : World) (base p : Nat) (l : List Tn) : Prop := ∃ A c, base ≤ p ∧ l.length ≤ c ∧ Blk W p 91 [.slice A l.length c] ∧ Kd.F kTn W (fun k => base ≤ k) A l.length l
theorem Tr.kept {W W' : World} {base p : Nat} {l : List Tn} {row : Option Nat} (h : Tr W base p l) (hg : W.grownBy W' row) (hr : ∀ k, row = some k → k < base) : Tr W' base p l := by
  obtain ⟨A, c, h1, h2, h3, h4⟩ := h
  exact ⟨A, c, h1, h2, h3.grown hg (fun he => by have := hr p he.symm; omega), Kd.F_grown h4 hg (fun k hk he => by have := hr k he.symm; omega)⟩
theorem Tr.below {W W' : World} {base p : Nat} {l : List Tn} (h : Tr W base p l) (hb : Below W.heap.size W W') : Tr W' base p l := h.kept (grown_of_below hb none) (fun k hk => by cases hk)
end Go.Proofs.YtgljicdpcapgnaaDoor.Ps
set_option linter.unusedVariables false
set_option linter.unusedSimpArgs false
namespace Go.Proofs.YtgljicdpcapgnaaDoor.Ps
open Go.RowKit Go.Proofs.YtgljicdpcapgnaaDoor.PBase Go.Proofs.YtgljicdpcapgnaaDoorW.PrintWords Go.Proofs.YtgljicdpcapgnaaDoorW.PrintLast Go.Proofs.YtgljicdpcapgnaaDoorW.PrintMore
theorem rd_drop (l : List Int) (i : Nat) (hi : i < l.length) : rd l (i : Int) = l[i] ∧ l.drop i = l[i] :: l.drop (i + 1) := by
  refine ⟨by simp [rd, List.getD_eq_getElem?_getD, List.getElem?_eq_getElem hi], List.drop_eq_getElem_cons hi⟩
theorem or_step (n x : Int) (h0 : 0 ≤ n) (h1 : n < 72057594037927936) (hx : 0 ≤ x ∧ x ≤ 255) : Go.bits .or .u64 (IntKind.u64.wrap (n * 256)) (IntKind.u64.wrap x) = n * 256 + x := by
  rw [Bt.wraps_u64 _ (by omega) (by omega), Bt.wraps_u64 x (by omega) (by omega), Bt.or_256 n x h0 h1 hx.1 hx.2]
theorem fr_le (a : Int) (ha : 0 ≤ a) (l : List Int) (h : Sh.Bytes l) (m : Nat) (hm : a < 256 ^ m) : 0 ≤ fr a l ∧ fr a l < 256 ^ (m + l.length) := by
  have hn := num_range l h
  rw [fr_is]
  have p := pow_pos l.length
  have q0 : 0 ≤ a * 256 ^ l.length := Int.mul_nonneg ha (by omega)
  have q1 : a * 256 ^ l.length ≤ (256 ^ m - 1) * 256 ^ l.length := Int.mul_le_mul_of_nonneg_right (by omega) (by omega)
  rw [Int.sub_mul, ← Int.pow_add, Int.one_mul] at q1
  change 0 ≤ _ + num l ∧ _ + num l < _
  omega
theorem pow_le7 (m : Nat) (h : m ≤ 7) : (256 : Int) ^ m ≤ 256 ^ 7 := pow_mono m 7 h
theorem number_l (l : List Int) (hb : Sh.Bytes l) (h8 : l.length ≤ 8) : ∀ (d i k : Nat), i + d = l.length → d < k → pass_number.l0 k (fr 0 (l.take i)) l (l.length : Int) i = some (num l)
  | 0, i, k, hi, hk => by
    obtain ⟨k, rfl⟩ : ∃ m, k = m + 1 := ⟨k - 1, by omega⟩
    rw [pass_number.l0, if_neg (by omega), List.take_of_length_le (by omega)]
    rfl
  | d + 1, i, k, hi, hk => by
    obtain ⟨k, rfl⟩ : ∃ m, k = m + 1 := ⟨k - 1, by omega⟩
    have hlt : i < l.length := by omega
    have e1 : wrap64 ((i : Int) + 1) = ((i + 1 : Nat) : Int) := by unfold wrap64; omega
    obtain ⟨hr, _⟩ := rd_drop l i hlt
    have hbt := hb _ (List.getElem_mem hlt)
    have hf := fr_le 0 (by omega) (l.take i) (fun x hx => hb x (List.mem_of_mem_take hx)) 0 (by simp)
    have hp : (256 : Int) ^ (0 + (l.take i).length) ≤ 256 ^ 7 := pow_le7 _ (by rw [List.length_take]; omega)
    have hp7 : (256 : Int) ^ 7 = 72057594037927936 := by decide
    rw [pass_number.l0, e1, hr, or_step _ _ hf.1 (by omega) hbt]
    clear e1
    rw [if_pos (by omega), if_pos (by omega), if_pos (by omega)]
    have e2 : fr 0 (l.take i) * 256 + l[i] = fr 0 (l.take (i + 1)) := by
      rw [List.take_succ_eq_append_getElem hlt, fr_append]
      rfl
    rw [e2]
    exact number_l l hb h8 d (i + 1) k (by omega) (by omega)
theorem number_is (l : List Int) (hb : Sh.Bytes l) (h8 : l.length ≤ 8) (k : Nat) (hk : 9 < k) : pass_number.f k l = some (num l) := number_l l hb h8 l.length 0 k (by omega) (by omega)
theorem part (l : List Int) (i n : Nat) : (l.take (i + n)).drop i = (l.drop i).take n := by rw [List.drop_take]; congr 1; omega
theorem part_bytes (l : List Int) (hb : Sh.Bytes l) (i n : Nat) : Sh.Bytes ((l.drop i).take n) := fun x hx => hb x (List.mem_of_mem_drop (List.mem_of_mem_take hx))
theorem part_len (l : List Int) (i n : Nat) : ((l.drop i).take n).length ≤ n := by rw [List.length_take]; omega
theorem rd_nat (l : List Int) (i : Nat) : rd l (i : Int) = l.getD i 0 := by simp [rd, List.getD_eq_getElem?_getD]
theorem token_is (b : List Int) (hb : Sh.Bytes b) (hl : 18 ≤ b.length) (k : Nat) (hk : 9 < k) : pass_token.f k b = some (tok b) := by
  have h1 := number_is _ (part_bytes b hb 1 4) (by have := part_len b 1 4; omega) k hk
  have h2 := number_is _ (part_bytes b hb 5 4) (by have := part_len b 5 4; omega) k hk
  have h3 := number_is _ (part_bytes b hb 9 8) (by have := part_len b 9 8; omega) k hk
  obtain ⟨⟨a0, a1⟩, ⟨b0, b1⟩, _⟩ := tok_wf b hb
  simp only [tok] at a0 a1 b0 b1
  rw [← part] at h1 h2 h3
  unfold pass_token.f
  rw [if_pos (by omega), if_pos (by omega), h1, Option.bind_some, if_pos (by omega), if_pos (by omega), h2, Option.bind_some, if_pos (by omega), if_pos (by omega), h3, Option.bind_some, if_pos (by omega)]
  rw [part, part, part, show (17 : Int) = ((17 : Nat) : Int) from rfl, rd_nat, Int.emod_eq_of_lt a0 a1, Int.emod_eq_of_lt b0 b1]
  rfl
theorem got_bytes (s : ByteArray) : Sh.Bytes (got s) := by
  rcases Sp.readOf_code (Sp.bs s) with h | h
  · exact (Sp.readOf_ok s h).2.1
  · have : got s = [] := by
      unfold got
      unfold Sp.readOf at h ⊢
      cases hd : Sp.digits (Sp.bs s) with
      | none => rfl
      | some ds =>
        rw [hd] at h
        dsimp only at h ⊢
        split at h
        · rename_i c; rw [if_pos c]
        · rename_i c
          split at h
          · cases h
          · rename_i c2; rw [if_neg c, if_neg c2]
    rw [this]
    intro x hx; cases hx
theorem read_is (s : ByteArray) (hs : s.size ≤ 1000000) (k : Nat) (hk : s.size + 1 < k) : pass_read.f k s = some (got s, is s) := by
  unfold pass_read.f
  rw [Sp.read_is s hs k hk, Option.bind_some]
  unfold is form got
  generalize Sp.readOf (Sp.bs s) = p
  obtain ⟨b, e⟩ := p
  dsimp only
  by_cases h0 : e = 0
  · rw [if_pos h0]
    by_cases h1 : b.length = 50
    · rw [if_pos (by omega), if_pos (by omega), show rd b 0 = b.getD 0 0 from rd_nat b 0, show rd b 17 = b.getD 17 0 from rd_nat b 17]
      by_cases h2 : b.getD 0 0 = 1
      · rw [if_pos h2, if_pos (by omega)]
        simp only [h0, h1, h2, decide_true, Bool.true_and, true_and]
      · rw [if_neg h2]
        simp only [h2, false_and, and_false, decide_false, Bool.and_false]
    · rw [if_neg (by omega)]
      simp [h1]
  · rw [if_neg h0]
    simp [h0]
theorem index_l (l : List Int) (x : Int) (hl : l.length ≤ 1000000) : ∀ (d i k : Nat), i + d = l.length → d < k → ∃ r, slices_Index_uint32_uint32.l0 k l x (l.length : Int) i = some r ∧ (0 ≤ r ↔ x ∈ l.drop i)
  | 0, i, k, hi, hk => by
    obtain ⟨k, rfl⟩ : ∃ m, k = m + 1 := ⟨k - 1, by omega⟩
    refine ⟨-1, by rw [slices_Index_uint32_uint32.l0, if_neg (by omega)], ?_⟩
    rw [List.drop_of_length_le (by omega)]
    simp
  | d + 1, i, k, hi, hk => by
    obtain ⟨k, rfl⟩ : ∃ m, k = m + 1 := ⟨k - 1, by omega⟩
    have hlt : i < l.length := by omega
    have e1 : wrap64 ((i : Int) + 1) = ((i + 1 : Nat) : Int) := by unfold wrap64; omega
    obtain ⟨hr, hd⟩ := rd_drop l i hlt
    rw [slices_Index_uint32_uint32.l0, e1, hr, hd]
    clear e1
    rw [if_pos (by omega), if_pos (by omega), if_pos (by omega)]
    by_cases h : x = l[i]
    · rw [if_pos h]
      exact ⟨_, rfl, by rw [← h]; simp⟩
    · rw [if_neg h]
      obtain ⟨r, h1, h2⟩ := index_l l x hl d (i + 1) k (by omega) (by omega)
      refine ⟨r, h1, h2.trans ?_⟩
      rw [List.mem_cons]
      exact ⟨Or.inr, fun h' => h'.resolve_left h⟩
theorem contains_is (l : List Int) (x : Int) (hl : l.length ≤ 1000000) (k : Nat) (hk : l.length < k) : slices_Contains_uint32_uint32.f k l x = some (decide (x ∈ l)) := by
  obtain ⟨r, h1, h2⟩ := index_l l x hl l.length 0 k (by omega) hk
  unfold slices_Contains_uint32_uint32.f slices_Index_uint32_uint32.f
  rw [show (0 : Int) = ((0 : Nat) : Int) from rfl, h1, Option.bind_some]
  rw [List.drop_zero] at h2
  congr 1
  rw [decide_eq_decide]
  exact h2
end Go.Proofs.YtgljicdpcapgnaaDoor.Ps
set_option linter.unusedVariables false
set_option linter.unusedSimpArgs false
namespace Go.Proofs.YtgljicdpcapgnaaDoor
open Go.RowKit Go.Proofs.YtgljicdpcapgnaaDoorW.PrintWords Go.Proofs.YtgljicdpcapgnaaDoorW.PrintLast Go.Proofs.YtgljicdpcapgnaaDoorW.PrintMore
namespace Sh
def Rows (w : World) (B : Option Addr) (n : Nat) (ps : Nat → List Int) (As : Nat → Option Addr) (Cs : Nat → Nat) : Prop :=
  ∀ i, i < n → ∃ ad, B = some ad ∧ w.cell? (ad.add i) = some (.slice (As i) (ps i).length (Cs i)) ∧ (ps i).length ≤ Cs i ∧ Bytes (ps i) ∧ Kd.C (Kd.int .u8) w (As i) (ps i).length (ps i)
theorem slice_all (b : Nat) (W : World) :
    (Instr.sliceAt 121 (.pointer (some ⟨b, 0, none⟩)) none none none).run Tryd.prog W = .ok (.slice (some ⟨b, 0, none⟩) 64 64) W := by
  rw [run_sliceAt_array_all W 121 ⟨b, 0, none⟩ (by kernel_rfl)]
  rw [show Tryd.prog.arrayLen 121 = 64 by kernel_rfl, show Tryd.prog.elem 121 = 5 by kernel_rfl]
  rw [show (sizeOf 5).run Tryd.prog W = .ok 1 W by kernel_rfl]
  simp [Result.andThen, slicedAt, Addr.add]
structure Md (w : World) (L : List Int) (wr : World) : Prop where
  k : wr.heap[w.heap.size]? = some (.cells (u8s L) 121 (0, 0))
  o : wr.heap[w.heap.size + 1]? = some (.cells (u8s (List.replicate 32 0)) 79 (0, 0))
  g : Below w.heap.size w wr
theorem Md.put {w : World} {L : List Int} {wr : World} (h : Md w L wr) (k : Nat) (x : Int) : Md w (L.set k x) (wr.setCell ⟨w.heap.size, k, none⟩ (.int .u8 x)) :=
  ⟨by rw [row_set h.k, u8s_set], row_far h.o _ (by omega) _ _, h.g.setCell (p := ⟨w.heap.size, k, none⟩) (Nat.le_refl _) _⟩
structure Mp (w : World) (hb : Nat) (acc r : List Int) (wr : World) : Prop where
  h : Ha wr hb acc r
  o : wr.heap[w.heap.size + 1]? = some (.cells (u8s (List.replicate 32 0)) 79 (0, 0))
  g : Below w.heap.size w wr
  n : w.heap.size + 1 < hb
theorem Mp.next {w : World} {hb : Nat} {acc r acc2 r2 : List Int} {wr W : World} (h : Mp w hb acc r wr) (h2 : Ha W hb acc2 r2) (hg : wr.grownBy W (some hb)) : Mp w hb acc2 r2 W :=
  ⟨h2, (hg.block _ (Array.getElem?_eq_some_iff.1 h.o).1 (fun e => by have := Option.some.inj e; have := h.n; omega)).trans h.o, below_of_gb h.g hg (by have := h.n; omega), h.n⟩
end Sh
set_option maxHeartbeats 1600000 in
set_option maxRecDepth 100000 in
theorem digest_.calls (kb : List Int) (t : Int) (B : Option Addr) (n c : Nat) (ps : Nat → List Int) (As : Nat → Option Addr) (Cs : Nat → Nat) (w : World) (hk : Sh.Ks w) (hl : kb.length = 64) (hby : Sh.Bytes kb) (hn : n ≤ 9223372036854775807)
  (hr : Sh.Rows w B n ps As Cs) (hlen : ∀ i, i ≤ n → (Sh.cat ps i).length ≤ 1099510000000) :
  Calls Tryd.prog 62 #[.agg (Sh.u8s kb), .int .u8 t, .slice B n c] w fun e w' => e = .returned (.agg (Sh.u8s (Sh.dig (Sh.turn kb t ++ Sh.cat ps n)))) ∧ Below w.heap.size w w' := by
 have HR := Aside0.mk hr
 have HK := Aside0.mk hk
 have HBY := Aside0.mk hby
 have HLN := Aside0.mk hlen
 have HL := Aside0.mk hl
 clear hr hk hby hlen hl
 obtain ⟨K, HKB⟩ : ∃ K, Aside0 (Sh.u8s kb = K) := ⟨_, ⟨rfl⟩⟩
 rw [HKB.out]
 have HM0 : Aside0 (Sh.Md w (Sh.some64 kb t 0) ((w.alloc (.cells K 121)).alloc (.cells (Sh.u8s (List.replicate 32 0)) 79))) := ⟨by
  refine ⟨?_, ?_, below_alloc (below_alloc (Below.refl _ _) _) _⟩
  ·rw [← HKB.out]
   exact (Below.heap_alloc _ _ _ (by show w.heap.size < (w.heap.push _).size; simp)).trans (heap_alloc_new _ _)
  ·have := heap_alloc_new (w.alloc (.cells K 121)) (.cells (Sh.u8s (List.replicate 32 0)) 79)
   rwa [show (w.alloc (.cells K 121)).heap.size = w.heap.size + 1 by show (w.heap.push _).size = _; simp] at this⟩
 go_enter Tryd.func62, Tryd.ntmps62
 go_wp2_with fail
 go_loopw [11] (fun v11 wr => ∃ k : Nat, v11 = .int .i64 k ∧ k ≤ 64 ∧ Aside0 (Sh.Md w (Sh.some64 kb t k) wr)) (fun v _ => 64 - (intOf v).toNat)
 case atStart => exact ⟨0, rfl, by omega, HM0⟩
 case round =>
  clear HM0
  obtain ⟨k, rfl, hk, HM⟩ := hrel
  by_cases hlt : k < 64
  ·obtain ⟨e1, e2⟩ := Sh.some64_at kb t k (by rw [HL.out]; exact hlt)
   have cu := Sh.cellAt HM.out.k k _ (Sh.u8s_at _ k (by rw [Sh.some64_length, HL.out]; exact hlt))
   have fu := Sh.frozenAt HM.out.k k
   rw [e1] at cu
   have HN2 : Aside0 (Sh.Md w (Sh.some64 kb t (k + 1)) (wr.setCell ⟨w.heap.size, k, none⟩ (.int .u8 (bits .xor .u8 (kb.getD k 0) t)))) := ⟨by
    have := HM.out.put k (bits .xor .u8 (kb.getD k 0) t)
    rwa [e2] at this⟩
   clear e1 e2 HM
   generalize kb.getD k 0 = y at *
   go_wp2_with fail
   exact ⟨⟨k + 1, by go_num, by omega, HN2⟩, by simp [intOf]; omega⟩
  ·obtain rfl : k = 64 := by omega
   have HT : Aside0 (Sh.Md w (Sh.turn kb t) wr) := ⟨by
    have := HM.out
    rwa [Sh.some64, List.take_of_length_le (by rw [Sh.turn_length, HL.out]; exact Nat.le_refl _), List.drop_of_length_le (by rw [HL.out]; exact Nat.le_refl _), List.append_nil] at this⟩
   clear HM hlt hk
   obtain ⟨wq, rfl⟩ : ∃ q : World, q = wr := ⟨_, rfl⟩
   go_wp2_with fail
   refine (new_.calls wq).mono ?_
   rintro e w2 ⟨rfl, h2, hb2⟩
   obtain ⟨hb, HHB⟩ : ∃ b, Aside0 (wq.heap.size = b) := ⟨_, ⟨rfl⟩⟩
   have HP2 : Aside0 (Sh.Mp w hb [] (List.replicate 64 0) w2) := ⟨⟨by rw [← HHB.out]; exact h2, (hb2.block _ (Array.getElem?_eq_some_iff.1 HT.out.o).1).trans HT.out.o, below_then HT.out.g HT.out.g.size hb2, by rw [← HHB.out]; exact (Array.getElem?_eq_some_iff.1 HT.out.o).1⟩⟩
   have HC2 : Aside0 (Kd.C (Kd.int .u8) w2 (some ⟨w.heap.size, 0, none⟩) 64 (Sh.turn kb t)) := ⟨by
    have hk2 : w2.heap[w.heap.size]? = some (.cells (Sh.u8s (Sh.turn kb t)) 121 (0, 0)) := (hb2.block _ (Array.getElem?_eq_some_iff.1 HT.out.k).1).trans HT.out.k
    have := Lit.reads_block hk2 .u8 (Sh.turn kb t) (by simp [Sh.u8s]) (by rw [Sh.turn_length, HL.out]; decide)
    rwa [Sh.turn_length, HL.out] at this⟩
   rw [HHB.out]
   clear h2 hb2 HT HHB
   have hsl := Sh.slice_all w.heap.size
   have HF : Aside0 (Calls Tryd.prog 60 #[.pointer (some ⟨hb, 0, none⟩), .slice (some ⟨w.heap.size, 0, none⟩) 64 64] w2 fun e w' => e = .returned (.tuple #[]) ∧ (∃ rest', Sh.Ha w' hb (Sh.turn kb t) rest') ∧ w2.grownBy w' (some hb)) := ⟨by
    have hTL : (Sh.turn kb t).length = 64 := by rw [Sh.turn_length, HL.out]
    have := write_.calls hb [] _ (some ⟨w.heap.size, 0, none⟩) 64 (Sh.turn kb t) w2 HP2.out.h (by have := HP2.out.n; omega) (HK.out.below HP2.out.g) (by rw [hTL]; exact HC2.out) (by rw [hTL]; exact Nat.le_refl _) (fun _ a e => by obtain rfl := Option.some.inj e; show w.heap.size ≠ hb; have := HP2.out.n; omega) (Sh.turn_bytes _ _) (by rw [hTL]; simp)
    rw [hTL, List.nil_append] at this
    exact this⟩
   go_wp2_with fail
   refine HF.out.mono ?_
   rintro e w3 ⟨rfl, ⟨r3, h3⟩, g3⟩
   have HP3 : Aside0 (Sh.Mp w hb (Sh.turn kb t ++ Sh.cat ps 0) r3 w3) := ⟨by rw [Sh.cat, List.append_nil]; exact HP2.out.next h3 g3⟩
   clear h3 g3 HF HP2 HC2 hsl
   go_wp2_with fail
   go_loopw [27] (fun v27 wr => ∃ (i : Nat) (r : List Int), v27 = .int .i64 i ∧ i ≤ n ∧ Aside0 (Sh.Mp w hb (Sh.turn kb t ++ Sh.cat ps i) r wr)) (fun v _ => n - (intOf v).toNat)
   case atStart => exact ⟨0, r3, rfl, Nat.zero_le _, HP3⟩
   case round =>
    clear HP3
    obtain ⟨i, r, rfl, hi, HP⟩ := hrel
    by_cases hlt : i < n
    ·obtain ⟨ad, e1, hcell, hlc, hpb, hpC⟩ := HR.out i hlt
     subst e1
     obtain ⟨L, HLL⟩ : ∃ L, Aside0 ((ps i).length = L) := ⟨_, ⟨rfl⟩⟩
     rw [HLL.out] at hcell hlc
     obtain ⟨Ai, HAi⟩ : ∃ a, Aside0 (As i = a) := ⟨_, ⟨rfl⟩⟩
     obtain ⟨Ci, HCi⟩ : ∃ a, Aside0 (Cs i = a) := ⟨_, ⟨rfl⟩⟩
     have hx : wr.cell? (ad.add i) = some (.slice Ai L Ci) := by
      rw [← HAi.out, ← HCi.out]
      exact (HP.out.g.cell (World.block_lt_of_cell? w _ hcell)).trans hcell
     have HF : Aside0 (Calls Tryd.prog 60 #[.pointer (some ⟨hb, 0, none⟩), .slice Ai L Ci] wr fun e w' => e = .returned (.tuple #[]) ∧ (∃ rest', Sh.Ha w' hb (Sh.turn kb t ++ Sh.cat ps (i + 1)) rest') ∧ wr.grownBy w' (some hb)) := ⟨by
      rw [HAi.out] at hpC
      have hlen := HLN.out (i + 1) hlt
      rw [Sh.cat, List.length_append] at hlen
      have := write_.calls hb (Sh.turn kb t ++ Sh.cat ps i) r Ai Ci (ps i) wr HP.out.h (by have := HP.out.n; omega) (HK.out.below HP.out.g) (Kd.C_below hpC HP.out.g) (by rw [HLL.out, ← HCi.out]; exact hlc)
       (fun hl a e => Sh.far_of_C hpC hl e (by have := HP.out.n; omega)) hpb (by rw [List.length_append, Sh.turn_length, HL.out]; omega)
      rw [HLL.out, List.append_assoc] at this
      exact this⟩
     clear hcell hlc hpb hpC
     go_wp2_with fail
     refine HF.out.mono ?_
     rintro e w4 ⟨rfl, ⟨r4, h4⟩, g4⟩
     have HP4 := Aside0.mk (HP.out.next h4 g4)
     clear h4 g4 HF HP hx
     go_wp2_with fail
     exact ⟨⟨i + 1, r4, by go_num, by omega, HP4⟩, by simp [intOf]; omega⟩
    ·obtain rfl : i = n := by omega
     obtain ⟨D, HDD⟩ : ∃ D, Aside0 (Sh.u8s (Sh.dig (Sh.turn kb t ++ Sh.cat ps i)) = D) := ⟨_, ⟨rfl⟩⟩
     have HF : Aside0 (Calls Tryd.prog 61 #[.pointer (some ⟨hb, 0, none⟩)] wr fun e w' => e = .returned (.agg D) ∧ Below wr.heap.size wr w') := ⟨by
      have := sum_.calls hb (Sh.turn kb t ++ Sh.cat ps i) r wr HP.out.h (HK.out.below HP.out.g) (Sh.app_bytes (Sh.turn_bytes _ _) (Sh.cat_bytes ps i (fun j hj => (HR.out j hj).choose_spec.2.2.2.1) i (Nat.le_refl _))) (by rw [List.length_append, Sh.turn_length, HL.out]; have := HLN.out i (Nat.le_refl _); omega)
      rw [HDD.out] at this
      exact this⟩
     go_wp2_with fail
     refine HF.out.mono ?_
     rintro e w4 ⟨rfl, hb4⟩
     have HB4 : Aside0 (Below w.heap.size w w4) := ⟨below_then HP.out.g HP.out.g.size hb4⟩
     have HO4 : Aside0 (w4.heap[w.heap.size + 1]? = some (.cells (Sh.u8s (List.replicate 32 0)) 79 (0, 0))) := ⟨(hb4.block _ (Array.getElem?_eq_some_iff.1 HP.out.o).1).trans HP.out.o⟩
     clear hb4 HF HP
     have hl32 := Sh.dig_length (Sh.turn kb t ++ Sh.cat ps i)
     have hDs : D.size = 32 := by rw [← HDD.out]; simp [Sh.u8s, hl32]
     have HS : Aside0 ((Tryd.prog.info? 79).map (·.size) = some D.size) := ⟨by rw [hDs]; kernel_rfl⟩
     have HZ2 : Aside0 ((Sh.u8s (List.replicate 32 0)).size = D.size) := ⟨by rw [hDs]; rfl⟩
     have HONE : Aside0 (D.all (·.oneCell') = true) := ⟨by rw [← HDD.out]; simp [Sh.u8s, Value.oneCell']⟩
     clear hDs hl32
     go_wp2_with (refine wpList_store_row rfl 79 (.tmp 6) (.tmp 36) rfl (w.heap.size + 1) D rfl rfl 79 _ HO4.out HS.out HZ2.out HONE.out ?_)
     refine ⟨rfl, .agg D, ?_, by rw [HDD.out], below_setRow HB4.out (Nat.le_succ _) D⟩
     exact results_cell_row rfl _ _ (w.heap.size + 1) 79 D (0, 0) _ rfl (setRow_heap w4 (w.heap.size + 1) _ D _ _ HO4.out) Tryd.underlying79 rfl HS.out
end Go.Proofs.YtgljicdpcapgnaaDoor
