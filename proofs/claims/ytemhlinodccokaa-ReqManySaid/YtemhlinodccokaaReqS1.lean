/- req.Replies: what the stores behind the appends leave; the deferred function. -/
import Derived.Test.YtemhlinodccokaaReqS0
import Derived.Recover
set_option linter.unusedVariables false
set_option linter.unusedSimpArgs false
namespace Go.Proofs.Ytemhlinodccokaa.Rp
open Go.RowKit Go.Proofs.YtemhlinodccokaaW.PrintWords Go.Proofs.YtemhlinodccokaaW.PrintLast Go.Proofs.YtemhlinodccokaaW.PrintMore
section
variable {w W W' : World} {p1 p2 p3 p4 : Nat} {ua uc ud rv mv va vc vd : Value} {an cs : List Int} {ds : List (List Int)} {A : Option Addr} {c : Nat} {b : List Int}
theorem Wd.only0 (h : Wd w W p1 p2 p3 p4 ua uc ud rv mv) {u : Value} (hO : Wk.Only W W' w.heap.size) (hb : Wk.Blk W' w.heap.size 42 [u]) : Wd w W' p1 p2 p3 p4 u uc ud rv mv := by
  have h1 := h.lt1
  have h2 := h.lt2
  have h3 := h.lt3
  have h4 := h.lt4
  exact ⟨h1, h2, h3, h4, hb, h.b1.only hO (by omega), h.b2.only hO (by omega), h.b3.only hO (by omega), h.b4.only hO (by omega), Wk.Only.below h.below hO (Nat.le_refl _)⟩
theorem Wd.only1 (h : Wd w W p1 p2 p3 p4 ua uc ud rv mv) {u : Value} (hO : Wk.Only W W' p1) (hb : Wk.Blk W' p1 43 [u]) : Wd w W' p1 p2 p3 p4 ua u ud rv mv := by
  have h1 := h.lt1
  have h2 := h.lt2
  have h3 := h.lt3
  have h4 := h.lt4
  exact ⟨h1, h2, h3, h4, h.b0.only hO (by omega), hb, h.b2.only hO (by omega), h.b3.only hO (by omega), h.b4.only hO (by omega), Wk.Only.below h.below hO (by omega)⟩
theorem Wd.only2 (h : Wd w W p1 p2 p3 p4 ua uc ud rv mv) {u : Value} (hO : Wk.Only W W' p2) (hb : Wk.Blk W' p2 44 [u]) : Wd w W' p1 p2 p3 p4 ua uc u rv mv := by
  have h1 := h.lt1
  have h2 := h.lt2
  have h3 := h.lt3
  have h4 := h.lt4
  exact ⟨h1, h2, h3, h4, h.b0.only hO (by omega), h.b1.only hO (by omega), hb, h.b3.only hO (by omega), h.b4.only hO (by omega), Wk.Only.below h.below hO (by omega)⟩
theorem Wd.only3 (h : Wd w W p1 p2 p3 p4 ua uc ud rv mv) (hO : Wk.Only W W' p3) (hb : Wk.Blk W' p3 4 [.bool false]) : Wd w W' p1 p2 p3 p4 ua uc ud rv mv := by
  have h1 := h.lt1
  have h2 := h.lt2
  have h3 := h.lt3
  have h4 := h.lt4
  exact ⟨h1, h2, h3, h4, h.b0.only hO (by omega), h.b1.only hO (by omega), h.b2.only hO (by omega), hb, h.b4.only hO (by omega), Wk.Only.below h.below hO (by omega)⟩
theorem Wd.only4 (h : Wd w W p1 p2 p3 p4 ua uc ud rv mv) {u : Value} (hO : W.grownBy W' (some p4)) (hb : Wk.Blk W' p4 65 [u, mv]) : Wd w W' p1 p2 p3 p4 ua uc ud u mv := by
  have h1 := h.lt1
  have h2 := h.lt2
  have h3 := h.lt3
  have h4 := h.lt4
  have ne : ∀ k, k ≠ p4 → some k ≠ some p4 := fun k hk he => hk (by injection he)
  exact ⟨h1, h2, h3, h4, h.b0.grown hO (ne _ (by omega)), h.b1.grown hO (ne _ (by omega)), h.b2.grown hO (ne _ (by omega)), h.b3.grown hO (ne _ (by omega)), hb, h.below.grown hO h.below.size (fun k hk => by injection hk with hk; omega)⟩
theorem set_only (g : Nat) (u : Value) : Wk.Only W (W.setCell ⟨g, 0, none⟩ u) g := Wk.only_setCell W g 0 u
theorem Wd.set0 (h : Wd w W p1 p2 p3 p4 ua uc ud rv mv) (u : Value) : Wd w (W.setCell ⟨w.heap.size, 0, none⟩ u) p1 p2 p3 p4 u uc ud rv mv := h.only0 (set_only _ u) (h.b0.set_ 0 u)
theorem Wd.set1 (h : Wd w W p1 p2 p3 p4 ua uc ud rv mv) (u : Value) : Wd w (W.setCell ⟨p1, 0, none⟩ u) p1 p2 p3 p4 ua u ud rv mv := h.only1 (set_only _ u) (h.b1.set_ 0 u)
theorem Wd.set2 (h : Wd w W p1 p2 p3 p4 ua uc ud rv mv) (u : Value) : Wd w (W.setCell ⟨p2, 0, none⟩ u) p1 p2 p3 p4 ua uc u rv mv := h.only2 (set_only _ u) (h.b2.set_ 0 u)
theorem Wd.set3 (h : Wd w W p1 p2 p3 p4 ua uc ud rv mv) : Wd w (W.setCell ⟨p3, 0, none⟩ (.bool false)) p1 p2 p3 p4 ua uc ud rv mv := h.only3 (set_only _ _) (h.b3.set_ 0 _)
theorem catch_panicking (u : TypeId) (pv : Value) (older : List PanicEntry) (h : Wd w W p1 p2 p3 p4 ua uc ud rv mv) :
    CallsD Try.prog 30 #[.pointer (some ⟨w.heap.size, 0, none⟩), .pointer (some ⟨p1, 0, none⟩), .pointer (some ⟨p2, 0, none⟩), .pointer (some ⟨p3, 0, none⟩)] (.panicking ({ v := .iface u pv, recovered := false } :: older)) W fun e u' w' =>
      e = .returned (.tuple #[]) ∧ u' = .panicking ({ v := .iface u pv, recovered := true } :: older) ∧ Wd w w' p1 p2 p3 p4 (.slice none 0 0) (.slice none 0 0) (.slice none 0 0) rv mv := by
  have c0 := h.b0.at_ 0 rfl
  have z0 := h.b0.frozen 0
  have k1 := h.set0 (.slice none 0 0)
  have c1 := k1.b1.at_ 0 rfl
  have z1 := k1.b1.frozen 0
  have k2 := k1.set1 (.slice none 0 0)
  have c2 := k2.b2.at_ 0 rfl
  have z2 := k2.b2.frozen 0
  have k3 := k2.set2 (.slice none 0 0)
  have c3 := k3.b3.at_ 0 rfl
  have z3 := k3.b3.frozen 0
  have K4 := Aside0.mk k3.set3
  clear k1 k2 k3 h
  refine callsD_of_wpS Try.func30 rfl fun c₀ cs hu => ?_
  apply wpS_seq
  apply wpS_region
  simp [wpOpsS, go_sem, recoverD, hu, Try.ntmps30, Exit.thenS]
  apply wpS_seq
  apply wpS_region
  simp [wpOpsS, go_sem, Exit.thenS]
  refine wpS_cond (t := true) (by simp [Act.eval, Array.replicate]) ?_
  simp only [if_true]
  apply wpS_region
  simp [wpOpsS, go_sem, c0, z0, c1, z1, c2, z2, c3, z3, bodyPostS, results, Try.results30]
  exact K4.out
theorem catch_idle (q0 q1 q2 q3 : Addr) (w : World) :
    CallsD Try.prog 30 #[.pointer (some q0), .pointer (some q1), .pointer (some q2), .pointer (some q3)] .returning w fun e u' w' => e = .returned (.tuple #[]) ∧ u' = .returning ∧ w' = w := by
  refine callsD_of_wpS Try.func30 rfl fun c₀ cs hu => ?_
  apply wpS_seq
  apply wpS_region
  simp [wpOpsS, go_sem, recoverD, hu, Try.ntmps30, Exit.thenS]
  apply wpS_seq
  apply wpS_region
  simp [wpOpsS, go_sem, Exit.thenS]
  refine wpS_cond (t := false) (by simp [Act.eval, Array.replicate]) ?_
  simp only [Bool.false_eq_true, if_false]
  refine wpS_of_wp (wp_skip ?_)
  cases c₀
  simp_all [bodyPostS, results, Try.results30]
end
theorem o12 : ((opsOf Try.f20 5)[12]?).map (fun o => (o.op, o.dst, o.guard)) = some (.store 42 (.tmp 4) (.tmp 32), none, none) := by kernel_rfl
theorem o13 : ((opsOf Try.f20 5)[13]?).map (fun o => (o.op, o.dst, o.guard)) = some (.store 43 (.tmp 5) (.tmp 36), none, none) := by kernel_rfl
theorem o14 : ((opsOf Try.f20 5)[14]?).map (fun o => (o.op, o.dst, o.guard)) = some (.store 44 (.tmp 6) (.tmp 40), none, none) := by kernel_rfl
theorem one32 : (Try.prog.info? 42).map (·.size) = some 1 := by kernel_rfl
theorem one64 : (Try.prog.info? 43).map (·.size) = some 1 := by kernel_rfl
theorem oneRow : (Try.prog.info? 44).map (·.size) = some 1 := by kernel_rfl
theorem fin_ {D : List Deferred} {x0 x1 x2 x3 x7 x8 x9 x10 x11 x12 x13 x14 x15 x16 x17 x18 x19 x20 x21 x22 x23 x24 x25 x26 x27 x28 x41 x42 x43 : Value} {w : World} {p1 p2 p3 p4 : Nat} {rv mv va vc vd e31 e32 e35 e36 e39 e40 : Value} {A5 : Option Addr} {n5 c5 : Nat} {an cs : List Int} {ds : List (List Int)} {A : Option Addr} {c : Nat} {b : List Int} {x y : Int} {d5 : List Int} {Q : Exit → Act → World → Prop} {a : Act} {W : World} {S : World → Prop}
    (h : St D x0 x1 x2 x3 (.pointer (some ⟨w.heap.size, 0, none⟩)) (.pointer (some ⟨p1, 0, none⟩)) (.pointer (some ⟨p2, 0, none⟩)) x7 x8 x9 x10 x11 x12 x13 x14 x15 x16 x17 x18 x19 x20 x21 x22 x23 x24 x25 x26 x27 x28 x41 x42 x43 w p1 p2 p3 p4 rv mv va vc vd e31 e32 e35 e36 e39 e40 A5 n5 c5 an cs ds A c b x y d5 true true true true true true a W)
    (hQ : ∀ (g2 g6 g10 : Nat) (va' vc' vd' : Value) (W' : World), Wd w W' p1 p2 p3 p4 va' vc' vd' rv mv → Rw w W' p4 va' vc' vd' (an ++ [x]) (cs ++ [y]) (ds ++ [d5]) → Rb w W' p4 A c b →
      Q .normal (F D x0 x1 x2 x3 (.pointer (some ⟨w.heap.size, 0, none⟩)) (.pointer (some ⟨p1, 0, none⟩)) (.pointer (some ⟨p2, 0, none⟩)) x7 x8 x9 x10 x11 x12 x13 x14 x15 x16 x17 x18 x19 x20 x21 x22 x23 x24 x25 x26 x27 x28 x41 x42 x43 va (.int .u32 x) (.slice (some ⟨g2, 0, none⟩) 1 1) va' vc (.int .u64 y) (.slice (some ⟨g6, 0, none⟩) 1 1) vc' vd (.slice A5 n5 c5) (.slice (some ⟨g10, 0, none⟩) 1 1) vd') W') :
    wpAnyLast Try.prog .any (opsOf Try.f20 5) Q S [12, 13, 14] 3 #[true, true, true, true, true, true, true, true, true, true, true, true, false, false, false] a W := by
  obtain ⟨g2, g6, g10, va', vc', vd', rfl, hw, hr, hb, _⟩ := h.out
  have l1 := hw.lt1
  have l2 := hw.lt2
  have l3 := hw.lt3
  have l4 := hw.lt4
  obtain ⟨Av, cv, hva⟩ := Kd.R_slice hr.ra
  obtain ⟨Ac, cc, hvc⟩ := Kd.R_slice hr.rc
  obtain ⟨Ad, cd, hvd⟩ := Kd.R_slice hr.rd
  subst hva; subst hvc; subst hvd
  refine wpAnyLast_all (rs := [12]) (by kernel_rfl) (by simp) (fun i hi => ?_)
  obtain rfl := List.mem_singleton.1 hi
  obtain ⟨o, hi, ho, hN, hgd⟩ := opat o12
  refine Wk.wpOp_of hi hgd (Wk.wp_store hN _ _ _ ho w.heap.size 0 _ [_] rfl rfl rfl _ _ hw.b0 one32 (Nat.le_refl _) rfl (fun W1 hB1 hO1 => ⟨fun hn => absurd (by decide) hn, ?_⟩))
  have hw1 := hw.only0 hO1 hB1
  have hr1 := hr.only hO1 (by omega)
  have hb1 := hb.only hO1 (by omega)
  refine wpAnyLast_all (rs := [13]) (by kernel_rfl) (by simp) (fun i hi => ?_)
  obtain rfl := List.mem_singleton.1 hi
  obtain ⟨o, hi, ho, hN, hgd⟩ := opat o13
  refine Wk.wpOp_of hi hgd (Wk.wp_store hN _ _ _ ho p1 0 _ [_] rfl rfl rfl _ _ hw1.b1 one64 (Nat.le_refl _) rfl (fun W2 hB2 hO2 => ⟨fun hn => absurd (by decide) hn, ?_⟩))
  have hw2 := hw1.only1 hO2 hB2
  have hr2 := hr1.only hO2 (by omega)
  have hb2 := hb1.only hO2 (by omega)
  refine wpAnyLast_all (rs := [14]) (by kernel_rfl) (by simp) (fun i hi => ?_)
  obtain rfl := List.mem_singleton.1 hi
  obtain ⟨o, hi, ho, hN, hgd⟩ := opat o14
  refine Wk.wpOp_of hi hgd (Wk.wp_store hN _ _ _ ho p2 0 _ [_] rfl rfl rfl _ _ hw2.b2 oneRow (Nat.le_refl _) rfl (fun W3 hB3 hO3 => ⟨fun hn => absurd (by decide) hn, ?_⟩))
  have hw3 := hw2.only2 hO3 hB3
  have hr3 := hr2.only hO3 (by omega)
  have hb3 := hb2.only hO3 (by omega)
  refine wpAnyLast_done (by kernel_rfl) ?_ _
  exact hQ g2 g6 g10 _ _ _ W3 hw3 hr3 hb3
end Go.Proofs.Ytemhlinodccokaa.Rp
