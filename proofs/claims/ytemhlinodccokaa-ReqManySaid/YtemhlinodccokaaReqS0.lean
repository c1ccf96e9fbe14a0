/- req.Replies: the region that appends three times, through its states; what the world holds beside. (Printed in part.) -/
import Derived.Test.YtemhlinodccokaaReqO
set_option linter.unusedVariables false
set_option linter.unusedSimpArgs false
namespace Go.Proofs.Ytemhlinodccokaa.Rp
open Go.RowKit Go.Proofs.YtemhlinodccokaaW.PrintWords Go.Proofs.YtemhlinodccokaaW.PrintLast Go.Proofs.YtemhlinodccokaaW.PrintMore
/-- the variables' blocks -/
structure Wd (w W : World) (p1 p2 p3 p4 : Nat) (ua uc ud rv mv : Value) : Prop where
  lt1 : w.heap.size < p1
  lt2 : p1 < p2
  lt3 : p2 < p3
  lt4 : p3 < p4
  b0 : Wk.Blk W w.heap.size 42 [ua]
  b1 : Wk.Blk W p1 43 [uc]
  b2 : Wk.Blk W p2 44 [ud]
  b3 : Wk.Blk W p3 4 [.bool false]
  b4 : Wk.Blk W p4 65 [rv, mv]
  below : Below w.heap.size w W
/-- the rows -/
structure Rw (w W : World) (p4 : Nat) (va vc vd : Value) (an cs : List Int) (ds : List (List Int)) : Prop where
  ra : Kd.R (Kd.int .u32) 26 W w.heap.size (fun k => p4 < k) va an
  rc : Kd.R (Kd.int .u64) 25 W w.heap.size (fun k => p4 < k) vc cs
  rd : Kd.R (Kd.slice 5 (Kd.int .u8)) 22 W w.heap.size (fun k => p4 < k) vd ds
/-- the bytes that are left: what came in, or what is made -/
def Rb (w W : World) (p4 : Nat) (A : Option Addr) (c : Nat) (b : List Int) : Prop := Kd.C (Kd.int .u8) w A b.length b ∨ Kd.Q (Kd.int .u8) 5 W w.heap.size (fun k => p4 < k) (.slice A b.length c) b
section
variable {w W W' : World} {p1 p2 p3 p4 : Nat} {ua uc ud rv mv va vc vd : Value} {an cs : List Int} {ds : List (List Int)} {A : Option Addr} {c : Nat} {b : List Int}
theorem Wd.grown (h : Wd w W p1 p2 p3 p4 ua uc ud rv mv) {row : Option Nat} (hg : W.grownBy W' row) (hr : ∀ k, row = some k → p4 < k) : Wd w W' p1 p2 p3 p4 ua uc ud rv mv := by
  have h1 := h.lt1
  have h2 := h.lt2
  have h3 := h.lt3
  have h4 := h.lt4
  have ne : ∀ k, k ≤ p4 → some k ≠ row := fun k hk he => by have := hr k he.symm; omega
  exact ⟨h1, h2, h3, h4, h.b0.grown hg (ne _ (by omega)), h.b1.grown hg (ne _ (by omega)), h.b2.grown hg (ne _ (by omega)), h.b3.grown hg (ne _ (by omega)), h.b4.grown hg (ne _ (by omega)), h.below.grown hg h.below.size (fun k hk => by have := hr k hk; omega)⟩
theorem Wd.below_ (h : Wd w W p1 p2 p3 p4 ua uc ud rv mv) (hb : Below W.heap.size W W') : Wd w W' p1 p2 p3 p4 ua uc ud rv mv := h.grown (grown_of_below hb none) (fun k hk => by cases hk)
theorem Rw.below_ (h : Rw w W p4 va vc vd an cs ds) (hb : Below W.heap.size W W') : Rw w W' p4 va vc vd an cs ds := ⟨Kd.R_below h.ra hb, Kd.R_below h.rc hb, Kd.R_below h.rd hb⟩
theorem Rw.only {g : Nat} (h : Rw w W p4 va vc vd an cs ds) (hO : Wk.Only W W' g) (hg : g ≤ p4) : Rw w W' p4 va vc vd an cs ds :=
  ⟨Kd.R_grown h.ra hO.grown (fun k hk he => by injection he; omega), Kd.R_grown h.rc hO.grown (fun k hk he => by injection he; omega), Kd.R_grown h.rd hO.grown (fun k hk he => by injection he; omega)⟩
theorem Rw.grown_ {g : Nat} (h : Rw w W p4 va vc vd an cs ds) (hO : W.grownBy W' (some g)) (hg : g ≤ p4) : Rw w W' p4 va vc vd an cs ds :=
  ⟨Kd.R_grown h.ra hO (fun k hk he => by injection he; omega), Kd.R_grown h.rc hO (fun k hk he => by injection he; omega), Kd.R_grown h.rd hO (fun k hk he => by injection he; omega)⟩
theorem Rb.below_ (h : Rb w W p4 A c b) (hb : Below W.heap.size W W') : Rb w W' p4 A c b := h.imp id (fun h => Kd.Q_below h hb)
theorem Rb.reads (h : Rb w W p4 A c b) (hb : Below w.heap.size w W) : Kd.C (Kd.int .u8) W A b.length b := by
  rcases h with h | h
  · exact Kd.C_below h hb
  · exact (Kd.Q_reads' h).2.2
theorem Rb.only {g : Nat} (h : Rb w W p4 A c b) (hO : Wk.Only W W' g) (hg : g ≤ p4) : Rb w W' p4 A c b := h.imp id (fun h => Kd.Q_grown h hO.grown (fun k hk he => by injection he; omega))
theorem lt_own {α : Type} {d : Kd α} {e : Nat} {v : Value} {xs : List α} (h : d.R e W w.heap.size (fun k => p4 < k) v xs) : ∀ k, v.ownBlock = some k → p4 < k := h.1
end
/-- the act at the region, by its slots -/
def F (D : List Deferred) (x0 x1 x2 x3 x4 x5 x6 x7 x8 x9 x10 x11 x12 x13 x14 x15 x16 x17 x18 x19 x20 x21 x22 x23 x24 x25 x26 x27 x28 x41 x42 x43 x29 x30 x31 x32 x33 x34 x35 x36 x37 x38 x39 x40 : Value) : Act := ⟨#[x0, x1, x2, x3, x4, x5, x6, x7, x8, x9, x10, x11, x12, x13, x14, x15, x16, x17, x18, x19, x20, x21, x22, x23, x24, x25, x26, x27, x28, x29, x30, x31, x32, x33, x34, x35, x36, x37, x38, x39, x40, x41, x42, x43], D⟩

def sl (f : Bool) (g : Nat) (d : Value) : Value := if f then .slice (some ⟨g, 0, none⟩) 1 1 else d
def op (q : Bool) (v d : Value) : Value := if q then v else d
def ap {α : Type} (q : Bool) (l : List α) (x : α) : List α := if q then l ++ [x] else l
section
variable (D : List Deferred) (x0 x1 x2 x3 x4 x5 x6 x7 x8 x9 x10 x11 x12 x13 x14 x15 x16 x17 x18 x19 x20 x21 x22 x23 x24 x25 x26 x27 x28 x41 x42 x43 : Value) (w : World) (p1 p2 p3 p4 : Nat) (rv mv va vc vd e31 e32 e35 e36 e39 e40 : Value) (A5 : Option Addr) (n5 c5 : Nat) (an cs : List Int) (ds : List (List Int)) (A : Option Addr) (c : Nat) (b : List Int) (x y : Int) (d5 : List Int)
/-- a state of the region: which boxes are laid, which appends are done -/
structure St (f2 f6 f10 q1 q2 q3 : Bool) (a : Act) (W : World) : Prop where mk_ ::
  out : ∃ (g2 g6 g10 : Nat) (va' vc' vd' : Value), a = F D x0 x1 x2 x3 x4 x5 x6 x7 x8 x9 x10 x11 x12 x13 x14 x15 x16 x17 x18 x19 x20 x21 x22 x23 x24 x25 x26 x27 x28 x41 x42 x43 va (.int .u32 x) (sl f2 g2 e31) (op q1 va' e32) vc (.int .u64 y) (sl f6 g6 e35) (op q2 vc' e36) vd (.slice A5 n5 c5) (sl f10 g10 e39) (op q3 vd' e40) ∧ Wd w W p1 p2 p3 p4 va vc vd rv mv ∧ Rw w W p4 va' vc' vd' (ap q1 an x) (ap q2 cs y) (ap q3 ds d5) ∧ Rb w W p4 A c b ∧
    (q1 = false → va' = va) ∧ (q2 = false → vc' = vc) ∧ (q3 = false → vd' = vd) ∧ (q3 = false → Kd.R (Kd.int .u8) 5 W w.heap.size (fun k => p4 < k) (.slice A5 n5 c5) d5) ∧ (f2 = true → q1 = false → Wk.Blk W g2 26 [.int .u32 x]) ∧ (f6 = true → q2 = false → Wk.Blk W g6 25 [.int .u64 y]) ∧ (f10 = true → q3 = false → Wk.Blk W g10 22 [(.slice A5 n5 c5)])
end
theorem info32 : (Try.prog.info? 26).map (fun i => (i.zero, i.size, i.bytes)) = some (some (.int .u32 0), 1, 4) := by kernel_rfl
theorem infoRow : (Try.prog.info? 22).map (fun i => (i.zero, i.size, i.bytes)) = some (some (.slice none 0 0), 1, 24) := by kernel_rfl
section
variable {D : List Deferred} {x0 x1 x2 x3 x4 x5 x6 x7 x8 x9 x10 x11 x12 x13 x14 x15 x16 x17 x18 x19 x20 x21 x22 x23 x24 x25 x26 x27 x28 x41 x42 x43 : Value} {w : World} {p1 p2 p3 p4 : Nat} {rv mv va vc vd e31 e32 e35 e36 e39 e40 : Value} {A5 : Option Addr} {n5 c5 : Nat} {an cs : List Int} {ds : List (List Int)} {A : Option Addr} {c : Nat} {b : List Int} {x y : Int} {d5 : List Int} {K : Act → World → Prop} {Q : Exit → Act → World → Prop} {f2 f6 f10 q1 q2 q3 : Bool} {a : Act} {W : World}
theorem o2 : ((opsOf Try.f20 5)[2]?).map (fun o => (o.op, o.dst, o.guard)) = some (.buildSlice 42 1 #[(0, .tmp 30)], some 31, none) := by kernel_rfl
theorem o6 : ((opsOf Try.f20 5)[6]?).map (fun o => (o.op, o.dst, o.guard)) = some (.buildSlice 43 1 #[(0, .tmp 34)], some 35, none) := by kernel_rfl
theorem o10 : ((opsOf Try.f20 5)[10]?).map (fun o => (o.op, o.dst, o.guard)) = some (.buildSlice 44 1 #[(0, .tmp 38)], some 39, none) := by kernel_rfl
theorem o3 : ((opsOf Try.f20 5)[3]?).map (fun o => (o.op, o.dst, o.guard)) = some (.call { callee := .builtin .append, args := #[.tmp 29, .tmp 31], argTypes := #[42, 42] }, some 32, none) := by kernel_rfl
theorem o7 : ((opsOf Try.f20 5)[7]?).map (fun o => (o.op, o.dst, o.guard)) = some (.call { callee := .builtin .append, args := #[.tmp 33, .tmp 35], argTypes := #[43, 43] }, some 36, none) := by kernel_rfl
theorem o11 : ((opsOf Try.f20 5)[11]?).map (fun o => (o.op, o.dst, o.guard)) = some (.call { callee := .builtin .append, args := #[.tmp 37, .tmp 39], argTypes := #[44, 44] }, some 40, none) := by kernel_rfl
theorem opat {i : Nat} {z : Op × Option Tmp × Option (Tmp × Bool)} (h : ((opsOf Try.f20 5)[i]?).map (fun o => (o.op, o.dst, o.guard)) = some z) : ∃ o, (opsOf Try.f20 5)[i]? = some o ∧ o.op = z.1 ∧ o.dst = z.2.1 ∧ o.guard = z.2.2 := by
  obtain ⟨o, h1, rfl⟩ := Option.map_eq_some_iff.1 h
  exact ⟨o, h1, rfl, rfl, rfl⟩

theorem box2 (h : St D x0 x1 x2 x3 x4 x5 x6 x7 x8 x9 x10 x11 x12 x13 x14 x15 x16 x17 x18 x19 x20 x21 x22 x23 x24 x25 x26 x27 x28 x41 x42 x43 w p1 p2 p3 p4 rv mv va vc vd e31 e32 e35 e36 e39 e40 A5 n5 c5 an cs ds A c b x y d5 false f6 f10 q1 q2 q3 a W) (hK : ∀ a' W', St D x0 x1 x2 x3 x4 x5 x6 x7 x8 x9 x10 x11 x12 x13 x14 x15 x16 x17 x18 x19 x20 x21 x22 x23 x24 x25 x26 x27 x28 x41 x42 x43 w p1 p2 p3 p4 rv mv va vc vd e31 e32 e35 e36 e39 e40 A5 n5 c5 an cs ds A c b x y d5 true f6 f10 q1 q2 q3 a' W' → K a' W') : wpOp Try.prog (opsOf Try.f20 5) Q 2 K a W := by
  obtain ⟨g2, g6, g10, va', vc', vd', rfl, hw, hr, hb, e1, e2, e3, hd, h2, h6, h10⟩ := h.out
  obtain ⟨o, hi, ho, hN, hgd⟩ := opat o2
  refine Wk.wpOp_if hi ?_
  rw [hN]
  refine value_ (N := some 31) (w1 := W.alloc (.cells #[.int .u32 x] 26)) (v := .slice (some ⟨W.heap.size, 0, none⟩) 1 1) (by simp [Region.wanted, hgd]) hN (by unfold F; go_simp) ?_
  have hB : Below W.heap.size W (W.alloc (.cells #[.int .u32 x] 26)) := (Below.refl _ _).alloc (Nat.le_refl _) _
  refine hK _ _ ⟨W.heap.size, g6, g10, va', vc', vd', rfl, hw.below_ hB, hr.below_ hB, hb.below_ hB, e1, e2, e3, fun h => Kd.R_below (hd h) hB, fun _ _ => Wk.Blk.new W _ [.int .u32 x], fun h q => (h6 h q).alloc _, fun h q => (h10 h q).alloc _⟩
theorem box6 (h : St D x0 x1 x2 x3 x4 x5 x6 x7 x8 x9 x10 x11 x12 x13 x14 x15 x16 x17 x18 x19 x20 x21 x22 x23 x24 x25 x26 x27 x28 x41 x42 x43 w p1 p2 p3 p4 rv mv va vc vd e31 e32 e35 e36 e39 e40 A5 n5 c5 an cs ds A c b x y d5 f2 false f10 q1 q2 q3 a W) (hK : ∀ a' W', St D x0 x1 x2 x3 x4 x5 x6 x7 x8 x9 x10 x11 x12 x13 x14 x15 x16 x17 x18 x19 x20 x21 x22 x23 x24 x25 x26 x27 x28 x41 x42 x43 w p1 p2 p3 p4 rv mv va vc vd e31 e32 e35 e36 e39 e40 A5 n5 c5 an cs ds A c b x y d5 f2 true f10 q1 q2 q3 a' W' → K a' W') : wpOp Try.prog (opsOf Try.f20 5) Q 6 K a W := by
  obtain ⟨g2, g6, g10, va', vc', vd', rfl, hw, hr, hb, e1, e2, e3, hd, h2, h6, h10⟩ := h.out
  obtain ⟨o, hi, ho, hN, hgd⟩ := opat o6
  refine Wk.wpOp_if hi ?_
  rw [hN]
  refine value_ (N := some 35) (w1 := W.alloc (.cells #[.int .u64 y] 25)) (v := .slice (some ⟨W.heap.size, 0, none⟩) 1 1) (by simp [Region.wanted, hgd]) hN (by unfold F; go_simp) ?_
  have hB : Below W.heap.size W (W.alloc (.cells #[.int .u64 y] 25)) := (Below.refl _ _).alloc (Nat.le_refl _) _
  refine hK _ _ ⟨g2, W.heap.size, g10, va', vc', vd', rfl, hw.below_ hB, hr.below_ hB, hb.below_ hB, e1, e2, e3, fun h => Kd.R_below (hd h) hB, fun h q => (h2 h q).alloc _, fun _ _ => Wk.Blk.new W _ [.int .u64 y], fun h q => (h10 h q).alloc _⟩
theorem box10 (h : St D x0 x1 x2 x3 x4 x5 x6 x7 x8 x9 x10 x11 x12 x13 x14 x15 x16 x17 x18 x19 x20 x21 x22 x23 x24 x25 x26 x27 x28 x41 x42 x43 w p1 p2 p3 p4 rv mv va vc vd e31 e32 e35 e36 e39 e40 A5 n5 c5 an cs ds A c b x y d5 f2 f6 false q1 q2 q3 a W) (hK : ∀ a' W', St D x0 x1 x2 x3 x4 x5 x6 x7 x8 x9 x10 x11 x12 x13 x14 x15 x16 x17 x18 x19 x20 x21 x22 x23 x24 x25 x26 x27 x28 x41 x42 x43 w p1 p2 p3 p4 rv mv va vc vd e31 e32 e35 e36 e39 e40 A5 n5 c5 an cs ds A c b x y d5 f2 f6 true q1 q2 q3 a' W' → K a' W') : wpOp Try.prog (opsOf Try.f20 5) Q 10 K a W := by
  obtain ⟨g2, g6, g10, va', vc', vd', rfl, hw, hr, hb, e1, e2, e3, hd, h2, h6, h10⟩ := h.out
  obtain ⟨o, hi, ho, hN, hgd⟩ := opat o10
  refine Wk.wpOp_if hi ?_
  rw [hN]
  refine value_ (N := some 39) (w1 := W.alloc (.cells #[(.slice A5 n5 c5)] 22)) (v := .slice (some ⟨W.heap.size, 0, none⟩) 1 1) (by simp [Region.wanted, hgd]) hN (by unfold F; go_simp) ?_
  have hB : Below W.heap.size W (W.alloc (.cells #[(.slice A5 n5 c5)] 22)) := (Below.refl _ _).alloc (Nat.le_refl _) _
  refine hK _ _ ⟨g2, g6, W.heap.size, va', vc', vd', rfl, hw.below_ hB, hr.below_ hB, hb.below_ hB, e1, e2, e3, fun h => Kd.R_below (hd h) hB, fun h q => (h2 h q).alloc _, fun h q => (h6 h q).alloc _, fun _ _ => Wk.Blk.new W _ [(.slice A5 n5 c5)]⟩
theorem app3 (h : St D x0 x1 x2 x3 x4 x5 x6 x7 x8 x9 x10 x11 x12 x13 x14 x15 x16 x17 x18 x19 x20 x21 x22 x23 x24 x25 x26 x27 x28 x41 x42 x43 w p1 p2 p3 p4 rv mv va vc vd e31 e32 e35 e36 e39 e40 A5 n5 c5 an cs ds A c b x y d5 true f6 f10 false q2 q3 a W) (hl : an.length ≤ 1099511627776) (hK : ∀ a' W', St D x0 x1 x2 x3 x4 x5 x6 x7 x8 x9 x10 x11 x12 x13 x14 x15 x16 x17 x18 x19 x20 x21 x22 x23 x24 x25 x26 x27 x28 x41 x42 x43 w p1 p2 p3 p4 rv mv va vc vd e31 e32 e35 e36 e39 e40 A5 n5 c5 an cs ds A c b x y d5 true f6 f10 true q2 q3 a' W' → K a' W') : wpOp Try.prog (opsOf Try.f20 5) Q 3 K a W := by
  obtain ⟨g2, g6, g10, va', vc', vd', rfl, hw, hr, hb, e1, e2, e3, hd, h2, h6, h10⟩ := h.out
  have hsz := hw.below.size
  have hp4 : p4 < W.heap.size := hw.b4.lt
  obtain rfl := e1 rfl
  obtain ⟨o, hi, ho, hN, hgd⟩ := opat o3
  have ty := Kd.R_typed hr.ra
  refine Wk.wpOp_of hi hgd (Wk.wp_of_list (ops := (opsOf Try.f20 5)) hgd (Kd.R_append_rows (Kd.int .u32) (w0 := w) w.heap.size hgd (.tmp 29) (.tmp 31) 42 26 (.int .u32 0) 4 ho Try.underlying42 info32 rfl (by decide) (by omega) va' an [x] (some ⟨g2, 0, none⟩) 1 1 (fun k => p4 < k) (fun _ => False) rfl rfl hr.ra (Wk.reads_one (h2 rfl rfl) (show (Kd.int .u32).K W x [.int .u32 x] from rfl)) (fun _ _ h => h) (fun _ h => h.elim) (fun k hk => Nat.lt_of_lt_of_le hp4 hk) hw.below hsz (by omega) ?_))
  intro v1 w1 hra _ hg _
  rw [hN]
  refine hK _ _ ⟨g2, g6, g10, v1, vc', vd', rfl, hw.grown hg (lt_own (w := w) (p4 := p4) hr.ra), ⟨hra, Kd.R_over' hr.rc ty (by decide) hg, Kd.R_over' hr.rd ty (by decide) hg⟩, hb.imp id (fun h => Kd.Q_over' h ty (by decide) hg), (fun h => nomatch h), e2, e3, fun h => Kd.R_over' (hd h) ty (by decide) hg, (fun _ h => nomatch h), fun h q => (h6 h q).grown hg (Kd.R_ne hr.ra (h6 h q).out (by decide)), fun h q => (h10 h q).grown hg (Kd.R_ne hr.ra (h10 h q).out (by decide))⟩
theorem app7 (h : St D x0 x1 x2 x3 x4 x5 x6 x7 x8 x9 x10 x11 x12 x13 x14 x15 x16 x17 x18 x19 x20 x21 x22 x23 x24 x25 x26 x27 x28 x41 x42 x43 w p1 p2 p3 p4 rv mv va vc vd e31 e32 e35 e36 e39 e40 A5 n5 c5 an cs ds A c b x y d5 f2 true f10 q1 false q3 a W) (hl : cs.length ≤ 1099511627776) (hK : ∀ a' W', St D x0 x1 x2 x3 x4 x5 x6 x7 x8 x9 x10 x11 x12 x13 x14 x15 x16 x17 x18 x19 x20 x21 x22 x23 x24 x25 x26 x27 x28 x41 x42 x43 w p1 p2 p3 p4 rv mv va vc vd e31 e32 e35 e36 e39 e40 A5 n5 c5 an cs ds A c b x y d5 f2 true f10 q1 true q3 a' W' → K a' W') : wpOp Try.prog (opsOf Try.f20 5) Q 7 K a W := by
  obtain ⟨g2, g6, g10, va', vc', vd', rfl, hw, hr, hb, e1, e2, e3, hd, h2, h6, h10⟩ := h.out
  have hsz := hw.below.size
  have hp4 : p4 < W.heap.size := hw.b4.lt
  obtain rfl := e2 rfl
  obtain ⟨o, hi, ho, hN, hgd⟩ := opat o7
  have ty := Kd.R_typed hr.rc
  refine Wk.wpOp_of hi hgd (Wk.wp_of_list (ops := (opsOf Try.f20 5)) hgd (Kd.R_append_rows (Kd.int .u64) (w0 := w) w.heap.size hgd (.tmp 33) (.tmp 35) 43 25 (.int .u64 0) 8 ho Try.underlying43 Wi.info64 rfl (by decide) (by omega) vc' cs [y] (some ⟨g6, 0, none⟩) 1 1 (fun k => p4 < k) (fun _ => False) rfl rfl hr.rc (Wk.reads_one (h6 rfl rfl) (show (Kd.int .u64).K W y [.int .u64 y] from rfl)) (fun _ _ h => h) (fun _ h => h.elim) (fun k hk => Nat.lt_of_lt_of_le hp4 hk) hw.below hsz (by omega) ?_))
  intro v1 w1 hra _ hg _
  rw [hN]
  refine hK _ _ ⟨g2, g6, g10, va', v1, vd', rfl, hw.grown hg (lt_own (w := w) (p4 := p4) hr.rc), ⟨Kd.R_over' hr.ra ty (by decide) hg, hra, Kd.R_over' hr.rd ty (by decide) hg⟩, hb.imp id (fun h => Kd.Q_over' h ty (by decide) hg), e1, (fun h => nomatch h), e3, fun h => Kd.R_over' (hd h) ty (by decide) hg, fun h q => (h2 h q).grown hg (Kd.R_ne hr.rc (h2 h q).out (by decide)), (fun _ h => nomatch h), fun h q => (h10 h q).grown hg (Kd.R_ne hr.rc (h10 h q).out (by decide))⟩
theorem app11 (h : St D x0 x1 x2 x3 x4 x5 x6 x7 x8 x9 x10 x11 x12 x13 x14 x15 x16 x17 x18 x19 x20 x21 x22 x23 x24 x25 x26 x27 x28 x41 x42 x43 w p1 p2 p3 p4 rv mv va vc vd e31 e32 e35 e36 e39 e40 A5 n5 c5 an cs ds A c b x y d5 f2 f6 true q1 q2 false a W) (hl : ds.length ≤ 1099511627776) (hK : ∀ a' W', St D x0 x1 x2 x3 x4 x5 x6 x7 x8 x9 x10 x11 x12 x13 x14 x15 x16 x17 x18 x19 x20 x21 x22 x23 x24 x25 x26 x27 x28 x41 x42 x43 w p1 p2 p3 p4 rv mv va vc vd e31 e32 e35 e36 e39 e40 A5 n5 c5 an cs ds A c b x y d5 f2 f6 true q1 q2 true a' W' → K a' W') : wpOp Try.prog (opsOf Try.f20 5) Q 11 K a W := by
  obtain ⟨g2, g6, g10, va', vc', vd', rfl, hw, hr, hb, e1, e2, e3, hd, h2, h6, h10⟩ := h.out
  have hsz := hw.below.size
  have hp4 : p4 < W.heap.size := hw.b4.lt
  obtain rfl := e3 rfl
  obtain ⟨o, hi, ho, hN, hgd⟩ := opat o11
  have ty := Kd.R_typed hr.rd
  refine Wk.wpOp_of hi hgd (Wk.wp_of_list (ops := (opsOf Try.f20 5)) hgd (Kd.R_append_rows (Kd.slice 5 (Kd.int .u8)) (w0 := w) w.heap.size hgd (.tmp 37) (.tmp 39) 44 22 (.slice none 0 0) 24 ho Try.underlying44 infoRow rfl (by decide) (by omega) vd' ds [d5] (some ⟨g10, 0, none⟩) 1 1 (fun k => p4 < k) (fun k => p4 < k ∧ some k ≠ vd'.ownBlock) rfl rfl hr.rd (Wk.reads_one (h10 rfl rfl) (show (Kd.slice 5 (Kd.int .u8)).M W w.heap.size (fun k => p4 < k ∧ some k ≠ vd'.ownBlock) d5 [.slice A5 n5 c5] from ⟨_, rfl, Kd.R_apart' (hd rfl) ty (by decide)⟩)) (fun _ _ h => h) (fun _ h => h) (fun k hk => Nat.lt_of_lt_of_le hp4 hk) hw.below hsz (by omega) ?_))
  intro v1 w1 hra _ hg _
  rw [hN]
  refine hK _ _ ⟨g2, g6, g10, va', vc', v1, rfl, hw.grown hg (lt_own (w := w) (p4 := p4) hr.rd), ⟨Kd.R_over' hr.ra ty (by decide) hg, Kd.R_over' hr.rc ty (by decide) hg, hra⟩, hb.imp id (fun h => Kd.Q_over' h ty (by decide) hg), e1, e2, (fun h => nomatch h), (fun h => nomatch h), fun h q => (h2 h q).grown hg (Kd.R_ne hr.rd (h2 h q).out (by decide)), fun h q => (h6 h q).grown hg (Kd.R_ne hr.rd (h6 h q).out (by decide)), (fun _ h => nomatch h)⟩
section
variable {S : World → Prop}
theorem t_2_6_10_3_7 (h : St D x0 x1 x2 x3 x4 x5 x6 x7 x8 x9 x10 x11 x12 x13 x14 x15 x16 x17 x18 x19 x20 x21 x22 x23 x24 x25 x26 x27 x28 x41 x42 x43 w p1 p2 p3 p4 rv mv va vc vd e31 e32 e35 e36 e39 e40 A5 n5 c5 an cs ds A c b x y d5 true true true true true false a W) (ha : an.length ≤ 1099511627776) (hc : cs.length ≤ 1099511627776) (hd : ds.length ≤ 1099511627776) (hS : ∀ f2 f6 f10 q1 q2 q3 a W, St D x0 x1 x2 x3 x4 x5 x6 x7 x8 x9 x10 x11 x12 x13 x14 x15 x16 x17 x18 x19 x20 x21 x22 x23 x24 x25 x26 x27 x28 x41 x42 x43 w p1 p2 p3 p4 rv mv va vc vd e31 e32 e35 e36 e39 e40 A5 n5 c5 an cs ds A c b x y d5 f2 f6 f10 q1 q2 q3 a W → S W)
    (fin : ∀ a W, St D x0 x1 x2 x3 x4 x5 x6 x7 x8 x9 x10 x11 x12 x13 x14 x15 x16 x17 x18 x19 x20 x21 x22 x23 x24 x25 x26 x27 x28 x41 x42 x43 w p1 p2 p3 p4 rv mv va vc vd e31 e32 e35 e36 e39 e40 A5 n5 c5 an cs ds A c b x y d5 true true true true true true a W → wpAnyLast Try.prog .any (opsOf Try.f20 5) Q S [12, 13, 14] 3 #[true, true, true, true, true, true, true, true, true, true, true, true, false, false, false] a W) : wpAnyLast Try.prog .any (opsOf Try.f20 5) Q S [12, 13, 14] 4 #[true, true, true, true, true, true, true, true, true, true, true, false, false, false, false] a W := by
  refine wpAnyLast_all (rs := [11]) (by kernel_rfl) (by simp) (fun i hi => ?_)
  simp only [List.mem_cons, List.not_mem_nil, or_false] at hi
  subst hi
  · exact app11 h hd (fun a' W' h' => ⟨fun _ _ => hS _ _ _ _ _ _ _ _ h', fin _ _ h'⟩)
theorem t_2_6_10_3 (h : St D x0 x1 x2 x3 x4 x5 x6 x7 x8 x9 x10 x11 x12 x13 x14 x15 x16 x17 x18 x19 x20 x21 x22 x23 x24 x25 x26 x27 x28 x41 x42 x43 w p1 p2 p3 p4 rv mv va vc vd e31 e32 e35 e36 e39 e40 A5 n5 c5 an cs ds A c b x y d5 true true true true false false a W) (ha : an.length ≤ 1099511627776) (hc : cs.length ≤ 1099511627776) (hd : ds.length ≤ 1099511627776) (hS : ∀ f2 f6 f10 q1 q2 q3 a W, St D x0 x1 x2 x3 x4 x5 x6 x7 x8 x9 x10 x11 x12 x13 x14 x15 x16 x17 x18 x19 x20 x21 x22 x23 x24 x25 x26 x27 x28 x41 x42 x43 w p1 p2 p3 p4 rv mv va vc vd e31 e32 e35 e36 e39 e40 A5 n5 c5 an cs ds A c b x y d5 f2 f6 f10 q1 q2 q3 a W → S W)
    (fin : ∀ a W, St D x0 x1 x2 x3 x4 x5 x6 x7 x8 x9 x10 x11 x12 x13 x14 x15 x16 x17 x18 x19 x20 x21 x22 x23 x24 x25 x26 x27 x28 x41 x42 x43 w p1 p2 p3 p4 rv mv va vc vd e31 e32 e35 e36 e39 e40 A5 n5 c5 an cs ds A c b x y d5 true true true true true true a W → wpAnyLast Try.prog .any (opsOf Try.f20 5) Q S [12, 13, 14] 3 #[true, true, true, true, true, true, true, true, true, true, true, true, false, false, false] a W) : wpAnyLast Try.prog .any (opsOf Try.f20 5) Q S [12, 13, 14] 5 #[true, true, true, true, true, true, true, false, true, true, true, false, false, false, false] a W := by
  refine wpAnyLast_all (rs := [7]) (by kernel_rfl) (by simp) (fun i hi => ?_)
  simp only [List.mem_cons, List.not_mem_nil, or_false] at hi
  subst hi
  · exact app7 h hc (fun a' W' h' => ⟨fun _ _ => hS _ _ _ _ _ _ _ _ h', t_2_6_10_3_7 h' ha hc hd hS fin⟩)
theorem t_2_6_3_7 (h : St D x0 x1 x2 x3 x4 x5 x6 x7 x8 x9 x10 x11 x12 x13 x14 x15 x16 x17 x18 x19 x20 x21 x22 x23 x24 x25 x26 x27 x28 x41 x42 x43 w p1 p2 p3 p4 rv mv va vc vd e31 e32 e35 e36 e39 e40 A5 n5 c5 an cs ds A c b x y d5 true true false true true false a W) (ha : an.length ≤ 1099511627776) (hc : cs.length ≤ 1099511627776) (hd : ds.length ≤ 1099511627776) (hS : ∀ f2 f6 f10 q1 q2 q3 a W, St D x0 x1 x2 x3 x4 x5 x6 x7 x8 x9 x10 x11 x12 x13 x14 x15 x16 x17 x18 x19 x20 x21 x22 x23 x24 x25 x26 x27 x28 x41 x42 x43 w p1 p2 p3 p4 rv mv va vc vd e31 e32 e35 e36 e39 e40 A5 n5 c5 an cs ds A c b x y d5 f2 f6 f10 q1 q2 q3 a W → S W)
    (fin : ∀ a W, St D x0 x1 x2 x3 x4 x5 x6 x7 x8 x9 x10 x11 x12 x13 x14 x15 x16 x17 x18 x19 x20 x21 x22 x23 x24 x25 x26 x27 x28 x41 x42 x43 w p1 p2 p3 p4 rv mv va vc vd e31 e32 e35 e36 e39 e40 A5 n5 c5 an cs ds A c b x y d5 true true true true true true a W → wpAnyLast Try.prog .any (opsOf Try.f20 5) Q S [12, 13, 14] 3 #[true, true, true, true, true, true, true, true, true, true, true, true, false, false, false] a W) : wpAnyLast Try.prog .any (opsOf Try.f20 5) Q S [12, 13, 14] 5 #[true, true, true, true, true, true, true, true, true, true, false, false, false, false, false] a W := by
  refine wpAnyLast_all (rs := [10]) (by kernel_rfl) (by simp) (fun i hi => ?_)
  simp only [List.mem_cons, List.not_mem_nil, or_false] at hi
  subst hi
  · exact box10 h (fun a' W' h' => ⟨fun _ _ => hS _ _ _ _ _ _ _ _ h', t_2_6_10_3_7 h' ha hc hd hS fin⟩)
theorem t_2_10_3 (h : St D x0 x1 x2 x3 x4 x5 x6 x7 x8 x9 x10 x11 x12 x13 x14 x15 x16 x17 x18 x19 x20 x21 x22 x23 x24 x25 x26 x27 x28 x41 x42 x43 w p1 p2 p3 p4 rv mv va vc vd e31 e32 e35 e36 e39 e40 A5 n5 c5 an cs ds A c b x y d5 true false true true false false a W) (ha : an.length ≤ 1099511627776) (hc : cs.length ≤ 1099511627776) (hd : ds.length ≤ 1099511627776) (hS : ∀ f2 f6 f10 q1 q2 q3 a W, St D x0 x1 x2 x3 x4 x5 x6 x7 x8 x9 x10 x11 x12 x13 x14 x15 x16 x17 x18 x19 x20 x21 x22 x23 x24 x25 x26 x27 x28 x41 x42 x43 w p1 p2 p3 p4 rv mv va vc vd e31 e32 e35 e36 e39 e40 A5 n5 c5 an cs ds A c b x y d5 f2 f6 f10 q1 q2 q3 a W → S W)
    (fin : ∀ a W, St D x0 x1 x2 x3 x4 x5 x6 x7 x8 x9 x10 x11 x12 x13 x14 x15 x16 x17 x18 x19 x20 x21 x22 x23 x24 x25 x26 x27 x28 x41 x42 x43 w p1 p2 p3 p4 rv mv va vc vd e31 e32 e35 e36 e39 e40 A5 n5 c5 an cs ds A c b x y d5 true true true true true true a W → wpAnyLast Try.prog .any (opsOf Try.f20 5) Q S [12, 13, 14] 3 #[true, true, true, true, true, true, true, true, true, true, true, true, false, false, false] a W) : wpAnyLast Try.prog .any (opsOf Try.f20 5) Q S [12, 13, 14] 6 #[true, true, true, true, true, true, false, false, true, true, true, false, false, false, false] a W := by
  refine wpAnyLast_all (rs := [6]) (by kernel_rfl) (by simp) (fun i hi => ?_)
  simp only [List.mem_cons, List.not_mem_nil, or_false] at hi
  subst hi
  · exact box6 h (fun a' W' h' => ⟨fun _ _ => hS _ _ _ _ _ _ _ _ h', t_2_6_10_3 h' ha hc hd hS fin⟩)
theorem t_2_6_3 (h : St D x0 x1 x2 x3 x4 x5 x6 x7 x8 x9 x10 x11 x12 x13 x14 x15 x16 x17 x18 x19 x20 x21 x22 x23 x24 x25 x26 x27 x28 x41 x42 x43 w p1 p2 p3 p4 rv mv va vc vd e31 e32 e35 e36 e39 e40 A5 n5 c5 an cs ds A c b x y d5 true true false true false false a W) (ha : an.length ≤ 1099511627776) (hc : cs.length ≤ 1099511627776) (hd : ds.length ≤ 1099511627776) (hS : ∀ f2 f6 f10 q1 q2 q3 a W, St D x0 x1 x2 x3 x4 x5 x6 x7 x8 x9 x10 x11 x12 x13 x14 x15 x16 x17 x18 x19 x20 x21 x22 x23 x24 x25 x26 x27 x28 x41 x42 x43 w p1 p2 p3 p4 rv mv va vc vd e31 e32 e35 e36 e39 e40 A5 n5 c5 an cs ds A c b x y d5 f2 f6 f10 q1 q2 q3 a W → S W)
    (fin : ∀ a W, St D x0 x1 x2 x3 x4 x5 x6 x7 x8 x9 x10 x11 x12 x13 x14 x15 x16 x17 x18 x19 x20 x21 x22 x23 x24 x25 x26 x27 x28 x41 x42 x43 w p1 p2 p3 p4 rv mv va vc vd e31 e32 e35 e36 e39 e40 A5 n5 c5 an cs ds A c b x y d5 true true true true true true a W → wpAnyLast Try.prog .any (opsOf Try.f20 5) Q S [12, 13, 14] 3 #[true, true, true, true, true, true, true, true, true, true, true, true, false, false, false] a W) : wpAnyLast Try.prog .any (opsOf Try.f20 5) Q S [12, 13, 14] 6 #[true, true, true, true, true, true, true, false, true, true, false, false, false, false, false] a W := by
  refine wpAnyLast_all (rs := [7, 10]) (by kernel_rfl) (by simp) (fun i hi => ?_)
  simp only [List.mem_cons, List.not_mem_nil, or_false] at hi
  rcases hi with rfl | rfl
  · exact app7 h hc (fun a' W' h' => ⟨fun _ _ => hS _ _ _ _ _ _ _ _ h', t_2_6_3_7 h' ha hc hd hS fin⟩)
  · exact box10 h (fun a' W' h' => ⟨fun _ _ => hS _ _ _ _ _ _ _ _ h', t_2_6_10_3 h' ha hc hd hS fin⟩)
theorem t_2_6_10 (h : St D x0 x1 x2 x3 x4 x5 x6 x7 x8 x9 x10 x11 x12 x13 x14 x15 x16 x17 x18 x19 x20 x21 x22 x23 x24 x25 x26 x27 x28 x41 x42 x43 w p1 p2 p3 p4 rv mv va vc vd e31 e32 e35 e36 e39 e40 A5 n5 c5 an cs ds A c b x y d5 true true true false false false a W) (ha : an.length ≤ 1099511627776) (hc : cs.length ≤ 1099511627776) (hd : ds.length ≤ 1099511627776) (hS : ∀ f2 f6 f10 q1 q2 q3 a W, St D x0 x1 x2 x3 x4 x5 x6 x7 x8 x9 x10 x11 x12 x13 x14 x15 x16 x17 x18 x19 x20 x21 x22 x23 x24 x25 x26 x27 x28 x41 x42 x43 w p1 p2 p3 p4 rv mv va vc vd e31 e32 e35 e36 e39 e40 A5 n5 c5 an cs ds A c b x y d5 f2 f6 f10 q1 q2 q3 a W → S W)
    (fin : ∀ a W, St D x0 x1 x2 x3 x4 x5 x6 x7 x8 x9 x10 x11 x12 x13 x14 x15 x16 x17 x18 x19 x20 x21 x22 x23 x24 x25 x26 x27 x28 x41 x42 x43 w p1 p2 p3 p4 rv mv va vc vd e31 e32 e35 e36 e39 e40 A5 n5 c5 an cs ds A c b x y d5 true true true true true true a W → wpAnyLast Try.prog .any (opsOf Try.f20 5) Q S [12, 13, 14] 3 #[true, true, true, true, true, true, true, true, true, true, true, true, false, false, false] a W) : wpAnyLast Try.prog .any (opsOf Try.f20 5) Q S [12, 13, 14] 6 #[true, true, true, false, true, true, true, false, true, true, true, false, false, false, false] a W := by
  refine wpAnyLast_all (rs := [3]) (by kernel_rfl) (by simp) (fun i hi => ?_)
  simp only [List.mem_cons, List.not_mem_nil, or_false] at hi
  subst hi
  · exact app3 h ha (fun a' W' h' => ⟨fun _ _ => hS _ _ _ _ _ _ _ _ h', t_2_6_10_3 h' ha hc hd hS fin⟩)
theorem t_2_3 (h : St D x0 x1 x2 x3 x4 x5 x6 x7 x8 x9 x10 x11 x12 x13 x14 x15 x16 x17 x18 x19 x20 x21 x22 x23 x24 x25 x26 x27 x28 x41 x42 x43 w p1 p2 p3 p4 rv mv va vc vd e31 e32 e35 e36 e39 e40 A5 n5 c5 an cs ds A c b x y d5 true false false true false false a W) (ha : an.length ≤ 1099511627776) (hc : cs.length ≤ 1099511627776) (hd : ds.length ≤ 1099511627776) (hS : ∀ f2 f6 f10 q1 q2 q3 a W, St D x0 x1 x2 x3 x4 x5 x6 x7 x8 x9 x10 x11 x12 x13 x14 x15 x16 x17 x18 x19 x20 x21 x22 x23 x24 x25 x26 x27 x28 x41 x42 x43 w p1 p2 p3 p4 rv mv va vc vd e31 e32 e35 e36 e39 e40 A5 n5 c5 an cs ds A c b x y d5 f2 f6 f10 q1 q2 q3 a W → S W)
    (fin : ∀ a W, St D x0 x1 x2 x3 x4 x5 x6 x7 x8 x9 x10 x11 x12 x13 x14 x15 x16 x17 x18 x19 x20 x21 x22 x23 x24 x25 x26 x27 x28 x41 x42 x43 w p1 p2 p3 p4 rv mv va vc vd e31 e32 e35 e36 e39 e40 A5 n5 c5 an cs ds A c b x y d5 true true true true true true a W → wpAnyLast Try.prog .any (opsOf Try.f20 5) Q S [12, 13, 14] 3 #[true, true, true, true, true, true, true, true, true, true, true, true, false, false, false] a W) : wpAnyLast Try.prog .any (opsOf Try.f20 5) Q S [12, 13, 14] 7 #[true, true, true, true, true, true, false, false, true, true, false, false, false, false, false] a W := by
  refine wpAnyLast_all (rs := [6, 10]) (by kernel_rfl) (by simp) (fun i hi => ?_)
  simp only [List.mem_cons, List.not_mem_nil, or_false] at hi
  rcases hi with rfl | rfl
  · exact box6 h (fun a' W' h' => ⟨fun _ _ => hS _ _ _ _ _ _ _ _ h', t_2_6_3 h' ha hc hd hS fin⟩)
  · exact box10 h (fun a' W' h' => ⟨fun _ _ => hS _ _ _ _ _ _ _ _ h', t_2_10_3 h' ha hc hd hS fin⟩)
theorem t_2_10 (h : St D x0 x1 x2 x3 x4 x5 x6 x7 x8 x9 x10 x11 x12 x13 x14 x15 x16 x17 x18 x19 x20 x21 x22 x23 x24 x25 x26 x27 x28 x41 x42 x43 w p1 p2 p3 p4 rv mv va vc vd e31 e32 e35 e36 e39 e40 A5 n5 c5 an cs ds A c b x y d5 true false true false false false a W) (ha : an.length ≤ 1099511627776) (hc : cs.length ≤ 1099511627776) (hd : ds.length ≤ 1099511627776) (hS : ∀ f2 f6 f10 q1 q2 q3 a W, St D x0 x1 x2 x3 x4 x5 x6 x7 x8 x9 x10 x11 x12 x13 x14 x15 x16 x17 x18 x19 x20 x21 x22 x23 x24 x25 x26 x27 x28 x41 x42 x43 w p1 p2 p3 p4 rv mv va vc vd e31 e32 e35 e36 e39 e40 A5 n5 c5 an cs ds A c b x y d5 f2 f6 f10 q1 q2 q3 a W → S W)
    (fin : ∀ a W, St D x0 x1 x2 x3 x4 x5 x6 x7 x8 x9 x10 x11 x12 x13 x14 x15 x16 x17 x18 x19 x20 x21 x22 x23 x24 x25 x26 x27 x28 x41 x42 x43 w p1 p2 p3 p4 rv mv va vc vd e31 e32 e35 e36 e39 e40 A5 n5 c5 an cs ds A c b x y d5 true true true true true true a W → wpAnyLast Try.prog .any (opsOf Try.f20 5) Q S [12, 13, 14] 3 #[true, true, true, true, true, true, true, true, true, true, true, true, false, false, false] a W) : wpAnyLast Try.prog .any (opsOf Try.f20 5) Q S [12, 13, 14] 7 #[true, true, true, false, true, true, false, false, true, true, true, false, false, false, false] a W := by
  refine wpAnyLast_all (rs := [3, 6]) (by kernel_rfl) (by simp) (fun i hi => ?_)
  simp only [List.mem_cons, List.not_mem_nil, or_false] at hi
  rcases hi with rfl | rfl
  · exact app3 h ha (fun a' W' h' => ⟨fun _ _ => hS _ _ _ _ _ _ _ _ h', t_2_10_3 h' ha hc hd hS fin⟩)
  · exact box6 h (fun a' W' h' => ⟨fun _ _ => hS _ _ _ _ _ _ _ _ h', t_2_6_10 h' ha hc hd hS fin⟩)
theorem t_2_6 (h : St D x0 x1 x2 x3 x4 x5 x6 x7 x8 x9 x10 x11 x12 x13 x14 x15 x16 x17 x18 x19 x20 x21 x22 x23 x24 x25 x26 x27 x28 x41 x42 x43 w p1 p2 p3 p4 rv mv va vc vd e31 e32 e35 e36 e39 e40 A5 n5 c5 an cs ds A c b x y d5 true true false false false false a W) (ha : an.length ≤ 1099511627776) (hc : cs.length ≤ 1099511627776) (hd : ds.length ≤ 1099511627776) (hS : ∀ f2 f6 f10 q1 q2 q3 a W, St D x0 x1 x2 x3 x4 x5 x6 x7 x8 x9 x10 x11 x12 x13 x14 x15 x16 x17 x18 x19 x20 x21 x22 x23 x24 x25 x26 x27 x28 x41 x42 x43 w p1 p2 p3 p4 rv mv va vc vd e31 e32 e35 e36 e39 e40 A5 n5 c5 an cs ds A c b x y d5 f2 f6 f10 q1 q2 q3 a W → S W)
    (fin : ∀ a W, St D x0 x1 x2 x3 x4 x5 x6 x7 x8 x9 x10 x11 x12 x13 x14 x15 x16 x17 x18 x19 x20 x21 x22 x23 x24 x25 x26 x27 x28 x41 x42 x43 w p1 p2 p3 p4 rv mv va vc vd e31 e32 e35 e36 e39 e40 A5 n5 c5 an cs ds A c b x y d5 true true true true true true a W → wpAnyLast Try.prog .any (opsOf Try.f20 5) Q S [12, 13, 14] 3 #[true, true, true, true, true, true, true, true, true, true, true, true, false, false, false] a W) : wpAnyLast Try.prog .any (opsOf Try.f20 5) Q S [12, 13, 14] 7 #[true, true, true, false, true, true, true, false, true, true, false, false, false, false, false] a W := by
  refine wpAnyLast_all (rs := [3, 10]) (by kernel_rfl) (by simp) (fun i hi => ?_)
  simp only [List.mem_cons, List.not_mem_nil, or_false] at hi
  rcases hi with rfl | rfl
  · exact app3 h ha (fun a' W' h' => ⟨fun _ _ => hS _ _ _ _ _ _ _ _ h', t_2_6_3 h' ha hc hd hS fin⟩)
  · exact box10 h (fun a' W' h' => ⟨fun _ _ => hS _ _ _ _ _ _ _ _ h', t_2_6_10 h' ha hc hd hS fin⟩)
theorem t_6_10 (h : St D x0 x1 x2 x3 x4 x5 x6 x7 x8 x9 x10 x11 x12 x13 x14 x15 x16 x17 x18 x19 x20 x21 x22 x23 x24 x25 x26 x27 x28 x41 x42 x43 w p1 p2 p3 p4 rv mv va vc vd e31 e32 e35 e36 e39 e40 A5 n5 c5 an cs ds A c b x y d5 false true true false false false a W) (ha : an.length ≤ 1099511627776) (hc : cs.length ≤ 1099511627776) (hd : ds.length ≤ 1099511627776) (hS : ∀ f2 f6 f10 q1 q2 q3 a W, St D x0 x1 x2 x3 x4 x5 x6 x7 x8 x9 x10 x11 x12 x13 x14 x15 x16 x17 x18 x19 x20 x21 x22 x23 x24 x25 x26 x27 x28 x41 x42 x43 w p1 p2 p3 p4 rv mv va vc vd e31 e32 e35 e36 e39 e40 A5 n5 c5 an cs ds A c b x y d5 f2 f6 f10 q1 q2 q3 a W → S W)
    (fin : ∀ a W, St D x0 x1 x2 x3 x4 x5 x6 x7 x8 x9 x10 x11 x12 x13 x14 x15 x16 x17 x18 x19 x20 x21 x22 x23 x24 x25 x26 x27 x28 x41 x42 x43 w p1 p2 p3 p4 rv mv va vc vd e31 e32 e35 e36 e39 e40 A5 n5 c5 an cs ds A c b x y d5 true true true true true true a W → wpAnyLast Try.prog .any (opsOf Try.f20 5) Q S [12, 13, 14] 3 #[true, true, true, true, true, true, true, true, true, true, true, true, false, false, false] a W) : wpAnyLast Try.prog .any (opsOf Try.f20 5) Q S [12, 13, 14] 7 #[true, true, false, false, true, true, true, false, true, true, true, false, false, false, false] a W := by
  refine wpAnyLast_all (rs := [2]) (by kernel_rfl) (by simp) (fun i hi => ?_)
  simp only [List.mem_cons, List.not_mem_nil, or_false] at hi
  subst hi
  · exact box2 h (fun a' W' h' => ⟨fun _ _ => hS _ _ _ _ _ _ _ _ h', t_2_6_10 h' ha hc hd hS fin⟩)
theorem t_2 (h : St D x0 x1 x2 x3 x4 x5 x6 x7 x8 x9 x10 x11 x12 x13 x14 x15 x16 x17 x18 x19 x20 x21 x22 x23 x24 x25 x26 x27 x28 x41 x42 x43 w p1 p2 p3 p4 rv mv va vc vd e31 e32 e35 e36 e39 e40 A5 n5 c5 an cs ds A c b x y d5 true false false false false false a W) (ha : an.length ≤ 1099511627776) (hc : cs.length ≤ 1099511627776) (hd : ds.length ≤ 1099511627776) (hS : ∀ f2 f6 f10 q1 q2 q3 a W, St D x0 x1 x2 x3 x4 x5 x6 x7 x8 x9 x10 x11 x12 x13 x14 x15 x16 x17 x18 x19 x20 x21 x22 x23 x24 x25 x26 x27 x28 x41 x42 x43 w p1 p2 p3 p4 rv mv va vc vd e31 e32 e35 e36 e39 e40 A5 n5 c5 an cs ds A c b x y d5 f2 f6 f10 q1 q2 q3 a W → S W)
    (fin : ∀ a W, St D x0 x1 x2 x3 x4 x5 x6 x7 x8 x9 x10 x11 x12 x13 x14 x15 x16 x17 x18 x19 x20 x21 x22 x23 x24 x25 x26 x27 x28 x41 x42 x43 w p1 p2 p3 p4 rv mv va vc vd e31 e32 e35 e36 e39 e40 A5 n5 c5 an cs ds A c b x y d5 true true true true true true a W → wpAnyLast Try.prog .any (opsOf Try.f20 5) Q S [12, 13, 14] 3 #[true, true, true, true, true, true, true, true, true, true, true, true, false, false, false] a W) : wpAnyLast Try.prog .any (opsOf Try.f20 5) Q S [12, 13, 14] 8 #[true, true, true, false, true, true, false, false, true, true, false, false, false, false, false] a W := by
  refine wpAnyLast_all (rs := [3, 6, 10]) (by kernel_rfl) (by simp) (fun i hi => ?_)
  simp only [List.mem_cons, List.not_mem_nil, or_false] at hi
  rcases hi with rfl | rfl | rfl
  · exact app3 h ha (fun a' W' h' => ⟨fun _ _ => hS _ _ _ _ _ _ _ _ h', t_2_3 h' ha hc hd hS fin⟩)
  · exact box6 h (fun a' W' h' => ⟨fun _ _ => hS _ _ _ _ _ _ _ _ h', t_2_6 h' ha hc hd hS fin⟩)
  · exact box10 h (fun a' W' h' => ⟨fun _ _ => hS _ _ _ _ _ _ _ _ h', t_2_10 h' ha hc hd hS fin⟩)
theorem t_10 (h : St D x0 x1 x2 x3 x4 x5 x6 x7 x8 x9 x10 x11 x12 x13 x14 x15 x16 x17 x18 x19 x20 x21 x22 x23 x24 x25 x26 x27 x28 x41 x42 x43 w p1 p2 p3 p4 rv mv va vc vd e31 e32 e35 e36 e39 e40 A5 n5 c5 an cs ds A c b x y d5 false false true false false false a W) (ha : an.length ≤ 1099511627776) (hc : cs.length ≤ 1099511627776) (hd : ds.length ≤ 1099511627776) (hS : ∀ f2 f6 f10 q1 q2 q3 a W, St D x0 x1 x2 x3 x4 x5 x6 x7 x8 x9 x10 x11 x12 x13 x14 x15 x16 x17 x18 x19 x20 x21 x22 x23 x24 x25 x26 x27 x28 x41 x42 x43 w p1 p2 p3 p4 rv mv va vc vd e31 e32 e35 e36 e39 e40 A5 n5 c5 an cs ds A c b x y d5 f2 f6 f10 q1 q2 q3 a W → S W)
    (fin : ∀ a W, St D x0 x1 x2 x3 x4 x5 x6 x7 x8 x9 x10 x11 x12 x13 x14 x15 x16 x17 x18 x19 x20 x21 x22 x23 x24 x25 x26 x27 x28 x41 x42 x43 w p1 p2 p3 p4 rv mv va vc vd e31 e32 e35 e36 e39 e40 A5 n5 c5 an cs ds A c b x y d5 true true true true true true a W → wpAnyLast Try.prog .any (opsOf Try.f20 5) Q S [12, 13, 14] 3 #[true, true, true, true, true, true, true, true, true, true, true, true, false, false, false] a W) : wpAnyLast Try.prog .any (opsOf Try.f20 5) Q S [12, 13, 14] 8 #[true, true, false, false, true, true, false, false, true, true, true, false, false, false, false] a W := by
  refine wpAnyLast_all (rs := [2, 6]) (by kernel_rfl) (by simp) (fun i hi => ?_)
  simp only [List.mem_cons, List.not_mem_nil, or_false] at hi
  rcases hi with rfl | rfl
  · exact box2 h (fun a' W' h' => ⟨fun _ _ => hS _ _ _ _ _ _ _ _ h', t_2_10 h' ha hc hd hS fin⟩)
  · exact box6 h (fun a' W' h' => ⟨fun _ _ => hS _ _ _ _ _ _ _ _ h', t_6_10 h' ha hc hd hS fin⟩)
theorem t_6 (h : St D x0 x1 x2 x3 x4 x5 x6 x7 x8 x9 x10 x11 x12 x13 x14 x15 x16 x17 x18 x19 x20 x21 x22 x23 x24 x25 x26 x27 x28 x41 x42 x43 w p1 p2 p3 p4 rv mv va vc vd e31 e32 e35 e36 e39 e40 A5 n5 c5 an cs ds A c b x y d5 false true false false false false a W) (ha : an.length ≤ 1099511627776) (hc : cs.length ≤ 1099511627776) (hd : ds.length ≤ 1099511627776) (hS : ∀ f2 f6 f10 q1 q2 q3 a W, St D x0 x1 x2 x3 x4 x5 x6 x7 x8 x9 x10 x11 x12 x13 x14 x15 x16 x17 x18 x19 x20 x21 x22 x23 x24 x25 x26 x27 x28 x41 x42 x43 w p1 p2 p3 p4 rv mv va vc vd e31 e32 e35 e36 e39 e40 A5 n5 c5 an cs ds A c b x y d5 f2 f6 f10 q1 q2 q3 a W → S W)
    (fin : ∀ a W, St D x0 x1 x2 x3 x4 x5 x6 x7 x8 x9 x10 x11 x12 x13 x14 x15 x16 x17 x18 x19 x20 x21 x22 x23 x24 x25 x26 x27 x28 x41 x42 x43 w p1 p2 p3 p4 rv mv va vc vd e31 e32 e35 e36 e39 e40 A5 n5 c5 an cs ds A c b x y d5 true true true true true true a W → wpAnyLast Try.prog .any (opsOf Try.f20 5) Q S [12, 13, 14] 3 #[true, true, true, true, true, true, true, true, true, true, true, true, false, false, false] a W) : wpAnyLast Try.prog .any (opsOf Try.f20 5) Q S [12, 13, 14] 8 #[true, true, false, false, true, true, true, false, true, true, false, false, false, false, false] a W := by
  refine wpAnyLast_all (rs := [2, 10]) (by kernel_rfl) (by simp) (fun i hi => ?_)
  simp only [List.mem_cons, List.not_mem_nil, or_false] at hi
  rcases hi with rfl | rfl
  · exact box2 h (fun a' W' h' => ⟨fun _ _ => hS _ _ _ _ _ _ _ _ h', t_2_6 h' ha hc hd hS fin⟩)
  · exact box10 h (fun a' W' h' => ⟨fun _ _ => hS _ _ _ _ _ _ _ _ h', t_6_10 h' ha hc hd hS fin⟩)
theorem t_0 (h : St D x0 x1 x2 x3 x4 x5 x6 x7 x8 x9 x10 x11 x12 x13 x14 x15 x16 x17 x18 x19 x20 x21 x22 x23 x24 x25 x26 x27 x28 x41 x42 x43 w p1 p2 p3 p4 rv mv va vc vd e31 e32 e35 e36 e39 e40 A5 n5 c5 an cs ds A c b x y d5 false false false false false false a W) (ha : an.length ≤ 1099511627776) (hc : cs.length ≤ 1099511627776) (hd : ds.length ≤ 1099511627776) (hS : ∀ f2 f6 f10 q1 q2 q3 a W, St D x0 x1 x2 x3 x4 x5 x6 x7 x8 x9 x10 x11 x12 x13 x14 x15 x16 x17 x18 x19 x20 x21 x22 x23 x24 x25 x26 x27 x28 x41 x42 x43 w p1 p2 p3 p4 rv mv va vc vd e31 e32 e35 e36 e39 e40 A5 n5 c5 an cs ds A c b x y d5 f2 f6 f10 q1 q2 q3 a W → S W)
    (fin : ∀ a W, St D x0 x1 x2 x3 x4 x5 x6 x7 x8 x9 x10 x11 x12 x13 x14 x15 x16 x17 x18 x19 x20 x21 x22 x23 x24 x25 x26 x27 x28 x41 x42 x43 w p1 p2 p3 p4 rv mv va vc vd e31 e32 e35 e36 e39 e40 A5 n5 c5 an cs ds A c b x y d5 true true true true true true a W → wpAnyLast Try.prog .any (opsOf Try.f20 5) Q S [12, 13, 14] 3 #[true, true, true, true, true, true, true, true, true, true, true, true, false, false, false] a W) : wpAnyLast Try.prog .any (opsOf Try.f20 5) Q S [12, 13, 14] 9 #[true, true, false, false, true, true, false, false, true, true, false, false, false, false, false] a W := by
  refine wpAnyLast_all (rs := [2, 6, 10]) (by kernel_rfl) (by simp) (fun i hi => ?_)
  simp only [List.mem_cons, List.not_mem_nil, or_false] at hi
  rcases hi with rfl | rfl | rfl
  · exact box2 h (fun a' W' h' => ⟨fun _ _ => hS _ _ _ _ _ _ _ _ h', t_2 h' ha hc hd hS fin⟩)
  · exact box6 h (fun a' W' h' => ⟨fun _ _ => hS _ _ _ _ _ _ _ _ h', t_6 h' ha hc hd hS fin⟩)
  · exact box10 h (fun a' W' h' => ⟨fun _ _ => hS _ _ _ _ _ _ _ _ h', t_10 h' ha hc hd hS fin⟩)
end
end
end Go.Proofs.Ytemhlinodccokaa.Rp
