/- Words for the walks: blocks that are known whole, stored into and loaded from as events; the world behind a store is a letter. -/
import Derived.Test.YtemhlinodccokaaWWords
import Derived.Test.YtemhlinodccokaaWLast
set_option linter.unusedVariables false
set_option linter.unusedSimpArgs false
namespace Go.Proofs.Ytemhlinodccokaa.Wk
open Go.RowKit Go.Proofs.YtemhlinodccokaaW.PrintWords Go.Proofs.YtemhlinodccokaaW.PrintLast

/-- block g is just these cells -/
structure Blk (w : World) (g : Nat) (t : TypeId) (cs : List Value) : Prop where mk :: (out : w.heap[g]? = some (.cells cs.toArray t (0, 0)))
/-- nothing but block g has turned -/
structure Only (w w' : World) (g : Nat) : Prop where
  os : w'.os = w.os
  tape : w'.tape = w.tape
  output : w'.output = w.output
  size : w'.heap.size = w.heap.size
  block : ∀ k, k ≠ g → w'.heap[k]? = w.heap[k]?

section
variable {w w' w0 : World} {g : Nat} {t : TypeId} {cs : List Value}
theorem Blk.lt (h : Blk w g t cs) : g < w.heap.size := (Array.getElem?_eq_some_iff.1 h.out).1
theorem Blk.cell (h : Blk w g t cs) (i : Nat) : w.cell? ⟨g, i, none⟩ = cs[i]? := by rw [cell_of_row w g i _ t (0, 0) h.out]; simp
theorem Blk.at_ (h : Blk w g t cs) (i : Nat) {v : Value} (hv : cs[i]? = some v) : w.cell? ⟨g, i, none⟩ = some v := (h.cell i).trans hv
theorem Blk.frozen (h : Blk w g t cs) (i : Nat) : w.frozen? ⟨g, i, none⟩ = false := blk_frozen h.out i
theorem Blk.new (w : World) (t : TypeId) (cs : List Value) : Blk (w.alloc (.cells cs.toArray t)) w.heap.size t cs := ⟨heap_alloc_new w _⟩
theorem Blk.new' (w : World) (t : TypeId) (cs : Array Value) : Blk (w.alloc (.cells cs t)) w.heap.size t cs.toList := ⟨by rw [Array.toArray_toList]; exact heap_alloc_new w _⟩
theorem Blk.alloc (h : Blk w g t cs) (o : Obj) : Blk (w.alloc o) g t cs := ⟨(Below.heap_alloc w o g h.lt).trans h.out⟩
theorem Blk.drew (h : Blk w g t cs) : Blk w.drew g t cs := ⟨h.out⟩
theorem Blk.below {B : Nat} (h : Blk w g t cs) (hb : Below B w w') (hg : g < B) : Blk w' g t cs := ⟨(hb.block g hg).trans h.out⟩
theorem Blk.below_ (h : Blk w g t cs) (hb : Below w.heap.size w w') : Blk w' g t cs := h.below hb h.lt
theorem Blk.grown {row : Option Nat} (h : Blk w g t cs) (hb : w.grownBy w' row) (hg : some g ≠ row) : Blk w' g t cs := ⟨(hb.block g h.lt hg).trans h.out⟩
theorem Blk.only {g' : Nat} (h : Blk w g t cs) (hb : Only w w' g') (hg : g ≠ g') : Blk w' g t cs := ⟨(hb.block g hg).trans h.out⟩
theorem Blk.ne_ {g' : Nat} {t' : TypeId} {cs' : List Value} (h : Blk w g t cs) (h' : Blk w g' t' cs') (hne : t ≠ t') : g ≠ g' := blk_ne h.out h'.out hne
theorem Blk.set_ (h : Blk w g t cs) (i : Nat) (u : Value) : Blk (w.setCell ⟨g, i, none⟩ u) g t (cs.set i u) := ⟨by
  have := blk_set h.out i u
  rw [this]
  simp⟩
theorem Blk.far (h : Blk w g t cs) {p : Addr} (hp : g ≠ p.block) (u : Value) : Blk (w.setCell p u) g t cs := ⟨(Below.heap_setCell w p u g hp).trans h.out⟩
theorem Only.grown (h : Only w w' g) : w.grownBy w' (some g) := ⟨h.os, h.tape, h.output, Nat.le_of_eq h.size.symm, fun k _ hk => h.block k (fun e => hk (by rw [e]))⟩
theorem Only.below {B : Nat} (hB : Below B w0 w) (h : Only w w' g) (hg : B ≤ g) : Below B w0 w' :=
  hB.trans ⟨h.os, h.tape, h.output, Nat.le_of_eq h.size.symm, fun k hk => h.block k (by omega)⟩
theorem only_setCells (w : World) (g off : Nat) (vs : List Value) : Only w (w.setCells g off vs) g :=
  ⟨(setCells_same g vs off w).1, (setCells_same g vs off w).2.1, (setCells_same g vs off w).2.2.1, (setCells_same g vs off w).2.2.2, fun k hk => setCells_far vs off k hk⟩
theorem only_setCell (w : World) (g i : Nat) (v : Value) : Only w (w.setCell ⟨g, i, none⟩ v) g := only_setCells w g i [v]
/-- a new block that was written at once -/
theorem Only.fresh {B : Nat} {o : Obj} (hB : Below B w0 w) (hBs : B ≤ w.heap.size) (h : Only (w.alloc o) w' w.heap.size) : w'.heap.size = w.heap.size + 1 ∧ Below B w0 w' ∧ Below w.heap.size w w' := by
  refine ⟨by rw [h.size]; simp, Only.below (hB.alloc hBs o) h hBs, Only.below ((Below.refl _ _).alloc (Nat.le_refl _) o) h (Nat.le_refl _)⟩
/-- cells laid over others from place off on -/
def over (cs : List Value) (off : Nat) (vs : List Value) : List Value := cs.take off ++ vs ++ cs.drop (off + vs.length)
theorem over_all (cs vs : List Value) (h : vs.length = cs.length) : over cs 0 vs = vs := by
  unfold over
  rw [Nat.zero_add, h, List.drop_length]
  simp
theorem blk_setCells (h : Blk w g t cs) (off : Nat) (vs : List Value) (hl : off + vs.length ≤ cs.length) : Blk (w.setCells g off vs) g t (over cs off vs) := by
  obtain ⟨cur, h1, _, h3⟩ := setCells_row vs off w _ h.out (by simpa using hl)
  refine ⟨h1.trans ?_⟩
  have : cur = (over cs off vs).toArray := by
    apply Array.ext'
    rw [h3]
    simp [over]
  rw [this]
end

section
variable {P : Program} {ops : Array Oper} {rest : List Oper} {o : Oper} {a : Act} {w : World} {Q : Exit → Act → World → Prop} {K : Act → World → Prop}
theorem run_store (t : TypeId) (g off : Nat) (u : Value) (seg : List Value) (e : TypeId) (cur : List Value) (hh : Blk w g e cur) (hu : u.cells.toList = seg) (ht : (P.info? t).map (·.size) = some seg.length) (hfit : off + seg.length ≤ cur.length) (h1 : seg.all (·.oneCell') = true) :
    (Instr.storeAt t (.pointer (some ⟨g, off, none⟩)) u).run P w = .ok () (w.setCells g off seg) :=
  run_store_run t u seg hh.out hu ht (by simpa using hfit) (List.all_eq_true.1 h1)
theorem wp_store (hN : o.dst = none) (t : TypeId) (p x : Operand) (ho : o.op = .store t p x) (g off : Nat) (u : Value) (seg : List Value) (hp : a.eval p = .pointer (some ⟨g, off, none⟩)) (hx : a.eval x = u) (hu : u.cells.toList = seg)
    (e : TypeId) (cur : List Value) (hh : Blk w g e cur) (ht : (P.info? t).map (·.size) = some seg.length) (hfit : off + seg.length ≤ cur.length) (h1 : seg.all (·.oneCell') = true)
    (h : ∀ w', Blk w' g e (over cur off seg) → Only w w' g → K a w') : o.wp P a w K Q := by
  unfold Oper.wp execOp
  simp only [ho, hp, hx, Sem.run_bind, Sem.run_pure, Result.andThen_ok, run_store t g off u seg e cur hh hu ht hfit h1]
  show K (a.put o.dst undef) _
  rw [hN]
  exact h _ (blk_setCells hh off seg hfit) (only_setCells w g off seg)
/-- a store into a block that is known whole -/
theorem store (hgd : o.guard = none) (hN : o.dst = none) (t : TypeId) (p x : Operand) (ho : o.op = .store t p x) (g off : Nat) (u : Value) (seg : List Value) (hp : a.eval p = .pointer (some ⟨g, off, none⟩)) (hx : a.eval x = u) (hu : u.cells.toList = seg)
    (e : TypeId) (cur : List Value) (hh : Blk w g e cur) (ht : (P.info? t).map (·.size) = some seg.length) (hfit : off + seg.length ≤ cur.length) (h1 : seg.all (·.oneCell') = true)
    (h : ∀ w', Blk w' g e (over cur off seg) → Only w w' g → wpList P ops Q rest a w') : wpList P ops Q (o :: rest) a w :=
  wpList_plain hgd fun K hK => wp_store hN t p x ho g off u seg hp hx hu e cur hh ht hfit h1 (fun w' h2 h3 => hK _ _ (h w' h2 h3))
/-- the whole block -/
theorem store_all (hgd : o.guard = none) (hN : o.dst = none) (t : TypeId) (p x : Operand) (ho : o.op = .store t p x) (g : Nat) (seg : List Value) (hp : a.eval p = .pointer (some ⟨g, 0, none⟩)) (hx : a.eval x = .agg seg.toArray)
    (e : TypeId) (cur : List Value) (hh : Blk w g e cur) (ht : (P.info? t).map (·.size) = some seg.length) (hfit : seg.length = cur.length) (h1 : seg.all (·.oneCell') = true)
    (h : ∀ w', Blk w' g e seg → Only w w' g → wpList P ops Q rest a w') : wpList P ops Q (o :: rest) a w :=
  store hgd hN t p x ho g 0 _ seg hp hx (by simp [Value.cells]) e cur hh ht (by omega) h1 (fun w' h2 h3 => h w' (by rw [over_all cur seg hfit] at h2; exact h2) h3)
/-- the same as a step of a region that draws its order -/
theorem store_all_step {N : Option Tmp} (hw : Region.wanted o (yielded ops a.tmps) = true) (hN : o.dst = none) (t : TypeId) (p x : Operand) (ho : o.op = .store t p x) (g : Nat) (seg : List Value) (hp : a.eval p = .pointer (some ⟨g, 0, none⟩)) (hx : a.eval x = .agg seg.toArray)
    (e : TypeId) (cur : List Value) (hh : Blk w g e cur) (ht : (P.info? t).map (·.size) = some seg.length) (hfit : seg.length = cur.length) (h1 : seg.all (·.oneCell') = true)
    (h : ∀ w', Blk w' g e seg → Only w w' g → K a w') : if Region.wanted o (yielded ops a.tmps) = true then Oper.wp P o a w K Q else K (a.put N undef) w := by
  rw [if_pos hw]
  exact wp_store hN t p x ho g 0 _ seg hp hx (by simp [Value.cells]) e cur hh ht (by omega) h1 (fun w' h2 h3 => h w' (by rw [over_all cur seg hfit] at h2; exact h2) h3)
/-- the same at any place, any value -/
theorem store_step {N : Option Tmp} (hw : Region.wanted o (yielded ops a.tmps) = true) (hN : o.dst = none) (t : TypeId) (p x : Operand) (ho : o.op = .store t p x) (g off : Nat) (u : Value) (seg : List Value) (hp : a.eval p = .pointer (some ⟨g, off, none⟩)) (hx : a.eval x = u) (hu : u.cells.toList = seg)
    (e : TypeId) (cur : List Value) (hh : Blk w g e cur) (ht : (P.info? t).map (·.size) = some seg.length) (hfit : off + seg.length ≤ cur.length) (h1 : seg.all (·.oneCell') = true)
    (h : ∀ w', Blk w' g e (over cur off seg) → Only w w' g → K a w') : if Region.wanted o (yielded ops a.tmps) = true then Oper.wp P o a w K Q else K (a.put N undef) w := by
  rw [if_pos hw]
  exact wp_store hN t p x ho g off u seg hp hx hu e cur hh ht hfit h1 h

theorem run_load (t : TypeId) (g off : Nat) (seg : List Value) (d : TypeDesc) (hc : ∀ j v, seg[j]? = some v → w.cell? ⟨g, off + j, none⟩ = some v) (hu : P.underlying t = some d) (hd : (match d with | .struct _ | .array _ _ => true | _ => false) = true) (ht : (P.info? t).map (·.size) = some seg.length) :
    (Instr.loadAt t (.pointer (some ⟨g, off, none⟩))).run P w = .ok (.agg seg.toArray) w := by
  obtain ⟨i, hi, hsz⟩ := Option.map_eq_some_iff.1 ht
  have hl : (loadCells ⟨g, off, none⟩ seg.length).run P w = .ok seg.toArray w :=
    run_loadCells_list (P := P) w ⟨g, off, none⟩ seg (fun j v hv => by
      have hadd : (⟨g, off, none⟩ : Addr).add j = ⟨g, off + j, none⟩ := by unfold Addr.add; split <;> simp_all
      rw [hadd]
      exact hc j v hv)
  have hagg : (isAgg t).run P w = .ok true w := by
    unfold isAgg
    rw [Sem.run_bind, run_underlying hu w]
    cases d <;> simp_all
  simp [Instr.loadAt, Instr.sureAddr, loadVar, Sem.run_bind, hagg, sizeOf, typeInfo, hi, hsz, hl]
theorem run_load_blk (t : TypeId) (g off : Nat) (seg : List Value) (d : TypeDesc) {e : TypeId} {cur : List Value} (hh : Blk w g e cur) (hseg : (cur.drop off).take seg.length = seg) (hu : P.underlying t = some d) (hd : (match d with | .struct _ | .array _ _ => true | _ => false) = true) (ht : (P.info? t).map (·.size) = some seg.length) :
    (Instr.loadAt t (.pointer (some ⟨g, off, none⟩))).run P w = .ok (.agg seg.toArray) w := by
  refine run_load t g off seg d (fun j v hv => ?_) hu hd ht
  rw [hh.cell]
  rw [← hseg] at hv
  have hj : j < seg.length := by
    rcases Nat.lt_or_ge j seg.length with h | h
    · exact h
    · rw [List.getElem?_take, if_neg (by omega)] at hv; cases hv
  rw [List.getElem?_take, if_pos hj, List.getElem?_drop] at hv
  exact hv
theorem wp_load (t : TypeId) (p : Operand) (ho : o.op = .load t p) (v pv : Value) (hp : a.eval p = pv) (hrun : (Instr.loadAt t pv).run P w = .ok v w)
    (h : K (a.put o.dst v) w) : o.wp P a w K Q := by
  unfold Oper.wp execOp
  simp only [ho, hp, Sem.run_bind, Sem.run_pure, Result.andThen_ok, hrun]
  exact h
/-- the same, for a region that draws its order -/
theorem exec_load (t : TypeId) (p : Operand) (ho : o.op = .load t p) (v pv : Value) (hp : a.eval p = pv) (hrun : (Instr.loadAt t pv).run P w = .ok v w) : (execOp a.eval o).run P w = .ok (.value v) w := by
  unfold execOp
  simp only [ho, hp, Sem.run_bind, Sem.run_pure, Result.andThen_ok, hrun]
/-- a load of a struct, by its run -/
theorem load (hgd : o.guard = none) (t : TypeId) (p : Operand) (ho : o.op = .load t p) (v pv : Value) (hp : a.eval p = pv) (hrun : (Instr.loadAt t pv).run P w = .ok v w)
    (h : wpList P ops Q rest (a.put o.dst v) w) : wpList P ops Q (o :: rest) a w :=
  wpList_plain hgd fun K hK => wp_load t p ho v pv hp hrun (hK _ _ h)
/-- results that lie in memory, beside others -/
theorem res_c {fn : Func} {p : Tmp} {ty : TypeId} (h : fn.results = #[.cell p ty]) (tmps : Array Value) (g : Nat) (t : TypeId) (cs : List Value) (d : TypeDesc) (hp : tmps.getD p undef = .pointer (some ⟨g, 0, none⟩)) (hg : Blk w g t cs)
    (hu : P.underlying ty = some d) (hd : (match d with | .struct _ | .array _ _ => true | _ => false) = true) (hi : (P.info? ty).map (·.size) = some cs.length) : (results fn tmps).run P w = .ok (.agg cs.toArray) w :=
  results_cell_row h tmps w g t cs.toArray (0, 0) d hp hg.out hu hd (by simpa using hi)
theorem res_ct {fn : Func} {p u : Tmp} {ty : TypeId} (h : fn.results = #[.cell p ty, .tmp u]) (tmps : Array Value) (g : Nat) (t : TypeId) (cs : List Value) (d : TypeDesc) (hp : tmps.getD p undef = .pointer (some ⟨g, 0, none⟩)) (hg : Blk w g t cs)
    (hu : P.underlying ty = some d) (hd : (match d with | .struct _ | .array _ _ => true | _ => false) = true) (hi : (P.info? ty).map (·.size) = some cs.length) : (results fn tmps).run P w = .ok (.tuple #[.agg cs.toArray, tmps.getD u undef]) w :=
  results_ct h tmps w g t cs.toArray (0, 0) d hp hg.out hu hd (by simpa using hi)
theorem res_ctt {fn : Func} {p u v : Tmp} {ty : TypeId} (h : fn.results = #[.cell p ty, .tmp u, .tmp v]) (tmps : Array Value) (g : Nat) (t : TypeId) (cs : List Value) (d : TypeDesc) (hp : tmps.getD p undef = .pointer (some ⟨g, 0, none⟩)) (hg : Blk w g t cs)
    (hu : P.underlying ty = some d) (hd : (match d with | .struct _ | .array _ _ => true | _ => false) = true) (hi : (P.info? ty).map (·.size) = some cs.length) : (results fn tmps).run P w = .ok (.tuple #[.agg cs.toArray, tmps.getD u undef, tmps.getD v undef]) w :=
  results_ctt h tmps w g t cs.toArray (0, 0) d hp hg.out hu hd (by simpa using hi)
end
/-- a box of one cell reads as a row of one element -/
theorem reads_one {α : Type} {Rr : α → List Value → Prop} {W : World} {g : Nat} {e : TypeId} {v : Value} {x : α} (hb : Blk W g e [v]) (hR : Rr x [v]) : ReadsRow Rr 1 W (some ⟨g, 0, none⟩) 1 [x] := by
  refine ⟨rfl, by decide, fun _ => ⟨_, rfl, fun j p hj => ?_⟩⟩
  cases j with
  | zero =>
    obtain rfl : x = p := by simpa using hj
    refine ⟨[v], rfl, hR, fun i u hu => ?_⟩
    cases i with
    | zero =>
      obtain rfl : v = u := by simpa using hu
      have : (⟨g, 0, none⟩ : Addr).add (0 * 1 + 0) = ⟨g, 0, none⟩ := add_plain g 0
      rw [this]
      exact hb.at_ 0 rfl
    | succ i => simp at hu
  | succ j => simp at hj
theorem R_only {α : Type} {d : Kd α} {e : Nat} {w w' : World} {base : Nat} {ok : Nat → Prop} {v : Value} {xs : List α} {g : Nat} {t : TypeId} {cs : List Value} (h : d.R e w base ok v xs) (hb : Blk w g t cs) (ht : ∀ q, q ∈ e :: d.E → q ≠ t) (hO : Only w w' g) : d.R e w' base ok v xs :=
  Kd.R_mono (Kd.R_grown (Kd.R_types h hb.out ht) hO.grown (fun k hk he => hk.2 (by injection he))) (fun _ hk => hk.1)
section
variable {P : Program}
/-- cuts of numbers that are read: the address a letter -/
theorem cut_mid_ (t e : TypeId) (kl kh : IntKind) (ht : P.underlying t = some (.slice e)) (hi : (P.info? e).map (·.size) = some 1) (k : IntKind) (A : Option Addr) (c : Nat) (l : List Int) (lo' hi' : Int) (lo h : Nat) (e1 : lo' = lo) (e2 : hi' = h) (h1 : lo ≤ h) (h2 : h ≤ l.length) (hc : l.length ≤ c) :
    ∃ A' : Option Addr, (∀ W : World, (Instr.slice t (.slice A l.length c) (some (.int kl lo')) (some (.int kh hi')) none).run P W = .ok (.slice A' (h - lo) (c - lo)) W) ∧
      ((l.drop lo).take (h - lo)).length = h - lo ∧ ∀ W : World, Kd.C (Kd.int k) W A l.length l → Kd.C (Kd.int k) W A' (h - lo) ((l.drop lo).take (h - lo)) := by
  subst e1; subst e2
  obtain ⟨i, hi1, hsz⟩ := Option.map_eq_some_iff.1 hi
  have hl : ((l.drop lo).take (h - lo)).length = h - lo := by rw [List.length_take, List.length_drop]; omega
  refine ⟨if c = lo then A else A.map (·.add (lo * 1)), fun W => ?_, hl, fun W hC => ?_⟩
  · have := cut_mid (P := P) t e kl kh ht hi1 1 hsz A l.length c (lo : Int) (h : Int) (by omega) (by omega) (by omega) hc W
    simpa using this
  · have := Kd.C_mid (lo := lo) (hi := h) (c := c) hC h1 h2 hc
    rw [List.drop_take] at this
    rw [hl] at this
    exact this
theorem cut_from_ (t e : TypeId) (kl : IntKind) (ht : P.underlying t = some (.slice e)) (hi : (P.info? e).map (·.size) = some 1) (k : IntKind) (A : Option Addr) (c : Nat) (l : List Int) (lo' : Int) (lo : Nat) (e1 : lo' = lo) (h1 : lo ≤ l.length) (hc : l.length ≤ c) :
    ∃ A' : Option Addr, (∀ W : World, (Instr.slice t (.slice A l.length c) (some (.int kl lo')) none none).run P W = .ok (.slice A' (l.length - lo) (c - lo)) W) ∧
      ∀ W : World, Kd.C (Kd.int k) W A l.length l → Kd.C (Kd.int k) W A' (l.drop lo).length (l.drop lo) := by
  subst e1
  obtain ⟨i, hi1, hsz⟩ := Option.map_eq_some_iff.1 hi
  refine ⟨if c = lo then A else A.map (·.add (lo * 1)), fun W => ?_, fun W hC => Kd.C_drop (c := c) hC h1 hc⟩
  have := cut_from (P := P) t e kl ht hi1 1 hsz A l.length c (lo : Int) (by omega) (by omega) W
  simpa using this
theorem cut_from_Q (t e : TypeId) (kl : IntKind) (ht : P.underlying t = some (.slice e)) (hi : (P.info? e).map (·.size) = some 1) (k : IntKind) (A : Option Addr) (c : Nat) (l : List Int) (lo' : Int) (lo : Nat) (e1 : lo' = lo) (h1 : lo ≤ l.length) :
    ∃ A' : Option Addr, (∀ W : World, (Instr.slice t (.slice A l.length c) (some (.int kl lo')) none none).run P W = .ok (.slice A' (l.length - lo) (c - lo)) W) ∧
      ∀ (W : World) (base : Nat) (ok : Nat → Prop), Kd.Q (Kd.int k) e W base ok (.slice A l.length c) l → Kd.Q (Kd.int k) e W base ok (.slice A' (l.length - lo) (c - lo)) (l.drop lo) := by
  subst e1
  obtain ⟨i, hi1, hsz⟩ := Option.map_eq_some_iff.1 hi
  refine ⟨if c = lo then A else A.map (·.add (lo * 1)), fun W => ?_, fun W base ok hQ => Kd.Q_drop hQ h1⟩
  have := cut_from (P := P) t e kl ht hi1 1 hsz A l.length c (lo : Int) (by omega) (by omega) W
  simpa using this
theorem cut_to_ (t e : TypeId) (kh : IntKind) (ht : P.underlying t = some (.slice e)) (hi : (P.info? e).map (·.size) = some 1) (A : Option Addr) (c : Nat) (l : List Int) (hi' : Int) (h : Nat) (e2 : hi' = h) (h2 : h ≤ l.length) (hc : l.length ≤ c) :
    ∀ W : World, (Instr.slice t (.slice A l.length c) none (some (.int kh hi')) none).run P W = .ok (.slice A h c) W := by
  subst e2
  obtain ⟨i, hi1, hsz⟩ := Option.map_eq_some_iff.1 hi
  intro W
  have := cut_to (P := P) t e kh ht hi1 A l.length c (h : Int) (by omega) (by omega) hc W
  simpa using this
end
section
variable {P : Program} {ops : Array Oper} {o : Oper} {a : Act} {w : World} {Q : Exit → Act → World → Prop} {K : Act → World → Prop}
/-- what a list of one operation shows, of the operation alone -/
def OneQ (K : Act → World → Prop) (Q : Exit → Act → World → Prop) : Exit → Act → World → Prop
  | .normal, a, w => K a w
  | .outgrown, _, _ => False
  | e, a, w => Q e a w
theorem wp_oneQ (h : o.wp P a w K (OneQ K Q)) : o.wp P a w K Q := by
  unfold Oper.wp at *
  generalize (execOp a.eval o).run P w = r at *
  cases r with
  | ok n w' =>
    cases n <;> simp only [Oper.upon] at h ⊢
    all_goals first
      | exact h
      | exact Calls.mono h (fun e w'' he => by
          cases e <;> first
            | exact he
            | exact absurd he (fun h => by obtain ⟨_, _, h⟩ := h; exact h))
  | halt x w' =>
    cases x <;> simp only [Oper.upon] at h ⊢
    all_goals first
      | exact h
      | exact h.elim
      | (obtain ⟨_, _, h⟩ := h; exact h.elim)
theorem wp_of_list (hg : o.guard = none) (h : wpList P ops (OneQ K Q) [o] a w) : o.wp P a w K Q := by
  unfold wpList at h
  rw [if_pos (by simp [Region.wanted, hg])] at h
  rcases h with h | ⟨_, h⟩
  · exact wp_oneQ h
  · obtain ⟨_, _, h⟩ := h
    exact h.elim
theorem wpOp_of {i : Nat} (hi : ops[i]? = some o) (hg : o.guard = none) (h : o.wp P a w K Q) : wpOp P ops Q i K a w := by
  unfold wpOp
  rw [hi]
  simp only [Region.wanted, hg, if_true]
  exact .inl h
theorem wpOp_if {i : Nat} (hi : ops[i]? = some o) (h : if Region.wanted o (yielded ops a.tmps) = true then o.wp P a w K Q else K (a.put o.dst undef) w) : wpOp P ops Q i K a w := by
  unfold wpOp
  rw [hi]
  simp only
  split
  · rename_i hw; rw [if_pos hw] at h; exact .inl h
  · rename_i hw; rw [if_neg hw] at h; exact h
theorem ops_ {md : Region.Mode} {S : World → Prop} {ds : List Nat} {n : Nat} {l : Array Bool} {ops' : Array Oper} (ops : Array Oper) (h : ops' = ops) (hw : wpAnyLast P md ops Q S ds n l a w) : wpAnyLast P md ops' Q S ds n l a w := by
  subst h
  exact hw
end
end Go.Proofs.Ytemhlinodccokaa.Wk
