/- The contract of the reference's Sum. -/
import Derived.Test.YthcilikinfhipaaDoorShaRef
import Derived.Test.YthcilikinfhipaaDoorShaSum
set_option linter.unusedVariables false
set_option linter.unusedSimpArgs false
namespace Go.Proofs.YthcilikinfhipaaDoor
open Go.RowKit Go.Proofs.YthcilikinfhipaaDoorW.PrintWords Go.Proofs.YthcilikinfhipaaDoorW.PrintLast Go.Proofs.YthcilikinfhipaaDoorW.PrintMore
namespace Sh
theorem info8 : (Tryd.prog.info? 5).map (fun i => (i.zero, i.size, i.bytes)) = some (some (.int .u8 0), 1, 1) := by kernel_rfl
/-- what stands in memory while the padded bytes are laid out -/
structure Rm (w : World) (v : Value) (acc : List Int) (wr : World) : Prop where
  o : wr.heap[w.heap.size]? = some (.cells (u8s (List.replicate 32 0)) 25 (0, 0))
  r : Kd.R (Kd.int .u8) 5 wr w.heap.size (fun k => w.heap.size < k) v acc
  g : Below w.heap.size w wr
theorem Rm.next {w wr w2 : World} {v v1 : Value} {acc acc1 : List Int} (h : Rm w v acc wr) (hr : Kd.R (Kd.int .u8) 5 w2 w.heap.size (fun k => w.heap.size < k) v1 acc1) (hb : Below w.heap.size w w2) (hg : wr.grownBy w2 v.ownBlock) : Rm w v1 acc1 w2 :=
  ⟨(hg.block _ (Array.getElem?_eq_some_iff.1 h.o).1 (fun e => by have := h.r.1 _ e.symm; omega)).trans h.o, hr, hb⟩
theorem Rm.lt {w wr : World} {v : Value} {acc : List Int} (h : Rm w v acc wr) : w.heap.size < wr.heap.size := (Array.getElem?_eq_some_iff.1 h.o).1
/-- a piece of what is read -/
theorem C_cut {k : IntKind} {w : World} {A : Option Addr} {n c at_ m : Nat} {xs : List Int} (h : Kd.C (Kd.int k) w A n xs) (hm : at_ + m ≤ n) (h0 : 0 < m) (hc : n ≤ c) :
    Kd.C (Kd.int k) w (if c = at_ then A else A.map (·.add at_)) m ((xs.drop at_).take m) := by
  obtain ⟨h1, h2, h3⟩ := Kd.reads_of_C (d := (0 : Int)) h
  obtain ⟨ad, e, hcell⟩ := h3 (by omega)
  subst e
  rw [if_neg (by omega)]
  refine Kd.C_of_reads (d := 0) ⟨by rw [List.length_take, List.length_drop]; omega, by omega, fun _ => ⟨_, rfl, fun j hj => ?_⟩⟩
  rw [add_add]
  refine (hcell (at_ + j) (by omega)).trans ?_
  rw [List.getD_eq_getElem?_getD, List.getD_eq_getElem?_getD, List.getElem?_take, if_pos hj, List.getElem?_drop]
/-- what stands in memory while the digest is laid out -/
structure S4 (w3 : World) (L : List Int) (wr : World) : Prop where
  u : wr.heap[w3.heap.size]? = some (.cells (u8s L) 25 (0, 0))
  g : Below w3.heap.size w3 wr
theorem S4.put {w3 : World} {L : List Int} {wr : World} (h : S4 w3 L wr) (k : Nat) (x : Int) : S4 w3 (L.set k x) (wr.setCell ⟨w3.heap.size, k, none⟩ (.int .u8 x)) :=
  ⟨by rw [row_set h.u, u8s_set], h.g.setCell (p := ⟨w3.heap.size, k, none⟩) (Nat.le_refl _) _⟩
theorem cut2_run (w : World) (A : Option Addr) (m c : Nat) (i j : Nat) (hi : i ≤ j) (hj : j ≤ c) :
    (Instr.slice 22 (.slice A m c) (some (.int .i64 i)) (some (.int .i64 j)) none).run Tryd.prog w = .ok (.slice (if c = i then A else A.map (·.add i)) (j - i) (c - i)) w := by
  rw [run_slice_lh w 22 A m c (by kernel_rfl) .i64 .i64 i j (by omega) (by omega) (by omega)]
  rw [show Tryd.prog.elem 22 = 5 by kernel_rfl, show (sizeOf 5).run Tryd.prog w = .ok 1 w by kernel_rfl]
  simp [Result.andThen, sliced]
theorem cut2At_run (w : World) (A : Option Addr) (m c : Nat) (i j : Nat) (hi : i ≤ j) (hj : j ≤ c) :
    (Instr.sliceAt 22 (.slice A m c) (some (.int .i64 i)) (some (.int .i64 j)) none).run Tryd.prog w = .ok (.slice (if c = i then A else A.map (·.add i)) (j - i) (c - i)) w := by
  rw [run_sliceAt_slice w _ _ _ _ _ (by kernel_rfl)]
  exact cut2_run w A m c i j hi hj
theorem be8_at (x : Int) (j : Nat) (hj : j < 8) : (be8 x).take (j + 1) = (be8 x).take j ++ [x / 2 ^ (8 * (7 - j)) % 256] := by
  rw [be8_take x j hj, show 56 - 8 * j = 8 * (7 - j) by omega]
theorem padded_len (bs : List Int) : (padded bs).length = bs.length + 1 + zeros bs.length + 8 := by
  simp only [padded, List.length_append, List.length_replicate, be8_length, List.length_cons, List.length_nil]
end Sh
set_option maxHeartbeats 2000000 in
set_option maxRecDepth 100000 in
theorem refsum_.calls (A : Option Addr) (c : Nat) (l : List Int) (w : World) (hr : Kd.C (Kd.int .u8) w A l.length l) (hc : l.length ≤ c) (hby : Sh.Bytes l) (hlen : l.length ≤ 1099511000000) :
    Calls Tryd.prog 11 #[.slice A l.length c] w fun e w' => e = .returned (.agg (Sh.u8s (Sh.dig l))) ∧ Below w.heap.size w w' := by
  have HR := Aside0.mk hr
  have HBY := Aside0.mk hby
  clear hr hby
  obtain ⟨N, HN⟩ : ∃ N, Aside0 (l.length = N) := ⟨_, ⟨rfl⟩⟩
  have hN : N ≤ 1099511000000 := by rw [← HN.out]; exact hlen
  have hcN : N ≤ c := by rw [← HN.out]; exact hc
  rw [HN.out]
  have HO : Aside0 ((w.alloc (.cells (Sh.u8s (List.replicate 32 0)) 25)).heap[w.heap.size]? = some (.cells (Sh.u8s (List.replicate 32 0)) 25 (0, 0))) := ⟨heap_alloc_new _ _⟩
  have HB0 : Aside0 (Below w.heap.size w (w.alloc (.cells (Sh.u8s (List.replicate 32 0)) 25))) := ⟨below_alloc (Below.refl _ _) _⟩
  have HC0 : Aside0 (Kd.C (Kd.int .u8) (w.alloc (.cells (Sh.u8s (List.replicate 32 0)) 25)) A N l) := ⟨by have := Kd.C_alloc HR.out (.cells (Sh.u8s (List.replicate 32 0)) 25); rwa [HN.out] at this⟩
  have HS0 : Aside0 (w.heap.size < (w.alloc (.cells (Sh.u8s (List.replicate 32 0)) 25)).heap.size) := ⟨by show _ < (w.heap.push _).size; rw [Array.size_push]; omega⟩
  go_enter Tryd.func11, Tryd.ntmps11
  go_wp2_with (first
    | ((with_reducible refine gate_builtin (b := .append) (xs := #[.tmp 10, .tmp 11]) rfl ?_); at_builtin; refine Kd.R_append_rows (Kd.int .u8) (w0 := w) w.heap.size rfl (.tmp 10) (.tmp 11) 22 5 (.int .u8 0) 1 rfl Tryd.underlying22 Sh.info8 rfl (by decide) (by omega) (.slice none 0 0) ([] : List Int) l A N c (fun k => w.heap.size < k) (fun _ => False) rfl rfl (Kd.R_nil _ _ _ _ _) HC0.out (fun _ _ h => h) (fun _ h => h.elim) (fun k hk => Nat.lt_of_lt_of_le HS0.out hk) HB0.out (Nat.le_of_lt HS0.out) (by simp only [List.length_nil]; omega) ?_; intro v1 w1 ho hb hg _; have H1 : Aside0 (Sh.Rm w v1 ([] ++ l) w1) := ⟨⟨(hg.block _ HS0.out (by simp [Value.ownBlock])).trans HO.out, ho, hb⟩⟩; clear ho hb hg)
    | ((with_reducible refine gate_builtin (b := .append) (xs := #[.tmp 13, .tmp 14]) rfl ?_); at_builtin; refine Kd.R_append (Kd.int .u8) (w0 := w) w.heap.size rfl (.tmp 13) (.tmp 14) 22 5 (.int .u8 0) 1 rfl Tryd.underlying22 Sh.info8 rfl (by decide) (by omega) v1 ([] ++ l) 128 [.int .u8 128] (fun k => w.heap.size < k) (fun _ => False) rfl rfl rfl (fun _ h => h.elim) (fun k hk => Nat.lt_of_lt_of_le H1.out.lt hk) H1.out.r H1.out.g (Nat.le_of_lt H1.out.lt) (by rw [List.nil_append, HN.out]; omega) ?_; intro v2 w2 ho hb hg _; have H2 : Aside0 (Sh.Rm w v2 ([] ++ l ++ [128]) w2) := ⟨H1.out.next ho hb hg⟩; clear ho hb hg))
  have HZL : Aside0 (∀ z, (l ++ [128] ++ List.replicate z 0).length = N + 1 + z) := ⟨fun z => by rw [List.length_append, List.length_append, List.length_replicate, HN.out]; rfl⟩
  obtain ⟨A2, c2, hv2⟩ := Kd.R_slice H2.out.r
  subst hv2
  have hl2 : ([] ++ l ++ [(128 : Int)]).length = N + 1 := by rw [List.nil_append, List.length_append, HN.out]; rfl
  have H2' : Aside0 (Sh.Rm w (.slice A2 (N + 1) c2) (l ++ [128] ++ List.replicate 0 0) w2) := ⟨by
    have := H2.out
    rw [hl2] at this
    simpa using this⟩
  rw [hl2]
  clear H2 H1 HO HB0 HC0 HS0 hl2
  go_loopw [3] (fun v3 wr => ∃ (z : Nat) (A3 : Option Addr) (c3 M : Nat), v3 = .slice A3 M c3 ∧ z ≤ Sh.zeros N ∧ Aside0 (M = N + 1 + z) ∧ Aside0 (Sh.Rm w (.slice A3 M c3) (l ++ [128] ++ List.replicate z 0) wr)) (fun v _ => match v with | .slice _ n _ => (120 - n % 64) % 64 | _ => 0)
  case atStart => exact ⟨0, A2, c2, N + 1, rfl, Nat.zero_le _, ⟨rfl⟩, H2'⟩
  case round =>
    clear H2'
    obtain ⟨z, A3, c3, M, rfl, hz, HMN, HM⟩ := hrel
    have hzn : Sh.zeros N = (119 - N % 64) % 64 := rfl
    have hM := HMN.out
    by_cases hlt2 : z < Sh.zeros N
    · have ht3 : ¬ (M : Int) % 64 = 56 := by omega
      have ht2 : ((M : Int) % 64 != 56) = true := by simpa using ht3
      have HZN := Aside0.mk hzn
      clear hM hzn ht3
      go_wp2_with ((with_reducible refine gate_builtin (b := .append) (xs := #[.tmp 20, .tmp 21]) rfl ?_); at_builtin; refine Kd.R_append (Kd.int .u8) (w0 := w) w.heap.size rfl (.tmp 20) (.tmp 21) 22 5 (.int .u8 0) 1 rfl Tryd.underlying22 Sh.info8 rfl (by decide) (by omega) (.slice A3 M c3) (l ++ [128] ++ List.replicate z 0) 0 [.int .u8 0] (fun k => w.heap.size < k) (fun _ => False) rfl rfl rfl (fun _ h => h.elim) (fun k hk => Nat.lt_of_lt_of_le HM.out.lt hk) HM.out.r HM.out.g (Nat.le_of_lt HM.out.lt) (by rw [HZL.out]; have := HZN.out; omega) ?_; intro v4 w4 ho hb hg _; have H4 : Aside0 (Sh.Rm w v4 ((l ++ [128] ++ List.replicate z 0) ++ [0]) w4) := ⟨HM.out.next ho hb hg⟩; clear ho hb hg)
      obtain ⟨A4, c4, hv4⟩ := Kd.R_slice H4.out.r
      have hl4 : (l ++ [128] ++ List.replicate z 0 ++ [(0 : Int)]).length = M + 1 := by rw [List.length_append, HZL.out, HMN.out]; rfl
      rw [hl4] at hv4
      subst hv4
      have H5 : Aside0 (Sh.Rm w (.slice A4 (M + 1) c4) (l ++ [128] ++ List.replicate (z + 1) 0) w4) := ⟨by rw [List.replicate_succ', ← List.append_assoc]; exact H4.out⟩
      clear H4 HM hl4
      refine ⟨⟨z + 1, A4, c4, M + 1, rfl, by omega, ⟨by rw [HMN.out]; omega⟩, H5⟩, ?_⟩
      show (120 - (M + 1) % 64) % 64 < (120 - M % 64) % 64
      have := HMN.out
      have := HZN.out
      omega
    · obtain rfl : z = Sh.zeros N := by omega
      have ht : (M : Int) % 64 = 56 := by omega
      clear hM hzn
      go_wp2_with fail
      clear ht
      obtain ⟨P0, HP0⟩ : ∃ P, Aside0 (l ++ [128] ++ List.replicate (Sh.zeros N) 0 = P) := ⟨_, ⟨rfl⟩⟩
      have HPL : Aside0 (P0.length = M) := ⟨by rw [← HP0.out, HZL.out, HMN.out]⟩
      have hMM : M ≤ N + 64 := by have : Sh.zeros N = (119 - N % 64) % 64 := rfl; have := HMN.out; omega
      have HM0 : Aside0 (Sh.Rm w (.slice A3 M c3) (P0 ++ (Sh.be8 (N * 8)).take 0) wr) := ⟨by rw [← HP0.out]; simpa using HM.out⟩
      have HPAD : Aside0 (P0 ++ (Sh.be8 (N * 8)).take 8 = Sh.padded l) := ⟨by
        rw [List.take_of_length_le (by rw [Sh.be8_length]; exact Nat.le_refl _), ← HP0.out, ← HN.out]; rfl⟩
      have HM64 : Aside0 (M % 64 = 56) := ⟨by have : Sh.zeros N = (119 - N % 64) % 64 := rfl; have := HMN.out; omega⟩
      clear HM hz hlt2 HP0 HMN HZL
      go_loopw [5, 3] (fun v5 v3 wr => ∃ (j : Nat) (x : Int) (A3 : Option Addr) (c3 M3 : Nat), v5 = .int .i64 x ∧ Aside0 (x = 7 - (j : Int)) ∧ j ≤ 8 ∧ v3 = .slice A3 M3 c3 ∧ Aside0 (M3 = M + j) ∧ Aside0 (Sh.Rm w (.slice A3 M3 c3) (P0 ++ (Sh.be8 (N * 8)).take j) wr)) (fun v _ _ => (intOf v + 1).toNat)
      case atStart => exact ⟨0, 7, A3, c3, M, rfl, ⟨rfl⟩, by omega, rfl, ⟨rfl⟩, HM0⟩
      case round =>
        clear HM0
        obtain ⟨j, x, A3, c3, M3, rfl, HX, hj, rfl, HM3, HM⟩ := hrel
        by_cases hj8 : j < 8
        · obtain ⟨i, hi⟩ : ∃ i : Nat, x = (i : Int) := ⟨7 - j, by have := HX.out; omega⟩
          subst hi
          have hi7 : i ≤ 7 := by have := HX.out; omega
          have HIJ : Aside0 (i = 7 - j) := ⟨by have := HX.out; omega⟩
          have HLL : Aside0 ((P0 ++ (Sh.be8 (N * 8)).take j).length = M + j) := ⟨by rw [List.length_append, HPL.out, List.length_take, Sh.be8_length]; omega⟩
          go_wp2_with ((with_reducible refine gate_builtin (b := .append) (xs := #[.tmp 31, .tmp 38]) rfl ?_); at_builtin; refine Kd.R_append (Kd.int .u8) (w0 := w) w.heap.size rfl (.tmp 31) (.tmp 38) 22 5 (.int .u8 0) 1 rfl Tryd.underlying22 Sh.info8 rfl (by decide) (by omega) (.slice A3 M3 c3) (P0 ++ (Sh.be8 (N * 8)).take j) ((N : Int) * 8 / 2 ^ (8 * i) % 256) [.int .u8 ((N : Int) * 8 / 2 ^ (8 * i) % 256)] (fun k => w.heap.size < k) (fun _ => False) rfl rfl rfl (fun _ h => h.elim) (fun k hk => Nat.lt_of_lt_of_le HM.out.lt hk) HM.out.r HM.out.g (Nat.le_of_lt HM.out.lt) (by rw [HLL.out]; omega) ?_; intro v4 w4 ho hb hg _; have H4 : Aside0 (Sh.Rm w v4 ((P0 ++ (Sh.be8 (N * 8)).take j) ++ [((N : Int) * 8 / 2 ^ (8 * i) % 256)]) w4) := ⟨HM.out.next ho hb hg⟩; clear ho hb hg)
          obtain ⟨A4, c4, hv4⟩ := Kd.R_slice H4.out.r
          have hl4 : (P0 ++ (Sh.be8 (N * 8)).take j ++ [(N : Int) * 8 / 2 ^ (8 * i) % 256]).length = M3 + 1 := by rw [List.length_append, HLL.out, HM3.out]; rfl
          rw [hl4] at hv4
          subst hv4
          have H5 : Aside0 (Sh.Rm w (.slice A4 (M3 + 1) c4) (P0 ++ (Sh.be8 (N * 8)).take (j + 1)) w4) := ⟨by
            rw [Sh.be8_at _ _ hj8, ← HIJ.out, ← List.append_assoc]; exact H4.out⟩
          clear H4 HM hl4
          go_wp2_with fail
          refine ⟨⟨j + 1, (i : Int) - 1, A4, c4, M3 + 1, rfl, ⟨by have := HX.out; omega⟩, by omega, rfl, ⟨by rw [HM3.out]; omega⟩, H5⟩, by simp [intOf]⟩
        · obtain rfl : j = 8 := by omega
          have hx : x = -1 := by have := HX.out; omega
          subst hx
          obtain ⟨p, HPP⟩ : ∃ p, Aside0 (Sh.padded l = p) := ⟨_, ⟨rfl⟩⟩
          have HMp : Aside0 (Sh.Rm w (.slice A3 M3 c3) p wr) := ⟨by rw [← HPP.out, ← HPAD.out]; exact HM.out⟩
          obtain ⟨hpl, hpc, hpC⟩ := Kd.R_reads' HMp.out.r
          have HPBY : Aside0 (Sh.Bytes p) := ⟨by rw [← HPP.out]; exact Sh.padded_bytes l HBY.out⟩
          obtain ⟨K, HK⟩ : ∃ K, Aside0 (M3 = 64 * K) := ⟨M3 / 64, ⟨by have := HM3.out; have := HM64.out; omega⟩⟩
          have hM3 : M3 ≤ 1099511700000 := by have := HM3.out; omega
          rw [← hpl] at hpC
          have HPL3 : Aside0 (p.length = M3) := ⟨hpl.symm⟩
          have HPC := Aside0.mk hpC
          clear hpl hpC HM HPAD HPL HM64 HM3 HX
          obtain ⟨wq, rfl⟩ : ∃ q : World, q = wr := ⟨_, rfl⟩
          have HC6 : Aside0 (Kd.C (Kd.int .u32) (wq.alloc (.cells (Sh.u32s Sh.v0.list) 42)) (some ⟨wq.heap.size, 0, none⟩) 8 (Sh.feed p 0).list) := ⟨Lit.reads_new wq (Sh.u32s Sh.v0.list) 42 (0, 0) .u32 Sh.v0.list (by simp [Sh.u32s]) (by decide)⟩
          have HB6 : Aside0 (Below wq.heap.size wq (wq.alloc (.cells (Sh.u32s Sh.v0.list) 42))) := ⟨below_alloc (Below.refl _ _) _⟩
          go_wp2_with fail
          go_loopw [7, 6] (fun v7 v6 w' => ∃ (k a : Nat) (A6 : Option Addr) (c6 : Nat), v7 = .int .i64 a ∧ Aside0 (a = 64 * k) ∧ k ≤ K ∧ v6 = .slice A6 8 c6 ∧ 8 ≤ c6 ∧ Aside0 (Kd.C (Kd.int .u32) w' A6 8 (Sh.feed p k).list) ∧ Aside0 (Below wq.heap.size wq w')) (fun v _ _ => M3 - (intOf v).toNat)
          case atStart => exact ⟨0, 0, _, 8, rfl, ⟨rfl⟩, Nat.zero_le _, rfl, Nat.le_refl _, HC6, HB6⟩
          case round =>
            clear HC6 HB6
            obtain ⟨k, a, A6, c6, rfl, HA, hk, rfl, hc6, HC6, HB6⟩ := hrel
            by_cases hkK : k < K
            · have ha : a + 64 ≤ M3 := by have := HK.out; have := HA.out; omega
              have ha2 : a < M3 := by omega
              obtain ⟨A9, HA9⟩ : ∃ A9, Aside0 ((if c3 = a then A3 else A3.map (·.add a)) = A9) := ⟨_, ⟨rfl⟩⟩
              have q1 : ∀ W, (Instr.slice 22 (.slice A3 M3 c3) (some (.int .i64 a)) (some (.int .i64 ((a : Int) + 64))) none).run Tryd.prog W = .ok (.slice A9 64 (c3 - a)) W := fun W => by
                have := Sh.cut2_run W A3 M3 c3 a (a + 64) (by omega) (by omega)
                rw [HA9.out, Nat.add_sub_cancel_left] at this
                exact this
              have q2 : ∀ W, (Instr.sliceAt 22 (.slice A3 M3 c3) (some (.int .i64 a)) (some (.int .i64 ((a : Int) + 64))) none).run Tryd.prog W = .ok (.slice A9 64 (c3 - a)) W := fun W => by
                have := Sh.cut2At_run W A3 M3 c3 a (a + 64) (by omega) (by omega)
                rw [HA9.out, Nat.add_sub_cancel_left] at this
                exact this
              have h64 : ((p.drop a).take 64).length = 64 := by rw [List.length_take, List.length_drop, HPL3.out]; omega
              have HF : Aside0 (Calls Tryd.prog 17 #[.slice A6 8 c6, .slice A9 64 (c3 - a)] wr fun e w' => ∃ v0_ : Value, e = .returned (v0_) ∧ Kd.R (Kd.int .u32) 42 w' wr.heap.size (fun _ => True) v0_ (Sh.comp (Sh.feed p k) ((p.drop a).take 64)).list ∧ Below wr.heap.size wr w') := ⟨by
                have hC9 := Sh.C_cut (c := c3) (at_ := a) (m := 64) (Kd.C_below HPC.out HB6.out) ha (by decide) hpc
                rw [HA9.out] at hC9
                have := PBase.coamingref02_more.calls 900000 A6 c6 (Sh.feed p k).list A9 (c3 - a) ((p.drop a).take 64) _ wr HC6.out hc6 (by rw [h64]; exact hC9) (by rw [h64]; omega) (Sh.more_is (Sh.feed p k) _ h64 (fun x hx => HPBY.out x (List.mem_of_mem_drop (List.mem_of_mem_take hx))) 900000 (by decide))
                rw [h64] at this
                exact this⟩
              clear h64
              go_wp2_with fail
              refine HF.out.mono ?_
              rintro e w5 ⟨v5, rfl, hr5, hb5⟩
              obtain ⟨A7, c7, hv5⟩ := Kd.R_slice hr5
              rw [Sh.list_length] at hv5
              subst hv5
              obtain ⟨e7, hc7, hC7⟩ := Kd.R_reads' hr5
              clear e7
              rw [Sh.list_length] at hC7
              have HC7 : Aside0 (Kd.C (Kd.int .u32) w5 A7 8 (Sh.feed p (k + 1)).list) := ⟨by rw [Sh.feed, ← HA.out]; exact hC7⟩
              have HB7 : Aside0 (Below wq.heap.size wq w5) := ⟨below_then HB6.out HB6.out.size hb5⟩
              clear hC7 hb5 hr5 HF q1 q2
              go_wp2_with fail
              refine ⟨⟨k + 1, a + 64, A7, c7, by go_num, ⟨by rw [HA.out]; omega⟩, by omega, rfl, hc7, HC7, HB7⟩, by simp [intOf]; omega⟩
            · obtain rfl : k = K := by omega
              have hae : ¬ (a : Int) < M3 := by have := HK.out; have := HA.out; omega
              obtain ⟨st, HST⟩ : ∃ st, Aside0 (Sh.feed p k = st) := ⟨_, ⟨rfl⟩⟩
              rw [HST.out] at HC6
              have HD : Aside0 (Sh.dig l = Sh.outs st) := ⟨by
                rw [Sh.dig, Sh.state, HPP.out, HPL3.out, HK.out, show 64 * k / 64 = k by omega, HST.out]⟩
              obtain ⟨w3, rfl⟩ : ∃ q : World, q = wr := ⟨_, rfl⟩
              have HO3 : Aside0 (w3.heap[w.heap.size]? = some (.cells (Sh.u8s (List.replicate 32 0)) 25 (0, 0))) := ⟨(HB6.out.block _ HMp.out.lt).trans HMp.out.o⟩
              have HB3 : Aside0 (Below w.heap.size w w3) := ⟨below_then HMp.out.g HMp.out.g.size HB6.out⟩
              have HS4 : Aside0 (Sh.S4 w3 ((Sh.outs st).take 0 ++ List.replicate (32 - 0) 0) (w3.alloc (.cells (Sh.u8s (List.replicate 32 0)) 25))) := ⟨⟨heap_alloc_new _ _, below_alloc (Below.refl _ _) _⟩⟩
              obtain ⟨ad, hA6, _⟩ := Kd.at_int HC6.out 0 (by decide) (by decide)
              subst hA6
              clear HB6 HMp HPC HPBY HPL3 HPP HK HA HST
              go_wp2_with fail
              clear hae
              go_loopw [9] (fun v9 wr => ∃ k : Nat, v9 = .int .i64 k ∧ k ≤ 32 ∧ Aside0 (Sh.S4 w3 ((Sh.outs st).take k ++ List.replicate (32 - k) 0) wr)) (fun v _ => 32 - (intOf v).toNat)
              case atStart => exact ⟨0, rfl, by omega, HS4⟩
              case round =>
                clear HS4
                obtain ⟨k, rfl, hk, HM⟩ := hrel
                by_cases hlt4 : k < 32
                · obtain ⟨ad', e, hcs⟩ := Kd.at_int (Kd.C_below HC6.out HM.out.g) (k / 4 : Nat) (by omega) (by omega)
                  obtain rfl := Option.some.inj e
                  rw [Sh.rd_nat, Int.toNat_natCast] at hcs
                  have hl32 : ((Sh.outs st).take k ++ List.replicate (32 - k) 0).length = 32 := by rw [List.length_append, List.length_take, Sh.outs_length, List.length_replicate]; omega
                  have cu := Sh.cellAt HM.out.u k _ (Sh.u8s_at _ k (by rw [hl32]; exact hlt4))
                  have fu := Sh.frozenAt HM.out.u k
                  clear hl32 e
                  generalize ((Sh.outs st).take k ++ List.replicate (32 - k) 0).getD k 0 = old at cu
                  go_wp2_with fail
                  have HN2 : Aside0 (Sh.S4 w3 ((Sh.outs st).take (k + 1) ++ List.replicate (32 - (k + 1)) 0) (wr.setCell ⟨w3.heap.size, k, none⟩ (.int .u8 (st.list.getD (k / 4) 0 / 2 ^ (24 - k % 4 * 8) % 256)))) := ⟨by
                    have := HM.out.put k (st.list.getD (k / 4) 0 / 2 ^ (24 - k % 4 * 8) % 256)
                    rwa [Sh.put_next _ 32 k (Sh.outs_length st) hlt4 _ (Sh.outs_at st k hlt4)] at this⟩
                  rw [List.getD_eq_getElem?_getD] at HN2
                  exact ⟨⟨k + 1, by go_num, by omega, HN2⟩, by simp [intOf]; omega⟩
                · obtain rfl : k = 32 := by omega
                  have hL : (Sh.outs st).take 32 ++ List.replicate (32 - 32) 0 = Sh.outs st := by
                    rw [List.take_of_length_le (by rw [Sh.outs_length]; exact Nat.le_refl _)]; simp
                  rw [hL] at HM
                  clear hL
                  have hl32 : (Sh.outs st).length = 32 := Sh.outs_length st
                  obtain ⟨D, HDD⟩ : ∃ D, Aside0 (Sh.u8s (Sh.outs st) = D) := ⟨_, ⟨rfl⟩⟩
                  have hDs : D.size = 32 := by rw [← HDD.out]; simp [Sh.u8s, hl32]
                  have HS : Aside0 ((Tryd.prog.info? 25).map (·.size) = some D.size) := ⟨by rw [hDs]; kernel_rfl⟩
                  have HU : Aside0 (wr.heap[w3.heap.size]? = some (.cells D 25 (0, 0))) := ⟨by rw [← HDD.out]; exact HM.out.u⟩
                  have HZ2 : Aside0 ((Sh.u8s (List.replicate 32 0)).size = D.size) := ⟨by rw [hDs]; rfl⟩
                  have HONE : Aside0 (D.all (·.oneCell') = true) := ⟨by rw [← HDD.out]; simp [Sh.u8s, Value.oneCell']⟩
                  have HO : Aside0 (wr.heap[w.heap.size]? = some (.cells (Sh.u8s (List.replicate 32 0)) 25 (0, 0))) := ⟨(HM.out.g.block _ (Array.getElem?_eq_some_iff.1 HO3.out).1).trans HO3.out⟩
                  have HGW : Aside0 (Below w.heap.size w wr) := ⟨below_then HB3.out HB3.out.size HM.out.g⟩
                  clear hDs hl32
                  go_wp2_with (first | (refine wpList_load_row rfl 25 (.tmp 8) rfl w3.heap.size rfl 25 D (0, 0) _ HU.out Tryd.underlying25 rfl HS.out ?_) | (refine wpList_store_row rfl 25 (.tmp 2) (.tmp 72) rfl w.heap.size D rfl rfl 25 _ HO.out HS.out HZ2.out HONE.out ?_))
                  refine ⟨rfl, .agg D, ?_, ?_, below_setRow HGW.out (Nat.le_refl _) D⟩
                  · exact results_cell_row rfl _ _ w.heap.size 25 D (0, 0) _ rfl (setRow_heap wr w.heap.size _ D _ _ HO.out) Tryd.underlying25 rfl HS.out
                  · rw [HD.out, HDD.out]
#print axioms refsum_.calls
end Go.Proofs.YthcilikinfhipaaDoor
