/- The walk of req.Replies. -/
import Derived.Test.YtemhlinodccokaaReqS1
import Derived.Recover
set_option linter.unusedVariables false
set_option linter.unusedSimpArgs false
namespace Go.Proofs.Ytemhlinodccokaa
open Go.RowKit Go.Proofs.YtemhlinodccokaaW.PrintWords Go.Proofs.YtemhlinodccokaaW.PrintLast Go.Proofs.YtemhlinodccokaaW.PrintMore
theorem Rp.five (w : World) (a b c d e : Obj) : ((((((w.alloc a).alloc b).alloc c).alloc d).alloc e).heap[w.heap.size]? = some a) ∧ ((((((w.alloc a).alloc b).alloc c).alloc d).alloc e).heap[w.heap.size + 1]? = some b) ∧ ((((((w.alloc a).alloc b).alloc c).alloc d).alloc e).heap[w.heap.size + 1 + 1]? = some c) ∧ ((((((w.alloc a).alloc b).alloc c).alloc d).alloc e).heap[w.heap.size + 1 + 1 + 1]? = some d) ∧ ((((((w.alloc a).alloc b).alloc c).alloc d).alloc e).heap[w.heap.size + 1 + 1 + 1 + 1]? = some e) := by
  show ((((((w.heap.push a).push b).push c).push d).push e)[w.heap.size]? = some a) ∧ ((((((w.heap.push a).push b).push c).push d).push e)[w.heap.size + 1]? = some b) ∧ ((((((w.heap.push a).push b).push c).push d).push e)[w.heap.size + 1 + 1]? = some c) ∧ ((((((w.heap.push a).push b).push c).push d).push e)[w.heap.size + 1 + 1 + 1]? = some d) ∧ ((((((w.heap.push a).push b).push c).push d).push e)[w.heap.size + 1 + 1 + 1 + 1]? = some e)
  refine ⟨?_, ?_, ?_, ?_, ?_⟩ <;> simp only [Array.getElem?_push, Array.size_push, if_true] <;> (repeat (first | rw [if_neg (by omega)] | rw [if_pos (by omega)]))
theorem Rp.start (w : World) (rv : Value) (mv : Value) (p1 p2 p3 p4 : Nat) (h1 : w.heap.size + 1 = p1) (h2 : p1 + 1 = p2) (h3 : p2 + 1 = p3) (h4 : p3 + 1 = p4) :
    Rp.Wd w (((((w.alloc (.cells #[.slice none 0 0] 42)).alloc (.cells #[.slice none 0 0] 43)).alloc (.cells #[.slice none 0 0] 44)).alloc (.cells #[.bool false] 4)).alloc (.cells #[rv, mv] 65)) p1 p2 p3 p4 (.slice none 0 0) (.slice none 0 0) (.slice none 0 0) rv mv := by
  subst h1; subst h2; subst h3; subst h4
  obtain ⟨f1, f2, f3, f4, f5⟩ := Rp.five w (.cells #[.slice none 0 0] 42) (.cells #[.slice none 0 0] 43) (.cells #[.slice none 0 0] 44) (.cells #[.bool false] 4) (.cells #[rv, mv] 65)
  exact ⟨by omega, by omega, by omega, by omega, ⟨f1⟩, ⟨f2⟩, ⟨f3⟩, ⟨f4⟩, ⟨f5⟩, below_alloc (below_alloc (below_alloc (below_alloc (below_alloc (Below.refl _ _) _) _) _) _) _⟩
set_option maxHeartbeats 2000000 in
set_option maxRecDepth 100000 in
theorem replies_.calls (m : Int → Int) (A0 : Option Addr) (c0 : Nat) (l0 : List Int) (mv : Option Nat) (w : World) (hr0 : Kd.C (Kd.int .u8) w A0 l0.length l0) (hc0 : l0.length ≤ c0) (hl0 : l0.length ≤ 1099511627776) (hb0 : Wi.Bytes l0) (hm : Wi.Map w (.map mv) m) :
    Calls Try.prog 20 #[.slice A0 l0.length c0, .map mv] w fun e w' => ∃ v0 v1 v2 : Value, e = .returned (.tuple #[v0, v1, v2, .bool (Wi.repls m l0 [] [] []).2.2.2]) ∧ Kd.R (Kd.int .u32) 26 w' w.heap.size (fun _ => True) v0 (Wi.repls m l0 [] [] []).1 ∧
      Kd.R (Kd.int .u64) 25 w' w.heap.size (fun _ => True) v1 (Wi.repls m l0 [] [] []).2.1 ∧ Kd.R (Kd.slice 5 (Kd.int .u8)) 22 w' w.heap.size (fun _ => True) v2 (Wi.repls m l0 [] [] []).2.2.1 ∧ Below w.heap.size w w' := by
  have hmf : ∀ (fn : Fn) (first cap : Array Value) (w : World), (Instr.makeFunc fn first cap).run Try.prog w = .ok (.func fn first cap) w := fun _ _ _ _ => rfl
  have HR0 := Aside0.mk hr0
  have HB0 := Aside0.mk hb0
  have HM := Aside0.mk hm
  clear hr0 hb0 hm
  obtain ⟨N, HN⟩ : ∃ N, Aside0 (l0.length = N) := ⟨_, ⟨rfl⟩⟩
  rw [HN.out] at hc0 hl0 ⊢
  go_enter_defers Try.func20, Try.ntmps20
  go_wp2_with fail
  obtain ⟨p1, hp1⟩ : ∃ p, w.heap.size + 1 = p := ⟨_, rfl⟩
  obtain ⟨p2, hp2⟩ : ∃ p, p1 + 1 = p := ⟨_, rfl⟩
  obtain ⟨p3, hp3⟩ : ∃ p, p2 + 1 = p := ⟨_, rfl⟩
  obtain ⟨p4, hp4⟩ : ∃ p, p3 + 1 = p := ⟨_, rfl⟩
  have HW0 := Aside0.mk (Rp.start w (.slice A0 N c0) (.map mv) p1 p2 p3 p4 hp1 hp2 hp3 hp4)
  rw [hp1, hp2, hp3, hp4]
  generalize World.alloc (World.alloc (World.alloc (World.alloc (World.alloc w _) _) _) _) _ = W0 at *
  clear hp1 hp2 hp3 hp4
  go_loopg [] N (fun kq wr => ∃ (an cs : List Int) (ds : List (List Int)) (A : Option Addr) (c : Nat) (b : List Int) (va vc vd : Value), Aside0 (Rp.Wd w wr p1 p2 p3 p4 va vc vd (.slice A b.length c) (.map mv)) ∧ Aside0 (Rp.Rw w wr p4 va vc vd an cs ds) ∧ Aside0 (Rp.Rb w wr p4 A c b) ∧ Aside0 (b.length ≤ c ∧ Wi.Bytes b ∧ b.length ≤ kq ∧ kq ≤ N ∧ an.length + b.length ≤ N ∧ cs.length = an.length ∧ ds.length = an.length) ∧ Aside0 (Wi.repls m b an cs ds = Wi.repls m l0 [] [] []))
  case atStart => exact ⟨[], [], [], A0, c0, l0, _, _, _, ⟨by rw [HN.out]; exact HW0.out⟩, ⟨⟨Kd.R_nil _ _ _ _ _, Kd.R_nil _ _ _ _ _, Kd.R_nil _ _ _ _ _⟩⟩, ⟨.inl HR0.out⟩, ⟨by rw [HN.out]; exact hc0, HB0.out, by rw [HN.out]; exact Nat.le_refl _, Nat.le_refl _, by rw [HN.out]; simp, rfl, rfl⟩, ⟨rfl⟩⟩
  case round =>
    clear HW0
    obtain ⟨an, cs, ds, A, c, b, va, vc, vd, HW, HR, HRB, HBD, HRE⟩ := hrel
    obtain ⟨M, HM'⟩ : ∃ M, Aside0 (b.length = M) := ⟨_, ⟨rfl⟩⟩
    have cb : wr.cell? ⟨p4, 0, none⟩ = some (.slice A M c) := by have := HW.out.b4.at_ 0 rfl; rwa [HM'.out] at this
    by_cases hz : M = 0
    · subst hz
      go_wp2_with fail
      refine wp_region_noPanic ?_
      have HS0 : Aside0 (Rp.Wd w wr.drew p1 p2 p3 p4 va vc vd (.slice A b.length c) (.map mv)) := ⟨HW.out.below_ (Below.refl _ _).drew⟩
      obtain ⟨Av, cv, hva⟩ := Kd.R_slice HR.out.ra
      obtain ⟨Ac, cc, hvc⟩ := Kd.R_slice HR.out.rc
      obtain ⟨Ad, cd, hvd⟩ := Kd.R_slice HR.out.rd
      subst hva; subst hvc; subst hvd
      obtain ⟨n1, HN1⟩ : ∃ n, Aside0 (an.length = n) := ⟨_, ⟨rfl⟩⟩
      obtain ⟨n2, HN2⟩ : ∃ n, Aside0 (cs.length = n) := ⟨_, ⟨rfl⟩⟩
      obtain ⟨n3, HN3⟩ : ∃ n, Aside0 (ds.length = n) := ⟨_, ⟨rfl⟩⟩
      rw [HN1.out, HN2.out, HN3.out] at HS0 HW
      have HRW := Aside0.mk (HR.out.below_ (Below.refl _ _).drew)
      rw [HN1.out, HN2.out, HN3.out] at HRW
      refine start_ (n := 7) (S := (fun w' => Rp.Wd w w' p1 p2 p3 p4 (.slice Av n1 cv) (.slice Ac n2 cc) (.slice Ad n3 cd) (.slice A b.length c) (.map mv))) (ds := [6]) #[false, false, false, false, false, false, false] (by kernel_rfl) rfl rfl HS0.out (fun hHeld => ?_)
      refine take_ (i := 0) (N := (some 41)) (v := ?_) (a' := ?_) #[true, false, false, false, false, false, false] rfl rfl (by kernel_rfl) (fun _ _ _ h => h) (Or.inl ⟨by rfl, ?_⟩) hHeld ?_ ?_
      rotate_left
      · intro w' hS'
        (have c1 := hS'.b0.at_ 0 rfl; go_simp)
        with_reducible rfl
      rotate_left
      · simp only [Act.put, List.setIfInBounds_toArray, List.set_cons_zero, List.set_cons_succ]
        rfl
      refine take_ (i := 1) (N := (some 42)) (v := ?_) (a' := ?_) #[true, true, false, false, false, false, false] rfl rfl (by kernel_rfl) (fun _ _ _ h => h) (Or.inl ⟨by rfl, ?_⟩) hHeld ?_ ?_
      rotate_left
      · intro w' hS'
        (have c1 := hS'.b1.at_ 0 rfl; go_simp)
        with_reducible rfl
      rotate_left
      · simp only [Act.put, List.setIfInBounds_toArray, List.set_cons_zero, List.set_cons_succ]
        rfl
      refine take_ (i := 2) (N := (some 43)) (v := ?_) (a' := ?_) #[true, true, true, false, false, false, false] rfl rfl (by kernel_rfl) (fun _ _ _ h => h) (Or.inl ⟨by rfl, ?_⟩) hHeld ?_ ?_
      rotate_left
      · intro w' hS'
        (have c1 := hS'.b2.at_ 0 rfl; go_simp)
        with_reducible rfl
      rotate_left
      · simp only [Act.put, List.setIfInBounds_toArray, List.set_cons_zero, List.set_cons_succ]
        rfl
      refine one_ (i := 3) (N := none) #[true, true, true, true, false, false, false] rfl rfl (by kernel_rfl) (by decide) (fun K hK => ?_)
      have c1 := hHeld.b0.at_ 0 rfl
      have z1 := hHeld.b0.frozen 0
      refine skip_ (w1 := wr.drew.setCell ⟨w.heap.size, 0, none⟩ (.slice Av n1 cv)) (by rfl) rfl (by go_simp) ?_
      have HRW1 := Aside0.mk (HRW.out.only (Rp.set_only w.heap.size (.slice Av n1 cv)) (by have := HS0.out.lt1; have := HS0.out.lt2; have := HS0.out.lt3; have := HS0.out.lt4; omega))
      clear c1 z1
      refine hK.out _ _ (hHeld.set0 _) (fun hHeld => ?_)
      clear hK K
      generalize World.setCell wr.drew _ _ = w1 at *
      refine one_ (i := 4) (N := none) #[true, true, true, true, true, false, false] rfl rfl (by kernel_rfl) (by decide) (fun K hK => ?_)
      have c1 := hHeld.b1.at_ 0 rfl
      have z1 := hHeld.b1.frozen 0
      refine skip_ (w1 := w1.setCell ⟨p1, 0, none⟩ (.slice Ac n2 cc)) (by rfl) rfl (by go_simp) ?_
      have HRW2 := Aside0.mk (HRW1.out.only (Rp.set_only p1 (.slice Ac n2 cc)) (by have := HS0.out.lt2; have := HS0.out.lt3; have := HS0.out.lt4; omega))
      clear c1 z1
      refine hK.out _ _ (hHeld.set1 _) (fun hHeld => ?_)
      clear hK K
      generalize World.setCell w1 _ _ = w2 at *
      refine one_ (i := 5) (N := none) #[true, true, true, true, true, true, false] rfl rfl (by kernel_rfl) (by decide) (fun K hK => ?_)
      have c1 := hHeld.b2.at_ 0 rfl
      have z1 := hHeld.b2.frozen 0
      refine skip_ (w1 := w2.setCell ⟨p2, 0, none⟩ (.slice Ad n3 cd)) (by rfl) rfl (by go_simp) ?_
      have HRW3 := Aside0.mk (HRW2.out.only (Rp.set_only p2 (.slice Ad n3 cd)) (by have := HS0.out.lt3; have := HS0.out.lt4; omega))
      clear c1 z1
      refine hK.out _ _ (hHeld.set2 _) (fun hHeld => ?_)
      clear hK K
      generalize World.setCell w2 _ _ = w3 at *
      refine last_ (i := 6) (N := none) #[true, true, true, true, true, true, true] rfl rfl (by kernel_rfl) (by decide) (fun K hK => ?_)
      have c1 := hHeld.b3.at_ 0 rfl
      have z1 := hHeld.b3.frozen 0
      refine skip_ (w1 := w3.setCell ⟨p3, 0, none⟩ (.bool true)) (by rfl) rfl (by go_simp) ?_
      clear c1 z1
      refine hK.out _ _ ?_
      clear hK K
      refine done_ (by kernel_rfl) ?_
      refine NoPanic.normal ?_
      have hl1 := hHeld.lt1
      have hl2 := hHeld.lt2
      have hl3 := hHeld.lt3
      have hl4 := hHeld.lt4
      have HB : Aside0 (Below w.heap.size w (w3.setCell ⟨p3, 0, none⟩ (.bool true))) := ⟨Wk.Only.below hHeld.below (Rp.set_only p3 _) (by omega)⟩
      have HRW4 := Aside0.mk (HRW3.out.only (Rp.set_only p3 (.bool true)) (by omega))
      have hO := Rp.set_only (W := w3) p3 (.bool true)
      have d0 := (hHeld.b0.only hO (by omega)).at_ 0 rfl
      have d1 := (hHeld.b1.only hO (by omega)).at_ 0 rfl
      have d2 := (hHeld.b2.only hO (by omega)).at_ 0 rfl
      have d3 := (hHeld.b3.set_ 0 (.bool true)).at_ 0 rfl
      clear hl1 hl2 hl3 hl4 hO hHeld
      generalize World.setCell w3 _ _ = WW at *
      have HRR : Aside0 (Wi.repls m l0 [] [] [] = (an, cs, ds, true)) := ⟨by rw [← HRE.out]; exact Wi.repls_nil m an cs ds b HM'.out⟩
      have D0 := Aside0.mk d0
      have D1 := Aside0.mk d1
      have D2 := Aside0.mk d2
      have D3 := Aside0.mk d3
      clear d0 d1 d2 d3 cb
      go_wp2_with fail
      refine leaves_cons (f := 30) (args := #[.pointer (some ⟨w.heap.size, 0, none⟩), .pointer (some ⟨p1, 0, none⟩), .pointer (some ⟨p2, 0, none⟩), .pointer (some ⟨p3, 0, none⟩)]) (by simp) (by simp [go_sem]) ?_
      refine (Rp.catch_idle ⟨w.heap.size, 0, none⟩ ⟨p1, 0, none⟩ ⟨p2, 0, none⟩ ⟨p3, 0, none⟩ _).mono ?_
      rintro e' u' w' ⟨rfl, rfl, rfl⟩
      refine ⟨.tuple #[.slice Av n1 cv, .slice Ac n2 cc, .slice Ad n3 cd, .bool true], by simp [results, Try.results20, go_sem, Act.eval, D0.out, D1.out, D2.out, D3.out], ?_⟩
      rw [HRR.out]
      exact ⟨_, _, _, rfl, Kd.R_mono HRW4.out.ra (fun _ _ => trivial), Kd.R_mono HRW4.out.rc (fun _ _ => trivial), Kd.R_mono HRW4.out.rd (fun _ _ => trivial), HB.out⟩
    · have hz' : 0 < M := by omega
      go_wp2_with fail
      have HF : Aside0 (Calls Try.prog 31 #[.pointer (some ⟨p4, 0, none⟩)] wr (Wi.OnePost m b (.map mv) p4 wr)) := ⟨Wi.one_any m p4 A c b (.map mv) wr HW.out.b4 (HM.out.below HW.out.below) (HRB.out.reads HW.out.below) HBD.out.1 (by have := HBD.out; omega) HBD.out.2.1⟩
      refine HF.out.mono ?_
      intro e w1 hp
      have HP := Aside0.mk hp
      clear hp HF
      rcases HP.out with ⟨hbad, ⟨u, pv, rfl⟩, hbel⟩ | ⟨hok, v5, A', c', rfl, hR5, hQ, hB4, hgb⟩
      · have HBAD : Aside0 (Wi.repls m l0 [] [] [] = ([], [], [], false)) := ⟨by rw [← HRE.out]; exact Wi.repls_bad m b an cs ds (by rw [HM'.out]; exact hz) hbad⟩
        have HW1 := Aside0.mk (HW.out.below_ hbel)
        clear hbad hbel HP HR HRB HBD HRE
        show Leaves _ _ _ _ _ (.panicking _) _
        refine leaves_cons (f := 30) (args := #[.pointer (some ⟨w.heap.size, 0, none⟩), .pointer (some ⟨p1, 0, none⟩), .pointer (some ⟨p2, 0, none⟩), .pointer (some ⟨p3, 0, none⟩)]) (by simp) (by simp [go_sem]) ?_
        refine (Rp.catch_panicking u pv [] HW1.out).mono ?_
        rintro e' u' w' ⟨rfl, rfl, hw'⟩
        have d0 := hw'.b0.at_ 0 rfl
        have d1 := hw'.b1.at_ 0 rfl
        have d2 := hw'.b2.at_ 0 rfl
        have d3 := hw'.b3.at_ 0 rfl
        refine ⟨.tuple #[.slice none 0 0, .slice none 0 0, .slice none 0 0, .bool false], by simp [results, Try.results20, go_sem, Act.eval, d0, d1, d2, d3], ?_⟩
        rw [HBAD.out]
        exact ⟨_, _, _, rfl, Kd.R_nil _ _ _ _ _, Kd.R_nil _ _ _ _ _, Kd.R_nil _ _ _ _ _, hw'.below⟩
      · obtain ⟨A5, c5, rfl⟩ := Kd.R_slice hR5
        have HRE1 : Aside0 (Wi.repls m (Wi.rpRest m b) (an ++ [Wi.rp1 b]) (cs ++ [Wi.rp2 b]) (ds ++ [Wi.rpData m b]) = Wi.repls m l0 [] [] []) := ⟨by rw [← Wi.repls_good m b an cs ds hok]; exact HRE.out⟩
        have hlr := Wi.rpRest_lt m b hok
        have hbr : Wi.Bytes (Wi.rpRest m b) := Wi.Bytes.drop (Wi.Bytes.drop HBD.out.2.1 16) _
        obtain ⟨x, hx⟩ : ∃ x, Wi.rp1 b = x := ⟨_, rfl⟩
        obtain ⟨y, hy⟩ : ∃ y, Wi.rp2 b = y := ⟨_, rfl⟩
        obtain ⟨d5, hd5⟩ : ∃ d, Wi.rpData m b = d := ⟨_, rfl⟩
        obtain ⟨b1, hb1⟩ : ∃ d, Wi.rpRest m b = d := ⟨_, rfl⟩
        rw [hx, hy, hd5, hb1] at HRE1
        rw [hd5] at hR5
        rw [hb1] at hQ hB4 hlr hbr
        rw [hx, hy, hd5]
        have h4 := HW.out.b4.lt
        have hsz := hgb.size
        have HW1 := Aside0.mk (HW.out.only4 hgb hB4)
        have HR1 := Aside0.mk (HR.out.grown_ hgb (Nat.le_refl _))
        have HRB1 : Aside0 (Rp.Rb w w1 p4 A' c' b1) := ⟨.inr (Kd.Q_lower (Kd.Q_mono (Kd.Q_bound hQ) (fun k hk => by have := hk.2.1; omega)) HW.out.below.size)⟩
        have H5 : Aside0 (Kd.R (Kd.int .u8) 5 w1 w.heap.size (fun k => p4 < k) (.slice A5 d5.length c5) d5) := ⟨Kd.R_lower (Kd.R_mono (Kd.R_bound hR5) (fun k hk => by have := hk.2.1; omega)) HW.out.below.size⟩
        have HLL : Aside0 (b1.length ≤ c' ∧ Wi.Bytes b1 ∧ b1.length < M ∧ an.length + 1 + b1.length ≤ N ∧ cs.length = an.length ∧ ds.length = an.length ∧ M ≤ gk ∧ gk ≤ N) := ⟨by
          have h1 := HBD.out
          have h2 := HM'.out
          exact ⟨(Kd.Q_reads' hQ).2.1, hbr, by omega, by omega, h1.2.2.2.2.2.1, h1.2.2.2.2.2.2, by omega, by omega⟩⟩
        obtain ⟨n5, HN5⟩ : ∃ n, Aside0 (d5.length = n) := ⟨_, ⟨rfl⟩⟩
        rw [HN5.out] at H5 ⊢
        clear hR5 hQ hB4 hgb hlr hbr hx hy hd5 hb1 hok h4 hsz HP HW HR HRB HBD HRE cb
        cases gk with
        | zero => exact absurd HLL.out.2.2.2.2.2.2.1 (by omega)
        | succ k1 =>
          go_wp2_with fail
          refine wp_region_noPanic ?_
          refine start_ (n := 15) (S := (fun w' => Rp.Wd w w' p1 p2 p3 p4 va vc vd (.slice A' b1.length c') (.map mv))) (ds := [12, 13, 14]) #[false, false, false, false, false, false, false, false, false, false, false, false, false, false, false] (by kernel_rfl) rfl rfl (HW1.out.below_ (Below.refl _ _).drew) (fun hHeld => ?_)
          refine pure_ (i := 1) (N := (some 30)) (v := ?_) (a' := ?_) #[false, true, false, false, false, false, false, false, false, false, false, false, false, false, false] rfl rfl (by kernel_rfl) (fun _ _ _ h => h) (Or.inl ⟨by rfl, ?_⟩) ?_ ?_
          rotate_left
          · intro w'
            go_simp
            with_reducible rfl
          rotate_left
          · simp only [Act.put, List.setIfInBounds_toArray, List.set_cons_zero, List.set_cons_succ]
            rfl
          refine pure_ (i := 5) (N := (some 34)) (v := ?_) (a' := ?_) #[false, true, false, false, false, true, false, false, false, false, false, false, false, false, false] rfl rfl (by kernel_rfl) (fun _ _ _ h => h) (Or.inl ⟨by rfl, ?_⟩) ?_ ?_
          rotate_left
          · intro w'
            go_simp
            with_reducible rfl
          rotate_left
          · simp only [Act.put, List.setIfInBounds_toArray, List.set_cons_zero, List.set_cons_succ]
            rfl
          refine pure_ (i := 9) (N := (some 38)) (v := ?_) (a' := ?_) #[false, true, false, false, false, true, false, false, false, true, false, false, false, false, false] rfl rfl (by kernel_rfl) (fun _ _ _ h => h) (Or.inl ⟨by rfl, ?_⟩) ?_ ?_
          rotate_left
          · intro w'
            go_simp
            with_reducible rfl
          rotate_left
          · simp only [Act.put, List.setIfInBounds_toArray, List.set_cons_zero, List.set_cons_succ]
            rfl
          refine take_ (i := 0) (N := (some 29)) (v := ?_) (a' := ?_) #[true, true, false, false, false, true, false, false, false, true, false, false, false, false, false] rfl rfl (by kernel_rfl) (fun _ _ _ h => h) (Or.inl ⟨by rfl, ?_⟩) hHeld ?_ ?_
          rotate_left
          · intro w' hS'
            (have c1 := hS'.b0.at_ 0 rfl; go_simp)
            with_reducible rfl
          rotate_left
          · simp only [Act.put, List.setIfInBounds_toArray, List.set_cons_zero, List.set_cons_succ]
            rfl
          refine take_ (i := 4) (N := (some 33)) (v := ?_) (a' := ?_) #[true, true, false, false, true, true, false, false, false, true, false, false, false, false, false] rfl rfl (by kernel_rfl) (fun _ _ _ h => h) (Or.inl ⟨by rfl, ?_⟩) hHeld ?_ ?_
          rotate_left
          · intro w' hS'
            (have c1 := hS'.b1.at_ 0 rfl; go_simp)
            with_reducible rfl
          rotate_left
          · simp only [Act.put, List.setIfInBounds_toArray, List.set_cons_zero, List.set_cons_succ]
            rfl
          refine take_ (i := 8) (N := (some 37)) (v := ?_) (a' := ?_) #[true, true, false, false, true, true, false, false, true, true, false, false, false, false, false] rfl rfl (by kernel_rfl) (fun _ _ _ h => h) (Or.inl ⟨by rfl, ?_⟩) hHeld ?_ ?_
          rotate_left
          · intro w' hS'
            (have c1 := hS'.b2.at_ 0 rfl; go_simp)
            with_reducible rfl
          rotate_left
          · simp only [Act.put, List.setIfInBounds_toArray, List.set_cons_zero, List.set_cons_succ]
            rfl
          refine Wk.ops_ (opsOf Try.f20 5) (by kernel_rfl) ?_
          have hDB : Below w1.heap.size w1 w1.drew := (Below.refl _ _).drew
          have hl := HLL.out
          refine Rp.t_0 (w := w) (p1 := p1) (p2 := p2) (p3 := p3) (p4 := p4) (rv := .slice A' b1.length c') (mv := .map mv) (va := va) (vc := vc) (vd := vd) (A5 := A5) (n5 := n5) (c5 := c5) (an := an) (cs := cs) (ds := ds) (A := A') (c := c') (b := b1) (x := x) (y := y) (d5 := d5) ⟨0, 0, 0, va, vc, vd, rfl, hHeld, HR1.out.below_ hDB, HRB1.out.below_ hDB, fun _ => rfl, fun _ => rfl, fun _ => rfl, fun _ => Kd.R_below H5.out hDB, (fun h => nomatch h), (fun h => nomatch h), (fun h => nomatch h)⟩ (by omega) (by omega) (by omega) (fun f2 f6 f10 q1 q2 q3 a W h => ?_) (fun a W h => Rp.fin_ h (fun g2 g6 g10 va' vc' vd' W' hw hr hb => ?_))
          · obtain ⟨_, _, _, _, _, _, _, hw, _⟩ := h.out
            exact hw
          · have HW2 := Aside0.mk hw
            have HR2 := Aside0.mk hr
            have HRB2 := Aside0.mk hb
            clear hw hr hb h hl hDB hHeld
            refine NoPanic.normal ?_
            unfold Rp.F
            go_wp2_with fail
            go_roundg k1
            case measure => have := HLL.out; omega
            case rel =>
              have hl := HLL.out
              exact ⟨an ++ [x], cs ++ [y], ds ++ [d5], A', c', b1, va', vc', vd', HW2, HR2, HRB2, ⟨hl.1, hl.2.1, by omega, by omega, by simp; omega, by simp; omega, by simp; omega⟩, HRE1⟩
#print axioms replies_.calls
end Go.Proofs.Ytemhlinodccokaa
