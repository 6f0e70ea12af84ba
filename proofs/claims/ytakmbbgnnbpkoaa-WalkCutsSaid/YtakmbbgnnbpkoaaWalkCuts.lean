import Derived.Test.YtakmbbgnnbpkoaaLed
--ARR
--INF
--DEEP
--LOADS loadRN
namespace Go.Proofs.Ytakmbbgnnbpkoaa
open Go.Rr Go Gr
set_option linter.unusedVariables false
theorem rints_ct {w : World} {va vb : Value} {xs : List Int} {S1 S2 : HProp} {L : List HProp} (h1 : Rd S1 va xs) (h2 : Rd S2 vb xs) (hl : xs.length ≤ 1000) (H : Holds w (S1 :: S2 :: L)) :
    CT Try.prog 46 [va, vb] w fun u w' => u = .bool true ∧ Holds w' (S1 :: S2 :: L) := by
  obtain ⟨a, ca, rfl⟩ := h1.form H
  obtain ⟨b, cb, rfl⟩ := h2.form H.swap
  refine CT.enter (N := 26) Try.func46 rfl rfl rfl rfl ?_
  refine W.seq (fun K0 hK0 => ?_)
  refine W.region ?_
  refine O.ex (Ex.assign rfl) rfl ?_
  refine O.nil ?_
  refine hK0 _ _ _ ?_
  refine W.seq (fun K1 hK1 => ?_)
  refine W.seq (fun K2 hK2 => ?_)
  refine W.region ?_
  refine O.ex (Ex.move rfl) rfl ?_
  refine O.ex (by first | exact Ex.lenR Try.runUnderlying37 rfl | exact Ex.lenIn Try.runUnderlying37 rfl | exact Ex.lenL Try.runUnderlying37 rfl | exact Ex.len rfl Try.runUnderlying37 rfl) rfl ?_
  refine O.ex (Ex.move rfl) rfl ?_
  refine O.ex (by first | exact Ex.lenR Try.runUnderlying37 rfl | exact Ex.lenIn Try.runUnderlying37 rfl | exact Ex.lenL Try.runUnderlying37 rfl | exact Ex.len rfl Try.runUnderlying37 rfl) rfl ?_
  refine O.ex (Ex.neqI rfl rfl) rfl ?_
  refine O.nil ?_
  refine hK2 _ _ _ ?_
  refine W.known_f rfl (by first | rfl | decide | exact decide_eq_false (fun hh => hh rfl)) ?_
  refine W.skip ?_
  refine hK1 _ _ _ ?_
  refine W.seq (fun K3 hK3 => ?_)
  refine W.seq (fun K4 hK4 => ?_)
  refine W.region ?_
  refine O.ex (Ex.assign rfl) rfl ?_
  refine O.nil ?_
  refine hK4 _ _ _ ?_
  refine W.block ?_
  refine W.loop (σ := Nat) (fun i => [(0, .slice a xs.length ca), (1, .slice b xs.length cb), (5, .int .i64 (i : Int))]) (fun i ds w => ds = [] ∧ i ≤ xs.length ∧ Holds w (S1 :: S2 :: L)) (fun i => xs.length - i) 0 ⟨rfl, rfl, rfl, trivial⟩ ⟨rfl, by omega, Holds.to (by assumption)⟩ ?_
  clear H
  rintro i _ w ⟨rfl, hi, H⟩
  refine W.seq (fun K5 hK5 => ?_)
  refine W.seq (fun K6 hK6 => ?_)
  refine W.region ?_
  refine O.ex (Ex.move rfl) rfl ?_
  refine O.ex (Ex.move rfl) rfl ?_
  refine O.ex (by first | exact Ex.lenR Try.runUnderlying37 rfl | exact Ex.lenIn Try.runUnderlying37 rfl | exact Ex.lenL Try.runUnderlying37 rfl | exact Ex.len rfl Try.runUnderlying37 rfl) rfl ?_
  refine O.ex (Ex.lss rfl rfl) rfl ?_
  refine O.nil ?_
  refine hK6 _ _ _ ?_
  first | refine W.cond_p rfl (fun hlt => ?_) (fun hge => ?_) | refine W.cond_b rfl (fun hlt => ?_) (fun hge => ?_)
  · refine W.skip ?_
    refine hK5 _ _ _ ?_
    refine W.seq (fun K7 hK7 => ?_)
    refine W.block ?_
    refine W.seq (fun K8 hK8 => ?_)
    have hil : i < xs.length := by omega
    refine W.drawTo _ (.take 0 (.take 1 (.take 2 (.take 3 (.take 4 (.take 5 (.take 6 (.take 7 (.take 8 .nil))))))))) (mixed) (fun _ _ _ _ h => h) (by assumption) (PP.refl _) (by decide +kernel) (fun w H => ?_)
    refine OQ.ex rfl (fun w H => (Ex.move rfl)) rfl ?_
    refine OQ.ex rfl (fun w H => (Ex.move rfl)) rfl ?_
    refine OQ.ex rfl (fun w H => (Ex.idxRd h1 Try.runUnderlying37 Try.sizeOf3 rfl rfl)) rfl ?_
    refine OQ.ex rfl (fun w H => (Ex.loadRd (i := i) h1 Try.isAgg3 rfl)) rfl ?_
    refine OQ.ex rfl (fun w H => (Ex.move rfl)) rfl ?_
    refine OQ.ex rfl (fun w H => (Ex.move rfl)) rfl ?_
    refine OQ.ex rfl (fun w H => (Ex.idxRd h2 Try.runUnderlying37 Try.sizeOf3 rfl rfl)) rfl ?_
    refine OQ.ex rfl (fun w H => (Ex.loadRd (i := i) h2 Try.isAgg3 rfl)) rfl ?_
    refine OQ.ex rfl (fun w H => (Ex.neqI rfl rfl)) rfl ?_
    refine OQ.done ?_
    refine hK8 _ _ _ ?_
    refine W.known_f rfl (by first | rfl | decide | exact decide_eq_false (fun hh => hh rfl)) ?_
    refine W.skip ?_
    refine hK7 _ _ _ ?_
    refine W.region ?_
    refine O.ex (Ex.move rfl) rfl ?_
    refine O.ex (by first | exact Ex.addI rfl rfl | exact Ex.add rfl rfl rfl) rfl ?_
    refine O.ex (Ex.assign rfl) rfl ?_
    refine O.nil ?_
    exact ⟨i + 1, ⟨rfl, rfl, rfl, trivial⟩, ⟨rfl, by omega, Holds.to (by assumption)⟩, by omega⟩
  · refine W.exit ?_
    refine hK3 _ _ _ ?_
    refine W.seq (fun K9 hK9 => ?_)
    refine W.region ?_
    refine O.ex (Ex.assign rfl) rfl ?_
    refine O.nil ?_
    refine hK9 _ _ _ ?_
    refine W.ret ?_
    try dsimp only [thenQ, blockQ, retQ]
    first | refine ⟨_, ⟨_, _, rfl, rfl, rfl⟩, ?_⟩ | (refine retD_mark ?_; intro w H; refine ⟨_, ⟨_, _, rfl, rfl, rfl⟩, ?_⟩) | (refine retD_mark2 ?_; intro w H; refine ⟨_, ⟨_, _, rfl, rfl, rfl⟩, ?_⟩)
    exact ⟨rfl, by first | assumption | exact Holds.to (by assumption)⟩
set_option maxHeartbeats 4000000 in
theorem walkCuts_ct {w0 : World} {q f : Int} {lv av : Value} {l : List Chg} {as1 : List Int} (hq : (Lit.int .u8 q).wf = true) (hx : SlIn w0 6 Chg.enc lv l) (hl : l.length ≤ 9223372036854775807) (hf : (Lit.int .u8 f).wf = true)
    (ha : SlIn w0 1 (fun s : Int => [.int .u8 s]) av as1) (hab : ∀ x ∈ as1, (Lit.int .u8 x).wf = true) :
    CT Try.prog 11 [.int .u8 q, lv, .int .u8 f, av] w0 fun x w' => x = .bool true ∧ RowKit.Below w0.heap.size w0 w' := by
  obtain ⟨q0, q1⟩ := bounds_u8 hq
  obtain ⟨f0, f1⟩ := bounds_u8 hf
  have H := Holds.base_refl w0
  refine CT.enter (N := 131) Try.func11 rfl rfl rfl rfl ?_
  refine W.seq (fun K0 hK0 => ?_)
  refine W.region ?_
  refine O.ex (Ex.assign rfl) rfl ?_
  refine O.nil ?_
  refine hK0 _ _ _ ?_
  refine W.seq (fun K1 hK1 => ?_)
  refine W.seq (fun K2 hK2 => ?_)
  refine W.region ?_
  refine O.callF Try.call39 rfl rfl (CT.mono (awake09_ct (Holds.to (by assumption))) ?_)
  rintro _ w ⟨rfl, H⟩
  refine O.ex (by first | exact Ex.notD rfl | exact Ex.not rfl) rfl ?_
  refine O.nil ?_
  refine hK2 _ _ _ ?_
  refine W.known_f rfl (by first | rfl | decide | exact decide_eq_false (fun hh => hh hvc) | exact decide_eq_false (fun hh => hh hzl) | exact decide_eq_false (fun hh => hh hvi) | exact decide_eq_false (fun hh => hh hki) | exact decide_eq_false (fun hh => hh (hk8 hN))) ?_
  refine W.skip ?_
  refine hK1 _ _ _ ?_
  refine W.seq (fun K3 hK3 => ?_)
  refine W.region ?_
  refine O.ex (Ex.move rfl) rfl ?_
  refine O.ex (Ex.move rfl) rfl ?_
  refine O.callF Try.call18 rfl rfl (CT.mono (made08_ct hq hx hl (Holds.to (M := base w0 :: _) (by assumption))) ?_)
  rintro _ w ⟨g, r, hg, rfl, H⟩
  refine O.ex (Ex.move rfl) rfl ?_
  refine O.ex (Ex.extract rfl rfl) rfl ?_
  refine O.ex (Ex.extract rfl rfl) rfl ?_
  refine O.ex (Ex.assign rfl) rfl ?_
  refine O.ex (Ex.assign rfl) rfl ?_
  refine O.nil ?_
  refine hK3 _ _ _ ?_
  refine W.seq (fun K4 hK4 => ?_)
  refine W.seq (fun K5 hK5 => ?_)
  refine W.region ?_
  refine O.ex (Ex.move rfl) rfl ?_
  refine O.ex (Ex.nilEq Try.runUnderlying24 rfl rfl) rfl ?_
  refine O.nil ?_
  refine hK5 _ _ _ ?_
  refine W.known_f rfl (by first | rfl | decide | exact decide_eq_false (fun hh => hh hvc) | exact decide_eq_false (fun hh => hh hzl) | exact decide_eq_false (fun hh => hh hvi) | exact decide_eq_false (fun hh => hh hki) | exact decide_eq_false (fun hh => hh (hk8 hN))) ?_
  refine W.skip ?_
  refine hK4 _ _ _ ?_
  refine W.seq (fun K6 hK6 => ?_)
  refine W.seq (fun K7 hK7 => ?_)
  refine W.region ?_
  refine O.ex (Ex.move rfl) rfl ?_
  refine O.ex (by first | exact Ex.lenR Try.runUnderlying75 rfl | exact Ex.lenIn Try.runUnderlying75 rfl | exact Ex.lenL Try.runUnderlying75 rfl | exact Ex.len rfl Try.runUnderlying75 rfl) rfl ?_
  refine O.ex (Ex.gtr rfl rfl) rfl ?_
  refine O.nil ?_
  refine hK7 _ _ _ ?_
  first | refine W.cond_p rfl (fun hA => ?_) (fun hB => ?_) | refine W.cond_b rfl (fun hA => ?_) (fun hB => ?_)
  · refine W.seq (fun K8 hK8 => ?_)
    refine W.region ?_
    refine O.ex (Ex.assign rfl) rfl ?_
    refine O.nil ?_
    refine hK8 _ _ _ ?_
    refine W.ret ?_
    try dsimp only [thenQ, blockQ, retQ]
    first | refine ⟨_, ⟨_, _, rfl, rfl, rfl⟩, ?_⟩ | (refine retD_mark ?_; intro w H; refine ⟨_, ⟨_, _, rfl, rfl, rfl⟩, ?_⟩) | (refine retD_mark2 ?_; intro w H; refine ⟨_, ⟨_, _, rfl, rfl, rfl⟩, ?_⟩)
    exact ⟨rfl, Holds.base_below (L := []) (Holds.to (by assumption))⟩
  · refine W.skip ?_
    refine hK6 _ _ _ ?_
    refine W.seq (fun K9 hK9 => ?_)
    refine W.region ?_
    obtain ⟨n, hn⟩ : ∃ n, n = 1 + q % 24 := ⟨_, rfl⟩
    rw [← hn] at hg H
    have n1 : 1 ≤ n := by omega
    obtain ⟨s, hs⟩ : ∃ s, s = doAll n 64 noS (l.take 150) := ⟨_, rfl⟩
    rw [← hs] at hg H
    have hv : vxW n (f % n) := ⟨Int.emod_nonneg _ (by omega), Int.emod_lt_of_pos _ (by omega)⟩
    refine O.ex (Ex.move rfl) rfl ?_
    refine O.ex (by first | exact Ex.convToI Try.runUnderlying5 Try.runUnderlying3 rfl | exact Ex.convW Try.runUnderlying5 Try.runUnderlying3 rfl) rfl ?_
    refine O.ex (Ex.move rfl) rfl ?_
    refine O.ex (by first | exact Ex.nilPtr rfl | exact Ex.nilFunc rfl | exact Ex.nilYield rfl) rfl ?_
    refine O.ex (by first | exact Ex.field0 fld54_0 rfl | exact Ex.field fld54_0 rfl | exact Ex.fieldS fld54_0 rfl | exact Ex.fieldIn fld54_0 rfl) rfl ?_
    refine O.ex (by first | exact Ex.loadRN Try.isAgg3 rfl | exact Ex.loadMh Try.isAgg3 rfl | exact Ex.loadInF Try.isAgg3 rfl (Holds.to (by assumption)) | exact Ex.loadP Try.isAgg3 rfl | exact Ex.loadM Try.isAgg3 rfl | exact Ex.loadIn1 Try.isAgg3 rfl (Holds.to (by assumption)) | exact Ex.loadVc Try.isAgg3 rfl | exact Ex.loadR Try.isAgg3 rfl | exact Ex.loadQ Try.isAgg3 rfl) rfl ?_
    refine O.ex (by first | exact Ex.remI rfl rfl | exact Ex.rem rfl rfl (by omega) rfl) rfl ?_
    refine O.ex (Ex.assign rfl) rfl ?_
    refine O.nil ?_
    refine hK9 _ _ _ ?_
    refine W.seq (fun K10 hK10 => ?_)
    refine W.region ?_
    refine O.ex (Ex.move rfl) rfl ?_
    refine O.ex (Ex.move rfl) rfl ?_
    refine O.ex (Ex.move rfl) rfl ?_
    refine O.callF Try.call49 rfl rfl (CT.mono (led_ct (r := r) hg ha hab (by omega) (Holds.to (by assumption))) ?_)
    rintro _ w ⟨x, xs, rfl, hx1, hxl, hc1, H⟩
    refine O.ex (Ex.move rfl) rfl ?_
    refine O.ex (Ex.extract rfl rfl) rfl ?_
    refine O.ex (Ex.extract rfl rfl) rfl ?_
    refine O.ex (Ex.assign rfl) rfl ?_
    refine O.ex (Ex.assign rfl) rfl ?_
    refine O.nil ?_
    refine hK10 _ _ _ ?_
    refine W.seq (fun K11 hK11 => ?_)
    refine W.region ?_
    have hvc := (vgood hv hc1).1
    have hgd := wgood_all hg hc1
    refine O.ex (Ex.move rfl) rfl ?_
    refine O.ex (Ex.move rfl) rfl ?_
    refine O.ex (Ex.move rfl) rfl ?_
    refine O.callF Try.call44 rfl rfl (CT.mono (wvisits_ct (g := g) (S := arr 3 (Value.int .i64) x xs) hg Rd.ofArr (by omega) (Holds.to (by assumption))) ?_)
    rintro _ w ⟨y, rfl, hy1, H⟩
    refine O.ex (Ex.move rfl) rfl ?_
    refine O.ex (Ex.extract rfl rfl) rfl ?_
    refine O.ex (Ex.extract rfl rfl) rfl ?_
    refine O.ex (Ex.assign rfl) rfl ?_
    refine O.ex (Ex.assign rfl) rfl ?_
    refine O.nil ?_
    refine hK11 _ _ _ ?_
    refine W.seq (fun K12 hK12 => ?_)
    refine W.seq (fun K13 hK13 => ?_)
    refine W.region ?_
    obtain ⟨zs, hzs⟩ : ∃ zs, zs = vlist n s (f % n) xs := ⟨_, rfl⟩
    have hz2 : zs = (wrun s (f % n) xs).1 := hzs.trans (vlist_ok hvc)
    rw [← hzs] at H
    have hzn : zs.length = xs.length + 1 := by rw [hz2]; exact hgd.len
    have hzl : ((zs.length : Nat) : Int) = ((xs.length : Nat) : Int) + 1 := by omega
    refine O.ex (Ex.move rfl) rfl ?_
    refine O.ex (Ex.neqI rfl rfl) rfl ?_
    refine O.ex (Ex.move rfl) rfl ?_
    refine O.known (t := 56) (c := false) rfl (by first | rfl | decide | exact decide_eq_false (fun hh => hh hvc) | exact decide_eq_false (fun hh => hh hzl) | exact decide_eq_false (fun hh => hh hvi) | exact decide_eq_false (fun hh => hh hki) | exact decide_eq_false (fun hh => hh (hk8 hN))) ?_
    refine O.guard_t rfl rfl ?_
    refine O.ex (Ex.move rfl) rfl ?_
    refine O.guard_t rfl rfl ?_
    refine O.ex (by first | exact Ex.lenR Try.runUnderlying37 rfl | exact Ex.lenIn Try.runUnderlying37 rfl | exact Ex.lenL Try.runUnderlying37 rfl | exact Ex.len rfl Try.runUnderlying37 rfl) rfl ?_
    refine O.guard_t rfl rfl ?_
    refine O.ex (Ex.move rfl) rfl ?_
    refine O.guard_t rfl rfl ?_
    refine O.ex (by first | exact Ex.lenR Try.runUnderlying37 rfl | exact Ex.lenIn Try.runUnderlying37 rfl | exact Ex.lenL Try.runUnderlying37 rfl | exact Ex.len rfl Try.runUnderlying37 rfl) rfl ?_
    refine O.guard_t rfl rfl ?_
    refine O.ex (by first | exact Ex.addI rfl rfl | exact Ex.add rfl rfl rfl) rfl ?_
    refine O.guard_t rfl rfl ?_
    refine O.ex (Ex.neqI rfl rfl) rfl ?_
    refine O.ex (Ex.pick_f rfl rfl) rfl ?_
    refine O.nil ?_
    refine hK13 _ _ _ ?_
    refine W.known_f rfl (by first | rfl | decide | exact decide_eq_false (fun hh => hh hvc) | exact decide_eq_false (fun hh => hh hzl) | exact decide_eq_false (fun hh => hh hvi) | exact decide_eq_false (fun hh => hh hki) | exact decide_eq_false (fun hh => hh (hk8 hN))) ?_
    refine W.skip ?_
    refine hK12 _ _ _ ?_
    refine W.seq (fun K14 hK14 => ?_)
    refine W.seq (fun K15 hK15 => ?_)
    refine W.region ?_
    refine O.ex (Ex.assign rfl) rfl ?_
    refine O.nil ?_
    refine hK15 _ _ _ ?_
    refine W.block ?_
    refine W.loop (σ := Nat) (fun i => [(9, .pointer (some ⟨g, 0, none⟩)), (10, .pointer (some ⟨r, 0, none⟩)), (11, .int .i64 (f % n)), (12, x), (14, y), (16, .int .i64 (i : Int))]) (fun i ds w => ds = [] ∧ i ≤ xs.length + 1 ∧ Holds w (arr 3 (Value.int .i64) x xs :: arr 3 (Value.int .i64) y zs :: Gh g n 64 s :: Rg r n 64 s :: base w0 :: [])) (fun i => xs.length + 1 - i) 0 ⟨rfl, rfl, rfl, rfl, rfl, rfl, trivial⟩ ⟨rfl, by omega, Holds.to (by assumption)⟩ ?_
    clear H
    rintro i _ w ⟨rfl, hi, H⟩
    refine W.seq (fun K16 hK16 => ?_)
    refine W.seq (fun K17 hK17 => ?_)
    refine W.region ?_
    refine O.ex (Ex.move rfl) rfl ?_
    refine O.ex (Ex.move rfl) rfl ?_
    refine O.ex (by first | exact Ex.lenR Try.runUnderlying37 rfl | exact Ex.lenIn Try.runUnderlying37 rfl | exact Ex.lenL Try.runUnderlying37 rfl | exact Ex.len rfl Try.runUnderlying37 rfl) rfl ?_
    refine O.ex (Ex.leq rfl rfl) rfl ?_
    refine O.nil ?_
    refine hK17 _ _ _ ?_
    first | refine W.cond_p rfl (fun hlt => ?_) (fun hge => ?_) | refine W.cond_b rfl (fun hlt => ?_) (fun hge => ?_)
    · refine W.skip ?_
      refine hK16 _ _ _ ?_
      refine W.seq (fun K18 hK18 => ?_)
      refine W.block ?_
      refine W.seq (fun K19 hK19 => ?_)
      refine W.region ?_
      have hil : i ≤ xs.length := by omega
      have hi0 : (0 : Int) ≤ (i : Int) := by omega
      have hil' : (i : Int) ≤ ((xs.length : Nat) : Int) := by omega
      have hci := wrun_ok (s := s) (v := f % n) (l := xs) i hc1
      obtain ⟨hvi, hvl⟩ := vgood (n := n) hv hci
      have hgi := wrun_good hg (v := f % n) (l := xs) i hil hci
      have hzi : zs.getD i default = (wrun s (f % n) (xs.take i)).2.1 := by
        rw [← hgi.last, wrun_pre hg hil hc1, hz2, List.getD_eq_getElem?_getD, List.getD_eq_getElem?_getD, List.getElem?_take_of_lt (by omega)]; rfl
      have hri := end_rng hg hv hci
      have hki : ccode n s (f % n) (zs.getD i default) (xs.take i) = 0 := by rw [hzi]; exact ccode_ok hg hv hci
      have hrz : 0 ≤ zs.getD i default := by rw [hzi]; exact hri.1
      have hoth : vxW n ((zs.getD i default + 1) % n) := ⟨Int.emod_nonneg _ (by omega), Int.emod_lt_of_pos _ (by omega)⟩
      have hk8 : ((zs.getD i default + 1) % n ≠ zs.getD i default) → ccode n s (f % n) ((zs.getD i default + 1) % n) (xs.take i) = 8 := fun hne => ccode_else hv hoth hci (by rw [← hzi]; exact hne)
      have htl : (xs.take i).length ≤ 200 := by rw [List.length_take]; omega
      have hvz : vlist n s (f % n) (xs.take i) = zs.take (i + 1) := by rw [hvl, wrun_pre hg hil hc1, hz2]
      refine O.ex (Ex.move rfl) rfl ?_
      refine O.ex (Ex.move rfl) rfl ?_
      refine O.ex (Ex.move rfl) rfl ?_
      refine O.ex (Ex.move rfl) rfl ?_
      refine O.ex (Ex.sliceHi (xs := xs) (e := Value.int .i64) (i := (i : Int)) Try.runUnderlying37 Try.sizeOf3 rfl rfl) rfl ?_
      refine O.callF Try.call44 rfl rfl (CT.mono (wvisits_ct (g := g) (S := arr 3 (Value.int .i64) x xs) (iv := hiV x i) (xs := xs.take i) hg (Rd.hi hil) htl (Holds.to (by assumption))) ?_)
      rintro _ w ⟨z, rfl, hz1, H⟩
      rw [hvz] at H
      refine O.ex (Ex.move rfl) rfl ?_
      refine O.ex (Ex.extract rfl rfl) rfl ?_
      refine O.ex (Ex.extract rfl rfl) rfl ?_
      refine O.ex (Ex.assign rfl) rfl ?_
      refine O.ex (Ex.assign rfl) rfl ?_
      refine O.nil ?_
      refine hK19 _ _ _ ?_
      refine W.seq (fun K20 hK20 => ?_)
      have hizl : (i : Int) < ((zs.length : Nat) : Int) := by omega
      have hr1 : 0 ≤ zs.getD ((i : Nat) : Int).toNat default + 1 := by show 0 ≤ zs.getD i default + 1; omega
      have hr2 : zs.getD ((i : Nat) : Int).toNat default + 1 ≤ 100 := by
        show zs.getD i default + 1 ≤ 100
        have := hg.n2
        have := hri.2
        omega
      refine W.drawTo _ (.take 0 (.take 1 (.take 2 (.take 3 (.take 4 (.take 5 (.take 6 (.take 7 (.take 8 (.take 9 (.take 10 .nil))))))))))) (mixed) (fun _ _ _ _ h => h) (by assumption) (PP.refl _) (by decide +kernel) (fun w H => ?_)
      refine OQ.ex rfl (fun w H => (Ex.move rfl)) rfl ?_
      refine OQ.ex rfl (fun w H => (Ex.move rfl)) rfl ?_
      refine OQ.ex rfl (fun w H => (by first | exact Ex.idxR Try.runUnderlying37 Try.sizeOf3 rfl rfl | exact Ex.idxIn Try.runUnderlying37 Try.sizeOf3 rfl rfl | exact Ex.idxS Try.runUnderlying37 Try.sizeOf3 rfl rfl | exact Ex.idx Try.runUnderlying37 Try.sizeOf3 rfl rfl (by omega) (by omega))) rfl ?_
      refine OQ.ex rfl (fun w H => (by first | exact Ex.loadRN Try.isAgg3 rfl | exact Ex.loadR Try.isAgg3 rfl | exact Ex.loadIn1 Try.isAgg3 rfl (Holds.to (by assumption)) | exact Ex.loadInF Try.isAgg3 rfl (Holds.to (by assumption)) | exact Ex.loadP Try.isAgg3 rfl | exact Ex.loadMh Try.isAgg3 rfl | exact Ex.loadM Try.isAgg3 rfl | exact Ex.loadVc Try.isAgg3 rfl | exact Ex.loadQ Try.isAgg3 rfl)) rfl ?_
      refine OQ.ex rfl (fun w H => (by first | exact Ex.addI rfl rfl | exact Ex.add rfl rfl rfl)) rfl ?_
      refine OQ.ex rfl (fun w H => (Ex.move rfl)) rfl ?_
      refine OQ.ex rfl (fun w H => (by first | exact Ex.nilPtr rfl | exact Ex.nilFunc rfl | exact Ex.nilYield rfl)) rfl ?_
      refine OQ.ex rfl (fun w H => (by first | exact Ex.field0 fld54_0 rfl | exact Ex.field fld54_0 rfl | exact Ex.fieldS fld54_0 rfl | exact Ex.fieldIn fld54_0 rfl)) rfl ?_
      refine OQ.ex rfl (fun w H => (by first | exact Ex.loadRN Try.isAgg3 rfl | exact Ex.loadMh Try.isAgg3 rfl | exact Ex.loadInF Try.isAgg3 rfl (Holds.to (by assumption)) | exact Ex.loadP Try.isAgg3 rfl | exact Ex.loadM Try.isAgg3 rfl | exact Ex.loadIn1 Try.isAgg3 rfl (Holds.to (by assumption)) | exact Ex.loadVc Try.isAgg3 rfl | exact Ex.loadR Try.isAgg3 rfl | exact Ex.loadQ Try.isAgg3 rfl)) rfl ?_
      refine OQ.ex rfl (fun w H => (by first | exact Ex.remI rfl rfl | exact Ex.rem rfl rfl (by omega) rfl)) rfl ?_
      refine OQ.ex rfl (fun w H => (Ex.assign rfl)) rfl ?_
      refine OQ.done ?_
      refine hK20 _ _ _ ?_
      refine W.seq (fun K21 hK21 => ?_)
      have hiz1 : (i : Int) + 1 ≤ ((zs.length : Nat) : Int) := by omega
      have hi10 : (0 : Int) ≤ (i : Int) + 1 := by omega
      refine W.drawTo (arr 3 (Value.int .i64) x xs :: arr 3 (Value.int .i64) y zs :: []) (.take 0 (.take 1 (.take 2 (.take 3 (.take 4 (.take 5 (.take 6 (.take 7 (.one 8 (.take 9 (.take 10 (.take 11 (.take 12 (.take 13 (.take 14 (.take 15 (.take 16 (.take 17 (.take 18 (.take 19 (.take 20 (.one 21 (.take 22 (.take 23 (.take 24 (.take 25 (.take 26 (.take 27 (.take 28 (.take 29 (.take 30 (.take 31 (.take 32 (.take 33 (.take 34 (.take 35 (.take 36 (.take 37 (.one 38 (.take 39 (.take 40 (.take 41 .nil)))))))))))))))))))))))))))))))))))))))))) (mixed) (fun _ _ _ _ h => h) (by assumption) PP.auto (by decide +kernel) (fun w H => ?_)
      refine OQ.ex rfl (fun w H => (Ex.move rfl)) rfl ?_
      refine OQ.ex rfl (fun w H => (Ex.neqI rfl rfl)) rfl ?_
      refine OQ.ex rfl (fun w H => (Ex.move rfl)) rfl ?_
      refine OQ.known (t := 91) (c := false) rfl (by first | rfl | decide | exact decide_eq_false (fun hh => hh hvc) | exact decide_eq_false (fun hh => hh hzl) | exact decide_eq_false (fun hh => hh hvi) | exact decide_eq_false (fun hh => hh hki) | exact decide_eq_false (fun hh => hh (hk8 hN))) ?_
      refine OQ.exT rfl rfl rfl (fun w H => (Ex.move rfl)) rfl ?_
      refine OQ.exT rfl rfl rfl (fun w H => (Ex.move rfl)) rfl ?_
      refine OQ.exT rfl rfl rfl (fun w H => (Ex.move rfl)) rfl ?_
      refine OQ.exT rfl rfl rfl (fun w H => (by first | exact Ex.addI rfl rfl | exact Ex.add rfl rfl rfl)) rfl ?_
      refine OQ.exT rfl rfl rfl (fun w H => (Ex.sliceHi (xs := zs) (e := Value.int .i64) (i := (i : Int) + 1) Try.runUnderlying37 Try.sizeOf3 rfl rfl)) rfl ?_
      refine OQ.step rfl ?_
      refine O.guard_t rfl rfl ?_
      refine O.callF Try.call46 rfl rfl (CT.mono (rints_ct (va := z) (vb := hiV y (i + 1)) (xs := zs.take (i + 1)) (S1 := arr 3 (Value.int .i64) z (zs.take (i + 1))) (S2 := arr 3 (Value.int .i64) y zs) Rd.ofArr (Rd.hi (by omega)) (by rw [List.length_take]; omega) (Holds.to (by assumption))) ?_)
      rintro _ w ⟨rfl, H⟩
      refine O.thenNil ⟨(by first | exact Holds.to (by assumption) | assumption), ?_⟩
      refine OQ.exT rfl rfl rfl (fun w H => (by first | exact Ex.notD rfl | exact Ex.not rfl)) rfl ?_
      refine OQ.ex rfl (fun w H => (Ex.pick_f rfl rfl)) rfl ?_
      refine OQ.ex rfl (fun w H => (Ex.move rfl)) rfl ?_
      refine OQ.known (t := 100) (c := false) rfl (by first | rfl | decide | exact decide_eq_false (fun hh => hh hvc) | exact decide_eq_false (fun hh => hh hzl) | exact decide_eq_false (fun hh => hh hvi) | exact decide_eq_false (fun hh => hh hki) | exact decide_eq_false (fun hh => hh (hk8 hN))) ?_
      refine OQ.exT rfl rfl rfl (fun w H => (Ex.move rfl)) rfl ?_
      refine OQ.exT rfl rfl rfl (fun w H => (Ex.move rfl)) rfl ?_
      refine OQ.exT rfl rfl rfl (fun w H => (Ex.move rfl)) rfl ?_
      refine OQ.exT rfl rfl rfl (fun w H => (Ex.move rfl)) rfl ?_
      refine OQ.exT rfl rfl rfl (fun w H => (by first | exact Ex.idxR Try.runUnderlying37 Try.sizeOf3 rfl rfl | exact Ex.idxIn Try.runUnderlying37 Try.sizeOf3 rfl rfl | exact Ex.idxS Try.runUnderlying37 Try.sizeOf3 rfl rfl | exact Ex.idx Try.runUnderlying37 Try.sizeOf3 rfl rfl (by omega) (by omega))) rfl ?_
      refine OQ.exT rfl rfl rfl (fun w H => (by first | exact Ex.loadRN Try.isAgg3 rfl | exact Ex.loadR Try.isAgg3 rfl | exact Ex.loadIn1 Try.isAgg3 rfl (Holds.to (by assumption)) | exact Ex.loadInF Try.isAgg3 rfl (Holds.to (by assumption)) | exact Ex.loadP Try.isAgg3 rfl | exact Ex.loadMh Try.isAgg3 rfl | exact Ex.loadM Try.isAgg3 rfl | exact Ex.loadVc Try.isAgg3 rfl | exact Ex.loadQ Try.isAgg3 rfl)) rfl ?_
      refine OQ.exT rfl rfl rfl (fun w H => (Ex.move rfl)) rfl ?_
      refine OQ.exT rfl rfl rfl (fun w H => (Ex.move rfl)) rfl ?_
      refine OQ.exT rfl rfl rfl (fun w H => (Ex.sliceHi (xs := xs) (e := Value.int .i64) (i := (i : Int)) Try.runUnderlying37 Try.sizeOf3 rfl rfl)) rfl ?_
      refine OQ.step rfl ?_
      refine O.guard_t rfl rfl ?_
      refine O.callF Try.call40 rfl rfl (CT.mono (wcheck_ct (g := g) (S := arr 3 (Value.int .i64) x xs) (iv := hiV x i) (xs := xs.take i) hg (Rd.hi hil) htl (Holds.to (by assumption))) ?_)
      rintro _ w ⟨rfl, H⟩
      refine O.thenNil ⟨(by first | exact Holds.to (by assumption) | assumption), ?_⟩
      refine OQ.exT rfl rfl rfl (fun w H => (Ex.neqI rfl rfl)) rfl ?_
      refine OQ.ex rfl (fun w H => (Ex.pick_f rfl rfl)) rfl ?_
      refine OQ.ex rfl (fun w H => (Ex.move rfl)) rfl ?_
      refine OQ.known (t := 113) (c := false) rfl (by first | rfl | decide | exact decide_eq_false (fun hh => hh hvc) | exact decide_eq_false (fun hh => hh hzl) | exact decide_eq_false (fun hh => hh hvi) | exact decide_eq_false (fun hh => hh hki) | exact decide_eq_false (fun hh => hh (hk8 hN))) ?_
      refine OQ.exT rfl rfl rfl (fun w H => (Ex.move rfl)) rfl ?_
      refine OQ.exT rfl rfl rfl (fun w H => (Ex.move rfl)) rfl ?_
      refine OQ.exT rfl rfl rfl (fun w H => (Ex.move rfl)) rfl ?_
      refine OQ.exT rfl rfl rfl (fun w H => (by first | exact Ex.idxR Try.runUnderlying37 Try.sizeOf3 rfl rfl | exact Ex.idxIn Try.runUnderlying37 Try.sizeOf3 rfl rfl | exact Ex.idxS Try.runUnderlying37 Try.sizeOf3 rfl rfl | exact Ex.idx Try.runUnderlying37 Try.sizeOf3 rfl rfl (by omega) (by omega))) rfl ?_
      refine OQ.exT rfl rfl rfl (fun w H => (by first | exact Ex.loadRN Try.isAgg3 rfl | exact Ex.loadR Try.isAgg3 rfl | exact Ex.loadIn1 Try.isAgg3 rfl (Holds.to (by assumption)) | exact Ex.loadInF Try.isAgg3 rfl (Holds.to (by assumption)) | exact Ex.loadP Try.isAgg3 rfl | exact Ex.loadMh Try.isAgg3 rfl | exact Ex.loadM Try.isAgg3 rfl | exact Ex.loadVc Try.isAgg3 rfl | exact Ex.loadQ Try.isAgg3 rfl)) rfl ?_
      refine OQ.exT rfl rfl rfl (fun w H => (Ex.neqI rfl rfl)) rfl ?_
      refine OQ.exT rfl rfl rfl (fun w H => (Ex.move rfl)) rfl ?_
      first | refine OQ.split_p (t := 120) rfl (fun hN => ?_) (fun hM => ?_) | refine OQ.split (t := 120) rfl (fun hN => ?_) (fun hM => ?_)
      · refine OQ.exT rfl rfl rfl (fun w H => (Ex.move rfl)) rfl ?_
        refine OQ.exT rfl rfl rfl (fun w H => (Ex.move rfl)) rfl ?_
        refine OQ.exT rfl rfl rfl (fun w H => (Ex.move rfl)) rfl ?_
        refine OQ.exT rfl rfl rfl (fun w H => (Ex.move rfl)) rfl ?_
        refine OQ.exT rfl rfl rfl (fun w H => (Ex.move rfl)) rfl ?_
        refine OQ.exT rfl rfl rfl (fun w H => (Ex.sliceHi (xs := xs) (e := Value.int .i64) (i := (i : Int)) Try.runUnderlying37 Try.sizeOf3 rfl rfl)) rfl ?_
        refine OQ.step rfl ?_
        refine O.guard_t rfl rfl ?_
        refine O.callF Try.call40 rfl rfl (CT.mono (wcheck_ct (g := g) (S := arr 3 (Value.int .i64) x xs) (iv := hiV x i) (xs := xs.take i) hg (Rd.hi hil) htl (Holds.to (by assumption))) ?_)
        rintro _ w ⟨rfl, H⟩
        refine O.thenNil ⟨(by first | exact Holds.to (by assumption) | assumption), ?_⟩
        refine OQ.exT rfl rfl rfl (fun w H => (Ex.neqI rfl rfl)) rfl ?_
        refine OQ.exT rfl rfl rfl (fun w H => (Ex.pick_t rfl rfl)) rfl ?_
        refine OQ.ex rfl (fun w H => (Ex.pick_f rfl rfl)) rfl ?_
        refine OQ.done ?_
        refine hK21 _ _ _ ?_
        refine W.known_f rfl (by first | rfl | decide | exact decide_eq_false (fun hh => hh hvc) | exact decide_eq_false (fun hh => hh hzl) | exact decide_eq_false (fun hh => hh hvi) | exact decide_eq_false (fun hh => hh hki) | exact decide_eq_false (fun hh => hh (hk8 hN))) ?_
        refine W.skip ?_
        refine hK18 _ _ _ ?_
        refine W.region ?_
        refine O.ex (Ex.move rfl) rfl ?_
        refine O.ex (by first | exact Ex.addI rfl rfl | exact Ex.add rfl rfl rfl) rfl ?_
        refine O.ex (Ex.assign rfl) rfl ?_
        refine O.nil ?_
        exact ⟨i + 1, ⟨rfl, rfl, rfl, rfl, rfl, rfl, trivial⟩, ⟨rfl, by omega, Holds.to (by assumption)⟩, by omega⟩
      · refine OQ.exF rfl rfl rfl rfl rfl ?_
        refine OQ.exF rfl rfl rfl rfl rfl ?_
        refine OQ.exF rfl rfl rfl rfl rfl ?_
        refine OQ.exF rfl rfl rfl rfl rfl ?_
        refine OQ.exF rfl rfl rfl rfl rfl ?_
        refine OQ.exF rfl rfl rfl rfl rfl ?_
        refine OQ.step rfl ?_
        refine O.guard_f rfl rfl rfl rfl ?_
        refine O.thenNil ⟨(by first | exact Holds.to (by assumption) | assumption), ?_⟩
        refine OQ.exF rfl rfl rfl rfl rfl ?_
        refine OQ.exT rfl rfl rfl (fun w H => (Ex.pick_f rfl rfl)) rfl ?_
        refine OQ.ex rfl (fun w H => (Ex.pick_f rfl rfl)) rfl ?_
        refine OQ.done ?_
        refine hK21 _ _ _ ?_
        refine W.cond_f rfl ?_
        refine W.skip ?_
        refine hK18 _ _ _ ?_
        refine W.region ?_
        refine O.ex (Ex.move rfl) rfl ?_
        refine O.ex (by first | exact Ex.addI rfl rfl | exact Ex.add rfl rfl rfl) rfl ?_
        refine O.ex (Ex.assign rfl) rfl ?_
        refine O.nil ?_
        exact ⟨i + 1, ⟨rfl, rfl, rfl, rfl, rfl, rfl, trivial⟩, ⟨rfl, by omega, Holds.to (by assumption)⟩, by omega⟩
    · refine W.exit ?_
      refine hK14 _ _ _ ?_
      refine W.seq (fun K22 hK22 => ?_)
      refine W.region ?_
      refine O.ex (Ex.assign rfl) rfl ?_
      refine O.nil ?_
      refine hK22 _ _ _ ?_
      refine W.ret ?_
      try dsimp only [thenQ, blockQ, retQ]
      first | refine ⟨_, ⟨_, _, rfl, rfl, rfl⟩, ?_⟩ | (refine retD_mark ?_; intro w H; refine ⟨_, ⟨_, _, rfl, rfl, rfl⟩, ?_⟩) | (refine retD_mark2 ?_; intro w H; refine ⟨_, ⟨_, _, rfl, rfl, rfl⟩, ?_⟩)
      exact ⟨rfl, Holds.base_below (L := []) (Holds.to (by assumption))⟩
theorem walkCuts_row {w0 : World} {q f : Int} {lv av : Value} {l : List Chg} {as1 : List Int} (hq : (Lit.int .u8 q).wf = true) (hx : SlIn w0 6 Chg.enc lv l) (hg : ∀ x ∈ l, x.ok) (hl : l.length ≤ maxLen) (hf : (Lit.int .u8 f).wf = true)
    (ha : SlIn w0 1 (fun s : Int => [.int .u8 s]) av as1) (hab : ∀ x ∈ as1, (Lit.int .u8 x).wf = true) (hal : as1.length ≤ maxLen) :
    CT Try.prog 11 [.int .u8 q, lv, .int .u8 f, av] w0 fun x w' => x = .bool true ∧ RowKit.Below w0.heap.size w0 w' :=
  walkCuts_ct hq hx (by unfold maxLen at hl; omega) hf ha hab
end Go.Proofs.Ytakmbbgnnbpkoaa
