import Derived.Test.YtakmbbgnnbpkoaaLed
--ARR
--INF
--DEEP
--LOADS loadRN
namespace Go.Proofs.Ytakmbbgnnbpkoaa
open Go.Rr Go Gr
set_option linter.unusedVariables false
set_option maxHeartbeats 4000000 in
theorem walkBreaks_ct {w0 : World} {q f k : Int} {gone : Bool} {lv av : Value} {l : List Chg} {as1 : List Int} (hq : (Lit.int .u8 q).wf = true) (hx : SlIn w0 6 Chg.enc lv l) (hl : l.length ≤ 9223372036854775807) (hf : (Lit.int .u8 f).wf = true)
    (ha : SlIn w0 1 (fun s : Int => [.int .u8 s]) av as1) (hab : ∀ x ∈ as1, (Lit.int .u8 x).wf = true) (hk : (Lit.int .u8 k).wf = true) :
    CT Try.prog 12 [.int .u8 q, lv, .int .u8 f, av, .int .u8 k, .bool gone] w0 fun x w' => x = .bool true ∧ RowKit.Below w0.heap.size w0 w' := by
  obtain ⟨q0, q1⟩ := bounds_u8 hq
  obtain ⟨f0, f1⟩ := bounds_u8 hf
  obtain ⟨k0, k1⟩ := bounds_u8 hk
  have H := Holds.base_refl w0
  refine CT.enter (N := 111) Try.func12 rfl rfl rfl rfl ?_
  refine W.seq (fun K0 hK0 => ?_)
  refine W.region ?_
  refine O.ex (Ex.assign rfl) rfl ?_
  refine O.nil ?_
  refine hK0 _ _ _ ?_
  refine W.seq (fun K1 hK1 => ?_)
  refine W.seq (fun K2 hK2 => ?_)
  refine W.region ?_
  refine O.callF Try.call39 rfl rfl (CT.mono (awake09_ct (Holds.to (by assumption))) ?_)
  rintro _ w ⟨rfl, H⟩
  refine O.ex (by first | exact Ex.notD rfl | exact Ex.not rfl) rfl ?_
  refine O.nil ?_
  refine hK2 _ _ _ ?_
  refine W.known_f rfl (by first | exact decide_eq_true rfl | rfl | decide | exact decide_eq_true hg1 | exact decide_eq_true hg2 | exact decide_eq_true hs1 | exact decide_eq_true hs2 | exact decide_eq_true hs3) ?_
  refine W.skip ?_
  refine hK1 _ _ _ ?_
  refine W.seq (fun K3 hK3 => ?_)
  refine W.region ?_
  refine O.ex (Ex.move rfl) rfl ?_
  refine O.ex (Ex.move rfl) rfl ?_
  refine O.callF Try.call18 rfl rfl (CT.mono (made08_ct hq hx hl (Holds.to (M := base w0 :: _) (by assumption))) ?_)
  rintro _ w ⟨g, r, hg, rfl, H⟩
  refine O.ex (Ex.move rfl) rfl ?_
  refine O.ex (Ex.extract rfl rfl) rfl ?_
  refine O.ex (Ex.extract rfl rfl) rfl ?_
  refine O.ex (Ex.assign rfl) rfl ?_
  refine O.ex (Ex.assign rfl) rfl ?_
  refine O.nil ?_
  refine hK3 _ _ _ ?_
  refine W.seq (fun K4 hK4 => ?_)
  refine W.seq (fun K5 hK5 => ?_)
  refine W.region ?_
  refine O.ex (Ex.move rfl) rfl ?_
  refine O.ex (Ex.nilEq Try.runUnderlying24 rfl rfl) rfl ?_
  refine O.nil ?_
  refine hK5 _ _ _ ?_
  refine W.known_f rfl (by first | exact decide_eq_true rfl | rfl | decide | exact decide_eq_true hg1 | exact decide_eq_true hg2 | exact decide_eq_true hs1 | exact decide_eq_true hs2 | exact decide_eq_true hs3) ?_
  refine W.skip ?_
  refine hK4 _ _ _ ?_
  refine W.seq (fun K6 hK6 => ?_)
  refine W.seq (fun K7 hK7 => ?_)
  refine W.region ?_
  refine O.ex (Ex.move rfl) rfl ?_
  refine O.ex (by first | exact Ex.lenR Try.runUnderlying75 rfl | exact Ex.lenIn Try.runUnderlying75 rfl | exact Ex.lenL Try.runUnderlying75 rfl | exact Ex.len rfl Try.runUnderlying75 rfl) rfl ?_
  refine O.ex (Ex.gtr rfl rfl) rfl ?_
  refine O.nil ?_
  refine hK7 _ _ _ ?_
  first | refine W.cond_p rfl (fun hA => ?_) (fun hB => ?_) | refine W.cond_b rfl (fun hA => ?_) (fun hB => ?_)
  · refine W.seq (fun K8 hK8 => ?_)
    refine W.region ?_
    refine O.ex (Ex.assign rfl) rfl ?_
    refine O.nil ?_
    refine hK8 _ _ _ ?_
    refine W.ret ?_
    try dsimp only [thenQ, blockQ, retQ]
    first | refine ⟨_, ⟨_, _, rfl, rfl, rfl⟩, ?_⟩ | (refine retD_mark ?_; intro w H; refine ⟨_, ⟨_, _, rfl, rfl, rfl⟩, ?_⟩) | (refine retD_mark2 ?_; intro w H; refine ⟨_, ⟨_, _, rfl, rfl, rfl⟩, ?_⟩)
    refine ⟨?_, Holds.base_below (L := []) (Holds.to (by assumption))⟩
    first
    | rfl
    | exact congrArg Value.bool (decide_eq_true hg4)
    | exact congrArg Value.bool (decide_eq_true (fun hh => by rw [hs6] at hh; exact absurd hh.1 (by decide)))
    | exact congrArg Value.bool (decide_eq_true (ccode_ok (xs := []) hg hv rfl))
  · refine W.skip ?_
    refine hK6 _ _ _ ?_
    refine W.seq (fun K9 hK9 => ?_)
    refine W.region ?_
    obtain ⟨n, hn⟩ : ∃ n, n = 1 + q % 24 := ⟨_, rfl⟩
    rw [← hn] at hg H
    have n1 : 1 ≤ n := by omega
    obtain ⟨s, hs⟩ : ∃ s, s = doAll n 64 noS (l.take 150) := ⟨_, rfl⟩
    rw [← hs] at hg H
    have hv : vxW n (f % n) := ⟨Int.emod_nonneg _ (by omega), Int.emod_lt_of_pos _ (by omega)⟩
    refine O.ex (Ex.move rfl) rfl ?_
    refine O.ex (by first | exact Ex.convToI Try.runUnderlying5 Try.runUnderlying3 rfl | exact Ex.convW Try.runUnderlying5 Try.runUnderlying3 rfl) rfl ?_
    refine O.ex (Ex.move rfl) rfl ?_
    refine O.ex (by first | exact Ex.nilPtr rfl | exact Ex.nilFunc rfl | exact Ex.nilYield rfl) rfl ?_
    refine O.ex (by first | exact Ex.field0 fld54_0 rfl | exact Ex.field fld54_0 rfl | exact Ex.fieldS fld54_0 rfl | exact Ex.fieldIn fld54_0 rfl) rfl ?_
    refine O.ex (by first | exact Ex.loadRN Try.isAgg3 rfl | exact Ex.loadMh Try.isAgg3 rfl | exact Ex.loadInF Try.isAgg3 rfl (Holds.to (by assumption)) | exact Ex.loadP Try.isAgg3 rfl | exact Ex.loadM Try.isAgg3 rfl | exact Ex.loadIn1 Try.isAgg3 rfl (Holds.to (by assumption)) | exact Ex.loadVc Try.isAgg3 rfl | exact Ex.loadR Try.isAgg3 rfl | exact Ex.loadQ Try.isAgg3 rfl) rfl ?_
    refine O.ex (by first | exact Ex.remI rfl rfl | exact Ex.rem rfl rfl (by omega) rfl) rfl ?_
    refine O.ex (Ex.assign rfl) rfl ?_
    refine O.nil ?_
    refine hK9 _ _ _ ?_
    refine W.seq (fun K10 hK10 => ?_)
    refine W.region ?_
    refine O.ex (Ex.move rfl) rfl ?_
    refine O.ex (Ex.move rfl) rfl ?_
    refine O.ex (Ex.move rfl) rfl ?_
    refine O.callF Try.call49 rfl rfl (CT.mono (led_ct (r := r) hg ha hab (by omega) (Holds.to (by assumption))) ?_)
    rintro _ w ⟨x, xs, rfl, hx1, hxl, hc1, H⟩
    refine O.ex (Ex.move rfl) rfl ?_
    refine O.ex (Ex.extract rfl rfl) rfl ?_
    refine O.ex (Ex.extract rfl rfl) rfl ?_
    refine O.ex (Ex.assign rfl) rfl ?_
    refine O.ex (Ex.assign rfl) rfl ?_
    refine O.nil ?_
    refine hK10 _ _ _ ?_
    refine W.seq (fun K11 hK11 => ?_)
    refine W.seq (fun K12 hK12 => ?_)
    refine W.region ?_
    refine O.ex (Ex.move rfl) rfl ?_
    refine O.ex (by first | exact Ex.lenR Try.runUnderlying37 rfl | exact Ex.lenIn Try.runUnderlying37 rfl | exact Ex.lenL Try.runUnderlying37 rfl | exact Ex.len rfl Try.runUnderlying37 rfl) rfl ?_
    refine O.ex (Ex.eqlI rfl rfl) rfl ?_
    refine O.nil ?_
    refine hK12 _ _ _ ?_
    first | refine W.cond_p rfl (fun hno => ?_) (fun hyes => ?_) | refine W.cond_b rfl (fun hno => ?_) (fun hyes => ?_)
    · refine W.seq (fun K13 hK13 => ?_)
      refine W.region ?_
      refine O.ex (Ex.move rfl) rfl ?_
      refine O.ex (Ex.move rfl) rfl ?_
      refine O.ex (Ex.move rfl) rfl ?_
      refine O.callF Try.call40 rfl rfl (CT.mono (wcheck_ct (g := g) (S := arr 3 (Value.int .i64) x xs) (xs := []) hg Rd.nil (by simp) (Holds.to (by assumption))) ?_)
      rintro _ w ⟨rfl, H⟩
      refine O.ex (Ex.eqlI rfl rfl) rfl ?_
      refine O.ex (Ex.assign rfl) rfl ?_
      refine O.nil ?_
      refine hK13 _ _ _ ?_
      refine W.ret ?_
      try dsimp only [thenQ, blockQ, retQ]
      first | refine ⟨_, ⟨_, _, rfl, rfl, rfl⟩, ?_⟩ | (refine retD_mark ?_; intro w H; refine ⟨_, ⟨_, _, rfl, rfl, rfl⟩, ?_⟩) | (refine retD_mark2 ?_; intro w H; refine ⟨_, ⟨_, _, rfl, rfl, rfl⟩, ?_⟩)
      refine ⟨?_, Holds.base_below (L := []) (Holds.to (by assumption))⟩
      first
      | rfl
      | exact congrArg Value.bool (decide_eq_true hg4)
      | exact congrArg Value.bool (decide_eq_true (fun hh => by rw [hs6] at hh; exact absurd hh.1 (by decide)))
      | exact congrArg Value.bool (decide_eq_true (ccode_ok (xs := []) hg hv rfl))
    · refine W.skip ?_
      refine hK11 _ _ _ ?_
      refine W.seq (fun K14 hK14 => ?_)
      refine W.region ?_
      refine O.ex (Ex.move rfl) rfl ?_
      refine O.ex (Ex.move rfl) rfl ?_
      refine O.callF Try.call42 rfl rfl (CT.mono (wsum_ct (g := g) (S := arr 3 (Value.int .i64) x xs) hg Rd.ofArr (by omega) (Holds.to (by assumption))) ?_)
      rintro _ w ⟨rfl, H⟩
      refine O.ex (Ex.assign rfl) rfl ?_
      refine O.nil ?_
      refine hK14 _ _ _ ?_
      refine W.seq (fun K15 hK15 => ?_)
      refine W.region ?_
      have hxp : (0 : Int) < (xs.length : Int) := by omega
      have hm0 : (0 : Int) ≤ k % (xs.length : Int) := Int.emod_nonneg _ (by omega)
      have hm1 : k % (xs.length : Int) < (xs.length : Int) := Int.emod_lt_of_pos _ hxp
      have hv2 := end_rng hg hv hc1
      refine O.ex (Ex.move rfl) rfl ?_
      refine O.ex (Ex.move rfl) rfl ?_
      refine O.ex (by first | exact Ex.convToI Try.runUnderlying5 Try.runUnderlying3 rfl | exact Ex.convW Try.runUnderlying5 Try.runUnderlying3 rfl) rfl ?_
      refine O.ex (Ex.move rfl) rfl ?_
      refine O.ex (by first | exact Ex.lenR Try.runUnderlying37 rfl | exact Ex.lenIn Try.runUnderlying37 rfl | exact Ex.lenL Try.runUnderlying37 rfl | exact Ex.len rfl Try.runUnderlying37 rfl) rfl ?_
      refine O.ex (by first | exact Ex.remI rfl rfl | exact Ex.rem rfl rfl (by omega) rfl) rfl ?_
      refine O.ex (by first | exact Ex.idxR Try.runUnderlying37 Try.sizeOf3 rfl rfl | exact Ex.idxIn Try.runUnderlying37 Try.sizeOf3 rfl rfl | exact Ex.idxS Try.runUnderlying37 Try.sizeOf3 rfl rfl | exact Ex.idx Try.runUnderlying37 Try.sizeOf3 rfl rfl (by omega) (by omega)) rfl ?_
      refine O.ex (by first | exact Ex.loadRN Try.isAgg3 rfl | exact Ex.loadR Try.isAgg3 rfl | exact Ex.loadIn1 Try.isAgg3 rfl (Holds.to (by assumption)) | exact Ex.loadInF Try.isAgg3 rfl (Holds.to (by assumption)) | exact Ex.loadP Try.isAgg3 rfl | exact Ex.loadMh Try.isAgg3 rfl | exact Ex.loadM Try.isAgg3 rfl | exact Ex.loadVc Try.isAgg3 rfl | exact Ex.loadQ Try.isAgg3 rfl) rfl ?_
      obtain ⟨id, hid⟩ : ∃ id, id = xs.getD (k % (xs.length : Int)).toNat default := ⟨_, rfl⟩
      have hmem : id ∈ xs := hid ▸ mem_getDI (by omega)
      rw [← hid]
      obtain ⟨hg1, hg3, hg4⟩ := gone_law hc1 hmem
      obtain ⟨hs1, hs4, hs5⟩ := shut_law hc1 hmem
      have okg := ok_del hg id
      have oks := ok_turn hg id true
      have hg2 := ccode_bad hv hv2 hg3 (by decide)
      have hs2 := ccode_bad hv hv2 hs4 (by decide)
      have hs3 : (srun (turnS s id true) xs).1 = (srun s xs).1 := by rw [hs5]
      have hs6 : vcode n (turnS s id true) (f % n) xs = 5 := (if_neg (fun hh => hh hv)).trans hs4
      refine O.ex (Ex.assign rfl) rfl ?_
      refine O.nil ?_
      refine hK15 _ _ _ ?_
      refine W.seq (fun K16 hK16 => ?_)
      refine W.seq (fun K17 hK17 => ?_)
      refine W.region ?_
      refine O.ex (Ex.move rfl) rfl ?_
      refine O.nil ?_
      refine hK17 _ _ _ ?_
      first | refine W.cond_p rfl (fun hgo => ?_) (fun hgo => ?_) | refine W.cond_b rfl (fun hgo => ?_) (fun hgo => ?_)
      · refine W.seq (fun K18 hK18 => ?_)
        refine W.region ?_
        refine O.ex (Ex.move rfl) rfl ?_
        refine O.ex (Ex.move rfl) rfl ?_
        refine O.callF Try.call31 rfl rfl (CT.mono (gdelete_ct (g := g) (id := id) hg (Holds.to (by assumption))) ?_)
        rintro _ w ⟨rfl, H⟩
        refine O.ex (Ex.eqlI rfl rfl) rfl ?_
        refine O.ex (Ex.move rfl) rfl ?_
        refine O.known (t := 71) (c := true) rfl (by first | exact decide_eq_true rfl | rfl | decide | exact decide_eq_true hg1 | exact decide_eq_true hg2 | exact decide_eq_true hs1 | exact decide_eq_true hs2 | exact decide_eq_true hs3) ?_
        refine O.guard_t rfl rfl ?_
        refine O.ex (Ex.move rfl) rfl ?_
        refine O.guard_t rfl rfl ?_
        refine O.ex (Ex.move rfl) rfl ?_
        refine O.guard_t rfl rfl ?_
        refine O.ex (Ex.move rfl) rfl ?_
        refine O.guard_t rfl rfl ?_
        refine O.ex (Ex.move rfl) rfl ?_
        refine O.guard_t rfl rfl ?_
        refine O.callF Try.call40 rfl rfl (CT.mono (wcheck_ct (g := g) (S := arr 3 (Value.int .i64) x xs) okg Rd.ofArr (by omega) (Holds.to (by assumption))) ?_)
        rintro _ w ⟨rfl, H⟩
        refine O.guard_t rfl rfl ?_
        refine O.ex (Ex.eqlI rfl rfl) rfl ?_
        refine O.ex (Ex.pick_t rfl rfl) rfl ?_
        refine O.ex (Ex.move rfl) rfl ?_
        refine O.known (t := 79) (c := true) rfl (by first | exact decide_eq_true rfl | rfl | decide | exact decide_eq_true hg1 | exact decide_eq_true hg2 | exact decide_eq_true hs1 | exact decide_eq_true hs2 | exact decide_eq_true hs3) ?_
        refine O.guard_t rfl rfl ?_
        refine O.ex (Ex.move rfl) rfl ?_
        refine O.guard_t rfl rfl ?_
        refine O.ex (Ex.move rfl) rfl ?_
        refine O.guard_t rfl rfl ?_
        refine O.callF Try.call42 rfl rfl (CT.mono (wsum_ct (g := g) (S := arr 3 (Value.int .i64) x xs) okg Rd.ofArr (by omega) (Holds.to (by assumption))) ?_)
        rintro _ w ⟨rfl, H⟩
        refine O.guard_t rfl rfl ?_
        refine O.ex (Ex.eqlI rfl rfl) rfl ?_
        refine O.ex (Ex.pick_t rfl rfl) rfl ?_
        refine O.ex (Ex.assign rfl) rfl ?_
        refine O.nil ?_
        refine hK18 _ _ _ ?_
        refine W.ret ?_
        try dsimp only [thenQ, blockQ, retQ]
        first | refine ⟨_, ⟨_, _, rfl, rfl, rfl⟩, ?_⟩ | (refine retD_mark ?_; intro w H; refine ⟨_, ⟨_, _, rfl, rfl, rfl⟩, ?_⟩) | (refine retD_mark2 ?_; intro w H; refine ⟨_, ⟨_, _, rfl, rfl, rfl⟩, ?_⟩)
        refine ⟨?_, Holds.base_below (L := []) (Holds.to (by assumption))⟩
        first
        | rfl
        | exact congrArg Value.bool (decide_eq_true hg4)
        | exact congrArg Value.bool (decide_eq_true (fun hh => by rw [hs6] at hh; exact absurd hh.1 (by decide)))
        | exact congrArg Value.bool (decide_eq_true (ccode_ok (xs := []) hg hv rfl))
      · refine W.skip ?_
        refine hK16 _ _ _ ?_
        refine W.seq (fun K19 hK19 => ?_)
        refine W.region ?_
        refine O.ex (Ex.move rfl) rfl ?_
        refine O.ex (Ex.move rfl) rfl ?_
        refine O.callF Try.call34 rfl rfl (CT.mono (gClose_ct (g := g) (id := id) (Holds.to (by assumption))) ?_)
        rintro _ w ⟨rfl, H⟩
        refine O.ex (Ex.eqlI rfl rfl) rfl ?_
        refine O.ex (Ex.move rfl) rfl ?_
        refine O.known (t := 89) (c := true) rfl (by first | exact decide_eq_true rfl | rfl | decide | exact decide_eq_true hg1 | exact decide_eq_true hg2 | exact decide_eq_true hs1 | exact decide_eq_true hs2 | exact decide_eq_true hs3) ?_
        refine O.guard_t rfl rfl ?_
        refine O.ex (Ex.move rfl) rfl ?_
        refine O.guard_t rfl rfl ?_
        refine O.ex (Ex.move rfl) rfl ?_
        refine O.guard_t rfl rfl ?_
        refine O.ex (Ex.move rfl) rfl ?_
        refine O.guard_t rfl rfl ?_
        refine O.ex (Ex.move rfl) rfl ?_
        refine O.guard_t rfl rfl ?_
        refine O.callF Try.call40 rfl rfl (CT.mono (wcheck_ct (g := g) (S := arr 3 (Value.int .i64) x xs) oks Rd.ofArr (by omega) (Holds.to (by assumption))) ?_)
        rintro _ w ⟨rfl, H⟩
        refine O.guard_t rfl rfl ?_
        refine O.ex (Ex.eqlI rfl rfl) rfl ?_
        refine O.ex (Ex.pick_t rfl rfl) rfl ?_
        refine O.ex (Ex.move rfl) rfl ?_
        refine O.known (t := 97) (c := true) rfl (by first | exact decide_eq_true rfl | rfl | decide | exact decide_eq_true hg1 | exact decide_eq_true hg2 | exact decide_eq_true hs1 | exact decide_eq_true hs2 | exact decide_eq_true hs3) ?_
        refine O.guard_t rfl rfl ?_
        refine O.ex (Ex.move rfl) rfl ?_
        refine O.guard_t rfl rfl ?_
        refine O.ex (Ex.move rfl) rfl ?_
        refine O.guard_t rfl rfl ?_
        refine O.callF Try.call42 rfl rfl (CT.mono (wsum_ct (g := g) (S := arr 3 (Value.int .i64) x xs) oks Rd.ofArr (by omega) (Holds.to (by assumption))) ?_)
        rintro _ w ⟨rfl, H⟩
        refine O.guard_t rfl rfl ?_
        refine O.ex (Ex.move rfl) rfl ?_
        refine O.guard_t rfl rfl ?_
        refine O.ex (Ex.eqlI rfl rfl) rfl ?_
        refine O.ex (Ex.pick_t rfl rfl) rfl ?_
        refine O.ex (Ex.move rfl) rfl ?_
        refine O.known (t := 104) (c := true) rfl (by first | exact decide_eq_true rfl | rfl | decide | exact decide_eq_true hg1 | exact decide_eq_true hg2 | exact decide_eq_true hs1 | exact decide_eq_true hs2 | exact decide_eq_true hs3) ?_
        refine O.guard_t rfl rfl ?_
        refine O.ex (Ex.move rfl) rfl ?_
        refine O.guard_t rfl rfl ?_
        refine O.ex (Ex.move rfl) rfl ?_
        refine O.guard_t rfl rfl ?_
        refine O.ex (Ex.move rfl) rfl ?_
        refine O.guard_t rfl rfl ?_
        refine O.callF Try.call47 rfl rfl (CT.mono (wsimple_ct (g := g) (S := arr 3 (Value.int .i64) x xs) oks Rd.ofArr (by omega) (Holds.to (by assumption))) ?_)
        rintro _ w ⟨rfl, H⟩
        refine O.guard_t rfl rfl ?_
        refine O.ex (by first | exact Ex.notD rfl | exact Ex.not rfl) rfl ?_
        refine O.ex (Ex.pick_t rfl rfl) rfl ?_
        refine O.ex (Ex.assign rfl) rfl ?_
        refine O.nil ?_
        refine hK19 _ _ _ ?_
        refine W.ret ?_
        try dsimp only [thenQ, blockQ, retQ]
        first | refine ⟨_, ⟨_, _, rfl, rfl, rfl⟩, ?_⟩ | (refine retD_mark ?_; intro w H; refine ⟨_, ⟨_, _, rfl, rfl, rfl⟩, ?_⟩) | (refine retD_mark2 ?_; intro w H; refine ⟨_, ⟨_, _, rfl, rfl, rfl⟩, ?_⟩)
        refine ⟨?_, Holds.base_below (L := []) (Holds.to (by assumption))⟩
        first
        | rfl
        | exact congrArg Value.bool (decide_eq_true hg4)
        | exact congrArg Value.bool (decide_eq_true (fun hh => by rw [hs6] at hh; exact absurd hh.1 (by decide)))
        | exact congrArg Value.bool (decide_eq_true (ccode_ok (xs := []) hg hv rfl))
theorem walkBreaks_row {w0 : World} {q f k : Int} {lv av : Value} {l : List Chg} {as1 : List Int} (hq : (Lit.int .u8 q).wf = true) (hx : SlIn w0 6 Chg.enc lv l) (hg : ∀ x ∈ l, x.ok) (hl : l.length ≤ maxLen) (hf : (Lit.int .u8 f).wf = true)
    (ha : SlIn w0 1 (fun s : Int => [.int .u8 s]) av as1) (hab : ∀ x ∈ as1, (Lit.int .u8 x).wf = true) (hal : as1.length ≤ maxLen) (hk : (Lit.int .u8 k).wf = true) (gone : Bool) :
    CT Try.prog 12 [.int .u8 q, lv, .int .u8 f, av, .int .u8 k, .bool gone] w0 fun x w' => x = .bool true ∧ RowKit.Below w0.heap.size w0 w' :=
  walkBreaks_ct hq hx (by unfold maxLen at hl; omega) hf ha hab hk
end Go.Proofs.Ytakmbbgnnbpkoaa
