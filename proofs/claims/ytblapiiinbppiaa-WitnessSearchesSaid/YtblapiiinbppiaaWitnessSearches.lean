import Derived.Test.YtblapiiinbppiaaWit6
namespace Go.Proofs.Ytblapiiinbppiaa
--ARR
open Go.Rr Go Hp Wt
set_option linter.unusedVariables false
set_option maxHeartbeats 2000000 in
theorem witnessSearches_ct {w0 : World} {q s most settles : Int} {wo : Nat} {lv : Value} {l : List Step} (hq : (Lit.int .u8 q).wf = true) (hx : SlIn w0 3 Step.enc lv l) (hl : l.length ≤ 9223372036854775807) (hw : wo < 18446744073709551616) :
    CT Try.prog 6 [.int .u8 q, lv, .int .i64 s, .int .u64 (wo : Int), .int .i64 most, .int .i64 settles] w0 fun x w' => x = .bool true ∧ RowKit.Below w0.heap.size w0 w' := by
  have H := Holds.base_refl w0
  refine CT.enter (N := 76) Try.func6 rfl rfl rfl rfl ?_
  refine W.seq (fun K0 hK0 => ?_)
  refine W.region ?_
  refine O.ex (Ex.assign rfl) rfl ?_
  refine O.nil ?_
  refine hK0 _ _ _ ?_
  refine W.seq (fun K1 hK1 => ?_)
  refine W.seq (fun K2 hK2 => ?_)
  refine W.region ?_
  refine O.callF Try.call32 rfl rfl (CT.mono (awake13_ct (Holds.to (by assumption))) ?_)
  rintro _ w ⟨rfl, H⟩
  refine O.ex (by first | exact Ex.notD rfl | exact Ex.not rfl) rfl ?_
  refine O.nil ?_
  refine hK2 _ _ _ ?_
  refine W.known_f rfl (by first | rfl | decide | exact decide_eq_false (fun hh => hh hyes.1) | exact hyes.2) ?_
  refine W.skip ?_
  refine hK1 _ _ _ ?_
  refine W.seq (fun K3 hK3 => ?_)
  refine W.region ?_
  refine O.ex (Ex.move rfl) rfl ?_
  refine O.ex (Ex.move rfl) rfl ?_
  refine O.callF Try.call16 rfl rfl (CT.mono (made_ct hq hx hl (Holds.to (by assumption))) ?_)
  rintro _ w ⟨m, r, n, c, hg, rfl, H⟩
  refine O.ex (Ex.move rfl) rfl ?_
  refine O.ex (Ex.extract rfl rfl) rfl ?_
  refine O.ex (Ex.extract rfl rfl) rfl ?_
  refine O.ex (Ex.assign rfl) rfl ?_
  refine O.ex (Ex.assign rfl) rfl ?_
  refine O.nil ?_
  refine hK3 _ _ _ ?_
  refine W.seq (fun K4 hK4 => ?_)
  refine W.seq (fun K5 hK5 => ?_)
  refine W.region ?_
  refine O.ex (Ex.move rfl) rfl ?_
  refine O.ex (Ex.nilEq Try.runUnderlying25 rfl rfl) rfl ?_
  refine O.nil ?_
  refine hK5 _ _ _ ?_
  refine W.known_f rfl (by first | rfl | decide | exact decide_eq_false (fun hh => hh hyes.1) | exact hyes.2) ?_
  refine W.skip ?_
  refine hK4 _ _ _ ?_
  refine W.seq (fun K6 hK6 => ?_)
  refine W.region ?_
  refine O.ex (Ex.move rfl) rfl ?_
  refine O.ex (Ex.move rfl) rfl ?_
  refine O.ex (Ex.move rfl) rfl ?_
  refine O.ex (Ex.move rfl) rfl ?_
  refine O.ex (Ex.move rfl) rfl ?_
  refine O.callF Try.call33 rfl rfl (CT.mono (wfind_ct hg hw (Holds.to (by assumption))) ?_)
  rintro _ w hh
  rcases hh with ⟨hno, rfl, H⟩ | ⟨hyes, j, T, sv, dv, hto, hst, hT, rfl, hs1, hd1, H⟩
  · refine O.ex (Ex.move rfl) rfl ?_
    refine O.ex (Ex.extract rfl rfl) rfl ?_
    refine O.ex (Ex.extract rfl rfl) rfl ?_
    refine O.allocP Try.zeroValue60 (fun b15 w H => ?_)
    first | refine O.storeAggP Try.sizeOf60 rfl rfl rfl rfl (fun w H => ?_) | refine O.storeAggP Try.sizeOf60 rfl rfl rfl (all3 hs1 hd1 rfl) (fun w H => ?_)
    refine O.ex (Ex.assign rfl) rfl ?_
    refine O.nil ?_
    refine hK6 _ _ _ ?_
    refine W.seq (fun K7 hK7 => ?_)
    refine W.seq (fun K8 hK8 => ?_)
    refine W.region ?_
    refine O.ex (Ex.move rfl) rfl ?_
    refine O.ex (Ex.move rfl) rfl ?_
    refine O.callF Try.call30 rfl rfl (CT.mono (vertexr_ct (Holds.to (by assumption))) ?_)
    rintro _ w ⟨rfl, H⟩
    refine O.ex (by first | exact Ex.notD rfl | exact Ex.not rfl) rfl ?_
    refine O.ex (Ex.move rfl) rfl ?_
    first | refine O.split_p (t := 40) rfl (fun hA => ?_) (fun hB => ?_) | refine O.split (t := 40) rfl (fun hA => ?_) (fun hB => ?_)
    · refine O.guard_f rfl rfl rfl rfl ?_
      refine O.guard_f rfl rfl rfl rfl ?_
      refine O.guard_f rfl rfl rfl rfl ?_
      refine O.ex (Ex.pick_t rfl rfl) rfl ?_
      refine O.nil ?_
      refine hK8 _ _ _ ?_
      refine W.cond_t rfl ?_
      refine W.seq (fun K9 hK9 => ?_)
      refine W.region ?_
      refine O.ex (Ex.move rfl) rfl ?_
      refine O.ex (Ex.eqlI rfl rfl) rfl ?_
      refine O.ex (Ex.move rfl) rfl ?_
      refine O.known (t := 47) (c := true) rfl (by first | rfl | decide | exact decide_eq_false (fun hh => hh hyes.1) | exact hyes.2) ?_
      refine O.guard_t rfl rfl ?_
      refine O.ex (by first | exact Ex.field0 fld60_0 rfl | exact Ex.field fld60_0 rfl | exact Ex.fieldS fld60_0 rfl) rfl ?_
      refine O.guard_t rfl rfl ?_
      refine O.ex (by first | exact Ex.loadMh Try.isAgg51 rfl | exact Ex.loadP Try.isAgg51 rfl | exact Ex.loadM Try.isAgg51 rfl | exact Ex.loadIn1 Try.isAgg51 rfl (Holds.to (by assumption)) | exact Ex.loadVc Try.isAgg51 rfl | exact Ex.loadR Try.isAgg51 rfl | exact Ex.loadQ Try.isAgg51 rfl) rfl ?_
      refine O.guard_t rfl rfl ?_
      refine O.ex (by first | exact Ex.lenR Try.runUnderlying51 rfl | exact Ex.lenIn Try.runUnderlying51 rfl | exact Ex.lenL Try.runUnderlying51 rfl | exact Ex.len rfl Try.runUnderlying51 rfl) rfl ?_
      refine O.guard_t rfl rfl ?_
      refine O.ex (Ex.eqlI rfl rfl) rfl ?_
      refine O.ex (Ex.pick_t rfl rfl) rfl ?_
      refine O.ex (Ex.move rfl) rfl ?_
      refine O.known (t := 53) (c := true) rfl (by first | rfl | decide | exact decide_eq_false (fun hh => hh hyes.1) | exact hyes.2) ?_
      refine O.guard_t rfl rfl ?_
      refine O.ex (by first | exact Ex.field0 fld60_1 rfl | exact Ex.field fld60_1 rfl | exact Ex.fieldS fld60_1 rfl) rfl ?_
      refine O.guard_t rfl rfl ?_
      refine O.ex (by first | exact Ex.loadMh Try.isAgg51 rfl | exact Ex.loadP Try.isAgg51 rfl | exact Ex.loadM Try.isAgg51 rfl | exact Ex.loadIn1 Try.isAgg51 rfl (Holds.to (by assumption)) | exact Ex.loadVc Try.isAgg51 rfl | exact Ex.loadR Try.isAgg51 rfl | exact Ex.loadQ Try.isAgg51 rfl) rfl ?_
      refine O.guard_t rfl rfl ?_
      refine O.ex (by first | exact Ex.lenR Try.runUnderlying51 rfl | exact Ex.lenIn Try.runUnderlying51 rfl | exact Ex.lenL Try.runUnderlying51 rfl | exact Ex.len rfl Try.runUnderlying51 rfl) rfl ?_
      refine O.guard_t rfl rfl ?_
      refine O.ex (Ex.eqlI rfl rfl) rfl ?_
      refine O.ex (Ex.pick_t rfl rfl) rfl ?_
      refine O.ex (Ex.move rfl) rfl ?_
      refine O.known (t := 59) (c := true) rfl (by first | rfl | decide | exact decide_eq_false (fun hh => hh hyes.1) | exact hyes.2) ?_
      refine O.guard_t rfl rfl ?_
      refine O.ex (by first | exact Ex.field0 fld60_2 rfl | exact Ex.field fld60_2 rfl | exact Ex.fieldS fld60_2 rfl) rfl ?_
      refine O.guard_t rfl rfl ?_
      refine O.ex (by first | exact Ex.loadMh Try.isAgg58 rfl | exact Ex.loadP Try.isAgg58 rfl | exact Ex.loadM Try.isAgg58 rfl | exact Ex.loadIn1 Try.isAgg58 rfl (Holds.to (by assumption)) | exact Ex.loadVc Try.isAgg58 rfl | exact Ex.loadR Try.isAgg58 rfl | exact Ex.loadQ Try.isAgg58 rfl) rfl ?_
      refine O.guard_t rfl rfl ?_
      refine O.ex (Ex.eql64 _ 0 rfl rfl) rfl ?_
      refine O.ex (Ex.pick_t rfl rfl) rfl ?_
      refine O.ex (Ex.assign rfl) rfl ?_
      refine O.nil ?_
      refine hK9 _ _ _ ?_
      refine W.ret ?_
      try dsimp only [thenQ, blockQ, retQ]
      first | refine ⟨_, ⟨_, _, rfl, rfl, rfl⟩, ?_⟩ | (refine retD_mark ?_; intro w H; refine ⟨_, ⟨_, _, rfl, rfl, rfl⟩, ?_⟩) | (refine retD_mark2 ?_; intro w H; refine ⟨_, ⟨_, _, rfl, rfl, rfl⟩, ?_⟩)
      exact ⟨rfl, Holds.base_below (L := []) (Holds.to (by assumption))⟩
    · refine O.guard_t rfl rfl ?_
      refine O.ex (Ex.move rfl) rfl ?_
      refine O.guard_t rfl rfl ?_
      refine O.ex (Ex.move rfl) rfl ?_
      refine O.guard_t rfl rfl ?_
      refine O.callF Try.call34 rfl rfl (CT.mono (refHas_ct (Holds.to (by assumption)) hw) ?_)
      rintro _ w ⟨rfl, H⟩
      refine O.ex (Ex.pick_f rfl rfl) rfl ?_
      refine O.nil ?_
      refine hK8 _ _ _ ?_
      first | refine W.cond_p rfl (fun hC => ?_) (fun hD => ?_) | refine W.cond_b rfl (fun hC => ?_) (fun hD => ?_)
      · refine W.seq (fun K10 hK10 => ?_)
        refine W.region ?_
        refine O.ex (Ex.move rfl) rfl ?_
        refine O.ex (Ex.eqlI rfl rfl) rfl ?_
        refine O.ex (Ex.move rfl) rfl ?_
        refine O.known (t := 47) (c := true) rfl (by first | rfl | decide | exact decide_eq_false (fun hh => hh hyes.1) | exact hyes.2) ?_
        refine O.guard_t rfl rfl ?_
        refine O.ex (by first | exact Ex.field0 fld60_0 rfl | exact Ex.field fld60_0 rfl | exact Ex.fieldS fld60_0 rfl) rfl ?_
        refine O.guard_t rfl rfl ?_
        refine O.ex (by first | exact Ex.loadMh Try.isAgg51 rfl | exact Ex.loadP Try.isAgg51 rfl | exact Ex.loadM Try.isAgg51 rfl | exact Ex.loadIn1 Try.isAgg51 rfl (Holds.to (by assumption)) | exact Ex.loadVc Try.isAgg51 rfl | exact Ex.loadR Try.isAgg51 rfl | exact Ex.loadQ Try.isAgg51 rfl) rfl ?_
        refine O.guard_t rfl rfl ?_
        refine O.ex (by first | exact Ex.lenR Try.runUnderlying51 rfl | exact Ex.lenIn Try.runUnderlying51 rfl | exact Ex.lenL Try.runUnderlying51 rfl | exact Ex.len rfl Try.runUnderlying51 rfl) rfl ?_
        refine O.guard_t rfl rfl ?_
        refine O.ex (Ex.eqlI rfl rfl) rfl ?_
        refine O.ex (Ex.pick_t rfl rfl) rfl ?_
        refine O.ex (Ex.move rfl) rfl ?_
        refine O.known (t := 53) (c := true) rfl (by first | rfl | decide | exact decide_eq_false (fun hh => hh hyes.1) | exact hyes.2) ?_
        refine O.guard_t rfl rfl ?_
        refine O.ex (by first | exact Ex.field0 fld60_1 rfl | exact Ex.field fld60_1 rfl | exact Ex.fieldS fld60_1 rfl) rfl ?_
        refine O.guard_t rfl rfl ?_
        refine O.ex (by first | exact Ex.loadMh Try.isAgg51 rfl | exact Ex.loadP Try.isAgg51 rfl | exact Ex.loadM Try.isAgg51 rfl | exact Ex.loadIn1 Try.isAgg51 rfl (Holds.to (by assumption)) | exact Ex.loadVc Try.isAgg51 rfl | exact Ex.loadR Try.isAgg51 rfl | exact Ex.loadQ Try.isAgg51 rfl) rfl ?_
        refine O.guard_t rfl rfl ?_
        refine O.ex (by first | exact Ex.lenR Try.runUnderlying51 rfl | exact Ex.lenIn Try.runUnderlying51 rfl | exact Ex.lenL Try.runUnderlying51 rfl | exact Ex.len rfl Try.runUnderlying51 rfl) rfl ?_
        refine O.guard_t rfl rfl ?_
        refine O.ex (Ex.eqlI rfl rfl) rfl ?_
        refine O.ex (Ex.pick_t rfl rfl) rfl ?_
        refine O.ex (Ex.move rfl) rfl ?_
        refine O.known (t := 59) (c := true) rfl (by first | rfl | decide | exact decide_eq_false (fun hh => hh hyes.1) | exact hyes.2) ?_
        refine O.guard_t rfl rfl ?_
        refine O.ex (by first | exact Ex.field0 fld60_2 rfl | exact Ex.field fld60_2 rfl | exact Ex.fieldS fld60_2 rfl) rfl ?_
        refine O.guard_t rfl rfl ?_
        refine O.ex (by first | exact Ex.loadMh Try.isAgg58 rfl | exact Ex.loadP Try.isAgg58 rfl | exact Ex.loadM Try.isAgg58 rfl | exact Ex.loadIn1 Try.isAgg58 rfl (Holds.to (by assumption)) | exact Ex.loadVc Try.isAgg58 rfl | exact Ex.loadR Try.isAgg58 rfl | exact Ex.loadQ Try.isAgg58 rfl) rfl ?_
        refine O.guard_t rfl rfl ?_
        refine O.ex (Ex.eql64 _ 0 rfl rfl) rfl ?_
        refine O.ex (Ex.pick_t rfl rfl) rfl ?_
        refine O.ex (Ex.assign rfl) rfl ?_
        refine O.nil ?_
        refine hK10 _ _ _ ?_
        refine W.ret ?_
        try dsimp only [thenQ, blockQ, retQ]
        first | refine ⟨_, ⟨_, _, rfl, rfl, rfl⟩, ?_⟩ | (refine retD_mark ?_; intro w H; refine ⟨_, ⟨_, _, rfl, rfl, rfl⟩, ?_⟩) | (refine retD_mark2 ?_; intro w H; refine ⟨_, ⟨_, _, rfl, rfl, rfl⟩, ?_⟩)
        exact ⟨rfl, Holds.base_below (L := []) (Holds.to (by assumption))⟩
      · exact absurd ⟨Decidable.not_not.1 hB, by simpa using hD⟩ hno
  · refine O.ex (Ex.move rfl) rfl ?_
    refine O.ex (Ex.extract rfl rfl) rfl ?_
    refine O.ex (Ex.extract rfl rfl) rfl ?_
    refine O.allocP Try.zeroValue60 (fun b15 w H => ?_)
    first | refine O.storeAggP Try.sizeOf60 rfl rfl rfl rfl (fun w H => ?_) | refine O.storeAggP Try.sizeOf60 rfl rfl rfl (all3 hs1 hd1 rfl) (fun w H => ?_)
    refine O.ex (Ex.assign rfl) rfl ?_
    refine O.nil ?_
    refine hK6 _ _ _ ?_
    refine W.seq (fun K11 hK11 => ?_)
    refine W.seq (fun K12 hK12 => ?_)
    refine W.region ?_
    refine O.ex (Ex.move rfl) rfl ?_
    refine O.ex (Ex.move rfl) rfl ?_
    refine O.callF Try.call30 rfl rfl (CT.mono (vertexr_ct (Holds.to (by assumption))) ?_)
    rintro _ w ⟨rfl, H⟩
    refine O.ex (by first | exact Ex.notD rfl | exact Ex.not rfl) rfl ?_
    refine O.ex (Ex.move rfl) rfl ?_
    refine O.known (t := 40) (c := false) rfl (by first | rfl | decide | exact decide_eq_false (fun hh => hh hyes.1) | exact hyes.2) ?_
    refine O.guard_t rfl rfl ?_
    refine O.ex (Ex.move rfl) rfl ?_
    refine O.guard_t rfl rfl ?_
    refine O.ex (Ex.move rfl) rfl ?_
    refine O.guard_t rfl rfl ?_
    refine O.callF Try.call34 rfl rfl (CT.mono (refHas_ct (Holds.to (by assumption)) hw) ?_)
    rintro _ w ⟨rfl, H⟩
    refine O.ex (Ex.pick_f rfl rfl) rfl ?_
    refine O.nil ?_
    refine hK12 _ _ _ ?_
    refine W.known_f rfl (by first | rfl | decide | exact decide_eq_false (fun hh => hh hyes.1) | exact hyes.2) ?_
    refine W.skip ?_
    refine hK11 _ _ _ ?_
    refine W.seq (fun K13 hK13 => ?_)
    refine W.drawTo (pt b15 _ :: []) (.take 0 (.take 1 (.take 2 (.take 3 (.take 4 (.take 5 (.take 6 (.take 7 (.take 8 (.one 9 (.one 10 (.take 11 (.take 12 .nil))))))))))))) (mixed) (fun _ _ _ _ h => h) (by assumption) PP.auto (by decide +kernel) (fun w H => ?_)
    refine OQ.ex rfl (fun w H => (Ex.move rfl)) rfl ?_
    refine OQ.ex rfl (fun w H => (Ex.eqlI rfl rfl)) rfl ?_
    refine OQ.ex rfl (fun w H => (Ex.move rfl)) rfl ?_
    refine OQ.known (t := 66) (c := true) rfl (by first | rfl | decide | exact decide_eq_false (fun hh => hh hyes.1) | exact hyes.2) ?_
    refine OQ.exT rfl rfl rfl (fun w H => (by first | exact Ex.loadAggP Try.isAgg60 Try.sizeOf60 rfl | exact Ex.loadAggN Try.isAgg60 Try.sizeOf60 rfl | exact Ex.loadIn Try.isAgg60 Try.sizeOf60 rfl (Holds.to (by assumption)))) rfl ?_
    refine OQ.exT rfl rfl rfl (fun w H => (Ex.move rfl)) rfl ?_
    refine OQ.exT rfl rfl rfl (fun w H => (Ex.move rfl)) rfl ?_
    refine OQ.exT rfl rfl rfl (fun w H => (Ex.move rfl)) rfl ?_
    refine OQ.exT rfl rfl rfl (fun w H => (Ex.move rfl)) rfl ?_
    refine OQ.exT rfl rfl rfl (fun w H => (Ex.move rfl)) rfl ?_
    refine OQ.step rfl ?_
    refine O.guard_t rfl rfl ?_
    refine O.callF Try.call36 rfl rfl (CT.mono (refSearch_ct hg hw hyes.1.1 hyes.1.2 (Holds.to (by assumption))) ?_)
    rintro _ w ⟨j2, sv2, dv2, tv2, hto2, hst2, rfl, _, H⟩
    obtain rfl : j2 = j := to_uniq hto2 hst2 hto hst
    refine O.thenNil ⟨(by first | exact Holds.to (by assumption) | assumption), ?_⟩
    refine OQ.step rfl ?_
    refine O.guard_t rfl rfl ?_
    refine O.callF Try.call35 rfl rfl (CT.mono (same13_ct (by have := hg.n2; omega) (st_ok hg _) hT (Holds.to (by assumption))) ?_)
    rintro _ w ⟨rfl, H⟩
    refine O.thenNil ⟨(by first | exact Holds.to (by assumption) | assumption), ?_⟩
    refine OQ.ex rfl (fun w H => (Ex.pick_t rfl rfl)) rfl ?_
    refine OQ.ex rfl (fun w H => (Ex.assign rfl)) rfl ?_
    refine OQ.done ?_
    refine hK13 _ _ _ ?_
    refine W.ret ?_
    try dsimp only [thenQ, blockQ, retQ]
    first | refine ⟨_, ⟨_, _, rfl, rfl, rfl⟩, ?_⟩ | (refine retD_mark ?_; intro w H; refine ⟨_, ⟨_, _, rfl, rfl, rfl⟩, ?_⟩) | (refine retD_mark2 ?_; intro w H; refine ⟨_, ⟨_, _, rfl, rfl, rfl⟩, ?_⟩)
    exact ⟨rfl, Holds.base_below (L := []) (Holds.to (by assumption))⟩
theorem witnessSearches_row {w0 : World} {q s most settles wo : Int} {lv : Value} {l : List Step} (hq : (Lit.int .u8 q).wf = true) (hx : SlIn w0 3 Step.enc lv l) (hg : ∀ x ∈ l, x.ok) (hl : l.length ≤ maxLen) (hs : (Lit.int .i64 s).wf = true) (hwo : (Lit.int .u64 wo).wf = true) (hm : (Lit.int .i64 most).wf = true) (hse : (Lit.int .i64 settles).wf = true) :
    CT Try.prog 6 [.int .u8 q, lv, .int .i64 s, .int .u64 wo, .int .i64 most, .int .i64 settles] w0 fun x w' => x = .bool true ∧ RowKit.Below w0.heap.size w0 w' := by
  obtain ⟨h0, h1⟩ := bounds_u64 hwo
  have := witnessSearches_ct (w0 := w0) (s := s) (most := most) (settles := settles) (wo := wo.toNat) hq hx (by unfold maxLen at hl; omega) (by omega)
  rwa [Int.toNat_of_nonneg h0] at this
end Go.Proofs.Ytblapiiinbppiaa
