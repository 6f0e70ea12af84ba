import Derived.Test.YtgbhccpjpimgfaaDoorMark
namespace Go.Proofs.YtgbhccpjpimgfaaDoor
open Go.Rr Go Mq
set_option linter.unusedVariables false
def RqO (r : Nat) (rv wv : Value) (rk : List Int) (Wt : List Bool) : HProp := star [pt r (.cells #[rv, wv] 51 (0, 0)), arr 3 (Value.int .i64) rv rk, arr 4 Value.bool wv Wt]
theorem rqO_open {w : World} {r : Nat} {rv wv : Value} {rk : List Int} {Wt : List Bool} {L : List HProp} : Holds w (RqO r rv wv rk Wt :: L) ↔ Holds w (pt r (.cells #[rv, wv] 51 (0, 0)) :: arr 3 (Value.int .i64) rv rk :: arr 4 Value.bool wv Wt :: L) := by
  unfold RqO
  simp only [Holds.star, List.cons_append, List.nil_append]
def Rq (r : Nat) (rk : List Int) (s : Nat) : HProp := hex fun rv => hex fun wv => hex fun Wt => star [hp (WR rk s Wt), RqO r rv wv rk Wt]
theorem rq_open {w : World} {r : Nat} {rk : List Int} {s : Nat} {L : List HProp} : Holds w (Rq r rk s :: L) ↔ ∃ rv wv Wt, WR rk s Wt ∧ Holds w (RqO r rv wv rk Wt :: L) := by
  unfold Rq
  simp only [Holds.hex, Holds.star, List.cons_append, List.nil_append, Holds.hp]
theorem rqNew_ct {w w0 : World} {v : Value} {l : List Int} {L : List HProp} (h24 : l.length ≤ 24) (hx : SlIn w0 1 (fun s : Int => [.int .i64 s]) v l) (H : Holds w (base w0 :: L)) :
    CT Tryd.prog 10 [v] w fun u w' => ∃ r, u = .pointer (some ⟨r, 0, none⟩) ∧ Holds w' (Rq r l 0 :: base w0 :: L) := by
  refine CT.enter (N := 11) Tryd.func10 rfl rfl rfl rfl ?_
  refine W.seq (fun K0 hK0 => ?_)
  refine W.region ?_
  refine O.ex (Ex.assign rfl) rfl ?_
  refine O.nil ?_
  refine hK0 _ _ _ ?_
  refine W.seq (fun K1 hK1 => ?_)
  refine W.drawTo ([]) (.take 1 (.take 3 (.take 4 (.two 0 5 (.two 2 5 (.one 5 (.take 6 (.one 7 (.take 8 .nil)))) (.one 2 (.take 6 (.one 7 (.take 8 .nil))))) (.one 0 (.one 2 (.take 6 (.one 7 (.take 8 .nil))))))))) (mixed) (fun _ _ _ _ h => h) (by assumption) PP.auto (by decide +kernel) (fun w H => ?_)
  refine OQ.ex rfl (fun w H => (Ex.move rfl)) rfl ?_
  refine OQ.ex rfl (fun w H => (Ex.move rfl)) rfl ?_
  refine OQ.ex rfl (fun w H => (by first | exact Ex.lenR Tryd.runUnderlying22 rfl | exact Ex.lenIn Tryd.runUnderlying22 rfl | exact Ex.lenL Tryd.runUnderlying22 rfl | exact Ex.len rfl Tryd.runUnderlying22 rfl)) rfl ?_
  refine OQ.two rfl rfl ?_ ?_
  · refine O.build0 (e := Value.int .i64) Tryd.runUnderlying22 Tryd.sizeOf3 (fun v3 w hv3 H => ?_)
    refine O.thenNil ⟨(by first | exact Holds.to (by assumption) | assumption), ?_⟩
    refine OQ.two rfl rfl ?_ ?_
    · refine O.appendIn Tryd.runUnderlying22 Tryd.typeInfo3 (bt := 8) rfl Tryd.sizeOf3 Tryd.zeroValue3 rfl rfl (fun v5 w hv5 H => ?_)
      refine O.thenNil ⟨(by first | exact Holds.to (by assumption) | assumption), ?_⟩
      refine OQ.step rfl ?_
      refine O.makeR (false : Bool) (e := Value.bool) (bt := 1) Tryd.runUnderlying49 Tryd.sizeOf4 Tryd.zeroValue4 Tryd.typeInfo4 rfl rfl rfl (fun s8 w hs8 H => ?_)
      refine O.thenNil ⟨(by first | exact Holds.to (by assumption) | assumption), ?_⟩
      refine OQ.ex rfl (fun w H => (Ex.build rfl (bld51_0_1 _ _ (by first | rfl | assumption) (by first | rfl | assumption)))) rfl ?_
      refine OQ.step rfl ?_
      refine O.boxP rfl (fun b10 w H => ?_)
      refine O.thenNil ⟨(by first | exact Holds.to (by assumption) | assumption), ?_⟩
      refine OQ.ex rfl (fun w H => (Ex.assign rfl)) rfl ?_
      refine OQ.done ?_
      refine hK1 _ _ _ ?_
      refine W.ret ?_
      try dsimp only [thenQ, blockQ, retQ]
      first | refine ⟨_, ⟨_, _, rfl, rfl, rfl⟩, ?_⟩ | (refine retD_mark ?_; intro w H; refine ⟨_, ⟨_, _, rfl, rfl, rfl⟩, ?_⟩) | (refine retD_mark2 ?_; intro w H; refine ⟨_, ⟨_, _, rfl, rfl, rfl⟩, ?_⟩)
      exact ⟨_, rfl, rq_open.2 ⟨_, _, _, WR.zero l, rqO_open.2 (Holds.to (by assumption))⟩⟩
    · refine O.makeR (false : Bool) (e := Value.bool) (bt := 1) Tryd.runUnderlying49 Tryd.sizeOf4 Tryd.zeroValue4 Tryd.typeInfo4 rfl rfl rfl (fun s8 w hs8 H => ?_)
      refine O.thenNil ⟨(by first | exact Holds.to (by assumption) | assumption), ?_⟩
      refine OQ.step rfl ?_
      refine O.appendIn Tryd.runUnderlying22 Tryd.typeInfo3 (bt := 8) rfl Tryd.sizeOf3 Tryd.zeroValue3 rfl rfl (fun v5 w hv5 H => ?_)
      refine O.thenNil ⟨(by first | exact Holds.to (by assumption) | assumption), ?_⟩
      refine OQ.ex rfl (fun w H => (Ex.build rfl (bld51_0_1 _ _ (by first | rfl | assumption) (by first | rfl | assumption)))) rfl ?_
      refine OQ.step rfl ?_
      refine O.boxP rfl (fun b10 w H => ?_)
      refine O.thenNil ⟨(by first | exact Holds.to (by assumption) | assumption), ?_⟩
      refine OQ.ex rfl (fun w H => (Ex.assign rfl)) rfl ?_
      refine OQ.done ?_
      refine hK1 _ _ _ ?_
      refine W.ret ?_
      try dsimp only [thenQ, blockQ, retQ]
      first | refine ⟨_, ⟨_, _, rfl, rfl, rfl⟩, ?_⟩ | (refine retD_mark ?_; intro w H; refine ⟨_, ⟨_, _, rfl, rfl, rfl⟩, ?_⟩) | (refine retD_mark2 ?_; intro w H; refine ⟨_, ⟨_, _, rfl, rfl, rfl⟩, ?_⟩)
      exact ⟨_, rfl, rq_open.2 ⟨_, _, _, WR.zero l, rqO_open.2 (Holds.to (by assumption))⟩⟩
  · refine O.makeR (false : Bool) (e := Value.bool) (bt := 1) Tryd.runUnderlying49 Tryd.sizeOf4 Tryd.zeroValue4 Tryd.typeInfo4 rfl rfl rfl (fun s8 w hs8 H => ?_)
    refine O.thenNil ⟨(by first | exact Holds.to (by assumption) | assumption), ?_⟩
    refine OQ.step rfl ?_
    refine O.build0 (e := Value.int .i64) Tryd.runUnderlying22 Tryd.sizeOf3 (fun v3 w hv3 H => ?_)
    refine O.thenNil ⟨(by first | exact Holds.to (by assumption) | assumption), ?_⟩
    refine OQ.step rfl ?_
    refine O.appendIn Tryd.runUnderlying22 Tryd.typeInfo3 (bt := 8) rfl Tryd.sizeOf3 Tryd.zeroValue3 rfl rfl (fun v5 w hv5 H => ?_)
    refine O.thenNil ⟨(by first | exact Holds.to (by assumption) | assumption), ?_⟩
    refine OQ.ex rfl (fun w H => (Ex.build rfl (bld51_0_1 _ _ (by first | rfl | assumption) (by first | rfl | assumption)))) rfl ?_
    refine OQ.step rfl ?_
    refine O.boxP rfl (fun b10 w H => ?_)
    refine O.thenNil ⟨(by first | exact Holds.to (by assumption) | assumption), ?_⟩
    refine OQ.ex rfl (fun w H => (Ex.assign rfl)) rfl ?_
    refine OQ.done ?_
    refine hK1 _ _ _ ?_
    refine W.ret ?_
    try dsimp only [thenQ, blockQ, retQ]
    first | refine ⟨_, ⟨_, _, rfl, rfl, rfl⟩, ?_⟩ | (refine retD_mark ?_; intro w H; refine ⟨_, ⟨_, _, rfl, rfl, rfl⟩, ?_⟩) | (refine retD_mark2 ?_; intro w H; refine ⟨_, ⟨_, _, rfl, rfl, rfl⟩, ?_⟩)
    exact ⟨_, rfl, rq_open.2 ⟨_, _, _, WR.zero l, rqO_open.2 (Holds.to (by assumption))⟩⟩
theorem rqPut_ct {w : World} {r : Nat} {rk : List Int} {s : Nat} {v : Int} {L : List HProp} (hr : RightP rk) (hs : s < 18446744073709551616) (H : Holds w (Rq r rk s :: L)) :
    CT Tryd.prog 12 [.pointer (some ⟨r, 0, none⟩), .int .i64 v] w fun u w' => u = .int .i64 (pcode rk s v) ∧ Holds w' (Rq r rk (pset rk s v) :: L) := by
  obtain ⟨rv, wv, Wt, hW, H⟩ := rq_open.1 H
  have H := rqO_open.1 H
  have hwl := hW.len
  refine CT.enter (N := 29) Tryd.func12 rfl rfl rfl rfl ?_
  refine W.seq (fun K0 hK0 => ?_)
  refine W.region ?_
  refine O.ex (Ex.assign rfl) rfl ?_
  refine O.nil ?_
  refine hK0 _ _ _ ?_
  refine W.seq (fun K1 hK1 => ?_)
  refine W.seq (fun K2 hK2 => ?_)
  refine W.region ?_
  refine O.ex (Ex.move rfl) rfl ?_
  refine O.ex (Ex.lss rfl rfl) rfl ?_
  refine O.ex (Ex.move rfl) rfl ?_
  first | refine O.split_p (t := 7) rfl (fun hneg => ?_) (fun hpos => ?_) | refine O.split (t := 7) rfl (fun hneg => ?_) (fun hpos => ?_)
  · refine O.guard_f rfl rfl rfl rfl ?_
    refine O.guard_f rfl rfl rfl rfl ?_
    refine O.guard_f rfl rfl rfl rfl ?_
    refine O.guard_f rfl rfl rfl rfl ?_
    refine O.guard_f rfl rfl rfl rfl ?_
    refine O.guard_f rfl rfl rfl rfl ?_
    refine O.guard_f rfl rfl rfl rfl ?_
    refine O.ex (Ex.pick_t rfl rfl) rfl ?_
    refine O.nil ?_
    refine hK2 _ _ _ ?_
    refine W.cond_t rfl ?_
    refine W.seq (fun K3 hK3 => ?_)
    refine W.region ?_
    refine O.ex (Ex.assign rfl) rfl ?_
    refine O.nil ?_
    refine hK3 _ _ _ ?_
    refine W.ret ?_
    try dsimp only [thenQ, blockQ, retQ]
    first | refine ⟨_, ⟨_, _, rfl, rfl, rfl⟩, ?_⟩ | (refine retD_mark ?_; intro w H; refine ⟨_, ⟨_, _, rfl, rfl, rfl⟩, ?_⟩) | (refine retD_mark2 ?_; intro w H; refine ⟨_, ⟨_, _, rfl, rfl, rfl⟩, ?_⟩)
    first
    | (have hc : pcode rk s v = 1 := by unfold pcode; rw [if_pos (by omega)]
       have hl : pset rk s v = s := by unfold pset; rw [if_neg (by rw [hc]; decide)]
       rw [hc, hl]
       exact ⟨rfl, rq_open.2 ⟨_, _, _, hW, rqO_open.2 (Holds.to (by assumption))⟩⟩)
    | (have hs1 : s.testBit (rk.getD k default).toNat = false := by rw [← hg]; simpa using hout
       have hc : pcode rk s (k : Int) = 0 := by unfold pcode; rw [if_neg (by omega), Int.toNat_natCast, hs1]; rfl
       have hl : pset rk s (k : Int) = s ||| bitN (rk.getD k default) := by unfold pset; rw [if_pos hc, Int.toNat_natCast]
       rw [hc, hl]
       exact ⟨rfl, rq_open.2 ⟨_, _, _, hW.put hr hk, rqO_open.2 (Holds.to (by assumption))⟩⟩)
    | (have hs1 : s.testBit (rk.getD k default).toNat = true := by rw [← hg]; simpa using hin
       have hc : pcode rk s (k : Int) = 5 := by unfold pcode; rw [if_neg (by omega), Int.toNat_natCast, hs1]; rfl
       have hl : pset rk s (k : Int) = s := by unfold pset; rw [if_neg (by rw [hc]; decide)]
       rw [hc, hl]
       exact ⟨rfl, rq_open.2 ⟨_, _, _, hW, rqO_open.2 (Holds.to (by assumption))⟩⟩)
  · refine O.guard_t rfl rfl ?_
    refine O.ex (Ex.move rfl) rfl ?_
    refine O.guard_t rfl rfl ?_
    refine O.ex (Ex.move rfl) rfl ?_
    refine O.guard_t rfl rfl ?_
    refine O.ex (by first | exact Ex.nilPtr rfl | exact Ex.nilFunc rfl | exact Ex.nilYield rfl) rfl ?_
    refine O.guard_t rfl rfl ?_
    refine O.ex (by first | exact Ex.field0 fld51_0 rfl | exact Ex.field fld51_0 rfl | exact Ex.fieldS fld51_0 rfl) rfl ?_
    refine O.guard_t rfl rfl ?_
    refine O.ex (by first | exact Ex.loadP Tryd.isAgg22 rfl | exact Ex.loadR Tryd.isAgg22 rfl | exact Ex.loadIn1 Tryd.isAgg22 rfl (Holds.to (by assumption))) rfl ?_
    refine O.guard_t rfl rfl ?_
    refine O.ex (by first | exact Ex.lenR Tryd.runUnderlying22 rfl | exact Ex.lenIn Tryd.runUnderlying22 rfl | exact Ex.lenL Tryd.runUnderlying22 rfl | exact Ex.len rfl Tryd.runUnderlying22 rfl) rfl ?_
    refine O.guard_t rfl rfl ?_
    refine O.ex (Ex.geq rfl rfl) rfl ?_
    refine O.ex (Ex.pick_f rfl rfl) rfl ?_
    refine O.nil ?_
    refine hK2 _ _ _ ?_
    first | refine W.cond_p rfl (fun hge => ?_) (fun hlt => ?_) | refine W.cond_b rfl (fun hge => ?_) (fun hlt => ?_)
    · refine W.seq (fun K4 hK4 => ?_)
      refine W.region ?_
      refine O.ex (Ex.assign rfl) rfl ?_
      refine O.nil ?_
      refine hK4 _ _ _ ?_
      refine W.ret ?_
      try dsimp only [thenQ, blockQ, retQ]
      first | refine ⟨_, ⟨_, _, rfl, rfl, rfl⟩, ?_⟩ | (refine retD_mark ?_; intro w H; refine ⟨_, ⟨_, _, rfl, rfl, rfl⟩, ?_⟩) | (refine retD_mark2 ?_; intro w H; refine ⟨_, ⟨_, _, rfl, rfl, rfl⟩, ?_⟩)
      first
      | (have hc : pcode rk s v = 1 := by unfold pcode; rw [if_pos (by omega)]
         have hl : pset rk s v = s := by unfold pset; rw [if_neg (by rw [hc]; decide)]
         rw [hc, hl]
         exact ⟨rfl, rq_open.2 ⟨_, _, _, hW, rqO_open.2 (Holds.to (by assumption))⟩⟩)
      | (have hs1 : s.testBit (rk.getD k default).toNat = false := by rw [← hg]; simpa using hout
         have hc : pcode rk s (k : Int) = 0 := by unfold pcode; rw [if_neg (by omega), Int.toNat_natCast, hs1]; rfl
         have hl : pset rk s (k : Int) = s ||| bitN (rk.getD k default) := by unfold pset; rw [if_pos hc, Int.toNat_natCast]
         rw [hc, hl]
         exact ⟨rfl, rq_open.2 ⟨_, _, _, hW.put hr hk, rqO_open.2 (Holds.to (by assumption))⟩⟩)
      | (have hs1 : s.testBit (rk.getD k default).toNat = true := by rw [← hg]; simpa using hin
         have hc : pcode rk s (k : Int) = 5 := by unfold pcode; rw [if_neg (by omega), Int.toNat_natCast, hs1]; rfl
         have hl : pset rk s (k : Int) = s := by unfold pset; rw [if_neg (by rw [hc]; decide)]
         rw [hc, hl]
         exact ⟨rfl, rq_open.2 ⟨_, _, _, hW, rqO_open.2 (Holds.to (by assumption))⟩⟩)
    · refine W.skip ?_
      refine hK1 _ _ _ ?_
      refine W.seq (fun K5 hK5 => ?_)
      refine W.seq (fun K6 hK6 => ?_)
      refine W.region ?_
      obtain ⟨k, rfl⟩ : ∃ k : Nat, v = k := ⟨v.toNat, by omega⟩
      have hk : k < rk.length := by omega
      have hk0 : (0 : Int) ≤ (k : Int) := by omega
      have hg := hW.get k hk
      refine O.ex (Ex.move rfl) rfl ?_
      refine O.ex (by first | exact Ex.nilPtr rfl | exact Ex.nilFunc rfl | exact Ex.nilYield rfl) rfl ?_
      refine O.ex (by first | exact Ex.field0 fld51_1 rfl | exact Ex.field fld51_1 rfl | exact Ex.fieldS fld51_1 rfl) rfl ?_
      refine O.ex (by first | exact Ex.loadP Tryd.isAgg49 rfl | exact Ex.loadR Tryd.isAgg49 rfl | exact Ex.loadIn1 Tryd.isAgg49 rfl (Holds.to (by assumption))) rfl ?_
      refine O.ex (Ex.move rfl) rfl ?_
      refine O.ex (by first | exact Ex.idxR Tryd.runUnderlying49 Tryd.sizeOf4 rfl rfl | exact Ex.idxIn Tryd.runUnderlying49 Tryd.sizeOf4 rfl rfl | exact Ex.idxS Tryd.runUnderlying49 Tryd.sizeOf4 rfl rfl | exact Ex.idx Tryd.runUnderlying49 Tryd.sizeOf4 rfl rfl (by omega) (by omega)) rfl ?_
      refine O.ex (by first | exact Ex.loadP Tryd.isAgg4 rfl | exact Ex.loadR Tryd.isAgg4 rfl | exact Ex.loadIn1 Tryd.isAgg4 rfl (Holds.to (by assumption))) rfl ?_
      refine O.nil ?_
      refine hK6 _ _ _ ?_
      first | refine W.cond_p rfl (fun hin => ?_) (fun hout => ?_) | refine W.cond_b rfl (fun hin => ?_) (fun hout => ?_)
      · refine W.seq (fun K7 hK7 => ?_)
        refine W.region ?_
        refine O.ex (Ex.assign rfl) rfl ?_
        refine O.nil ?_
        refine hK7 _ _ _ ?_
        refine W.ret ?_
        try dsimp only [thenQ, blockQ, retQ]
        first | refine ⟨_, ⟨_, _, rfl, rfl, rfl⟩, ?_⟩ | (refine retD_mark ?_; intro w H; refine ⟨_, ⟨_, _, rfl, rfl, rfl⟩, ?_⟩) | (refine retD_mark2 ?_; intro w H; refine ⟨_, ⟨_, _, rfl, rfl, rfl⟩, ?_⟩)
        first
        | (have hc : pcode rk s v = 1 := by unfold pcode; rw [if_pos (by omega)]
           have hl : pset rk s v = s := by unfold pset; rw [if_neg (by rw [hc]; decide)]
           rw [hc, hl]
           exact ⟨rfl, rq_open.2 ⟨_, _, _, hW, rqO_open.2 (Holds.to (by assumption))⟩⟩)
        | (have hs1 : s.testBit (rk.getD k default).toNat = false := by rw [← hg]; simpa using hout
           have hc : pcode rk s (k : Int) = 0 := by unfold pcode; rw [if_neg (by omega), Int.toNat_natCast, hs1]; rfl
           have hl : pset rk s (k : Int) = s ||| bitN (rk.getD k default) := by unfold pset; rw [if_pos hc, Int.toNat_natCast]
           rw [hc, hl]
           exact ⟨rfl, rq_open.2 ⟨_, _, _, hW.put hr hk, rqO_open.2 (Holds.to (by assumption))⟩⟩)
        | (have hs1 : s.testBit (rk.getD k default).toNat = true := by rw [← hg]; simpa using hin
           have hc : pcode rk s (k : Int) = 5 := by unfold pcode; rw [if_neg (by omega), Int.toNat_natCast, hs1]; rfl
           have hl : pset rk s (k : Int) = s := by unfold pset; rw [if_neg (by rw [hc]; decide)]
           rw [hc, hl]
           exact ⟨rfl, rq_open.2 ⟨_, _, _, hW, rqO_open.2 (Holds.to (by assumption))⟩⟩)
      · refine W.skip ?_
        refine hK5 _ _ _ ?_
        refine W.seq (fun K8 hK8 => ?_)
        refine W.region ?_
        refine O.ex (Ex.move rfl) rfl ?_
        refine O.ex (by first | exact Ex.nilPtr rfl | exact Ex.nilFunc rfl | exact Ex.nilYield rfl) rfl ?_
        refine O.ex (by first | exact Ex.field0 fld51_1 rfl | exact Ex.field fld51_1 rfl | exact Ex.fieldS fld51_1 rfl) rfl ?_
        refine O.ex (by first | exact Ex.loadP Tryd.isAgg49 rfl | exact Ex.loadR Tryd.isAgg49 rfl | exact Ex.loadIn1 Tryd.isAgg49 rfl (Holds.to (by assumption))) rfl ?_
        refine O.ex (Ex.move rfl) rfl ?_
        refine O.ex (by first | exact Ex.idxR Tryd.runUnderlying49 Tryd.sizeOf4 rfl rfl | exact Ex.idxIn Tryd.runUnderlying49 Tryd.sizeOf4 rfl rfl | exact Ex.idxS Tryd.runUnderlying49 Tryd.sizeOf4 rfl rfl | exact Ex.idx Tryd.runUnderlying49 Tryd.sizeOf4 rfl rfl (by omega) (by omega)) rfl ?_
        first | refine O.storeP Tryd.sizeOf4 rfl rfl (fun w H => ?_) | refine O.storeR Tryd.sizeOf4 rfl rfl (fun w H => ?_)
        refine O.nil ?_
        refine hK8 _ _ _ ?_
        refine W.seq (fun K9 hK9 => ?_)
        refine W.region ?_
        refine O.ex (Ex.assign rfl) rfl ?_
        refine O.nil ?_
        refine hK9 _ _ _ ?_
        refine W.ret ?_
        try dsimp only [thenQ, blockQ, retQ]
        first | refine ⟨_, ⟨_, _, rfl, rfl, rfl⟩, ?_⟩ | (refine retD_mark ?_; intro w H; refine ⟨_, ⟨_, _, rfl, rfl, rfl⟩, ?_⟩) | (refine retD_mark2 ?_; intro w H; refine ⟨_, ⟨_, _, rfl, rfl, rfl⟩, ?_⟩)
        first
        | (have hc : pcode rk s v = 1 := by unfold pcode; rw [if_pos (by omega)]
           have hl : pset rk s v = s := by unfold pset; rw [if_neg (by rw [hc]; decide)]
           rw [hc, hl]
           exact ⟨rfl, rq_open.2 ⟨_, _, _, hW, rqO_open.2 (Holds.to (by assumption))⟩⟩)
        | (have hs1 : s.testBit (rk.getD k default).toNat = false := by rw [← hg]; simpa using hout
           have hc : pcode rk s (k : Int) = 0 := by unfold pcode; rw [if_neg (by omega), Int.toNat_natCast, hs1]; rfl
           have hl : pset rk s (k : Int) = s ||| bitN (rk.getD k default) := by unfold pset; rw [if_pos hc, Int.toNat_natCast]
           rw [hc, hl]
           exact ⟨rfl, rq_open.2 ⟨_, _, _, hW.put hr hk, rqO_open.2 (Holds.to (by assumption))⟩⟩)
        | (have hs1 : s.testBit (rk.getD k default).toNat = true := by rw [← hg]; simpa using hin
           have hc : pcode rk s (k : Int) = 5 := by unfold pcode; rw [if_neg (by omega), Int.toNat_natCast, hs1]; rfl
           have hl : pset rk s (k : Int) = s := by unfold pset; rw [if_neg (by rw [hc]; decide)]
           rw [hc, hl]
           exact ⟨rfl, rq_open.2 ⟨_, _, _, hW, rqO_open.2 (Holds.to (by assumption))⟩⟩)
/-- What is told of the vertices below v, of the rank k. -/
def oneV (rk : List Int) (s k v : Nat) : List Int := if s.testBit k = true ∧ (invL rk).getD k default < v then [(invL rk).getD k default] else []
def accV (rk : List Int) (s k : Nat) : List Int := (lstN s k).map fun r => (invL rk).getD r.toNat default
theorem accV_all {rk : List Int} {s : Nat} (hs : SOk rk.length s) (h24 : rk.length ≤ 24) : accV rk s rk.length = alL rk s := by
  unfold accV alL
  have key : ∀ d, rk.length + d ≤ 64 → lstN s (rk.length + d) = lstN s rk.length := by
    intro d
    induction d with
    | zero => intro _; rfl
    | succ d ih =>
      intro hd
      rw [← Nat.add_assoc, lstN_f s _ (fun hb => by have := hs.2 _ (by omega) hb; omega), ih (by omega)]
  have := key (64 - rk.length) (by omega)
  rw [show rk.length + (64 - rk.length) = 64 from by omega, lstN_64] at this
  rw [this]
theorem oneV_step {rk : List Int} {s k v : Nat} {Wt : List Bool} (hr : RightP rk) (hW : WR rk s Wt) (hk : k < rk.length) (hv : v < rk.length) :
    oneV rk s k (v + 1) = oneV rk s k v ++ (if rk.getD v default = k ∧ Wt.getD v default = true then [(v : Int)] else []) := by
  unfold oneV
  have hb := by_rng hr hk
  rw [hW.get v hv]
  by_cases e : rk.getD v default = k
  · have e2 := (rk_iff hr hv hk).1 e
    rw [e, e2, Int.toNat_natCast, if_neg (show ¬ (s.testBit k = true ∧ (v : Int) < (v : Nat)) by omega)]
    by_cases hs : s.testBit k = true
    · rw [if_pos ⟨hs, by omega⟩, if_pos ⟨rfl, hs⟩]; rfl
    · rw [if_neg (fun h => hs h.1), if_neg (fun h => hs h.2)]; rfl
  · have e2 : (invL rk).getD k default ≠ v := fun h => e ((rk_iff hr hv hk).2 h)
    rw [if_neg (fun h : rk.getD v default = k ∧ _ => e h.1), List.append_nil]
    by_cases h : s.testBit k = true ∧ (invL rk).getD k default < (v : Int)
    · rw [if_pos h, if_pos ⟨h.1, by omega⟩]
    · rw [if_neg h, if_neg (fun h2 => h ⟨h2.1, by omega⟩)]
theorem accV_step {rk : List Int} {s k : Nat} (hr : RightP rk) (hk : k < rk.length) : accV rk s (k + 1) = accV rk s k ++ oneV rk s k rk.length := by
  have hb := by_rng hr hk
  unfold accV oneV
  by_cases h : s.testBit k = true
  · rw [lstN_t s k h, if_pos ⟨h, hb.2⟩, List.map_append]; rfl
  · rw [lstN_f s k h, if_neg (fun h2 => h h2.1), List.append_nil]
theorem accV_len (rk : List Int) (s k : Nat) : (accV rk s k).length ≤ k := by unfold accV; rw [List.length_map]; exact lstN_le s k
theorem oneV_len (rk : List Int) (s k v : Nat) : (oneV rk s k v).length ≤ 1 := by unfold oneV; split <;> simp
theorem oneV_zero {rk : List Int} (s : Nat) {k : Nat} (hr : RightP rk) (hk : k < rk.length) : oneV rk s k 0 = [] := by
  have := by_rng hr hk
  unfold oneV; rw [if_neg (by omega)]
set_option maxHeartbeats 1000000 in
theorem rqAll_ct {w : World} {r : Nat} {rk : List Int} {s : Nat} {L : List HProp} (hr : RightP rk) (hs : SOk rk.length s) (H : Holds w (Rq r rk s :: L)) :
    CT Tryd.prog 13 [.pointer (some ⟨r, 0, none⟩)] w fun u w' => u.oneCell' = true ∧ Holds w' (arr 3 (Value.int .i64) u (alL rk s) :: Rq r rk s :: L) := by
  obtain ⟨rv, wv, Wt, hW, H⟩ := rq_open.1 H
  have hwl := hW.len
  have h24 := hr.1
  refine CT.enter (N := 47) Tryd.func13 rfl rfl rfl rfl ?_
  refine W.seq (fun K0 hK0 => ?_)
  refine W.region ?_
  refine O.ex (Ex.assign rfl) rfl ?_
  refine O.nil ?_
  refine hK0 _ _ _ ?_
  refine W.seq (fun K1 hK1 => ?_)
  refine W.region ?_
  refine O.ex (Ex.assign rfl) rfl ?_
  refine O.nil ?_
  refine hK1 _ _ _ ?_
  refine W.seq (fun K2 hK2 => ?_)
  refine W.seq (fun K3 hK3 => ?_)
  refine W.region ?_
  refine O.ex (Ex.assign rfl) rfl ?_
  refine O.nil ?_
  refine hK3 _ _ _ ?_
  refine W.block ?_
  have H := arr_nil (T := 3) (e := Value.int .i64) H
  refine W.loop (σ := Nat × Value) (fun z => [(0, .pointer (some ⟨r, 0, none⟩)), (2, .slice none 0 0), (3, z.2), (4, .int .i64 (z.1 : Int))]) (fun z ds w => ds = [] ∧ z.1 ≤ rk.length ∧ z.2.oneCell' = true ∧ Holds w (arr 3 (Value.int .i64) z.2 (accV rk s z.1) :: RqO r rv wv rk Wt :: L)) (fun z => rk.length - z.1) (0, .slice none 0 0) ⟨rfl, rfl, rfl, rfl, trivial⟩ ⟨rfl, by dsimp only; omega, rfl, H⟩ ?_
  clear H
  rintro ⟨k, va⟩ _ w ⟨rfl, hk, hva, H⟩
  dsimp only at hk hva H
  dsimp only
  have H := rqO_open.1 H.swap
  refine W.seq (fun K4 hK4 => ?_)
  refine W.seq (fun K5 hK5 => ?_)
  refine W.region ?_
  refine O.ex (Ex.move rfl) rfl ?_
  refine O.ex (Ex.move rfl) rfl ?_
  refine O.ex (by first | exact Ex.nilPtr rfl | exact Ex.nilFunc rfl | exact Ex.nilYield rfl) rfl ?_
  refine O.ex (by first | exact Ex.field0 fld51_0 rfl | exact Ex.field fld51_0 rfl | exact Ex.fieldS fld51_0 rfl) rfl ?_
  refine O.ex (by first | exact Ex.loadP Tryd.isAgg22 rfl | exact Ex.loadR Tryd.isAgg22 rfl | exact Ex.loadIn1 Tryd.isAgg22 rfl (Holds.to (by assumption))) rfl ?_
  refine O.ex (by first | exact Ex.lenR Tryd.runUnderlying22 rfl | exact Ex.lenIn Tryd.runUnderlying22 rfl | exact Ex.lenL Tryd.runUnderlying22 rfl | exact Ex.len rfl Tryd.runUnderlying22 rfl) rfl ?_
  refine O.ex (Ex.lss rfl rfl) rfl ?_
  refine O.nil ?_
  refine hK5 _ _ _ ?_
  first | refine W.cond_p rfl (fun hlt => ?_) (fun hge => ?_) | refine W.cond_b rfl (fun hlt => ?_) (fun hge => ?_)
  · refine W.skip ?_
    refine hK4 _ _ _ ?_
    refine W.seq (fun K6 hK6 => ?_)
    refine W.block ?_
    refine W.seq (fun K7 hK7 => ?_)
    refine W.region ?_
    refine O.ex (Ex.assign rfl) rfl ?_
    refine O.nil ?_
    refine hK7 _ _ _ ?_
    refine W.block ?_
    have hkn : k < rk.length := by omega
    have H : Holds w (arr 3 (Value.int .i64) va (accV rk s k ++ oneV rk s k 0) :: RqO r rv wv rk Wt :: L) := by rw [oneV_zero s hr hkn, List.append_nil]; exact Holds.swap (rqO_open.2 (Holds.to (by assumption)))
    refine W.loop (σ := Nat × Value) (fun z => [(0, .pointer (some ⟨r, 0, none⟩)), (2, .slice none 0 0), (3, z.2), (4, .int .i64 (k : Int)), (5, .int .i64 (z.1 : Int))]) (fun z ds w => ds = [] ∧ z.1 ≤ rk.length ∧ z.2.oneCell' = true ∧ Holds w (arr 3 (Value.int .i64) z.2 (accV rk s k ++ oneV rk s k z.1) :: RqO r rv wv rk Wt :: L)) (fun z => rk.length - z.1) (0, va) ⟨rfl, rfl, rfl, rfl, rfl, trivial⟩ ⟨rfl, by dsimp only; omega, hva, H⟩ ?_
    clear H
    rintro ⟨v, vb⟩ _ w ⟨rfl, hv, hvb, H⟩
    dsimp only at hv hvb H
    dsimp only
    have H := rqO_open.1 H.swap
    have hl1 := accV_len rk s k
    have hl2 := oneV_len rk s k v
    have hl3 : (accV rk s k ++ oneV rk s k v).length ≤ 100 := by rw [List.length_append]; omega
    refine W.seq (fun K8 hK8 => ?_)
    refine W.seq (fun K9 hK9 => ?_)
    refine W.region ?_
    refine O.ex (Ex.move rfl) rfl ?_
    refine O.ex (Ex.move rfl) rfl ?_
    refine O.ex (by first | exact Ex.nilPtr rfl | exact Ex.nilFunc rfl | exact Ex.nilYield rfl) rfl ?_
    refine O.ex (by first | exact Ex.field0 fld51_0 rfl | exact Ex.field fld51_0 rfl | exact Ex.fieldS fld51_0 rfl) rfl ?_
    refine O.ex (by first | exact Ex.loadP Tryd.isAgg22 rfl | exact Ex.loadR Tryd.isAgg22 rfl | exact Ex.loadIn1 Tryd.isAgg22 rfl (Holds.to (by assumption))) rfl ?_
    refine O.ex (by first | exact Ex.lenR Tryd.runUnderlying22 rfl | exact Ex.lenIn Tryd.runUnderlying22 rfl | exact Ex.lenL Tryd.runUnderlying22 rfl | exact Ex.len rfl Tryd.runUnderlying22 rfl) rfl ?_
    refine O.ex (Ex.lss rfl rfl) rfl ?_
    refine O.nil ?_
    refine hK9 _ _ _ ?_
    first | refine W.cond_p rfl (fun hlt2 => ?_) (fun hge2 => ?_) | refine W.cond_b rfl (fun hlt2 => ?_) (fun hge2 => ?_)
    · refine W.skip ?_
      refine hK8 _ _ _ ?_
      refine W.seq (fun K10 hK10 => ?_)
      refine W.block ?_
      refine W.seq (fun K11 hK11 => ?_)
      refine W.region ?_
      have hvn : v < rk.length := by omega
      have hst := oneV_step hr hW hkn hvn
      refine O.ex (Ex.move rfl) rfl ?_
      refine O.ex (by first | exact Ex.nilPtr rfl | exact Ex.nilFunc rfl | exact Ex.nilYield rfl) rfl ?_
      refine O.ex (by first | exact Ex.field0 fld51_0 rfl | exact Ex.field fld51_0 rfl | exact Ex.fieldS fld51_0 rfl) rfl ?_
      refine O.ex (by first | exact Ex.loadP Tryd.isAgg22 rfl | exact Ex.loadR Tryd.isAgg22 rfl | exact Ex.loadIn1 Tryd.isAgg22 rfl (Holds.to (by assumption))) rfl ?_
      refine O.ex (Ex.move rfl) rfl ?_
      refine O.ex (by first | exact Ex.idxR Tryd.runUnderlying22 Tryd.sizeOf3 rfl rfl | exact Ex.idxIn Tryd.runUnderlying22 Tryd.sizeOf3 rfl rfl | exact Ex.idxS Tryd.runUnderlying22 Tryd.sizeOf3 rfl rfl | exact Ex.idx Tryd.runUnderlying22 Tryd.sizeOf3 rfl rfl (by omega) (by omega)) rfl ?_
      refine O.ex (by first | exact Ex.loadP Tryd.isAgg3 rfl | exact Ex.loadR Tryd.isAgg3 rfl | exact Ex.loadIn1 Tryd.isAgg3 rfl (Holds.to (by assumption))) rfl ?_
      refine O.ex (Ex.move rfl) rfl ?_
      refine O.ex (Ex.eqlI rfl rfl) rfl ?_
      refine O.ex (Ex.move rfl) rfl ?_
      first | refine O.split_p (t := 33) rfl (fun he => ?_) (fun hne => ?_) | refine O.split (t := 33) rfl (fun he => ?_) (fun hne => ?_)
      · refine O.guard_t rfl rfl ?_
        refine O.ex (Ex.move rfl) rfl ?_
        refine O.guard_t rfl rfl ?_
        refine O.ex (by first | exact Ex.nilPtr rfl | exact Ex.nilFunc rfl | exact Ex.nilYield rfl) rfl ?_
        refine O.guard_t rfl rfl ?_
        refine O.ex (by first | exact Ex.field0 fld51_1 rfl | exact Ex.field fld51_1 rfl | exact Ex.fieldS fld51_1 rfl) rfl ?_
        refine O.guard_t rfl rfl ?_
        refine O.ex (by first | exact Ex.loadP Tryd.isAgg49 rfl | exact Ex.loadR Tryd.isAgg49 rfl | exact Ex.loadIn1 Tryd.isAgg49 rfl (Holds.to (by assumption))) rfl ?_
        refine O.guard_t rfl rfl ?_
        refine O.ex (Ex.move rfl) rfl ?_
        refine O.guard_t rfl rfl ?_
        refine O.ex (by first | exact Ex.idxR Tryd.runUnderlying49 Tryd.sizeOf4 rfl rfl | exact Ex.idxIn Tryd.runUnderlying49 Tryd.sizeOf4 rfl rfl | exact Ex.idxS Tryd.runUnderlying49 Tryd.sizeOf4 rfl rfl | exact Ex.idx Tryd.runUnderlying49 Tryd.sizeOf4 rfl rfl (by omega) (by omega)) rfl ?_
        refine O.guard_t rfl rfl ?_
        refine O.ex (by first | exact Ex.loadP Tryd.isAgg4 rfl | exact Ex.loadR Tryd.isAgg4 rfl | exact Ex.loadIn1 Tryd.isAgg4 rfl (Holds.to (by assumption))) rfl ?_
        refine O.ex (Ex.pick_t rfl rfl) rfl ?_
        refine O.nil ?_
        refine hK11 _ _ _ ?_
        first | refine W.cond_p rfl (fun hin => ?_) (fun hout => ?_) | refine W.cond_b rfl (fun hin => ?_) (fun hout => ?_)
        · refine W.region ?_
          refine O.ex (Ex.move rfl) rfl ?_
          refine O.ex (Ex.move rfl) rfl ?_
          refine O.build1 (e := Value.int .i64) Tryd.runUnderlying22 Tryd.sizeOf3 Tryd.zeroValue3 rfl (fun v44 w hv44 H => ?_)
          refine O.appendR Tryd.runUnderlying22 Tryd.typeInfo3 (bt := 8) rfl Tryd.sizeOf3 Tryd.zeroValue3 rfl rfl (fun v45 w hv45 H => ?_)
          refine O.ex (Ex.assign rfl) rfl ?_
          refine O.nil ?_
          refine hK10 _ _ _ ?_
          refine W.region ?_
          refine O.ex (Ex.move rfl) rfl ?_
          refine O.ex (by first | exact Ex.addI rfl rfl | exact Ex.add rfl rfl rfl) rfl ?_
          refine O.ex (Ex.assign rfl) rfl ?_
          refine O.nil ?_
          refine ⟨(v + 1, _), ⟨rfl, rfl, rfl, rfl, rfl, trivial⟩, ⟨rfl, by dsimp only; omega, by assumption, ?_⟩, by dsimp only; omega⟩
          dsimp only
          rw [hst]
          first
          | (rw [if_neg (show ¬ (rk.getD v default = k ∧ Wt.getD v default = true) from fun h => hne h.1), List.append_nil]; exact Holds.swap (rqO_open.2 (Holds.to (by assumption))))
          | (rw [if_neg (show ¬ (rk.getD v default = k ∧ Wt.getD v default = true) from fun h => by have e : Wt.getD v default = false := (by simpa using hout); rw [e] at h; exact absurd h.2 (by decide)), List.append_nil]; exact Holds.swap (rqO_open.2 (Holds.to (by assumption))))
          | (rw [if_pos (show rk.getD v default = k ∧ Wt.getD v default = true from ⟨he, hin⟩), ← List.append_assoc]; exact Holds.swap (rqO_open.2 (Holds.to (by assumption))))
        · refine W.skip ?_
          refine hK10 _ _ _ ?_
          refine W.region ?_
          refine O.ex (Ex.move rfl) rfl ?_
          refine O.ex (by first | exact Ex.addI rfl rfl | exact Ex.add rfl rfl rfl) rfl ?_
          refine O.ex (Ex.assign rfl) rfl ?_
          refine O.nil ?_
          refine ⟨(v + 1, _), ⟨rfl, rfl, rfl, rfl, rfl, trivial⟩, ⟨rfl, by dsimp only; omega, by assumption, ?_⟩, by dsimp only; omega⟩
          dsimp only
          rw [hst]
          first
          | (rw [if_neg (show ¬ (rk.getD v default = k ∧ Wt.getD v default = true) from fun h => hne h.1), List.append_nil]; exact Holds.swap (rqO_open.2 (Holds.to (by assumption))))
          | (rw [if_neg (show ¬ (rk.getD v default = k ∧ Wt.getD v default = true) from fun h => by have e : Wt.getD v default = false := (by simpa using hout); rw [e] at h; exact absurd h.2 (by decide)), List.append_nil]; exact Holds.swap (rqO_open.2 (Holds.to (by assumption))))
          | (rw [if_pos (show rk.getD v default = k ∧ Wt.getD v default = true from ⟨he, hin⟩), ← List.append_assoc]; exact Holds.swap (rqO_open.2 (Holds.to (by assumption))))
      · refine O.guard_f rfl rfl rfl rfl ?_
        refine O.guard_f rfl rfl rfl rfl ?_
        refine O.guard_f rfl rfl rfl rfl ?_
        refine O.guard_f rfl rfl rfl rfl ?_
        refine O.guard_f rfl rfl rfl rfl ?_
        refine O.guard_f rfl rfl rfl rfl ?_
        refine O.guard_f rfl rfl rfl rfl ?_
        refine O.ex (Ex.pick_f rfl rfl) rfl ?_
        refine O.nil ?_
        refine hK11 _ _ _ ?_
        refine W.cond_f rfl ?_
        refine W.skip ?_
        refine hK10 _ _ _ ?_
        refine W.region ?_
        refine O.ex (Ex.move rfl) rfl ?_
        refine O.ex (by first | exact Ex.addI rfl rfl | exact Ex.add rfl rfl rfl) rfl ?_
        refine O.ex (Ex.assign rfl) rfl ?_
        refine O.nil ?_
        refine ⟨(v + 1, _), ⟨rfl, rfl, rfl, rfl, rfl, trivial⟩, ⟨rfl, by dsimp only; omega, by assumption, ?_⟩, by dsimp only; omega⟩
        dsimp only
        rw [hst]
        first
        | (rw [if_neg (show ¬ (rk.getD v default = k ∧ Wt.getD v default = true) from fun h => hne h.1), List.append_nil]; exact Holds.swap (rqO_open.2 (Holds.to (by assumption))))
        | (rw [if_neg (show ¬ (rk.getD v default = k ∧ Wt.getD v default = true) from fun h => by have e : Wt.getD v default = false := (by simpa using hout); rw [e] at h; exact absurd h.2 (by decide)), List.append_nil]; exact Holds.swap (rqO_open.2 (Holds.to (by assumption))))
        | (rw [if_pos (show rk.getD v default = k ∧ Wt.getD v default = true from ⟨he, hin⟩), ← List.append_assoc]; exact Holds.swap (rqO_open.2 (Holds.to (by assumption))))
    · refine W.exit ?_
      refine hK6 _ _ _ ?_
      refine W.region ?_
      refine O.ex (Ex.move rfl) rfl ?_
      refine O.ex (by first | exact Ex.addI rfl rfl | exact Ex.add rfl rfl rfl) rfl ?_
      refine O.ex (Ex.assign rfl) rfl ?_
      refine O.nil ?_
      refine ⟨(k + 1, vb), ⟨rfl, rfl, rfl, rfl, trivial⟩, ⟨rfl, by dsimp only; omega, by assumption, ?_⟩, by dsimp only; omega⟩
      obtain rfl : v = rk.length := by omega
      rw [accV_step hr hkn]
      exact Holds.swap (rqO_open.2 (Holds.to (by assumption)))
  · refine W.exit ?_
    refine hK2 _ _ _ ?_
    refine W.seq (fun K12 hK12 => ?_)
    refine W.region ?_
    refine O.ex (Ex.move rfl) rfl ?_
    refine O.ex (Ex.assign rfl) rfl ?_
    refine O.nil ?_
    refine hK12 _ _ _ ?_
    refine W.ret ?_
    try dsimp only [thenQ, blockQ, retQ]
    first | refine ⟨_, ⟨_, _, rfl, rfl, rfl⟩, ?_⟩ | (refine retD_mark ?_; intro w H; refine ⟨_, ⟨_, _, rfl, rfl, rfl⟩, ?_⟩) | (refine retD_mark2 ?_; intro w H; refine ⟨_, ⟨_, _, rfl, rfl, rfl⟩, ?_⟩)
    obtain rfl : k = rk.length := by omega
    rw [accV_all hs h24] at H
    exact ⟨hva, Holds.swap (rq_open.2 ⟨_, _, _, hW, rqO_open.2 (Holds.to (by assumption))⟩)⟩
theorem alL_zero {rk : List Int} {s : Nat} (hs : SOk rk.length s) : (alL rk s).length = 0 ↔ s = 0 := by
  rw [alL_len, List.length_eq_zero_iff, lst_nil hs.1]
theorem alL_fst {rk : List Int} {s : Nat} (hs : SOk rk.length s) (h0 : s ≠ 0) : (alL rk s).getD 0 default = (invL rk).getD (fstS s).toNat default := by
  have hf := fst_lt hs h0
  rw [alL_get rk s 0 hf.2.2.2.2, hf.2.2.2.1, Int.toNat_natCast]
theorem rqFloor_ct {w : World} {r : Nat} {rk : List Int} {s : Nat} {L : List HProp} (hr : RightP rk) (hs : SOk rk.length s) (H : Holds w (Rq r rk s :: L)) :
    CT Tryd.prog 41 [.pointer (some ⟨r, 0, none⟩)] w fun u w' => u = .int .i64 (flr rk s) ∧ Holds w' (Rq r rk s :: L) := by
  refine CT.enter (N := 23) Tryd.func41 rfl rfl rfl rfl ?_
  refine W.seq (fun K0 hK0 => ?_)
  refine W.region ?_
  refine O.ex (Ex.assign rfl) rfl ?_
  refine O.nil ?_
  refine hK0 _ _ _ ?_
  refine W.seq (fun K1 hK1 => ?_)
  refine W.region ?_
  refine O.ex (Ex.move rfl) rfl ?_
  refine O.callF Tryd.call13 rfl rfl (CT.mono (rqAll_ct hr hs (Holds.to (by assumption))) ?_)
  rintro _ w ⟨hu, H⟩
  rename_i va
  obtain ⟨rv, wv, Wt, hW, H⟩ := rq_open.1 H.swap
  have H := rqO_open.1 H
  refine O.ex (Ex.assign rfl) rfl ?_
  refine O.nil ?_
  refine hK1 _ _ _ ?_
  refine W.seq (fun K2 hK2 => ?_)
  refine W.seq (fun K3 hK3 => ?_)
  refine W.region ?_
  refine O.ex (Ex.move rfl) rfl ?_
  refine O.ex (by first | exact Ex.lenR Tryd.runUnderlying22 rfl | exact Ex.lenIn Tryd.runUnderlying22 rfl | exact Ex.lenL Tryd.runUnderlying22 rfl | exact Ex.len rfl Tryd.runUnderlying22 rfl) rfl ?_
  refine O.ex (Ex.eqlI rfl rfl) rfl ?_
  refine O.nil ?_
  refine hK3 _ _ _ ?_
  first | refine W.cond_p rfl (fun hz => ?_) (fun hnz => ?_) | refine W.cond_b rfl (fun hz => ?_) (fun hnz => ?_)
  · refine W.seq (fun K4 hK4 => ?_)
    refine W.region ?_
    refine O.ex (Ex.move rfl) rfl ?_
    refine O.ex (by first | exact Ex.nilPtr rfl | exact Ex.nilFunc rfl | exact Ex.nilYield rfl) rfl ?_
    refine O.ex (by first | exact Ex.field0 fld51_0 rfl | exact Ex.field fld51_0 rfl | exact Ex.fieldS fld51_0 rfl) rfl ?_
    refine O.ex (by first | exact Ex.loadP Tryd.isAgg22 rfl | exact Ex.loadR Tryd.isAgg22 rfl | exact Ex.loadIn1 Tryd.isAgg22 rfl (Holds.to (by assumption))) rfl ?_
    refine O.ex (by first | exact Ex.lenR Tryd.runUnderlying22 rfl | exact Ex.lenIn Tryd.runUnderlying22 rfl | exact Ex.lenL Tryd.runUnderlying22 rfl | exact Ex.len rfl Tryd.runUnderlying22 rfl) rfl ?_
    refine O.ex (Ex.assign rfl) rfl ?_
    refine O.nil ?_
    refine hK4 _ _ _ ?_
    refine W.ret ?_
    try dsimp only [thenQ, blockQ, retQ]
    first | refine ⟨_, ⟨_, _, rfl, rfl, rfl⟩, ?_⟩ | (refine retD_mark ?_; intro w H; refine ⟨_, ⟨_, _, rfl, rfl, rfl⟩, ?_⟩) | (refine retD_mark2 ?_; intro w H; refine ⟨_, ⟨_, _, rfl, rfl, rfl⟩, ?_⟩)
    refine ⟨?_, rq_open.2 ⟨_, _, _, hW, rqO_open.2 (Holds.to (by assumption))⟩⟩
    unfold flr
    first
    | (rw [if_neg h0]
       have e := rk_by hr hf.2.1
       rw [← ha] at e
       show Value.int .i64 (rk.getD ((alL rk s).getD 0 default).toNat default) = _
       rw [e, Int.toNat_of_nonneg hf.1])
    | (rw [if_pos ((alL_zero hs).1 (by omega))]; rfl)
  · refine W.skip ?_
    refine hK2 _ _ _ ?_
    refine W.seq (fun K5 hK5 => ?_)
    have h0 : s ≠ 0 := fun e => hnz (by have := (alL_zero hs).2 e; omega)
    have hf := fst_lt hs h0
    have ha := alL_fst hs h0
    have hb := by_rng hr hf.2.1
    rw [← ha] at hb
    have hpl : 0 < (alL rk s).length := by omega
    have s1 := arr_sl (T := 3) (e := Value.int .i64) (v := va) (xs := alL rk s) (Holds.to (by assumption)) (by omega)
    have s2 := arr_sl (T := 3) (e := Value.int .i64) (v := rv) (xs := rk) (Holds.to (by assumption)) (by omega)
    have hb0 : 0 ≤ (alL rk s).getD (Int.toNat 0) default := hb.1
    have hb1 : (alL rk s).getD (Int.toNat 0) default < rk.length := hb.2
    refine W.drawTo _ (.take 0 (.take 1 (.take 2 (.take 3 (.take 4 (.take 5 (.take 6 (.take 7 (.take 8 (.take 9 .nil)))))))))) (mixed) (fun _ _ _ _ h => h) (by assumption) (PP.refl _) (by decide +kernel) (fun w H => ?_)
    refine OQ.ex rfl (fun w H => (Ex.move rfl)) rfl ?_
    refine OQ.ex rfl (fun w H => (by first | exact Ex.nilPtr rfl | exact Ex.nilFunc rfl | exact Ex.nilYield rfl)) rfl ?_
    refine OQ.ex rfl (fun w H => (by first | exact Ex.field0 fld51_0 rfl | exact Ex.field fld51_0 rfl | exact Ex.fieldS fld51_0 rfl)) rfl ?_
    refine OQ.ex rfl (fun w H => (by first | exact Ex.loadP Tryd.isAgg22 rfl | exact Ex.loadR Tryd.isAgg22 rfl | exact Ex.loadIn1 Tryd.isAgg22 rfl (Holds.to (by assumption)))) rfl ?_
    refine OQ.ex rfl (fun w H => (Ex.move rfl)) rfl ?_
    refine OQ.ex rfl (fun w H => (by first | exact Ex.idxR Tryd.runUnderlying22 Tryd.sizeOf3 rfl rfl | exact Ex.idxIn Tryd.runUnderlying22 Tryd.sizeOf3 rfl rfl | exact Ex.idxS Tryd.runUnderlying22 Tryd.sizeOf3 rfl rfl | exact Ex.idx Tryd.runUnderlying22 Tryd.sizeOf3 rfl rfl (by omega) (by omega))) rfl ?_
    refine OQ.ex rfl (fun w H => (by first | exact Ex.loadP Tryd.isAgg3 rfl | exact Ex.loadR Tryd.isAgg3 rfl | exact Ex.loadIn1 Tryd.isAgg3 rfl (Holds.to (by assumption)))) rfl ?_
    refine OQ.ex rfl (fun w H => (by first | exact Ex.idxR Tryd.runUnderlying22 Tryd.sizeOf3 rfl rfl | exact Ex.idxIn Tryd.runUnderlying22 Tryd.sizeOf3 rfl rfl | exact Ex.idxS Tryd.runUnderlying22 Tryd.sizeOf3 rfl rfl | exact Ex.idx Tryd.runUnderlying22 Tryd.sizeOf3 rfl rfl (by omega) (by omega))) rfl ?_
    refine OQ.ex rfl (fun w H => (by first | exact Ex.loadP Tryd.isAgg3 rfl | exact Ex.loadR Tryd.isAgg3 rfl | exact Ex.loadIn1 Tryd.isAgg3 rfl (Holds.to (by assumption)))) rfl ?_
    refine OQ.ex rfl (fun w H => (Ex.assign rfl)) rfl ?_
    refine OQ.done ?_
    refine hK5 _ _ _ ?_
    refine W.ret ?_
    try dsimp only [thenQ, blockQ, retQ]
    first | refine ⟨_, ⟨_, _, rfl, rfl, rfl⟩, ?_⟩ | (refine retD_mark ?_; intro w H; refine ⟨_, ⟨_, _, rfl, rfl, rfl⟩, ?_⟩) | (refine retD_mark2 ?_; intro w H; refine ⟨_, ⟨_, _, rfl, rfl, rfl⟩, ?_⟩)
    refine ⟨?_, rq_open.2 ⟨_, _, _, hW, rqO_open.2 (Holds.to (by assumption))⟩⟩
    unfold flr
    first
    | (rw [if_neg h0]
       have e := rk_by hr hf.2.1
       rw [← ha] at e
       show Value.int .i64 (rk.getD ((alL rk s).getD 0 default).toNat default) = _
       rw [e, Int.toNat_of_nonneg hf.1])
    | (rw [if_pos ((alL_zero hs).1 (by omega))]; rfl)
theorem rqTake_ct {w : World} {r : Nat} {rk : List Int} {s : Nat} {L : List HProp} (hr : RightP rk) (hs : SOk rk.length s) (H : Holds w (Rq r rk s :: L)) :
    CT Tryd.prog 23 [.pointer (some ⟨r, 0, none⟩)] w fun u w' => u = .tuple #[.int .i64 (frs rk s), .bool (decide (s ≠ 0))] ∧ Holds w' (Rq r rk (tks rk s) :: L) := by
  refine CT.enter (N := 21) Tryd.func23 rfl rfl rfl rfl ?_
  refine W.seq (fun K0 hK0 => ?_)
  refine W.region ?_
  refine O.ex (Ex.assign rfl) rfl ?_
  refine O.ex (Ex.assign rfl) rfl ?_
  refine O.nil ?_
  refine hK0 _ _ _ ?_
  refine W.seq (fun K1 hK1 => ?_)
  refine W.region ?_
  refine O.ex (Ex.move rfl) rfl ?_
  refine O.callF Tryd.call13 rfl rfl (CT.mono (rqAll_ct hr hs (Holds.to (by assumption))) ?_)
  rintro _ w ⟨hu, H⟩
  rename_i va
  obtain ⟨rv, wv, Wt, hW, H⟩ := rq_open.1 H.swap
  have H := rqO_open.1 H
  refine O.ex (Ex.assign rfl) rfl ?_
  refine O.nil ?_
  refine hK1 _ _ _ ?_
  refine W.seq (fun K2 hK2 => ?_)
  refine W.seq (fun K3 hK3 => ?_)
  refine W.region ?_
  refine O.ex (Ex.move rfl) rfl ?_
  refine O.ex (by first | exact Ex.lenR Tryd.runUnderlying22 rfl | exact Ex.lenIn Tryd.runUnderlying22 rfl | exact Ex.lenL Tryd.runUnderlying22 rfl | exact Ex.len rfl Tryd.runUnderlying22 rfl) rfl ?_
  refine O.ex (Ex.eqlI rfl rfl) rfl ?_
  refine O.nil ?_
  refine hK3 _ _ _ ?_
  first | refine W.cond_p rfl (fun hz => ?_) (fun hnz => ?_) | refine W.cond_b rfl (fun hz => ?_) (fun hnz => ?_)
  · refine W.seq (fun K4 hK4 => ?_)
    refine W.region ?_
    refine O.ex (Ex.assign rfl) rfl ?_
    refine O.ex (Ex.assign rfl) rfl ?_
    refine O.nil ?_
    refine hK4 _ _ _ ?_
    refine W.ret ?_
    try dsimp only [thenQ, blockQ, retQ]
    first | refine ⟨_, ⟨_, _, rfl, rfl, _, _, rfl, rfl, rfl⟩, ?_⟩ | (refine retD_mark ?_; intro w H; refine ⟨_, ⟨_, _, rfl, rfl, _, _, rfl, rfl, rfl⟩, ?_⟩) | (refine retD_mark2 ?_; intro w H; refine ⟨_, ⟨_, _, rfl, rfl, _, _, rfl, rfl, rfl⟩, ?_⟩)
    first
    | (have e0 := rk_by hr hf.2.1
       have hv : ((alL rk s).getD 0 default).toNat < rk.length := by omega
       have ho := hW.out hr hv
       have et : s &&& (18446744073709551615 - bitN (rk.getD ((alL rk s).getD 0 default).toNat default)) = tks rk s := by
         unfold tks flr
         rw [if_neg h0, ha, e0, Int.toNat_of_nonneg hf.1]
       rw [et] at ho
       refine ⟨?_, rq_open.2 ⟨_, _, _, ho, rqO_open.2 (Holds.to (by assumption))⟩⟩
       unfold frs
       rw [if_neg h0, decide_eq_true h0, ← ha]; rfl)
    | (have e := (alL_zero hs).1 (by omega)
       have et : tks rk s = s := by unfold tks; rw [e, Nat.zero_and]
       rw [et]
       refine ⟨?_, rq_open.2 ⟨_, _, _, hW, rqO_open.2 (Holds.to (by assumption))⟩⟩
       unfold frs
       rw [if_pos e, decide_eq_false (fun h => h e)]; rfl)
  · refine W.skip ?_
    refine hK2 _ _ _ ?_
    refine W.seq (fun K5 hK5 => ?_)
    have h0 : s ≠ 0 := fun e => hnz (by have := (alL_zero hs).2 e; omega)
    have hf := fst_lt hs h0
    have ha := alL_fst hs h0
    have hb := by_rng hr hf.2.1
    have hwl := hW.len
    rw [← ha] at hb
    have hpl : 0 < (alL rk s).length := by omega
    have s1 := arr_sl (T := 3) (e := Value.int .i64) (v := va) (xs := alL rk s) (Holds.to (by assumption)) (by omega)
    have s2 := arr_sl (T := 4) (e := Value.bool) (v := wv) (xs := Wt) (Holds.to (by assumption)) (by omega)
    have hb0 : 0 ≤ (alL rk s).getD (Int.toNat 0) default := hb.1
    have hb1 : (alL rk s).getD (Int.toNat 0) default < Wt.length := by rw [hwl]; exact hb.2
    refine W.drawTo (arr 3 (Value.int .i64) va _ :: pt r _ :: []) (.take 0 (.take 1 (.take 2 (.take 3 (.take 4 (.take 5 (.take 6 (.take 7 (.one 8 .nil))))))))) (mixed) (fun _ _ _ _ h => h) (by assumption) PP.auto (by decide +kernel) (fun w H => ?_)
    refine OQ.ex rfl (fun w H => (Ex.move rfl)) rfl ?_
    refine OQ.ex rfl (fun w H => (by first | exact Ex.nilPtr rfl | exact Ex.nilFunc rfl | exact Ex.nilYield rfl)) rfl ?_
    refine OQ.ex rfl (fun w H => (by first | exact Ex.field0 fld51_1 rfl | exact Ex.field fld51_1 rfl | exact Ex.fieldS fld51_1 rfl)) rfl ?_
    refine OQ.ex rfl (fun w H => (by first | exact Ex.loadP Tryd.isAgg49 rfl | exact Ex.loadR Tryd.isAgg49 rfl | exact Ex.loadIn1 Tryd.isAgg49 rfl (Holds.to (by assumption)))) rfl ?_
    refine OQ.ex rfl (fun w H => (Ex.move rfl)) rfl ?_
    refine OQ.ex rfl (fun w H => (by first | exact Ex.idxR Tryd.runUnderlying22 Tryd.sizeOf3 rfl rfl | exact Ex.idxIn Tryd.runUnderlying22 Tryd.sizeOf3 rfl rfl | exact Ex.idxS Tryd.runUnderlying22 Tryd.sizeOf3 rfl rfl | exact Ex.idx Tryd.runUnderlying22 Tryd.sizeOf3 rfl rfl (by omega) (by omega))) rfl ?_
    refine OQ.ex rfl (fun w H => (by first | exact Ex.loadP Tryd.isAgg3 rfl | exact Ex.loadR Tryd.isAgg3 rfl | exact Ex.loadIn1 Tryd.isAgg3 rfl (Holds.to (by assumption)))) rfl ?_
    refine OQ.ex rfl (fun w H => (by first | exact Ex.idxR Tryd.runUnderlying49 Tryd.sizeOf4 rfl rfl | exact Ex.idxIn Tryd.runUnderlying49 Tryd.sizeOf4 rfl rfl | exact Ex.idxS Tryd.runUnderlying49 Tryd.sizeOf4 rfl rfl | exact Ex.idx Tryd.runUnderlying49 Tryd.sizeOf4 rfl rfl (by omega) (by omega))) rfl ?_
    refine OQ.last rfl (by decide +kernel) ?_
    first | refine O.storeP Tryd.sizeOf4 rfl rfl (fun w H => ?_) | refine O.storeR Tryd.sizeOf4 rfl rfl (fun w H => ?_)
    refine O.nil ?_
    refine hK5 _ _ _ ?_
    refine W.seq (fun K6 hK6 => ?_)
    refine W.region ?_
    refine O.ex (Ex.move rfl) rfl ?_
    refine O.ex (by first | exact Ex.idxR Tryd.runUnderlying22 Tryd.sizeOf3 rfl rfl | exact Ex.idxIn Tryd.runUnderlying22 Tryd.sizeOf3 rfl rfl | exact Ex.idxS Tryd.runUnderlying22 Tryd.sizeOf3 rfl rfl | exact Ex.idx Tryd.runUnderlying22 Tryd.sizeOf3 rfl rfl (by omega) (by omega)) rfl ?_
    refine O.ex (by first | exact Ex.loadP Tryd.isAgg3 rfl | exact Ex.loadR Tryd.isAgg3 rfl | exact Ex.loadIn1 Tryd.isAgg3 rfl (Holds.to (by assumption))) rfl ?_
    refine O.ex (Ex.assign rfl) rfl ?_
    refine O.ex (Ex.assign rfl) rfl ?_
    refine O.nil ?_
    refine hK6 _ _ _ ?_
    refine W.ret ?_
    try dsimp only [thenQ, blockQ, retQ]
    first | refine ⟨_, ⟨_, _, rfl, rfl, _, _, rfl, rfl, rfl⟩, ?_⟩ | (refine retD_mark ?_; intro w H; refine ⟨_, ⟨_, _, rfl, rfl, _, _, rfl, rfl, rfl⟩, ?_⟩) | (refine retD_mark2 ?_; intro w H; refine ⟨_, ⟨_, _, rfl, rfl, _, _, rfl, rfl, rfl⟩, ?_⟩)
    first
    | (have e0 := rk_by hr hf.2.1
       have hv : ((alL rk s).getD 0 default).toNat < rk.length := by omega
       have ho := hW.out hr hv
       have et : s &&& (18446744073709551615 - bitN (rk.getD ((alL rk s).getD 0 default).toNat default)) = tks rk s := by
         unfold tks flr
         rw [if_neg h0, ha, e0, Int.toNat_of_nonneg hf.1]
       rw [et] at ho
       refine ⟨?_, rq_open.2 ⟨_, _, _, ho, rqO_open.2 (Holds.to (by assumption))⟩⟩
       unfold frs
       rw [if_neg h0, decide_eq_true h0, ← ha]; rfl)
    | (have e := (alL_zero hs).1 (by omega)
       have et : tks rk s = s := by unfold tks; rw [e, Nat.zero_and]
       rw [et]
       refine ⟨?_, rq_open.2 ⟨_, _, _, hW, rqO_open.2 (Holds.to (by assumption))⟩⟩
       unfold frs
       rw [if_pos e, decide_eq_false (fun h => h e)]; rfl)
end Go.Proofs.YtgbhccpjpimgfaaDoor
