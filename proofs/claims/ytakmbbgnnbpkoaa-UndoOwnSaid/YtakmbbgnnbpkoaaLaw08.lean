import Derived.Test.YtakmbbgnnbpkoaaRefG3
import Derived.Test.YtakmbbgnnbpkoaaBits
--ARR
--INF
--DEEP
--LOADS loadRT loadRA loadRN loadRM
namespace Go.Proofs.Ytakmbbgnnbpkoaa
open Go.Rr Go Gr
set_option linter.unusedVariables false
theorem keyArc (a : Arc) (w : World) (d : Nat) : (Op.equalIn (d + 1 + 1 + 1) 31 a.val a.val).run Try.prog w = .ok true w := by
  unfold Arc.val
  rw [eqStruct (d + 2) Try.underlying31 Try.stoodInHeld31]
  simp [Op.eqFields, part, Try.isAgg3 w, run_equalIn_int w (d + 1) 3 .i64 .i64 _ _ Try.underlying3, equalIn_bool (dp := d + 1) (w := w) (b := a.cl) (c := a.cl) Try.runUnderlying4]
theorem eqArc (a : Arc) (w : World) : (binOp .neq 31 a.val a.val).run Try.prog w = .ok (.bool false) w := by
  have h := keyArc a w 9997
  unfold Arc.val at h ⊢
  rw [run_neq_struct, show (Op.equalIn 10000 31 _ _).run Try.prog w = .ok true w from h]
  rfl
set_option maxHeartbeats 2000000 in
theorem same08_ct {w : World} {g r : Nat} {n most : Int} {s : St} {L : List HProp} (hg : GOk n most s) (H : Holds w (Gh g n most s :: Rg r n most s :: L)) :
    CT Try.prog 30 [.pointer (some ⟨g, 0, none⟩), .pointer (some ⟨r, 0, none⟩)] w fun u w' => u = .bool true ∧ Holds w' (Gh g n most s :: Rg r n most s :: L) := by
  have n1 := hg.n1
  have hll := lstP_len (tkP s)
  have hll' : (idsI s).length ≤ 64 := hll
  refine CT.enter (N := 56) Try.func30 rfl rfl rfl rfl ?_
  refine W.seq (fun K0 hK0 => ?_)
  refine W.region ?_
  refine O.ex (Ex.assign rfl) rfl ?_
  refine O.nil ?_
  refine hK0 _ _ _ ?_
  refine W.seq (fun K1 hK1 => ?_)
  refine W.seq (fun K2 hK2 => ?_)
  refine W.drawTo _ (.take 0 (.take 2 (.take 3 (.take 4 (.take 5 (.one 1 (.take 6 (.take 7 (.take 8 (.take 10 (.one 9 (.one 11 (.take 12 (.take 13 (.take 14 (.take 15 (.take 17 (.one 16 (.one 18 (.one 19 (.take 20 (.take 21 .nil)))))))))))))))))))))) (mixed) (fun _ _ _ _ h => h) (by assumption) (PP.refl _) (by decide +kernel) (fun w H => ?_)
  refine OQ.ex rfl (fun w H => (Ex.move rfl)) rfl ?_
  refine OQ.ex rfl (fun w H => (Ex.move rfl)) rfl ?_
  refine OQ.ex rfl (fun w H => (by first | exact Ex.nilPtr rfl | exact Ex.nilFunc rfl | exact Ex.nilYield rfl)) rfl ?_
  refine OQ.ex rfl (fun w H => (by first | exact Ex.field0 fld54_0 rfl | exact Ex.field fld54_0 rfl | exact Ex.fieldS fld54_0 rfl | exact Ex.fieldIn fld54_0 rfl)) rfl ?_
  refine OQ.ex rfl (fun w H => (by first | exact Ex.loadRT Try.isAgg3 rfl | exact Ex.loadRA Try.isAgg3 rfl | exact Ex.loadRN Try.isAgg3 rfl | exact Ex.loadRM Try.isAgg3 rfl | exact Ex.loadMh Try.isAgg3 rfl | exact Ex.loadInF Try.isAgg3 rfl (Holds.to (by assumption)) | exact Ex.loadP Try.isAgg3 rfl | exact Ex.loadM Try.isAgg3 rfl | exact Ex.loadIn1 Try.isAgg3 rfl (Holds.to (by assumption)) | exact Ex.loadVc Try.isAgg3 rfl | exact Ex.loadR Try.isAgg3 rfl | exact Ex.loadQ Try.isAgg3 rfl)) rfl ?_
  refine OQ.step rfl ?_
  refine O.callF Try.call71 rfl rfl (CT.mono (gvertices_ct (n := n) (by omega) (Holds.to (by assumption))) ?_)
  rintro _ w ⟨rfl, H⟩
  refine O.thenNil ⟨(by first | exact Holds.to (by assumption) | assumption), ?_⟩
  refine OQ.ex rfl (fun w H => (Ex.neqI rfl rfl)) rfl ?_
  refine OQ.ex rfl (fun w H => (Ex.move rfl)) rfl ?_
  refine OQ.known (t := 17) (c := false) rfl (by first | exact decide_eq_false (fun hh => hh rfl) | rfl) ?_
  refine OQ.exT rfl rfl rfl (fun w H => (Ex.move rfl)) rfl ?_
  refine OQ.exT rfl rfl rfl (fun w H => (Ex.move rfl)) rfl ?_
  refine OQ.step rfl ?_
  refine O.guard_t rfl rfl ?_
  refine O.callF Try.call37 rfl rfl (CT.mono (glen_ct (Holds.to (by assumption))) ?_)
  rintro _ w ⟨rfl, H⟩
  refine O.thenNil ⟨(by first | exact Holds.to (by assumption) | assumption), ?_⟩
  refine OQ.step rfl ?_
  refine O.guard_t rfl rfl ?_
  refine O.callF Try.call72 rfl rfl (CT.mono (rlen_ct (Holds.to (by assumption))) ?_)
  rintro _ w ⟨rfl, H⟩
  refine O.thenNil ⟨(by first | exact Holds.to (by assumption) | assumption), ?_⟩
  refine OQ.exT rfl rfl rfl (fun w H => (Ex.neqI rfl rfl)) rfl ?_
  refine OQ.ex rfl (fun w H => (Ex.pick_f rfl rfl)) rfl ?_
  refine OQ.ex rfl (fun w H => (Ex.move rfl)) rfl ?_
  refine OQ.known (t := 24) (c := false) rfl (by first | exact decide_eq_false (fun hh => hh rfl) | rfl) ?_
  refine OQ.exT rfl rfl rfl (fun w H => (Ex.move rfl)) rfl ?_
  refine OQ.exT rfl rfl rfl (fun w H => (Ex.move rfl)) rfl ?_
  refine OQ.step rfl ?_
  refine O.guard_t rfl rfl ?_
  refine O.callF Try.call38 rfl rfl (CT.mono (gids_ct (Holds.to (by assumption))) ?_)
  rintro _ w ⟨hu1, H⟩
  refine O.thenNil ⟨(by first | exact Holds.to (by assumption) | assumption), ?_⟩
  refine OQ.step rfl ?_
  refine O.guard_t rfl rfl ?_
  refine O.callF Try.call65 rfl rfl (CT.mono (rids_ct (Holds.to (by assumption))) ?_)
  rintro _ w ⟨hu2, H⟩
  refine O.thenNil ⟨(by first | exact Holds.to (by assumption) | assumption), ?_⟩
  refine OQ.step rfl ?_
  refine O.guard_t rfl rfl ?_
  refine O.callF Try.call46 rfl rfl (CT.mono (ints_ct (xs := idsI s) (Holds.to (by assumption)) (by omega)) ?_)
  rintro _ w ⟨rfl, H⟩
  refine O.thenNil ⟨(by first | exact Holds.to (by assumption) | assumption), ?_⟩
  refine OQ.exT rfl rfl rfl (fun w H => (by first | exact Ex.notD rfl | exact Ex.not rfl)) rfl ?_
  refine OQ.ex rfl (fun w H => (Ex.pick_f rfl rfl)) rfl ?_
  refine OQ.done ?_
  refine hK2 _ _ _ ?_
  refine W.known_f rfl (by first | exact decide_eq_false (fun hh => hh rfl) | rfl) ?_
  refine W.skip ?_
  refine hK1 _ _ _ ?_
  refine W.seq (fun K3 hK3 => ?_)
  refine W.seq (fun K4 hK4 => ?_)
  refine W.region ?_
  refine O.ex (Ex.assign rfl) rfl ?_
  refine O.nil ?_
  refine hK4 _ _ _ ?_
  refine W.block ?_
  refine W.loop (σ := Nat) (fun i => [(0, .pointer (some ⟨g, 0, none⟩)), (1, .pointer (some ⟨r, 0, none⟩)), (5, .int .i64 ((i : Int) - 1))]) (fun i ds w => ds = [] ∧ i ≤ 66 ∧ Holds w (Gh g n most s :: Rg r n most s :: L)) (fun i => 66 - i) 0 ⟨rfl, rfl, rfl, trivial⟩ ⟨rfl, by omega, Holds.to (by assumption)⟩ ?_
  clear H
  rintro i _ w ⟨rfl, hi, H⟩
  refine W.seq (fun K5 hK5 => ?_)
  refine W.seq (fun K6 hK6 => ?_)
  refine W.region ?_
  refine O.ex (Ex.move rfl) rfl ?_
  refine O.ex (Ex.leq rfl rfl) rfl ?_
  refine O.nil ?_
  refine hK6 _ _ _ ?_
  first | refine W.cond_p rfl (fun hlt => ?_) (fun hge => ?_) | refine W.cond_b rfl (fun hlt => ?_) (fun hge => ?_)
  · refine W.skip ?_
    refine hK5 _ _ _ ?_
    refine W.seq (fun K7 hK7 => ?_)
    refine W.block ?_
    refine W.seq (fun K8 hK8 => ?_)
    refine W.region ?_
    refine O.ex (Ex.move rfl) rfl ?_
    refine O.ex (Ex.move rfl) rfl ?_
    refine O.callF Try.call73 rfl rfl (CT.mono (garc_ct (Holds.to (by assumption))) ?_)
    rintro _ w ⟨rfl, H⟩
    refine O.ex (Ex.move rfl) rfl ?_
    refine O.ex (Ex.extract rfl rfl) rfl ?_
    refine O.ex (Ex.extract rfl rfl) rfl ?_
    refine O.allocP Try.zeroValue31 (fun b6 w H => ?_)
    first | refine O.storeAggP Try.sizeOf31 rfl rfl rfl rfl (fun w H => ?_) | refine O.storeAggN Try.sizeOf31 rfl rfl rfl (fun w H => ?_) rfl
    refine O.ex (Ex.assign rfl) rfl ?_
    refine O.nil ?_
    refine hK8 _ _ _ ?_
    refine W.seq (fun K9 hK9 => ?_)
    refine W.region ?_
    refine O.ex (Ex.move rfl) rfl ?_
    refine O.ex (Ex.move rfl) rfl ?_
    refine O.callF Try.call20 rfl rfl (CT.mono (rarc_ct hg (Holds.to (by assumption))) ?_)
    rintro _ w ⟨rfl, H⟩
    refine O.ex (Ex.move rfl) rfl ?_
    refine O.ex (Ex.extract rfl rfl) rfl ?_
    refine O.ex (Ex.extract rfl rfl) rfl ?_
    refine O.allocP Try.zeroValue31 (fun b8 w H => ?_)
    first | refine O.storeAggP Try.sizeOf31 rfl rfl rfl rfl (fun w H => ?_) | refine O.storeAggN Try.sizeOf31 rfl rfl rfl (fun w H => ?_) rfl
    refine O.ex (Ex.assign rfl) rfl ?_
    refine O.nil ?_
    refine hK9 _ _ _ ?_
    refine W.seq (fun K10 hK10 => ?_)
    refine W.region ?_
    refine O.ex (by first | exact Ex.loadAggP Try.isAgg31 Try.sizeOf31 rfl | exact Ex.loadAggN Try.isAgg31 Try.sizeOf31 rfl | exact Ex.loadIn Try.isAgg31 Try.sizeOf31 rfl (Holds.to (by assumption))) rfl ?_
    refine O.ex (by first | exact Ex.loadAggP Try.isAgg31 Try.sizeOf31 rfl | exact Ex.loadAggN Try.isAgg31 Try.sizeOf31 rfl | exact Ex.loadIn Try.isAgg31 Try.sizeOf31 rfl (Holds.to (by assumption))) rfl ?_
    refine O.ex (Ex.neqAgg rfl rfl Try.eqGuardType31 (eqArc (arcQ s ((i : Int) - 1)) _)) rfl ?_
    refine O.ex (Ex.move rfl) rfl ?_
    refine O.known (t := 51) (c := false) rfl (by first | exact decide_eq_false (fun hh => hh rfl) | rfl) ?_
    refine O.guard_t rfl rfl ?_
    refine O.ex (Ex.move rfl) rfl ?_
    refine O.guard_t rfl rfl ?_
    refine O.ex (Ex.move rfl) rfl ?_
    refine O.guard_t rfl rfl ?_
    refine O.ex (Ex.neqB Try.runUnderlying4 rfl rfl) rfl ?_
    refine O.ex (Ex.pick_f rfl rfl) rfl ?_
    refine O.nil ?_
    refine hK10 _ _ _ ?_
    refine W.known_f rfl (by first | exact decide_eq_false (fun hh => hh rfl) | rfl) ?_
    refine W.skip ?_
    refine hK7 _ _ _ ?_
    refine W.region ?_
    refine O.ex (Ex.move rfl) rfl ?_
    refine O.ex (by first | exact Ex.addI rfl rfl | exact Ex.add rfl rfl rfl) rfl ?_
    refine O.ex (Ex.assign rfl) rfl ?_
    refine O.nil ?_
    exact ⟨i + 1, ⟨rfl, rfl, congrArg (fun z => some (Value.int .i64 z)) (by omega), trivial⟩, ⟨rfl, by omega, Holds.to (by assumption)⟩, by omega⟩
  · refine W.exit ?_
    refine hK3 _ _ _ ?_
    refine W.seq (fun K11 hK11 => ?_)
    refine W.region ?_
    refine O.ex (Ex.assign rfl) rfl ?_
    refine O.nil ?_
    refine hK11 _ _ _ ?_
    refine W.ret ?_
    try dsimp only [thenQ, blockQ, retQ]
    first | refine ⟨_, ⟨_, _, rfl, rfl, rfl⟩, ?_⟩ | (refine retD_mark ?_; intro w H; refine ⟨_, ⟨_, _, rfl, rfl, rfl⟩, ?_⟩) | (refine retD_mark2 ?_; intro w H; refine ⟨_, ⟨_, _, rfl, rfl, rfl⟩, ?_⟩)
    exact ⟨rfl, by first | assumption | exact Holds.to (by assumption)⟩
end Go.Proofs.Ytakmbbgnnbpkoaa
