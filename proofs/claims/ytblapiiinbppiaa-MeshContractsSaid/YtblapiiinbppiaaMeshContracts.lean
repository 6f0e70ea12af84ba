import Derived.Test.YtblapiiinbppiaaMesh7
--ARR
--INF
namespace Go.Proofs.Ytblapiiinbppiaa
open Go.Rr Go
set_option linter.unusedVariables false
theorem goneV {w : World} {b : Nat} {L : List HProp} (H : Holds w (pt b (.cells (Value.agg #[.bool false, .bool false, .bool false, .bool false, .bool false, .bool false, .bool false, .bool false, .bool false, .bool false, .bool false, .bool false, .bool false, .bool false, .bool false, .bool false, .bool false, .bool false, .bool false, .bool false, .bool false, .bool false, .bool false, .bool false]).cells 53 (0, 0)) :: L)) :
    Holds w (vec b 53 [] 24 Value.bool (fun _ => false) :: L) := vec_pt.2 H
set_option maxHeartbeats 2000000 in
theorem meshContracts_ct {w0 : World} {q : Int} {lv ov : Value} {l : List Step} {os : List Int} (hq : (Lit.int .u8 q).wf = true) (hx : SlIn w0 3 Step.enc lv l) (hl : l.length ≤ 9223372036854775807) (ho : SlIn w0 1 (fun s : Int => [.int .i64 s]) ov os) (hol : os.length ≤ 9223372036854775807) :
    CT Try.prog 5 [.int .u8 q, lv, ov] w0 fun x w' => x = .bool true ∧ RowKit.Below w0.heap.size w0 w' := by
  have H := Holds.base_refl w0
  refine CT.enter (N := 138) Try.func5 rfl rfl rfl rfl ?_
  refine W.seq (fun K0 hK0 => ?_)
  refine W.region ?_
  refine O.ex (Ex.assign rfl) rfl ?_
  refine O.nil ?_
  refine hK0 _ _ _ ?_
  refine W.seq (fun K1 hK1 => ?_)
  refine W.seq (fun K2 hK2 => ?_)
  refine W.region ?_
  refine O.callF Try.call15 rfl rfl (CT.mono (awake12_ct (Holds.to (by assumption))) ?_)
  rintro _ w ⟨rfl, H⟩
  refine O.ex (by first | exact Ex.notD rfl | exact Ex.not rfl) rfl ?_
  refine O.nil ?_
  refine hK2 _ _ _ ?_
  refine W.known_f rfl (by first | rfl | decide | exact decide_eq_false (fun hh => hh hv) | exact decide_eq_true hv | exact decide_eq_false (fun hh => hh rfl) | (simp; done)) ?_
  refine W.skip ?_
  refine hK1 _ _ _ ?_
  refine W.seq (fun K3 hK3 => ?_)
  refine W.region ?_
  refine O.ex (Ex.move rfl) rfl ?_
  refine O.ex (Ex.move rfl) rfl ?_
  refine O.callF Try.call16 rfl rfl (CT.mono (made_ct hq hx hl (Holds.to (by assumption))) ?_)
  rintro _ w ⟨m, r, n, c, hg, rfl, H⟩
  have n1 := hg.n1
  have n2 := hg.n2
  refine O.ex (Ex.move rfl) rfl ?_
  refine O.ex (Ex.extract rfl rfl) rfl ?_
  refine O.ex (Ex.extract rfl rfl) rfl ?_
  refine O.ex (Ex.assign rfl) rfl ?_
  refine O.ex (Ex.assign rfl) rfl ?_
  refine O.nil ?_
  refine hK3 _ _ _ ?_
  refine W.seq (fun K4 hK4 => ?_)
  refine W.seq (fun K5 hK5 => ?_)
  refine W.region ?_
  refine O.ex (Ex.move rfl) rfl ?_
  refine O.ex (Ex.nilEq Try.runUnderlying25 rfl rfl) rfl ?_
  refine O.nil ?_
  refine hK5 _ _ _ ?_
  refine W.known_f rfl (by first | rfl | decide | exact decide_eq_false (fun hh => hh hv) | exact decide_eq_true hv | exact decide_eq_false (fun hh => hh rfl) | (simp; done)) ?_
  refine W.skip ?_
  refine hK4 _ _ _ ?_
  refine W.seq (fun K6 hK6 => ?_)
  have H := (rh_open (m := r) (n := n) (c := c)).1 (Holds.to (by assumption))
  refine W.drawTo _ (.take 0 (.take 2 (.take 3 (.take 4 (.two 1 5 (.one 5 (.take 6 (.one 7 .nil))) (.one 1 (.take 6 (.one 7 .nil)))))))) (mixed) (fun _ _ _ _ h => h) (by assumption) (PP.refl _) (by decide +kernel) (fun w H => ?_)
  refine OQ.ex rfl (fun w H => (Ex.move rfl)) rfl ?_
  refine OQ.ex rfl (fun w H => (Ex.move rfl)) rfl ?_
  refine OQ.ex rfl (fun w H => (by first | exact Ex.nilPtr rfl | exact Ex.nilFunc rfl | exact Ex.nilYield rfl)) rfl ?_
  refine OQ.ex rfl (fun w H => (Ex.loadMall Try.isAgg32 Try.sizeOf32 (hd := [.int .i64 n]) rfl rfl)) rfl ?_
  refine OQ.two rfl rfl ?_ ?_
  · refine O.callF Try.call29 rfl rfl (CT.mono (copy_ct (Holds.to (by assumption))) ?_)
    rintro _ w ⟨fc, rfl, H⟩
    refine O.thenNil ⟨(by first | exact Holds.to (by assumption) | assumption), ?_⟩
    refine OQ.step rfl ?_
    refine O.allocM [.int .i64 0] zR (fun b10 w H => ?_)
    refine O.thenNil ⟨(by first | exact Holds.to (by assumption) | assumption), ?_⟩
    refine OQ.ex rfl (fun w H => (Ex.assign rfl)) rfl ?_
    refine OQ.last rfl (by decide +kernel) ?_
    refine O.storeMall (hd := [.int .i64 0]) Try.sizeOf32 rfl rfl rfl rfl rfl (fun w H => ?_)
    refine O.nil ?_
    refine hK6 _ _ _ ?_
    refine W.seq (fun K7 hK7 => ?_)
    refine W.region ?_
    have H := (rh_open (m := r) (n := n) (c := c)).2 (Holds.to (by assumption))
    refine O.ex (Ex.move rfl) rfl ?_
    refine O.callF Try.call17 rfl rfl (CT.mono (refAll_ct (by assumption) (Holds.to (by assumption))) ?_)
    rintro _ w ⟨rfl, H⟩
    refine O.allocM [] zS (fun b11 w H => ?_)
    refine O.storeMall (hd := []) Try.sizeOf30 rfl rfl rfl rfl rfl (fun w H => ?_)
    refine O.nil ?_
    refine hK7 _ _ _ ?_
    refine W.seq (fun K8 hK8 => ?_)
    refine W.region ?_
    refine O.allocP Try.zeroValue53 (fun b12 w H => ?_)
    have H := goneV H
    refine O.nil ?_
    refine hK8 _ _ _ ?_
    refine W.seq (fun K9 hK9 => ?_)
    refine W.seq (fun K10 hK10 => ?_)
    refine W.region ?_
    refine O.ex (Ex.assign rfl) rfl ?_
    refine O.nil ?_
    refine hK10 _ _ _ ?_
    refine W.block ?_
    have H : Holds w [Mh m n c, Rh r n c, vec b12 53 [] 24 Value.bool (fun _ => false), mtx b11 30 [] (far n c), Mh fc n c, mtx b10 32 [.int .i64 n] c, base w0] := Holds.to (by assumption)
    refine W.loop (σ := Nat) (fun i => [(2, ov), (7, .pointer (some ⟨m, 0, none⟩)), (8, .pointer (some ⟨r, 0, none⟩)), (9, .pointer (some ⟨fc, 0, none⟩)), (10, .pointer (some ⟨b10, 0, none⟩)), (11, .pointer (some ⟨b11, 0, none⟩)), (12, .pointer (some ⟨b12, 0, none⟩)), (13, .int .i64 (i : Int))]) (fun i ds w => ds = [] ∧ i ≤ os.length ∧ i ≤ 40 ∧ ∃ cc g, Good n cc ∧ (∀ a b : Nat, g a = false → g b = false → far n cc a b = far n c a b) ∧ Holds w [Mh m n cc, Rh r n cc, vec b12 53 [] 24 Value.bool g, mtx b11 30 [] (far n c), Mh fc n c, mtx b10 32 [.int .i64 n] c, base w0]) (fun i => os.length - i) 0 ⟨rfl, rfl, rfl, rfl, rfl, rfl, rfl, rfl, trivial⟩ ⟨rfl, by omega, by omega, c, _, hg, fun _ _ _ _ => rfl, Holds.to (by assumption)⟩ ?_
    clear H
    rintro i _ w ⟨rfl, hi, hi4, cc, g, hgc, hfar, H⟩
    refine W.seq (fun K11 hK11 => ?_)
    refine W.seq (fun K12 hK12 => ?_)
    refine W.region ?_
    refine O.ex (Ex.move rfl) rfl ?_
    refine O.ex (Ex.move rfl) rfl ?_
    refine O.ex (by first | exact Ex.lenR Try.runUnderlying51 rfl | exact Ex.lenIn Try.runUnderlying51 rfl | exact Ex.lenL Try.runUnderlying51 rfl | exact Ex.len rfl Try.runUnderlying51 rfl) rfl ?_
    refine O.ex (Ex.lss rfl rfl) rfl ?_
    refine O.ex (Ex.move rfl) rfl ?_
    first | refine O.split_p (t := 40) rfl (fun h1 => ?_) (fun h1 => ?_) | refine O.split (t := 40) rfl (fun h1 => ?_) (fun h1 => ?_)
    · refine O.guard_t rfl rfl ?_
      refine O.ex (Ex.move rfl) rfl ?_
      refine O.guard_t rfl rfl ?_
      refine O.ex (Ex.lss rfl rfl) rfl ?_
      refine O.ex (Ex.pick_t rfl rfl) rfl ?_
      refine O.nil ?_
      refine hK12 _ _ _ ?_
      first | refine W.cond_p rfl (fun hlt => ?_) (fun hge => ?_) | refine W.cond_b rfl (fun hlt => ?_) (fun hge => ?_)
      · refine W.skip ?_
        refine hK11 _ _ _ ?_
        refine W.seq (fun K13 hK13 => ?_)
        refine W.block ?_
        refine W.seq (fun K14 hK14 => ?_)
        refine W.region ?_
        have hi0 : (0 : Int) ≤ (i : Int) := by omega
        have hi1 : (i : Int) < os.length := h1
        refine O.ex (Ex.move rfl) rfl ?_
        refine O.ex (Ex.move rfl) rfl ?_
        refine O.ex (Ex.move rfl) rfl ?_
        refine O.ex (by first | exact Ex.idxR Try.runUnderlying51 Try.sizeOf3 rfl rfl | exact Ex.idxIn Try.runUnderlying51 Try.sizeOf3 rfl rfl | exact Ex.idxS Try.runUnderlying51 Try.sizeOf3 rfl rfl | exact Ex.idx Try.runUnderlying51 Try.sizeOf3 rfl rfl (by omega) (by omega)) rfl ?_
        refine O.ex (by first | exact Ex.loadR Try.isAgg3 rfl | exact Ex.loadIn1 Try.isAgg3 rfl (Holds.to (by assumption)) | exact Ex.loadInF Try.isAgg3 rfl (Holds.to (by assumption)) | exact Ex.loadP Try.isAgg3 rfl | exact Ex.loadMh Try.isAgg3 rfl | exact Ex.loadM Try.isAgg3 rfl | exact Ex.loadVc Try.isAgg3 rfl | exact Ex.loadQ Try.isAgg3 rfl) rfl ?_
        refine O.callF Try.call18 rfl rfl (CT.mono (contract_ct hgc (Holds.to (by assumption))) ?_)
        rintro _ w hh
        rcases hh with ⟨hv, rfl, H⟩ | ⟨hv, rfl, H⟩
        · refine O.ex (Ex.move rfl) rfl ?_
          refine O.ex (Ex.extract rfl rfl) rfl ?_
          refine O.ex (Ex.extract rfl rfl) rfl ?_
          refine O.ex (Ex.assign rfl) rfl ?_
          refine O.ex (Ex.assign rfl) rfl ?_
          refine O.nil ?_
          refine hK14 _ _ _ ?_
          refine W.seq (fun K15 hK15 => ?_)
          refine W.seq (fun K16 hK16 => ?_)
          refine W.region ?_
          refine O.ex (Ex.move rfl) rfl ?_
          refine O.ex (Ex.move rfl) rfl ?_
          refine O.ex (Ex.move rfl) rfl ?_
          refine O.ex (by first | exact Ex.idxR Try.runUnderlying51 Try.sizeOf3 rfl rfl | exact Ex.idxIn Try.runUnderlying51 Try.sizeOf3 rfl rfl | exact Ex.idxS Try.runUnderlying51 Try.sizeOf3 rfl rfl | exact Ex.idx Try.runUnderlying51 Try.sizeOf3 rfl rfl (by omega) (by omega)) rfl ?_
          refine O.ex (by first | exact Ex.loadR Try.isAgg3 rfl | exact Ex.loadIn1 Try.isAgg3 rfl (Holds.to (by assumption)) | exact Ex.loadInF Try.isAgg3 rfl (Holds.to (by assumption)) | exact Ex.loadP Try.isAgg3 rfl | exact Ex.loadMh Try.isAgg3 rfl | exact Ex.loadM Try.isAgg3 rfl | exact Ex.loadVc Try.isAgg3 rfl | exact Ex.loadQ Try.isAgg3 rfl) rfl ?_
          refine O.callF Try.call30 rfl rfl (CT.mono (vertexr_ct (Holds.to (by assumption))) ?_)
          rintro _ w ⟨rfl, H⟩
          refine O.ex (by first | exact Ex.notD rfl | exact Ex.not rfl) rfl ?_
          refine O.nil ?_
          refine hK16 _ _ _ ?_
          refine W.known_f rfl (by first | rfl | decide | exact decide_eq_false (fun hh => hh hv) | exact decide_eq_true hv | exact decide_eq_false (fun hh => hh rfl) | (simp; done)) ?_
          refine W.skip ?_
          refine hK15 _ _ _ ?_
          refine W.seq (fun K17 hK17 => ?_)
          refine W.region ?_
          refine O.ex (Ex.move rfl) rfl ?_
          refine O.ex (Ex.move rfl) rfl ?_
          refine O.ex (by first | exact Ex.idxR Try.runUnderlying51 Try.sizeOf3 rfl rfl | exact Ex.idxIn Try.runUnderlying51 Try.sizeOf3 rfl rfl | exact Ex.idxS Try.runUnderlying51 Try.sizeOf3 rfl rfl | exact Ex.idx Try.runUnderlying51 Try.sizeOf3 rfl rfl (by omega) (by omega)) rfl ?_
          refine O.ex (by first | exact Ex.loadR Try.isAgg3 rfl | exact Ex.loadIn1 Try.isAgg3 rfl (Holds.to (by assumption)) | exact Ex.loadInF Try.isAgg3 rfl (Holds.to (by assumption)) | exact Ex.loadP Try.isAgg3 rfl | exact Ex.loadMh Try.isAgg3 rfl | exact Ex.loadM Try.isAgg3 rfl | exact Ex.loadVc Try.isAgg3 rfl | exact Ex.loadQ Try.isAgg3 rfl) rfl ?_
          refine O.ex (Ex.idxArr Try.runUnderlying53 Try.sizeOf4 rfl rfl) rfl ?_
          first | refine O.storeP Try.sizeOf4 rfl rfl (fun w H => ?_) | refine O.storeR Try.sizeOf4 rfl rfl (fun w H => ?_) | refine O.storeM Try.sizeOf4 rfl rfl (fun w H => ?_) | refine O.storeVc Try.sizeOf4 rfl rfl (fun w H => ?_)
          refine O.nil ?_
          refine hK17 _ _ _ ?_
          refine W.seq (fun K18 hK18 => ?_)
          refine W.region ?_
          have hgc2 := good_contr hgc (os.getD ((i : Nat) : Int).toNat default)
          refine O.ex (Ex.move rfl) rfl ?_
          refine O.ex (Ex.move rfl) rfl ?_
          refine O.ex (Ex.move rfl) rfl ?_
          refine O.ex (Ex.move rfl) rfl ?_
          refine O.ex (by first | exact Ex.idxR Try.runUnderlying51 Try.sizeOf3 rfl rfl | exact Ex.idxIn Try.runUnderlying51 Try.sizeOf3 rfl rfl | exact Ex.idxS Try.runUnderlying51 Try.sizeOf3 rfl rfl | exact Ex.idx Try.runUnderlying51 Try.sizeOf3 rfl rfl (by omega) (by omega)) rfl ?_
          refine O.ex (by first | exact Ex.loadR Try.isAgg3 rfl | exact Ex.loadIn1 Try.isAgg3 rfl (Holds.to (by assumption)) | exact Ex.loadInF Try.isAgg3 rfl (Holds.to (by assumption)) | exact Ex.loadP Try.isAgg3 rfl | exact Ex.loadMh Try.isAgg3 rfl | exact Ex.loadM Try.isAgg3 rfl | exact Ex.loadVc Try.isAgg3 rfl | exact Ex.loadQ Try.isAgg3 rfl) rfl ?_
          refine O.callF Try.call31 rfl rfl (CT.mono (refContract_ct hgc hv.1 hv.2 (Holds.to (by assumption))) ?_)
          rintro _ w ⟨rfl, H⟩
          refine O.ex (Ex.neqI rfl rfl) rfl ?_
          refine O.ex (Ex.move rfl) rfl ?_
          refine O.known (t := 81) (c := false) rfl (by first | rfl | decide | exact decide_eq_false (fun hh => hh hv) | exact decide_eq_true hv | exact decide_eq_false (fun hh => hh rfl) | (simp; done)) ?_
          refine O.guard_t rfl rfl ?_
          refine O.ex (Ex.move rfl) rfl ?_
          refine O.guard_t rfl rfl ?_
          refine O.ex (Ex.neqI rfl rfl) rfl ?_
          refine O.ex (Ex.pick_f rfl rfl) rfl ?_
          refine O.ex (Ex.move rfl) rfl ?_
          refine O.known (t := 85) (c := false) rfl (by first | rfl | decide | exact decide_eq_false (fun hh => hh hv) | exact decide_eq_true hv | exact decide_eq_false (fun hh => hh rfl) | (simp; done)) ?_
          refine O.guard_t rfl rfl ?_
          refine O.ex (Ex.move rfl) rfl ?_
          refine O.guard_t rfl rfl ?_
          refine O.ex (Ex.move rfl) rfl ?_
          refine O.guard_t rfl rfl ?_
          refine O.callF Try.call24 rfl rfl (CT.mono (same_ct hgc2 (Holds.to (by assumption))) ?_)
          rintro _ w ⟨rfl, H⟩
          refine O.guard_t rfl rfl ?_
          refine O.ex (by first | exact Ex.notD rfl | exact Ex.not rfl) rfl ?_
          refine O.ex (Ex.pick_f rfl rfl) rfl ?_
          refine O.nil ?_
          refine hK18 _ _ _ ?_
          refine W.known_f rfl (by first | rfl | decide | exact decide_eq_false (fun hh => hh hv) | exact decide_eq_true hv | exact decide_eq_false (fun hh => hh rfl) | (simp; done)) ?_
          refine W.skip ?_
          refine hK13 _ _ _ ?_
          refine W.region ?_
          refine O.ex (Ex.move rfl) rfl ?_
          refine O.ex (by first | exact Ex.addI rfl rfl | exact Ex.add rfl rfl rfl) rfl ?_
          refine O.ex (Ex.assign rfl) rfl ?_
          refine O.nil ?_
          refine ⟨i + 1, ⟨rfl, rfl, rfl, rfl, rfl, rfl, rfl, rfl, trivial⟩, ⟨rfl, by omega, by omega, _, _, hgc2, fun a b ha hb => ?_, Holds.to (by assumption)⟩, by omega⟩
          unfold upd1 at ha hb
          split at ha
          · cases ha
          split at hb
          · cases hb
          exact (contr_far hgc _ a b (by omega) (by omega)).trans (hfar a b ha hb)
        · refine O.ex (Ex.move rfl) rfl ?_
          refine O.ex (Ex.extract rfl rfl) rfl ?_
          refine O.ex (Ex.extract rfl rfl) rfl ?_
          refine O.ex (Ex.assign rfl) rfl ?_
          refine O.ex (Ex.assign rfl) rfl ?_
          refine O.nil ?_
          refine hK14 _ _ _ ?_
          refine W.seq (fun K19 hK19 => ?_)
          refine W.seq (fun K20 hK20 => ?_)
          refine W.region ?_
          refine O.ex (Ex.move rfl) rfl ?_
          refine O.ex (Ex.move rfl) rfl ?_
          refine O.ex (Ex.move rfl) rfl ?_
          refine O.ex (by first | exact Ex.idxR Try.runUnderlying51 Try.sizeOf3 rfl rfl | exact Ex.idxIn Try.runUnderlying51 Try.sizeOf3 rfl rfl | exact Ex.idxS Try.runUnderlying51 Try.sizeOf3 rfl rfl | exact Ex.idx Try.runUnderlying51 Try.sizeOf3 rfl rfl (by omega) (by omega)) rfl ?_
          refine O.ex (by first | exact Ex.loadR Try.isAgg3 rfl | exact Ex.loadIn1 Try.isAgg3 rfl (Holds.to (by assumption)) | exact Ex.loadInF Try.isAgg3 rfl (Holds.to (by assumption)) | exact Ex.loadP Try.isAgg3 rfl | exact Ex.loadMh Try.isAgg3 rfl | exact Ex.loadM Try.isAgg3 rfl | exact Ex.loadVc Try.isAgg3 rfl | exact Ex.loadQ Try.isAgg3 rfl) rfl ?_
          refine O.callF Try.call30 rfl rfl (CT.mono (vertexr_ct (Holds.to (by assumption))) ?_)
          rintro _ w ⟨rfl, H⟩
          refine O.ex (by first | exact Ex.notD rfl | exact Ex.not rfl) rfl ?_
          refine O.nil ?_
          refine hK20 _ _ _ ?_
          refine W.known_t rfl (by first | rfl | decide | exact decide_eq_false (fun hh => hh hv) | exact decide_eq_true hv | exact decide_eq_false (fun hh => hh rfl) | (simp; done)) ?_
          refine W.seq (fun K21 hK21 => ?_)
          refine W.seq (fun K22 hK22 => ?_)
          refine W.region ?_
          refine O.ex (Ex.move rfl) rfl ?_
          refine O.ex (Ex.neqI rfl rfl) rfl ?_
          refine O.ex (Ex.move rfl) rfl ?_
          refine O.known (t := 64) (c := false) rfl (by first | rfl | decide | exact decide_eq_false (fun hh => hh hv) | exact decide_eq_true hv | exact decide_eq_false (fun hh => hh rfl) | (simp; done)) ?_
          refine O.guard_t rfl rfl ?_
          refine O.ex (Ex.move rfl) rfl ?_
          refine O.guard_t rfl rfl ?_
          refine O.ex (Ex.neqI rfl rfl) rfl ?_
          refine O.ex (Ex.pick_f rfl rfl) rfl ?_
          refine O.nil ?_
          refine hK22 _ _ _ ?_
          refine W.known_f rfl (by first | rfl | decide | exact decide_eq_false (fun hh => hh hv) | exact decide_eq_true hv | exact decide_eq_false (fun hh => hh rfl) | (simp; done)) ?_
          refine W.skip ?_
          refine hK21 _ _ _ ?_
          refine W.exit ?_
          refine hK13 _ _ _ ?_
          refine W.region ?_
          refine O.ex (Ex.move rfl) rfl ?_
          refine O.ex (by first | exact Ex.addI rfl rfl | exact Ex.add rfl rfl rfl) rfl ?_
          refine O.ex (Ex.assign rfl) rfl ?_
          refine O.nil ?_
          exact ⟨i + 1, ⟨rfl, rfl, rfl, rfl, rfl, rfl, rfl, rfl, trivial⟩, ⟨rfl, by omega, by omega, cc, g, hgc, hfar, Holds.to (by assumption)⟩, by omega⟩
      · refine W.exit ?_
        refine hK9 _ _ _ ?_
        refine W.seq (fun K23 hK23 => ?_)
        refine W.region ?_
        refine O.ex (Ex.move rfl) rfl ?_
        refine O.callF Try.call17 rfl rfl (CT.mono (refAll_ct (by assumption) (Holds.to (by assumption))) ?_)
        rintro _ w ⟨rfl, H⟩
        refine O.allocM [] zS (fun b16 w H => ?_)
        refine O.storeMall (hd := []) Try.sizeOf30 rfl rfl rfl rfl rfl (fun w H => ?_)
        refine O.nil ?_
        refine hK23 _ _ _ ?_
        refine W.seq (fun K24 hK24 => ?_)
        refine W.seq (fun K25 hK25 => ?_)
        refine W.region ?_
        refine O.ex (Ex.assign rfl) rfl ?_
        refine O.nil ?_
        refine hK25 _ _ _ ?_
        refine W.block ?_
        have H : Holds w [mtx b16 30 [] (far n cc), mtx r 32 [.int .i64 n] cc, vec b12 53 [] 24 Value.bool g, mtx b11 30 [] (far n c), Mh fc n c, mtx b10 32 [.int .i64 n] c, base w0] := Holds.to (by assumption)
        refine W.loop (σ := Nat) (fun i => [(8, .pointer (some ⟨r, 0, none⟩)), (9, .pointer (some ⟨fc, 0, none⟩)), (10, .pointer (some ⟨b10, 0, none⟩)), (11, .pointer (some ⟨b11, 0, none⟩)), (12, .pointer (some ⟨b12, 0, none⟩)), (16, .pointer (some ⟨b16, 0, none⟩)), (17, .int .i64 (i : Int))]) (fun i ds w => ds = [] ∧ (i : Int) ≤ n ∧ Holds w [mtx b16 30 [] (far n cc), mtx r 32 [.int .i64 n] cc, vec b12 53 [] 24 Value.bool g, mtx b11 30 [] (far n c), Mh fc n c, mtx b10 32 [.int .i64 n] c, base w0]) (fun i => n.toNat - i) 0 ⟨rfl, rfl, rfl, rfl, rfl, rfl, rfl, trivial⟩ ⟨rfl, by omega, Holds.to (by assumption)⟩ ?_
        clear H
        rintro a _ w ⟨rfl, ha, H⟩
        refine W.seq (fun K26 hK26 => ?_)
        refine W.seq (fun K27 hK27 => ?_)
        refine W.region ?_
        refine O.ex (Ex.move rfl) rfl ?_
        refine O.ex (Ex.move rfl) rfl ?_
        refine O.ex (by first | exact Ex.nilPtr rfl | exact Ex.nilFunc rfl | exact Ex.nilYield rfl) rfl ?_
        refine O.ex (by first | exact Ex.field0 fld32_0 rfl | exact Ex.field fld32_0 rfl | exact Ex.fieldS fld32_0 rfl | exact Ex.fieldIn fld32_0 rfl) rfl ?_
        refine O.ex (by first | exact Ex.loadMh Try.isAgg3 rfl | exact Ex.loadInF Try.isAgg3 rfl (Holds.to (by assumption)) | exact Ex.loadP Try.isAgg3 rfl | exact Ex.loadM Try.isAgg3 rfl | exact Ex.loadIn1 Try.isAgg3 rfl (Holds.to (by assumption)) | exact Ex.loadVc Try.isAgg3 rfl | exact Ex.loadR Try.isAgg3 rfl | exact Ex.loadQ Try.isAgg3 rfl) rfl ?_
        refine O.ex (Ex.lss rfl rfl) rfl ?_
        refine O.nil ?_
        refine hK27 _ _ _ ?_
        first | refine W.cond_p rfl (fun hlta => ?_) (fun hgea => ?_) | refine W.cond_b rfl (fun hlta => ?_) (fun hgea => ?_)
        · refine W.skip ?_
          refine hK26 _ _ _ ?_
          refine W.seq (fun K28 hK28 => ?_)
          refine W.block ?_
          refine W.seq (fun K29 hK29 => ?_)
          refine W.region ?_
          refine O.ex (Ex.assign rfl) rfl ?_
          refine O.nil ?_
          refine hK29 _ _ _ ?_
          refine W.block ?_
          refine W.loop (σ := Nat) (fun b => [(8, .pointer (some ⟨r, 0, none⟩)), (9, .pointer (some ⟨fc, 0, none⟩)), (10, .pointer (some ⟨b10, 0, none⟩)), (11, .pointer (some ⟨b11, 0, none⟩)), (12, .pointer (some ⟨b12, 0, none⟩)), (16, .pointer (some ⟨b16, 0, none⟩)), (17, .int .i64 (a : Int)), (18, .int .i64 (b : Int))]) (fun b ds w => ds = [] ∧ (b : Int) ≤ n ∧ Holds w [mtx b16 30 [] (far n cc), mtx r 32 [.int .i64 n] cc, vec b12 53 [] 24 Value.bool g, mtx b11 30 [] (far n c), Mh fc n c, mtx b10 32 [.int .i64 n] c, base w0]) (fun b => n.toNat - b) 0 ⟨rfl, rfl, rfl, rfl, rfl, rfl, rfl, rfl, trivial⟩ ⟨rfl, by omega, Holds.to (by assumption)⟩ ?_
          clear H
          rintro b _ w ⟨rfl, hb, H⟩
          refine W.seq (fun K30 hK30 => ?_)
          refine W.seq (fun K31 hK31 => ?_)
          refine W.region ?_
          refine O.ex (Ex.move rfl) rfl ?_
          refine O.ex (Ex.move rfl) rfl ?_
          refine O.ex (by first | exact Ex.nilPtr rfl | exact Ex.nilFunc rfl | exact Ex.nilYield rfl) rfl ?_
          refine O.ex (by first | exact Ex.field0 fld32_0 rfl | exact Ex.field fld32_0 rfl | exact Ex.fieldS fld32_0 rfl | exact Ex.fieldIn fld32_0 rfl) rfl ?_
          refine O.ex (by first | exact Ex.loadMh Try.isAgg3 rfl | exact Ex.loadInF Try.isAgg3 rfl (Holds.to (by assumption)) | exact Ex.loadP Try.isAgg3 rfl | exact Ex.loadM Try.isAgg3 rfl | exact Ex.loadIn1 Try.isAgg3 rfl (Holds.to (by assumption)) | exact Ex.loadVc Try.isAgg3 rfl | exact Ex.loadR Try.isAgg3 rfl | exact Ex.loadQ Try.isAgg3 rfl) rfl ?_
          refine O.ex (Ex.lss rfl rfl) rfl ?_
          refine O.nil ?_
          refine hK31 _ _ _ ?_
          first | refine W.cond_p rfl (fun hltb => ?_) (fun hgeb => ?_) | refine W.cond_b rfl (fun hltb => ?_) (fun hgeb => ?_)
          · refine W.skip ?_
            refine hK30 _ _ _ ?_
            refine W.seq (fun K32 hK32 => ?_)
            refine W.block ?_
            refine W.seq (fun K33 hK33 => ?_)
            refine W.drawTo _ (.take 0 (.take 1 (.take 2 (.take 3 (.take 4 (.take 5 (.take 6 (.take 7 (.take 8 (.take 9 (.take 10 (.take 11 (.take 12 (.take 13 (.take 14 (.take 15 (.take 16 (.take 17 (.take 18 (.take 19 (.take 20 (.take 21 (.take 22 .nil))))))))))))))))))))))) (mixed) (fun _ _ _ _ h => h) (by assumption) (PP.refl _) (by decide +kernel) (fun w H => ?_)
            refine OQ.ex rfl (fun w H => (Ex.move rfl)) rfl ?_
            refine OQ.ex rfl (fun w H => (Ex.idxArr Try.runUnderlying53 Try.sizeOf4 rfl rfl)) rfl ?_
            refine OQ.ex rfl (fun w H => (by first | exact Ex.loadM Try.isAgg4 rfl | exact Ex.loadVc Try.isAgg4 rfl | exact Ex.loadP Try.isAgg4 rfl | exact Ex.loadInF Try.isAgg4 rfl (Holds.to (by assumption)) | exact Ex.loadIn1 Try.isAgg4 rfl (Holds.to (by assumption)) | exact Ex.loadMh Try.isAgg4 rfl | exact Ex.loadR Try.isAgg4 rfl | exact Ex.loadQ Try.isAgg4 rfl)) rfl ?_
            refine OQ.ex rfl (fun w H => (by first | exact Ex.notD rfl | exact Ex.not rfl)) rfl ?_
            refine OQ.ex rfl (fun w H => (Ex.move rfl)) rfl ?_
            first | refine OQ.split_p (t := 113) rfl (fun hga => ?_) (fun hga => ?_) | refine OQ.split (t := 113) rfl (fun hga => ?_) (fun hga => ?_)
            · refine OQ.exT rfl rfl rfl (fun w H => (Ex.move rfl)) rfl ?_
              refine OQ.exT rfl rfl rfl (fun w H => (Ex.idxArr Try.runUnderlying53 Try.sizeOf4 rfl rfl)) rfl ?_
              refine OQ.exT rfl rfl rfl (fun w H => (by first | exact Ex.loadM Try.isAgg4 rfl | exact Ex.loadVc Try.isAgg4 rfl | exact Ex.loadP Try.isAgg4 rfl | exact Ex.loadInF Try.isAgg4 rfl (Holds.to (by assumption)) | exact Ex.loadIn1 Try.isAgg4 rfl (Holds.to (by assumption)) | exact Ex.loadMh Try.isAgg4 rfl | exact Ex.loadR Try.isAgg4 rfl | exact Ex.loadQ Try.isAgg4 rfl)) rfl ?_
              refine OQ.exT rfl rfl rfl (fun w H => (by first | exact Ex.notD rfl | exact Ex.not rfl)) rfl ?_
              refine OQ.ex rfl (fun w H => (Ex.pick_t rfl rfl)) rfl ?_
              refine OQ.ex rfl (fun w H => (Ex.move rfl)) rfl ?_
              first | refine OQ.split_p (t := 119) rfl (fun hgb => ?_) (fun hgb => ?_) | refine OQ.split (t := 119) rfl (fun hgb => ?_) (fun hgb => ?_)
              · refine OQ.exT rfl rfl rfl (fun w H => (Ex.move rfl)) rfl ?_
                refine OQ.exT rfl rfl rfl (fun w H => (Ex.move rfl)) rfl ?_
                refine OQ.exT rfl rfl rfl (fun w H => (Ex.idxArr Try.runUnderlying30 Try.sizeOf29 rfl rfl)) rfl ?_
                refine OQ.exT rfl rfl rfl (fun w H => (Ex.idxArr Try.runUnderlying29 Try.sizeOf3 rfl rfl)) rfl ?_
                refine OQ.exT rfl rfl rfl (fun w H => (by first | exact Ex.loadM Try.isAgg3 rfl | exact Ex.loadVc Try.isAgg3 rfl | exact Ex.loadP Try.isAgg3 rfl | exact Ex.loadInF Try.isAgg3 rfl (Holds.to (by assumption)) | exact Ex.loadIn1 Try.isAgg3 rfl (Holds.to (by assumption)) | exact Ex.loadMh Try.isAgg3 rfl | exact Ex.loadR Try.isAgg3 rfl | exact Ex.loadQ Try.isAgg3 rfl)) rfl ?_
                refine OQ.exT rfl rfl rfl (fun w H => (Ex.move rfl)) rfl ?_
                refine OQ.exT rfl rfl rfl (fun w H => (Ex.move rfl)) rfl ?_
                refine OQ.exT rfl rfl rfl (fun w H => (Ex.idxArr Try.runUnderlying30 Try.sizeOf29 rfl rfl)) rfl ?_
                refine OQ.exT rfl rfl rfl (fun w H => (Ex.idxArr Try.runUnderlying29 Try.sizeOf3 rfl rfl)) rfl ?_
                refine OQ.exT rfl rfl rfl (fun w H => (by first | exact Ex.loadM Try.isAgg3 rfl | exact Ex.loadVc Try.isAgg3 rfl | exact Ex.loadP Try.isAgg3 rfl | exact Ex.loadInF Try.isAgg3 rfl (Holds.to (by assumption)) | exact Ex.loadIn1 Try.isAgg3 rfl (Holds.to (by assumption)) | exact Ex.loadMh Try.isAgg3 rfl | exact Ex.loadR Try.isAgg3 rfl | exact Ex.loadQ Try.isAgg3 rfl)) rfl ?_
                refine OQ.exT rfl rfl rfl (fun w H => (Ex.neqI rfl rfl)) rfl ?_
                refine OQ.ex rfl (fun w H => (Ex.pick_t rfl rfl)) rfl ?_
                refine OQ.done ?_
                refine hK33 _ _ _ ?_
                first | refine W.cond_p rfl (fun hbad => ?_) (fun hok => ?_) | refine W.cond_b rfl (fun hbad => ?_) (fun hok => ?_)
                · exact absurd (hfar a b (by simpa using hga) (by simpa using hgb)) hbad
                · refine W.skip ?_
                  refine hK32 _ _ _ ?_
                  refine W.region ?_
                  refine O.ex (Ex.move rfl) rfl ?_
                  refine O.ex (by first | exact Ex.addI rfl rfl | exact Ex.add rfl rfl rfl) rfl ?_
                  refine O.ex (Ex.assign rfl) rfl ?_
                  refine O.nil ?_
                  exact ⟨b + 1, ⟨rfl, rfl, rfl, rfl, rfl, rfl, rfl, rfl, trivial⟩, ⟨rfl, by omega, Holds.to (by assumption)⟩, by omega⟩
              · refine OQ.exF rfl rfl rfl rfl rfl ?_
                refine OQ.exF rfl rfl rfl rfl rfl ?_
                refine OQ.exF rfl rfl rfl rfl rfl ?_
                refine OQ.exF rfl rfl rfl rfl rfl ?_
                refine OQ.exF rfl rfl rfl rfl rfl ?_
                refine OQ.exF rfl rfl rfl rfl rfl ?_
                refine OQ.exF rfl rfl rfl rfl rfl ?_
                refine OQ.exF rfl rfl rfl rfl rfl ?_
                refine OQ.exF rfl rfl rfl rfl rfl ?_
                refine OQ.exF rfl rfl rfl rfl rfl ?_
                refine OQ.exF rfl rfl rfl rfl rfl ?_
                refine OQ.ex rfl (fun w H => (Ex.pick_f rfl rfl)) rfl ?_
                refine OQ.done ?_
                refine hK33 _ _ _ ?_
                refine W.cond_f rfl ?_
                refine W.skip ?_
                refine hK32 _ _ _ ?_
                refine W.region ?_
                refine O.ex (Ex.move rfl) rfl ?_
                refine O.ex (by first | exact Ex.addI rfl rfl | exact Ex.add rfl rfl rfl) rfl ?_
                refine O.ex (Ex.assign rfl) rfl ?_
                refine O.nil ?_
                exact ⟨b + 1, ⟨rfl, rfl, rfl, rfl, rfl, rfl, rfl, rfl, trivial⟩, ⟨rfl, by omega, Holds.to (by assumption)⟩, by omega⟩
            · refine OQ.exF rfl rfl rfl rfl rfl ?_
              refine OQ.exF rfl rfl rfl rfl rfl ?_
              refine OQ.exF rfl rfl rfl rfl rfl ?_
              refine OQ.exF rfl rfl rfl rfl rfl ?_
              refine OQ.ex rfl (fun w H => (Ex.pick_f rfl rfl)) rfl ?_
              refine OQ.ex rfl (fun w H => (Ex.move rfl)) rfl ?_
              refine OQ.exF rfl rfl rfl rfl rfl ?_
              refine OQ.exF rfl rfl rfl rfl rfl ?_
              refine OQ.exF rfl rfl rfl rfl rfl ?_
              refine OQ.exF rfl rfl rfl rfl rfl ?_
              refine OQ.exF rfl rfl rfl rfl rfl ?_
              refine OQ.exF rfl rfl rfl rfl rfl ?_
              refine OQ.exF rfl rfl rfl rfl rfl ?_
              refine OQ.exF rfl rfl rfl rfl rfl ?_
              refine OQ.exF rfl rfl rfl rfl rfl ?_
              refine OQ.exF rfl rfl rfl rfl rfl ?_
              refine OQ.exF rfl rfl rfl rfl rfl ?_
              refine OQ.ex rfl (fun w H => (Ex.pick_f rfl rfl)) rfl ?_
              refine OQ.done ?_
              refine hK33 _ _ _ ?_
              refine W.cond_f rfl ?_
              refine W.skip ?_
              refine hK32 _ _ _ ?_
              refine W.region ?_
              refine O.ex (Ex.move rfl) rfl ?_
              refine O.ex (by first | exact Ex.addI rfl rfl | exact Ex.add rfl rfl rfl) rfl ?_
              refine O.ex (Ex.assign rfl) rfl ?_
              refine O.nil ?_
              exact ⟨b + 1, ⟨rfl, rfl, rfl, rfl, rfl, rfl, rfl, rfl, trivial⟩, ⟨rfl, by omega, Holds.to (by assumption)⟩, by omega⟩
          · refine W.exit ?_
            refine hK28 _ _ _ ?_
            refine W.region ?_
            refine O.ex (Ex.move rfl) rfl ?_
            refine O.ex (by first | exact Ex.addI rfl rfl | exact Ex.add rfl rfl rfl) rfl ?_
            refine O.ex (Ex.assign rfl) rfl ?_
            refine O.nil ?_
            exact ⟨a + 1, ⟨rfl, rfl, rfl, rfl, rfl, rfl, rfl, trivial⟩, ⟨rfl, by omega, Holds.to (by assumption)⟩, by omega⟩
        · refine W.exit ?_
          refine hK24 _ _ _ ?_
          refine W.seq (fun K34 hK34 => ?_)
          refine W.region ?_
          refine O.ex (Ex.move rfl) rfl ?_
          refine O.ex (Ex.nilNe Try.runUnderlying25 rfl rfl) rfl ?_
          refine O.ex (Ex.move rfl) rfl ?_
          refine O.known (t := 134) (c := true) rfl (by first | rfl | decide | exact decide_eq_false (fun hh => hh hv) | exact decide_eq_true hv | exact decide_eq_false (fun hh => hh rfl) | (simp; done)) ?_
          refine O.guard_t rfl rfl ?_
          refine O.ex (Ex.move rfl) rfl ?_
          have H := (rh_open (m := b10) (n := n) (c := c)).2 (Holds.to (by assumption))
          refine O.guard_t rfl rfl ?_
          refine O.callF Try.call24 rfl rfl (CT.mono (same_ct hg (Holds.to (by assumption))) ?_)
          rintro _ w ⟨rfl, H⟩
          refine O.ex (Ex.pick_t rfl rfl) rfl ?_
          refine O.ex (Ex.assign rfl) rfl ?_
          refine O.nil ?_
          refine hK34 _ _ _ ?_
          refine W.ret ?_
          try dsimp only [thenQ, blockQ, retQ]
          first | refine ⟨_, ⟨_, _, rfl, rfl, rfl⟩, ?_⟩ | (refine retD_mark ?_; intro w H; refine ⟨_, ⟨_, _, rfl, rfl, rfl⟩, ?_⟩) | (refine retD_mark2 ?_; intro w H; refine ⟨_, ⟨_, _, rfl, rfl, rfl⟩, ?_⟩)
          exact ⟨rfl, Holds.base_below (L := []) (Holds.to (by assumption))⟩
    · refine O.guard_f rfl rfl rfl rfl ?_
      refine O.guard_f rfl rfl rfl rfl ?_
      refine O.ex (Ex.pick_f rfl rfl) rfl ?_
      refine O.nil ?_
      refine hK12 _ _ _ ?_
      refine W.cond_f rfl ?_
      refine W.exit ?_
      refine hK9 _ _ _ ?_
      refine W.seq (fun K35 hK35 => ?_)
      refine W.region ?_
      refine O.ex (Ex.move rfl) rfl ?_
      refine O.callF Try.call17 rfl rfl (CT.mono (refAll_ct (by assumption) (Holds.to (by assumption))) ?_)
      rintro _ w ⟨rfl, H⟩
      refine O.allocM [] zS (fun b16 w H => ?_)
      refine O.storeMall (hd := []) Try.sizeOf30 rfl rfl rfl rfl rfl (fun w H => ?_)
      refine O.nil ?_
      refine hK35 _ _ _ ?_
      refine W.seq (fun K36 hK36 => ?_)
      refine W.seq (fun K37 hK37 => ?_)
      refine W.region ?_
      refine O.ex (Ex.assign rfl) rfl ?_
      refine O.nil ?_
      refine hK37 _ _ _ ?_
      refine W.block ?_
      have H : Holds w [mtx b16 30 [] (far n cc), mtx r 32 [.int .i64 n] cc, vec b12 53 [] 24 Value.bool g, mtx b11 30 [] (far n c), Mh fc n c, mtx b10 32 [.int .i64 n] c, base w0] := Holds.to (by assumption)
      refine W.loop (σ := Nat) (fun i => [(8, .pointer (some ⟨r, 0, none⟩)), (9, .pointer (some ⟨fc, 0, none⟩)), (10, .pointer (some ⟨b10, 0, none⟩)), (11, .pointer (some ⟨b11, 0, none⟩)), (12, .pointer (some ⟨b12, 0, none⟩)), (16, .pointer (some ⟨b16, 0, none⟩)), (17, .int .i64 (i : Int))]) (fun i ds w => ds = [] ∧ (i : Int) ≤ n ∧ Holds w [mtx b16 30 [] (far n cc), mtx r 32 [.int .i64 n] cc, vec b12 53 [] 24 Value.bool g, mtx b11 30 [] (far n c), Mh fc n c, mtx b10 32 [.int .i64 n] c, base w0]) (fun i => n.toNat - i) 0 ⟨rfl, rfl, rfl, rfl, rfl, rfl, rfl, trivial⟩ ⟨rfl, by omega, Holds.to (by assumption)⟩ ?_
      clear H
      rintro a _ w ⟨rfl, ha, H⟩
      refine W.seq (fun K38 hK38 => ?_)
      refine W.seq (fun K39 hK39 => ?_)
      refine W.region ?_
      refine O.ex (Ex.move rfl) rfl ?_
      refine O.ex (Ex.move rfl) rfl ?_
      refine O.ex (by first | exact Ex.nilPtr rfl | exact Ex.nilFunc rfl | exact Ex.nilYield rfl) rfl ?_
      refine O.ex (by first | exact Ex.field0 fld32_0 rfl | exact Ex.field fld32_0 rfl | exact Ex.fieldS fld32_0 rfl | exact Ex.fieldIn fld32_0 rfl) rfl ?_
      refine O.ex (by first | exact Ex.loadMh Try.isAgg3 rfl | exact Ex.loadInF Try.isAgg3 rfl (Holds.to (by assumption)) | exact Ex.loadP Try.isAgg3 rfl | exact Ex.loadM Try.isAgg3 rfl | exact Ex.loadIn1 Try.isAgg3 rfl (Holds.to (by assumption)) | exact Ex.loadVc Try.isAgg3 rfl | exact Ex.loadR Try.isAgg3 rfl | exact Ex.loadQ Try.isAgg3 rfl) rfl ?_
      refine O.ex (Ex.lss rfl rfl) rfl ?_
      refine O.nil ?_
      refine hK39 _ _ _ ?_
      first | refine W.cond_p rfl (fun hlta => ?_) (fun hgea => ?_) | refine W.cond_b rfl (fun hlta => ?_) (fun hgea => ?_)
      · refine W.skip ?_
        refine hK38 _ _ _ ?_
        refine W.seq (fun K40 hK40 => ?_)
        refine W.block ?_
        refine W.seq (fun K41 hK41 => ?_)
        refine W.region ?_
        refine O.ex (Ex.assign rfl) rfl ?_
        refine O.nil ?_
        refine hK41 _ _ _ ?_
        refine W.block ?_
        refine W.loop (σ := Nat) (fun b => [(8, .pointer (some ⟨r, 0, none⟩)), (9, .pointer (some ⟨fc, 0, none⟩)), (10, .pointer (some ⟨b10, 0, none⟩)), (11, .pointer (some ⟨b11, 0, none⟩)), (12, .pointer (some ⟨b12, 0, none⟩)), (16, .pointer (some ⟨b16, 0, none⟩)), (17, .int .i64 (a : Int)), (18, .int .i64 (b : Int))]) (fun b ds w => ds = [] ∧ (b : Int) ≤ n ∧ Holds w [mtx b16 30 [] (far n cc), mtx r 32 [.int .i64 n] cc, vec b12 53 [] 24 Value.bool g, mtx b11 30 [] (far n c), Mh fc n c, mtx b10 32 [.int .i64 n] c, base w0]) (fun b => n.toNat - b) 0 ⟨rfl, rfl, rfl, rfl, rfl, rfl, rfl, rfl, trivial⟩ ⟨rfl, by omega, Holds.to (by assumption)⟩ ?_
        clear H
        rintro b _ w ⟨rfl, hb, H⟩
        refine W.seq (fun K42 hK42 => ?_)
        refine W.seq (fun K43 hK43 => ?_)
        refine W.region ?_
        refine O.ex (Ex.move rfl) rfl ?_
        refine O.ex (Ex.move rfl) rfl ?_
        refine O.ex (by first | exact Ex.nilPtr rfl | exact Ex.nilFunc rfl | exact Ex.nilYield rfl) rfl ?_
        refine O.ex (by first | exact Ex.field0 fld32_0 rfl | exact Ex.field fld32_0 rfl | exact Ex.fieldS fld32_0 rfl | exact Ex.fieldIn fld32_0 rfl) rfl ?_
        refine O.ex (by first | exact Ex.loadMh Try.isAgg3 rfl | exact Ex.loadInF Try.isAgg3 rfl (Holds.to (by assumption)) | exact Ex.loadP Try.isAgg3 rfl | exact Ex.loadM Try.isAgg3 rfl | exact Ex.loadIn1 Try.isAgg3 rfl (Holds.to (by assumption)) | exact Ex.loadVc Try.isAgg3 rfl | exact Ex.loadR Try.isAgg3 rfl | exact Ex.loadQ Try.isAgg3 rfl) rfl ?_
        refine O.ex (Ex.lss rfl rfl) rfl ?_
        refine O.nil ?_
        refine hK43 _ _ _ ?_
        first | refine W.cond_p rfl (fun hltb => ?_) (fun hgeb => ?_) | refine W.cond_b rfl (fun hltb => ?_) (fun hgeb => ?_)
        · refine W.skip ?_
          refine hK42 _ _ _ ?_
          refine W.seq (fun K44 hK44 => ?_)
          refine W.block ?_
          refine W.seq (fun K45 hK45 => ?_)
          refine W.drawTo _ (.take 0 (.take 1 (.take 2 (.take 3 (.take 4 (.take 5 (.take 6 (.take 7 (.take 8 (.take 9 (.take 10 (.take 11 (.take 12 (.take 13 (.take 14 (.take 15 (.take 16 (.take 17 (.take 18 (.take 19 (.take 20 (.take 21 (.take 22 .nil))))))))))))))))))))))) (mixed) (fun _ _ _ _ h => h) (by assumption) (PP.refl _) (by decide +kernel) (fun w H => ?_)
          refine OQ.ex rfl (fun w H => (Ex.move rfl)) rfl ?_
          refine OQ.ex rfl (fun w H => (Ex.idxArr Try.runUnderlying53 Try.sizeOf4 rfl rfl)) rfl ?_
          refine OQ.ex rfl (fun w H => (by first | exact Ex.loadM Try.isAgg4 rfl | exact Ex.loadVc Try.isAgg4 rfl | exact Ex.loadP Try.isAgg4 rfl | exact Ex.loadInF Try.isAgg4 rfl (Holds.to (by assumption)) | exact Ex.loadIn1 Try.isAgg4 rfl (Holds.to (by assumption)) | exact Ex.loadMh Try.isAgg4 rfl | exact Ex.loadR Try.isAgg4 rfl | exact Ex.loadQ Try.isAgg4 rfl)) rfl ?_
          refine OQ.ex rfl (fun w H => (by first | exact Ex.notD rfl | exact Ex.not rfl)) rfl ?_
          refine OQ.ex rfl (fun w H => (Ex.move rfl)) rfl ?_
          first | refine OQ.split_p (t := 113) rfl (fun hga => ?_) (fun hga => ?_) | refine OQ.split (t := 113) rfl (fun hga => ?_) (fun hga => ?_)
          · refine OQ.exT rfl rfl rfl (fun w H => (Ex.move rfl)) rfl ?_
            refine OQ.exT rfl rfl rfl (fun w H => (Ex.idxArr Try.runUnderlying53 Try.sizeOf4 rfl rfl)) rfl ?_
            refine OQ.exT rfl rfl rfl (fun w H => (by first | exact Ex.loadM Try.isAgg4 rfl | exact Ex.loadVc Try.isAgg4 rfl | exact Ex.loadP Try.isAgg4 rfl | exact Ex.loadInF Try.isAgg4 rfl (Holds.to (by assumption)) | exact Ex.loadIn1 Try.isAgg4 rfl (Holds.to (by assumption)) | exact Ex.loadMh Try.isAgg4 rfl | exact Ex.loadR Try.isAgg4 rfl | exact Ex.loadQ Try.isAgg4 rfl)) rfl ?_
            refine OQ.exT rfl rfl rfl (fun w H => (by first | exact Ex.notD rfl | exact Ex.not rfl)) rfl ?_
            refine OQ.ex rfl (fun w H => (Ex.pick_t rfl rfl)) rfl ?_
            refine OQ.ex rfl (fun w H => (Ex.move rfl)) rfl ?_
            first | refine OQ.split_p (t := 119) rfl (fun hgb => ?_) (fun hgb => ?_) | refine OQ.split (t := 119) rfl (fun hgb => ?_) (fun hgb => ?_)
            · refine OQ.exT rfl rfl rfl (fun w H => (Ex.move rfl)) rfl ?_
              refine OQ.exT rfl rfl rfl (fun w H => (Ex.move rfl)) rfl ?_
              refine OQ.exT rfl rfl rfl (fun w H => (Ex.idxArr Try.runUnderlying30 Try.sizeOf29 rfl rfl)) rfl ?_
              refine OQ.exT rfl rfl rfl (fun w H => (Ex.idxArr Try.runUnderlying29 Try.sizeOf3 rfl rfl)) rfl ?_
              refine OQ.exT rfl rfl rfl (fun w H => (by first | exact Ex.loadM Try.isAgg3 rfl | exact Ex.loadVc Try.isAgg3 rfl | exact Ex.loadP Try.isAgg3 rfl | exact Ex.loadInF Try.isAgg3 rfl (Holds.to (by assumption)) | exact Ex.loadIn1 Try.isAgg3 rfl (Holds.to (by assumption)) | exact Ex.loadMh Try.isAgg3 rfl | exact Ex.loadR Try.isAgg3 rfl | exact Ex.loadQ Try.isAgg3 rfl)) rfl ?_
              refine OQ.exT rfl rfl rfl (fun w H => (Ex.move rfl)) rfl ?_
              refine OQ.exT rfl rfl rfl (fun w H => (Ex.move rfl)) rfl ?_
              refine OQ.exT rfl rfl rfl (fun w H => (Ex.idxArr Try.runUnderlying30 Try.sizeOf29 rfl rfl)) rfl ?_
              refine OQ.exT rfl rfl rfl (fun w H => (Ex.idxArr Try.runUnderlying29 Try.sizeOf3 rfl rfl)) rfl ?_
              refine OQ.exT rfl rfl rfl (fun w H => (by first | exact Ex.loadM Try.isAgg3 rfl | exact Ex.loadVc Try.isAgg3 rfl | exact Ex.loadP Try.isAgg3 rfl | exact Ex.loadInF Try.isAgg3 rfl (Holds.to (by assumption)) | exact Ex.loadIn1 Try.isAgg3 rfl (Holds.to (by assumption)) | exact Ex.loadMh Try.isAgg3 rfl | exact Ex.loadR Try.isAgg3 rfl | exact Ex.loadQ Try.isAgg3 rfl)) rfl ?_
              refine OQ.exT rfl rfl rfl (fun w H => (Ex.neqI rfl rfl)) rfl ?_
              refine OQ.ex rfl (fun w H => (Ex.pick_t rfl rfl)) rfl ?_
              refine OQ.done ?_
              refine hK45 _ _ _ ?_
              first | refine W.cond_p rfl (fun hbad => ?_) (fun hok => ?_) | refine W.cond_b rfl (fun hbad => ?_) (fun hok => ?_)
              · exact absurd (hfar a b (by simpa using hga) (by simpa using hgb)) hbad
              · refine W.skip ?_
                refine hK44 _ _ _ ?_
                refine W.region ?_
                refine O.ex (Ex.move rfl) rfl ?_
                refine O.ex (by first | exact Ex.addI rfl rfl | exact Ex.add rfl rfl rfl) rfl ?_
                refine O.ex (Ex.assign rfl) rfl ?_
                refine O.nil ?_
                exact ⟨b + 1, ⟨rfl, rfl, rfl, rfl, rfl, rfl, rfl, rfl, trivial⟩, ⟨rfl, by omega, Holds.to (by assumption)⟩, by omega⟩
            · refine OQ.exF rfl rfl rfl rfl rfl ?_
              refine OQ.exF rfl rfl rfl rfl rfl ?_
              refine OQ.exF rfl rfl rfl rfl rfl ?_
              refine OQ.exF rfl rfl rfl rfl rfl ?_
              refine OQ.exF rfl rfl rfl rfl rfl ?_
              refine OQ.exF rfl rfl rfl rfl rfl ?_
              refine OQ.exF rfl rfl rfl rfl rfl ?_
              refine OQ.exF rfl rfl rfl rfl rfl ?_
              refine OQ.exF rfl rfl rfl rfl rfl ?_
              refine OQ.exF rfl rfl rfl rfl rfl ?_
              refine OQ.exF rfl rfl rfl rfl rfl ?_
              refine OQ.ex rfl (fun w H => (Ex.pick_f rfl rfl)) rfl ?_
              refine OQ.done ?_
              refine hK45 _ _ _ ?_
              refine W.cond_f rfl ?_
              refine W.skip ?_
              refine hK44 _ _ _ ?_
              refine W.region ?_
              refine O.ex (Ex.move rfl) rfl ?_
              refine O.ex (by first | exact Ex.addI rfl rfl | exact Ex.add rfl rfl rfl) rfl ?_
              refine O.ex (Ex.assign rfl) rfl ?_
              refine O.nil ?_
              exact ⟨b + 1, ⟨rfl, rfl, rfl, rfl, rfl, rfl, rfl, rfl, trivial⟩, ⟨rfl, by omega, Holds.to (by assumption)⟩, by omega⟩
          · refine OQ.exF rfl rfl rfl rfl rfl ?_
            refine OQ.exF rfl rfl rfl rfl rfl ?_
            refine OQ.exF rfl rfl rfl rfl rfl ?_
            refine OQ.exF rfl rfl rfl rfl rfl ?_
            refine OQ.ex rfl (fun w H => (Ex.pick_f rfl rfl)) rfl ?_
            refine OQ.ex rfl (fun w H => (Ex.move rfl)) rfl ?_
            refine OQ.exF rfl rfl rfl rfl rfl ?_
            refine OQ.exF rfl rfl rfl rfl rfl ?_
            refine OQ.exF rfl rfl rfl rfl rfl ?_
            refine OQ.exF rfl rfl rfl rfl rfl ?_
            refine OQ.exF rfl rfl rfl rfl rfl ?_
            refine OQ.exF rfl rfl rfl rfl rfl ?_
            refine OQ.exF rfl rfl rfl rfl rfl ?_
            refine OQ.exF rfl rfl rfl rfl rfl ?_
            refine OQ.exF rfl rfl rfl rfl rfl ?_
            refine OQ.exF rfl rfl rfl rfl rfl ?_
            refine OQ.exF rfl rfl rfl rfl rfl ?_
            refine OQ.ex rfl (fun w H => (Ex.pick_f rfl rfl)) rfl ?_
            refine OQ.done ?_
            refine hK45 _ _ _ ?_
            refine W.cond_f rfl ?_
            refine W.skip ?_
            refine hK44 _ _ _ ?_
            refine W.region ?_
            refine O.ex (Ex.move rfl) rfl ?_
            refine O.ex (by first | exact Ex.addI rfl rfl | exact Ex.add rfl rfl rfl) rfl ?_
            refine O.ex (Ex.assign rfl) rfl ?_
            refine O.nil ?_
            exact ⟨b + 1, ⟨rfl, rfl, rfl, rfl, rfl, rfl, rfl, rfl, trivial⟩, ⟨rfl, by omega, Holds.to (by assumption)⟩, by omega⟩
        · refine W.exit ?_
          refine hK40 _ _ _ ?_
          refine W.region ?_
          refine O.ex (Ex.move rfl) rfl ?_
          refine O.ex (by first | exact Ex.addI rfl rfl | exact Ex.add rfl rfl rfl) rfl ?_
          refine O.ex (Ex.assign rfl) rfl ?_
          refine O.nil ?_
          exact ⟨a + 1, ⟨rfl, rfl, rfl, rfl, rfl, rfl, rfl, trivial⟩, ⟨rfl, by omega, Holds.to (by assumption)⟩, by omega⟩
      · refine W.exit ?_
        refine hK36 _ _ _ ?_
        refine W.seq (fun K46 hK46 => ?_)
        refine W.region ?_
        refine O.ex (Ex.move rfl) rfl ?_
        refine O.ex (Ex.nilNe Try.runUnderlying25 rfl rfl) rfl ?_
        refine O.ex (Ex.move rfl) rfl ?_
        refine O.known (t := 134) (c := true) rfl (by first | rfl | decide | exact decide_eq_false (fun hh => hh hv) | exact decide_eq_true hv | exact decide_eq_false (fun hh => hh rfl) | (simp; done)) ?_
        refine O.guard_t rfl rfl ?_
        refine O.ex (Ex.move rfl) rfl ?_
        have H := (rh_open (m := b10) (n := n) (c := c)).2 (Holds.to (by assumption))
        refine O.guard_t rfl rfl ?_
        refine O.callF Try.call24 rfl rfl (CT.mono (same_ct hg (Holds.to (by assumption))) ?_)
        rintro _ w ⟨rfl, H⟩
        refine O.ex (Ex.pick_t rfl rfl) rfl ?_
        refine O.ex (Ex.assign rfl) rfl ?_
        refine O.nil ?_
        refine hK46 _ _ _ ?_
        refine W.ret ?_
        try dsimp only [thenQ, blockQ, retQ]
        first | refine ⟨_, ⟨_, _, rfl, rfl, rfl⟩, ?_⟩ | (refine retD_mark ?_; intro w H; refine ⟨_, ⟨_, _, rfl, rfl, rfl⟩, ?_⟩) | (refine retD_mark2 ?_; intro w H; refine ⟨_, ⟨_, _, rfl, rfl, rfl⟩, ?_⟩)
        exact ⟨rfl, Holds.base_below (L := []) (Holds.to (by assumption))⟩
  · refine O.allocM [.int .i64 0] zR (fun b10 w H => ?_)
    refine O.thenNil ⟨(by first | exact Holds.to (by assumption) | assumption), ?_⟩
    refine OQ.step rfl ?_
    refine O.callF Try.call29 rfl rfl (CT.mono (copy_ct (Holds.to (by assumption))) ?_)
    rintro _ w ⟨fc, rfl, H⟩
    refine O.thenNil ⟨(by first | exact Holds.to (by assumption) | assumption), ?_⟩
    refine OQ.ex rfl (fun w H => (Ex.assign rfl)) rfl ?_
    refine OQ.last rfl (by decide +kernel) ?_
    refine O.storeMall (hd := [.int .i64 0]) Try.sizeOf32 rfl rfl rfl rfl rfl (fun w H => ?_)
    refine O.nil ?_
    refine hK6 _ _ _ ?_
    refine W.seq (fun K47 hK47 => ?_)
    refine W.region ?_
    have H := (rh_open (m := r) (n := n) (c := c)).2 (Holds.to (by assumption))
    refine O.ex (Ex.move rfl) rfl ?_
    refine O.callF Try.call17 rfl rfl (CT.mono (refAll_ct (by assumption) (Holds.to (by assumption))) ?_)
    rintro _ w ⟨rfl, H⟩
    refine O.allocM [] zS (fun b11 w H => ?_)
    refine O.storeMall (hd := []) Try.sizeOf30 rfl rfl rfl rfl rfl (fun w H => ?_)
    refine O.nil ?_
    refine hK47 _ _ _ ?_
    refine W.seq (fun K48 hK48 => ?_)
    refine W.region ?_
    refine O.allocP Try.zeroValue53 (fun b12 w H => ?_)
    have H := goneV H
    refine O.nil ?_
    refine hK48 _ _ _ ?_
    refine W.seq (fun K49 hK49 => ?_)
    refine W.seq (fun K50 hK50 => ?_)
    refine W.region ?_
    refine O.ex (Ex.assign rfl) rfl ?_
    refine O.nil ?_
    refine hK50 _ _ _ ?_
    refine W.block ?_
    have H : Holds w [Mh m n c, Rh r n c, vec b12 53 [] 24 Value.bool (fun _ => false), mtx b11 30 [] (far n c), Mh fc n c, mtx b10 32 [.int .i64 n] c, base w0] := Holds.to (by assumption)
    refine W.loop (σ := Nat) (fun i => [(2, ov), (7, .pointer (some ⟨m, 0, none⟩)), (8, .pointer (some ⟨r, 0, none⟩)), (9, .pointer (some ⟨fc, 0, none⟩)), (10, .pointer (some ⟨b10, 0, none⟩)), (11, .pointer (some ⟨b11, 0, none⟩)), (12, .pointer (some ⟨b12, 0, none⟩)), (13, .int .i64 (i : Int))]) (fun i ds w => ds = [] ∧ i ≤ os.length ∧ i ≤ 40 ∧ ∃ cc g, Good n cc ∧ (∀ a b : Nat, g a = false → g b = false → far n cc a b = far n c a b) ∧ Holds w [Mh m n cc, Rh r n cc, vec b12 53 [] 24 Value.bool g, mtx b11 30 [] (far n c), Mh fc n c, mtx b10 32 [.int .i64 n] c, base w0]) (fun i => os.length - i) 0 ⟨rfl, rfl, rfl, rfl, rfl, rfl, rfl, rfl, trivial⟩ ⟨rfl, by omega, by omega, c, _, hg, fun _ _ _ _ => rfl, Holds.to (by assumption)⟩ ?_
    clear H
    rintro i _ w ⟨rfl, hi, hi4, cc, g, hgc, hfar, H⟩
    refine W.seq (fun K51 hK51 => ?_)
    refine W.seq (fun K52 hK52 => ?_)
    refine W.region ?_
    refine O.ex (Ex.move rfl) rfl ?_
    refine O.ex (Ex.move rfl) rfl ?_
    refine O.ex (by first | exact Ex.lenR Try.runUnderlying51 rfl | exact Ex.lenIn Try.runUnderlying51 rfl | exact Ex.lenL Try.runUnderlying51 rfl | exact Ex.len rfl Try.runUnderlying51 rfl) rfl ?_
    refine O.ex (Ex.lss rfl rfl) rfl ?_
    refine O.ex (Ex.move rfl) rfl ?_
    first | refine O.split_p (t := 40) rfl (fun h1 => ?_) (fun h1 => ?_) | refine O.split (t := 40) rfl (fun h1 => ?_) (fun h1 => ?_)
    · refine O.guard_t rfl rfl ?_
      refine O.ex (Ex.move rfl) rfl ?_
      refine O.guard_t rfl rfl ?_
      refine O.ex (Ex.lss rfl rfl) rfl ?_
      refine O.ex (Ex.pick_t rfl rfl) rfl ?_
      refine O.nil ?_
      refine hK52 _ _ _ ?_
      first | refine W.cond_p rfl (fun hlt => ?_) (fun hge => ?_) | refine W.cond_b rfl (fun hlt => ?_) (fun hge => ?_)
      · refine W.skip ?_
        refine hK51 _ _ _ ?_
        refine W.seq (fun K53 hK53 => ?_)
        refine W.block ?_
        refine W.seq (fun K54 hK54 => ?_)
        refine W.region ?_
        have hi0 : (0 : Int) ≤ (i : Int) := by omega
        have hi1 : (i : Int) < os.length := h1
        refine O.ex (Ex.move rfl) rfl ?_
        refine O.ex (Ex.move rfl) rfl ?_
        refine O.ex (Ex.move rfl) rfl ?_
        refine O.ex (by first | exact Ex.idxR Try.runUnderlying51 Try.sizeOf3 rfl rfl | exact Ex.idxIn Try.runUnderlying51 Try.sizeOf3 rfl rfl | exact Ex.idxS Try.runUnderlying51 Try.sizeOf3 rfl rfl | exact Ex.idx Try.runUnderlying51 Try.sizeOf3 rfl rfl (by omega) (by omega)) rfl ?_
        refine O.ex (by first | exact Ex.loadR Try.isAgg3 rfl | exact Ex.loadIn1 Try.isAgg3 rfl (Holds.to (by assumption)) | exact Ex.loadInF Try.isAgg3 rfl (Holds.to (by assumption)) | exact Ex.loadP Try.isAgg3 rfl | exact Ex.loadMh Try.isAgg3 rfl | exact Ex.loadM Try.isAgg3 rfl | exact Ex.loadVc Try.isAgg3 rfl | exact Ex.loadQ Try.isAgg3 rfl) rfl ?_
        refine O.callF Try.call18 rfl rfl (CT.mono (contract_ct hgc (Holds.to (by assumption))) ?_)
        rintro _ w hh
        rcases hh with ⟨hv, rfl, H⟩ | ⟨hv, rfl, H⟩
        · refine O.ex (Ex.move rfl) rfl ?_
          refine O.ex (Ex.extract rfl rfl) rfl ?_
          refine O.ex (Ex.extract rfl rfl) rfl ?_
          refine O.ex (Ex.assign rfl) rfl ?_
          refine O.ex (Ex.assign rfl) rfl ?_
          refine O.nil ?_
          refine hK54 _ _ _ ?_
          refine W.seq (fun K55 hK55 => ?_)
          refine W.seq (fun K56 hK56 => ?_)
          refine W.region ?_
          refine O.ex (Ex.move rfl) rfl ?_
          refine O.ex (Ex.move rfl) rfl ?_
          refine O.ex (Ex.move rfl) rfl ?_
          refine O.ex (by first | exact Ex.idxR Try.runUnderlying51 Try.sizeOf3 rfl rfl | exact Ex.idxIn Try.runUnderlying51 Try.sizeOf3 rfl rfl | exact Ex.idxS Try.runUnderlying51 Try.sizeOf3 rfl rfl | exact Ex.idx Try.runUnderlying51 Try.sizeOf3 rfl rfl (by omega) (by omega)) rfl ?_
          refine O.ex (by first | exact Ex.loadR Try.isAgg3 rfl | exact Ex.loadIn1 Try.isAgg3 rfl (Holds.to (by assumption)) | exact Ex.loadInF Try.isAgg3 rfl (Holds.to (by assumption)) | exact Ex.loadP Try.isAgg3 rfl | exact Ex.loadMh Try.isAgg3 rfl | exact Ex.loadM Try.isAgg3 rfl | exact Ex.loadVc Try.isAgg3 rfl | exact Ex.loadQ Try.isAgg3 rfl) rfl ?_
          refine O.callF Try.call30 rfl rfl (CT.mono (vertexr_ct (Holds.to (by assumption))) ?_)
          rintro _ w ⟨rfl, H⟩
          refine O.ex (by first | exact Ex.notD rfl | exact Ex.not rfl) rfl ?_
          refine O.nil ?_
          refine hK56 _ _ _ ?_
          refine W.known_f rfl (by first | rfl | decide | exact decide_eq_false (fun hh => hh hv) | exact decide_eq_true hv | exact decide_eq_false (fun hh => hh rfl) | (simp; done)) ?_
          refine W.skip ?_
          refine hK55 _ _ _ ?_
          refine W.seq (fun K57 hK57 => ?_)
          refine W.region ?_
          refine O.ex (Ex.move rfl) rfl ?_
          refine O.ex (Ex.move rfl) rfl ?_
          refine O.ex (by first | exact Ex.idxR Try.runUnderlying51 Try.sizeOf3 rfl rfl | exact Ex.idxIn Try.runUnderlying51 Try.sizeOf3 rfl rfl | exact Ex.idxS Try.runUnderlying51 Try.sizeOf3 rfl rfl | exact Ex.idx Try.runUnderlying51 Try.sizeOf3 rfl rfl (by omega) (by omega)) rfl ?_
          refine O.ex (by first | exact Ex.loadR Try.isAgg3 rfl | exact Ex.loadIn1 Try.isAgg3 rfl (Holds.to (by assumption)) | exact Ex.loadInF Try.isAgg3 rfl (Holds.to (by assumption)) | exact Ex.loadP Try.isAgg3 rfl | exact Ex.loadMh Try.isAgg3 rfl | exact Ex.loadM Try.isAgg3 rfl | exact Ex.loadVc Try.isAgg3 rfl | exact Ex.loadQ Try.isAgg3 rfl) rfl ?_
          refine O.ex (Ex.idxArr Try.runUnderlying53 Try.sizeOf4 rfl rfl) rfl ?_
          first | refine O.storeP Try.sizeOf4 rfl rfl (fun w H => ?_) | refine O.storeR Try.sizeOf4 rfl rfl (fun w H => ?_) | refine O.storeM Try.sizeOf4 rfl rfl (fun w H => ?_) | refine O.storeVc Try.sizeOf4 rfl rfl (fun w H => ?_)
          refine O.nil ?_
          refine hK57 _ _ _ ?_
          refine W.seq (fun K58 hK58 => ?_)
          refine W.region ?_
          have hgc2 := good_contr hgc (os.getD ((i : Nat) : Int).toNat default)
          refine O.ex (Ex.move rfl) rfl ?_
          refine O.ex (Ex.move rfl) rfl ?_
          refine O.ex (Ex.move rfl) rfl ?_
          refine O.ex (Ex.move rfl) rfl ?_
          refine O.ex (by first | exact Ex.idxR Try.runUnderlying51 Try.sizeOf3 rfl rfl | exact Ex.idxIn Try.runUnderlying51 Try.sizeOf3 rfl rfl | exact Ex.idxS Try.runUnderlying51 Try.sizeOf3 rfl rfl | exact Ex.idx Try.runUnderlying51 Try.sizeOf3 rfl rfl (by omega) (by omega)) rfl ?_
          refine O.ex (by first | exact Ex.loadR Try.isAgg3 rfl | exact Ex.loadIn1 Try.isAgg3 rfl (Holds.to (by assumption)) | exact Ex.loadInF Try.isAgg3 rfl (Holds.to (by assumption)) | exact Ex.loadP Try.isAgg3 rfl | exact Ex.loadMh Try.isAgg3 rfl | exact Ex.loadM Try.isAgg3 rfl | exact Ex.loadVc Try.isAgg3 rfl | exact Ex.loadQ Try.isAgg3 rfl) rfl ?_
          refine O.callF Try.call31 rfl rfl (CT.mono (refContract_ct hgc hv.1 hv.2 (Holds.to (by assumption))) ?_)
          rintro _ w ⟨rfl, H⟩
          refine O.ex (Ex.neqI rfl rfl) rfl ?_
          refine O.ex (Ex.move rfl) rfl ?_
          refine O.known (t := 81) (c := false) rfl (by first | rfl | decide | exact decide_eq_false (fun hh => hh hv) | exact decide_eq_true hv | exact decide_eq_false (fun hh => hh rfl) | (simp; done)) ?_
          refine O.guard_t rfl rfl ?_
          refine O.ex (Ex.move rfl) rfl ?_
          refine O.guard_t rfl rfl ?_
          refine O.ex (Ex.neqI rfl rfl) rfl ?_
          refine O.ex (Ex.pick_f rfl rfl) rfl ?_
          refine O.ex (Ex.move rfl) rfl ?_
          refine O.known (t := 85) (c := false) rfl (by first | rfl | decide | exact decide_eq_false (fun hh => hh hv) | exact decide_eq_true hv | exact decide_eq_false (fun hh => hh rfl) | (simp; done)) ?_
          refine O.guard_t rfl rfl ?_
          refine O.ex (Ex.move rfl) rfl ?_
          refine O.guard_t rfl rfl ?_
          refine O.ex (Ex.move rfl) rfl ?_
          refine O.guard_t rfl rfl ?_
          refine O.callF Try.call24 rfl rfl (CT.mono (same_ct hgc2 (Holds.to (by assumption))) ?_)
          rintro _ w ⟨rfl, H⟩
          refine O.guard_t rfl rfl ?_
          refine O.ex (by first | exact Ex.notD rfl | exact Ex.not rfl) rfl ?_
          refine O.ex (Ex.pick_f rfl rfl) rfl ?_
          refine O.nil ?_
          refine hK58 _ _ _ ?_
          refine W.known_f rfl (by first | rfl | decide | exact decide_eq_false (fun hh => hh hv) | exact decide_eq_true hv | exact decide_eq_false (fun hh => hh rfl) | (simp; done)) ?_
          refine W.skip ?_
          refine hK53 _ _ _ ?_
          refine W.region ?_
          refine O.ex (Ex.move rfl) rfl ?_
          refine O.ex (by first | exact Ex.addI rfl rfl | exact Ex.add rfl rfl rfl) rfl ?_
          refine O.ex (Ex.assign rfl) rfl ?_
          refine O.nil ?_
          refine ⟨i + 1, ⟨rfl, rfl, rfl, rfl, rfl, rfl, rfl, rfl, trivial⟩, ⟨rfl, by omega, by omega, _, _, hgc2, fun a b ha hb => ?_, Holds.to (by assumption)⟩, by omega⟩
          unfold upd1 at ha hb
          split at ha
          · cases ha
          split at hb
          · cases hb
          exact (contr_far hgc _ a b (by omega) (by omega)).trans (hfar a b ha hb)
        · refine O.ex (Ex.move rfl) rfl ?_
          refine O.ex (Ex.extract rfl rfl) rfl ?_
          refine O.ex (Ex.extract rfl rfl) rfl ?_
          refine O.ex (Ex.assign rfl) rfl ?_
          refine O.ex (Ex.assign rfl) rfl ?_
          refine O.nil ?_
          refine hK54 _ _ _ ?_
          refine W.seq (fun K59 hK59 => ?_)
          refine W.seq (fun K60 hK60 => ?_)
          refine W.region ?_
          refine O.ex (Ex.move rfl) rfl ?_
          refine O.ex (Ex.move rfl) rfl ?_
          refine O.ex (Ex.move rfl) rfl ?_
          refine O.ex (by first | exact Ex.idxR Try.runUnderlying51 Try.sizeOf3 rfl rfl | exact Ex.idxIn Try.runUnderlying51 Try.sizeOf3 rfl rfl | exact Ex.idxS Try.runUnderlying51 Try.sizeOf3 rfl rfl | exact Ex.idx Try.runUnderlying51 Try.sizeOf3 rfl rfl (by omega) (by omega)) rfl ?_
          refine O.ex (by first | exact Ex.loadR Try.isAgg3 rfl | exact Ex.loadIn1 Try.isAgg3 rfl (Holds.to (by assumption)) | exact Ex.loadInF Try.isAgg3 rfl (Holds.to (by assumption)) | exact Ex.loadP Try.isAgg3 rfl | exact Ex.loadMh Try.isAgg3 rfl | exact Ex.loadM Try.isAgg3 rfl | exact Ex.loadVc Try.isAgg3 rfl | exact Ex.loadQ Try.isAgg3 rfl) rfl ?_
          refine O.callF Try.call30 rfl rfl (CT.mono (vertexr_ct (Holds.to (by assumption))) ?_)
          rintro _ w ⟨rfl, H⟩
          refine O.ex (by first | exact Ex.notD rfl | exact Ex.not rfl) rfl ?_
          refine O.nil ?_
          refine hK60 _ _ _ ?_
          refine W.known_t rfl (by first | rfl | decide | exact decide_eq_false (fun hh => hh hv) | exact decide_eq_true hv | exact decide_eq_false (fun hh => hh rfl) | (simp; done)) ?_
          refine W.seq (fun K61 hK61 => ?_)
          refine W.seq (fun K62 hK62 => ?_)
          refine W.region ?_
          refine O.ex (Ex.move rfl) rfl ?_
          refine O.ex (Ex.neqI rfl rfl) rfl ?_
          refine O.ex (Ex.move rfl) rfl ?_
          refine O.known (t := 64) (c := false) rfl (by first | rfl | decide | exact decide_eq_false (fun hh => hh hv) | exact decide_eq_true hv | exact decide_eq_false (fun hh => hh rfl) | (simp; done)) ?_
          refine O.guard_t rfl rfl ?_
          refine O.ex (Ex.move rfl) rfl ?_
          refine O.guard_t rfl rfl ?_
          refine O.ex (Ex.neqI rfl rfl) rfl ?_
          refine O.ex (Ex.pick_f rfl rfl) rfl ?_
          refine O.nil ?_
          refine hK62 _ _ _ ?_
          refine W.known_f rfl (by first | rfl | decide | exact decide_eq_false (fun hh => hh hv) | exact decide_eq_true hv | exact decide_eq_false (fun hh => hh rfl) | (simp; done)) ?_
          refine W.skip ?_
          refine hK61 _ _ _ ?_
          refine W.exit ?_
          refine hK53 _ _ _ ?_
          refine W.region ?_
          refine O.ex (Ex.move rfl) rfl ?_
          refine O.ex (by first | exact Ex.addI rfl rfl | exact Ex.add rfl rfl rfl) rfl ?_
          refine O.ex (Ex.assign rfl) rfl ?_
          refine O.nil ?_
          exact ⟨i + 1, ⟨rfl, rfl, rfl, rfl, rfl, rfl, rfl, rfl, trivial⟩, ⟨rfl, by omega, by omega, cc, g, hgc, hfar, Holds.to (by assumption)⟩, by omega⟩
      · refine W.exit ?_
        refine hK49 _ _ _ ?_
        refine W.seq (fun K63 hK63 => ?_)
        refine W.region ?_
        refine O.ex (Ex.move rfl) rfl ?_
        refine O.callF Try.call17 rfl rfl (CT.mono (refAll_ct (by assumption) (Holds.to (by assumption))) ?_)
        rintro _ w ⟨rfl, H⟩
        refine O.allocM [] zS (fun b16 w H => ?_)
        refine O.storeMall (hd := []) Try.sizeOf30 rfl rfl rfl rfl rfl (fun w H => ?_)
        refine O.nil ?_
        refine hK63 _ _ _ ?_
        refine W.seq (fun K64 hK64 => ?_)
        refine W.seq (fun K65 hK65 => ?_)
        refine W.region ?_
        refine O.ex (Ex.assign rfl) rfl ?_
        refine O.nil ?_
        refine hK65 _ _ _ ?_
        refine W.block ?_
        have H : Holds w [mtx b16 30 [] (far n cc), mtx r 32 [.int .i64 n] cc, vec b12 53 [] 24 Value.bool g, mtx b11 30 [] (far n c), Mh fc n c, mtx b10 32 [.int .i64 n] c, base w0] := Holds.to (by assumption)
        refine W.loop (σ := Nat) (fun i => [(8, .pointer (some ⟨r, 0, none⟩)), (9, .pointer (some ⟨fc, 0, none⟩)), (10, .pointer (some ⟨b10, 0, none⟩)), (11, .pointer (some ⟨b11, 0, none⟩)), (12, .pointer (some ⟨b12, 0, none⟩)), (16, .pointer (some ⟨b16, 0, none⟩)), (17, .int .i64 (i : Int))]) (fun i ds w => ds = [] ∧ (i : Int) ≤ n ∧ Holds w [mtx b16 30 [] (far n cc), mtx r 32 [.int .i64 n] cc, vec b12 53 [] 24 Value.bool g, mtx b11 30 [] (far n c), Mh fc n c, mtx b10 32 [.int .i64 n] c, base w0]) (fun i => n.toNat - i) 0 ⟨rfl, rfl, rfl, rfl, rfl, rfl, rfl, trivial⟩ ⟨rfl, by omega, Holds.to (by assumption)⟩ ?_
        clear H
        rintro a _ w ⟨rfl, ha, H⟩
        refine W.seq (fun K66 hK66 => ?_)
        refine W.seq (fun K67 hK67 => ?_)
        refine W.region ?_
        refine O.ex (Ex.move rfl) rfl ?_
        refine O.ex (Ex.move rfl) rfl ?_
        refine O.ex (by first | exact Ex.nilPtr rfl | exact Ex.nilFunc rfl | exact Ex.nilYield rfl) rfl ?_
        refine O.ex (by first | exact Ex.field0 fld32_0 rfl | exact Ex.field fld32_0 rfl | exact Ex.fieldS fld32_0 rfl | exact Ex.fieldIn fld32_0 rfl) rfl ?_
        refine O.ex (by first | exact Ex.loadMh Try.isAgg3 rfl | exact Ex.loadInF Try.isAgg3 rfl (Holds.to (by assumption)) | exact Ex.loadP Try.isAgg3 rfl | exact Ex.loadM Try.isAgg3 rfl | exact Ex.loadIn1 Try.isAgg3 rfl (Holds.to (by assumption)) | exact Ex.loadVc Try.isAgg3 rfl | exact Ex.loadR Try.isAgg3 rfl | exact Ex.loadQ Try.isAgg3 rfl) rfl ?_
        refine O.ex (Ex.lss rfl rfl) rfl ?_
        refine O.nil ?_
        refine hK67 _ _ _ ?_
        first | refine W.cond_p rfl (fun hlta => ?_) (fun hgea => ?_) | refine W.cond_b rfl (fun hlta => ?_) (fun hgea => ?_)
        · refine W.skip ?_
          refine hK66 _ _ _ ?_
          refine W.seq (fun K68 hK68 => ?_)
          refine W.block ?_
          refine W.seq (fun K69 hK69 => ?_)
          refine W.region ?_
          refine O.ex (Ex.assign rfl) rfl ?_
          refine O.nil ?_
          refine hK69 _ _ _ ?_
          refine W.block ?_
          refine W.loop (σ := Nat) (fun b => [(8, .pointer (some ⟨r, 0, none⟩)), (9, .pointer (some ⟨fc, 0, none⟩)), (10, .pointer (some ⟨b10, 0, none⟩)), (11, .pointer (some ⟨b11, 0, none⟩)), (12, .pointer (some ⟨b12, 0, none⟩)), (16, .pointer (some ⟨b16, 0, none⟩)), (17, .int .i64 (a : Int)), (18, .int .i64 (b : Int))]) (fun b ds w => ds = [] ∧ (b : Int) ≤ n ∧ Holds w [mtx b16 30 [] (far n cc), mtx r 32 [.int .i64 n] cc, vec b12 53 [] 24 Value.bool g, mtx b11 30 [] (far n c), Mh fc n c, mtx b10 32 [.int .i64 n] c, base w0]) (fun b => n.toNat - b) 0 ⟨rfl, rfl, rfl, rfl, rfl, rfl, rfl, rfl, trivial⟩ ⟨rfl, by omega, Holds.to (by assumption)⟩ ?_
          clear H
          rintro b _ w ⟨rfl, hb, H⟩
          refine W.seq (fun K70 hK70 => ?_)
          refine W.seq (fun K71 hK71 => ?_)
          refine W.region ?_
          refine O.ex (Ex.move rfl) rfl ?_
          refine O.ex (Ex.move rfl) rfl ?_
          refine O.ex (by first | exact Ex.nilPtr rfl | exact Ex.nilFunc rfl | exact Ex.nilYield rfl) rfl ?_
          refine O.ex (by first | exact Ex.field0 fld32_0 rfl | exact Ex.field fld32_0 rfl | exact Ex.fieldS fld32_0 rfl | exact Ex.fieldIn fld32_0 rfl) rfl ?_
          refine O.ex (by first | exact Ex.loadMh Try.isAgg3 rfl | exact Ex.loadInF Try.isAgg3 rfl (Holds.to (by assumption)) | exact Ex.loadP Try.isAgg3 rfl | exact Ex.loadM Try.isAgg3 rfl | exact Ex.loadIn1 Try.isAgg3 rfl (Holds.to (by assumption)) | exact Ex.loadVc Try.isAgg3 rfl | exact Ex.loadR Try.isAgg3 rfl | exact Ex.loadQ Try.isAgg3 rfl) rfl ?_
          refine O.ex (Ex.lss rfl rfl) rfl ?_
          refine O.nil ?_
          refine hK71 _ _ _ ?_
          first | refine W.cond_p rfl (fun hltb => ?_) (fun hgeb => ?_) | refine W.cond_b rfl (fun hltb => ?_) (fun hgeb => ?_)
          · refine W.skip ?_
            refine hK70 _ _ _ ?_
            refine W.seq (fun K72 hK72 => ?_)
            refine W.block ?_
            refine W.seq (fun K73 hK73 => ?_)
            refine W.drawTo _ (.take 0 (.take 1 (.take 2 (.take 3 (.take 4 (.take 5 (.take 6 (.take 7 (.take 8 (.take 9 (.take 10 (.take 11 (.take 12 (.take 13 (.take 14 (.take 15 (.take 16 (.take 17 (.take 18 (.take 19 (.take 20 (.take 21 (.take 22 .nil))))))))))))))))))))))) (mixed) (fun _ _ _ _ h => h) (by assumption) (PP.refl _) (by decide +kernel) (fun w H => ?_)
            refine OQ.ex rfl (fun w H => (Ex.move rfl)) rfl ?_
            refine OQ.ex rfl (fun w H => (Ex.idxArr Try.runUnderlying53 Try.sizeOf4 rfl rfl)) rfl ?_
            refine OQ.ex rfl (fun w H => (by first | exact Ex.loadM Try.isAgg4 rfl | exact Ex.loadVc Try.isAgg4 rfl | exact Ex.loadP Try.isAgg4 rfl | exact Ex.loadInF Try.isAgg4 rfl (Holds.to (by assumption)) | exact Ex.loadIn1 Try.isAgg4 rfl (Holds.to (by assumption)) | exact Ex.loadMh Try.isAgg4 rfl | exact Ex.loadR Try.isAgg4 rfl | exact Ex.loadQ Try.isAgg4 rfl)) rfl ?_
            refine OQ.ex rfl (fun w H => (by first | exact Ex.notD rfl | exact Ex.not rfl)) rfl ?_
            refine OQ.ex rfl (fun w H => (Ex.move rfl)) rfl ?_
            first | refine OQ.split_p (t := 113) rfl (fun hga => ?_) (fun hga => ?_) | refine OQ.split (t := 113) rfl (fun hga => ?_) (fun hga => ?_)
            · refine OQ.exT rfl rfl rfl (fun w H => (Ex.move rfl)) rfl ?_
              refine OQ.exT rfl rfl rfl (fun w H => (Ex.idxArr Try.runUnderlying53 Try.sizeOf4 rfl rfl)) rfl ?_
              refine OQ.exT rfl rfl rfl (fun w H => (by first | exact Ex.loadM Try.isAgg4 rfl | exact Ex.loadVc Try.isAgg4 rfl | exact Ex.loadP Try.isAgg4 rfl | exact Ex.loadInF Try.isAgg4 rfl (Holds.to (by assumption)) | exact Ex.loadIn1 Try.isAgg4 rfl (Holds.to (by assumption)) | exact Ex.loadMh Try.isAgg4 rfl | exact Ex.loadR Try.isAgg4 rfl | exact Ex.loadQ Try.isAgg4 rfl)) rfl ?_
              refine OQ.exT rfl rfl rfl (fun w H => (by first | exact Ex.notD rfl | exact Ex.not rfl)) rfl ?_
              refine OQ.ex rfl (fun w H => (Ex.pick_t rfl rfl)) rfl ?_
              refine OQ.ex rfl (fun w H => (Ex.move rfl)) rfl ?_
              first | refine OQ.split_p (t := 119) rfl (fun hgb => ?_) (fun hgb => ?_) | refine OQ.split (t := 119) rfl (fun hgb => ?_) (fun hgb => ?_)
              · refine OQ.exT rfl rfl rfl (fun w H => (Ex.move rfl)) rfl ?_
                refine OQ.exT rfl rfl rfl (fun w H => (Ex.move rfl)) rfl ?_
                refine OQ.exT rfl rfl rfl (fun w H => (Ex.idxArr Try.runUnderlying30 Try.sizeOf29 rfl rfl)) rfl ?_
                refine OQ.exT rfl rfl rfl (fun w H => (Ex.idxArr Try.runUnderlying29 Try.sizeOf3 rfl rfl)) rfl ?_
                refine OQ.exT rfl rfl rfl (fun w H => (by first | exact Ex.loadM Try.isAgg3 rfl | exact Ex.loadVc Try.isAgg3 rfl | exact Ex.loadP Try.isAgg3 rfl | exact Ex.loadInF Try.isAgg3 rfl (Holds.to (by assumption)) | exact Ex.loadIn1 Try.isAgg3 rfl (Holds.to (by assumption)) | exact Ex.loadMh Try.isAgg3 rfl | exact Ex.loadR Try.isAgg3 rfl | exact Ex.loadQ Try.isAgg3 rfl)) rfl ?_
                refine OQ.exT rfl rfl rfl (fun w H => (Ex.move rfl)) rfl ?_
                refine OQ.exT rfl rfl rfl (fun w H => (Ex.move rfl)) rfl ?_
                refine OQ.exT rfl rfl rfl (fun w H => (Ex.idxArr Try.runUnderlying30 Try.sizeOf29 rfl rfl)) rfl ?_
                refine OQ.exT rfl rfl rfl (fun w H => (Ex.idxArr Try.runUnderlying29 Try.sizeOf3 rfl rfl)) rfl ?_
                refine OQ.exT rfl rfl rfl (fun w H => (by first | exact Ex.loadM Try.isAgg3 rfl | exact Ex.loadVc Try.isAgg3 rfl | exact Ex.loadP Try.isAgg3 rfl | exact Ex.loadInF Try.isAgg3 rfl (Holds.to (by assumption)) | exact Ex.loadIn1 Try.isAgg3 rfl (Holds.to (by assumption)) | exact Ex.loadMh Try.isAgg3 rfl | exact Ex.loadR Try.isAgg3 rfl | exact Ex.loadQ Try.isAgg3 rfl)) rfl ?_
                refine OQ.exT rfl rfl rfl (fun w H => (Ex.neqI rfl rfl)) rfl ?_
                refine OQ.ex rfl (fun w H => (Ex.pick_t rfl rfl)) rfl ?_
                refine OQ.done ?_
                refine hK73 _ _ _ ?_
                first | refine W.cond_p rfl (fun hbad => ?_) (fun hok => ?_) | refine W.cond_b rfl (fun hbad => ?_) (fun hok => ?_)
                · exact absurd (hfar a b (by simpa using hga) (by simpa using hgb)) hbad
                · refine W.skip ?_
                  refine hK72 _ _ _ ?_
                  refine W.region ?_
                  refine O.ex (Ex.move rfl) rfl ?_
                  refine O.ex (by first | exact Ex.addI rfl rfl | exact Ex.add rfl rfl rfl) rfl ?_
                  refine O.ex (Ex.assign rfl) rfl ?_
                  refine O.nil ?_
                  exact ⟨b + 1, ⟨rfl, rfl, rfl, rfl, rfl, rfl, rfl, rfl, trivial⟩, ⟨rfl, by omega, Holds.to (by assumption)⟩, by omega⟩
              · refine OQ.exF rfl rfl rfl rfl rfl ?_
                refine OQ.exF rfl rfl rfl rfl rfl ?_
                refine OQ.exF rfl rfl rfl rfl rfl ?_
                refine OQ.exF rfl rfl rfl rfl rfl ?_
                refine OQ.exF rfl rfl rfl rfl rfl ?_
                refine OQ.exF rfl rfl rfl rfl rfl ?_
                refine OQ.exF rfl rfl rfl rfl rfl ?_
                refine OQ.exF rfl rfl rfl rfl rfl ?_
                refine OQ.exF rfl rfl rfl rfl rfl ?_
                refine OQ.exF rfl rfl rfl rfl rfl ?_
                refine OQ.exF rfl rfl rfl rfl rfl ?_
                refine OQ.ex rfl (fun w H => (Ex.pick_f rfl rfl)) rfl ?_
                refine OQ.done ?_
                refine hK73 _ _ _ ?_
                refine W.cond_f rfl ?_
                refine W.skip ?_
                refine hK72 _ _ _ ?_
                refine W.region ?_
                refine O.ex (Ex.move rfl) rfl ?_
                refine O.ex (by first | exact Ex.addI rfl rfl | exact Ex.add rfl rfl rfl) rfl ?_
                refine O.ex (Ex.assign rfl) rfl ?_
                refine O.nil ?_
                exact ⟨b + 1, ⟨rfl, rfl, rfl, rfl, rfl, rfl, rfl, rfl, trivial⟩, ⟨rfl, by omega, Holds.to (by assumption)⟩, by omega⟩
            · refine OQ.exF rfl rfl rfl rfl rfl ?_
              refine OQ.exF rfl rfl rfl rfl rfl ?_
              refine OQ.exF rfl rfl rfl rfl rfl ?_
              refine OQ.exF rfl rfl rfl rfl rfl ?_
              refine OQ.ex rfl (fun w H => (Ex.pick_f rfl rfl)) rfl ?_
              refine OQ.ex rfl (fun w H => (Ex.move rfl)) rfl ?_
              refine OQ.exF rfl rfl rfl rfl rfl ?_
              refine OQ.exF rfl rfl rfl rfl rfl ?_
              refine OQ.exF rfl rfl rfl rfl rfl ?_
              refine OQ.exF rfl rfl rfl rfl rfl ?_
              refine OQ.exF rfl rfl rfl rfl rfl ?_
              refine OQ.exF rfl rfl rfl rfl rfl ?_
              refine OQ.exF rfl rfl rfl rfl rfl ?_
              refine OQ.exF rfl rfl rfl rfl rfl ?_
              refine OQ.exF rfl rfl rfl rfl rfl ?_
              refine OQ.exF rfl rfl rfl rfl rfl ?_
              refine OQ.exF rfl rfl rfl rfl rfl ?_
              refine OQ.ex rfl (fun w H => (Ex.pick_f rfl rfl)) rfl ?_
              refine OQ.done ?_
              refine hK73 _ _ _ ?_
              refine W.cond_f rfl ?_
              refine W.skip ?_
              refine hK72 _ _ _ ?_
              refine W.region ?_
              refine O.ex (Ex.move rfl) rfl ?_
              refine O.ex (by first | exact Ex.addI rfl rfl | exact Ex.add rfl rfl rfl) rfl ?_
              refine O.ex (Ex.assign rfl) rfl ?_
              refine O.nil ?_
              exact ⟨b + 1, ⟨rfl, rfl, rfl, rfl, rfl, rfl, rfl, rfl, trivial⟩, ⟨rfl, by omega, Holds.to (by assumption)⟩, by omega⟩
          · refine W.exit ?_
            refine hK68 _ _ _ ?_
            refine W.region ?_
            refine O.ex (Ex.move rfl) rfl ?_
            refine O.ex (by first | exact Ex.addI rfl rfl | exact Ex.add rfl rfl rfl) rfl ?_
            refine O.ex (Ex.assign rfl) rfl ?_
            refine O.nil ?_
            exact ⟨a + 1, ⟨rfl, rfl, rfl, rfl, rfl, rfl, rfl, trivial⟩, ⟨rfl, by omega, Holds.to (by assumption)⟩, by omega⟩
        · refine W.exit ?_
          refine hK64 _ _ _ ?_
          refine W.seq (fun K74 hK74 => ?_)
          refine W.region ?_
          refine O.ex (Ex.move rfl) rfl ?_
          refine O.ex (Ex.nilNe Try.runUnderlying25 rfl rfl) rfl ?_
          refine O.ex (Ex.move rfl) rfl ?_
          refine O.known (t := 134) (c := true) rfl (by first | rfl | decide | exact decide_eq_false (fun hh => hh hv) | exact decide_eq_true hv | exact decide_eq_false (fun hh => hh rfl) | (simp; done)) ?_
          refine O.guard_t rfl rfl ?_
          refine O.ex (Ex.move rfl) rfl ?_
          have H := (rh_open (m := b10) (n := n) (c := c)).2 (Holds.to (by assumption))
          refine O.guard_t rfl rfl ?_
          refine O.callF Try.call24 rfl rfl (CT.mono (same_ct hg (Holds.to (by assumption))) ?_)
          rintro _ w ⟨rfl, H⟩
          refine O.ex (Ex.pick_t rfl rfl) rfl ?_
          refine O.ex (Ex.assign rfl) rfl ?_
          refine O.nil ?_
          refine hK74 _ _ _ ?_
          refine W.ret ?_
          try dsimp only [thenQ, blockQ, retQ]
          first | refine ⟨_, ⟨_, _, rfl, rfl, rfl⟩, ?_⟩ | (refine retD_mark ?_; intro w H; refine ⟨_, ⟨_, _, rfl, rfl, rfl⟩, ?_⟩) | (refine retD_mark2 ?_; intro w H; refine ⟨_, ⟨_, _, rfl, rfl, rfl⟩, ?_⟩)
          exact ⟨rfl, Holds.base_below (L := []) (Holds.to (by assumption))⟩
    · refine O.guard_f rfl rfl rfl rfl ?_
      refine O.guard_f rfl rfl rfl rfl ?_
      refine O.ex (Ex.pick_f rfl rfl) rfl ?_
      refine O.nil ?_
      refine hK52 _ _ _ ?_
      refine W.cond_f rfl ?_
      refine W.exit ?_
      refine hK49 _ _ _ ?_
      refine W.seq (fun K75 hK75 => ?_)
      refine W.region ?_
      refine O.ex (Ex.move rfl) rfl ?_
      refine O.callF Try.call17 rfl rfl (CT.mono (refAll_ct (by assumption) (Holds.to (by assumption))) ?_)
      rintro _ w ⟨rfl, H⟩
      refine O.allocM [] zS (fun b16 w H => ?_)
      refine O.storeMall (hd := []) Try.sizeOf30 rfl rfl rfl rfl rfl (fun w H => ?_)
      refine O.nil ?_
      refine hK75 _ _ _ ?_
      refine W.seq (fun K76 hK76 => ?_)
      refine W.seq (fun K77 hK77 => ?_)
      refine W.region ?_
      refine O.ex (Ex.assign rfl) rfl ?_
      refine O.nil ?_
      refine hK77 _ _ _ ?_
      refine W.block ?_
      have H : Holds w [mtx b16 30 [] (far n cc), mtx r 32 [.int .i64 n] cc, vec b12 53 [] 24 Value.bool g, mtx b11 30 [] (far n c), Mh fc n c, mtx b10 32 [.int .i64 n] c, base w0] := Holds.to (by assumption)
      refine W.loop (σ := Nat) (fun i => [(8, .pointer (some ⟨r, 0, none⟩)), (9, .pointer (some ⟨fc, 0, none⟩)), (10, .pointer (some ⟨b10, 0, none⟩)), (11, .pointer (some ⟨b11, 0, none⟩)), (12, .pointer (some ⟨b12, 0, none⟩)), (16, .pointer (some ⟨b16, 0, none⟩)), (17, .int .i64 (i : Int))]) (fun i ds w => ds = [] ∧ (i : Int) ≤ n ∧ Holds w [mtx b16 30 [] (far n cc), mtx r 32 [.int .i64 n] cc, vec b12 53 [] 24 Value.bool g, mtx b11 30 [] (far n c), Mh fc n c, mtx b10 32 [.int .i64 n] c, base w0]) (fun i => n.toNat - i) 0 ⟨rfl, rfl, rfl, rfl, rfl, rfl, rfl, trivial⟩ ⟨rfl, by omega, Holds.to (by assumption)⟩ ?_
      clear H
      rintro a _ w ⟨rfl, ha, H⟩
      refine W.seq (fun K78 hK78 => ?_)
      refine W.seq (fun K79 hK79 => ?_)
      refine W.region ?_
      refine O.ex (Ex.move rfl) rfl ?_
      refine O.ex (Ex.move rfl) rfl ?_
      refine O.ex (by first | exact Ex.nilPtr rfl | exact Ex.nilFunc rfl | exact Ex.nilYield rfl) rfl ?_
      refine O.ex (by first | exact Ex.field0 fld32_0 rfl | exact Ex.field fld32_0 rfl | exact Ex.fieldS fld32_0 rfl | exact Ex.fieldIn fld32_0 rfl) rfl ?_
      refine O.ex (by first | exact Ex.loadMh Try.isAgg3 rfl | exact Ex.loadInF Try.isAgg3 rfl (Holds.to (by assumption)) | exact Ex.loadP Try.isAgg3 rfl | exact Ex.loadM Try.isAgg3 rfl | exact Ex.loadIn1 Try.isAgg3 rfl (Holds.to (by assumption)) | exact Ex.loadVc Try.isAgg3 rfl | exact Ex.loadR Try.isAgg3 rfl | exact Ex.loadQ Try.isAgg3 rfl) rfl ?_
      refine O.ex (Ex.lss rfl rfl) rfl ?_
      refine O.nil ?_
      refine hK79 _ _ _ ?_
      first | refine W.cond_p rfl (fun hlta => ?_) (fun hgea => ?_) | refine W.cond_b rfl (fun hlta => ?_) (fun hgea => ?_)
      · refine W.skip ?_
        refine hK78 _ _ _ ?_
        refine W.seq (fun K80 hK80 => ?_)
        refine W.block ?_
        refine W.seq (fun K81 hK81 => ?_)
        refine W.region ?_
        refine O.ex (Ex.assign rfl) rfl ?_
        refine O.nil ?_
        refine hK81 _ _ _ ?_
        refine W.block ?_
        refine W.loop (σ := Nat) (fun b => [(8, .pointer (some ⟨r, 0, none⟩)), (9, .pointer (some ⟨fc, 0, none⟩)), (10, .pointer (some ⟨b10, 0, none⟩)), (11, .pointer (some ⟨b11, 0, none⟩)), (12, .pointer (some ⟨b12, 0, none⟩)), (16, .pointer (some ⟨b16, 0, none⟩)), (17, .int .i64 (a : Int)), (18, .int .i64 (b : Int))]) (fun b ds w => ds = [] ∧ (b : Int) ≤ n ∧ Holds w [mtx b16 30 [] (far n cc), mtx r 32 [.int .i64 n] cc, vec b12 53 [] 24 Value.bool g, mtx b11 30 [] (far n c), Mh fc n c, mtx b10 32 [.int .i64 n] c, base w0]) (fun b => n.toNat - b) 0 ⟨rfl, rfl, rfl, rfl, rfl, rfl, rfl, rfl, trivial⟩ ⟨rfl, by omega, Holds.to (by assumption)⟩ ?_
        clear H
        rintro b _ w ⟨rfl, hb, H⟩
        refine W.seq (fun K82 hK82 => ?_)
        refine W.seq (fun K83 hK83 => ?_)
        refine W.region ?_
        refine O.ex (Ex.move rfl) rfl ?_
        refine O.ex (Ex.move rfl) rfl ?_
        refine O.ex (by first | exact Ex.nilPtr rfl | exact Ex.nilFunc rfl | exact Ex.nilYield rfl) rfl ?_
        refine O.ex (by first | exact Ex.field0 fld32_0 rfl | exact Ex.field fld32_0 rfl | exact Ex.fieldS fld32_0 rfl | exact Ex.fieldIn fld32_0 rfl) rfl ?_
        refine O.ex (by first | exact Ex.loadMh Try.isAgg3 rfl | exact Ex.loadInF Try.isAgg3 rfl (Holds.to (by assumption)) | exact Ex.loadP Try.isAgg3 rfl | exact Ex.loadM Try.isAgg3 rfl | exact Ex.loadIn1 Try.isAgg3 rfl (Holds.to (by assumption)) | exact Ex.loadVc Try.isAgg3 rfl | exact Ex.loadR Try.isAgg3 rfl | exact Ex.loadQ Try.isAgg3 rfl) rfl ?_
        refine O.ex (Ex.lss rfl rfl) rfl ?_
        refine O.nil ?_
        refine hK83 _ _ _ ?_
        first | refine W.cond_p rfl (fun hltb => ?_) (fun hgeb => ?_) | refine W.cond_b rfl (fun hltb => ?_) (fun hgeb => ?_)
        · refine W.skip ?_
          refine hK82 _ _ _ ?_
          refine W.seq (fun K84 hK84 => ?_)
          refine W.block ?_
          refine W.seq (fun K85 hK85 => ?_)
          refine W.drawTo _ (.take 0 (.take 1 (.take 2 (.take 3 (.take 4 (.take 5 (.take 6 (.take 7 (.take 8 (.take 9 (.take 10 (.take 11 (.take 12 (.take 13 (.take 14 (.take 15 (.take 16 (.take 17 (.take 18 (.take 19 (.take 20 (.take 21 (.take 22 .nil))))))))))))))))))))))) (mixed) (fun _ _ _ _ h => h) (by assumption) (PP.refl _) (by decide +kernel) (fun w H => ?_)
          refine OQ.ex rfl (fun w H => (Ex.move rfl)) rfl ?_
          refine OQ.ex rfl (fun w H => (Ex.idxArr Try.runUnderlying53 Try.sizeOf4 rfl rfl)) rfl ?_
          refine OQ.ex rfl (fun w H => (by first | exact Ex.loadM Try.isAgg4 rfl | exact Ex.loadVc Try.isAgg4 rfl | exact Ex.loadP Try.isAgg4 rfl | exact Ex.loadInF Try.isAgg4 rfl (Holds.to (by assumption)) | exact Ex.loadIn1 Try.isAgg4 rfl (Holds.to (by assumption)) | exact Ex.loadMh Try.isAgg4 rfl | exact Ex.loadR Try.isAgg4 rfl | exact Ex.loadQ Try.isAgg4 rfl)) rfl ?_
          refine OQ.ex rfl (fun w H => (by first | exact Ex.notD rfl | exact Ex.not rfl)) rfl ?_
          refine OQ.ex rfl (fun w H => (Ex.move rfl)) rfl ?_
          first | refine OQ.split_p (t := 113) rfl (fun hga => ?_) (fun hga => ?_) | refine OQ.split (t := 113) rfl (fun hga => ?_) (fun hga => ?_)
          · refine OQ.exT rfl rfl rfl (fun w H => (Ex.move rfl)) rfl ?_
            refine OQ.exT rfl rfl rfl (fun w H => (Ex.idxArr Try.runUnderlying53 Try.sizeOf4 rfl rfl)) rfl ?_
            refine OQ.exT rfl rfl rfl (fun w H => (by first | exact Ex.loadM Try.isAgg4 rfl | exact Ex.loadVc Try.isAgg4 rfl | exact Ex.loadP Try.isAgg4 rfl | exact Ex.loadInF Try.isAgg4 rfl (Holds.to (by assumption)) | exact Ex.loadIn1 Try.isAgg4 rfl (Holds.to (by assumption)) | exact Ex.loadMh Try.isAgg4 rfl | exact Ex.loadR Try.isAgg4 rfl | exact Ex.loadQ Try.isAgg4 rfl)) rfl ?_
            refine OQ.exT rfl rfl rfl (fun w H => (by first | exact Ex.notD rfl | exact Ex.not rfl)) rfl ?_
            refine OQ.ex rfl (fun w H => (Ex.pick_t rfl rfl)) rfl ?_
            refine OQ.ex rfl (fun w H => (Ex.move rfl)) rfl ?_
            first | refine OQ.split_p (t := 119) rfl (fun hgb => ?_) (fun hgb => ?_) | refine OQ.split (t := 119) rfl (fun hgb => ?_) (fun hgb => ?_)
            · refine OQ.exT rfl rfl rfl (fun w H => (Ex.move rfl)) rfl ?_
              refine OQ.exT rfl rfl rfl (fun w H => (Ex.move rfl)) rfl ?_
              refine OQ.exT rfl rfl rfl (fun w H => (Ex.idxArr Try.runUnderlying30 Try.sizeOf29 rfl rfl)) rfl ?_
              refine OQ.exT rfl rfl rfl (fun w H => (Ex.idxArr Try.runUnderlying29 Try.sizeOf3 rfl rfl)) rfl ?_
              refine OQ.exT rfl rfl rfl (fun w H => (by first | exact Ex.loadM Try.isAgg3 rfl | exact Ex.loadVc Try.isAgg3 rfl | exact Ex.loadP Try.isAgg3 rfl | exact Ex.loadInF Try.isAgg3 rfl (Holds.to (by assumption)) | exact Ex.loadIn1 Try.isAgg3 rfl (Holds.to (by assumption)) | exact Ex.loadMh Try.isAgg3 rfl | exact Ex.loadR Try.isAgg3 rfl | exact Ex.loadQ Try.isAgg3 rfl)) rfl ?_
              refine OQ.exT rfl rfl rfl (fun w H => (Ex.move rfl)) rfl ?_
              refine OQ.exT rfl rfl rfl (fun w H => (Ex.move rfl)) rfl ?_
              refine OQ.exT rfl rfl rfl (fun w H => (Ex.idxArr Try.runUnderlying30 Try.sizeOf29 rfl rfl)) rfl ?_
              refine OQ.exT rfl rfl rfl (fun w H => (Ex.idxArr Try.runUnderlying29 Try.sizeOf3 rfl rfl)) rfl ?_
              refine OQ.exT rfl rfl rfl (fun w H => (by first | exact Ex.loadM Try.isAgg3 rfl | exact Ex.loadVc Try.isAgg3 rfl | exact Ex.loadP Try.isAgg3 rfl | exact Ex.loadInF Try.isAgg3 rfl (Holds.to (by assumption)) | exact Ex.loadIn1 Try.isAgg3 rfl (Holds.to (by assumption)) | exact Ex.loadMh Try.isAgg3 rfl | exact Ex.loadR Try.isAgg3 rfl | exact Ex.loadQ Try.isAgg3 rfl)) rfl ?_
              refine OQ.exT rfl rfl rfl (fun w H => (Ex.neqI rfl rfl)) rfl ?_
              refine OQ.ex rfl (fun w H => (Ex.pick_t rfl rfl)) rfl ?_
              refine OQ.done ?_
              refine hK85 _ _ _ ?_
              first | refine W.cond_p rfl (fun hbad => ?_) (fun hok => ?_) | refine W.cond_b rfl (fun hbad => ?_) (fun hok => ?_)
              · exact absurd (hfar a b (by simpa using hga) (by simpa using hgb)) hbad
              · refine W.skip ?_
                refine hK84 _ _ _ ?_
                refine W.region ?_
                refine O.ex (Ex.move rfl) rfl ?_
                refine O.ex (by first | exact Ex.addI rfl rfl | exact Ex.add rfl rfl rfl) rfl ?_
                refine O.ex (Ex.assign rfl) rfl ?_
                refine O.nil ?_
                exact ⟨b + 1, ⟨rfl, rfl, rfl, rfl, rfl, rfl, rfl, rfl, trivial⟩, ⟨rfl, by omega, Holds.to (by assumption)⟩, by omega⟩
            · refine OQ.exF rfl rfl rfl rfl rfl ?_
              refine OQ.exF rfl rfl rfl rfl rfl ?_
              refine OQ.exF rfl rfl rfl rfl rfl ?_
              refine OQ.exF rfl rfl rfl rfl rfl ?_
              refine OQ.exF rfl rfl rfl rfl rfl ?_
              refine OQ.exF rfl rfl rfl rfl rfl ?_
              refine OQ.exF rfl rfl rfl rfl rfl ?_
              refine OQ.exF rfl rfl rfl rfl rfl ?_
              refine OQ.exF rfl rfl rfl rfl rfl ?_
              refine OQ.exF rfl rfl rfl rfl rfl ?_
              refine OQ.exF rfl rfl rfl rfl rfl ?_
              refine OQ.ex rfl (fun w H => (Ex.pick_f rfl rfl)) rfl ?_
              refine OQ.done ?_
              refine hK85 _ _ _ ?_
              refine W.cond_f rfl ?_
              refine W.skip ?_
              refine hK84 _ _ _ ?_
              refine W.region ?_
              refine O.ex (Ex.move rfl) rfl ?_
              refine O.ex (by first | exact Ex.addI rfl rfl | exact Ex.add rfl rfl rfl) rfl ?_
              refine O.ex (Ex.assign rfl) rfl ?_
              refine O.nil ?_
              exact ⟨b + 1, ⟨rfl, rfl, rfl, rfl, rfl, rfl, rfl, rfl, trivial⟩, ⟨rfl, by omega, Holds.to (by assumption)⟩, by omega⟩
          · refine OQ.exF rfl rfl rfl rfl rfl ?_
            refine OQ.exF rfl rfl rfl rfl rfl ?_
            refine OQ.exF rfl rfl rfl rfl rfl ?_
            refine OQ.exF rfl rfl rfl rfl rfl ?_
            refine OQ.ex rfl (fun w H => (Ex.pick_f rfl rfl)) rfl ?_
            refine OQ.ex rfl (fun w H => (Ex.move rfl)) rfl ?_
            refine OQ.exF rfl rfl rfl rfl rfl ?_
            refine OQ.exF rfl rfl rfl rfl rfl ?_
            refine OQ.exF rfl rfl rfl rfl rfl ?_
            refine OQ.exF rfl rfl rfl rfl rfl ?_
            refine OQ.exF rfl rfl rfl rfl rfl ?_
            refine OQ.exF rfl rfl rfl rfl rfl ?_
            refine OQ.exF rfl rfl rfl rfl rfl ?_
            refine OQ.exF rfl rfl rfl rfl rfl ?_
            refine OQ.exF rfl rfl rfl rfl rfl ?_
            refine OQ.exF rfl rfl rfl rfl rfl ?_
            refine OQ.exF rfl rfl rfl rfl rfl ?_
            refine OQ.ex rfl (fun w H => (Ex.pick_f rfl rfl)) rfl ?_
            refine OQ.done ?_
            refine hK85 _ _ _ ?_
            refine W.cond_f rfl ?_
            refine W.skip ?_
            refine hK84 _ _ _ ?_
            refine W.region ?_
            refine O.ex (Ex.move rfl) rfl ?_
            refine O.ex (by first | exact Ex.addI rfl rfl | exact Ex.add rfl rfl rfl) rfl ?_
            refine O.ex (Ex.assign rfl) rfl ?_
            refine O.nil ?_
            exact ⟨b + 1, ⟨rfl, rfl, rfl, rfl, rfl, rfl, rfl, rfl, trivial⟩, ⟨rfl, by omega, Holds.to (by assumption)⟩, by omega⟩
        · refine W.exit ?_
          refine hK80 _ _ _ ?_
          refine W.region ?_
          refine O.ex (Ex.move rfl) rfl ?_
          refine O.ex (by first | exact Ex.addI rfl rfl | exact Ex.add rfl rfl rfl) rfl ?_
          refine O.ex (Ex.assign rfl) rfl ?_
          refine O.nil ?_
          exact ⟨a + 1, ⟨rfl, rfl, rfl, rfl, rfl, rfl, rfl, trivial⟩, ⟨rfl, by omega, Holds.to (by assumption)⟩, by omega⟩
      · refine W.exit ?_
        refine hK76 _ _ _ ?_
        refine W.seq (fun K86 hK86 => ?_)
        refine W.region ?_
        refine O.ex (Ex.move rfl) rfl ?_
        refine O.ex (Ex.nilNe Try.runUnderlying25 rfl rfl) rfl ?_
        refine O.ex (Ex.move rfl) rfl ?_
        refine O.known (t := 134) (c := true) rfl (by first | rfl | decide | exact decide_eq_false (fun hh => hh hv) | exact decide_eq_true hv | exact decide_eq_false (fun hh => hh rfl) | (simp; done)) ?_
        refine O.guard_t rfl rfl ?_
        refine O.ex (Ex.move rfl) rfl ?_
        have H := (rh_open (m := b10) (n := n) (c := c)).2 (Holds.to (by assumption))
        refine O.guard_t rfl rfl ?_
        refine O.callF Try.call24 rfl rfl (CT.mono (same_ct hg (Holds.to (by assumption))) ?_)
        rintro _ w ⟨rfl, H⟩
        refine O.ex (Ex.pick_t rfl rfl) rfl ?_
        refine O.ex (Ex.assign rfl) rfl ?_
        refine O.nil ?_
        refine hK86 _ _ _ ?_
        refine W.ret ?_
        try dsimp only [thenQ, blockQ, retQ]
        first | refine ⟨_, ⟨_, _, rfl, rfl, rfl⟩, ?_⟩ | (refine retD_mark ?_; intro w H; refine ⟨_, ⟨_, _, rfl, rfl, rfl⟩, ?_⟩) | (refine retD_mark2 ?_; intro w H; refine ⟨_, ⟨_, _, rfl, rfl, rfl⟩, ?_⟩)
        exact ⟨rfl, Holds.base_below (L := []) (Holds.to (by assumption))⟩
theorem meshContracts_row {w0 : World} {q : Int} {lv ov : Value} {l : List Step} {os : List Int} (hq : (Lit.int .u8 q).wf = true) (hx : SlIn w0 3 Step.enc lv l) (hg : ∀ x ∈ l, x.ok) (hl : l.length ≤ maxLen) (ho : SlIn w0 1 (fun s : Int => [.int .i64 s]) ov os) (hob : ∀ x ∈ os, (Lit.int .i64 x).wf = true) (hol : os.length ≤ maxLen) :
    CT Try.prog 5 [.int .u8 q, lv, ov] w0 fun x w' => x = .bool true ∧ RowKit.Below w0.heap.size w0 w' :=
  meshContracts_ct hq hx (by unfold maxLen at hl; omega) ho (by unfold maxLen at hol; omega)
end Go.Proofs.Ytblapiiinbppiaa
