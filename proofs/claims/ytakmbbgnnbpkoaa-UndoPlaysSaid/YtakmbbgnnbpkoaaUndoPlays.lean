import Derived.Test.YtakmbbgnnbpkoaaLaw24
--ARR
--INF
--DEEP
namespace Go.Proofs.Ytakmbbgnnbpkoaa
open Go.Rr Go Gr
set_option linter.unusedVariables false
set_option linter.unusedSimpArgs false
set_option maxHeartbeats 4000000 in
theorem undoPlays_ct {w0 : World} {n most room : Int} {lv : Value} {l : List OpM} (hx : SlIn w0 5 OpM.enc lv l) (hgk : ∀ x ∈ l, x.ok) (hl : l.length ≤ 9223372036854775807) :
    CT Try.prog 13 [.int .i64 n, .int .i64 most, .int .i64 room, lv] w0 fun x w' => x = .bool true ∧ RowKit.Below w0.heap.size w0 w' := by
  have H := Holds.base_refl w0
  refine CT.enter (N := 120) Try.func13 rfl rfl rfl rfl ?_
  refine W.seq (fun K0 hK0 => ?_)
  refine W.region ?_
  refine O.ex (Ex.assign rfl) rfl ?_
  refine O.nil ?_
  refine hK0 _ _ _ ?_
  refine W.seq (fun K1 hK1 => ?_)
  refine W.seq (fun K2 hK2 => ?_)
  refine W.region ?_
  refine O.callF Try.call51 rfl rfl (CT.mono (awake24_ct (Holds.to (by assumption))) ?_)
  rintro _ w ⟨rfl, H⟩
  refine O.ex (by first | exact Ex.notD rfl | exact Ex.not rfl) rfl ?_
  refine O.nil ?_
  refine hK2 _ _ _ ?_
  refine W.known_f rfl (by first | rfl | decide | exact decide_eq_false (fun hh => hh rfl) | exact decide_eq_true hno | exact decide_eq_false (fun hh => hh hyes)) ?_
  refine W.skip ?_
  refine hK1 _ _ _ ?_
  refine W.seq (fun K3 hK3 => ?_)
  refine W.region ?_
  refine O.ex (Ex.move rfl) rfl ?_
  refine O.ex (Ex.move rfl) rfl ?_
  refine O.ex (Ex.move rfl) rfl ?_
  refine O.callF Try.call52 rfl rfl (CT.mono (unew_ct (n := n) (most := most) (room := room) (Holds.to (by assumption))) ?_)
  rintro _ w hh
  rcases hh with ⟨hno, rfl, H⟩ | ⟨hyes, b, rfl, H⟩
  · refine O.ex (Ex.move rfl) rfl ?_
    refine O.ex (Ex.extract rfl rfl) rfl ?_
    refine O.ex (Ex.extract rfl rfl) rfl ?_
    refine O.ex (Ex.assign rfl) rfl ?_
    refine O.ex (Ex.assign rfl) rfl ?_
    refine O.nil ?_
    refine hK3 _ _ _ ?_
    refine W.seq (fun K4 hK4 => ?_)
    refine W.seq (fun K5 hK5 => ?_)
    refine W.region ?_
    refine O.ex (Ex.move rfl) rfl ?_
    refine O.ex (Ex.move rfl) rfl ?_
    refine O.ex (Ex.move rfl) rfl ?_
    refine O.callF Try.call53 rfl rfl (CT.mono (may24_ct (Holds.to (by assumption))) ?_)
    rintro _ w ⟨rfl, H⟩
    refine O.ex (by first | exact Ex.notD rfl | exact Ex.not rfl) rfl ?_
    refine O.nil ?_
    refine hK5 _ _ _ ?_
    refine W.known_t rfl (by first | rfl | decide | exact decide_eq_false (fun hh => hh rfl) | exact decide_eq_true hno | exact decide_eq_false (fun hh => hh hyes)) ?_
    refine W.seq (fun K6 hK6 => ?_)
    refine W.region ?_
    refine O.ex (Ex.move rfl) rfl ?_
    refine O.ex (Ex.nilEq Try.runUnderlying83 rfl rfl) rfl ?_
    refine O.ex (Ex.move rfl) rfl ?_
    refine O.known (t := 37) (c := true) rfl (by first | rfl | decide | exact decide_eq_false (fun hh => hh rfl) | exact decide_eq_true hno | exact decide_eq_false (fun hh => hh hyes)) ?_
    refine O.guard_t rfl rfl ?_
    refine O.ex (Ex.move rfl) rfl ?_
    refine O.guard_t rfl rfl ?_
    refine O.ex (Ex.eqlI rfl rfl) rfl ?_
    refine O.ex (Ex.pick_t rfl rfl) rfl ?_
    refine O.ex (Ex.assign rfl) rfl ?_
    refine O.nil ?_
    refine hK6 _ _ _ ?_
    refine W.ret ?_
    try dsimp only [thenQ, blockQ, retQ]
    first | refine ⟨_, ⟨_, _, rfl, rfl, rfl⟩, ?_⟩ | (refine retD_mark ?_; intro w H; refine ⟨_, ⟨_, _, rfl, rfl, rfl⟩, ?_⟩) | (refine retD_mark2 ?_; intro w H; refine ⟨_, ⟨_, _, rfl, rfl, rfl⟩, ?_⟩)
    exact ⟨rfl, Holds.base_below (L := []) (Holds.to (by assumption))⟩
  · refine O.ex (Ex.move rfl) rfl ?_
    refine O.ex (Ex.extract rfl rfl) rfl ?_
    refine O.ex (Ex.extract rfl rfl) rfl ?_
    refine O.ex (Ex.assign rfl) rfl ?_
    refine O.ex (Ex.assign rfl) rfl ?_
    refine O.nil ?_
    refine hK3 _ _ _ ?_
    refine W.seq (fun K7 hK7 => ?_)
    refine W.seq (fun K8 hK8 => ?_)
    refine W.region ?_
    refine O.ex (Ex.move rfl) rfl ?_
    refine O.ex (Ex.move rfl) rfl ?_
    refine O.ex (Ex.move rfl) rfl ?_
    refine O.callF Try.call53 rfl rfl (CT.mono (may24_ct (Holds.to (by assumption))) ?_)
    rintro _ w ⟨rfl, H⟩
    refine O.ex (by first | exact Ex.notD rfl | exact Ex.not rfl) rfl ?_
    refine O.nil ?_
    refine hK8 _ _ _ ?_
    refine W.known_f rfl (by first | rfl | decide | exact decide_eq_false (fun hh => hh rfl) | exact decide_eq_true hno | exact decide_eq_false (fun hh => hh hyes)) ?_
    refine W.skip ?_
    refine hK7 _ _ _ ?_
    refine W.seq (fun K9 hK9 => ?_)
    refine W.seq (fun K10 hK10 => ?_)
    refine W.region ?_
    refine O.ex (Ex.move rfl) rfl ?_
    refine O.ex (Ex.nilEq Try.runUnderlying83 rfl rfl) rfl ?_
    refine O.ex (Ex.move rfl) rfl ?_
    refine O.known (t := 43) (c := false) rfl (by first | rfl | decide | exact decide_eq_false (fun hh => hh rfl) | exact decide_eq_true hno | exact decide_eq_false (fun hh => hh hyes)) ?_
    refine O.guard_t rfl rfl ?_
    refine O.ex (Ex.move rfl) rfl ?_
    refine O.guard_t rfl rfl ?_
    refine O.ex (Ex.neqI rfl rfl) rfl ?_
    refine O.ex (Ex.pick_f rfl rfl) rfl ?_
    refine O.nil ?_
    refine hK10 _ _ _ ?_
    refine W.known_f rfl (by first | rfl | decide | exact decide_eq_false (fun hh => hh rfl) | exact decide_eq_true hno | exact decide_eq_false (fun hh => hh hyes)) ?_
    refine W.skip ?_
    refine hK9 _ _ _ ?_
    refine W.seq (fun K11 hK11 => ?_)
    refine W.region ?_
    refine O.ex (Ex.move rfl) rfl ?_
    refine O.ex (Ex.move rfl) rfl ?_
    refine O.ex (Ex.move rfl) rfl ?_
    refine O.callF Try.call54 rfl rfl (CT.mono (new24_ct (room := room) (by have := hyes.2.1; omega) (Holds.to (by assumption))) ?_)
    rintro _ w ⟨r, rfl, H⟩
    refine O.ex (Ex.assign rfl) rfl ?_
    refine O.nil ?_
    refine hK11 _ _ _ ?_
    refine W.seq (fun K12 hK12 => ?_)
    refine W.seq (fun K13 hK13 => ?_)
    refine W.region ?_
    refine O.ex (Ex.assign rfl) rfl ?_
    refine O.nil ?_
    refine hK13 _ _ _ ?_
    refine W.block ?_
    have ok0 : HOk n most room.toNat noS [] := hok_none hyes.1.1.1 hyes.1.1.2 hyes.1.2.1 hyes.1.2.2 (by omega)
    have hk32 : room.toNat ≤ 32 := by omega
    obtain ⟨k, hk⟩ : ∃ k, k = room.toNat := ⟨_, rfl⟩
    rw [← hk] at ok0 hk32 H
    refine W.loop (σ := Nat) (fun i => [(3, lv), (9, .pointer (some ⟨b, 0, none⟩)), (11, .pointer (some ⟨r, 0, none⟩)), (12, .int .i64 (i : Int))]) (fun i ds w => ds = [] ∧ i ≤ l.length ∧ i ≤ 150 ∧ ∃ s h, HOk n most k s h ∧ Holds w (Uk b k n most s (trP h) :: RB r k n most s (trD h) :: base w0 :: [])) (fun i => 150 - i) 0 ⟨rfl, rfl, rfl, rfl, trivial⟩ ⟨rfl, by omega, by omega, noS, [], ok0, Holds.to (by assumption)⟩ ?_
    clear H
    rintro i _ w ⟨rfl, hi, hi4, s, h, hok, H⟩
    refine W.seq (fun K14 hK14 => ?_)
    refine W.seq (fun K15 hK15 => ?_)
    refine W.region ?_
    refine O.ex (Ex.move rfl) rfl ?_
    refine O.ex (Ex.move rfl) rfl ?_
    refine O.ex (by first | exact Ex.lenN Try.runUnderlying82 rfl | exact Ex.lenIn Try.runUnderlying82 rfl | exact Ex.lenL Try.runUnderlying82 rfl | exact Ex.len rfl Try.runUnderlying82 rfl) rfl ?_
    refine O.ex (Ex.lss rfl rfl) rfl ?_
    refine O.ex (Ex.move rfl) rfl ?_
    first | refine O.split_p (t := 55) rfl (fun h1 => ?_) (fun h1 => ?_) | refine O.split (t := 55) rfl (fun h1 => ?_) (fun h1 => ?_)
    · refine O.guard_t rfl rfl ?_
      refine O.ex (Ex.move rfl) rfl ?_
      refine O.guard_t rfl rfl ?_
      refine O.ex (Ex.lss rfl rfl) rfl ?_
      refine O.ex (Ex.pick_t rfl rfl) rfl ?_
      refine O.nil ?_
      refine hK15 _ _ _ ?_
      first | refine W.cond_p rfl (fun hlt => ?_) (fun hge => ?_) | refine W.cond_b rfl (fun hlt => ?_) (fun hge => ?_)
      · refine W.skip ?_
        refine hK14 _ _ _ ?_
        refine W.seq (fun K16 hK16 => ?_)
        refine W.block ?_
        refine W.seq (fun K17 hK17 => ?_)
        refine W.seq (fun K18 hK18 => ?_)
        refine W.region ?_
        have hi0 : (0 : Int) ≤ (i : Int) := by omega
        have hi1 : (i : Int) < l.length := h1
        have hil : i < l.length := by omega
        have hil2 : ((i : Nat) : Int).toNat < l.length := by omega
        have hw0 := op_w hgk hil
        refine O.ex (Ex.move rfl) rfl ?_
        refine O.ex (Ex.move rfl) rfl ?_
        refine O.ex (by first | exact Ex.idxIn Try.runUnderlying82 Try.sizeOf91 rfl rfl | exact Ex.idxN Try.runUnderlying82 Try.sizeOf91 rfl rfl | exact Ex.idxSN Try.runUnderlying82 Try.sizeOf91 rfl rfl | exact Ex.idx Try.runUnderlying82 Try.sizeOf91 rfl rfl (by omega) (by omega)) rfl ?_
        refine O.ex (by first | exact Ex.field0 fld91_0 rfl | exact Ex.field fld91_0 rfl | exact Ex.fieldS fld91_0 rfl | exact Ex.fieldIn fld91_0 rfl) rfl ?_
        refine O.ex (by first | exact Ex.loadMh Try.isAgg3 rfl | exact Ex.loadInF Try.isAgg3 rfl (Holds.to (by assumption)) | exact Ex.loadP Try.isAgg3 rfl | exact Ex.loadM Try.isAgg3 rfl | exact Ex.loadIn1 Try.isAgg3 rfl (Holds.to (by assumption)) | exact Ex.loadVc Try.isAgg3 rfl | exact Ex.loadR Try.isAgg3 rfl | exact Ex.loadQ Try.isAgg3 rfl) rfl ?_
        refine O.ex (Ex.eqlI rfl rfl) rfl ?_
        refine O.nil ?_
        refine hK18 _ _ _ ?_
        first | refine W.cond_p rfl (fun hun => ?_) (fun hdo => ?_) | refine W.cond_b rfl (fun hun => ?_) (fun hdo => ?_)
        · refine W.seq (fun K19 hK19 => ?_)
          refine W.region ?_
          rcases hist_cases h with rfl | ⟨h', x, rfl⟩
          · refine O.ex (Ex.move rfl) rfl ?_
            refine O.callF Try.call55 rfl rfl (CT.mono (uundoN_ct (Holds.to (M := Uk b k n most s (trP []) :: _) (by assumption))) ?_)
            rintro _ w ⟨rfl, H⟩
            refine O.ex (Ex.move rfl) rfl ?_
            refine O.ex (Ex.extract rfl rfl) rfl ?_
            refine O.ex (Ex.extract rfl rfl) rfl ?_
            refine O.allocP Try.zeroValue93 (fun b13 w H => ?_)
            first | refine O.storeAggP Try.sizeOf93 rfl rfl rfl rfl (fun w H => ?_) | refine O.storeAggN Try.sizeOf93 rfl rfl rfl (fun w H => ?_) rfl
            refine O.ex (Ex.assign rfl) rfl ?_
            refine O.nil ?_
            refine hK19 _ _ _ ?_
            refine W.seq (fun K20 hK20 => ?_)
            refine W.region ?_
            refine O.ex (Ex.move rfl) rfl ?_
            refine O.callF Try.call56 rfl rfl (CT.mono (rundoN_ct (Holds.to (M := RB r k n most s (trD []) :: _) (by assumption))) ?_)
            rintro _ w ⟨rfl, H⟩
            refine O.ex (Ex.move rfl) rfl ?_
            refine O.ex (Ex.extract rfl rfl) rfl ?_
            refine O.ex (Ex.extract rfl rfl) rfl ?_
            refine O.allocP Try.zeroValue96 (fun b15 w H => ?_)
            first | refine O.storeAggP Try.sizeOf96 rfl rfl rfl rfl (fun w H => ?_) | refine O.storeAggN Try.sizeOf96 rfl rfl rfl (fun w H => ?_) rfl
            refine O.ex (Ex.assign rfl) rfl ?_
            refine O.nil ?_
            refine hK20 _ _ _ ?_
            refine W.seq (fun K21 hK21 => ?_)
            refine W.region ?_
            refine O.ex (by first | exact Ex.loadAggP Try.isAgg93 Try.sizeOf93 rfl | exact Ex.loadAggN Try.isAgg93 Try.sizeOf93 rfl | exact Ex.loadIn Try.isAgg93 Try.sizeOf93 rfl (Holds.to (by assumption))) rfl ?_
            refine O.ex (by first | exact Ex.loadAggP Try.isAgg96 Try.sizeOf96 rfl | exact Ex.loadAggN Try.isAgg96 Try.sizeOf96 rfl | exact Ex.loadIn Try.isAgg96 Try.sizeOf96 rfl (Holds.to (by assumption))) rfl ?_
            refine O.callF Try.call57 rfl rfl (CT.mono (same24_ct (t := 0) (h := 0) (q := false) (Holds.to (by assumption))) ?_)
            rintro _ w ⟨rfl, H⟩
            refine O.ex (by first | exact Ex.notD rfl | exact Ex.not rfl) rfl ?_
            refine O.ex (Ex.move rfl) rfl ?_
            refine O.known (t := 81) (c := false) rfl (by first | rfl | decide | exact decide_eq_false (fun hh => hh rfl) | exact decide_eq_true hno | exact decide_eq_false (fun hh => hh hyes)) ?_
            refine O.guard_t rfl rfl ?_
            refine O.ex (Ex.move rfl) rfl ?_
            refine O.guard_t rfl rfl ?_
            refine O.ex (Ex.move rfl) rfl ?_
            refine O.guard_t rfl rfl ?_
            refine O.ex (Ex.neqI rfl rfl) rfl ?_
            refine O.ex (Ex.pick_f rfl rfl) rfl ?_
            refine O.nil ?_
            refine hK21 _ _ _ ?_
            refine W.known_f rfl (by first | rfl | decide | exact decide_eq_false (fun hh => hh rfl) | exact decide_eq_true hno | exact decide_eq_false (fun hh => hh hyes)) ?_
            refine W.skip ?_
            refine hK17 _ _ _ ?_
            refine W.seq (fun K22 hK22 => ?_)
            refine W.region ?_
            have hokN : HOk n most k s [] := hok
            refine O.ex (Ex.move rfl) rfl ?_
            refine O.ex (Ex.move rfl) rfl ?_
            refine O.callF Try.call60 rfl rfl (CT.mono (whole24_ct hok.ok (Holds.to (M := Uk b k n most s (trP []) :: RB r k n most s (trD []) :: base w0 :: []) (by assumption))) ?_)
            rintro _ w ⟨rfl, H⟩
            refine O.ex (by first | exact Ex.notD rfl | exact Ex.not rfl) rfl ?_
            refine O.nil ?_
            refine hK22 _ _ _ ?_
            refine W.known_f rfl (by first | rfl | decide | exact decide_eq_false (fun hh => hh rfl) | exact decide_eq_true hno | exact decide_eq_false (fun hh => hh hyes)) ?_
            refine W.skip ?_
            refine hK16 _ _ _ ?_
            refine W.region ?_
            refine O.ex (Ex.move rfl) rfl ?_
            refine O.ex (by first | exact Ex.addI rfl rfl | exact Ex.add rfl rfl rfl) rfl ?_
            refine O.ex (Ex.assign rfl) rfl ?_
            refine O.nil ?_
            exact ⟨i + 1, ⟨rfl, rfl, rfl, rfl, trivial⟩, ⟨rfl, by omega, by omega, _, _, hokN, Holds.to (by assumption)⟩, by omega⟩
          · refine O.ex (Ex.move rfl) rfl ?_
            refine O.callF Try.call55 rfl rfl (CT.mono (pun_ct hok (Holds.to (M := Uk b k n most s (trP (h' ++ [x])) :: _) (by assumption))) ?_)
            rintro _ w ⟨rfl, H⟩
            refine O.ex (Ex.move rfl) rfl ?_
            refine O.ex (Ex.extract rfl rfl) rfl ?_
            refine O.ex (Ex.extract rfl rfl) rfl ?_
            refine O.allocP Try.zeroValue93 (fun b13 w H => ?_)
            first | refine O.storeAggP Try.sizeOf93 rfl rfl rfl rfl (fun w H => ?_) | refine O.storeAggN Try.sizeOf93 rfl rfl rfl (fun w H => ?_) rfl
            refine O.ex (Ex.assign rfl) rfl ?_
            refine O.nil ?_
            refine hK19 _ _ _ ?_
            refine W.seq (fun K23 hK23 => ?_)
            refine W.region ?_
            refine O.ex (Ex.move rfl) rfl ?_
            refine O.callF Try.call56 rfl rfl (CT.mono (qun_ct hok hk32 (Holds.to (M := RB r k n most s (trD (h' ++ [x])) :: _) (by assumption))) ?_)
            rintro _ w ⟨rfl, H⟩
            refine O.ex (Ex.move rfl) rfl ?_
            refine O.ex (Ex.extract rfl rfl) rfl ?_
            refine O.ex (Ex.extract rfl rfl) rfl ?_
            refine O.allocP Try.zeroValue96 (fun b15 w H => ?_)
            first | refine O.storeAggP Try.sizeOf96 rfl rfl rfl rfl (fun w H => ?_) | refine O.storeAggN Try.sizeOf96 rfl rfl rfl (fun w H => ?_) rfl
            refine O.ex (Ex.assign rfl) rfl ?_
            refine O.nil ?_
            refine hK23 _ _ _ ?_
            refine W.seq (fun K24 hK24 => ?_)
            refine W.region ?_
            refine O.ex (by first | exact Ex.loadAggP Try.isAgg93 Try.sizeOf93 rfl | exact Ex.loadAggN Try.isAgg93 Try.sizeOf93 rfl | exact Ex.loadIn Try.isAgg93 Try.sizeOf93 rfl (Holds.to (by assumption))) rfl ?_
            refine O.ex (by first | exact Ex.loadAggP Try.isAgg96 Try.sizeOf96 rfl | exact Ex.loadAggN Try.isAgg96 Try.sizeOf96 rfl | exact Ex.loadIn Try.isAgg96 Try.sizeOf96 rfl (Holds.to (by assumption))) rfl ?_
            refine O.callF Try.call57 rfl rfl (CT.mono (same24_ct (Holds.to (by assumption))) ?_)
            rintro _ w ⟨rfl, H⟩
            refine O.ex (by first | exact Ex.notD rfl | exact Ex.not rfl) rfl ?_
            refine O.ex (Ex.move rfl) rfl ?_
            refine O.known (t := 81) (c := false) rfl (by first | rfl | decide | exact decide_eq_false (fun hh => hh rfl) | exact decide_eq_true hno | exact decide_eq_false (fun hh => hh hyes)) ?_
            refine O.guard_t rfl rfl ?_
            refine O.ex (Ex.move rfl) rfl ?_
            refine O.guard_t rfl rfl ?_
            refine O.ex (Ex.move rfl) rfl ?_
            refine O.guard_t rfl rfl ?_
            refine O.ex (Ex.neqI rfl rfl) rfl ?_
            refine O.ex (Ex.pick_f rfl rfl) rfl ?_
            refine O.nil ?_
            refine hK24 _ _ _ ?_
            refine W.known_f rfl (by first | rfl | decide | exact decide_eq_false (fun hh => hh rfl) | exact decide_eq_true hno | exact decide_eq_false (fun hh => hh hyes)) ?_
            refine W.skip ?_
            refine hK17 _ _ _ ?_
            refine W.seq (fun K25 hK25 => ?_)
            refine W.region ?_
            have hokN : HOk n most k x.2 h' := (hok_un hok).1
            refine O.ex (Ex.move rfl) rfl ?_
            refine O.ex (Ex.move rfl) rfl ?_
            refine O.callF Try.call60 rfl rfl (CT.mono (whole24_ct (hok_un hok).1.ok (Holds.to (M := Uk b k n most x.2 (trP h') :: RB r k n most x.2 (trD h') :: base w0 :: []) (by assumption))) ?_)
            rintro _ w ⟨rfl, H⟩
            refine O.ex (by first | exact Ex.notD rfl | exact Ex.not rfl) rfl ?_
            refine O.nil ?_
            refine hK25 _ _ _ ?_
            refine W.known_f rfl (by first | rfl | decide | exact decide_eq_false (fun hh => hh rfl) | exact decide_eq_true hno | exact decide_eq_false (fun hh => hh hyes)) ?_
            refine W.skip ?_
            refine hK16 _ _ _ ?_
            refine W.region ?_
            refine O.ex (Ex.move rfl) rfl ?_
            refine O.ex (by first | exact Ex.addI rfl rfl | exact Ex.add rfl rfl rfl) rfl ?_
            refine O.ex (Ex.assign rfl) rfl ?_
            refine O.nil ?_
            exact ⟨i + 1, ⟨rfl, rfl, rfl, rfl, trivial⟩, ⟨rfl, by omega, by omega, _, _, hokN, Holds.to (by assumption)⟩, by omega⟩
        · refine W.seq (fun K26 hK26 => ?_)
          refine W.region ?_
          obtain ⟨s', h', et, eh, eq, cd, hy, he, hcd, hok'⟩ := do_ex hok (l.getD i default)
          refine O.ex (Ex.move rfl) rfl ?_
          refine O.ex (Ex.move rfl) rfl ?_
          refine O.ex (Ex.move rfl) rfl ?_
          refine O.ex (by first | exact Ex.idxIn Try.runUnderlying82 Try.sizeOf91 rfl rfl | exact Ex.idxN Try.runUnderlying82 Try.sizeOf91 rfl rfl | exact Ex.idxSN Try.runUnderlying82 Try.sizeOf91 rfl rfl | exact Ex.idx Try.runUnderlying82 Try.sizeOf91 rfl rfl (by omega) (by omega)) rfl ?_
          refine O.ex (by first | exact Ex.loadAggP Try.isAgg91 Try.sizeOf91 rfl | exact Ex.loadAggN Try.isAgg91 Try.sizeOf91 rfl | exact Ex.loadIn Try.isAgg91 Try.sizeOf91 rfl (Holds.to (by assumption))) rfl ?_
          refine O.callF Try.call58 rfl rfl (CT.mono (pdo_ct (op := l.getD i default) hy he hcd hok hw0 (Holds.to (M := Uk b k n most s (trP h) :: _) (by assumption))) ?_)
          rintro _ w ⟨rfl, H⟩
          refine O.ex (Ex.move rfl) rfl ?_
          refine O.ex (Ex.extract rfl rfl) rfl ?_
          refine O.ex (Ex.extract rfl rfl) rfl ?_
          refine O.allocP Try.zeroValue93 (fun b17 w H => ?_)
          first | refine O.storeAggP Try.sizeOf93 rfl rfl rfl rfl (fun w H => ?_) | refine O.storeAggN Try.sizeOf93 rfl rfl rfl (fun w H => ?_) rfl
          refine O.ex (Ex.assign rfl) rfl ?_
          refine O.nil ?_
          refine hK26 _ _ _ ?_
          refine W.seq (fun K27 hK27 => ?_)
          refine W.region ?_
          refine O.ex (Ex.move rfl) rfl ?_
          refine O.ex (Ex.move rfl) rfl ?_
          refine O.ex (Ex.move rfl) rfl ?_
          refine O.ex (by first | exact Ex.idxIn Try.runUnderlying82 Try.sizeOf91 rfl rfl | exact Ex.idxN Try.runUnderlying82 Try.sizeOf91 rfl rfl | exact Ex.idxSN Try.runUnderlying82 Try.sizeOf91 rfl rfl | exact Ex.idx Try.runUnderlying82 Try.sizeOf91 rfl rfl (by omega) (by omega)) rfl ?_
          refine O.ex (by first | exact Ex.loadAggP Try.isAgg91 Try.sizeOf91 rfl | exact Ex.loadAggN Try.isAgg91 Try.sizeOf91 rfl | exact Ex.loadIn Try.isAgg91 Try.sizeOf91 rfl (Holds.to (by assumption))) rfl ?_
          refine O.callF Try.call59 rfl rfl (CT.mono (qdo_ct (op := l.getD i default) hy he hcd hok hk32 hw0 (Holds.to (M := RB r k n most s (trD h) :: _) (by assumption))) ?_)
          rintro _ w ⟨rfl, H⟩
          refine O.ex (Ex.move rfl) rfl ?_
          refine O.ex (Ex.extract rfl rfl) rfl ?_
          refine O.ex (Ex.extract rfl rfl) rfl ?_
          refine O.allocP Try.zeroValue96 (fun b19 w H => ?_)
          first | refine O.storeAggP Try.sizeOf96 rfl rfl rfl rfl (fun w H => ?_) | refine O.storeAggN Try.sizeOf96 rfl rfl rfl (fun w H => ?_) rfl
          refine O.ex (Ex.assign rfl) rfl ?_
          refine O.nil ?_
          refine hK27 _ _ _ ?_
          refine W.seq (fun K28 hK28 => ?_)
          refine W.region ?_
          refine O.ex (by first | exact Ex.loadAggP Try.isAgg93 Try.sizeOf93 rfl | exact Ex.loadAggN Try.isAgg93 Try.sizeOf93 rfl | exact Ex.loadIn Try.isAgg93 Try.sizeOf93 rfl (Holds.to (by assumption))) rfl ?_
          refine O.ex (by first | exact Ex.loadAggP Try.isAgg96 Try.sizeOf96 rfl | exact Ex.loadAggN Try.isAgg96 Try.sizeOf96 rfl | exact Ex.loadIn Try.isAgg96 Try.sizeOf96 rfl (Holds.to (by assumption))) rfl ?_
          refine O.callF Try.call57 rfl rfl (CT.mono (same24_ct (t := et) (h := eh) (q := eq) (Holds.to (by assumption))) ?_)
          rintro _ w ⟨rfl, H⟩
          refine O.ex (by first | exact Ex.notD rfl | exact Ex.not rfl) rfl ?_
          refine O.ex (Ex.move rfl) rfl ?_
          refine O.known (t := 108) (c := false) rfl (by first | rfl | decide | exact decide_eq_false (fun hh => hh rfl) | exact decide_eq_true hno | exact decide_eq_false (fun hh => hh hyes)) ?_
          refine O.guard_t rfl rfl ?_
          refine O.ex (Ex.move rfl) rfl ?_
          refine O.guard_t rfl rfl ?_
          refine O.ex (Ex.move rfl) rfl ?_
          refine O.guard_t rfl rfl ?_
          refine O.ex (Ex.neqI rfl rfl) rfl ?_
          refine O.ex (Ex.pick_f rfl rfl) rfl ?_
          refine O.nil ?_
          refine hK28 _ _ _ ?_
          refine W.known_f rfl (by first | rfl | decide | exact decide_eq_false (fun hh => hh rfl) | exact decide_eq_true hno | exact decide_eq_false (fun hh => hh hyes)) ?_
          refine W.skip ?_
          refine hK17 _ _ _ ?_
          refine W.seq (fun K29 hK29 => ?_)
          refine W.region ?_
          have hokN : HOk n most k s' h' := hok'
          refine O.ex (Ex.move rfl) rfl ?_
          refine O.ex (Ex.move rfl) rfl ?_
          refine O.callF Try.call60 rfl rfl (CT.mono (whole24_ct hok'.ok (Holds.to (M := Uk b k n most s' (trP h') :: RB r k n most s' (trD h') :: base w0 :: []) (by assumption))) ?_)
          rintro _ w ⟨rfl, H⟩
          refine O.ex (by first | exact Ex.notD rfl | exact Ex.not rfl) rfl ?_
          refine O.nil ?_
          refine hK29 _ _ _ ?_
          refine W.known_f rfl (by first | rfl | decide | exact decide_eq_false (fun hh => hh rfl) | exact decide_eq_true hno | exact decide_eq_false (fun hh => hh hyes)) ?_
          refine W.skip ?_
          refine hK16 _ _ _ ?_
          refine W.region ?_
          refine O.ex (Ex.move rfl) rfl ?_
          refine O.ex (by first | exact Ex.addI rfl rfl | exact Ex.add rfl rfl rfl) rfl ?_
          refine O.ex (Ex.assign rfl) rfl ?_
          refine O.nil ?_
          exact ⟨i + 1, ⟨rfl, rfl, rfl, rfl, trivial⟩, ⟨rfl, by omega, by omega, _, _, hokN, Holds.to (by assumption)⟩, by omega⟩
      · refine W.exit ?_
        refine hK12 _ _ _ ?_
        refine W.seq (fun K30 hK30 => ?_)
        refine W.region ?_
        refine O.ex (Ex.move rfl) rfl ?_
        refine O.ex (Ex.move rfl) rfl ?_
        refine O.callF Try.call60 rfl rfl (CT.mono (whole24_ct hok.ok (Holds.to (by assumption))) ?_)
        rintro _ w ⟨rfl, H⟩
        refine O.ex (Ex.assign rfl) rfl ?_
        refine O.nil ?_
        refine hK30 _ _ _ ?_
        refine W.ret ?_
        try dsimp only [thenQ, blockQ, retQ]
        first | refine ⟨_, ⟨_, _, rfl, rfl, rfl⟩, ?_⟩ | (refine retD_mark ?_; intro w H; refine ⟨_, ⟨_, _, rfl, rfl, rfl⟩, ?_⟩) | (refine retD_mark2 ?_; intro w H; refine ⟨_, ⟨_, _, rfl, rfl, rfl⟩, ?_⟩)
        exact ⟨rfl, Holds.base_below (L := []) (Holds.to (by assumption))⟩
    · refine O.guard_f rfl rfl rfl rfl ?_
      refine O.guard_f rfl rfl rfl rfl ?_
      refine O.ex (Ex.pick_f rfl rfl) rfl ?_
      refine O.nil ?_
      refine hK15 _ _ _ ?_
      refine W.cond_f rfl ?_
      refine W.exit ?_
      refine hK12 _ _ _ ?_
      refine W.seq (fun K31 hK31 => ?_)
      refine W.region ?_
      refine O.ex (Ex.move rfl) rfl ?_
      refine O.ex (Ex.move rfl) rfl ?_
      refine O.callF Try.call60 rfl rfl (CT.mono (whole24_ct hok.ok (Holds.to (by assumption))) ?_)
      rintro _ w ⟨rfl, H⟩
      refine O.ex (Ex.assign rfl) rfl ?_
      refine O.nil ?_
      refine hK31 _ _ _ ?_
      refine W.ret ?_
      try dsimp only [thenQ, blockQ, retQ]
      first | refine ⟨_, ⟨_, _, rfl, rfl, rfl⟩, ?_⟩ | (refine retD_mark ?_; intro w H; refine ⟨_, ⟨_, _, rfl, rfl, rfl⟩, ?_⟩) | (refine retD_mark2 ?_; intro w H; refine ⟨_, ⟨_, _, rfl, rfl, rfl⟩, ?_⟩)
      exact ⟨rfl, Holds.base_below (L := []) (Holds.to (by assumption))⟩
theorem undoPlays_row {w0 : World} {n most room : Int} {lv : Value} {l : List OpM} (hn : (Lit.int .i64 n).wf = true) (hm : (Lit.int .i64 most).wf = true) (hr : (Lit.int .i64 room).wf = true) (hx : SlIn w0 5 OpM.enc lv l) (hg : ∀ x ∈ l, x.ok) (hl : l.length ≤ maxLen) :
    CT Try.prog 13 [.int .i64 n, .int .i64 most, .int .i64 room, lv] w0 fun x w' => x = .bool true ∧ RowKit.Below w0.heap.size w0 w' :=
  undoPlays_ct hx hg (by unfold maxLen at hl; omega)
end Go.Proofs.Ytakmbbgnnbpkoaa
