import Derived.Test.YtakmbbgnnbpkoaaLaw24
--ARR
--INF
--DEEP
namespace Go.Proofs.Ytakmbbgnnbpkoaa
open Go.Rr Go Gr
set_option linter.unusedVariables false
set_option linter.unusedSimpArgs false
set_option maxHeartbeats 4000000 in
theorem undoOwn_ct {w0 : World} {q : Int} {lv cv : Value} {l : List OpM} {cl : List Chg} (hq : (Lit.int .u8 q).wf = true) (hx : SlIn w0 5 OpM.enc lv l) (hgk : ∀ x ∈ l, x.ok) (hl : l.length ≤ 9223372036854775807) (hx2 : SlIn w0 6 Chg.enc cv cl) (hl2 : cl.length ≤ 9223372036854775807) :
    CT Try.prog 15 [.int .u8 q, lv, cv] w0 fun x w' => x = .bool true ∧ RowKit.Below w0.heap.size w0 w' := by
  have H := Holds.base_refl w0
  obtain ⟨q0, q1⟩ := bounds_u8 hq
  obtain ⟨n, hn⟩ : ∃ n, n = (1 : Int) + q % 24 := ⟨_, rfl⟩
  have ok0 : HOk n 64 32 noS [] := hok_none (by omega) (by omega) (by omega) (by omega) (by omega)
  refine CT.enter (N := 74) Try.func15 rfl rfl rfl rfl ?_
  refine W.seq (fun K0 hK0 => ?_)
  refine W.region ?_
  refine O.ex (Ex.assign rfl) rfl ?_
  refine O.nil ?_
  refine hK0 _ _ _ ?_
  refine W.seq (fun K1 hK1 => ?_)
  refine W.seq (fun K2 hK2 => ?_)
  refine W.region ?_
  refine O.callF Try.call51 rfl rfl (CT.mono (awake24_ct (Holds.to (by assumption))) ?_)
  rintro _ w ⟨rfl, H⟩
  refine O.ex (by first | exact Ex.notD rfl | exact Ex.not rfl) rfl ?_
  refine O.nil ?_
  refine hK2 _ _ _ ?_
  refine W.known_f rfl (by first | rfl | decide | exact decide_eq_false (fun hh => hh rfl)) ?_
  refine W.skip ?_
  refine hK1 _ _ _ ?_
  refine W.seq (fun K3 hK3 => ?_)
  refine W.region ?_
  refine O.ex (Ex.move rfl) rfl ?_
  refine O.ex (by first | exact Ex.convToI Try.runUnderlying5 Try.runUnderlying3 rfl | exact Ex.convW Try.runUnderlying5 Try.runUnderlying3 rfl) rfl ?_
  refine O.ex (by first | exact Ex.remI rfl rfl | exact Ex.rem rfl rfl (by omega) rfl) rfl ?_
  refine O.ex (by first | exact Ex.addI rfl rfl | exact Ex.add rfl rfl rfl) rfl ?_
  refine O.ex (Ex.assign rfl) rfl ?_
  refine O.nil ?_
  refine hK3 _ _ _ ?_
  refine W.seq (fun K4 hK4 => ?_)
  refine W.region ?_
  rw [← hn]
  refine O.ex (Ex.move rfl) rfl ?_
  refine O.callF Try.call52 rfl rfl (CT.mono (unew_ct (n := n) (most := 64) (room := 32) (Holds.to (by assumption))) ?_)
  rintro _ w (⟨hno, -⟩ | ⟨hyes, b, rfl, H⟩)
  · exact absurd ⟨⟨by omega, by omega⟩, by omega⟩ hno
  refine O.ex (Ex.move rfl) rfl ?_
  refine O.ex (Ex.extract rfl rfl) rfl ?_
  refine O.ex (Ex.extract rfl rfl) rfl ?_
  refine O.ex (Ex.assign rfl) rfl ?_
  refine O.ex (Ex.assign rfl) rfl ?_
  refine O.nil ?_
  refine hK4 _ _ _ ?_
  refine W.seq (fun K5 hK5 => ?_)
  refine W.region ?_
  refine O.ex (Ex.move rfl) rfl ?_
  refine O.callF Try.call54 rfl rfl (CT.mono (new24_ct (room := 32) (by omega) (Holds.to (by assumption))) ?_)
  rintro _ w ⟨r, rfl, H⟩
  refine O.ex (Ex.assign rfl) rfl ?_
  refine O.nil ?_
  refine hK5 _ _ _ ?_
  refine W.seq (fun K6 hK6 => ?_)
  refine W.seq (fun K7 hK7 => ?_)
  refine W.region ?_
  refine O.ex (Ex.move rfl) rfl ?_
  refine O.ex (Ex.nilEq Try.runUnderlying83 rfl rfl) rfl ?_
  refine O.nil ?_
  refine hK7 _ _ _ ?_
  refine W.known_f rfl (by first | rfl | decide | exact decide_eq_false (fun hh => hh rfl)) ?_
  refine W.skip ?_
  refine hK6 _ _ _ ?_
  refine W.seq (fun K8 hK8 => ?_)
  refine W.seq (fun K9 hK9 => ?_)
  refine W.region ?_
  refine O.ex (Ex.assign rfl) rfl ?_
  refine O.nil ?_
  refine hK9 _ _ _ ?_
  refine W.block ?_
  have H : Holds w (Uk b 32 n 64 noS (trP []) :: RB r 32 n 64 noS (trD []) :: base w0 :: []) := Holds.to (by assumption)
  refine W.loop (σ := Nat) (fun i => [(1, lv), (2, cv), (8, .pointer (some ⟨b, 0, none⟩)), (10, .pointer (some ⟨r, 0, none⟩)), (11, .int .i64 (i : Int))]) (fun i ds w => ds = [] ∧ i ≤ l.length ∧ i ≤ 150 ∧ ∃ s h, HOk n 64 32 s h ∧ Holds w (Uk b 32 n 64 s (trP h) :: RB r 32 n 64 s (trD h) :: base w0 :: [])) (fun i => 150 - i) 0 ⟨rfl, rfl, rfl, rfl, rfl, trivial⟩ ⟨rfl, by omega, by omega, noS, [], ok0, H⟩ ?_
  clear H
  rintro i _ w ⟨rfl, hi, hi4, s, h, hok, H⟩
  refine W.seq (fun K10 hK10 => ?_)
  refine W.seq (fun K11 hK11 => ?_)
  refine W.region ?_
  refine O.ex (Ex.move rfl) rfl ?_
  refine O.ex (Ex.move rfl) rfl ?_
  refine O.ex (by first | exact Ex.lenN Try.runUnderlying82 rfl | exact Ex.lenIn Try.runUnderlying82 rfl | exact Ex.lenL Try.runUnderlying82 rfl | exact Ex.len rfl Try.runUnderlying82 rfl) rfl ?_
  refine O.ex (Ex.lss rfl rfl) rfl ?_
  refine O.ex (Ex.move rfl) rfl ?_
  first | refine O.split_p (t := 33) rfl (fun h1 => ?_) (fun h1 => ?_) | refine O.split (t := 33) rfl (fun h1 => ?_) (fun h1 => ?_)
  · refine O.guard_t rfl rfl ?_
    refine O.ex (Ex.move rfl) rfl ?_
    refine O.guard_t rfl rfl ?_
    refine O.ex (Ex.lss rfl rfl) rfl ?_
    refine O.ex (Ex.pick_t rfl rfl) rfl ?_
    refine O.nil ?_
    refine hK11 _ _ _ ?_
    first | refine W.cond_p rfl (fun hlt => ?_) (fun hge => ?_) | refine W.cond_b rfl (fun hlt => ?_) (fun hge => ?_)
    · refine W.skip ?_
      refine hK10 _ _ _ ?_
      refine W.seq (fun K12 hK12 => ?_)
      refine W.block ?_
      refine W.seq (fun K13 hK13 => ?_)
      refine W.region ?_
      have hi0 : (0 : Int) ≤ (i : Int) := by omega
      have hi1 : (i : Int) < l.length := h1
      have hil : i < l.length := by omega
      have hicl : ((i : Nat) : Int).toNat < l.length := by omega
      have hw0 := op_w hgk hil
      obtain ⟨s', h', et, eh, eq, cd, hy, he, hcd, hok'⟩ := do_ex hok (l.getD i default)
      refine O.ex (Ex.move rfl) rfl ?_
      refine O.ex (Ex.move rfl) rfl ?_
      refine O.ex (Ex.move rfl) rfl ?_
      refine O.ex (by first | exact Ex.idxIn Try.runUnderlying82 Try.sizeOf91 rfl rfl | exact Ex.idxN Try.runUnderlying82 Try.sizeOf91 rfl rfl | exact Ex.idxSN Try.runUnderlying82 Try.sizeOf91 rfl rfl | exact Ex.idx Try.runUnderlying82 Try.sizeOf91 rfl rfl (by omega) (by omega)) rfl ?_
      refine O.ex (by first | exact Ex.loadAggP Try.isAgg91 Try.sizeOf91 rfl | exact Ex.loadAggN Try.isAgg91 Try.sizeOf91 rfl | exact Ex.loadIn Try.isAgg91 Try.sizeOf91 rfl (Holds.to (by assumption))) rfl ?_
      refine O.callF Try.call58 rfl rfl (CT.mono (pdo_ct (op := l.getD i default) hy he hcd hok hw0 (Holds.to (M := Uk b 32 n 64 s (trP h) :: _) (by assumption))) ?_)
      rintro _ w ⟨-, H⟩
      refine O.nil ?_
      refine hK13 _ _ _ ?_
      refine W.region ?_
      refine O.ex (Ex.move rfl) rfl ?_
      refine O.ex (Ex.move rfl) rfl ?_
      refine O.ex (Ex.move rfl) rfl ?_
      refine O.ex (by first | exact Ex.idxIn Try.runUnderlying82 Try.sizeOf91 rfl rfl | exact Ex.idxN Try.runUnderlying82 Try.sizeOf91 rfl rfl | exact Ex.idxSN Try.runUnderlying82 Try.sizeOf91 rfl rfl | exact Ex.idx Try.runUnderlying82 Try.sizeOf91 rfl rfl (by omega) (by omega)) rfl ?_
      refine O.ex (by first | exact Ex.loadAggP Try.isAgg91 Try.sizeOf91 rfl | exact Ex.loadAggN Try.isAgg91 Try.sizeOf91 rfl | exact Ex.loadIn Try.isAgg91 Try.sizeOf91 rfl (Holds.to (by assumption))) rfl ?_
      refine O.callF Try.call59 rfl rfl (CT.mono (qdo_ct (op := l.getD i default) hy he hcd hok (by omega) hw0 (Holds.to (M := RB r 32 n 64 s (trD h) :: _) (by assumption))) ?_)
      rintro _ w ⟨-, H⟩
      refine O.nil ?_
      refine hK12 _ _ _ ?_
      refine W.region ?_
      refine O.ex (Ex.move rfl) rfl ?_
      refine O.ex (by first | exact Ex.addI rfl rfl | exact Ex.add rfl rfl rfl) rfl ?_
      refine O.ex (Ex.assign rfl) rfl ?_
      refine O.nil ?_
      exact ⟨i + 1, ⟨rfl, rfl, rfl, rfl, rfl, trivial⟩, ⟨rfl, by omega, by omega, s', h', hok', Holds.to (by assumption)⟩, by omega⟩
    · refine W.exit ?_
      refine hK8 _ _ _ ?_
      refine W.seq (fun K14 hK14 => ?_)
      refine W.region ?_
      refine O.ex (Ex.move rfl) rfl ?_
      refine O.callF Try.call62 rfl rfl (CT.mono (ugraph_ct hok.ok (Holds.to (M := Uk b 32 n 64 s (trP h) :: _) (by assumption))) ?_)
      rintro _ w ⟨c, rfl, H⟩
      refine O.ex (Ex.assign rfl) rfl ?_
      refine O.nil ?_
      refine hK14 _ _ _ ?_
      refine W.seq (fun K15 hK15 => ?_)
      refine W.seq (fun K16 hK16 => ?_)
      refine W.region ?_
      refine O.ex (Ex.move rfl) rfl ?_
      refine O.ex (Ex.nilEq Try.runUnderlying24 rfl rfl) rfl ?_
      refine O.nil ?_
      refine hK16 _ _ _ ?_
      refine W.known_f rfl (by first | rfl | decide | exact decide_eq_false (fun hh => hh rfl)) ?_
      refine W.skip ?_
      refine hK15 _ _ _ ?_
      refine W.seq (fun K17 hK17 => ?_)
      refine W.seq (fun K18 hK18 => ?_)
      refine W.region ?_
      refine O.ex (Ex.assign rfl) rfl ?_
      refine O.nil ?_
      refine hK18 _ _ _ ?_
      refine W.block ?_
      have H : Holds w (Gh c n 64 (doAll n 64 s (cl.take 0)) :: Uk b 32 n 64 s (trP h) :: RB r 32 n 64 s (trD h) :: base w0 :: []) := Holds.to (by assumption)
      refine W.loop (σ := Nat) (fun j => [(2, cv), (8, .pointer (some ⟨b, 0, none⟩)), (10, .pointer (some ⟨r, 0, none⟩)), (12, .pointer (some ⟨c, 0, none⟩)), (13, .int .i64 (j : Int))]) (fun j ds w => ds = [] ∧ j ≤ cl.length ∧ j ≤ 150 ∧ Holds w (Gh c n 64 (doAll n 64 s (cl.take j)) :: Uk b 32 n 64 s (trP h) :: RB r 32 n 64 s (trD h) :: base w0 :: [])) (fun j => 150 - j) 0 ⟨rfl, rfl, rfl, rfl, rfl, trivial⟩ ⟨rfl, by omega, by omega, H⟩ ?_
      clear H
      rintro j _ w ⟨rfl, hj, hj4, H⟩
      have hgj := ok_all (cl.take j) s hok.ok
      refine W.seq (fun K19 hK19 => ?_)
      refine W.seq (fun K20 hK20 => ?_)
      refine W.region ?_
      refine O.ex (Ex.move rfl) rfl ?_
      refine O.ex (Ex.move rfl) rfl ?_
      refine O.ex (by first | exact Ex.lenN Try.runUnderlying22 rfl | exact Ex.lenIn Try.runUnderlying22 rfl | exact Ex.lenL Try.runUnderlying22 rfl | exact Ex.len rfl Try.runUnderlying22 rfl) rfl ?_
      refine O.ex (Ex.lss rfl rfl) rfl ?_
      refine O.ex (Ex.move rfl) rfl ?_
      first | refine O.split_p (t := 59) rfl (fun k1 => ?_) (fun k1 => ?_) | refine O.split (t := 59) rfl (fun k1 => ?_) (fun k1 => ?_)
      · refine O.guard_t rfl rfl ?_
        refine O.ex (Ex.move rfl) rfl ?_
        refine O.guard_t rfl rfl ?_
        refine O.ex (Ex.lss rfl rfl) rfl ?_
        refine O.ex (Ex.pick_t rfl rfl) rfl ?_
        refine O.nil ?_
        refine hK20 _ _ _ ?_
        first | refine W.cond_p rfl (fun klt => ?_) (fun kge => ?_) | refine W.cond_b rfl (fun klt => ?_) (fun kge => ?_)
        · refine W.skip ?_
          refine hK19 _ _ _ ?_
          refine W.seq (fun K21 hK21 => ?_)
          refine W.block ?_
          refine W.region ?_
          have hj0 : (0 : Int) ≤ (j : Int) := by omega
          have hj1 : (j : Int) < cl.length := k1
          have hjl : j < cl.length := by omega
          have hjl2 : ((j : Nat) : Int).toNat < cl.length := by omega
          have e1 : doS n 64 (doAll n 64 s (cl.take j)) (cl.getD j default) = doAll n 64 s (cl.take (j + 1)) := by rw [take_getCh cl hjl, doAll_snoc]
          refine O.ex (Ex.move rfl) rfl ?_
          refine O.ex (Ex.move rfl) rfl ?_
          refine O.ex (Ex.move rfl) rfl ?_
          refine O.ex (by first | exact Ex.idxIn Try.runUnderlying22 Try.sizeOf47 rfl rfl | exact Ex.idxN Try.runUnderlying22 Try.sizeOf47 rfl rfl | exact Ex.idxSN Try.runUnderlying22 Try.sizeOf47 rfl rfl | exact Ex.idx Try.runUnderlying22 Try.sizeOf47 rfl rfl (by omega) (by omega)) rfl ?_
          refine O.ex (by first | exact Ex.loadAggP Try.isAgg47 Try.sizeOf47 rfl | exact Ex.loadAggN Try.isAgg47 Try.sizeOf47 rfl | exact Ex.loadIn Try.isAgg47 Try.sizeOf47 rfl (Holds.to (by assumption))) rfl ?_
          refine O.callF Try.call28 rfl rfl (CT.mono (do_ct (c := cl.getD j default) hgj (Holds.to (by assumption))) ?_)
          rintro _ w ⟨-, H⟩
          rw [e1] at H
          refine O.nil ?_
          refine hK21 _ _ _ ?_
          refine W.region ?_
          refine O.ex (Ex.move rfl) rfl ?_
          refine O.ex (by first | exact Ex.addI rfl rfl | exact Ex.add rfl rfl rfl) rfl ?_
          refine O.ex (Ex.assign rfl) rfl ?_
          refine O.nil ?_
          exact ⟨j + 1, ⟨rfl, rfl, rfl, rfl, rfl, trivial⟩, ⟨rfl, by omega, by omega, Holds.to (by assumption)⟩, by omega⟩
        · refine W.exit ?_
          refine hK17 _ _ _ ?_
          refine W.seq (fun K22 hK22 => ?_)
          refine W.region ?_
          refine O.ex (Ex.move rfl) rfl ?_
          refine O.ex (Ex.move rfl) rfl ?_
          refine O.callF Try.call60 rfl rfl (CT.mono (whole24_ct hok.ok (Holds.to (M := Uk b 32 n 64 s (trP h) :: RB r 32 n 64 s (trD h) :: base w0 :: []) (by assumption))) ?_)
          rintro _ w ⟨rfl, H⟩
          refine O.ex (Ex.assign rfl) rfl ?_
          refine O.nil ?_
          refine hK22 _ _ _ ?_
          refine W.ret ?_
          try dsimp only [thenQ, blockQ, retQ]
          first | refine ⟨_, ⟨_, _, rfl, rfl, rfl⟩, ?_⟩ | (refine retD_mark ?_; intro w H; refine ⟨_, ⟨_, _, rfl, rfl, rfl⟩, ?_⟩) | (refine retD_mark2 ?_; intro w H; refine ⟨_, ⟨_, _, rfl, rfl, rfl⟩, ?_⟩)
          exact ⟨rfl, Holds.base_below (L := []) (Holds.to (by assumption))⟩
      · refine O.guard_f rfl rfl rfl rfl ?_
        refine O.guard_f rfl rfl rfl rfl ?_
        refine O.ex (Ex.pick_f rfl rfl) rfl ?_
        refine O.nil ?_
        refine hK20 _ _ _ ?_
        refine W.cond_f rfl ?_
        refine W.exit ?_
        refine hK17 _ _ _ ?_
        refine W.seq (fun K23 hK23 => ?_)
        refine W.region ?_
        refine O.ex (Ex.move rfl) rfl ?_
        refine O.ex (Ex.move rfl) rfl ?_
        refine O.callF Try.call60 rfl rfl (CT.mono (whole24_ct hok.ok (Holds.to (M := Uk b 32 n 64 s (trP h) :: RB r 32 n 64 s (trD h) :: base w0 :: []) (by assumption))) ?_)
        rintro _ w ⟨rfl, H⟩
        refine O.ex (Ex.assign rfl) rfl ?_
        refine O.nil ?_
        refine hK23 _ _ _ ?_
        refine W.ret ?_
        try dsimp only [thenQ, blockQ, retQ]
        first | refine ⟨_, ⟨_, _, rfl, rfl, rfl⟩, ?_⟩ | (refine retD_mark ?_; intro w H; refine ⟨_, ⟨_, _, rfl, rfl, rfl⟩, ?_⟩) | (refine retD_mark2 ?_; intro w H; refine ⟨_, ⟨_, _, rfl, rfl, rfl⟩, ?_⟩)
        exact ⟨rfl, Holds.base_below (L := []) (Holds.to (by assumption))⟩
  · refine O.guard_f rfl rfl rfl rfl ?_
    refine O.guard_f rfl rfl rfl rfl ?_
    refine O.ex (Ex.pick_f rfl rfl) rfl ?_
    refine O.nil ?_
    refine hK11 _ _ _ ?_
    refine W.cond_f rfl ?_
    refine W.exit ?_
    refine hK8 _ _ _ ?_
    refine W.seq (fun K24 hK24 => ?_)
    refine W.region ?_
    refine O.ex (Ex.move rfl) rfl ?_
    refine O.callF Try.call62 rfl rfl (CT.mono (ugraph_ct hok.ok (Holds.to (M := Uk b 32 n 64 s (trP h) :: _) (by assumption))) ?_)
    rintro _ w ⟨c, rfl, H⟩
    refine O.ex (Ex.assign rfl) rfl ?_
    refine O.nil ?_
    refine hK24 _ _ _ ?_
    refine W.seq (fun K25 hK25 => ?_)
    refine W.seq (fun K26 hK26 => ?_)
    refine W.region ?_
    refine O.ex (Ex.move rfl) rfl ?_
    refine O.ex (Ex.nilEq Try.runUnderlying24 rfl rfl) rfl ?_
    refine O.nil ?_
    refine hK26 _ _ _ ?_
    refine W.known_f rfl (by first | rfl | decide | exact decide_eq_false (fun hh => hh rfl)) ?_
    refine W.skip ?_
    refine hK25 _ _ _ ?_
    refine W.seq (fun K27 hK27 => ?_)
    refine W.seq (fun K28 hK28 => ?_)
    refine W.region ?_
    refine O.ex (Ex.assign rfl) rfl ?_
    refine O.nil ?_
    refine hK28 _ _ _ ?_
    refine W.block ?_
    have H : Holds w (Gh c n 64 (doAll n 64 s (cl.take 0)) :: Uk b 32 n 64 s (trP h) :: RB r 32 n 64 s (trD h) :: base w0 :: []) := Holds.to (by assumption)
    refine W.loop (σ := Nat) (fun j => [(2, cv), (8, .pointer (some ⟨b, 0, none⟩)), (10, .pointer (some ⟨r, 0, none⟩)), (12, .pointer (some ⟨c, 0, none⟩)), (13, .int .i64 (j : Int))]) (fun j ds w => ds = [] ∧ j ≤ cl.length ∧ j ≤ 150 ∧ Holds w (Gh c n 64 (doAll n 64 s (cl.take j)) :: Uk b 32 n 64 s (trP h) :: RB r 32 n 64 s (trD h) :: base w0 :: [])) (fun j => 150 - j) 0 ⟨rfl, rfl, rfl, rfl, rfl, trivial⟩ ⟨rfl, by omega, by omega, H⟩ ?_
    clear H
    rintro j _ w ⟨rfl, hj, hj4, H⟩
    have hgj := ok_all (cl.take j) s hok.ok
    refine W.seq (fun K29 hK29 => ?_)
    refine W.seq (fun K30 hK30 => ?_)
    refine W.region ?_
    refine O.ex (Ex.move rfl) rfl ?_
    refine O.ex (Ex.move rfl) rfl ?_
    refine O.ex (by first | exact Ex.lenN Try.runUnderlying22 rfl | exact Ex.lenIn Try.runUnderlying22 rfl | exact Ex.lenL Try.runUnderlying22 rfl | exact Ex.len rfl Try.runUnderlying22 rfl) rfl ?_
    refine O.ex (Ex.lss rfl rfl) rfl ?_
    refine O.ex (Ex.move rfl) rfl ?_
    first | refine O.split_p (t := 59) rfl (fun k1 => ?_) (fun k1 => ?_) | refine O.split (t := 59) rfl (fun k1 => ?_) (fun k1 => ?_)
    · refine O.guard_t rfl rfl ?_
      refine O.ex (Ex.move rfl) rfl ?_
      refine O.guard_t rfl rfl ?_
      refine O.ex (Ex.lss rfl rfl) rfl ?_
      refine O.ex (Ex.pick_t rfl rfl) rfl ?_
      refine O.nil ?_
      refine hK30 _ _ _ ?_
      first | refine W.cond_p rfl (fun klt => ?_) (fun kge => ?_) | refine W.cond_b rfl (fun klt => ?_) (fun kge => ?_)
      · refine W.skip ?_
        refine hK29 _ _ _ ?_
        refine W.seq (fun K31 hK31 => ?_)
        refine W.block ?_
        refine W.region ?_
        have hj0 : (0 : Int) ≤ (j : Int) := by omega
        have hj1 : (j : Int) < cl.length := k1
        have hjl : j < cl.length := by omega
        have hjl2 : ((j : Nat) : Int).toNat < cl.length := by omega
        have e1 : doS n 64 (doAll n 64 s (cl.take j)) (cl.getD j default) = doAll n 64 s (cl.take (j + 1)) := by rw [take_getCh cl hjl, doAll_snoc]
        refine O.ex (Ex.move rfl) rfl ?_
        refine O.ex (Ex.move rfl) rfl ?_
        refine O.ex (Ex.move rfl) rfl ?_
        refine O.ex (by first | exact Ex.idxIn Try.runUnderlying22 Try.sizeOf47 rfl rfl | exact Ex.idxN Try.runUnderlying22 Try.sizeOf47 rfl rfl | exact Ex.idxSN Try.runUnderlying22 Try.sizeOf47 rfl rfl | exact Ex.idx Try.runUnderlying22 Try.sizeOf47 rfl rfl (by omega) (by omega)) rfl ?_
        refine O.ex (by first | exact Ex.loadAggP Try.isAgg47 Try.sizeOf47 rfl | exact Ex.loadAggN Try.isAgg47 Try.sizeOf47 rfl | exact Ex.loadIn Try.isAgg47 Try.sizeOf47 rfl (Holds.to (by assumption))) rfl ?_
        refine O.callF Try.call28 rfl rfl (CT.mono (do_ct (c := cl.getD j default) hgj (Holds.to (by assumption))) ?_)
        rintro _ w ⟨-, H⟩
        rw [e1] at H
        refine O.nil ?_
        refine hK31 _ _ _ ?_
        refine W.region ?_
        refine O.ex (Ex.move rfl) rfl ?_
        refine O.ex (by first | exact Ex.addI rfl rfl | exact Ex.add rfl rfl rfl) rfl ?_
        refine O.ex (Ex.assign rfl) rfl ?_
        refine O.nil ?_
        exact ⟨j + 1, ⟨rfl, rfl, rfl, rfl, rfl, trivial⟩, ⟨rfl, by omega, by omega, Holds.to (by assumption)⟩, by omega⟩
      · refine W.exit ?_
        refine hK27 _ _ _ ?_
        refine W.seq (fun K32 hK32 => ?_)
        refine W.region ?_
        refine O.ex (Ex.move rfl) rfl ?_
        refine O.ex (Ex.move rfl) rfl ?_
        refine O.callF Try.call60 rfl rfl (CT.mono (whole24_ct hok.ok (Holds.to (M := Uk b 32 n 64 s (trP h) :: RB r 32 n 64 s (trD h) :: base w0 :: []) (by assumption))) ?_)
        rintro _ w ⟨rfl, H⟩
        refine O.ex (Ex.assign rfl) rfl ?_
        refine O.nil ?_
        refine hK32 _ _ _ ?_
        refine W.ret ?_
        try dsimp only [thenQ, blockQ, retQ]
        first | refine ⟨_, ⟨_, _, rfl, rfl, rfl⟩, ?_⟩ | (refine retD_mark ?_; intro w H; refine ⟨_, ⟨_, _, rfl, rfl, rfl⟩, ?_⟩) | (refine retD_mark2 ?_; intro w H; refine ⟨_, ⟨_, _, rfl, rfl, rfl⟩, ?_⟩)
        exact ⟨rfl, Holds.base_below (L := []) (Holds.to (by assumption))⟩
    · refine O.guard_f rfl rfl rfl rfl ?_
      refine O.guard_f rfl rfl rfl rfl ?_
      refine O.ex (Ex.pick_f rfl rfl) rfl ?_
      refine O.nil ?_
      refine hK30 _ _ _ ?_
      refine W.cond_f rfl ?_
      refine W.exit ?_
      refine hK27 _ _ _ ?_
      refine W.seq (fun K33 hK33 => ?_)
      refine W.region ?_
      refine O.ex (Ex.move rfl) rfl ?_
      refine O.ex (Ex.move rfl) rfl ?_
      refine O.callF Try.call60 rfl rfl (CT.mono (whole24_ct hok.ok (Holds.to (M := Uk b 32 n 64 s (trP h) :: RB r 32 n 64 s (trD h) :: base w0 :: []) (by assumption))) ?_)
      rintro _ w ⟨rfl, H⟩
      refine O.ex (Ex.assign rfl) rfl ?_
      refine O.nil ?_
      refine hK33 _ _ _ ?_
      refine W.ret ?_
      try dsimp only [thenQ, blockQ, retQ]
      first | refine ⟨_, ⟨_, _, rfl, rfl, rfl⟩, ?_⟩ | (refine retD_mark ?_; intro w H; refine ⟨_, ⟨_, _, rfl, rfl, rfl⟩, ?_⟩) | (refine retD_mark2 ?_; intro w H; refine ⟨_, ⟨_, _, rfl, rfl, rfl⟩, ?_⟩)
      exact ⟨rfl, Holds.base_below (L := []) (Holds.to (by assumption))⟩
theorem undoOwn_row {w0 : World} {q : Int} {lv cv : Value} {l : List OpM} {cl : List Chg} (hq : (Lit.int .u8 q).wf = true) (hx : SlIn w0 5 OpM.enc lv l) (hg : ∀ x ∈ l, x.ok) (hl : l.length ≤ maxLen) (hx2 : SlIn w0 6 Chg.enc cv cl) (hg2 : ∀ x ∈ cl, x.ok) (hl2 : cl.length ≤ maxLen) :
    CT Try.prog 15 [.int .u8 q, lv, cv] w0 fun x w' => x = .bool true ∧ RowKit.Below w0.heap.size w0 w' :=
  undoOwn_ct hq hx hg (by unfold maxLen at hl; omega) hx2 (by unfold maxLen at hl2; omega)
end Go.Proofs.Ytakmbbgnnbpkoaa
