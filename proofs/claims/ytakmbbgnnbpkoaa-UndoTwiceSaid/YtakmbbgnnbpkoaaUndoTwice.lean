import Derived.Test.YtakmbbgnnbpkoaaLaw24
--ARR
--INF
--DEEP
namespace Go.Proofs.Ytakmbbgnnbpkoaa
open Go.Rr Go Gr
set_option linter.unusedVariables false
set_option linter.unusedSimpArgs false
set_option maxHeartbeats 4000000 in
theorem undoTwice_ct {w0 : World} {q : Int} {lv : Value} {l : List OpM} {op : OpM} (hq : (Lit.int .u8 q).wf = true) (hx : SlIn w0 5 OpM.enc lv l) (hgk : ∀ x ∈ l, x.ok) (hl : l.length ≤ 9223372036854775807) (ho : op.ok) :
    CT Try.prog 16 [.int .u8 q, lv, op.val] w0 fun x w' => x = .bool true ∧ RowKit.Below w0.heap.size w0 w' := by
  have H := Holds.base_refl w0
  obtain ⟨q0, q1⟩ := bounds_u8 hq
  obtain ⟨n, hn⟩ : ∃ n, n = (1 : Int) + q % 24 := ⟨_, rfl⟩
  have ok0 : HOk n 64 32 noS [] := hok_none (by omega) (by omega) (by omega) (by omega) (by omega)
  refine CT.enter (N := 118) Try.func16 rfl rfl rfl rfl ?_
  refine W.seq (fun K0 hK0 => ?_)
  refine W.region ?_
  refine O.boxP rfl (fun b5 w H => ?_)
  have H : Holds w (pt b5 (.cells op.cs 91 (0, 0)) :: base w0 :: []) := H
  have ho0 : 0 ≤ op.f_W := (bounds_u64 ho.2.2.2.2).1
  refine O.ex (Ex.assign rfl) rfl ?_
  refine O.nil ?_
  refine hK0 _ _ _ ?_
  refine W.seq (fun K1 hK1 => ?_)
  refine W.seq (fun K2 hK2 => ?_)
  refine W.region ?_
  refine O.callF Try.call51 rfl rfl (CT.mono (awake24_ct (Holds.to (by assumption))) ?_)
  rintro _ w ⟨rfl, H⟩
  refine O.ex (by first | exact Ex.notD rfl | exact Ex.not rfl) rfl ?_
  refine O.nil ?_
  refine hK2 _ _ _ ?_
  refine W.known_f rfl (by first | rfl | decide | exact decide_eq_false (fun hh => hh rfl) | exact decide_eq_true rfl | exact decide_eq_true hc0) ?_
  refine W.skip ?_
  refine hK1 _ _ _ ?_
  refine W.seq (fun K3 hK3 => ?_)
  refine W.region ?_
  refine O.ex (Ex.move rfl) rfl ?_
  refine O.ex (by first | exact Ex.convToI Try.runUnderlying5 Try.runUnderlying3 rfl | exact Ex.convW Try.runUnderlying5 Try.runUnderlying3 rfl) rfl ?_
  refine O.ex (by first | exact Ex.remI rfl rfl | exact Ex.rem rfl rfl (by omega) rfl) rfl ?_
  refine O.ex (by first | exact Ex.addI rfl rfl | exact Ex.add rfl rfl rfl) rfl ?_
  refine O.ex (Ex.assign rfl) rfl ?_
  refine O.nil ?_
  refine hK3 _ _ _ ?_
  refine W.seq (fun K4 hK4 => ?_)
  refine W.region ?_
  rw [← hn]
  refine O.ex (Ex.move rfl) rfl ?_
  refine O.callF Try.call52 rfl rfl (CT.mono (unew_ct (n := n) (most := 64) (room := 32) (Holds.to (by assumption))) ?_)
  rintro _ w (⟨hno, -⟩ | ⟨hyes, b, rfl, H⟩)
  · exact absurd ⟨⟨by omega, by omega⟩, by omega⟩ hno
  refine O.ex (Ex.move rfl) rfl ?_
  refine O.ex (Ex.extract rfl rfl) rfl ?_
  refine O.ex (Ex.extract rfl rfl) rfl ?_
  refine O.ex (Ex.assign rfl) rfl ?_
  refine O.ex (Ex.assign rfl) rfl ?_
  refine O.nil ?_
  refine hK4 _ _ _ ?_
  refine W.seq (fun K5 hK5 => ?_)
  refine W.region ?_
  refine O.ex (Ex.move rfl) rfl ?_
  refine O.callF Try.call54 rfl rfl (CT.mono (new24_ct (room := 32) (by omega) (Holds.to (by assumption))) ?_)
  rintro _ w ⟨r, rfl, H⟩
  refine O.ex (Ex.assign rfl) rfl ?_
  refine O.nil ?_
  refine hK5 _ _ _ ?_
  refine W.seq (fun K6 hK6 => ?_)
  refine W.seq (fun K7 hK7 => ?_)
  refine W.region ?_
  refine O.ex (Ex.move rfl) rfl ?_
  refine O.ex (Ex.nilEq Try.runUnderlying83 rfl rfl) rfl ?_
  refine O.nil ?_
  refine hK7 _ _ _ ?_
  refine W.known_f rfl (by first | rfl | decide | exact decide_eq_false (fun hh => hh rfl) | exact decide_eq_true rfl | exact decide_eq_true hc0) ?_
  refine W.skip ?_
  refine hK6 _ _ _ ?_
  refine W.seq (fun K8 hK8 => ?_)
  refine W.seq (fun K9 hK9 => ?_)
  refine W.region ?_
  refine O.ex (Ex.assign rfl) rfl ?_
  refine O.nil ?_
  refine hK9 _ _ _ ?_
  refine W.block ?_
  have H : Holds w (Uk b 32 n 64 noS (trP []) :: RB r 32 n 64 noS (trD []) :: pt b5 (.cells op.cs 91 (0, 0)) :: base w0 :: []) := Holds.to (by assumption)
  refine W.loop (σ := Nat) (fun i => [(1, lv), (5, .pointer (some ⟨b5, 0, none⟩)), (8, .pointer (some ⟨b, 0, none⟩)), (10, .pointer (some ⟨r, 0, none⟩)), (11, .int .i64 (i : Int))]) (fun i ds w => ds = [] ∧ i ≤ l.length ∧ i ≤ 150 ∧ ∃ s h, HOk n 64 32 s h ∧ Holds w (Uk b 32 n 64 s (trP h) :: RB r 32 n 64 s (trD h) :: pt b5 (.cells op.cs 91 (0, 0)) :: base w0 :: [])) (fun i => 150 - i) 0 ⟨rfl, rfl, rfl, rfl, rfl, trivial⟩ ⟨rfl, by omega, by omega, noS, [], ok0, H⟩ ?_
  clear H
  rintro i _ w ⟨rfl, hi, hi4, s, h, hok, H⟩
  refine W.seq (fun K10 hK10 => ?_)
  refine W.seq (fun K11 hK11 => ?_)
  refine W.region ?_
  refine O.ex (Ex.move rfl) rfl ?_
  refine O.ex (Ex.move rfl) rfl ?_
  refine O.ex (by first | exact Ex.lenN Try.runUnderlying82 rfl | exact Ex.lenIn Try.runUnderlying82 rfl | exact Ex.lenL Try.runUnderlying82 rfl | exact Ex.len rfl Try.runUnderlying82 rfl) rfl ?_
  refine O.ex (Ex.lss rfl rfl) rfl ?_
  refine O.ex (Ex.move rfl) rfl ?_
  first | refine O.split_p (t := 39) rfl (fun h1 => ?_) (fun h1 => ?_) | refine O.split (t := 39) rfl (fun h1 => ?_) (fun h1 => ?_)
  · refine O.guard_t rfl rfl ?_
    refine O.ex (Ex.move rfl) rfl ?_
    refine O.guard_t rfl rfl ?_
    refine O.ex (Ex.lss rfl rfl) rfl ?_
    refine O.ex (Ex.pick_t rfl rfl) rfl ?_
    refine O.nil ?_
    refine hK11 _ _ _ ?_
    first | refine W.cond_p rfl (fun hlt => ?_) (fun hge => ?_) | refine W.cond_b rfl (fun hlt => ?_) (fun hge => ?_)
    · refine W.skip ?_
      refine hK10 _ _ _ ?_
      refine W.seq (fun K12 hK12 => ?_)
      refine W.block ?_
      refine W.seq (fun K13 hK13 => ?_)
      refine W.region ?_
      have hi0 : (0 : Int) ≤ (i : Int) := by omega
      have hi1 : (i : Int) < l.length := h1
      have hil : i < l.length := by omega
      have hil2 : ((i : Nat) : Int).toNat < l.length := by omega
      have hw0 := op_w hgk hil
      obtain ⟨s', h', et, eh, eq, cd, hy, he, hcd, hok'⟩ := do_ex hok (l.getD i default)
      refine O.ex (Ex.move rfl) rfl ?_
      refine O.ex (Ex.move rfl) rfl ?_
      refine O.ex (Ex.move rfl) rfl ?_
      refine O.ex (by first | exact Ex.idxIn Try.runUnderlying82 Try.sizeOf91 rfl rfl | exact Ex.idxN Try.runUnderlying82 Try.sizeOf91 rfl rfl | exact Ex.idxSN Try.runUnderlying82 Try.sizeOf91 rfl rfl | exact Ex.idx Try.runUnderlying82 Try.sizeOf91 rfl rfl (by omega) (by omega)) rfl ?_
      refine O.ex (by first | exact Ex.loadAggP Try.isAgg91 Try.sizeOf91 rfl | exact Ex.loadAggN Try.isAgg91 Try.sizeOf91 rfl | exact Ex.loadIn Try.isAgg91 Try.sizeOf91 rfl (Holds.to (by assumption))) rfl ?_
      refine O.callF Try.call58 rfl rfl (CT.mono (pdo_ct (op := l.getD i default) hy he hcd hok hw0 (Holds.to (M := Uk b 32 n 64 s (trP h) :: _) (by assumption))) ?_)
      rintro _ w ⟨-, H⟩
      refine O.nil ?_
      refine hK13 _ _ _ ?_
      refine W.region ?_
      refine O.ex (Ex.move rfl) rfl ?_
      refine O.ex (Ex.move rfl) rfl ?_
      refine O.ex (Ex.move rfl) rfl ?_
      refine O.ex (by first | exact Ex.idxIn Try.runUnderlying82 Try.sizeOf91 rfl rfl | exact Ex.idxN Try.runUnderlying82 Try.sizeOf91 rfl rfl | exact Ex.idxSN Try.runUnderlying82 Try.sizeOf91 rfl rfl | exact Ex.idx Try.runUnderlying82 Try.sizeOf91 rfl rfl (by omega) (by omega)) rfl ?_
      refine O.ex (by first | exact Ex.loadAggP Try.isAgg91 Try.sizeOf91 rfl | exact Ex.loadAggN Try.isAgg91 Try.sizeOf91 rfl | exact Ex.loadIn Try.isAgg91 Try.sizeOf91 rfl (Holds.to (by assumption))) rfl ?_
      refine O.callF Try.call59 rfl rfl (CT.mono (qdo_ct (op := l.getD i default) hy he hcd hok (by omega) hw0 (Holds.to (M := RB r 32 n 64 s (trD h) :: _) (by assumption))) ?_)
      rintro _ w ⟨-, H⟩
      refine O.nil ?_
      refine hK12 _ _ _ ?_
      refine W.region ?_
      refine O.ex (Ex.move rfl) rfl ?_
      refine O.ex (by first | exact Ex.addI rfl rfl | exact Ex.add rfl rfl rfl) rfl ?_
      refine O.ex (Ex.assign rfl) rfl ?_
      refine O.nil ?_
      exact ⟨i + 1, ⟨rfl, rfl, rfl, rfl, rfl, trivial⟩, ⟨rfl, by omega, by omega, s', h', hok', Holds.to (by assumption)⟩, by omega⟩
    · refine W.exit ?_
      refine hK8 _ _ _ ?_
      refine W.seq (fun K14 hK14 => ?_)
      refine W.region ?_
      obtain ⟨s', h', et, eh, eq, cd, hy, he, hcd, hok'⟩ := do_ex hok op
      refine O.ex (Ex.move rfl) rfl ?_
      refine O.ex (by first | exact Ex.loadAggP Try.isAgg91 Try.sizeOf91 rfl | exact Ex.loadAggN Try.isAgg91 Try.sizeOf91 rfl | exact Ex.loadIn Try.isAgg91 Try.sizeOf91 rfl (Holds.to (by assumption))) rfl ?_
      refine O.callF Try.call58 rfl rfl (CT.mono (pdo_ct (op := op) hy he hcd hok ho0 (Holds.to (M := Uk b 32 n 64 s (trP h) :: _) (by assumption))) ?_)
      rintro _ w ⟨rfl, H⟩
      refine O.ex (Ex.move rfl) rfl ?_
      refine O.ex (Ex.extract rfl rfl) rfl ?_
      refine O.ex (Ex.extract rfl rfl) rfl ?_
      refine O.allocP Try.zeroValue93 (fun b12 w H => ?_)
      first | refine O.storeAggP Try.sizeOf93 rfl rfl rfl rfl (fun w H => ?_) | refine O.storeAggN Try.sizeOf93 rfl rfl rfl (fun w H => ?_) rfl
      refine O.ex (Ex.assign rfl) rfl ?_
      refine O.nil ?_
      refine hK14 _ _ _ ?_
      refine W.seq (fun K15 hK15 => ?_)
      refine W.region ?_
      refine O.ex (Ex.move rfl) rfl ?_
      refine O.ex (by first | exact Ex.loadAggP Try.isAgg91 Try.sizeOf91 rfl | exact Ex.loadAggN Try.isAgg91 Try.sizeOf91 rfl | exact Ex.loadIn Try.isAgg91 Try.sizeOf91 rfl (Holds.to (by assumption))) rfl ?_
      refine O.callF Try.call59 rfl rfl (CT.mono (qdo_ct (op := op) hy he hcd hok (by omega) ho0 (Holds.to (M := RB r 32 n 64 s (trD h) :: _) (by assumption))) ?_)
      rintro _ w ⟨rfl, H⟩
      refine O.ex (Ex.move rfl) rfl ?_
      refine O.ex (Ex.extract rfl rfl) rfl ?_
      refine O.ex (Ex.extract rfl rfl) rfl ?_
      refine O.allocP Try.zeroValue96 (fun b14 w H => ?_)
      first | refine O.storeAggP Try.sizeOf96 rfl rfl rfl rfl (fun w H => ?_) | refine O.storeAggN Try.sizeOf96 rfl rfl rfl (fun w H => ?_) rfl
      refine O.ex (Ex.assign rfl) rfl ?_
      refine O.nil ?_
      refine hK15 _ _ _ ?_
      refine W.seq (fun K16 hK16 => ?_)
      refine W.seq (fun K17 hK17 => ?_)
      refine W.region ?_
      refine O.ex (Ex.move rfl) rfl ?_
      refine O.ex (Ex.move rfl) rfl ?_
      refine O.ex (Ex.neqI rfl rfl) rfl ?_
      refine O.nil ?_
      refine hK17 _ _ _ ?_
      refine W.known_f rfl (by first | rfl | decide | exact decide_eq_false (fun hh => hh rfl) | exact decide_eq_true rfl | exact decide_eq_true hc0) ?_
      refine W.skip ?_
      refine hK16 _ _ _ ?_
      refine W.seq (fun K18 hK18 => ?_)
      refine W.seq (fun K19 hK19 => ?_)
      refine W.region ?_
      refine O.ex (Ex.move rfl) rfl ?_
      refine O.ex (Ex.neqI rfl rfl) rfl ?_
      refine O.nil ?_
      refine hK19 _ _ _ ?_
      first | refine W.cond_p rfl (fun hbad => ?_) (fun hc1 => ?_) | refine W.cond_b rfl (fun hbad => ?_) (fun hc1 => ?_)
      · refine W.seq (fun K20 hK20 => ?_)
        refine W.region ?_
        have hn0 : ¬ opC n 64 s op = 0 := fun k => hbad (hcd.symm.trans k)
        obtain ⟨re, rh, rq⟩ : et = 0 ∧ eh = 0 ∧ eq = false := by
          unfold eD at he
          rw [if_neg hn0] at he
          have e1 := congrArg (fun a : Array Value => a[0]?) he
          have e2 := congrArg (fun a : Array Value => a[1]?) he
          have e3 := congrArg (fun a : Array Value => a[2]?) he
          simp at e1 e2 e3
          exact ⟨e1.symm, e2.symm, by cases eq <;> simp_all⟩
        subst re rh rq
        refine O.ex (by first | exact Ex.loadAggP Try.isAgg93 Try.sizeOf93 rfl | exact Ex.loadAggN Try.isAgg93 Try.sizeOf93 rfl | exact Ex.loadIn Try.isAgg93 Try.sizeOf93 rfl (Holds.to (by assumption))) rfl ?_
        refine O.ex (Ex.build rfl (bld93_  )) rfl ?_
        refine O.ex (Ex.eqlAgg rfl rfl Try.eqGuardType93 (eqEnds 0 0 false _)) rfl ?_
        refine O.ex (Ex.move rfl) rfl ?_
        refine O.known (t := 77) (c := true) rfl (by first | rfl | decide | exact decide_eq_false (fun hh => hh rfl) | exact decide_eq_true rfl | exact decide_eq_true hc0) ?_
        refine O.guard_t rfl rfl ?_
        refine O.ex (Ex.move rfl) rfl ?_
        refine O.guard_t rfl rfl ?_
        refine O.ex (Ex.move rfl) rfl ?_
        refine O.guard_t rfl rfl ?_
        refine O.callF Try.call60 rfl rfl (CT.mono (whole24_ct hok'.ok (Holds.to (M := Uk b 32 n 64 s' (trP h') :: RB r 32 n 64 s' (trD h') :: base w0 :: []) (by assumption))) ?_)
        rintro _ w ⟨rfl, H⟩
        refine O.ex (Ex.pick_t rfl rfl) rfl ?_
        refine O.ex (Ex.assign rfl) rfl ?_
        refine O.nil ?_
        refine hK20 _ _ _ ?_
        refine W.ret ?_
        try dsimp only [thenQ, blockQ, retQ]
        first | refine ⟨_, ⟨_, _, rfl, rfl, rfl⟩, ?_⟩ | (refine retD_mark ?_; intro w H; refine ⟨_, ⟨_, _, rfl, rfl, rfl⟩, ?_⟩) | (refine retD_mark2 ?_; intro w H; refine ⟨_, ⟨_, _, rfl, rfl, rfl⟩, ?_⟩)
        exact ⟨rfl, Holds.base_below (L := []) (Holds.to (by assumption))⟩
      · refine W.skip ?_
        refine hK18 _ _ _ ?_
        refine W.seq (fun K21 hK21 => ?_)
        refine W.region ?_
        have hc0 : cd = 0 := Decidable.not_not.1 hc1
        have hz : opC n 64 s op = 0 := hcd.trans hc0
        obtain ⟨hh, eh'⟩ : ∃ hh, h' = hh ++ [(op, s)] := by
          unfold hDo at hy
          rw [if_pos hz] at hy
          exact ⟨_, (congrArg Prod.snd hy).symm⟩
        have es' : s' = opS n 64 s op := by
          unfold hDo at hy
          rw [if_pos hz] at hy
          exact (congrArg Prod.fst hy).symm
        rw [eh'] at hok' H
        have e3 : ecs s' s (wasA s op) = #[.int .i64 et, .int .i64 eh, .bool eq] := by
          rw [← he]; unfold eD; rw [if_pos hz, es']; unfold ecs; rw [tnd_comm]
        have hok2 := (hok_un hok').1
        refine O.ex (Ex.move rfl) rfl ?_
        refine O.callF Try.call55 rfl rfl (CT.mono (pun_ct hok' (Holds.to (M := Uk b 32 n 64 s' (trP (hh ++ [(op, s)])) :: _) (by assumption))) ?_)
        rintro _ w ⟨rfl, H⟩
        dsimp only at H ⊢
        rw [e3]
        obtain ⟨s2, h2, et2, eh2, eq2, cd2, hy2, he2, hcd2, hok3⟩ := do_ex hok2 op
        obtain rfl : s2 = s' := by
          have := congrArg Prod.fst hy2
          have h2 : (hDo n 64 32 (s, hh) op).1 = s' := by rw [hDo_1, es']
          exact this.symm.trans h2
        refine O.ex (Ex.move rfl) rfl ?_
        refine O.ex (Ex.extract rfl rfl) rfl ?_
        refine O.ex (Ex.extract rfl rfl) rfl ?_
        refine O.allocP Try.zeroValue93 (fun b16 w H => ?_)
        first | refine O.storeAggP Try.sizeOf93 rfl rfl rfl rfl (fun w H => ?_) | refine O.storeAggN Try.sizeOf93 rfl rfl rfl (fun w H => ?_) rfl
        refine O.ex (Ex.assign rfl) rfl ?_
        refine O.nil ?_
        refine hK21 _ _ _ ?_
        refine W.seq (fun K22 hK22 => ?_)
        refine W.region ?_
        refine O.ex (Ex.move rfl) rfl ?_
        refine O.ex (by first | exact Ex.loadAggP Try.isAgg91 Try.sizeOf91 rfl | exact Ex.loadAggN Try.isAgg91 Try.sizeOf91 rfl | exact Ex.loadIn Try.isAgg91 Try.sizeOf91 rfl (Holds.to (by assumption))) rfl ?_
        refine O.callF Try.call58 rfl rfl (CT.mono (pdo_ct (op := op) hy2 he hcd hok2 ho0 (Holds.to (M := Uk b 32 n 64 s (trP hh) :: _) (by assumption))) ?_)
        rintro _ w ⟨rfl, H⟩
        obtain ⟨g, v1, v2, H0⟩ := rb_open.1 (Holds.to (M := RB r 32 n 64 s2 (trD (hh ++ [(op, s)])) :: Uk b 32 n 64 s2 (trP h2) :: pt b12 (.cells #[.int .i64 et, .int .i64 eh, .bool eq] 93 (0, 0)) :: pt b16 (.cells #[.int .i64 et, .int .i64 eh, .bool eq] 93 (0, 0)) :: pt b5 (.cells op.cs 91 (0, 0)) :: base w0 :: []) (by assumption))
        replace H := rbo_open.1 H0
        refine O.ex (Ex.move rfl) rfl ?_
        refine O.ex (Ex.extract rfl rfl) rfl ?_
        refine O.ex (Ex.extract rfl rfl) rfl ?_
        refine O.allocP Try.zeroValue93 (fun b18 w H => ?_)
        first | refine O.storeAggP Try.sizeOf93 rfl rfl rfl rfl (fun w H => ?_) | refine O.storeAggN Try.sizeOf93 rfl rfl rfl (fun w H => ?_) rfl
        refine O.ex (Ex.assign rfl) rfl ?_
        refine O.nil ?_
        refine hK22 _ _ _ ?_
        refine W.seq (fun K23 hK23 => ?_)
        refine W.drawTo (pt r (.cells (rbc g 32 v1 v2) 107 (0, 0)) :: pt b12 (.cells #[.int .i64 et, .int .i64 eh, .bool eq] 93 (0, 0)) :: pt b16 (.cells #[.int .i64 et, .int .i64 eh, .bool eq] 93 (0, 0)) :: pt b18 (.cells #[.int .i64 et, .int .i64 eh, .bool eq] 93 (0, 0)) :: []) (.take 0 (.take 1 (.take 2 (.take 3 (.take 4 (.take 5 (.take 6 (.take 7 (.take 8 (.take 9 (.take 10 (.take 11 (.take 12 (.take 13 (.take 14 (.take 15 (.take 16 (.take 17 (.take 19 (.take 20 (.take 21 (.take 22 (.one 18 (.one 23 (.take 24 (.take 25 .nil)))))))))))))))))))))))))) (mixed) (fun _ _ _ _ h => h) (by assumption) PP.auto (by decide +kernel) (fun w H => ?_)
        refine OQ.ex rfl (fun w H => (Ex.move rfl)) rfl ?_
        refine OQ.ex rfl (fun w H => (Ex.eqlI rfl rfl)) rfl ?_
        refine OQ.ex rfl (fun w H => (Ex.move rfl)) rfl ?_
        refine OQ.known (t := 95) (c := true) rfl (by first | rfl | decide | exact decide_eq_false (fun hh => hh rfl) | exact decide_eq_true rfl | exact decide_eq_true hc0) ?_
        refine OQ.exT rfl rfl rfl (fun w H => (Ex.move rfl)) rfl ?_
        refine OQ.exT rfl rfl rfl (fun w H => (Ex.eqlI rfl rfl)) rfl ?_
        refine OQ.ex rfl (fun w H => (Ex.pick_t rfl rfl)) rfl ?_
        refine OQ.ex rfl (fun w H => (Ex.move rfl)) rfl ?_
        refine OQ.known (t := 99) (c := true) rfl (by first | rfl | decide | exact decide_eq_false (fun hh => hh rfl) | exact decide_eq_true rfl | exact decide_eq_true hc0) ?_
        refine OQ.exT rfl rfl rfl (fun w H => (by first | exact Ex.loadAggP Try.isAgg93 Try.sizeOf93 rfl | exact Ex.loadAggN Try.isAgg93 Try.sizeOf93 rfl | exact Ex.loadIn Try.isAgg93 Try.sizeOf93 rfl (Holds.to (by assumption)))) rfl ?_
        refine OQ.exT rfl rfl rfl (fun w H => (by first | exact Ex.loadAggP Try.isAgg93 Try.sizeOf93 rfl | exact Ex.loadAggN Try.isAgg93 Try.sizeOf93 rfl | exact Ex.loadIn Try.isAgg93 Try.sizeOf93 rfl (Holds.to (by assumption)))) rfl ?_
        refine OQ.exT rfl rfl rfl (fun w H => (Ex.eqlAgg rfl rfl Try.eqGuardType93 (eqEnds et eh eq _))) rfl ?_
        refine OQ.ex rfl (fun w H => (Ex.pick_t rfl rfl)) rfl ?_
        refine OQ.ex rfl (fun w H => (Ex.move rfl)) rfl ?_
        refine OQ.known (t := 104) (c := true) rfl (by first | rfl | decide | exact decide_eq_false (fun hh => hh rfl) | exact decide_eq_true rfl | exact decide_eq_true hc0) ?_
        refine OQ.exT rfl rfl rfl (fun w H => (by first | exact Ex.loadAggP Try.isAgg93 Try.sizeOf93 rfl | exact Ex.loadAggN Try.isAgg93 Try.sizeOf93 rfl | exact Ex.loadIn Try.isAgg93 Try.sizeOf93 rfl (Holds.to (by assumption)))) rfl ?_
        refine OQ.exT rfl rfl rfl (fun w H => (by first | exact Ex.loadAggP Try.isAgg93 Try.sizeOf93 rfl | exact Ex.loadAggN Try.isAgg93 Try.sizeOf93 rfl | exact Ex.loadIn Try.isAgg93 Try.sizeOf93 rfl (Holds.to (by assumption)))) rfl ?_
        refine OQ.exT rfl rfl rfl (fun w H => (Ex.eqlAgg rfl rfl Try.eqGuardType93 (eqEnds et eh eq _))) rfl ?_
        refine OQ.ex rfl (fun w H => (Ex.pick_t rfl rfl)) rfl ?_
        refine OQ.ex rfl (fun w H => (Ex.move rfl)) rfl ?_
        refine OQ.known (t := 109) (c := true) rfl (by first | rfl | decide | exact decide_eq_false (fun hh => hh rfl) | exact decide_eq_true rfl | exact decide_eq_true hc0) ?_
        refine OQ.exT rfl rfl rfl (fun w H => (Ex.move rfl)) rfl ?_
        refine OQ.exT rfl rfl rfl (fun w H => (Ex.move rfl)) rfl ?_
        refine OQ.exT rfl rfl rfl (fun w H => (by first | exact Ex.nilPtr rfl | exact Ex.nilFunc rfl | exact Ex.nilYield rfl)) rfl ?_
        refine OQ.exT rfl rfl rfl (fun w H => (by first | exact Ex.field0 fld107_0 rfl | exact Ex.field fld107_0 rfl | exact Ex.fieldS fld107_0 rfl | exact Ex.fieldIn fld107_0 rfl)) rfl ?_
        refine OQ.exT rfl rfl rfl (fun w H => (by first | exact Ex.loadMh Try.isAgg25 rfl | exact Ex.loadInF Try.isAgg25 rfl (Holds.to (by assumption)) | exact Ex.loadP Try.isAgg25 rfl | exact Ex.loadM Try.isAgg25 rfl | exact Ex.loadIn1 Try.isAgg25 rfl (Holds.to (by assumption)) | exact Ex.loadVc Try.isAgg25 rfl | exact Ex.loadR Try.isAgg25 rfl | exact Ex.loadQ Try.isAgg25 rfl)) rfl ?_
        refine OQ.step rfl ?_
        refine O.guard_t rfl rfl ?_
        refine O.callF Try.call62 rfl rfl (CT.mono (ugraph_ct hok3.ok (Holds.to (M := Uk b 32 n 64 s2 (trP h2) :: _) (by assumption))) ?_)
        rintro _ w ⟨c, rfl, H⟩
        refine O.thenNil ⟨(by first | exact Holds.to (by assumption) | assumption), ?_⟩
        refine OQ.step rfl ?_
        refine O.guard_t rfl rfl ?_
        refine O.callF Try.call61 rfl rfl (CT.mono (equal24_ct (g := g) hok3.ok (Holds.to (by assumption))) ?_)
        rintro _ w ⟨rfl, H⟩
        refine O.thenNil ⟨(by first | exact Holds.to (by assumption) | assumption), ?_⟩
        refine OQ.ex rfl (fun w H => (Ex.pick_t rfl rfl)) rfl ?_
        refine OQ.ex rfl (fun w H => (Ex.assign rfl)) rfl ?_
        refine OQ.done ?_
        refine hK23 _ _ _ ?_
        refine W.ret ?_
        try dsimp only [thenQ, blockQ, retQ]
        first | refine ⟨_, ⟨_, _, rfl, rfl, rfl⟩, ?_⟩ | (refine retD_mark ?_; intro w H; refine ⟨_, ⟨_, _, rfl, rfl, rfl⟩, ?_⟩) | (refine retD_mark2 ?_; intro w H; refine ⟨_, ⟨_, _, rfl, rfl, rfl⟩, ?_⟩)
        exact ⟨rfl, Holds.base_below (L := []) (Holds.to (by assumption))⟩
  · refine O.guard_f rfl rfl rfl rfl ?_
    refine O.guard_f rfl rfl rfl rfl ?_
    refine O.ex (Ex.pick_f rfl rfl) rfl ?_
    refine O.nil ?_
    refine hK11 _ _ _ ?_
    refine W.cond_f rfl ?_
    refine W.exit ?_
    refine hK8 _ _ _ ?_
    refine W.seq (fun K24 hK24 => ?_)
    refine W.region ?_
    obtain ⟨s', h', et, eh, eq, cd, hy, he, hcd, hok'⟩ := do_ex hok op
    refine O.ex (Ex.move rfl) rfl ?_
    refine O.ex (by first | exact Ex.loadAggP Try.isAgg91 Try.sizeOf91 rfl | exact Ex.loadAggN Try.isAgg91 Try.sizeOf91 rfl | exact Ex.loadIn Try.isAgg91 Try.sizeOf91 rfl (Holds.to (by assumption))) rfl ?_
    refine O.callF Try.call58 rfl rfl (CT.mono (pdo_ct (op := op) hy he hcd hok ho0 (Holds.to (M := Uk b 32 n 64 s (trP h) :: _) (by assumption))) ?_)
    rintro _ w ⟨rfl, H⟩
    refine O.ex (Ex.move rfl) rfl ?_
    refine O.ex (Ex.extract rfl rfl) rfl ?_
    refine O.ex (Ex.extract rfl rfl) rfl ?_
    refine O.allocP Try.zeroValue93 (fun b12 w H => ?_)
    first | refine O.storeAggP Try.sizeOf93 rfl rfl rfl rfl (fun w H => ?_) | refine O.storeAggN Try.sizeOf93 rfl rfl rfl (fun w H => ?_) rfl
    refine O.ex (Ex.assign rfl) rfl ?_
    refine O.nil ?_
    refine hK24 _ _ _ ?_
    refine W.seq (fun K25 hK25 => ?_)
    refine W.region ?_
    refine O.ex (Ex.move rfl) rfl ?_
    refine O.ex (by first | exact Ex.loadAggP Try.isAgg91 Try.sizeOf91 rfl | exact Ex.loadAggN Try.isAgg91 Try.sizeOf91 rfl | exact Ex.loadIn Try.isAgg91 Try.sizeOf91 rfl (Holds.to (by assumption))) rfl ?_
    refine O.callF Try.call59 rfl rfl (CT.mono (qdo_ct (op := op) hy he hcd hok (by omega) ho0 (Holds.to (M := RB r 32 n 64 s (trD h) :: _) (by assumption))) ?_)
    rintro _ w ⟨rfl, H⟩
    refine O.ex (Ex.move rfl) rfl ?_
    refine O.ex (Ex.extract rfl rfl) rfl ?_
    refine O.ex (Ex.extract rfl rfl) rfl ?_
    refine O.allocP Try.zeroValue96 (fun b14 w H => ?_)
    first | refine O.storeAggP Try.sizeOf96 rfl rfl rfl rfl (fun w H => ?_) | refine O.storeAggN Try.sizeOf96 rfl rfl rfl (fun w H => ?_) rfl
    refine O.ex (Ex.assign rfl) rfl ?_
    refine O.nil ?_
    refine hK25 _ _ _ ?_
    refine W.seq (fun K26 hK26 => ?_)
    refine W.seq (fun K27 hK27 => ?_)
    refine W.region ?_
    refine O.ex (Ex.move rfl) rfl ?_
    refine O.ex (Ex.move rfl) rfl ?_
    refine O.ex (Ex.neqI rfl rfl) rfl ?_
    refine O.nil ?_
    refine hK27 _ _ _ ?_
    refine W.known_f rfl (by first | rfl | decide | exact decide_eq_false (fun hh => hh rfl) | exact decide_eq_true rfl | exact decide_eq_true hc0) ?_
    refine W.skip ?_
    refine hK26 _ _ _ ?_
    refine W.seq (fun K28 hK28 => ?_)
    refine W.seq (fun K29 hK29 => ?_)
    refine W.region ?_
    refine O.ex (Ex.move rfl) rfl ?_
    refine O.ex (Ex.neqI rfl rfl) rfl ?_
    refine O.nil ?_
    refine hK29 _ _ _ ?_
    first | refine W.cond_p rfl (fun hbad => ?_) (fun hc1 => ?_) | refine W.cond_b rfl (fun hbad => ?_) (fun hc1 => ?_)
    · refine W.seq (fun K30 hK30 => ?_)
      refine W.region ?_
      have hn0 : ¬ opC n 64 s op = 0 := fun k => hbad (hcd.symm.trans k)
      obtain ⟨re, rh, rq⟩ : et = 0 ∧ eh = 0 ∧ eq = false := by
        unfold eD at he
        rw [if_neg hn0] at he
        have e1 := congrArg (fun a : Array Value => a[0]?) he
        have e2 := congrArg (fun a : Array Value => a[1]?) he
        have e3 := congrArg (fun a : Array Value => a[2]?) he
        simp at e1 e2 e3
        exact ⟨e1.symm, e2.symm, by cases eq <;> simp_all⟩
      subst re rh rq
      refine O.ex (by first | exact Ex.loadAggP Try.isAgg93 Try.sizeOf93 rfl | exact Ex.loadAggN Try.isAgg93 Try.sizeOf93 rfl | exact Ex.loadIn Try.isAgg93 Try.sizeOf93 rfl (Holds.to (by assumption))) rfl ?_
      refine O.ex (Ex.build rfl (bld93_  )) rfl ?_
      refine O.ex (Ex.eqlAgg rfl rfl Try.eqGuardType93 (eqEnds 0 0 false _)) rfl ?_
      refine O.ex (Ex.move rfl) rfl ?_
      refine O.known (t := 77) (c := true) rfl (by first | rfl | decide | exact decide_eq_false (fun hh => hh rfl) | exact decide_eq_true rfl | exact decide_eq_true hc0) ?_
      refine O.guard_t rfl rfl ?_
      refine O.ex (Ex.move rfl) rfl ?_
      refine O.guard_t rfl rfl ?_
      refine O.ex (Ex.move rfl) rfl ?_
      refine O.guard_t rfl rfl ?_
      refine O.callF Try.call60 rfl rfl (CT.mono (whole24_ct hok'.ok (Holds.to (M := Uk b 32 n 64 s' (trP h') :: RB r 32 n 64 s' (trD h') :: base w0 :: []) (by assumption))) ?_)
      rintro _ w ⟨rfl, H⟩
      refine O.ex (Ex.pick_t rfl rfl) rfl ?_
      refine O.ex (Ex.assign rfl) rfl ?_
      refine O.nil ?_
      refine hK30 _ _ _ ?_
      refine W.ret ?_
      try dsimp only [thenQ, blockQ, retQ]
      first | refine ⟨_, ⟨_, _, rfl, rfl, rfl⟩, ?_⟩ | (refine retD_mark ?_; intro w H; refine ⟨_, ⟨_, _, rfl, rfl, rfl⟩, ?_⟩) | (refine retD_mark2 ?_; intro w H; refine ⟨_, ⟨_, _, rfl, rfl, rfl⟩, ?_⟩)
      exact ⟨rfl, Holds.base_below (L := []) (Holds.to (by assumption))⟩
    · refine W.skip ?_
      refine hK28 _ _ _ ?_
      refine W.seq (fun K31 hK31 => ?_)
      refine W.region ?_
      have hc0 : cd = 0 := Decidable.not_not.1 hc1
      have hz : opC n 64 s op = 0 := hcd.trans hc0
      obtain ⟨hh, eh'⟩ : ∃ hh, h' = hh ++ [(op, s)] := by
        unfold hDo at hy
        rw [if_pos hz] at hy
        exact ⟨_, (congrArg Prod.snd hy).symm⟩
      have es' : s' = opS n 64 s op := by
        unfold hDo at hy
        rw [if_pos hz] at hy
        exact (congrArg Prod.fst hy).symm
      rw [eh'] at hok' H
      have e3 : ecs s' s (wasA s op) = #[.int .i64 et, .int .i64 eh, .bool eq] := by
        rw [← he]; unfold eD; rw [if_pos hz, es']; unfold ecs; rw [tnd_comm]
      have hok2 := (hok_un hok').1
      refine O.ex (Ex.move rfl) rfl ?_
      refine O.callF Try.call55 rfl rfl (CT.mono (pun_ct hok' (Holds.to (M := Uk b 32 n 64 s' (trP (hh ++ [(op, s)])) :: _) (by assumption))) ?_)
      rintro _ w ⟨rfl, H⟩
      dsimp only at H ⊢
      rw [e3]
      obtain ⟨s2, h2, et2, eh2, eq2, cd2, hy2, he2, hcd2, hok3⟩ := do_ex hok2 op
      obtain rfl : s2 = s' := by
        have := congrArg Prod.fst hy2
        have h2 : (hDo n 64 32 (s, hh) op).1 = s' := by rw [hDo_1, es']
        exact this.symm.trans h2
      refine O.ex (Ex.move rfl) rfl ?_
      refine O.ex (Ex.extract rfl rfl) rfl ?_
      refine O.ex (Ex.extract rfl rfl) rfl ?_
      refine O.allocP Try.zeroValue93 (fun b16 w H => ?_)
      first | refine O.storeAggP Try.sizeOf93 rfl rfl rfl rfl (fun w H => ?_) | refine O.storeAggN Try.sizeOf93 rfl rfl rfl (fun w H => ?_) rfl
      refine O.ex (Ex.assign rfl) rfl ?_
      refine O.nil ?_
      refine hK31 _ _ _ ?_
      refine W.seq (fun K32 hK32 => ?_)
      refine W.region ?_
      refine O.ex (Ex.move rfl) rfl ?_
      refine O.ex (by first | exact Ex.loadAggP Try.isAgg91 Try.sizeOf91 rfl | exact Ex.loadAggN Try.isAgg91 Try.sizeOf91 rfl | exact Ex.loadIn Try.isAgg91 Try.sizeOf91 rfl (Holds.to (by assumption))) rfl ?_
      refine O.callF Try.call58 rfl rfl (CT.mono (pdo_ct (op := op) hy2 he hcd hok2 ho0 (Holds.to (M := Uk b 32 n 64 s (trP hh) :: _) (by assumption))) ?_)
      rintro _ w ⟨rfl, H⟩
      obtain ⟨g, v1, v2, H0⟩ := rb_open.1 (Holds.to (M := RB r 32 n 64 s2 (trD (hh ++ [(op, s)])) :: Uk b 32 n 64 s2 (trP h2) :: pt b12 (.cells #[.int .i64 et, .int .i64 eh, .bool eq] 93 (0, 0)) :: pt b16 (.cells #[.int .i64 et, .int .i64 eh, .bool eq] 93 (0, 0)) :: pt b5 (.cells op.cs 91 (0, 0)) :: base w0 :: []) (by assumption))
      replace H := rbo_open.1 H0
      refine O.ex (Ex.move rfl) rfl ?_
      refine O.ex (Ex.extract rfl rfl) rfl ?_
      refine O.ex (Ex.extract rfl rfl) rfl ?_
      refine O.allocP Try.zeroValue93 (fun b18 w H => ?_)
      first | refine O.storeAggP Try.sizeOf93 rfl rfl rfl rfl (fun w H => ?_) | refine O.storeAggN Try.sizeOf93 rfl rfl rfl (fun w H => ?_) rfl
      refine O.ex (Ex.assign rfl) rfl ?_
      refine O.nil ?_
      refine hK32 _ _ _ ?_
      refine W.seq (fun K33 hK33 => ?_)
      refine W.drawTo (pt r (.cells (rbc g 32 v1 v2) 107 (0, 0)) :: pt b12 (.cells #[.int .i64 et, .int .i64 eh, .bool eq] 93 (0, 0)) :: pt b16 (.cells #[.int .i64 et, .int .i64 eh, .bool eq] 93 (0, 0)) :: pt b18 (.cells #[.int .i64 et, .int .i64 eh, .bool eq] 93 (0, 0)) :: []) (.take 0 (.take 1 (.take 2 (.take 3 (.take 4 (.take 5 (.take 6 (.take 7 (.take 8 (.take 9 (.take 10 (.take 11 (.take 12 (.take 13 (.take 14 (.take 15 (.take 16 (.take 17 (.take 19 (.take 20 (.take 21 (.take 22 (.one 18 (.one 23 (.take 24 (.take 25 .nil)))))))))))))))))))))))))) (mixed) (fun _ _ _ _ h => h) (by assumption) PP.auto (by decide +kernel) (fun w H => ?_)
      refine OQ.ex rfl (fun w H => (Ex.move rfl)) rfl ?_
      refine OQ.ex rfl (fun w H => (Ex.eqlI rfl rfl)) rfl ?_
      refine OQ.ex rfl (fun w H => (Ex.move rfl)) rfl ?_
      refine OQ.known (t := 95) (c := true) rfl (by first | rfl | decide | exact decide_eq_false (fun hh => hh rfl) | exact decide_eq_true rfl | exact decide_eq_true hc0) ?_
      refine OQ.exT rfl rfl rfl (fun w H => (Ex.move rfl)) rfl ?_
      refine OQ.exT rfl rfl rfl (fun w H => (Ex.eqlI rfl rfl)) rfl ?_
      refine OQ.ex rfl (fun w H => (Ex.pick_t rfl rfl)) rfl ?_
      refine OQ.ex rfl (fun w H => (Ex.move rfl)) rfl ?_
      refine OQ.known (t := 99) (c := true) rfl (by first | rfl | decide | exact decide_eq_false (fun hh => hh rfl) | exact decide_eq_true rfl | exact decide_eq_true hc0) ?_
      refine OQ.exT rfl rfl rfl (fun w H => (by first | exact Ex.loadAggP Try.isAgg93 Try.sizeOf93 rfl | exact Ex.loadAggN Try.isAgg93 Try.sizeOf93 rfl | exact Ex.loadIn Try.isAgg93 Try.sizeOf93 rfl (Holds.to (by assumption)))) rfl ?_
      refine OQ.exT rfl rfl rfl (fun w H => (by first | exact Ex.loadAggP Try.isAgg93 Try.sizeOf93 rfl | exact Ex.loadAggN Try.isAgg93 Try.sizeOf93 rfl | exact Ex.loadIn Try.isAgg93 Try.sizeOf93 rfl (Holds.to (by assumption)))) rfl ?_
      refine OQ.exT rfl rfl rfl (fun w H => (Ex.eqlAgg rfl rfl Try.eqGuardType93 (eqEnds et eh eq _))) rfl ?_
      refine OQ.ex rfl (fun w H => (Ex.pick_t rfl rfl)) rfl ?_
      refine OQ.ex rfl (fun w H => (Ex.move rfl)) rfl ?_
      refine OQ.known (t := 104) (c := true) rfl (by first | rfl | decide | exact decide_eq_false (fun hh => hh rfl) | exact decide_eq_true rfl | exact decide_eq_true hc0) ?_
      refine OQ.exT rfl rfl rfl (fun w H => (by first | exact Ex.loadAggP Try.isAgg93 Try.sizeOf93 rfl | exact Ex.loadAggN Try.isAgg93 Try.sizeOf93 rfl | exact Ex.loadIn Try.isAgg93 Try.sizeOf93 rfl (Holds.to (by assumption)))) rfl ?_
      refine OQ.exT rfl rfl rfl (fun w H => (by first | exact Ex.loadAggP Try.isAgg93 Try.sizeOf93 rfl | exact Ex.loadAggN Try.isAgg93 Try.sizeOf93 rfl | exact Ex.loadIn Try.isAgg93 Try.sizeOf93 rfl (Holds.to (by assumption)))) rfl ?_
      refine OQ.exT rfl rfl rfl (fun w H => (Ex.eqlAgg rfl rfl Try.eqGuardType93 (eqEnds et eh eq _))) rfl ?_
      refine OQ.ex rfl (fun w H => (Ex.pick_t rfl rfl)) rfl ?_
      refine OQ.ex rfl (fun w H => (Ex.move rfl)) rfl ?_
      refine OQ.known (t := 109) (c := true) rfl (by first | rfl | decide | exact decide_eq_false (fun hh => hh rfl) | exact decide_eq_true rfl | exact decide_eq_true hc0) ?_
      refine OQ.exT rfl rfl rfl (fun w H => (Ex.move rfl)) rfl ?_
      refine OQ.exT rfl rfl rfl (fun w H => (Ex.move rfl)) rfl ?_
      refine OQ.exT rfl rfl rfl (fun w H => (by first | exact Ex.nilPtr rfl | exact Ex.nilFunc rfl | exact Ex.nilYield rfl)) rfl ?_
      refine OQ.exT rfl rfl rfl (fun w H => (by first | exact Ex.field0 fld107_0 rfl | exact Ex.field fld107_0 rfl | exact Ex.fieldS fld107_0 rfl | exact Ex.fieldIn fld107_0 rfl)) rfl ?_
      refine OQ.exT rfl rfl rfl (fun w H => (by first | exact Ex.loadMh Try.isAgg25 rfl | exact Ex.loadInF Try.isAgg25 rfl (Holds.to (by assumption)) | exact Ex.loadP Try.isAgg25 rfl | exact Ex.loadM Try.isAgg25 rfl | exact Ex.loadIn1 Try.isAgg25 rfl (Holds.to (by assumption)) | exact Ex.loadVc Try.isAgg25 rfl | exact Ex.loadR Try.isAgg25 rfl | exact Ex.loadQ Try.isAgg25 rfl)) rfl ?_
      refine OQ.step rfl ?_
      refine O.guard_t rfl rfl ?_
      refine O.callF Try.call62 rfl rfl (CT.mono (ugraph_ct hok3.ok (Holds.to (M := Uk b 32 n 64 s2 (trP h2) :: _) (by assumption))) ?_)
      rintro _ w ⟨c, rfl, H⟩
      refine O.thenNil ⟨(by first | exact Holds.to (by assumption) | assumption), ?_⟩
      refine OQ.step rfl ?_
      refine O.guard_t rfl rfl ?_
      refine O.callF Try.call61 rfl rfl (CT.mono (equal24_ct (g := g) hok3.ok (Holds.to (by assumption))) ?_)
      rintro _ w ⟨rfl, H⟩
      refine O.thenNil ⟨(by first | exact Holds.to (by assumption) | assumption), ?_⟩
      refine OQ.ex rfl (fun w H => (Ex.pick_t rfl rfl)) rfl ?_
      refine OQ.ex rfl (fun w H => (Ex.assign rfl)) rfl ?_
      refine OQ.done ?_
      refine hK33 _ _ _ ?_
      refine W.ret ?_
      try dsimp only [thenQ, blockQ, retQ]
      first | refine ⟨_, ⟨_, _, rfl, rfl, rfl⟩, ?_⟩ | (refine retD_mark ?_; intro w H; refine ⟨_, ⟨_, _, rfl, rfl, rfl⟩, ?_⟩) | (refine retD_mark2 ?_; intro w H; refine ⟨_, ⟨_, _, rfl, rfl, rfl⟩, ?_⟩)
      exact ⟨rfl, Holds.base_below (L := []) (Holds.to (by assumption))⟩
theorem undoTwice_row {w0 : World} {q : Int} {lv : Value} {l : List OpM} {op : OpM} (hq : (Lit.int .u8 q).wf = true) (hx : SlIn w0 5 OpM.enc lv l) (hg : ∀ x ∈ l, x.ok) (hl : l.length ≤ maxLen) (ho : op.ok) :
    CT Try.prog 16 [.int .u8 q, lv, .agg op.enc.toArray] w0 fun x w' => x = .bool true ∧ RowKit.Below w0.heap.size w0 w' :=
  undoTwice_ct hq hx hg (by unfold maxLen at hl; omega) ho
end Go.Proofs.Ytakmbbgnnbpkoaa
