import Derived.Test.YtakmbbgnnbpkoaaLaw24
--ARR
--INF
--DEEP
namespace Go.Proofs.Ytakmbbgnnbpkoaa
open Go.Rr Go Gr
set_option linter.unusedVariables false
set_option linter.unusedSimpArgs false
set_option maxHeartbeats 4000000 in
theorem undoBack_ct {w0 : World} {q : Int} {lv lv2 : Value} {l l2 : List OpM} (hq : (Lit.int .u8 q).wf = true) (hx : SlIn w0 5 OpM.enc lv l) (hgk : ∀ x ∈ l, x.ok) (hl : l.length ≤ 9223372036854775807) (hx2 : SlIn w0 5 OpM.enc lv2 l2) (hgk2 : ∀ x ∈ l2, x.ok) (hl2 : l2.length ≤ 9223372036854775807) :
    CT Try.prog 14 [.int .u8 q, lv, lv2] w0 fun x w' => x = .bool true ∧ RowKit.Below w0.heap.size w0 w' := by
  have H := Holds.base_refl w0
  obtain ⟨q0, q1⟩ := bounds_u8 hq
  obtain ⟨n, hn⟩ : ∃ n, n = (1 : Int) + q % 24 := ⟨_, rfl⟩
  have ok0 : HOk n 64 32 noS [] := hok_none (by omega) (by omega) (by omega) (by omega) (by omega)
  refine CT.enter (N := 103) Try.func14 rfl rfl rfl rfl ?_
  refine W.seq (fun K0 hK0 => ?_)
  refine W.region ?_
  refine O.ex (Ex.assign rfl) rfl ?_
  refine O.nil ?_
  refine hK0 _ _ _ ?_
  refine W.seq (fun K1 hK1 => ?_)
  refine W.seq (fun K2 hK2 => ?_)
  refine W.region ?_
  refine O.callF Try.call51 rfl rfl (CT.mono (awake24_ct (Holds.to (by assumption))) ?_)
  rintro _ w ⟨rfl, H⟩
  refine O.ex (by first | exact Ex.notD rfl | exact Ex.not rfl) rfl ?_
  refine O.nil ?_
  refine hK2 _ _ _ ?_
  refine W.known_f rfl (by first | rfl | decide | exact decide_eq_false (fun hh => hh rfl)) ?_
  refine W.skip ?_
  refine hK1 _ _ _ ?_
  refine W.seq (fun K3 hK3 => ?_)
  refine W.region ?_
  refine O.ex (Ex.move rfl) rfl ?_
  refine O.ex (by first | exact Ex.convToI Try.runUnderlying5 Try.runUnderlying3 rfl | exact Ex.convW Try.runUnderlying5 Try.runUnderlying3 rfl) rfl ?_
  refine O.ex (by first | exact Ex.remI rfl rfl | exact Ex.rem rfl rfl (by omega) rfl) rfl ?_
  refine O.ex (by first | exact Ex.addI rfl rfl | exact Ex.add rfl rfl rfl) rfl ?_
  refine O.ex (Ex.assign rfl) rfl ?_
  refine O.nil ?_
  refine hK3 _ _ _ ?_
  refine W.seq (fun K4 hK4 => ?_)
  refine W.region ?_
  rw [← hn]
  refine O.ex (Ex.move rfl) rfl ?_
  refine O.callF Try.call52 rfl rfl (CT.mono (unew_ct (n := n) (most := 64) (room := 32) (Holds.to (by assumption))) ?_)
  rintro _ w (⟨hno, -⟩ | ⟨hyes, b, rfl, H⟩)
  · exact absurd ⟨⟨by omega, by omega⟩, by omega⟩ hno
  refine O.ex (Ex.move rfl) rfl ?_
  refine O.ex (Ex.extract rfl rfl) rfl ?_
  refine O.ex (Ex.extract rfl rfl) rfl ?_
  refine O.ex (Ex.assign rfl) rfl ?_
  refine O.ex (Ex.assign rfl) rfl ?_
  refine O.nil ?_
  refine hK4 _ _ _ ?_
  refine W.seq (fun K5 hK5 => ?_)
  refine W.region ?_
  refine O.ex (Ex.move rfl) rfl ?_
  refine O.callF Try.call54 rfl rfl (CT.mono (new24_ct (room := 32) (by omega) (Holds.to (by assumption))) ?_)
  rintro _ w ⟨r, rfl, H⟩
  refine O.ex (Ex.assign rfl) rfl ?_
  refine O.nil ?_
  refine hK5 _ _ _ ?_
  refine W.seq (fun K6 hK6 => ?_)
  refine W.seq (fun K7 hK7 => ?_)
  refine W.region ?_
  refine O.ex (Ex.move rfl) rfl ?_
  refine O.ex (Ex.nilEq Try.runUnderlying83 rfl rfl) rfl ?_
  refine O.nil ?_
  refine hK7 _ _ _ ?_
  refine W.known_f rfl (by first | rfl | decide | exact decide_eq_false (fun hh => hh rfl)) ?_
  refine W.skip ?_
  refine hK6 _ _ _ ?_
  refine W.seq (fun K8 hK8 => ?_)
  refine W.seq (fun K9 hK9 => ?_)
  refine W.region ?_
  refine O.ex (Ex.assign rfl) rfl ?_
  refine O.nil ?_
  refine hK9 _ _ _ ?_
  refine W.block ?_
  have H : Holds w (Uk b 32 n 64 noS (trP []) :: RB r 32 n 64 noS (trD []) :: base w0 :: []) := Holds.to (by assumption)
  refine W.loop (σ := Nat) (fun i => [(1, lv), (2, lv2), (8, .pointer (some ⟨b, 0, none⟩)), (10, .pointer (some ⟨r, 0, none⟩)), (11, .int .i64 (i : Int))]) (fun i ds w => ds = [] ∧ i ≤ l.length ∧ i ≤ 150 ∧ ∃ s h, HOk n 64 32 s h ∧ Holds w (Uk b 32 n 64 s (trP h) :: RB r 32 n 64 s (trD h) :: base w0 :: [])) (fun i => 150 - i) 0 ⟨rfl, rfl, rfl, rfl, rfl, trivial⟩ ⟨rfl, by omega, by omega, noS, [], ok0, H⟩ ?_
  clear H
  rintro i _ w ⟨rfl, hi, hi4, s, h, hok, H⟩
  refine W.seq (fun K10 hK10 => ?_)
  refine W.seq (fun K11 hK11 => ?_)
  refine W.region ?_
  refine O.ex (Ex.move rfl) rfl ?_
  refine O.ex (Ex.move rfl) rfl ?_
  refine O.ex (by first | exact Ex.lenN Try.runUnderlying82 rfl | exact Ex.lenIn Try.runUnderlying82 rfl | exact Ex.lenL Try.runUnderlying82 rfl | exact Ex.len rfl Try.runUnderlying82 rfl) rfl ?_
  refine O.ex (Ex.lss rfl rfl) rfl ?_
  refine O.ex (Ex.move rfl) rfl ?_
  first | refine O.split_p (t := 39) rfl (fun h1 => ?_) (fun h1 => ?_) | refine O.split (t := 39) rfl (fun h1 => ?_) (fun h1 => ?_)
  · refine O.guard_t rfl rfl ?_
    refine O.ex (Ex.move rfl) rfl ?_
    refine O.guard_t rfl rfl ?_
    refine O.ex (Ex.lss rfl rfl) rfl ?_
    refine O.ex (Ex.pick_t rfl rfl) rfl ?_
    refine O.nil ?_
    refine hK11 _ _ _ ?_
    first | refine W.cond_p rfl (fun hlt => ?_) (fun hge => ?_) | refine W.cond_b rfl (fun hlt => ?_) (fun hge => ?_)
    · refine W.skip ?_
      refine hK10 _ _ _ ?_
      refine W.seq (fun K12 hK12 => ?_)
      refine W.block ?_
      refine W.seq (fun K13 hK13 => ?_)
      refine W.region ?_
      have hi0 : (0 : Int) ≤ (i : Int) := by omega
      have hi1 : (i : Int) < l.length := h1
      have hil : i < l.length := by omega
      have hil2 : ((i : Nat) : Int).toNat < l.length := by omega
      have hw0 := op_w hgk hil
      obtain ⟨s', h', et, eh, eq, cd, hy, he, hcd, hok'⟩ := do_ex hok (l.getD i default)
      refine O.ex (Ex.move rfl) rfl ?_
      refine O.ex (Ex.move rfl) rfl ?_
      refine O.ex (Ex.move rfl) rfl ?_
      refine O.ex (by first | exact Ex.idxIn Try.runUnderlying82 Try.sizeOf91 rfl rfl | exact Ex.idxN Try.runUnderlying82 Try.sizeOf91 rfl rfl | exact Ex.idxSN Try.runUnderlying82 Try.sizeOf91 rfl rfl | exact Ex.idx Try.runUnderlying82 Try.sizeOf91 rfl rfl (by omega) (by omega)) rfl ?_
      refine O.ex (by first | exact Ex.loadAggP Try.isAgg91 Try.sizeOf91 rfl | exact Ex.loadAggN Try.isAgg91 Try.sizeOf91 rfl | exact Ex.loadIn Try.isAgg91 Try.sizeOf91 rfl (Holds.to (by assumption))) rfl ?_
      refine O.callF Try.call58 rfl rfl (CT.mono (pdo_ct (op := l.getD i default) hy he hcd hok hw0 (Holds.to (M := Uk b 32 n 64 s (trP h) :: _) (by assumption))) ?_)
      rintro _ w ⟨-, H⟩
      refine O.nil ?_
      refine hK13 _ _ _ ?_
      refine W.region ?_
      refine O.ex (Ex.move rfl) rfl ?_
      refine O.ex (Ex.move rfl) rfl ?_
      refine O.ex (Ex.move rfl) rfl ?_
      refine O.ex (by first | exact Ex.idxIn Try.runUnderlying82 Try.sizeOf91 rfl rfl | exact Ex.idxN Try.runUnderlying82 Try.sizeOf91 rfl rfl | exact Ex.idxSN Try.runUnderlying82 Try.sizeOf91 rfl rfl | exact Ex.idx Try.runUnderlying82 Try.sizeOf91 rfl rfl (by omega) (by omega)) rfl ?_
      refine O.ex (by first | exact Ex.loadAggP Try.isAgg91 Try.sizeOf91 rfl | exact Ex.loadAggN Try.isAgg91 Try.sizeOf91 rfl | exact Ex.loadIn Try.isAgg91 Try.sizeOf91 rfl (Holds.to (by assumption))) rfl ?_
      refine O.callF Try.call59 rfl rfl (CT.mono (qdo_ct (op := l.getD i default) hy he hcd hok (by omega) hw0 (Holds.to (M := RB r 32 n 64 s (trD h) :: _) (by assumption))) ?_)
      rintro _ w ⟨-, H⟩
      refine O.nil ?_
      refine hK12 _ _ _ ?_
      refine W.region ?_
      refine O.ex (Ex.move rfl) rfl ?_
      refine O.ex (by first | exact Ex.addI rfl rfl | exact Ex.add rfl rfl rfl) rfl ?_
      refine O.ex (Ex.assign rfl) rfl ?_
      refine O.nil ?_
      exact ⟨i + 1, ⟨rfl, rfl, rfl, rfl, rfl, trivial⟩, ⟨rfl, by omega, by omega, s', h', hok', Holds.to (by assumption)⟩, by omega⟩
    · refine W.exit ?_
      refine hK8 _ _ _ ?_
      refine W.seq (fun K14 hK14 => ?_)
      refine W.region ?_
      obtain ⟨g, v1, v2, H0⟩ := rb_open.1 (Holds.to (M := RB r 32 n 64 s (trD h) :: Uk b 32 n 64 s (trP h) :: base w0 :: []) (by assumption))
      clear H
      have H : Holds w (pt r (.cells (rbc g 32 v1 v2) 107 (0, 0)) :: Rg g n 64 s :: arrN TG 322 (gE n 64) v1 ((trD h).map Prod.fst) :: arrN TA 4 aE v2 ((trD h).map Prod.snd) :: Uk b 32 n 64 s (trP h) :: base w0 :: []) := rbo_open.1 H0
      refine O.ex (Ex.move rfl) rfl ?_
      refine O.ex (by first | exact Ex.nilPtr rfl | exact Ex.nilFunc rfl | exact Ex.nilYield rfl) rfl ?_
      refine O.ex (by first | exact Ex.field0 fld107_0 rfl | exact Ex.field fld107_0 rfl | exact Ex.fieldS fld107_0 rfl | exact Ex.fieldIn fld107_0 rfl) rfl ?_
      refine O.ex (by first | exact Ex.loadMh Try.isAgg25 rfl | exact Ex.loadInF Try.isAgg25 rfl (Holds.to (by assumption)) | exact Ex.loadP Try.isAgg25 rfl | exact Ex.loadM Try.isAgg25 rfl | exact Ex.loadIn1 Try.isAgg25 rfl (Holds.to (by assumption)) | exact Ex.loadVc Try.isAgg25 rfl | exact Ex.loadR Try.isAgg25 rfl | exact Ex.loadQ Try.isAgg25 rfl) rfl ?_
      refine O.ex (by first | exact Ex.nilPtr rfl | exact Ex.nilFunc rfl | exact Ex.nilYield rfl) rfl ?_
      refine O.ex (Ex.loadRg Try.isAgg54 Try.sizeOf54 rfl) rfl ?_
      refine O.allocC rZ rfl (fun b12 w H => ?_)
      refine O.storeRg Try.sizeOf54 rfl rfl (fun w H => ?_) H
      refine O.nil ?_
      refine hK14 _ _ _ ?_
      refine W.seq (fun K15 hK15 => ?_)
      refine W.region ?_
      refine O.ex (Ex.assign rfl) rfl ?_
      refine O.nil ?_
      refine hK15 _ _ _ ?_
      refine W.seq (fun K16 hK16 => ?_)
      refine W.seq (fun K17 hK17 => ?_)
      refine W.region ?_
      refine O.ex (Ex.assign rfl) rfl ?_
      refine O.nil ?_
      refine hK17 _ _ _ ?_
      refine W.block ?_
      have H : Holds w (Uk b 32 n 64 s (trP h) :: Rg b12 n 64 s :: base w0 :: []) := Holds.to H
      refine W.loop (σ := Nat × Nat) (fun z => [(2, lv2), (8, .pointer (some ⟨b, 0, none⟩)), (12, .pointer (some ⟨b12, 0, none⟩)), (13, .int .i64 (z.2 : Int)), (14, .int .i64 (z.1 : Int))]) (fun z ds w => ds = [] ∧ z.1 ≤ l2.length ∧ z.1 ≤ 1001 ∧ z.2 ≤ 32 ∧ ∃ s2 hA u, HOk n 64 32 s2 (hA ++ u) ∧ u.length = z.2 ∧ bot s2 u = s ∧ Holds w (Uk b 32 n 64 s2 (trP (hA ++ u)) :: Rg b12 n 64 s :: base w0 :: [])) (fun z => 1001 - z.1) (0, 0) ⟨rfl, rfl, rfl, rfl, rfl, trivial⟩ ⟨rfl, by omega, by omega, by omega, s, h, [], by rw [List.append_nil]; exact hok, rfl, rfl, by rw [List.append_nil]; exact H⟩ ?_
      clear H
      rintro ⟨j, dn⟩ _ w ⟨rfl, hj, hj4, hdn, s2, hA, u, hok2, hul, hbot, H⟩
      dsimp only at hj hj4 hdn hul H ⊢
      refine W.seq (fun K18 hK18 => ?_)
      refine W.seq (fun K19 hK19 => ?_)
      refine W.region ?_
      refine O.ex (Ex.move rfl) rfl ?_
      refine O.ex (Ex.move rfl) rfl ?_
      refine O.ex (by first | exact Ex.lenN Try.runUnderlying82 rfl | exact Ex.lenIn Try.runUnderlying82 rfl | exact Ex.lenL Try.runUnderlying82 rfl | exact Ex.len rfl Try.runUnderlying82 rfl) rfl ?_
      refine O.ex (Ex.lss rfl rfl) rfl ?_
      refine O.ex (Ex.move rfl) rfl ?_
      first | refine O.split_p (t := 67) rfl (fun k1 => ?_) (fun k1 => ?_) | refine O.split (t := 67) rfl (fun k1 => ?_) (fun k1 => ?_)
      · refine O.guard_t rfl rfl ?_
        refine O.ex (Ex.move rfl) rfl ?_
        refine O.guard_t rfl rfl ?_
        refine O.ex (Ex.lss rfl rfl) rfl ?_
        refine O.ex (Ex.pick_t rfl rfl) rfl ?_
        refine O.nil ?_
        refine hK19 _ _ _ ?_
        first | refine W.cond_p rfl (fun klt => ?_) (fun kge => ?_) | refine W.cond_b rfl (fun klt => ?_) (fun kge => ?_)
        · refine W.skip ?_
          refine hK18 _ _ _ ?_
          refine W.seq (fun K20 hK20 => ?_)
          refine W.block ?_
          refine W.seq (fun K21 hK21 => ?_)
          refine W.region ?_
          have hj0 : (0 : Int) ≤ (j : Int) := by omega
          have hj1 : (j : Int) < l2.length := k1
          have hjl : j < l2.length := by omega
          have hjl2 : ((j : Nat) : Int).toNat < l2.length := by omega
          have hw2 := op_w hgk2 hjl
          obtain ⟨s', h', et, eh, eq, cd, hy, he, hcd, hok'⟩ := do_ex hok2 (l2.getD j default)
          refine O.ex (Ex.move rfl) rfl ?_
          refine O.ex (Ex.move rfl) rfl ?_
          refine O.ex (Ex.move rfl) rfl ?_
          refine O.ex (by first | exact Ex.idxIn Try.runUnderlying82 Try.sizeOf91 rfl rfl | exact Ex.idxN Try.runUnderlying82 Try.sizeOf91 rfl rfl | exact Ex.idxSN Try.runUnderlying82 Try.sizeOf91 rfl rfl | exact Ex.idx Try.runUnderlying82 Try.sizeOf91 rfl rfl (by omega) (by omega)) rfl ?_
          refine O.ex (by first | exact Ex.loadAggP Try.isAgg91 Try.sizeOf91 rfl | exact Ex.loadAggN Try.isAgg91 Try.sizeOf91 rfl | exact Ex.loadIn Try.isAgg91 Try.sizeOf91 rfl (Holds.to (by assumption))) rfl ?_
          refine O.callF Try.call58 rfl rfl (CT.mono (pdo_ct (op := l2.getD j default) hy he hcd hok2 hw2 (Holds.to (M := Uk b 32 n 64 s2 (trP (hA ++ u)) :: _) (by assumption))) ?_)
          rintro _ w ⟨rfl, H⟩
          refine O.ex (Ex.move rfl) rfl ?_
          refine O.ex (Ex.extract rfl rfl) rfl ?_
          refine O.ex (Ex.extract rfl rfl) rfl ?_
          refine O.allocP Try.zeroValue93 (fun b15 w H => ?_)
          first | refine O.storeAggP Try.sizeOf93 rfl rfl rfl rfl (fun w H => ?_) | refine O.storeAggN Try.sizeOf93 rfl rfl rfl (fun w H => ?_) rfl
          refine O.ex (Ex.assign rfl) rfl ?_
          refine O.nil ?_
          refine hK21 _ _ _ ?_
          refine W.seq (fun K22 hK22 => ?_)
          refine W.seq (fun K23 hK23 => ?_)
          refine W.region ?_
          refine O.ex (Ex.move rfl) rfl ?_
          refine O.ex (Ex.eqlI rfl rfl) rfl ?_
          refine O.nil ?_
          refine hK23 _ _ _ ?_
          first | refine W.cond_p rfl (fun hz => ?_) (fun hnz => ?_) | refine W.cond_b rfl (fun hz => ?_) (fun hnz => ?_)
          · refine W.region ?_
            obtain ⟨hA', eh', hbot'⟩ : ∃ hA', h' = hA' ++ (u ++ [(l2.getD j default, s2)]) ∧ bot s' (u ++ [(l2.getD j default, s2)]) = s := by
              refine ⟨if hA.length + u.length = 32 then hA.tail else hA, ?_, by rw [bot_push]; exact hbot⟩
              have e0 : opC n 64 s2 (l2.getD j default) = 0 := hcd.trans hz
              unfold hDo at hy
              rw [if_pos e0] at hy
              have e2 : h' = trPush 32 (hA ++ u) (l2.getD j default, s2) := (congrArg Prod.snd hy).symm
              rw [e2]
              show trPush 32 (hA ++ u) (l2.getD j default, s2) = _
              unfold trPush
              rw [List.length_append]
              by_cases e : hA.length + u.length = 32
              · rw [if_pos e, if_pos e]
                cases hA with
                | nil => simp at e; omega
                | cons a hA => simp
              · rw [if_neg e, if_neg e, List.append_assoc]
            rw [eh'] at hok' H
            have hul' : (u ++ [(l2.getD j default, s2)]).length = dn + 1 := by rw [List.length_append, hul]; rfl
            refine O.ex (Ex.move rfl) rfl ?_
            refine O.ex (by first | exact Ex.addI rfl rfl | exact Ex.add rfl rfl rfl) rfl ?_
            refine O.ex (Ex.assign rfl) rfl ?_
            refine O.nil ?_
            refine hK22 _ _ _ ?_
            refine W.seq (fun K24 hK24 => ?_)
            refine W.region ?_
            obtain ⟨hA'', u'', hokN, hulN, hbotN, hdnN, H⟩ : ∃ hA'' u'', HOk n 64 32 s' (hA'' ++ u'') ∧ u''.length = (if cd = 0 then dn + 1 else dn) ∧ bot s' u'' = s ∧ (if cd = 0 then dn + 1 else dn) ≤ 32 ∧ Holds w (Uk b 32 n 64 s' (trP (hA'' ++ u'')) :: Rg b12 n 64 s :: base w0 :: []) := by
              first
              | (have hz' : cd = 0 := hz
                 rw [if_pos hz']
                 exact ⟨hA', _, hok', hul', hbot', by omega, Holds.to H⟩)
              | (have hz' : ¬ cd = 0 := hnz
                 rw [if_neg hz']
                 have e0 : ¬ opC n 64 s2 (l2.getD j default) = 0 := fun k => hz' (hcd.symm.trans k)
                 unfold hDo at hy
                 rw [if_neg e0] at hy
                 obtain ⟨rfl, rfl⟩ := Prod.mk.inj hy
                 exact ⟨hA, u, hok2, hul, hbot, hdn, Holds.to H⟩)
            refine O.ex (Ex.move rfl) rfl ?_
            refine O.ex (Ex.gtr rfl rfl) rfl ?_
            refine O.nil ?_
            refine hK24 _ _ _ ?_
            first | refine W.cond_p rfl (fun hbig => ?_) (fun hsm => ?_) | refine W.cond_b rfl (fun hbig => ?_) (fun hsm => ?_)
            · refine W.exit ?_
              refine hK16 _ _ _ ?_
              refine W.seq (fun K25 hK25 => ?_)
              refine W.seq (fun K26 hK26 => ?_)
              refine W.region ?_
              refine O.ex (Ex.assign rfl) rfl ?_
              refine O.nil ?_
              refine hK26 _ _ _ ?_
              refine W.block ?_
              first
              | (have hz' : cd = 0 := hz
                 rw [if_pos hz'] at hulN hdnN
                 obtain ⟨dm, hdm⟩ : ∃ dm : Nat, (dm : Int) = (dn : Int) + 1 := ⟨dn + 1, rfl⟩
                 rw [← hdm]
                 obtain ⟨sm, hM, uM, hokM, hulM, hbotM, HM⟩ : ∃ sm hM uM, HOk n 64 32 sm (hM ++ uM) ∧ uM.length = dm ∧ bot sm uM = s ∧ Holds w (Uk b 32 n 64 sm (trP (hM ++ uM)) :: Rg b12 n 64 s :: base w0 :: []) := ⟨s', hA'', u'', hokN, by omega, hbotN, H⟩)
              | (have hz' : ¬ cd = 0 := hnz
                 rw [if_neg hz'] at hulN hdnN
                 obtain ⟨dm, hdm⟩ : ∃ dm : Nat, (dm : Int) = (dn : Int) := ⟨dn, rfl⟩
                 rw [← hdm]
                 obtain ⟨sm, hM, uM, hokM, hulM, hbotM, HM⟩ : ∃ sm hM uM, HOk n 64 32 sm (hM ++ uM) ∧ uM.length = dm ∧ bot sm uM = s ∧ Holds w (Uk b 32 n 64 sm (trP (hM ++ uM)) :: Rg b12 n 64 s :: base w0 :: []) := ⟨s', hA'', u'', hokN, by omega, hbotN, H⟩)
              | (obtain ⟨dm, hdm⟩ : ∃ dm : Nat, (dm : Int) = (dn : Int) := ⟨dn, rfl⟩
                 rw [← hdm]
                 obtain ⟨sm, hM, uM, hokM, hulM, hbotM, HM⟩ : ∃ sm hM uM, HOk n 64 32 sm (hM ++ uM) ∧ uM.length = dm ∧ bot sm uM = s ∧ Holds w (Uk b 32 n 64 sm (trP (hM ++ uM)) :: Rg b12 n 64 s :: base w0 :: []) := ⟨s2, hA, u, hok2, by omega, hbot, Holds.to (by assumption)⟩)
              refine W.loop (σ := Nat) (fun i => [(8, .pointer (some ⟨b, 0, none⟩)), (12, .pointer (some ⟨b12, 0, none⟩)), (13, .int .i64 (dm : Int)), (17, .int .i64 (i : Int))]) (fun i ds w => ds = [] ∧ i ≤ dm ∧ ∃ s3 uu, HOk n 64 32 s3 (hM ++ uu) ∧ uu.length + i = dm ∧ bot s3 uu = s ∧ Holds w (Uk b 32 n 64 s3 (trP (hM ++ uu)) :: Rg b12 n 64 s :: base w0 :: [])) (fun i => dm - i) 0 ⟨rfl, rfl, rfl, rfl, trivial⟩ ⟨rfl, by omega, sm, uM, hokM, by omega, hbotM, HM⟩ ?_
              clear HM
              have hdm32 : dm ≤ 32 := by
                have := hokM.len
                rw [List.length_append] at this
                omega
              rintro i2 _ w ⟨rfl, hi2, s3, uu, hok3, hul3, hbot3, H⟩
              refine W.seq (fun K27 hK27 => ?_)
              refine W.seq (fun K28 hK28 => ?_)
              refine W.region ?_
              refine O.ex (Ex.move rfl) rfl ?_
              refine O.ex (Ex.move rfl) rfl ?_
              refine O.ex (Ex.lss rfl rfl) rfl ?_
              refine O.nil ?_
              refine hK28 _ _ _ ?_
              first | refine W.cond_p rfl (fun mlt => ?_) (fun mge => ?_) | refine W.cond_b rfl (fun mlt => ?_) (fun mge => ?_)
              · refine W.skip ?_
                refine hK27 _ _ _ ?_
                refine W.seq (fun K29 hK29 => ?_)
                refine W.block ?_
                refine W.seq (fun K30 hK30 => ?_)
                refine W.region ?_
                obtain ⟨uu', x, rfl⟩ : ∃ uu' x, uu = uu' ++ [x] := by
                  rcases hist_cases uu with e | h
                  · rw [e] at hul3
                    have : ([] : List (OpM × St)).length = 0 := rfl
                    omega
                  · exact h
                rw [← List.append_assoc] at hok3 H
                refine O.ex (Ex.move rfl) rfl ?_
                refine O.callF Try.call55 rfl rfl (CT.mono (pun_ct hok3 (Holds.to (M := Uk b 32 n 64 s3 (trP (hM ++ uu' ++ [x])) :: _) (by assumption))) ?_)
                rintro _ w ⟨rfl, H⟩
                refine O.ex (Ex.move rfl) rfl ?_
                refine O.ex (Ex.extract rfl rfl) rfl ?_
                refine O.ex (Ex.extract rfl rfl) rfl ?_
                refine O.allocP Try.zeroValue93 (fun b18 w H => ?_)
                first | refine O.storeAggP Try.sizeOf93 rfl rfl rfl rfl (fun w H => ?_) | refine O.storeAggN Try.sizeOf93 rfl rfl rfl (fun w H => ?_) rfl
                refine O.ex (Ex.assign rfl) rfl ?_
                refine O.nil ?_
                refine hK30 _ _ _ ?_
                refine W.seq (fun K31 hK31 => ?_)
                refine W.region ?_
                refine O.ex (Ex.move rfl) rfl ?_
                refine O.ex (Ex.neqI rfl rfl) rfl ?_
                refine O.nil ?_
                refine hK31 _ _ _ ?_
                refine W.known_f rfl (by first | rfl | decide | exact decide_eq_false (fun hh => hh rfl)) ?_
                refine W.skip ?_
                refine hK29 _ _ _ ?_
                refine W.region ?_
                refine O.ex (Ex.move rfl) rfl ?_
                refine O.ex (by first | exact Ex.addI rfl rfl | exact Ex.add rfl rfl rfl) rfl ?_
                refine O.ex (Ex.assign rfl) rfl ?_
                refine O.nil ?_
                rw [bot_pop] at hbot3
                rw [List.length_append] at hul3
                have h1 : ([x] : List (OpM × St)).length = 1 := rfl
                exact ⟨i2 + 1, ⟨rfl, rfl, rfl, rfl, trivial⟩, ⟨rfl, by omega, x.2, uu', (hok_un hok3).1, by omega, hbot3, Holds.to (by assumption)⟩, by omega⟩
              · refine W.exit ?_
                refine hK25 _ _ _ ?_
                refine W.seq (fun K32 hK32 => ?_)
                refine W.region ?_
                obtain rfl : uu = [] := List.length_eq_zero_iff.1 (by omega)
                obtain rfl : s3 = s := hbot3
                refine O.ex (Ex.move rfl) rfl ?_
                refine O.callF Try.call62 rfl rfl (CT.mono (ugraph_ct hok3.ok (Holds.to (M := Uk b 32 n 64 s3 (trP (hM ++ [])) :: _) (by assumption))) ?_)
                rintro _ w ⟨c, rfl, H⟩
                refine O.callF Try.call61 rfl rfl (CT.mono (equal24_ct hok3.ok (Holds.to (by assumption))) ?_)
                rintro _ w ⟨rfl, H⟩
                refine O.ex (Ex.assign rfl) rfl ?_
                refine O.nil ?_
                refine hK32 _ _ _ ?_
                refine W.ret ?_
                try dsimp only [thenQ, blockQ, retQ]
                first | refine ⟨_, ⟨_, _, rfl, rfl, rfl⟩, ?_⟩ | (refine retD_mark ?_; intro w H; refine ⟨_, ⟨_, _, rfl, rfl, rfl⟩, ?_⟩) | (refine retD_mark2 ?_; intro w H; refine ⟨_, ⟨_, _, rfl, rfl, rfl⟩, ?_⟩)
                exact ⟨rfl, Holds.base_below (L := []) (Holds.to (by assumption))⟩
            · refine W.skip ?_
              refine hK20 _ _ _ ?_
              refine W.region ?_
              refine O.ex (Ex.move rfl) rfl ?_
              refine O.ex (by first | exact Ex.addI rfl rfl | exact Ex.add rfl rfl rfl) rfl ?_
              refine O.ex (Ex.assign rfl) rfl ?_
              refine O.nil ?_
              first
              | (have hz' : cd = 0 := hz
                 rw [if_pos hz'] at hulN hdnN
                 exact ⟨(j + 1, dn + 1), ⟨rfl, rfl, rfl, rfl, rfl, trivial⟩, ⟨rfl, by dsimp only; omega, by dsimp only; omega, hdnN, s', hA'', u'', hokN, hulN, hbotN, H⟩, by dsimp only; omega⟩)
              | (have hz' : ¬ cd = 0 := hnz
                 rw [if_neg hz'] at hulN hdnN
                 exact ⟨(j + 1, dn), ⟨rfl, rfl, rfl, rfl, rfl, trivial⟩, ⟨rfl, by dsimp only; omega, by dsimp only; omega, hdnN, s', hA'', u'', hokN, hulN, hbotN, H⟩, by dsimp only; omega⟩)
          · refine W.skip ?_
            refine hK22 _ _ _ ?_
            refine W.seq (fun K33 hK33 => ?_)
            refine W.region ?_
            obtain ⟨hA'', u'', hokN, hulN, hbotN, hdnN, H⟩ : ∃ hA'' u'', HOk n 64 32 s' (hA'' ++ u'') ∧ u''.length = (if cd = 0 then dn + 1 else dn) ∧ bot s' u'' = s ∧ (if cd = 0 then dn + 1 else dn) ≤ 32 ∧ Holds w (Uk b 32 n 64 s' (trP (hA'' ++ u'')) :: Rg b12 n 64 s :: base w0 :: []) := by
              first
              | (have hz' : cd = 0 := hz
                 rw [if_pos hz']
                 exact ⟨hA', _, hok', hul', hbot', by omega, Holds.to H⟩)
              | (have hz' : ¬ cd = 0 := hnz
                 rw [if_neg hz']
                 have e0 : ¬ opC n 64 s2 (l2.getD j default) = 0 := fun k => hz' (hcd.symm.trans k)
                 unfold hDo at hy
                 rw [if_neg e0] at hy
                 obtain ⟨rfl, rfl⟩ := Prod.mk.inj hy
                 exact ⟨hA, u, hok2, hul, hbot, hdn, Holds.to H⟩)
            refine O.ex (Ex.move rfl) rfl ?_
            refine O.ex (Ex.gtr rfl rfl) rfl ?_
            refine O.nil ?_
            refine hK33 _ _ _ ?_
            first | refine W.cond_p rfl (fun hbig => ?_) (fun hsm => ?_) | refine W.cond_b rfl (fun hbig => ?_) (fun hsm => ?_)
            · refine W.exit ?_
              refine hK16 _ _ _ ?_
              refine W.seq (fun K34 hK34 => ?_)
              refine W.seq (fun K35 hK35 => ?_)
              refine W.region ?_
              refine O.ex (Ex.assign rfl) rfl ?_
              refine O.nil ?_
              refine hK35 _ _ _ ?_
              refine W.block ?_
              first
              | (have hz' : cd = 0 := hz
                 rw [if_pos hz'] at hulN hdnN
                 obtain ⟨dm, hdm⟩ : ∃ dm : Nat, (dm : Int) = (dn : Int) + 1 := ⟨dn + 1, rfl⟩
                 rw [← hdm]
                 obtain ⟨sm, hM, uM, hokM, hulM, hbotM, HM⟩ : ∃ sm hM uM, HOk n 64 32 sm (hM ++ uM) ∧ uM.length = dm ∧ bot sm uM = s ∧ Holds w (Uk b 32 n 64 sm (trP (hM ++ uM)) :: Rg b12 n 64 s :: base w0 :: []) := ⟨s', hA'', u'', hokN, by omega, hbotN, H⟩)
              | (have hz' : ¬ cd = 0 := hnz
                 rw [if_neg hz'] at hulN hdnN
                 obtain ⟨dm, hdm⟩ : ∃ dm : Nat, (dm : Int) = (dn : Int) := ⟨dn, rfl⟩
                 rw [← hdm]
                 obtain ⟨sm, hM, uM, hokM, hulM, hbotM, HM⟩ : ∃ sm hM uM, HOk n 64 32 sm (hM ++ uM) ∧ uM.length = dm ∧ bot sm uM = s ∧ Holds w (Uk b 32 n 64 sm (trP (hM ++ uM)) :: Rg b12 n 64 s :: base w0 :: []) := ⟨s', hA'', u'', hokN, by omega, hbotN, H⟩)
              | (obtain ⟨dm, hdm⟩ : ∃ dm : Nat, (dm : Int) = (dn : Int) := ⟨dn, rfl⟩
                 rw [← hdm]
                 obtain ⟨sm, hM, uM, hokM, hulM, hbotM, HM⟩ : ∃ sm hM uM, HOk n 64 32 sm (hM ++ uM) ∧ uM.length = dm ∧ bot sm uM = s ∧ Holds w (Uk b 32 n 64 sm (trP (hM ++ uM)) :: Rg b12 n 64 s :: base w0 :: []) := ⟨s2, hA, u, hok2, by omega, hbot, Holds.to (by assumption)⟩)
              refine W.loop (σ := Nat) (fun i => [(8, .pointer (some ⟨b, 0, none⟩)), (12, .pointer (some ⟨b12, 0, none⟩)), (13, .int .i64 (dm : Int)), (17, .int .i64 (i : Int))]) (fun i ds w => ds = [] ∧ i ≤ dm ∧ ∃ s3 uu, HOk n 64 32 s3 (hM ++ uu) ∧ uu.length + i = dm ∧ bot s3 uu = s ∧ Holds w (Uk b 32 n 64 s3 (trP (hM ++ uu)) :: Rg b12 n 64 s :: base w0 :: [])) (fun i => dm - i) 0 ⟨rfl, rfl, rfl, rfl, trivial⟩ ⟨rfl, by omega, sm, uM, hokM, by omega, hbotM, HM⟩ ?_
              clear HM
              have hdm32 : dm ≤ 32 := by
                have := hokM.len
                rw [List.length_append] at this
                omega
              rintro i2 _ w ⟨rfl, hi2, s3, uu, hok3, hul3, hbot3, H⟩
              refine W.seq (fun K36 hK36 => ?_)
              refine W.seq (fun K37 hK37 => ?_)
              refine W.region ?_
              refine O.ex (Ex.move rfl) rfl ?_
              refine O.ex (Ex.move rfl) rfl ?_
              refine O.ex (Ex.lss rfl rfl) rfl ?_
              refine O.nil ?_
              refine hK37 _ _ _ ?_
              first | refine W.cond_p rfl (fun mlt => ?_) (fun mge => ?_) | refine W.cond_b rfl (fun mlt => ?_) (fun mge => ?_)
              · refine W.skip ?_
                refine hK36 _ _ _ ?_
                refine W.seq (fun K38 hK38 => ?_)
                refine W.block ?_
                refine W.seq (fun K39 hK39 => ?_)
                refine W.region ?_
                obtain ⟨uu', x, rfl⟩ : ∃ uu' x, uu = uu' ++ [x] := by
                  rcases hist_cases uu with e | h
                  · rw [e] at hul3
                    have : ([] : List (OpM × St)).length = 0 := rfl
                    omega
                  · exact h
                rw [← List.append_assoc] at hok3 H
                refine O.ex (Ex.move rfl) rfl ?_
                refine O.callF Try.call55 rfl rfl (CT.mono (pun_ct hok3 (Holds.to (M := Uk b 32 n 64 s3 (trP (hM ++ uu' ++ [x])) :: _) (by assumption))) ?_)
                rintro _ w ⟨rfl, H⟩
                refine O.ex (Ex.move rfl) rfl ?_
                refine O.ex (Ex.extract rfl rfl) rfl ?_
                refine O.ex (Ex.extract rfl rfl) rfl ?_
                refine O.allocP Try.zeroValue93 (fun b18 w H => ?_)
                first | refine O.storeAggP Try.sizeOf93 rfl rfl rfl rfl (fun w H => ?_) | refine O.storeAggN Try.sizeOf93 rfl rfl rfl (fun w H => ?_) rfl
                refine O.ex (Ex.assign rfl) rfl ?_
                refine O.nil ?_
                refine hK39 _ _ _ ?_
                refine W.seq (fun K40 hK40 => ?_)
                refine W.region ?_
                refine O.ex (Ex.move rfl) rfl ?_
                refine O.ex (Ex.neqI rfl rfl) rfl ?_
                refine O.nil ?_
                refine hK40 _ _ _ ?_
                refine W.known_f rfl (by first | rfl | decide | exact decide_eq_false (fun hh => hh rfl)) ?_
                refine W.skip ?_
                refine hK38 _ _ _ ?_
                refine W.region ?_
                refine O.ex (Ex.move rfl) rfl ?_
                refine O.ex (by first | exact Ex.addI rfl rfl | exact Ex.add rfl rfl rfl) rfl ?_
                refine O.ex (Ex.assign rfl) rfl ?_
                refine O.nil ?_
                rw [bot_pop] at hbot3
                rw [List.length_append] at hul3
                have h1 : ([x] : List (OpM × St)).length = 1 := rfl
                exact ⟨i2 + 1, ⟨rfl, rfl, rfl, rfl, trivial⟩, ⟨rfl, by omega, x.2, uu', (hok_un hok3).1, by omega, hbot3, Holds.to (by assumption)⟩, by omega⟩
              · refine W.exit ?_
                refine hK34 _ _ _ ?_
                refine W.seq (fun K41 hK41 => ?_)
                refine W.region ?_
                obtain rfl : uu = [] := List.length_eq_zero_iff.1 (by omega)
                obtain rfl : s3 = s := hbot3
                refine O.ex (Ex.move rfl) rfl ?_
                refine O.callF Try.call62 rfl rfl (CT.mono (ugraph_ct hok3.ok (Holds.to (M := Uk b 32 n 64 s3 (trP (hM ++ [])) :: _) (by assumption))) ?_)
                rintro _ w ⟨c, rfl, H⟩
                refine O.callF Try.call61 rfl rfl (CT.mono (equal24_ct hok3.ok (Holds.to (by assumption))) ?_)
                rintro _ w ⟨rfl, H⟩
                refine O.ex (Ex.assign rfl) rfl ?_
                refine O.nil ?_
                refine hK41 _ _ _ ?_
                refine W.ret ?_
                try dsimp only [thenQ, blockQ, retQ]
                first | refine ⟨_, ⟨_, _, rfl, rfl, rfl⟩, ?_⟩ | (refine retD_mark ?_; intro w H; refine ⟨_, ⟨_, _, rfl, rfl, rfl⟩, ?_⟩) | (refine retD_mark2 ?_; intro w H; refine ⟨_, ⟨_, _, rfl, rfl, rfl⟩, ?_⟩)
                exact ⟨rfl, Holds.base_below (L := []) (Holds.to (by assumption))⟩
            · refine W.skip ?_
              refine hK20 _ _ _ ?_
              refine W.region ?_
              refine O.ex (Ex.move rfl) rfl ?_
              refine O.ex (by first | exact Ex.addI rfl rfl | exact Ex.add rfl rfl rfl) rfl ?_
              refine O.ex (Ex.assign rfl) rfl ?_
              refine O.nil ?_
              first
              | (have hz' : cd = 0 := hz
                 rw [if_pos hz'] at hulN hdnN
                 exact ⟨(j + 1, dn + 1), ⟨rfl, rfl, rfl, rfl, rfl, trivial⟩, ⟨rfl, by dsimp only; omega, by dsimp only; omega, hdnN, s', hA'', u'', hokN, hulN, hbotN, H⟩, by dsimp only; omega⟩)
              | (have hz' : ¬ cd = 0 := hnz
                 rw [if_neg hz'] at hulN hdnN
                 exact ⟨(j + 1, dn), ⟨rfl, rfl, rfl, rfl, rfl, trivial⟩, ⟨rfl, by dsimp only; omega, by dsimp only; omega, hdnN, s', hA'', u'', hokN, hulN, hbotN, H⟩, by dsimp only; omega⟩)
        · refine W.exit ?_
          refine hK16 _ _ _ ?_
          refine W.seq (fun K42 hK42 => ?_)
          refine W.seq (fun K43 hK43 => ?_)
          refine W.region ?_
          refine O.ex (Ex.assign rfl) rfl ?_
          refine O.nil ?_
          refine hK43 _ _ _ ?_
          refine W.block ?_
          first
          | (have hz' : cd = 0 := hz
             rw [if_pos hz'] at hulN hdnN
             obtain ⟨dm, hdm⟩ : ∃ dm : Nat, (dm : Int) = (dn : Int) + 1 := ⟨dn + 1, rfl⟩
             rw [← hdm]
             obtain ⟨sm, hM, uM, hokM, hulM, hbotM, HM⟩ : ∃ sm hM uM, HOk n 64 32 sm (hM ++ uM) ∧ uM.length = dm ∧ bot sm uM = s ∧ Holds w (Uk b 32 n 64 sm (trP (hM ++ uM)) :: Rg b12 n 64 s :: base w0 :: []) := ⟨s', hA'', u'', hokN, by omega, hbotN, H⟩)
          | (have hz' : ¬ cd = 0 := hnz
             rw [if_neg hz'] at hulN hdnN
             obtain ⟨dm, hdm⟩ : ∃ dm : Nat, (dm : Int) = (dn : Int) := ⟨dn, rfl⟩
             rw [← hdm]
             obtain ⟨sm, hM, uM, hokM, hulM, hbotM, HM⟩ : ∃ sm hM uM, HOk n 64 32 sm (hM ++ uM) ∧ uM.length = dm ∧ bot sm uM = s ∧ Holds w (Uk b 32 n 64 sm (trP (hM ++ uM)) :: Rg b12 n 64 s :: base w0 :: []) := ⟨s', hA'', u'', hokN, by omega, hbotN, H⟩)
          | (obtain ⟨dm, hdm⟩ : ∃ dm : Nat, (dm : Int) = (dn : Int) := ⟨dn, rfl⟩
             rw [← hdm]
             obtain ⟨sm, hM, uM, hokM, hulM, hbotM, HM⟩ : ∃ sm hM uM, HOk n 64 32 sm (hM ++ uM) ∧ uM.length = dm ∧ bot sm uM = s ∧ Holds w (Uk b 32 n 64 sm (trP (hM ++ uM)) :: Rg b12 n 64 s :: base w0 :: []) := ⟨s2, hA, u, hok2, by omega, hbot, Holds.to (by assumption)⟩)
          refine W.loop (σ := Nat) (fun i => [(8, .pointer (some ⟨b, 0, none⟩)), (12, .pointer (some ⟨b12, 0, none⟩)), (13, .int .i64 (dm : Int)), (17, .int .i64 (i : Int))]) (fun i ds w => ds = [] ∧ i ≤ dm ∧ ∃ s3 uu, HOk n 64 32 s3 (hM ++ uu) ∧ uu.length + i = dm ∧ bot s3 uu = s ∧ Holds w (Uk b 32 n 64 s3 (trP (hM ++ uu)) :: Rg b12 n 64 s :: base w0 :: [])) (fun i => dm - i) 0 ⟨rfl, rfl, rfl, rfl, trivial⟩ ⟨rfl, by omega, sm, uM, hokM, by omega, hbotM, HM⟩ ?_
          clear HM
          have hdm32 : dm ≤ 32 := by
            have := hokM.len
            rw [List.length_append] at this
            omega
          rintro i2 _ w ⟨rfl, hi2, s3, uu, hok3, hul3, hbot3, H⟩
          refine W.seq (fun K44 hK44 => ?_)
          refine W.seq (fun K45 hK45 => ?_)
          refine W.region ?_
          refine O.ex (Ex.move rfl) rfl ?_
          refine O.ex (Ex.move rfl) rfl ?_
          refine O.ex (Ex.lss rfl rfl) rfl ?_
          refine O.nil ?_
          refine hK45 _ _ _ ?_
          first | refine W.cond_p rfl (fun mlt => ?_) (fun mge => ?_) | refine W.cond_b rfl (fun mlt => ?_) (fun mge => ?_)
          · refine W.skip ?_
            refine hK44 _ _ _ ?_
            refine W.seq (fun K46 hK46 => ?_)
            refine W.block ?_
            refine W.seq (fun K47 hK47 => ?_)
            refine W.region ?_
            obtain ⟨uu', x, rfl⟩ : ∃ uu' x, uu = uu' ++ [x] := by
              rcases hist_cases uu with e | h
              · rw [e] at hul3
                have : ([] : List (OpM × St)).length = 0 := rfl
                omega
              · exact h
            rw [← List.append_assoc] at hok3 H
            refine O.ex (Ex.move rfl) rfl ?_
            refine O.callF Try.call55 rfl rfl (CT.mono (pun_ct hok3 (Holds.to (M := Uk b 32 n 64 s3 (trP (hM ++ uu' ++ [x])) :: _) (by assumption))) ?_)
            rintro _ w ⟨rfl, H⟩
            refine O.ex (Ex.move rfl) rfl ?_
            refine O.ex (Ex.extract rfl rfl) rfl ?_
            refine O.ex (Ex.extract rfl rfl) rfl ?_
            refine O.allocP Try.zeroValue93 (fun b18 w H => ?_)
            first | refine O.storeAggP Try.sizeOf93 rfl rfl rfl rfl (fun w H => ?_) | refine O.storeAggN Try.sizeOf93 rfl rfl rfl (fun w H => ?_) rfl
            refine O.ex (Ex.assign rfl) rfl ?_
            refine O.nil ?_
            refine hK47 _ _ _ ?_
            refine W.seq (fun K48 hK48 => ?_)
            refine W.region ?_
            refine O.ex (Ex.move rfl) rfl ?_
            refine O.ex (Ex.neqI rfl rfl) rfl ?_
            refine O.nil ?_
            refine hK48 _ _ _ ?_
            refine W.known_f rfl (by first | rfl | decide | exact decide_eq_false (fun hh => hh rfl)) ?_
            refine W.skip ?_
            refine hK46 _ _ _ ?_
            refine W.region ?_
            refine O.ex (Ex.move rfl) rfl ?_
            refine O.ex (by first | exact Ex.addI rfl rfl | exact Ex.add rfl rfl rfl) rfl ?_
            refine O.ex (Ex.assign rfl) rfl ?_
            refine O.nil ?_
            rw [bot_pop] at hbot3
            rw [List.length_append] at hul3
            have h1 : ([x] : List (OpM × St)).length = 1 := rfl
            exact ⟨i2 + 1, ⟨rfl, rfl, rfl, rfl, trivial⟩, ⟨rfl, by omega, x.2, uu', (hok_un hok3).1, by omega, hbot3, Holds.to (by assumption)⟩, by omega⟩
          · refine W.exit ?_
            refine hK42 _ _ _ ?_
            refine W.seq (fun K49 hK49 => ?_)
            refine W.region ?_
            obtain rfl : uu = [] := List.length_eq_zero_iff.1 (by omega)
            obtain rfl : s3 = s := hbot3
            refine O.ex (Ex.move rfl) rfl ?_
            refine O.callF Try.call62 rfl rfl (CT.mono (ugraph_ct hok3.ok (Holds.to (M := Uk b 32 n 64 s3 (trP (hM ++ [])) :: _) (by assumption))) ?_)
            rintro _ w ⟨c, rfl, H⟩
            refine O.callF Try.call61 rfl rfl (CT.mono (equal24_ct hok3.ok (Holds.to (by assumption))) ?_)
            rintro _ w ⟨rfl, H⟩
            refine O.ex (Ex.assign rfl) rfl ?_
            refine O.nil ?_
            refine hK49 _ _ _ ?_
            refine W.ret ?_
            try dsimp only [thenQ, blockQ, retQ]
            first | refine ⟨_, ⟨_, _, rfl, rfl, rfl⟩, ?_⟩ | (refine retD_mark ?_; intro w H; refine ⟨_, ⟨_, _, rfl, rfl, rfl⟩, ?_⟩) | (refine retD_mark2 ?_; intro w H; refine ⟨_, ⟨_, _, rfl, rfl, rfl⟩, ?_⟩)
            exact ⟨rfl, Holds.base_below (L := []) (Holds.to (by assumption))⟩
      · refine O.guard_f rfl rfl rfl rfl ?_
        refine O.guard_f rfl rfl rfl rfl ?_
        refine O.ex (Ex.pick_f rfl rfl) rfl ?_
        refine O.nil ?_
        refine hK19 _ _ _ ?_
        refine W.cond_f rfl ?_
        refine W.exit ?_
        refine hK16 _ _ _ ?_
        refine W.seq (fun K50 hK50 => ?_)
        refine W.seq (fun K51 hK51 => ?_)
        refine W.region ?_
        refine O.ex (Ex.assign rfl) rfl ?_
        refine O.nil ?_
        refine hK51 _ _ _ ?_
        refine W.block ?_
        first
        | (have hz' : cd = 0 := hz
           rw [if_pos hz'] at hulN hdnN
           obtain ⟨dm, hdm⟩ : ∃ dm : Nat, (dm : Int) = (dn : Int) + 1 := ⟨dn + 1, rfl⟩
           rw [← hdm]
           obtain ⟨sm, hM, uM, hokM, hulM, hbotM, HM⟩ : ∃ sm hM uM, HOk n 64 32 sm (hM ++ uM) ∧ uM.length = dm ∧ bot sm uM = s ∧ Holds w (Uk b 32 n 64 sm (trP (hM ++ uM)) :: Rg b12 n 64 s :: base w0 :: []) := ⟨s', hA'', u'', hokN, by omega, hbotN, H⟩)
        | (have hz' : ¬ cd = 0 := hnz
           rw [if_neg hz'] at hulN hdnN
           obtain ⟨dm, hdm⟩ : ∃ dm : Nat, (dm : Int) = (dn : Int) := ⟨dn, rfl⟩
           rw [← hdm]
           obtain ⟨sm, hM, uM, hokM, hulM, hbotM, HM⟩ : ∃ sm hM uM, HOk n 64 32 sm (hM ++ uM) ∧ uM.length = dm ∧ bot sm uM = s ∧ Holds w (Uk b 32 n 64 sm (trP (hM ++ uM)) :: Rg b12 n 64 s :: base w0 :: []) := ⟨s', hA'', u'', hokN, by omega, hbotN, H⟩)
        | (obtain ⟨dm, hdm⟩ : ∃ dm : Nat, (dm : Int) = (dn : Int) := ⟨dn, rfl⟩
           rw [← hdm]
           obtain ⟨sm, hM, uM, hokM, hulM, hbotM, HM⟩ : ∃ sm hM uM, HOk n 64 32 sm (hM ++ uM) ∧ uM.length = dm ∧ bot sm uM = s ∧ Holds w (Uk b 32 n 64 sm (trP (hM ++ uM)) :: Rg b12 n 64 s :: base w0 :: []) := ⟨s2, hA, u, hok2, by omega, hbot, Holds.to (by assumption)⟩)
        refine W.loop (σ := Nat) (fun i => [(8, .pointer (some ⟨b, 0, none⟩)), (12, .pointer (some ⟨b12, 0, none⟩)), (13, .int .i64 (dm : Int)), (17, .int .i64 (i : Int))]) (fun i ds w => ds = [] ∧ i ≤ dm ∧ ∃ s3 uu, HOk n 64 32 s3 (hM ++ uu) ∧ uu.length + i = dm ∧ bot s3 uu = s ∧ Holds w (Uk b 32 n 64 s3 (trP (hM ++ uu)) :: Rg b12 n 64 s :: base w0 :: [])) (fun i => dm - i) 0 ⟨rfl, rfl, rfl, rfl, trivial⟩ ⟨rfl, by omega, sm, uM, hokM, by omega, hbotM, HM⟩ ?_
        clear HM
        have hdm32 : dm ≤ 32 := by
          have := hokM.len
          rw [List.length_append] at this
          omega
        rintro i2 _ w ⟨rfl, hi2, s3, uu, hok3, hul3, hbot3, H⟩
        refine W.seq (fun K52 hK52 => ?_)
        refine W.seq (fun K53 hK53 => ?_)
        refine W.region ?_
        refine O.ex (Ex.move rfl) rfl ?_
        refine O.ex (Ex.move rfl) rfl ?_
        refine O.ex (Ex.lss rfl rfl) rfl ?_
        refine O.nil ?_
        refine hK53 _ _ _ ?_
        first | refine W.cond_p rfl (fun mlt => ?_) (fun mge => ?_) | refine W.cond_b rfl (fun mlt => ?_) (fun mge => ?_)
        · refine W.skip ?_
          refine hK52 _ _ _ ?_
          refine W.seq (fun K54 hK54 => ?_)
          refine W.block ?_
          refine W.seq (fun K55 hK55 => ?_)
          refine W.region ?_
          obtain ⟨uu', x, rfl⟩ : ∃ uu' x, uu = uu' ++ [x] := by
            rcases hist_cases uu with e | h
            · rw [e] at hul3
              have : ([] : List (OpM × St)).length = 0 := rfl
              omega
            · exact h
          rw [← List.append_assoc] at hok3 H
          refine O.ex (Ex.move rfl) rfl ?_
          refine O.callF Try.call55 rfl rfl (CT.mono (pun_ct hok3 (Holds.to (M := Uk b 32 n 64 s3 (trP (hM ++ uu' ++ [x])) :: _) (by assumption))) ?_)
          rintro _ w ⟨rfl, H⟩
          refine O.ex (Ex.move rfl) rfl ?_
          refine O.ex (Ex.extract rfl rfl) rfl ?_
          refine O.ex (Ex.extract rfl rfl) rfl ?_
          refine O.allocP Try.zeroValue93 (fun b18 w H => ?_)
          first | refine O.storeAggP Try.sizeOf93 rfl rfl rfl rfl (fun w H => ?_) | refine O.storeAggN Try.sizeOf93 rfl rfl rfl (fun w H => ?_) rfl
          refine O.ex (Ex.assign rfl) rfl ?_
          refine O.nil ?_
          refine hK55 _ _ _ ?_
          refine W.seq (fun K56 hK56 => ?_)
          refine W.region ?_
          refine O.ex (Ex.move rfl) rfl ?_
          refine O.ex (Ex.neqI rfl rfl) rfl ?_
          refine O.nil ?_
          refine hK56 _ _ _ ?_
          refine W.known_f rfl (by first | rfl | decide | exact decide_eq_false (fun hh => hh rfl)) ?_
          refine W.skip ?_
          refine hK54 _ _ _ ?_
          refine W.region ?_
          refine O.ex (Ex.move rfl) rfl ?_
          refine O.ex (by first | exact Ex.addI rfl rfl | exact Ex.add rfl rfl rfl) rfl ?_
          refine O.ex (Ex.assign rfl) rfl ?_
          refine O.nil ?_
          rw [bot_pop] at hbot3
          rw [List.length_append] at hul3
          have h1 : ([x] : List (OpM × St)).length = 1 := rfl
          exact ⟨i2 + 1, ⟨rfl, rfl, rfl, rfl, trivial⟩, ⟨rfl, by omega, x.2, uu', (hok_un hok3).1, by omega, hbot3, Holds.to (by assumption)⟩, by omega⟩
        · refine W.exit ?_
          refine hK50 _ _ _ ?_
          refine W.seq (fun K57 hK57 => ?_)
          refine W.region ?_
          obtain rfl : uu = [] := List.length_eq_zero_iff.1 (by omega)
          obtain rfl : s3 = s := hbot3
          refine O.ex (Ex.move rfl) rfl ?_
          refine O.callF Try.call62 rfl rfl (CT.mono (ugraph_ct hok3.ok (Holds.to (M := Uk b 32 n 64 s3 (trP (hM ++ [])) :: _) (by assumption))) ?_)
          rintro _ w ⟨c, rfl, H⟩
          refine O.callF Try.call61 rfl rfl (CT.mono (equal24_ct hok3.ok (Holds.to (by assumption))) ?_)
          rintro _ w ⟨rfl, H⟩
          refine O.ex (Ex.assign rfl) rfl ?_
          refine O.nil ?_
          refine hK57 _ _ _ ?_
          refine W.ret ?_
          try dsimp only [thenQ, blockQ, retQ]
          first | refine ⟨_, ⟨_, _, rfl, rfl, rfl⟩, ?_⟩ | (refine retD_mark ?_; intro w H; refine ⟨_, ⟨_, _, rfl, rfl, rfl⟩, ?_⟩) | (refine retD_mark2 ?_; intro w H; refine ⟨_, ⟨_, _, rfl, rfl, rfl⟩, ?_⟩)
          exact ⟨rfl, Holds.base_below (L := []) (Holds.to (by assumption))⟩
  · refine O.guard_f rfl rfl rfl rfl ?_
    refine O.guard_f rfl rfl rfl rfl ?_
    refine O.ex (Ex.pick_f rfl rfl) rfl ?_
    refine O.nil ?_
    refine hK11 _ _ _ ?_
    refine W.cond_f rfl ?_
    refine W.exit ?_
    refine hK8 _ _ _ ?_
    refine W.seq (fun K58 hK58 => ?_)
    refine W.region ?_
    obtain ⟨g, v1, v2, H0⟩ := rb_open.1 (Holds.to (M := RB r 32 n 64 s (trD h) :: Uk b 32 n 64 s (trP h) :: base w0 :: []) (by assumption))
    clear H
    have H : Holds w (pt r (.cells (rbc g 32 v1 v2) 107 (0, 0)) :: Rg g n 64 s :: arrN TG 322 (gE n 64) v1 ((trD h).map Prod.fst) :: arrN TA 4 aE v2 ((trD h).map Prod.snd) :: Uk b 32 n 64 s (trP h) :: base w0 :: []) := rbo_open.1 H0
    refine O.ex (Ex.move rfl) rfl ?_
    refine O.ex (by first | exact Ex.nilPtr rfl | exact Ex.nilFunc rfl | exact Ex.nilYield rfl) rfl ?_
    refine O.ex (by first | exact Ex.field0 fld107_0 rfl | exact Ex.field fld107_0 rfl | exact Ex.fieldS fld107_0 rfl | exact Ex.fieldIn fld107_0 rfl) rfl ?_
    refine O.ex (by first | exact Ex.loadMh Try.isAgg25 rfl | exact Ex.loadInF Try.isAgg25 rfl (Holds.to (by assumption)) | exact Ex.loadP Try.isAgg25 rfl | exact Ex.loadM Try.isAgg25 rfl | exact Ex.loadIn1 Try.isAgg25 rfl (Holds.to (by assumption)) | exact Ex.loadVc Try.isAgg25 rfl | exact Ex.loadR Try.isAgg25 rfl | exact Ex.loadQ Try.isAgg25 rfl) rfl ?_
    refine O.ex (by first | exact Ex.nilPtr rfl | exact Ex.nilFunc rfl | exact Ex.nilYield rfl) rfl ?_
    refine O.ex (Ex.loadRg Try.isAgg54 Try.sizeOf54 rfl) rfl ?_
    refine O.allocC rZ rfl (fun b12 w H => ?_)
    refine O.storeRg Try.sizeOf54 rfl rfl (fun w H => ?_) H
    refine O.nil ?_
    refine hK58 _ _ _ ?_
    refine W.seq (fun K59 hK59 => ?_)
    refine W.region ?_
    refine O.ex (Ex.assign rfl) rfl ?_
    refine O.nil ?_
    refine hK59 _ _ _ ?_
    refine W.seq (fun K60 hK60 => ?_)
    refine W.seq (fun K61 hK61 => ?_)
    refine W.region ?_
    refine O.ex (Ex.assign rfl) rfl ?_
    refine O.nil ?_
    refine hK61 _ _ _ ?_
    refine W.block ?_
    have H : Holds w (Uk b 32 n 64 s (trP h) :: Rg b12 n 64 s :: base w0 :: []) := Holds.to H
    refine W.loop (σ := Nat × Nat) (fun z => [(2, lv2), (8, .pointer (some ⟨b, 0, none⟩)), (12, .pointer (some ⟨b12, 0, none⟩)), (13, .int .i64 (z.2 : Int)), (14, .int .i64 (z.1 : Int))]) (fun z ds w => ds = [] ∧ z.1 ≤ l2.length ∧ z.1 ≤ 1001 ∧ z.2 ≤ 32 ∧ ∃ s2 hA u, HOk n 64 32 s2 (hA ++ u) ∧ u.length = z.2 ∧ bot s2 u = s ∧ Holds w (Uk b 32 n 64 s2 (trP (hA ++ u)) :: Rg b12 n 64 s :: base w0 :: [])) (fun z => 1001 - z.1) (0, 0) ⟨rfl, rfl, rfl, rfl, rfl, trivial⟩ ⟨rfl, by omega, by omega, by omega, s, h, [], by rw [List.append_nil]; exact hok, rfl, rfl, by rw [List.append_nil]; exact H⟩ ?_
    clear H
    rintro ⟨j, dn⟩ _ w ⟨rfl, hj, hj4, hdn, s2, hA, u, hok2, hul, hbot, H⟩
    dsimp only at hj hj4 hdn hul H ⊢
    refine W.seq (fun K62 hK62 => ?_)
    refine W.seq (fun K63 hK63 => ?_)
    refine W.region ?_
    refine O.ex (Ex.move rfl) rfl ?_
    refine O.ex (Ex.move rfl) rfl ?_
    refine O.ex (by first | exact Ex.lenN Try.runUnderlying82 rfl | exact Ex.lenIn Try.runUnderlying82 rfl | exact Ex.lenL Try.runUnderlying82 rfl | exact Ex.len rfl Try.runUnderlying82 rfl) rfl ?_
    refine O.ex (Ex.lss rfl rfl) rfl ?_
    refine O.ex (Ex.move rfl) rfl ?_
    first | refine O.split_p (t := 67) rfl (fun k1 => ?_) (fun k1 => ?_) | refine O.split (t := 67) rfl (fun k1 => ?_) (fun k1 => ?_)
    · refine O.guard_t rfl rfl ?_
      refine O.ex (Ex.move rfl) rfl ?_
      refine O.guard_t rfl rfl ?_
      refine O.ex (Ex.lss rfl rfl) rfl ?_
      refine O.ex (Ex.pick_t rfl rfl) rfl ?_
      refine O.nil ?_
      refine hK63 _ _ _ ?_
      first | refine W.cond_p rfl (fun klt => ?_) (fun kge => ?_) | refine W.cond_b rfl (fun klt => ?_) (fun kge => ?_)
      · refine W.skip ?_
        refine hK62 _ _ _ ?_
        refine W.seq (fun K64 hK64 => ?_)
        refine W.block ?_
        refine W.seq (fun K65 hK65 => ?_)
        refine W.region ?_
        have hj0 : (0 : Int) ≤ (j : Int) := by omega
        have hj1 : (j : Int) < l2.length := k1
        have hjl : j < l2.length := by omega
        have hjl2 : ((j : Nat) : Int).toNat < l2.length := by omega
        have hw2 := op_w hgk2 hjl
        obtain ⟨s', h', et, eh, eq, cd, hy, he, hcd, hok'⟩ := do_ex hok2 (l2.getD j default)
        refine O.ex (Ex.move rfl) rfl ?_
        refine O.ex (Ex.move rfl) rfl ?_
        refine O.ex (Ex.move rfl) rfl ?_
        refine O.ex (by first | exact Ex.idxIn Try.runUnderlying82 Try.sizeOf91 rfl rfl | exact Ex.idxN Try.runUnderlying82 Try.sizeOf91 rfl rfl | exact Ex.idxSN Try.runUnderlying82 Try.sizeOf91 rfl rfl | exact Ex.idx Try.runUnderlying82 Try.sizeOf91 rfl rfl (by omega) (by omega)) rfl ?_
        refine O.ex (by first | exact Ex.loadAggP Try.isAgg91 Try.sizeOf91 rfl | exact Ex.loadAggN Try.isAgg91 Try.sizeOf91 rfl | exact Ex.loadIn Try.isAgg91 Try.sizeOf91 rfl (Holds.to (by assumption))) rfl ?_
        refine O.callF Try.call58 rfl rfl (CT.mono (pdo_ct (op := l2.getD j default) hy he hcd hok2 hw2 (Holds.to (M := Uk b 32 n 64 s2 (trP (hA ++ u)) :: _) (by assumption))) ?_)
        rintro _ w ⟨rfl, H⟩
        refine O.ex (Ex.move rfl) rfl ?_
        refine O.ex (Ex.extract rfl rfl) rfl ?_
        refine O.ex (Ex.extract rfl rfl) rfl ?_
        refine O.allocP Try.zeroValue93 (fun b15 w H => ?_)
        first | refine O.storeAggP Try.sizeOf93 rfl rfl rfl rfl (fun w H => ?_) | refine O.storeAggN Try.sizeOf93 rfl rfl rfl (fun w H => ?_) rfl
        refine O.ex (Ex.assign rfl) rfl ?_
        refine O.nil ?_
        refine hK65 _ _ _ ?_
        refine W.seq (fun K66 hK66 => ?_)
        refine W.seq (fun K67 hK67 => ?_)
        refine W.region ?_
        refine O.ex (Ex.move rfl) rfl ?_
        refine O.ex (Ex.eqlI rfl rfl) rfl ?_
        refine O.nil ?_
        refine hK67 _ _ _ ?_
        first | refine W.cond_p rfl (fun hz => ?_) (fun hnz => ?_) | refine W.cond_b rfl (fun hz => ?_) (fun hnz => ?_)
        · refine W.region ?_
          obtain ⟨hA', eh', hbot'⟩ : ∃ hA', h' = hA' ++ (u ++ [(l2.getD j default, s2)]) ∧ bot s' (u ++ [(l2.getD j default, s2)]) = s := by
            refine ⟨if hA.length + u.length = 32 then hA.tail else hA, ?_, by rw [bot_push]; exact hbot⟩
            have e0 : opC n 64 s2 (l2.getD j default) = 0 := hcd.trans hz
            unfold hDo at hy
            rw [if_pos e0] at hy
            have e2 : h' = trPush 32 (hA ++ u) (l2.getD j default, s2) := (congrArg Prod.snd hy).symm
            rw [e2]
            show trPush 32 (hA ++ u) (l2.getD j default, s2) = _
            unfold trPush
            rw [List.length_append]
            by_cases e : hA.length + u.length = 32
            · rw [if_pos e, if_pos e]
              cases hA with
              | nil => simp at e; omega
              | cons a hA => simp
            · rw [if_neg e, if_neg e, List.append_assoc]
          rw [eh'] at hok' H
          have hul' : (u ++ [(l2.getD j default, s2)]).length = dn + 1 := by rw [List.length_append, hul]; rfl
          refine O.ex (Ex.move rfl) rfl ?_
          refine O.ex (by first | exact Ex.addI rfl rfl | exact Ex.add rfl rfl rfl) rfl ?_
          refine O.ex (Ex.assign rfl) rfl ?_
          refine O.nil ?_
          refine hK66 _ _ _ ?_
          refine W.seq (fun K68 hK68 => ?_)
          refine W.region ?_
          obtain ⟨hA'', u'', hokN, hulN, hbotN, hdnN, H⟩ : ∃ hA'' u'', HOk n 64 32 s' (hA'' ++ u'') ∧ u''.length = (if cd = 0 then dn + 1 else dn) ∧ bot s' u'' = s ∧ (if cd = 0 then dn + 1 else dn) ≤ 32 ∧ Holds w (Uk b 32 n 64 s' (trP (hA'' ++ u'')) :: Rg b12 n 64 s :: base w0 :: []) := by
            first
            | (have hz' : cd = 0 := hz
               rw [if_pos hz']
               exact ⟨hA', _, hok', hul', hbot', by omega, Holds.to H⟩)
            | (have hz' : ¬ cd = 0 := hnz
               rw [if_neg hz']
               have e0 : ¬ opC n 64 s2 (l2.getD j default) = 0 := fun k => hz' (hcd.symm.trans k)
               unfold hDo at hy
               rw [if_neg e0] at hy
               obtain ⟨rfl, rfl⟩ := Prod.mk.inj hy
               exact ⟨hA, u, hok2, hul, hbot, hdn, Holds.to H⟩)
          refine O.ex (Ex.move rfl) rfl ?_
          refine O.ex (Ex.gtr rfl rfl) rfl ?_
          refine O.nil ?_
          refine hK68 _ _ _ ?_
          first | refine W.cond_p rfl (fun hbig => ?_) (fun hsm => ?_) | refine W.cond_b rfl (fun hbig => ?_) (fun hsm => ?_)
          · refine W.exit ?_
            refine hK60 _ _ _ ?_
            refine W.seq (fun K69 hK69 => ?_)
            refine W.seq (fun K70 hK70 => ?_)
            refine W.region ?_
            refine O.ex (Ex.assign rfl) rfl ?_
            refine O.nil ?_
            refine hK70 _ _ _ ?_
            refine W.block ?_
            first
            | (have hz' : cd = 0 := hz
               rw [if_pos hz'] at hulN hdnN
               obtain ⟨dm, hdm⟩ : ∃ dm : Nat, (dm : Int) = (dn : Int) + 1 := ⟨dn + 1, rfl⟩
               rw [← hdm]
               obtain ⟨sm, hM, uM, hokM, hulM, hbotM, HM⟩ : ∃ sm hM uM, HOk n 64 32 sm (hM ++ uM) ∧ uM.length = dm ∧ bot sm uM = s ∧ Holds w (Uk b 32 n 64 sm (trP (hM ++ uM)) :: Rg b12 n 64 s :: base w0 :: []) := ⟨s', hA'', u'', hokN, by omega, hbotN, H⟩)
            | (have hz' : ¬ cd = 0 := hnz
               rw [if_neg hz'] at hulN hdnN
               obtain ⟨dm, hdm⟩ : ∃ dm : Nat, (dm : Int) = (dn : Int) := ⟨dn, rfl⟩
               rw [← hdm]
               obtain ⟨sm, hM, uM, hokM, hulM, hbotM, HM⟩ : ∃ sm hM uM, HOk n 64 32 sm (hM ++ uM) ∧ uM.length = dm ∧ bot sm uM = s ∧ Holds w (Uk b 32 n 64 sm (trP (hM ++ uM)) :: Rg b12 n 64 s :: base w0 :: []) := ⟨s', hA'', u'', hokN, by omega, hbotN, H⟩)
            | (obtain ⟨dm, hdm⟩ : ∃ dm : Nat, (dm : Int) = (dn : Int) := ⟨dn, rfl⟩
               rw [← hdm]
               obtain ⟨sm, hM, uM, hokM, hulM, hbotM, HM⟩ : ∃ sm hM uM, HOk n 64 32 sm (hM ++ uM) ∧ uM.length = dm ∧ bot sm uM = s ∧ Holds w (Uk b 32 n 64 sm (trP (hM ++ uM)) :: Rg b12 n 64 s :: base w0 :: []) := ⟨s2, hA, u, hok2, by omega, hbot, Holds.to (by assumption)⟩)
            refine W.loop (σ := Nat) (fun i => [(8, .pointer (some ⟨b, 0, none⟩)), (12, .pointer (some ⟨b12, 0, none⟩)), (13, .int .i64 (dm : Int)), (17, .int .i64 (i : Int))]) (fun i ds w => ds = [] ∧ i ≤ dm ∧ ∃ s3 uu, HOk n 64 32 s3 (hM ++ uu) ∧ uu.length + i = dm ∧ bot s3 uu = s ∧ Holds w (Uk b 32 n 64 s3 (trP (hM ++ uu)) :: Rg b12 n 64 s :: base w0 :: [])) (fun i => dm - i) 0 ⟨rfl, rfl, rfl, rfl, trivial⟩ ⟨rfl, by omega, sm, uM, hokM, by omega, hbotM, HM⟩ ?_
            clear HM
            have hdm32 : dm ≤ 32 := by
              have := hokM.len
              rw [List.length_append] at this
              omega
            rintro i2 _ w ⟨rfl, hi2, s3, uu, hok3, hul3, hbot3, H⟩
            refine W.seq (fun K71 hK71 => ?_)
            refine W.seq (fun K72 hK72 => ?_)
            refine W.region ?_
            refine O.ex (Ex.move rfl) rfl ?_
            refine O.ex (Ex.move rfl) rfl ?_
            refine O.ex (Ex.lss rfl rfl) rfl ?_
            refine O.nil ?_
            refine hK72 _ _ _ ?_
            first | refine W.cond_p rfl (fun mlt => ?_) (fun mge => ?_) | refine W.cond_b rfl (fun mlt => ?_) (fun mge => ?_)
            · refine W.skip ?_
              refine hK71 _ _ _ ?_
              refine W.seq (fun K73 hK73 => ?_)
              refine W.block ?_
              refine W.seq (fun K74 hK74 => ?_)
              refine W.region ?_
              obtain ⟨uu', x, rfl⟩ : ∃ uu' x, uu = uu' ++ [x] := by
                rcases hist_cases uu with e | h
                · rw [e] at hul3
                  have : ([] : List (OpM × St)).length = 0 := rfl
                  omega
                · exact h
              rw [← List.append_assoc] at hok3 H
              refine O.ex (Ex.move rfl) rfl ?_
              refine O.callF Try.call55 rfl rfl (CT.mono (pun_ct hok3 (Holds.to (M := Uk b 32 n 64 s3 (trP (hM ++ uu' ++ [x])) :: _) (by assumption))) ?_)
              rintro _ w ⟨rfl, H⟩
              refine O.ex (Ex.move rfl) rfl ?_
              refine O.ex (Ex.extract rfl rfl) rfl ?_
              refine O.ex (Ex.extract rfl rfl) rfl ?_
              refine O.allocP Try.zeroValue93 (fun b18 w H => ?_)
              first | refine O.storeAggP Try.sizeOf93 rfl rfl rfl rfl (fun w H => ?_) | refine O.storeAggN Try.sizeOf93 rfl rfl rfl (fun w H => ?_) rfl
              refine O.ex (Ex.assign rfl) rfl ?_
              refine O.nil ?_
              refine hK74 _ _ _ ?_
              refine W.seq (fun K75 hK75 => ?_)
              refine W.region ?_
              refine O.ex (Ex.move rfl) rfl ?_
              refine O.ex (Ex.neqI rfl rfl) rfl ?_
              refine O.nil ?_
              refine hK75 _ _ _ ?_
              refine W.known_f rfl (by first | rfl | decide | exact decide_eq_false (fun hh => hh rfl)) ?_
              refine W.skip ?_
              refine hK73 _ _ _ ?_
              refine W.region ?_
              refine O.ex (Ex.move rfl) rfl ?_
              refine O.ex (by first | exact Ex.addI rfl rfl | exact Ex.add rfl rfl rfl) rfl ?_
              refine O.ex (Ex.assign rfl) rfl ?_
              refine O.nil ?_
              rw [bot_pop] at hbot3
              rw [List.length_append] at hul3
              have h1 : ([x] : List (OpM × St)).length = 1 := rfl
              exact ⟨i2 + 1, ⟨rfl, rfl, rfl, rfl, trivial⟩, ⟨rfl, by omega, x.2, uu', (hok_un hok3).1, by omega, hbot3, Holds.to (by assumption)⟩, by omega⟩
            · refine W.exit ?_
              refine hK69 _ _ _ ?_
              refine W.seq (fun K76 hK76 => ?_)
              refine W.region ?_
              obtain rfl : uu = [] := List.length_eq_zero_iff.1 (by omega)
              obtain rfl : s3 = s := hbot3
              refine O.ex (Ex.move rfl) rfl ?_
              refine O.callF Try.call62 rfl rfl (CT.mono (ugraph_ct hok3.ok (Holds.to (M := Uk b 32 n 64 s3 (trP (hM ++ [])) :: _) (by assumption))) ?_)
              rintro _ w ⟨c, rfl, H⟩
              refine O.callF Try.call61 rfl rfl (CT.mono (equal24_ct hok3.ok (Holds.to (by assumption))) ?_)
              rintro _ w ⟨rfl, H⟩
              refine O.ex (Ex.assign rfl) rfl ?_
              refine O.nil ?_
              refine hK76 _ _ _ ?_
              refine W.ret ?_
              try dsimp only [thenQ, blockQ, retQ]
              first | refine ⟨_, ⟨_, _, rfl, rfl, rfl⟩, ?_⟩ | (refine retD_mark ?_; intro w H; refine ⟨_, ⟨_, _, rfl, rfl, rfl⟩, ?_⟩) | (refine retD_mark2 ?_; intro w H; refine ⟨_, ⟨_, _, rfl, rfl, rfl⟩, ?_⟩)
              exact ⟨rfl, Holds.base_below (L := []) (Holds.to (by assumption))⟩
          · refine W.skip ?_
            refine hK64 _ _ _ ?_
            refine W.region ?_
            refine O.ex (Ex.move rfl) rfl ?_
            refine O.ex (by first | exact Ex.addI rfl rfl | exact Ex.add rfl rfl rfl) rfl ?_
            refine O.ex (Ex.assign rfl) rfl ?_
            refine O.nil ?_
            first
            | (have hz' : cd = 0 := hz
               rw [if_pos hz'] at hulN hdnN
               exact ⟨(j + 1, dn + 1), ⟨rfl, rfl, rfl, rfl, rfl, trivial⟩, ⟨rfl, by dsimp only; omega, by dsimp only; omega, hdnN, s', hA'', u'', hokN, hulN, hbotN, H⟩, by dsimp only; omega⟩)
            | (have hz' : ¬ cd = 0 := hnz
               rw [if_neg hz'] at hulN hdnN
               exact ⟨(j + 1, dn), ⟨rfl, rfl, rfl, rfl, rfl, trivial⟩, ⟨rfl, by dsimp only; omega, by dsimp only; omega, hdnN, s', hA'', u'', hokN, hulN, hbotN, H⟩, by dsimp only; omega⟩)
        · refine W.skip ?_
          refine hK66 _ _ _ ?_
          refine W.seq (fun K77 hK77 => ?_)
          refine W.region ?_
          obtain ⟨hA'', u'', hokN, hulN, hbotN, hdnN, H⟩ : ∃ hA'' u'', HOk n 64 32 s' (hA'' ++ u'') ∧ u''.length = (if cd = 0 then dn + 1 else dn) ∧ bot s' u'' = s ∧ (if cd = 0 then dn + 1 else dn) ≤ 32 ∧ Holds w (Uk b 32 n 64 s' (trP (hA'' ++ u'')) :: Rg b12 n 64 s :: base w0 :: []) := by
            first
            | (have hz' : cd = 0 := hz
               rw [if_pos hz']
               exact ⟨hA', _, hok', hul', hbot', by omega, Holds.to H⟩)
            | (have hz' : ¬ cd = 0 := hnz
               rw [if_neg hz']
               have e0 : ¬ opC n 64 s2 (l2.getD j default) = 0 := fun k => hz' (hcd.symm.trans k)
               unfold hDo at hy
               rw [if_neg e0] at hy
               obtain ⟨rfl, rfl⟩ := Prod.mk.inj hy
               exact ⟨hA, u, hok2, hul, hbot, hdn, Holds.to H⟩)
          refine O.ex (Ex.move rfl) rfl ?_
          refine O.ex (Ex.gtr rfl rfl) rfl ?_
          refine O.nil ?_
          refine hK77 _ _ _ ?_
          first | refine W.cond_p rfl (fun hbig => ?_) (fun hsm => ?_) | refine W.cond_b rfl (fun hbig => ?_) (fun hsm => ?_)
          · refine W.exit ?_
            refine hK60 _ _ _ ?_
            refine W.seq (fun K78 hK78 => ?_)
            refine W.seq (fun K79 hK79 => ?_)
            refine W.region ?_
            refine O.ex (Ex.assign rfl) rfl ?_
            refine O.nil ?_
            refine hK79 _ _ _ ?_
            refine W.block ?_
            first
            | (have hz' : cd = 0 := hz
               rw [if_pos hz'] at hulN hdnN
               obtain ⟨dm, hdm⟩ : ∃ dm : Nat, (dm : Int) = (dn : Int) + 1 := ⟨dn + 1, rfl⟩
               rw [← hdm]
               obtain ⟨sm, hM, uM, hokM, hulM, hbotM, HM⟩ : ∃ sm hM uM, HOk n 64 32 sm (hM ++ uM) ∧ uM.length = dm ∧ bot sm uM = s ∧ Holds w (Uk b 32 n 64 sm (trP (hM ++ uM)) :: Rg b12 n 64 s :: base w0 :: []) := ⟨s', hA'', u'', hokN, by omega, hbotN, H⟩)
            | (have hz' : ¬ cd = 0 := hnz
               rw [if_neg hz'] at hulN hdnN
               obtain ⟨dm, hdm⟩ : ∃ dm : Nat, (dm : Int) = (dn : Int) := ⟨dn, rfl⟩
               rw [← hdm]
               obtain ⟨sm, hM, uM, hokM, hulM, hbotM, HM⟩ : ∃ sm hM uM, HOk n 64 32 sm (hM ++ uM) ∧ uM.length = dm ∧ bot sm uM = s ∧ Holds w (Uk b 32 n 64 sm (trP (hM ++ uM)) :: Rg b12 n 64 s :: base w0 :: []) := ⟨s', hA'', u'', hokN, by omega, hbotN, H⟩)
            | (obtain ⟨dm, hdm⟩ : ∃ dm : Nat, (dm : Int) = (dn : Int) := ⟨dn, rfl⟩
               rw [← hdm]
               obtain ⟨sm, hM, uM, hokM, hulM, hbotM, HM⟩ : ∃ sm hM uM, HOk n 64 32 sm (hM ++ uM) ∧ uM.length = dm ∧ bot sm uM = s ∧ Holds w (Uk b 32 n 64 sm (trP (hM ++ uM)) :: Rg b12 n 64 s :: base w0 :: []) := ⟨s2, hA, u, hok2, by omega, hbot, Holds.to (by assumption)⟩)
            refine W.loop (σ := Nat) (fun i => [(8, .pointer (some ⟨b, 0, none⟩)), (12, .pointer (some ⟨b12, 0, none⟩)), (13, .int .i64 (dm : Int)), (17, .int .i64 (i : Int))]) (fun i ds w => ds = [] ∧ i ≤ dm ∧ ∃ s3 uu, HOk n 64 32 s3 (hM ++ uu) ∧ uu.length + i = dm ∧ bot s3 uu = s ∧ Holds w (Uk b 32 n 64 s3 (trP (hM ++ uu)) :: Rg b12 n 64 s :: base w0 :: [])) (fun i => dm - i) 0 ⟨rfl, rfl, rfl, rfl, trivial⟩ ⟨rfl, by omega, sm, uM, hokM, by omega, hbotM, HM⟩ ?_
            clear HM
            have hdm32 : dm ≤ 32 := by
              have := hokM.len
              rw [List.length_append] at this
              omega
            rintro i2 _ w ⟨rfl, hi2, s3, uu, hok3, hul3, hbot3, H⟩
            refine W.seq (fun K80 hK80 => ?_)
            refine W.seq (fun K81 hK81 => ?_)
            refine W.region ?_
            refine O.ex (Ex.move rfl) rfl ?_
            refine O.ex (Ex.move rfl) rfl ?_
            refine O.ex (Ex.lss rfl rfl) rfl ?_
            refine O.nil ?_
            refine hK81 _ _ _ ?_
            first | refine W.cond_p rfl (fun mlt => ?_) (fun mge => ?_) | refine W.cond_b rfl (fun mlt => ?_) (fun mge => ?_)
            · refine W.skip ?_
              refine hK80 _ _ _ ?_
              refine W.seq (fun K82 hK82 => ?_)
              refine W.block ?_
              refine W.seq (fun K83 hK83 => ?_)
              refine W.region ?_
              obtain ⟨uu', x, rfl⟩ : ∃ uu' x, uu = uu' ++ [x] := by
                rcases hist_cases uu with e | h
                · rw [e] at hul3
                  have : ([] : List (OpM × St)).length = 0 := rfl
                  omega
                · exact h
              rw [← List.append_assoc] at hok3 H
              refine O.ex (Ex.move rfl) rfl ?_
              refine O.callF Try.call55 rfl rfl (CT.mono (pun_ct hok3 (Holds.to (M := Uk b 32 n 64 s3 (trP (hM ++ uu' ++ [x])) :: _) (by assumption))) ?_)
              rintro _ w ⟨rfl, H⟩
              refine O.ex (Ex.move rfl) rfl ?_
              refine O.ex (Ex.extract rfl rfl) rfl ?_
              refine O.ex (Ex.extract rfl rfl) rfl ?_
              refine O.allocP Try.zeroValue93 (fun b18 w H => ?_)
              first | refine O.storeAggP Try.sizeOf93 rfl rfl rfl rfl (fun w H => ?_) | refine O.storeAggN Try.sizeOf93 rfl rfl rfl (fun w H => ?_) rfl
              refine O.ex (Ex.assign rfl) rfl ?_
              refine O.nil ?_
              refine hK83 _ _ _ ?_
              refine W.seq (fun K84 hK84 => ?_)
              refine W.region ?_
              refine O.ex (Ex.move rfl) rfl ?_
              refine O.ex (Ex.neqI rfl rfl) rfl ?_
              refine O.nil ?_
              refine hK84 _ _ _ ?_
              refine W.known_f rfl (by first | rfl | decide | exact decide_eq_false (fun hh => hh rfl)) ?_
              refine W.skip ?_
              refine hK82 _ _ _ ?_
              refine W.region ?_
              refine O.ex (Ex.move rfl) rfl ?_
              refine O.ex (by first | exact Ex.addI rfl rfl | exact Ex.add rfl rfl rfl) rfl ?_
              refine O.ex (Ex.assign rfl) rfl ?_
              refine O.nil ?_
              rw [bot_pop] at hbot3
              rw [List.length_append] at hul3
              have h1 : ([x] : List (OpM × St)).length = 1 := rfl
              exact ⟨i2 + 1, ⟨rfl, rfl, rfl, rfl, trivial⟩, ⟨rfl, by omega, x.2, uu', (hok_un hok3).1, by omega, hbot3, Holds.to (by assumption)⟩, by omega⟩
            · refine W.exit ?_
              refine hK78 _ _ _ ?_
              refine W.seq (fun K85 hK85 => ?_)
              refine W.region ?_
              obtain rfl : uu = [] := List.length_eq_zero_iff.1 (by omega)
              obtain rfl : s3 = s := hbot3
              refine O.ex (Ex.move rfl) rfl ?_
              refine O.callF Try.call62 rfl rfl (CT.mono (ugraph_ct hok3.ok (Holds.to (M := Uk b 32 n 64 s3 (trP (hM ++ [])) :: _) (by assumption))) ?_)
              rintro _ w ⟨c, rfl, H⟩
              refine O.callF Try.call61 rfl rfl (CT.mono (equal24_ct hok3.ok (Holds.to (by assumption))) ?_)
              rintro _ w ⟨rfl, H⟩
              refine O.ex (Ex.assign rfl) rfl ?_
              refine O.nil ?_
              refine hK85 _ _ _ ?_
              refine W.ret ?_
              try dsimp only [thenQ, blockQ, retQ]
              first | refine ⟨_, ⟨_, _, rfl, rfl, rfl⟩, ?_⟩ | (refine retD_mark ?_; intro w H; refine ⟨_, ⟨_, _, rfl, rfl, rfl⟩, ?_⟩) | (refine retD_mark2 ?_; intro w H; refine ⟨_, ⟨_, _, rfl, rfl, rfl⟩, ?_⟩)
              exact ⟨rfl, Holds.base_below (L := []) (Holds.to (by assumption))⟩
          · refine W.skip ?_
            refine hK64 _ _ _ ?_
            refine W.region ?_
            refine O.ex (Ex.move rfl) rfl ?_
            refine O.ex (by first | exact Ex.addI rfl rfl | exact Ex.add rfl rfl rfl) rfl ?_
            refine O.ex (Ex.assign rfl) rfl ?_
            refine O.nil ?_
            first
            | (have hz' : cd = 0 := hz
               rw [if_pos hz'] at hulN hdnN
               exact ⟨(j + 1, dn + 1), ⟨rfl, rfl, rfl, rfl, rfl, trivial⟩, ⟨rfl, by dsimp only; omega, by dsimp only; omega, hdnN, s', hA'', u'', hokN, hulN, hbotN, H⟩, by dsimp only; omega⟩)
            | (have hz' : ¬ cd = 0 := hnz
               rw [if_neg hz'] at hulN hdnN
               exact ⟨(j + 1, dn), ⟨rfl, rfl, rfl, rfl, rfl, trivial⟩, ⟨rfl, by dsimp only; omega, by dsimp only; omega, hdnN, s', hA'', u'', hokN, hulN, hbotN, H⟩, by dsimp only; omega⟩)
      · refine W.exit ?_
        refine hK60 _ _ _ ?_
        refine W.seq (fun K86 hK86 => ?_)
        refine W.seq (fun K87 hK87 => ?_)
        refine W.region ?_
        refine O.ex (Ex.assign rfl) rfl ?_
        refine O.nil ?_
        refine hK87 _ _ _ ?_
        refine W.block ?_
        first
        | (have hz' : cd = 0 := hz
           rw [if_pos hz'] at hulN hdnN
           obtain ⟨dm, hdm⟩ : ∃ dm : Nat, (dm : Int) = (dn : Int) + 1 := ⟨dn + 1, rfl⟩
           rw [← hdm]
           obtain ⟨sm, hM, uM, hokM, hulM, hbotM, HM⟩ : ∃ sm hM uM, HOk n 64 32 sm (hM ++ uM) ∧ uM.length = dm ∧ bot sm uM = s ∧ Holds w (Uk b 32 n 64 sm (trP (hM ++ uM)) :: Rg b12 n 64 s :: base w0 :: []) := ⟨s', hA'', u'', hokN, by omega, hbotN, H⟩)
        | (have hz' : ¬ cd = 0 := hnz
           rw [if_neg hz'] at hulN hdnN
           obtain ⟨dm, hdm⟩ : ∃ dm : Nat, (dm : Int) = (dn : Int) := ⟨dn, rfl⟩
           rw [← hdm]
           obtain ⟨sm, hM, uM, hokM, hulM, hbotM, HM⟩ : ∃ sm hM uM, HOk n 64 32 sm (hM ++ uM) ∧ uM.length = dm ∧ bot sm uM = s ∧ Holds w (Uk b 32 n 64 sm (trP (hM ++ uM)) :: Rg b12 n 64 s :: base w0 :: []) := ⟨s', hA'', u'', hokN, by omega, hbotN, H⟩)
        | (obtain ⟨dm, hdm⟩ : ∃ dm : Nat, (dm : Int) = (dn : Int) := ⟨dn, rfl⟩
           rw [← hdm]
           obtain ⟨sm, hM, uM, hokM, hulM, hbotM, HM⟩ : ∃ sm hM uM, HOk n 64 32 sm (hM ++ uM) ∧ uM.length = dm ∧ bot sm uM = s ∧ Holds w (Uk b 32 n 64 sm (trP (hM ++ uM)) :: Rg b12 n 64 s :: base w0 :: []) := ⟨s2, hA, u, hok2, by omega, hbot, Holds.to (by assumption)⟩)
        refine W.loop (σ := Nat) (fun i => [(8, .pointer (some ⟨b, 0, none⟩)), (12, .pointer (some ⟨b12, 0, none⟩)), (13, .int .i64 (dm : Int)), (17, .int .i64 (i : Int))]) (fun i ds w => ds = [] ∧ i ≤ dm ∧ ∃ s3 uu, HOk n 64 32 s3 (hM ++ uu) ∧ uu.length + i = dm ∧ bot s3 uu = s ∧ Holds w (Uk b 32 n 64 s3 (trP (hM ++ uu)) :: Rg b12 n 64 s :: base w0 :: [])) (fun i => dm - i) 0 ⟨rfl, rfl, rfl, rfl, trivial⟩ ⟨rfl, by omega, sm, uM, hokM, by omega, hbotM, HM⟩ ?_
        clear HM
        have hdm32 : dm ≤ 32 := by
          have := hokM.len
          rw [List.length_append] at this
          omega
        rintro i2 _ w ⟨rfl, hi2, s3, uu, hok3, hul3, hbot3, H⟩
        refine W.seq (fun K88 hK88 => ?_)
        refine W.seq (fun K89 hK89 => ?_)
        refine W.region ?_
        refine O.ex (Ex.move rfl) rfl ?_
        refine O.ex (Ex.move rfl) rfl ?_
        refine O.ex (Ex.lss rfl rfl) rfl ?_
        refine O.nil ?_
        refine hK89 _ _ _ ?_
        first | refine W.cond_p rfl (fun mlt => ?_) (fun mge => ?_) | refine W.cond_b rfl (fun mlt => ?_) (fun mge => ?_)
        · refine W.skip ?_
          refine hK88 _ _ _ ?_
          refine W.seq (fun K90 hK90 => ?_)
          refine W.block ?_
          refine W.seq (fun K91 hK91 => ?_)
          refine W.region ?_
          obtain ⟨uu', x, rfl⟩ : ∃ uu' x, uu = uu' ++ [x] := by
            rcases hist_cases uu with e | h
            · rw [e] at hul3
              have : ([] : List (OpM × St)).length = 0 := rfl
              omega
            · exact h
          rw [← List.append_assoc] at hok3 H
          refine O.ex (Ex.move rfl) rfl ?_
          refine O.callF Try.call55 rfl rfl (CT.mono (pun_ct hok3 (Holds.to (M := Uk b 32 n 64 s3 (trP (hM ++ uu' ++ [x])) :: _) (by assumption))) ?_)
          rintro _ w ⟨rfl, H⟩
          refine O.ex (Ex.move rfl) rfl ?_
          refine O.ex (Ex.extract rfl rfl) rfl ?_
          refine O.ex (Ex.extract rfl rfl) rfl ?_
          refine O.allocP Try.zeroValue93 (fun b18 w H => ?_)
          first | refine O.storeAggP Try.sizeOf93 rfl rfl rfl rfl (fun w H => ?_) | refine O.storeAggN Try.sizeOf93 rfl rfl rfl (fun w H => ?_) rfl
          refine O.ex (Ex.assign rfl) rfl ?_
          refine O.nil ?_
          refine hK91 _ _ _ ?_
          refine W.seq (fun K92 hK92 => ?_)
          refine W.region ?_
          refine O.ex (Ex.move rfl) rfl ?_
          refine O.ex (Ex.neqI rfl rfl) rfl ?_
          refine O.nil ?_
          refine hK92 _ _ _ ?_
          refine W.known_f rfl (by first | rfl | decide | exact decide_eq_false (fun hh => hh rfl)) ?_
          refine W.skip ?_
          refine hK90 _ _ _ ?_
          refine W.region ?_
          refine O.ex (Ex.move rfl) rfl ?_
          refine O.ex (by first | exact Ex.addI rfl rfl | exact Ex.add rfl rfl rfl) rfl ?_
          refine O.ex (Ex.assign rfl) rfl ?_
          refine O.nil ?_
          rw [bot_pop] at hbot3
          rw [List.length_append] at hul3
          have h1 : ([x] : List (OpM × St)).length = 1 := rfl
          exact ⟨i2 + 1, ⟨rfl, rfl, rfl, rfl, trivial⟩, ⟨rfl, by omega, x.2, uu', (hok_un hok3).1, by omega, hbot3, Holds.to (by assumption)⟩, by omega⟩
        · refine W.exit ?_
          refine hK86 _ _ _ ?_
          refine W.seq (fun K93 hK93 => ?_)
          refine W.region ?_
          obtain rfl : uu = [] := List.length_eq_zero_iff.1 (by omega)
          obtain rfl : s3 = s := hbot3
          refine O.ex (Ex.move rfl) rfl ?_
          refine O.callF Try.call62 rfl rfl (CT.mono (ugraph_ct hok3.ok (Holds.to (M := Uk b 32 n 64 s3 (trP (hM ++ [])) :: _) (by assumption))) ?_)
          rintro _ w ⟨c, rfl, H⟩
          refine O.callF Try.call61 rfl rfl (CT.mono (equal24_ct hok3.ok (Holds.to (by assumption))) ?_)
          rintro _ w ⟨rfl, H⟩
          refine O.ex (Ex.assign rfl) rfl ?_
          refine O.nil ?_
          refine hK93 _ _ _ ?_
          refine W.ret ?_
          try dsimp only [thenQ, blockQ, retQ]
          first | refine ⟨_, ⟨_, _, rfl, rfl, rfl⟩, ?_⟩ | (refine retD_mark ?_; intro w H; refine ⟨_, ⟨_, _, rfl, rfl, rfl⟩, ?_⟩) | (refine retD_mark2 ?_; intro w H; refine ⟨_, ⟨_, _, rfl, rfl, rfl⟩, ?_⟩)
          exact ⟨rfl, Holds.base_below (L := []) (Holds.to (by assumption))⟩
    · refine O.guard_f rfl rfl rfl rfl ?_
      refine O.guard_f rfl rfl rfl rfl ?_
      refine O.ex (Ex.pick_f rfl rfl) rfl ?_
      refine O.nil ?_
      refine hK63 _ _ _ ?_
      refine W.cond_f rfl ?_
      refine W.exit ?_
      refine hK60 _ _ _ ?_
      refine W.seq (fun K94 hK94 => ?_)
      refine W.seq (fun K95 hK95 => ?_)
      refine W.region ?_
      refine O.ex (Ex.assign rfl) rfl ?_
      refine O.nil ?_
      refine hK95 _ _ _ ?_
      refine W.block ?_
      first
      | (have hz' : cd = 0 := hz
         rw [if_pos hz'] at hulN hdnN
         obtain ⟨dm, hdm⟩ : ∃ dm : Nat, (dm : Int) = (dn : Int) + 1 := ⟨dn + 1, rfl⟩
         rw [← hdm]
         obtain ⟨sm, hM, uM, hokM, hulM, hbotM, HM⟩ : ∃ sm hM uM, HOk n 64 32 sm (hM ++ uM) ∧ uM.length = dm ∧ bot sm uM = s ∧ Holds w (Uk b 32 n 64 sm (trP (hM ++ uM)) :: Rg b12 n 64 s :: base w0 :: []) := ⟨s', hA'', u'', hokN, by omega, hbotN, H⟩)
      | (have hz' : ¬ cd = 0 := hnz
         rw [if_neg hz'] at hulN hdnN
         obtain ⟨dm, hdm⟩ : ∃ dm : Nat, (dm : Int) = (dn : Int) := ⟨dn, rfl⟩
         rw [← hdm]
         obtain ⟨sm, hM, uM, hokM, hulM, hbotM, HM⟩ : ∃ sm hM uM, HOk n 64 32 sm (hM ++ uM) ∧ uM.length = dm ∧ bot sm uM = s ∧ Holds w (Uk b 32 n 64 sm (trP (hM ++ uM)) :: Rg b12 n 64 s :: base w0 :: []) := ⟨s', hA'', u'', hokN, by omega, hbotN, H⟩)
      | (obtain ⟨dm, hdm⟩ : ∃ dm : Nat, (dm : Int) = (dn : Int) := ⟨dn, rfl⟩
         rw [← hdm]
         obtain ⟨sm, hM, uM, hokM, hulM, hbotM, HM⟩ : ∃ sm hM uM, HOk n 64 32 sm (hM ++ uM) ∧ uM.length = dm ∧ bot sm uM = s ∧ Holds w (Uk b 32 n 64 sm (trP (hM ++ uM)) :: Rg b12 n 64 s :: base w0 :: []) := ⟨s2, hA, u, hok2, by omega, hbot, Holds.to (by assumption)⟩)
      refine W.loop (σ := Nat) (fun i => [(8, .pointer (some ⟨b, 0, none⟩)), (12, .pointer (some ⟨b12, 0, none⟩)), (13, .int .i64 (dm : Int)), (17, .int .i64 (i : Int))]) (fun i ds w => ds = [] ∧ i ≤ dm ∧ ∃ s3 uu, HOk n 64 32 s3 (hM ++ uu) ∧ uu.length + i = dm ∧ bot s3 uu = s ∧ Holds w (Uk b 32 n 64 s3 (trP (hM ++ uu)) :: Rg b12 n 64 s :: base w0 :: [])) (fun i => dm - i) 0 ⟨rfl, rfl, rfl, rfl, trivial⟩ ⟨rfl, by omega, sm, uM, hokM, by omega, hbotM, HM⟩ ?_
      clear HM
      have hdm32 : dm ≤ 32 := by
        have := hokM.len
        rw [List.length_append] at this
        omega
      rintro i2 _ w ⟨rfl, hi2, s3, uu, hok3, hul3, hbot3, H⟩
      refine W.seq (fun K96 hK96 => ?_)
      refine W.seq (fun K97 hK97 => ?_)
      refine W.region ?_
      refine O.ex (Ex.move rfl) rfl ?_
      refine O.ex (Ex.move rfl) rfl ?_
      refine O.ex (Ex.lss rfl rfl) rfl ?_
      refine O.nil ?_
      refine hK97 _ _ _ ?_
      first | refine W.cond_p rfl (fun mlt => ?_) (fun mge => ?_) | refine W.cond_b rfl (fun mlt => ?_) (fun mge => ?_)
      · refine W.skip ?_
        refine hK96 _ _ _ ?_
        refine W.seq (fun K98 hK98 => ?_)
        refine W.block ?_
        refine W.seq (fun K99 hK99 => ?_)
        refine W.region ?_
        obtain ⟨uu', x, rfl⟩ : ∃ uu' x, uu = uu' ++ [x] := by
          rcases hist_cases uu with e | h
          · rw [e] at hul3
            have : ([] : List (OpM × St)).length = 0 := rfl
            omega
          · exact h
        rw [← List.append_assoc] at hok3 H
        refine O.ex (Ex.move rfl) rfl ?_
        refine O.callF Try.call55 rfl rfl (CT.mono (pun_ct hok3 (Holds.to (M := Uk b 32 n 64 s3 (trP (hM ++ uu' ++ [x])) :: _) (by assumption))) ?_)
        rintro _ w ⟨rfl, H⟩
        refine O.ex (Ex.move rfl) rfl ?_
        refine O.ex (Ex.extract rfl rfl) rfl ?_
        refine O.ex (Ex.extract rfl rfl) rfl ?_
        refine O.allocP Try.zeroValue93 (fun b18 w H => ?_)
        first | refine O.storeAggP Try.sizeOf93 rfl rfl rfl rfl (fun w H => ?_) | refine O.storeAggN Try.sizeOf93 rfl rfl rfl (fun w H => ?_) rfl
        refine O.ex (Ex.assign rfl) rfl ?_
        refine O.nil ?_
        refine hK99 _ _ _ ?_
        refine W.seq (fun K100 hK100 => ?_)
        refine W.region ?_
        refine O.ex (Ex.move rfl) rfl ?_
        refine O.ex (Ex.neqI rfl rfl) rfl ?_
        refine O.nil ?_
        refine hK100 _ _ _ ?_
        refine W.known_f rfl (by first | rfl | decide | exact decide_eq_false (fun hh => hh rfl)) ?_
        refine W.skip ?_
        refine hK98 _ _ _ ?_
        refine W.region ?_
        refine O.ex (Ex.move rfl) rfl ?_
        refine O.ex (by first | exact Ex.addI rfl rfl | exact Ex.add rfl rfl rfl) rfl ?_
        refine O.ex (Ex.assign rfl) rfl ?_
        refine O.nil ?_
        rw [bot_pop] at hbot3
        rw [List.length_append] at hul3
        have h1 : ([x] : List (OpM × St)).length = 1 := rfl
        exact ⟨i2 + 1, ⟨rfl, rfl, rfl, rfl, trivial⟩, ⟨rfl, by omega, x.2, uu', (hok_un hok3).1, by omega, hbot3, Holds.to (by assumption)⟩, by omega⟩
      · refine W.exit ?_
        refine hK94 _ _ _ ?_
        refine W.seq (fun K101 hK101 => ?_)
        refine W.region ?_
        obtain rfl : uu = [] := List.length_eq_zero_iff.1 (by omega)
        obtain rfl : s3 = s := hbot3
        refine O.ex (Ex.move rfl) rfl ?_
        refine O.callF Try.call62 rfl rfl (CT.mono (ugraph_ct hok3.ok (Holds.to (M := Uk b 32 n 64 s3 (trP (hM ++ [])) :: _) (by assumption))) ?_)
        rintro _ w ⟨c, rfl, H⟩
        refine O.callF Try.call61 rfl rfl (CT.mono (equal24_ct hok3.ok (Holds.to (by assumption))) ?_)
        rintro _ w ⟨rfl, H⟩
        refine O.ex (Ex.assign rfl) rfl ?_
        refine O.nil ?_
        refine hK101 _ _ _ ?_
        refine W.ret ?_
        try dsimp only [thenQ, blockQ, retQ]
        first | refine ⟨_, ⟨_, _, rfl, rfl, rfl⟩, ?_⟩ | (refine retD_mark ?_; intro w H; refine ⟨_, ⟨_, _, rfl, rfl, rfl⟩, ?_⟩) | (refine retD_mark2 ?_; intro w H; refine ⟨_, ⟨_, _, rfl, rfl, rfl⟩, ?_⟩)
        exact ⟨rfl, Holds.base_below (L := []) (Holds.to (by assumption))⟩
theorem undoBack_row {w0 : World} {q : Int} {lv lv2 : Value} {l l2 : List OpM} (hq : (Lit.int .u8 q).wf = true) (hx : SlIn w0 5 OpM.enc lv l) (hg : ∀ x ∈ l, x.ok) (hl : l.length ≤ maxLen) (hx2 : SlIn w0 5 OpM.enc lv2 l2) (hg2 : ∀ x ∈ l2, x.ok) (hl2 : l2.length ≤ maxLen) :
    CT Try.prog 14 [.int .u8 q, lv, lv2] w0 fun x w' => x = .bool true ∧ RowKit.Below w0.heap.size w0 w' :=
  undoBack_ct hq hx hg (by unfold maxLen at hl; omega) hx2 hg2 (by unfold maxLen at hl2; omega)
end Go.Proofs.Ytakmbbgnnbpkoaa
