import Derived.Test.YtakmbbgnnbpkoaaUndo5
--ARR
--DEEP
namespace Go.Proofs.Ytakmbbgnnbpkoaa
open Go.Rr Go Gr
set_option linter.unusedVariables false
set_option linter.unusedSimpArgs false
theorem undo1_ct {w : World} {b g j c4 c1 b6 b3 b8 : Nat} {n most : Int} {s : St} {op : OpM} {was : Arc} {L : List HProp} (hg : GOk n most s) (hc : isCh op)
    (H : Holds w (bookP b g j :: Gh g n most s :: pt c4 (.cells (bc ⟨some (b6, b3, b8), was⟩) 141 (0, 0)) :: pt c1 (.cells #[.pointer (some ⟨b, 0, none⟩)] 83 (0, 0)) :: pt b6 (.cells (kcs op) 151 (0, 0)) :: pt b3 (.cells op.cs 91 (0, 0)) :: pt b8 (.cells (acs was) 31 (0, 0)) :: L)) :
    CT Try.prog 95 [.pointer (some ⟨c4, 0, none⟩), .pointer (some ⟨c1, 0, none⟩)] w fun _ w' =>
      Holds w' (bookP b g j :: Gh g n most (unS n most s op was) :: pt c4 (.cells (bc ⟨some (b6, b3, b8), was⟩) 141 (0, 0)) :: pt c1 (.cells #[.pointer (some ⟨b, 0, none⟩)] 83 (0, 0)) :: pt b6 (.cells (kcs op) 151 (0, 0)) :: pt b3 (.cells op.cs 91 (0, 0)) :: pt b8 (.cells (acs was) 31 (0, 0)) :: L) := by
  refine CT.enter (N := 9) Try.func95 rfl rfl rfl rfl ?_
  refine W.drawTo (bookP b g j :: pt c4 (.cells (bc ⟨some (b6, b3, b8), was⟩) 141 (0, 0)) :: pt c1 (.cells #[.pointer (some ⟨b, 0, none⟩)] 83 (0, 0)) :: []) (.take 0 (.take 1 (.take 2 (.take 3 (.take 4 (.take 5 (.one 6 .nil))))))) (mixed) (fun _ _ _ _ h => h) (by assumption) PP.auto (by decide +kernel) (fun w H => ?_)
  refine OQ.ex rfl (fun w H => (by first | exact Ex.field0 fld141_0 rfl | exact Ex.field fld141_0 rfl | exact Ex.fieldS fld141_0 rfl)) rfl ?_
  refine OQ.ex rfl (fun w H => (by first | exact Ex.loadMh Try.isAgg139 rfl | exact Ex.loadP Try.isAgg139 rfl | exact Ex.loadM Try.isAgg139 rfl | exact Ex.loadIn1 Try.isAgg139 rfl (Holds.to (by assumption)) | exact Ex.loadVc Try.isAgg139 rfl | exact Ex.loadR Try.isAgg139 rfl | exact Ex.loadQ Try.isAgg139 rfl)) rfl ?_
  refine OQ.ex rfl (fun w H => (by first | exact Ex.loadP Try.isAgg83 rfl | exact Ex.loadQ Try.isAgg83 rfl | exact Ex.loadMh Try.isAgg83 rfl | exact Ex.loadR Try.isAgg83 rfl | exact Ex.loadIn1 Try.isAgg83 rfl (Holds.to (by assumption)) | exact Ex.loadM Try.isAgg83 rfl | exact Ex.loadVc Try.isAgg83 rfl)) rfl ?_
  refine OQ.ex rfl (fun w H => (by first | exact Ex.nilPtr rfl | exact Ex.nilFunc rfl | exact Ex.nilYield rfl)) rfl ?_
  refine OQ.ex rfl (fun w H => (by first | exact Ex.field0 fld143_0 rfl | exact Ex.field fld143_0 rfl | exact Ex.fieldS fld143_0 rfl)) rfl ?_
  refine OQ.ex rfl (fun w H => (by first | exact Ex.loadMh Try.isAgg24 rfl | exact Ex.loadP Try.isAgg24 rfl | exact Ex.loadM Try.isAgg24 rfl | exact Ex.loadIn1 Try.isAgg24 rfl (Holds.to (by assumption)) | exact Ex.loadVc Try.isAgg24 rfl | exact Ex.loadR Try.isAgg24 rfl | exact Ex.loadQ Try.isAgg24 rfl)) rfl ?_
  refine OQ.last rfl (by decide +kernel) ?_
  refine O.callVT rfl rfl rfl (VT.mono (VT.fn (p := #[]) (q := #[.pointer (some ⟨b6, 0, none⟩), .pointer (some ⟨b3, 0, none⟩), .pointer (some ⟨b8, 0, none⟩)]) (args := [.pointer (some ⟨g, 0, none⟩)]) Try.call101 (do2_ct (g := g) (c6 := b6) (c3 := b3) (c8 := b8) (was := was) hg hc (Holds.to (by assumption)))) ?_)
  rintro _ w H
  refine O.nil ?_
  try dsimp only [thenQ, blockQ, retQ]
  first | refine ⟨_, rfl, ?_⟩ | (refine retD_mark ?_; intro w H; refine ⟨_, rfl, ?_⟩) | (refine retD_mark2 ?_; intro w H; refine ⟨_, rfl, ?_⟩)
  exact Holds.to (by assumption)
theorem popS_ct {w : World} {s k : Nat} {xs : List BkM} {x : BkM} {L : List HProp} (H : Holds w (RgB s k (xs ++ [x]) :: L)) :
    CT Try.prog 93 [.pointer (some ⟨s, 0, none⟩)] w fun u w' => u = .tuple #[x.val, .bool true] ∧ Holds w' (RgB s k xs :: L) := by
  have := popB_ct H
  rw [List.getLastD_concat, List.dropLast_concat, decide_eq_true (show (xs ++ [x]).length ≠ 0 by simp)] at this
  exact this
theorem star_unsnoc {w : World} {x : HProp} {A L : List HProp} (H : Holds w (star (A ++ [x]) :: L)) : Holds w (x :: star A :: L) := by
  have H : Holds w (A ++ [x] ++ L) := Holds.star.1 H
  rw [List.append_assoc] at H
  exact Holds.swap (Holds.star.2 H)
set_option maxHeartbeats 2000000 in
theorem uundoS_ct {w : World} {b k : Nat} {n most : Int} {s : St} {h : List (OpM × Arc)} {x : OpM × Arc} {L : List HProp} (hg : GOk n most s) (H : Holds w (Uk b k n most s (h ++ [x]) :: L)) :
    CT Try.prog 55 [.pointer (some ⟨b, 0, none⟩)] w fun u w' => u = .tuple #[.agg (ecs s (unS n most s x.1 x.2) x.2), .int .i64 0] ∧ Holds w' (Uk b k n most (unS n most s x.1 x.2) h :: L) := by
  obtain ⟨g, j, es, he, HO⟩ := uk_open.1 H
  obtain ⟨es0, e, rfl⟩ : ∃ es0 e, es = es0 ++ [e] := by
    have hne : es ≠ [] := by rintro rfl; simp at he
    exact ⟨es.dropLast, es.getLast hne, (List.dropLast_concat_getLast hne).symm⟩
  rw [List.map_append] at he
  obtain ⟨he0, he1⟩ := List.append_inj' he rfl
  obtain rfl : (e.op, e.was) = x := by simpa using he1
  obtain ⟨⟨b6, b3, b8⟩, op, wa⟩ := e
  have H := ukO_open.1 HO
  rw [List.map_append, List.map_append] at H
  have H : Holds w (star (es0.map entR ++ [entR ⟨(b6, b3, b8), op, wa⟩]) :: bookP b g j :: Gh g n most s :: RgB j k (es0.map UE.bk ++ [⟨some (b6, b3, b8), wa⟩]) :: L) := Holds.to (show Holds w (bookP b g j :: Gh g n most s :: RgB j k (es0.map UE.bk ++ [⟨some (b6, b3, b8), wa⟩]) :: star (es0.map entR ++ [entR ⟨(b6, b3, b8), op, wa⟩]) :: L) from H)
  obtain ⟨⟨hch, h0⟩, H⟩ := entR_open.1 (star_unsnoc H)
  dsimp only at hch h0 H ⊢
  have H : Holds w (bookP b g j :: Gh g n most s :: RgB j k (es0.map UE.bk ++ [⟨some (b6, b3, b8), wa⟩]) :: pt b6 (.cells (kcs op) 151 (0, 0)) :: pt b3 (.cells op.cs 91 (0, 0)) :: pt b8 (.cells (acs wa) 31 (0, 0)) :: star (es0.map entR) :: L) := Holds.to H
  refine CT.enter (N := 22) Try.func55 rfl rfl rfl rfl ?_
  refine W.seq (fun K0 hK0 => ?_)
  refine W.region ?_
  refine O.boxP rfl (fun b1 w H => ?_)
  refine O.allocP Try.zeroValue93 (fun b2 w H => ?_)
  refine O.ex (Ex.assign rfl) rfl ?_
  refine O.nil ?_
  refine hK0 _ _ _ ?_
  refine W.seq (fun K1 hK1 => ?_)
  refine W.region ?_
  refine O.ex (by first | exact Ex.loadP Try.isAgg83 rfl | exact Ex.loadQ Try.isAgg83 rfl | exact Ex.loadMh Try.isAgg83 rfl | exact Ex.loadR Try.isAgg83 rfl | exact Ex.loadIn1 Try.isAgg83 rfl (Holds.to (by assumption)) | exact Ex.loadM Try.isAgg83 rfl | exact Ex.loadVc Try.isAgg83 rfl) rfl ?_
  refine O.ex (by first | exact Ex.nilPtr rfl | exact Ex.nilFunc rfl | exact Ex.nilYield rfl) rfl ?_
  refine O.ex (by first | exact Ex.field0 fld143_1 rfl | exact Ex.field fld143_1 rfl | exact Ex.fieldS fld143_1 rfl) rfl ?_
  refine O.ex (by first | exact Ex.loadMh Try.isAgg136 rfl | exact Ex.loadP Try.isAgg136 rfl | exact Ex.loadM Try.isAgg136 rfl | exact Ex.loadIn1 Try.isAgg136 rfl (Holds.to (by assumption)) | exact Ex.loadVc Try.isAgg136 rfl | exact Ex.loadR Try.isAgg136 rfl | exact Ex.loadQ Try.isAgg136 rfl) rfl ?_
  refine O.callF Try.call93 rfl rfl (CT.mono (popS_ct (s := j) (Holds.to (M := RgB j k (es0.map UE.bk ++ [⟨some (b6, b3, b8), wa⟩]) :: _) H)) ?_)
  rintro _ w ⟨rfl, H⟩
  refine O.ex (Ex.move rfl) rfl ?_
  refine O.ex (Ex.extract rfl rfl) rfl ?_
  refine O.ex (Ex.extract rfl rfl) rfl ?_
  refine O.allocP Try.zeroValue141 (fun b4 w H => ?_)
  refine O.storeAggP Try.sizeOf141 rfl rfl rfl (BkM.all1 ⟨some (b6, b3, b8), wa⟩) (fun w H => ?_)
  have H : Holds w (bookP b g j :: Gh g n most s :: pt b4 (.cells (bc ⟨some (b6, b3, b8), wa⟩) 141 (0, 0)) :: pt b1 (.cells #[.pointer (some ⟨b, 0, none⟩)] 83 (0, 0)) :: pt b6 (.cells (kcs op) 151 (0, 0)) :: pt b3 (.cells op.cs 91 (0, 0)) :: pt b8 (.cells (acs wa) 31 (0, 0)) :: pt b2 (.cells ezc 93 (0, 0)) :: RgB j k (es0.map UE.bk) :: star (es0.map entR) :: L) := Holds.to (show Holds w (pt b4 (.cells (bc ⟨some (b6, b3, b8), wa⟩) 141 (0, 0)) :: _) from H)
  refine O.ex (Ex.assign rfl) rfl ?_
  refine O.nil ?_
  refine hK1 _ _ _ ?_
  refine W.seq (fun K2 hK2 => ?_)
  refine W.seq (fun K3 hK3 => ?_)
  refine W.region ?_
  refine O.ex (Ex.move rfl) rfl ?_
  refine O.ex (by first | exact Ex.notD rfl | exact Ex.not rfl) rfl ?_
  refine O.nil ?_
  refine hK3 _ _ _ ?_
  refine W.known_f rfl (by first | rfl | decide) ?_
  refine W.skip ?_
  refine hK2 _ _ _ ?_
  refine W.seq (fun K4 hK4 => ?_)
  refine W.region ?_
  have hdo : ∀ w Y, Holds w (bookP b g j :: Gh g n most s :: Y :: pt b4 (.cells (bc ⟨some (b6, b3, b8), wa⟩) 141 (0, 0)) :: pt b1 (.cells #[.pointer (some ⟨b, 0, none⟩)] 83 (0, 0)) :: pt b6 (.cells (kcs op) 151 (0, 0)) :: pt b3 (.cells op.cs 91 (0, 0)) :: pt b8 (.cells (acs wa) 31 (0, 0)) :: pt b2 (.cells ezc 93 (0, 0)) :: RgB j k (es0.map UE.bk) :: star (es0.map entR) :: L) → VT Try.prog (.func (.func 95) #[] #[.pointer (some ⟨b4, 0, none⟩), .pointer (some ⟨b1, 0, none⟩)]) [] w fun _ w' => Holds w' (bookP b g j :: Gh g n most (unS n most s op wa) :: Y :: pt b4 (.cells (bc ⟨some (b6, b3, b8), wa⟩) 141 (0, 0)) :: pt b1 (.cells #[.pointer (some ⟨b, 0, none⟩)] 83 (0, 0)) :: pt b6 (.cells (kcs op) 151 (0, 0)) :: pt b3 (.cells op.cs 91 (0, 0)) :: pt b8 (.cells (acs wa) 31 (0, 0)) :: pt b2 (.cells ezc 93 (0, 0)) :: RgB j k (es0.map UE.bk) :: star (es0.map entR) :: L) := by
    intro w Y H
    have H2 : Holds w (bookP b g j :: Gh g n most s :: pt b4 (.cells (bc ⟨some (b6, b3, b8), wa⟩) 141 (0, 0)) :: pt b1 (.cells #[.pointer (some ⟨b, 0, none⟩)] 83 (0, 0)) :: pt b6 (.cells (kcs op) 151 (0, 0)) :: pt b3 (.cells op.cs 91 (0, 0)) :: pt b8 (.cells (acs wa) 31 (0, 0)) :: pt b2 (.cells ezc 93 (0, 0)) :: RgB j k (es0.map UE.bk) :: star (es0.map entR) :: Y :: L) := Holds.to H
    refine VT.mono (VT.fn (p := #[]) (q := #[.pointer (some ⟨b4, 0, none⟩), .pointer (some ⟨b1, 0, none⟩)]) (args := []) Try.call95 (undo1_ct hg hch H2)) ?_
    intro u w' H3
    exact Holds.to H3
  refine O.ex (by first | exact Ex.loadP Try.isAgg83 rfl | exact Ex.loadQ Try.isAgg83 rfl | exact Ex.loadMh Try.isAgg83 rfl | exact Ex.loadR Try.isAgg83 rfl | exact Ex.loadIn1 Try.isAgg83 rfl (Holds.to (by assumption)) | exact Ex.loadM Try.isAgg83 rfl | exact Ex.loadVc Try.isAgg83 rfl) rfl ?_
  refine O.ex (by first | exact Ex.field0 fld141_1 rfl | exact Ex.field fld141_1 rfl | exact Ex.fieldS fld141_1 rfl) rfl ?_
  refine O.ex (by first | exact Ex.loadAggP Try.isAgg31 Try.sizeOf31 rfl | exact Ex.loadAggN Try.isAgg31 Try.sizeOf31 rfl | exact Ex.loadIn Try.isAgg31 Try.sizeOf31 rfl (Holds.to (by assumption))) rfl ?_
  refine O.ex (Ex.makeFunc rfl rfl) rfl ?_
  refine O.callF Try.call94 rfl rfl (CT.mono (turned_ct (b := b) (g := g) (j := j) (a := wa) hg (ok_un hg op wa) hdo (Holds.to (M := bookP b g j :: Gh g n most s :: pt b4 (.cells (bc ⟨some (b6, b3, b8), wa⟩) 141 (0, 0)) :: pt b1 (.cells #[.pointer (some ⟨b, 0, none⟩)] 83 (0, 0)) :: pt b6 (.cells (kcs op) 151 (0, 0)) :: pt b3 (.cells op.cs 91 (0, 0)) :: pt b8 (.cells (acs wa) 31 (0, 0)) :: pt b2 (.cells ezc 93 (0, 0)) :: RgB j k (es0.map UE.bk) :: star (es0.map entR) :: L) H)) ?_)
  rintro _ w ⟨rfl, H⟩
  first | refine O.storeAggP Try.sizeOf93 rfl rfl rfl rfl (fun w H => ?_) | refine O.storeAggN Try.sizeOf93 rfl rfl rfl (fun w H => ?_) rfl
  have H := (show Holds w (pt b2 (.cells (ecs s (unS n most s op wa) wa) 93 (0, 0)) :: _) from H)
  refine O.ex (Ex.assign rfl) rfl ?_
  refine O.nil ?_
  refine hK4 _ _ _ ?_
  refine W.ret ?_
  try dsimp only [thenQ, blockQ, retQ]
  first | refine ⟨_, ⟨_, _, _, rfl, rfl, (by first | exact loadVar_mtx Try.isAgg93 Try.sizeOf93 | exact loadVar_agg Try.isAgg93 Try.sizeOf93), _, _, rfl, rfl, rfl⟩, ?_⟩ | (refine retD_mark ?_; intro w H; refine ⟨_, ⟨_, _, _, rfl, rfl, (by first | exact loadVar_mtx Try.isAgg93 Try.sizeOf93 | exact loadVar_agg Try.isAgg93 Try.sizeOf93), _, _, rfl, rfl, rfl⟩, ?_⟩) | (refine retD_mark2 ?_; intro w H; refine ⟨_, ⟨_, _, _, rfl, rfl, (by first | exact loadVar_mtx Try.isAgg93 Try.sizeOf93 | exact loadVar_agg Try.isAgg93 Try.sizeOf93), _, _, rfl, rfl, rfl⟩, ?_⟩)
  exact ⟨rfl, uk_open.2 ⟨g, j, es0, he0, ukO_open.2 (Holds.to (by assumption))⟩⟩
theorem uundoN_ct {w : World} {b k : Nat} {n most : Int} {s : St} {L : List HProp} (H : Holds w (Uk b k n most s [] :: L)) :
    CT Try.prog 55 [.pointer (some ⟨b, 0, none⟩)] w fun u w' => u = .tuple #[.agg ezc, .int .i64 6] ∧ Holds w' (Uk b k n most s [] :: L) := by
  obtain ⟨g, j, es, he, HO⟩ := uk_open.1 H
  obtain rfl : es = [] := List.map_eq_nil_iff.1 he
  have H := ukO_open.1 HO
  refine CT.enter (N := 22) Try.func55 rfl rfl rfl rfl ?_
  refine W.seq (fun K0 hK0 => ?_)
  refine W.region ?_
  refine O.boxP rfl (fun b1 w H => ?_)
  refine O.allocP Try.zeroValue93 (fun b2 w H => ?_)
  refine O.ex (Ex.assign rfl) rfl ?_
  refine O.nil ?_
  refine hK0 _ _ _ ?_
  refine W.seq (fun K1 hK1 => ?_)
  refine W.region ?_
  refine O.ex (by first | exact Ex.loadP Try.isAgg83 rfl | exact Ex.loadQ Try.isAgg83 rfl | exact Ex.loadMh Try.isAgg83 rfl | exact Ex.loadR Try.isAgg83 rfl | exact Ex.loadIn1 Try.isAgg83 rfl (Holds.to (by assumption)) | exact Ex.loadM Try.isAgg83 rfl | exact Ex.loadVc Try.isAgg83 rfl) rfl ?_
  refine O.ex (by first | exact Ex.nilPtr rfl | exact Ex.nilFunc rfl | exact Ex.nilYield rfl) rfl ?_
  refine O.ex (by first | exact Ex.field0 fld143_1 rfl | exact Ex.field fld143_1 rfl | exact Ex.fieldS fld143_1 rfl) rfl ?_
  refine O.ex (by first | exact Ex.loadMh Try.isAgg136 rfl | exact Ex.loadP Try.isAgg136 rfl | exact Ex.loadM Try.isAgg136 rfl | exact Ex.loadIn1 Try.isAgg136 rfl (Holds.to (by assumption)) | exact Ex.loadVc Try.isAgg136 rfl | exact Ex.loadR Try.isAgg136 rfl | exact Ex.loadQ Try.isAgg136 rfl) rfl ?_
  refine O.callF Try.call93 rfl rfl (CT.mono (popB_ct (s := j) (xs := []) (Holds.to (M := RgB j k [] :: _) H)) ?_)
  rintro _ w ⟨rfl, H⟩
  refine O.ex (Ex.move rfl) rfl ?_
  refine O.ex (Ex.extract rfl rfl) rfl ?_
  refine O.ex (Ex.extract rfl rfl) rfl ?_
  refine O.allocP Try.zeroValue141 (fun b4 w H => ?_)
  first | refine O.storeAggP Try.sizeOf141 rfl rfl rfl rfl (fun w H => ?_) | refine O.storeAggN Try.sizeOf141 rfl rfl rfl (fun w H => ?_) rfl
  refine O.ex (Ex.assign rfl) rfl ?_
  refine O.nil ?_
  refine hK1 _ _ _ ?_
  refine W.seq (fun K2 hK2 => ?_)
  refine W.seq (fun K3 hK3 => ?_)
  refine W.region ?_
  refine O.ex (Ex.move rfl) rfl ?_
  refine O.ex (by first | exact Ex.notD rfl | exact Ex.not rfl) rfl ?_
  refine O.nil ?_
  refine hK3 _ _ _ ?_
  refine W.known_t rfl (by first | rfl | decide) ?_
  refine W.seq (fun K4 hK4 => ?_)
  refine W.region ?_
  refine O.ex (Ex.build rfl (bld93_  )) rfl ?_
  first | refine O.storeAggP Try.sizeOf93 rfl rfl rfl rfl (fun w H => ?_) | refine O.storeAggN Try.sizeOf93 rfl rfl rfl (fun w H => ?_) rfl
  refine O.ex (Ex.assign rfl) rfl ?_
  refine O.nil ?_
  refine hK4 _ _ _ ?_
  refine W.ret ?_
  try dsimp only [thenQ, blockQ, retQ]
  first | refine ⟨_, ⟨_, _, _, rfl, rfl, (by first | exact loadVar_mtx Try.isAgg93 Try.sizeOf93 | exact loadVar_agg Try.isAgg93 Try.sizeOf93), _, _, rfl, rfl, rfl⟩, ?_⟩ | (refine retD_mark ?_; intro w H; refine ⟨_, ⟨_, _, _, rfl, rfl, (by first | exact loadVar_mtx Try.isAgg93 Try.sizeOf93 | exact loadVar_agg Try.isAgg93 Try.sizeOf93), _, _, rfl, rfl, rfl⟩, ?_⟩) | (refine retD_mark2 ?_; intro w H; refine ⟨_, ⟨_, _, _, rfl, rfl, (by first | exact loadVar_mtx Try.isAgg93 Try.sizeOf93 | exact loadVar_agg Try.isAgg93 Try.sizeOf93), _, _, rfl, rfl, rfl⟩, ?_⟩)
  exact ⟨rfl, uk_open.2 ⟨g, j, [], rfl, ukO_open.2 (Holds.to (by assumption))⟩⟩
end Go.Proofs.Ytakmbbgnnbpkoaa
