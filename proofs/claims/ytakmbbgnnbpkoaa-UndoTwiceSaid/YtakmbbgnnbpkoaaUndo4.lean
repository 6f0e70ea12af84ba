import Derived.Test.YtakmbbgnnbpkoaaUndo3
--ARR
--DEEP
namespace Go.Proofs.Ytakmbbgnnbpkoaa
open Go.Rr Go Gr
set_option linter.unusedVariables false
set_option linter.unusedSimpArgs false
/-- What is noted of a change: where its function's variables lie, the operation, the arc. -/
structure UE where
  p : Nat × Nat × Nat
  op : OpM
  was : Arc
def UE.bk (e : UE) : BkM := ⟨some e.p, e.was⟩
abbrev kcs (op : OpM) : Array Value := #[doF op.f_Kind, unF op.f_Kind]
def entR (e : UE) : HProp := star [pt e.p.1 (.cells (kcs e.op) 151 (0, 0)), pt e.p.2.1 (.cells e.op.cs 91 (0, 0)), pt e.p.2.2 (.cells (acs e.was) 31 (0, 0)), hp (isCh e.op ∧ 0 ≤ e.op.f_W)]
theorem entR_open {w : World} {e : UE} {L : List HProp} : Holds w (entR e :: L) ↔ (isCh e.op ∧ 0 ≤ e.op.f_W) ∧ Holds w (pt e.p.1 (.cells (kcs e.op) 151 (0, 0)) :: pt e.p.2.1 (.cells e.op.cs 91 (0, 0)) :: pt e.p.2.2 (.cells (acs e.was) 31 (0, 0)) :: L) := by
  unfold entR
  simp only [Holds.star, List.cons_append, List.nil_append]
  constructor
  · intro H
    obtain ⟨h, H⟩ := Holds.hp.1 (Holds.to (M := hp (isCh e.op ∧ 0 ≤ e.op.f_W) :: pt e.p.1 (.cells (kcs e.op) 151 (0, 0)) :: pt e.p.2.1 (.cells e.op.cs 91 (0, 0)) :: pt e.p.2.2 (.cells (acs e.was) 31 (0, 0)) :: L) H)
    exact ⟨h, H⟩
  · rintro ⟨h, H⟩
    exact Holds.to (Holds.hp.2 ⟨h, H⟩)
abbrev bookP (b g j : Nat) : HProp := pt b (.cells #[.pointer (some ⟨g, 0, none⟩), .pointer (some ⟨j, 0, none⟩)] 143 (0, 0))
def UkO (b g j k : Nat) (n most : Int) (s : St) (es : List UE) : HProp := star [bookP b g j, Gh g n most s, RgB j k (es.map UE.bk), star (es.map entR)]
theorem ukO_open {w : World} {b g j k : Nat} {n most : Int} {s : St} {es : List UE} {L : List HProp} : Holds w (UkO b g j k n most s es :: L) ↔ Holds w (bookP b g j :: Gh g n most s :: RgB j k (es.map UE.bk) :: star (es.map entR) :: L) := by
  unfold UkO
  simp only [Holds.star, List.cons_append, List.nil_append]
/-- A book. -/
def Uk (b k : Nat) (n most : Int) (s : St) (hs : List (OpM × Arc)) : HProp := hex fun g => hex fun j => hex fun es => star [hp (es.map (fun e : UE => (e.op, e.was)) = hs), UkO b g j k n most s es]
theorem uk_open {w : World} {b k : Nat} {n most : Int} {s : St} {hs : List (OpM × Arc)} {L : List HProp} : Holds w (Uk b k n most s hs :: L) ↔ ∃ g j es, es.map (fun e : UE => (e.op, e.was)) = hs ∧ Holds w (UkO b g j k n most s es :: L) := by
  unfold Uk
  simp only [Holds.hex, Holds.star, List.cons_append, List.nil_append, Holds.hp]
theorem do1_ct {w : World} {b g j c6 c2 c3 c10 : Nat} {n most : Int} {s : St} {op : OpM} {L : List HProp} (hg : GOk n most s) (h0 : 0 ≤ op.f_W) (hc : isCh op)
    (H : Holds w (bookP b g j :: Gh g n most s :: pt c6 (.cells (kcs op) 151 (0, 0)) :: pt c2 (.cells #[.pointer (some ⟨b, 0, none⟩)] 83 (0, 0)) :: pt c3 (.cells op.cs 91 (0, 0)) :: pt c10 (.cells #[.int .i64 0] 40 (0, 0)) :: L)) :
    CT Try.prog 99 [.pointer (some ⟨c6, 0, none⟩), .pointer (some ⟨c2, 0, none⟩), .pointer (some ⟨c3, 0, none⟩), .pointer (some ⟨c10, 0, none⟩)] w fun _ w' =>
      Holds w' (bookP b g j :: Gh g n most (opS n most s op) :: pt c6 (.cells (kcs op) 151 (0, 0)) :: pt c2 (.cells #[.pointer (some ⟨b, 0, none⟩)] 83 (0, 0)) :: pt c3 (.cells op.cs 91 (0, 0)) :: pt c10 (.cells #[.int .i64 (opC n most s op)] 40 (0, 0)) :: L) := by
  refine CT.enter (N := 12) Try.func99 rfl rfl rfl rfl ?_
  refine W.drawTo (bookP b g j :: pt c6 (.cells (kcs op) 151 (0, 0)) :: pt c2 (.cells #[.pointer (some ⟨b, 0, none⟩)] 83 (0, 0)) :: pt c3 (.cells op.cs 91 (0, 0)) :: []) (.take 0 (.take 1 (.take 2 (.take 3 (.take 4 (.take 5 (.take 6 (.one 7 (.one 8 .nil))))))))) (mixed) (fun _ _ _ _ h => h) (by assumption) PP.auto (by decide +kernel) (fun w H => ?_)
  refine OQ.ex rfl (fun w H => (by first | exact Ex.field0 fld151_0 rfl | exact Ex.field fld151_0 rfl | exact Ex.fieldS fld151_0 rfl)) rfl ?_
  refine OQ.ex rfl (fun w H => (by first | exact Ex.loadMh Try.isAgg148 rfl | exact Ex.loadP Try.isAgg148 rfl | exact Ex.loadM Try.isAgg148 rfl | exact Ex.loadIn1 Try.isAgg148 rfl (Holds.to (by assumption)) | exact Ex.loadVc Try.isAgg148 rfl | exact Ex.loadR Try.isAgg148 rfl | exact Ex.loadQ Try.isAgg148 rfl)) rfl ?_
  refine OQ.ex rfl (fun w H => (by first | exact Ex.loadP Try.isAgg83 rfl | exact Ex.loadQ Try.isAgg83 rfl | exact Ex.loadMh Try.isAgg83 rfl | exact Ex.loadR Try.isAgg83 rfl | exact Ex.loadIn1 Try.isAgg83 rfl (Holds.to (by assumption)) | exact Ex.loadM Try.isAgg83 rfl | exact Ex.loadVc Try.isAgg83 rfl)) rfl ?_
  refine OQ.ex rfl (fun w H => (by first | exact Ex.nilPtr rfl | exact Ex.nilFunc rfl | exact Ex.nilYield rfl)) rfl ?_
  refine OQ.ex rfl (fun w H => (by first | exact Ex.field0 fld143_0 rfl | exact Ex.field fld143_0 rfl | exact Ex.fieldS fld143_0 rfl)) rfl ?_
  refine OQ.ex rfl (fun w H => (by first | exact Ex.loadMh Try.isAgg24 rfl | exact Ex.loadP Try.isAgg24 rfl | exact Ex.loadM Try.isAgg24 rfl | exact Ex.loadIn1 Try.isAgg24 rfl (Holds.to (by assumption)) | exact Ex.loadVc Try.isAgg24 rfl | exact Ex.loadR Try.isAgg24 rfl | exact Ex.loadQ Try.isAgg24 rfl)) rfl ?_
  refine OQ.ex rfl (fun w H => (by first | exact Ex.loadAggP Try.isAgg91 Try.sizeOf91 rfl | exact Ex.loadAggN Try.isAgg91 Try.sizeOf91 rfl | exact Ex.loadIn Try.isAgg91 Try.sizeOf91 rfl (Holds.to (by assumption)))) rfl ?_
  refine OQ.step rfl ?_
  refine O.callVT rfl rfl rfl (VT.mono (vtDo (g := g) (op := op) hg h0 hc (Holds.to (by assumption))) ?_)
  rintro _ w ⟨rfl, H⟩
  refine O.thenNil ⟨(by first | exact Holds.to (by assumption) | assumption), ?_⟩
  refine OQ.last rfl (by decide +kernel) ?_
  first | refine O.storeP Try.sizeOf40 rfl rfl (fun w H => ?_) | refine O.storeR Try.sizeOf40 rfl rfl (fun w H => ?_) | refine O.storeM Try.sizeOf40 rfl rfl (fun w H => ?_) | refine O.storeVc Try.sizeOf40 rfl rfl (fun w H => ?_) | refine O.storeQ Try.sizeOf40 rfl rfl (fun w H => ?_)
  refine O.nil ?_
  try dsimp only [thenQ, blockQ, retQ]
  first | refine ⟨_, rfl, ?_⟩ | (refine retD_mark ?_; intro w H; refine ⟨_, rfl, ?_⟩) | (refine retD_mark2 ?_; intro w H; refine ⟨_, rfl, ?_⟩)
  exact Holds.to (by assumption)
theorem do2_ct {w : World} {g c6 c3 c8 : Nat} {n most : Int} {s : St} {op : OpM} {was : Arc} {L : List HProp} (hg : GOk n most s) (hc : isCh op)
    (H : Holds w (Gh g n most s :: pt c6 (.cells (kcs op) 151 (0, 0)) :: pt c3 (.cells op.cs 91 (0, 0)) :: pt c8 (.cells (acs was) 31 (0, 0)) :: L)) :
    CT Try.prog 101 [.pointer (some ⟨g, 0, none⟩), .pointer (some ⟨c6, 0, none⟩), .pointer (some ⟨c3, 0, none⟩), .pointer (some ⟨c8, 0, none⟩)] w fun _ w' =>
      Holds w' (Gh g n most (unS n most s op was) :: pt c6 (.cells (kcs op) 151 (0, 0)) :: pt c3 (.cells op.cs 91 (0, 0)) :: pt c8 (.cells (acs was) 31 (0, 0)) :: L) := by
  refine CT.enter (N := 11) Try.func101 rfl rfl rfl rfl ?_
  refine W.region ?_
  refine O.ex (by first | exact Ex.field0 fld151_1 rfl | exact Ex.field fld151_1 rfl | exact Ex.fieldS fld151_1 rfl) rfl ?_
  refine O.ex (by first | exact Ex.loadMh Try.isAgg149 rfl | exact Ex.loadP Try.isAgg149 rfl | exact Ex.loadM Try.isAgg149 rfl | exact Ex.loadIn1 Try.isAgg149 rfl (Holds.to (by assumption)) | exact Ex.loadVc Try.isAgg149 rfl | exact Ex.loadR Try.isAgg149 rfl | exact Ex.loadQ Try.isAgg149 rfl) rfl ?_
  refine O.ex (Ex.move rfl) rfl ?_
  refine O.ex (by first | exact Ex.loadAggP Try.isAgg91 Try.sizeOf91 rfl | exact Ex.loadAggN Try.isAgg91 Try.sizeOf91 rfl | exact Ex.loadIn Try.isAgg91 Try.sizeOf91 rfl (Holds.to (by assumption))) rfl ?_
  refine O.ex (by first | exact Ex.loadAggP Try.isAgg31 Try.sizeOf31 rfl | exact Ex.loadAggN Try.isAgg31 Try.sizeOf31 rfl | exact Ex.loadIn Try.isAgg31 Try.sizeOf31 rfl (Holds.to (by assumption))) rfl ?_
  refine O.callVT rfl rfl rfl (VT.mono (vtUn (g := g) (op := op) (was := was) hg hc (Holds.to (by assumption))) ?_)
  rintro _ w H
  refine O.nil ?_
  try dsimp only [thenQ, blockQ, retQ]
  first | refine ⟨_, rfl, ?_⟩ | (refine retD_mark ?_; intro w H; refine ⟨_, rfl, ?_⟩) | (refine retD_mark2 ?_; intro w H; refine ⟨_, rfl, ?_⟩)
  exact Holds.to (by assumption)
theorem ulen_ct {w : World} {b k : Nat} {n most : Int} {s : St} {hs : List (OpM × Arc)} {L : List HProp} (H : Holds w (Uk b k n most s hs :: L)) :
    CT Try.prog 91 [.pointer (some ⟨b, 0, none⟩)] w fun u w' => u = .int .i64 hs.length ∧ Holds w' (Uk b k n most s hs :: L) := by
  obtain ⟨g, j, es, he, H⟩ := uk_open.1 H
  have H := ukO_open.1 H
  refine CT.enter (N := 8) Try.func91 rfl rfl rfl rfl ?_
  refine W.seq (fun K0 hK0 => ?_)
  refine W.region ?_
  refine O.ex (Ex.assign rfl) rfl ?_
  refine O.nil ?_
  refine hK0 _ _ _ ?_
  refine W.seq (fun K1 hK1 => ?_)
  refine W.region ?_
  refine O.ex (Ex.move rfl) rfl ?_
  refine O.ex (by first | exact Ex.nilPtr rfl | exact Ex.nilFunc rfl | exact Ex.nilYield rfl) rfl ?_
  refine O.ex (by first | exact Ex.field0 fld143_1 rfl | exact Ex.field fld143_1 rfl | exact Ex.fieldS fld143_1 rfl) rfl ?_
  refine O.ex (by first | exact Ex.loadMh Try.isAgg136 rfl | exact Ex.loadP Try.isAgg136 rfl | exact Ex.loadM Try.isAgg136 rfl | exact Ex.loadIn1 Try.isAgg136 rfl (Holds.to (by assumption)) | exact Ex.loadVc Try.isAgg136 rfl | exact Ex.loadR Try.isAgg136 rfl | exact Ex.loadQ Try.isAgg136 rfl) rfl ?_
  refine O.callF Try.call117 rfl rfl (CT.mono (lenB_ct (Holds.to (by assumption))) ?_)
  rintro _ w ⟨rfl, H⟩
  refine O.ex (Ex.assign rfl) rfl ?_
  refine O.nil ?_
  refine hK1 _ _ _ ?_
  refine W.ret ?_
  try dsimp only [thenQ, blockQ, retQ]
  first | refine ⟨_, ⟨_, _, rfl, rfl, rfl⟩, ?_⟩ | (refine retD_mark ?_; intro w H; refine ⟨_, ⟨_, _, rfl, rfl, rfl⟩, ?_⟩) | (refine retD_mark2 ?_; intro w H; refine ⟨_, ⟨_, _, rfl, rfl, rfl⟩, ?_⟩)
  exact ⟨by rw [← he]; simp [oneOf], uk_open.2 ⟨g, j, es, he, ukO_open.2 (Holds.to (by assumption))⟩⟩
theorem ugraph_ct {w : World} {b k : Nat} {n most : Int} {s : St} {hs : List (OpM × Arc)} {L : List HProp} (hg : GOk n most s) (H : Holds w (Uk b k n most s hs :: L)) :
    CT Try.prog 62 [.pointer (some ⟨b, 0, none⟩)] w fun u w' => ∃ c, u = .pointer (some ⟨c, 0, none⟩) ∧ Holds w' (Gh c n most s :: Uk b k n most s hs :: L) := by
  obtain ⟨g, j, es, he, H⟩ := uk_open.1 H
  have H := ukO_open.1 H
  refine CT.enter (N := 8) Try.func62 rfl rfl rfl rfl ?_
  refine W.seq (fun K0 hK0 => ?_)
  refine W.region ?_
  refine O.ex (Ex.assign rfl) rfl ?_
  refine O.nil ?_
  refine hK0 _ _ _ ?_
  refine W.seq (fun K1 hK1 => ?_)
  refine W.region ?_
  refine O.ex (Ex.move rfl) rfl ?_
  refine O.ex (by first | exact Ex.nilPtr rfl | exact Ex.nilFunc rfl | exact Ex.nilYield rfl) rfl ?_
  refine O.ex (by first | exact Ex.field0 fld143_0 rfl | exact Ex.field fld143_0 rfl | exact Ex.fieldS fld143_0 rfl) rfl ?_
  refine O.ex (by first | exact Ex.loadMh Try.isAgg24 rfl | exact Ex.loadP Try.isAgg24 rfl | exact Ex.loadM Try.isAgg24 rfl | exact Ex.loadIn1 Try.isAgg24 rfl (Holds.to (by assumption)) | exact Ex.loadVc Try.isAgg24 rfl | exact Ex.loadR Try.isAgg24 rfl | exact Ex.loadQ Try.isAgg24 rfl) rfl ?_
  refine O.callF Try.call36 rfl rfl (CT.mono (gcopy_ct (g := g) hg (Holds.to (by assumption))) ?_)
  rintro _ w ⟨c, rfl, H⟩
  refine O.ex (Ex.assign rfl) rfl ?_
  refine O.nil ?_
  refine hK1 _ _ _ ?_
  refine W.ret ?_
  try dsimp only [thenQ, blockQ, retQ]
  first | refine ⟨_, ⟨_, _, rfl, rfl, rfl⟩, ?_⟩ | (refine retD_mark ?_; intro w H; refine ⟨_, ⟨_, _, rfl, rfl, rfl⟩, ?_⟩) | (refine retD_mark2 ?_; intro w H; refine ⟨_, ⟨_, _, rfl, rfl, rfl⟩, ?_⟩)
  exact ⟨c, rfl, Holds.swap (uk_open.2 ⟨g, j, es, he, ukO_open.2 (Holds.to (by assumption))⟩)⟩
theorem unew_ct {w : World} {n most room : Int} {L : List HProp} (H : Holds w L) :
    CT Try.prog 52 [.int .i64 n, .int .i64 most, .int .i64 room] w fun u w' => (¬ (((1 ≤ n ∧ n ≤ 24) ∧ (1 ≤ most ∧ most ≤ 64)) ∧ (1 ≤ room ∧ room ≤ 32)) ∧ u = .tuple #[.pointer none, .int .i64 1] ∧ Holds w' L) ∨ ((((1 ≤ n ∧ n ≤ 24) ∧ (1 ≤ most ∧ most ≤ 64)) ∧ (1 ≤ room ∧ room ≤ 32)) ∧ ∃ b, u = .tuple #[.pointer (some ⟨b, 0, none⟩), .int .i64 0] ∧ Holds w' (Uk b room.toNat n most noS [] :: L)) := by
  refine CT.enter (N := 33) Try.func52 rfl rfl rfl rfl ?_
  refine W.seq (fun K0 hK0 => ?_)
  refine W.region ?_
  refine O.ex (Ex.assign rfl) rfl ?_
  refine O.ex (Ex.assign rfl) rfl ?_
  refine O.nil ?_
  refine hK0 _ _ _ ?_
  refine W.seq (fun K1 hK1 => ?_)
  refine W.region ?_
  refine O.ex (Ex.move rfl) rfl ?_
  refine O.ex (Ex.move rfl) rfl ?_
  refine O.callF Try.call25 rfl rfl (CT.mono (gnew_ct (n := n) (most := most) (Holds.to (by assumption))) ?_)
  rintro _ w hh
  rcases hh with ⟨hno, rfl, H⟩ | ⟨hyes, g, rfl, H⟩
  · refine O.ex (Ex.move rfl) rfl ?_
    refine O.ex (Ex.extract rfl rfl) rfl ?_
    refine O.ex (Ex.extract rfl rfl) rfl ?_
    refine O.ex (Ex.assign rfl) rfl ?_
    refine O.ex (Ex.assign rfl) rfl ?_
    refine O.nil ?_
    refine hK1 _ _ _ ?_
    refine W.seq (fun K2 hK2 => ?_)
    refine W.region ?_
    refine O.ex (Ex.move rfl) rfl ?_
    refine O.callF Try.call92 rfl rfl (CT.mono (newB_ct (n := room) (Holds.to (by assumption))) ?_)
    rintro _ w hh2
    rcases hh2 with ⟨hno2, rfl, H⟩ | ⟨hyes2, j, rfl, H⟩
    · refine O.ex (Ex.move rfl) rfl ?_
      refine O.ex (Ex.extract rfl rfl) rfl ?_
      refine O.ex (Ex.extract rfl rfl) rfl ?_
      refine O.ex (Ex.assign rfl) rfl ?_
      refine O.ex (Ex.assign rfl) rfl ?_
      refine O.nil ?_
      refine hK2 _ _ _ ?_
      refine W.seq (fun K3 hK3 => ?_)
      refine W.seq (fun K4 hK4 => ?_)
      refine W.region ?_
      refine O.ex (Ex.move rfl) rfl ?_
      refine O.ex (Ex.neqI rfl rfl) rfl ?_
      refine O.ex (Ex.move rfl) rfl ?_
      refine O.known (t := 25) (c := true) rfl (by first | rfl | decide) ?_
      refine O.guard_f rfl rfl rfl rfl ?_
      refine O.guard_f rfl rfl rfl rfl ?_
      refine O.ex (Ex.pick_t rfl rfl) rfl ?_
      refine O.nil ?_
      refine hK4 _ _ _ ?_
      refine W.cond_t rfl ?_
      refine W.seq (fun K5 hK5 => ?_)
      refine W.region ?_
      refine O.ex (Ex.assign rfl) rfl ?_
      refine O.ex (Ex.assign rfl) rfl ?_
      refine O.nil ?_
      refine hK5 _ _ _ ?_
      refine W.ret ?_
      try dsimp only [thenQ, blockQ, retQ]
      first | refine ⟨_, ⟨_, _, rfl, rfl, _, _, rfl, rfl, rfl⟩, ?_⟩ | (refine retD_mark ?_; intro w H; refine ⟨_, ⟨_, _, rfl, rfl, _, _, rfl, rfl, rfl⟩, ?_⟩) | (refine retD_mark2 ?_; intro w H; refine ⟨_, ⟨_, _, rfl, rfl, _, _, rfl, rfl, rfl⟩, ?_⟩)
      first
      | exact .inl ⟨fun h => hno h.1, rfl, Holds.to (by assumption)⟩
      | exact .inl ⟨fun h => hno2 h.2, rfl, Holds.to (by assumption)⟩
      | (have H := Holds.star.2 (show Holds w (([] : List HProp) ++ _) from H)
         exact .inr ⟨⟨hyes, hyes2⟩, _, rfl, uk_open.2 ⟨g, j, [], rfl, ukO_open.2 (Holds.to (by assumption))⟩⟩)
    · refine O.ex (Ex.move rfl) rfl ?_
      refine O.ex (Ex.extract rfl rfl) rfl ?_
      refine O.ex (Ex.extract rfl rfl) rfl ?_
      refine O.ex (Ex.assign rfl) rfl ?_
      refine O.ex (Ex.assign rfl) rfl ?_
      refine O.nil ?_
      refine hK2 _ _ _ ?_
      refine W.seq (fun K6 hK6 => ?_)
      refine W.seq (fun K7 hK7 => ?_)
      refine W.region ?_
      refine O.ex (Ex.move rfl) rfl ?_
      refine O.ex (Ex.neqI rfl rfl) rfl ?_
      refine O.ex (Ex.move rfl) rfl ?_
      refine O.known (t := 25) (c := true) rfl (by first | rfl | decide) ?_
      refine O.guard_f rfl rfl rfl rfl ?_
      refine O.guard_f rfl rfl rfl rfl ?_
      refine O.ex (Ex.pick_t rfl rfl) rfl ?_
      refine O.nil ?_
      refine hK7 _ _ _ ?_
      refine W.cond_t rfl ?_
      refine W.seq (fun K8 hK8 => ?_)
      refine W.region ?_
      refine O.ex (Ex.assign rfl) rfl ?_
      refine O.ex (Ex.assign rfl) rfl ?_
      refine O.nil ?_
      refine hK8 _ _ _ ?_
      refine W.ret ?_
      try dsimp only [thenQ, blockQ, retQ]
      first | refine ⟨_, ⟨_, _, rfl, rfl, _, _, rfl, rfl, rfl⟩, ?_⟩ | (refine retD_mark ?_; intro w H; refine ⟨_, ⟨_, _, rfl, rfl, _, _, rfl, rfl, rfl⟩, ?_⟩) | (refine retD_mark2 ?_; intro w H; refine ⟨_, ⟨_, _, rfl, rfl, _, _, rfl, rfl, rfl⟩, ?_⟩)
      first
      | exact .inl ⟨fun h => hno h.1, rfl, Holds.to (by assumption)⟩
      | exact .inl ⟨fun h => hno2 h.2, rfl, Holds.to (by assumption)⟩
      | (have H := Holds.star.2 (show Holds w (([] : List HProp) ++ _) from H)
         exact .inr ⟨⟨hyes, hyes2⟩, _, rfl, uk_open.2 ⟨g, j, [], rfl, ukO_open.2 (Holds.to (by assumption))⟩⟩)
  · refine O.ex (Ex.move rfl) rfl ?_
    refine O.ex (Ex.extract rfl rfl) rfl ?_
    refine O.ex (Ex.extract rfl rfl) rfl ?_
    refine O.ex (Ex.assign rfl) rfl ?_
    refine O.ex (Ex.assign rfl) rfl ?_
    refine O.nil ?_
    refine hK1 _ _ _ ?_
    refine W.seq (fun K9 hK9 => ?_)
    refine W.region ?_
    refine O.ex (Ex.move rfl) rfl ?_
    refine O.callF Try.call92 rfl rfl (CT.mono (newB_ct (n := room) (Holds.to (by assumption))) ?_)
    rintro _ w hh2
    rcases hh2 with ⟨hno2, rfl, H⟩ | ⟨hyes2, j, rfl, H⟩
    · refine O.ex (Ex.move rfl) rfl ?_
      refine O.ex (Ex.extract rfl rfl) rfl ?_
      refine O.ex (Ex.extract rfl rfl) rfl ?_
      refine O.ex (Ex.assign rfl) rfl ?_
      refine O.ex (Ex.assign rfl) rfl ?_
      refine O.nil ?_
      refine hK9 _ _ _ ?_
      refine W.seq (fun K10 hK10 => ?_)
      refine W.seq (fun K11 hK11 => ?_)
      refine W.region ?_
      refine O.ex (Ex.move rfl) rfl ?_
      refine O.ex (Ex.neqI rfl rfl) rfl ?_
      refine O.ex (Ex.move rfl) rfl ?_
      refine O.known (t := 25) (c := false) rfl (by first | rfl | decide) ?_
      refine O.guard_t rfl rfl ?_
      refine O.ex (Ex.move rfl) rfl ?_
      refine O.guard_t rfl rfl ?_
      refine O.ex (Ex.neqI rfl rfl) rfl ?_
      refine O.ex (Ex.pick_f rfl rfl) rfl ?_
      refine O.nil ?_
      refine hK11 _ _ _ ?_
      refine W.known_t rfl (by first | rfl | decide) ?_
      refine W.seq (fun K12 hK12 => ?_)
      refine W.region ?_
      refine O.ex (Ex.assign rfl) rfl ?_
      refine O.ex (Ex.assign rfl) rfl ?_
      refine O.nil ?_
      refine hK12 _ _ _ ?_
      refine W.ret ?_
      try dsimp only [thenQ, blockQ, retQ]
      first | refine ⟨_, ⟨_, _, rfl, rfl, _, _, rfl, rfl, rfl⟩, ?_⟩ | (refine retD_mark ?_; intro w H; refine ⟨_, ⟨_, _, rfl, rfl, _, _, rfl, rfl, rfl⟩, ?_⟩) | (refine retD_mark2 ?_; intro w H; refine ⟨_, ⟨_, _, rfl, rfl, _, _, rfl, rfl, rfl⟩, ?_⟩)
      first
      | exact .inl ⟨fun h => hno h.1, rfl, Holds.to (by assumption)⟩
      | exact .inl ⟨fun h => hno2 h.2, rfl, Holds.to (by assumption)⟩
      | (have H := Holds.star.2 (show Holds w (([] : List HProp) ++ _) from H)
         exact .inr ⟨⟨hyes, hyes2⟩, _, rfl, uk_open.2 ⟨g, j, [], rfl, ukO_open.2 (Holds.to (by assumption))⟩⟩)
    · refine O.ex (Ex.move rfl) rfl ?_
      refine O.ex (Ex.extract rfl rfl) rfl ?_
      refine O.ex (Ex.extract rfl rfl) rfl ?_
      refine O.ex (Ex.assign rfl) rfl ?_
      refine O.ex (Ex.assign rfl) rfl ?_
      refine O.nil ?_
      refine hK9 _ _ _ ?_
      refine W.seq (fun K13 hK13 => ?_)
      refine W.seq (fun K14 hK14 => ?_)
      refine W.region ?_
      refine O.ex (Ex.move rfl) rfl ?_
      refine O.ex (Ex.neqI rfl rfl) rfl ?_
      refine O.ex (Ex.move rfl) rfl ?_
      refine O.known (t := 25) (c := false) rfl (by first | rfl | decide) ?_
      refine O.guard_t rfl rfl ?_
      refine O.ex (Ex.move rfl) rfl ?_
      refine O.guard_t rfl rfl ?_
      refine O.ex (Ex.neqI rfl rfl) rfl ?_
      refine O.ex (Ex.pick_f rfl rfl) rfl ?_
      refine O.nil ?_
      refine hK14 _ _ _ ?_
      refine W.known_f rfl (by first | rfl | decide) ?_
      refine W.skip ?_
      refine hK13 _ _ _ ?_
      refine W.seq (fun K15 hK15 => ?_)
      refine W.region ?_
      refine O.ex (Ex.move rfl) rfl ?_
      refine O.ex (Ex.move rfl) rfl ?_
      refine O.ex (Ex.build rfl (bld143_0_1 _ _ (by first | rfl | assumption) (by first | rfl | assumption))) rfl ?_
      refine O.boxP rfl (fun b32 w H => ?_)
      refine O.ex (Ex.assign rfl) rfl ?_
      refine O.ex (Ex.assign rfl) rfl ?_
      refine O.nil ?_
      refine hK15 _ _ _ ?_
      refine W.ret ?_
      try dsimp only [thenQ, blockQ, retQ]
      first | refine ⟨_, ⟨_, _, rfl, rfl, _, _, rfl, rfl, rfl⟩, ?_⟩ | (refine retD_mark ?_; intro w H; refine ⟨_, ⟨_, _, rfl, rfl, _, _, rfl, rfl, rfl⟩, ?_⟩) | (refine retD_mark2 ?_; intro w H; refine ⟨_, ⟨_, _, rfl, rfl, _, _, rfl, rfl, rfl⟩, ?_⟩)
      first
      | exact .inl ⟨fun h => hno h.1, rfl, Holds.to (by assumption)⟩
      | exact .inl ⟨fun h => hno2 h.2, rfl, Holds.to (by assumption)⟩
      | (have H := Holds.star.2 (show Holds w (([] : List HProp) ++ _) from H)
         exact .inr ⟨⟨hyes, hyes2⟩, _, rfl, uk_open.2 ⟨g, j, [], rfl, ukO_open.2 (Holds.to (by assumption))⟩⟩)
end Go.Proofs.Ytakmbbgnnbpkoaa
