import Derived.Test.YtakmbbgnnbpkoaaUndo4
--ARR
--DEEP
namespace Go.Proofs.Ytakmbbgnnbpkoaa
open Go.Rr Go Gr
set_option linter.unusedVariables false
set_option linter.unusedSimpArgs false
def wasA (s : St) (op : OpM) : Arc := if thB s op.f_A = true then arcQ s op.f_A else op.ar
theorem wasA_yes {s : St} {op : OpM} (h : thB s op.f_A = true) : wasA s op = arcQ s op.f_A := if_pos h
theorem wasA_no {s : St} {op : OpM} (h : ¬ thB s op.f_A = true) : wasA s op = op.ar := if_neg h
def hsP (k : Nat) (hs : List (OpM × Arc)) (x : OpM × Arc) : List (OpM × Arc) := (if hs.length = k then hs.tail else hs) ++ [x]
theorem opC_no {n most : Int} {s : St} {op : OpM} (h : ¬ isCh op) : opC n most s op = 1 ∧ opS n most s op = s := by
  unfold opC opS
  have h1 : ¬ op.f_Kind = 1 := by omega
  have h2 : ¬ op.f_Kind = 2 := by omega
  have h3 : ¬ op.f_Kind = 3 := by omega
  have h4 : ¬ op.f_Kind = 4 := by omega
  have h5 : ¬ op.f_Kind = 5 := by omega
  simp only [if_neg h1, if_neg h2, if_neg h3, if_neg h4, if_neg h5, and_self]
theorem op_refused {n most : Int} {s : St} {op : OpM} (h : opC n most s op ≠ 0) : opS n most s op = s := by
  unfold opC at h
  unfold opS
  by_cases h1 : op.f_Kind = 1
  · rw [if_pos h1] at h ⊢; exact ins_refused h
  · rw [if_neg h1] at h ⊢
    by_cases h2 : op.f_Kind = 2
    · rw [if_pos h2] at h ⊢; exact del_refused h
    · rw [if_neg h2] at h ⊢
      by_cases h3 : op.f_Kind = 3
      · rw [if_pos h3] at h ⊢; exact turn_refused h
      · rw [if_neg h3] at h ⊢
        by_cases h4 : op.f_Kind = 4
        · rw [if_pos h4] at h ⊢; exact turn_refused h
        · rw [if_neg h4] at h ⊢
          by_cases h5 : op.f_Kind = 5
          · rw [if_pos h5] at h ⊢; exact weigh_refused h
          · rw [if_neg h5]
theorem star_tail {w : World} {A L : List HProp} (H : Holds w (star A :: L)) : Holds w (star A.tail :: L) := by
  cases A with
  | nil => exact H
  | cons x A =>
    have H : Holds w (x :: (A ++ L)) := Holds.star.1 H
    exact Holds.star.2 H.drop
theorem star_snoc {w : World} {x : HProp} : ∀ {A L : List HProp}, Holds w (x :: star A :: L) → Holds w (star (A ++ [x]) :: L) := by
  intro A L H
  have H : Holds w (A ++ (x :: L)) := Holds.star.1 H.swap
  refine Holds.star.2 ?_
  rw [List.append_assoc]; exact H
abbrev ezc : Array Value := #[.int .i64 0, .int .i64 0, .bool false]
abbrev ecs (s s' : St) (a : Arc) : Array Value := #[.int .i64 a.t, .int .i64 a.h, .bool (tnd s s' a)]
theorem uk_push {w : World} {b g j k b6 b3 b8 : Nat} {n most : Int} {s : St} {op : OpM} {wa : Arc} {es : List UE} {hs : List (OpM × Arc)} {L : List HProp} (he : es.map (fun e : UE => (e.op, e.was)) = hs) (hch : isCh op) (h0 : 0 ≤ op.f_W)
    (H : Holds w (RgB j k ((if (es.map UE.bk).length = k then (es.map UE.bk).tail else es.map UE.bk) ++ [⟨some (b6, b3, b8), wa⟩]) :: bookP b g j :: Gh g n most s :: pt b6 (.cells (kcs op) 151 (0, 0)) :: pt b3 (.cells op.cs 91 (0, 0)) :: pt b8 (.cells (acs wa) 31 (0, 0)) :: star (es.map entR) :: L)) :
    Holds w (Uk b k n most s (hsP k hs (op, wa)) :: L) := by
  obtain ⟨ne, hne⟩ : ∃ ne : UE, ne = ⟨(b6, b3, b8), op, wa⟩ := ⟨_, rfl⟩
  have H1 : Holds w (entR ne :: star (es.map entR) :: RgB j k ((if (es.map UE.bk).length = k then (es.map UE.bk).tail else es.map UE.bk) ++ [⟨some (b6, b3, b8), wa⟩]) :: bookP b g j :: Gh g n most s :: L) := by
    rw [hne]; exact entR_open.2 ⟨⟨hch, h0⟩, Holds.to H⟩
  have hl : (es.map UE.bk).length = es.length := List.length_map _
  have hlh : hs.length = es.length := by rw [← he]; exact List.length_map _
  by_cases hk : es.length = k
  · rw [if_pos (hl.trans hk)] at H1
    have H2 := star_snoc (Holds.swap (star_tail H1.swap))
    refine uk_open.2 ⟨g, j, es.tail ++ [ne], ?_, ukO_open.2 ?_⟩
    · unfold hsP; rw [if_pos (hlh.trans hk), List.map_append, ← he, List.map_tail, hne]; rfl
    · rw [List.map_append, List.map_append, List.map_tail, List.map_tail]
      have e : ([ne].map UE.bk) = [⟨some (b6, b3, b8), wa⟩] := by rw [hne]; rfl
      rw [e, show ([ne].map entR) = [entR ne] from rfl]
      exact Holds.to H2
  · rw [if_neg (fun h => hk (hl.symm.trans h))] at H1
    have H2 := star_snoc H1
    refine uk_open.2 ⟨g, j, es ++ [ne], ?_, ukO_open.2 ?_⟩
    · unfold hsP; rw [if_neg (fun h => hk (hlh.symm.trans h)), List.map_append, ← he, hne]; rfl
    · rw [List.map_append, List.map_append]
      have e : ([ne].map UE.bk) = [⟨some (b6, b3, b8), wa⟩] := by rw [hne]; rfl
      rw [e, show ([ne].map entR) = [entR ne] from rfl]
      exact Holds.to H2
set_option maxHeartbeats 4000000 in
theorem udo_ct {w : World} {b k : Nat} {n most : Int} {s : St} {op : OpM} {hs : List (OpM × Arc)} {L : List HProp} (hg : GOk n most s) (h0 : 0 ≤ op.f_W) (H : Holds w (Uk b k n most s hs :: L)) :
    CT Try.prog 58 [.pointer (some ⟨b, 0, none⟩), op.val] w fun u w' =>
      u = .tuple #[.agg (if opC n most s op = 0 then ecs s (opS n most s op) (wasA s op) else ezc), .int .i64 (opC n most s op)] ∧ Holds w' (Uk b k n most (opS n most s op) (if opC n most s op = 0 then hsP k hs (op, wasA s op) else hs) :: L) := by
  obtain ⟨g, j, es, he, H⟩ := uk_open.1 H
  have H := ukO_open.1 H
  refine CT.enter (N := 51) Try.func58 rfl rfl rfl rfl ?_
  refine W.seq (fun K0 hK0 => ?_)
  refine W.region ?_
  refine O.boxP rfl (fun b2 w H => ?_)
  refine O.boxP rfl (fun b3 w H => ?_)
  refine O.allocP Try.zeroValue93 (fun b4 w H => ?_)
  have H : Holds w (pt b4 (.cells ezc 93 (0, 0)) :: pt b3 (.cells op.cs 91 (0, 0)) :: pt b2 (.cells #[.pointer (some ⟨b, 0, none⟩)] 83 (0, 0)) :: bookP b g j :: Gh g n most s :: RgB j k (es.map UE.bk) :: star (es.map entR) :: L) := H
  refine O.ex (Ex.assign rfl) rfl ?_
  refine O.nil ?_
  refine hK0 _ _ _ ?_
  refine W.seq (fun K1 hK1 => ?_)
  refine W.region ?_
  refine O.ex (by first | exact Ex.loadAggP Try.isAgg91 Try.sizeOf91 rfl | exact Ex.loadAggN Try.isAgg91 Try.sizeOf91 rfl | exact Ex.loadIn Try.isAgg91 Try.sizeOf91 rfl (Holds.to (by assumption))) rfl ?_
  refine O.callF Try.call97 rfl rfl (CT.mono (of_ct (op := op) (Holds.to (by assumption))) ?_)
  rintro _ w ⟨rfl, H⟩
  refine O.ex (Ex.move rfl) rfl ?_
  refine O.ex (Ex.extract rfl rfl) rfl ?_
  refine O.ex (Ex.extract rfl rfl) rfl ?_
  refine O.allocP Try.zeroValue151 (fun b6 w H => ?_)
  refine O.storeAggP Try.sizeOf151 rfl rfl rfl (by show ((doF op.f_Kind).oneCell' && ((unF op.f_Kind).oneCell' && true)) = true; rw [doF_one, unF_one]; rfl) (fun w H => ?_)
  have H : Holds w (pt b6 (.cells (kcs op) 151 (0, 0)) :: pt b4 (.cells ezc 93 (0, 0)) :: pt b3 (.cells op.cs 91 (0, 0)) :: pt b2 (.cells #[.pointer (some ⟨b, 0, none⟩)] 83 (0, 0)) :: bookP b g j :: Gh g n most s :: RgB j k (es.map UE.bk) :: star (es.map entR) :: L) := Holds.to H
  refine O.ex (Ex.assign rfl) rfl ?_
  refine O.nil ?_
  refine hK1 _ _ _ ?_
  refine W.seq (fun K2 hK2 => ?_)
  refine W.seq (fun K3 hK3 => ?_)
  refine W.region ?_
  refine O.ex (Ex.move rfl) rfl ?_
  refine O.ex (by first | exact Ex.notD rfl | exact Ex.not rfl) rfl ?_
  refine O.nil ?_
  refine hK3 _ _ _ ?_
  first | refine W.cond_p rfl (fun hno => ?_) (fun hch0 => ?_) | refine W.cond_b rfl (fun hno => ?_) (fun hch0 => ?_)
  · refine W.seq (fun K4 hK4 => ?_)
    refine W.region ?_
    refine O.ex (Ex.build rfl (bld93_  )) rfl ?_
    first | refine O.storeAggP Try.sizeOf93 rfl rfl rfl rfl (fun w H => ?_) | refine O.storeAggN Try.sizeOf93 rfl rfl rfl (fun w H => ?_) rfl
    refine O.ex (Ex.assign rfl) rfl ?_
    refine O.nil ?_
    refine hK4 _ _ _ ?_
    refine W.ret ?_
    try dsimp only [thenQ, blockQ, retQ]
    first | refine ⟨_, ⟨_, _, _, rfl, rfl, (by first | exact loadVar_mtx Try.isAgg93 Try.sizeOf93 | exact loadVar_agg Try.isAgg93 Try.sizeOf93), _, _, rfl, rfl, rfl⟩, ?_⟩ | (refine retD_mark ?_; intro w H; refine ⟨_, ⟨_, _, _, rfl, rfl, (by first | exact loadVar_mtx Try.isAgg93 Try.sizeOf93 | exact loadVar_agg Try.isAgg93 Try.sizeOf93), _, _, rfl, rfl, rfl⟩, ?_⟩) | (refine retD_mark2 ?_; intro w H; refine ⟨_, ⟨_, _, _, rfl, rfl, (by first | exact loadVar_mtx Try.isAgg93 Try.sizeOf93 | exact loadVar_agg Try.isAgg93 Try.sizeOf93), _, _, rfl, rfl, rfl⟩, ?_⟩)
    first
    | (obtain ⟨e1, e2⟩ := opC_no (n := n) (most := most) (s := s) hno
       rw [e1, e2, if_neg (by decide), if_neg (by decide)]
       exact ⟨rfl, uk_open.2 ⟨g, j, es, he, ukO_open.2 (Holds.to (by assumption))⟩⟩)
    | (have hb : ¬ opC n most s op = 0 := hbad
       rw [op_refused hb] at H
       rw [op_refused hb, if_neg hb, if_neg hb]
       exact ⟨rfl, uk_open.2 ⟨g, j, es, he, ukO_open.2 (Holds.to H)⟩⟩)
    | (have hz := Decidable.not_not.1 hok
       rw [if_pos hz, if_pos hz, ← hwa]
       refine ⟨by rw [hz]; rfl, ?_⟩
       exact uk_push (b6 := b6) (b3 := b3) (b8 := b8) he hch h0 (Holds.to H))
  · refine W.skip ?_
    refine hK2 _ _ _ ?_
    refine W.seq (fun K5 hK5 => ?_)
    have hch : isCh op := Decidable.not_not.1 hch0
    refine W.drawTo (bookP b g j :: pt b3 (.cells op.cs 91 (0, 0)) :: pt b2 (.cells #[.pointer (some ⟨b, 0, none⟩)] 83 (0, 0)) :: []) (.take 0 (.take 1 (.take 2 (.take 3 (.take 4 (.take 5 (.two 6 10 (.take 7 (.take 8 (.take 9 (.one 10 (.one 11 (.take 12 .nil)))))) (.one 6 (.take 7 (.take 8 (.take 9 (.one 11 (.take 12 .nil))))))))))))) (mixed) (fun _ _ _ _ h => h) (by assumption) PP.auto (by decide +kernel) (fun w H => ?_)
    refine OQ.ex rfl (fun w H => (by first | exact Ex.loadP Try.isAgg83 rfl | exact Ex.loadQ Try.isAgg83 rfl | exact Ex.loadMh Try.isAgg83 rfl | exact Ex.loadR Try.isAgg83 rfl | exact Ex.loadIn1 Try.isAgg83 rfl (Holds.to (by assumption)) | exact Ex.loadM Try.isAgg83 rfl | exact Ex.loadVc Try.isAgg83 rfl)) rfl ?_
    refine OQ.ex rfl (fun w H => (by first | exact Ex.nilPtr rfl | exact Ex.nilFunc rfl | exact Ex.nilYield rfl)) rfl ?_
    refine OQ.ex rfl (fun w H => (by first | exact Ex.field0 fld143_0 rfl | exact Ex.field fld143_0 rfl | exact Ex.fieldS fld143_0 rfl)) rfl ?_
    refine OQ.ex rfl (fun w H => (by first | exact Ex.loadMh Try.isAgg24 rfl | exact Ex.loadP Try.isAgg24 rfl | exact Ex.loadM Try.isAgg24 rfl | exact Ex.loadIn1 Try.isAgg24 rfl (Holds.to (by assumption)) | exact Ex.loadVc Try.isAgg24 rfl | exact Ex.loadR Try.isAgg24 rfl | exact Ex.loadQ Try.isAgg24 rfl)) rfl ?_
    refine OQ.ex rfl (fun w H => (by first | exact Ex.field0 fld91_1 rfl | exact Ex.field fld91_1 rfl | exact Ex.fieldS fld91_1 rfl)) rfl ?_
    refine OQ.ex rfl (fun w H => (by first | exact Ex.loadMh Try.isAgg3 rfl | exact Ex.loadP Try.isAgg3 rfl | exact Ex.loadM Try.isAgg3 rfl | exact Ex.loadIn1 Try.isAgg3 rfl (Holds.to (by assumption)) | exact Ex.loadVc Try.isAgg3 rfl | exact Ex.loadR Try.isAgg3 rfl | exact Ex.loadQ Try.isAgg3 rfl)) rfl ?_
    refine OQ.two rfl rfl ?_ ?_
    · refine O.callF Try.call73 rfl rfl (CT.mono (garc_ct (g := g) (Holds.to (by assumption))) ?_)
      rintro _ w ⟨rfl, H⟩
      refine O.thenNil ⟨(by first | exact Holds.to (by assumption) | assumption), ?_⟩
      refine OQ.ex rfl (fun w H => (Ex.move rfl)) rfl ?_
      refine OQ.ex rfl (fun w H => (Ex.extract rfl rfl)) rfl ?_
      refine OQ.ex rfl (fun w H => (Ex.extract rfl rfl)) rfl ?_
      refine OQ.step rfl ?_
      refine O.allocP Try.zeroValue31 (fun b8 w H => ?_)
      refine O.thenNil ⟨(by first | exact Holds.to (by assumption) | assumption), ?_⟩
      refine OQ.step rfl ?_
      first | refine O.storeAggP Try.sizeOf31 rfl rfl rfl rfl (fun w H => ?_) | refine O.storeAggN Try.sizeOf31 rfl rfl rfl (fun w H => ?_) rfl
      refine O.thenNil ⟨(by first | exact Holds.to (by assumption) | assumption), ?_⟩
      refine OQ.ex rfl (fun w H => (Ex.assign rfl)) rfl ?_
      refine OQ.done ?_
      refine hK5 _ _ _ ?_
      refine W.seq (fun K6 hK6 => ?_)
      refine W.seq (fun K7 hK7 => ?_)
      refine W.region ?_
      have H : Holds w (pt b8 (.cells (acs (arcQ s op.f_A)) 31 (0, 0)) :: pt b6 (.cells (kcs op) 151 (0, 0)) :: pt b4 (.cells ezc 93 (0, 0)) :: pt b3 (.cells op.cs 91 (0, 0)) :: pt b2 (.cells #[.pointer (some ⟨b, 0, none⟩)] 83 (0, 0)) :: bookP b g j :: Gh g n most s :: RgB j k (es.map UE.bk) :: star (es.map entR) :: L) := Holds.to H
      refine O.ex (Ex.move rfl) rfl ?_
      refine O.ex (by first | exact Ex.notD rfl | exact Ex.not rfl) rfl ?_
      refine O.nil ?_
      refine hK7 _ _ _ ?_
      first | refine W.cond_p rfl (fun hth => ?_) (fun hth => ?_) | refine W.cond_b rfl (fun hth => ?_) (fun hth => ?_)
      · refine W.region ?_
        refine O.ex (by first | exact Ex.loadAggP Try.isAgg91 Try.sizeOf91 rfl | exact Ex.loadAggN Try.isAgg91 Try.sizeOf91 rfl | exact Ex.loadIn Try.isAgg91 Try.sizeOf91 rfl (Holds.to (by assumption))) rfl ?_
        refine O.callF Try.call98 rfl rfl (CT.mono (inserted_ct (op := op) h0 (Holds.to (by assumption))) ?_)
        rintro _ w ⟨rfl, H⟩
        first | refine O.storeAggP Try.sizeOf31 rfl rfl rfl rfl (fun w H => ?_) | refine O.storeAggN Try.sizeOf31 rfl rfl rfl (fun w H => ?_) rfl
        have H : Holds w (pt b8 (.cells (acs op.ar) 31 (0, 0)) :: pt b6 (.cells (kcs op) 151 (0, 0)) :: pt b4 (.cells ezc 93 (0, 0)) :: pt b3 (.cells op.cs 91 (0, 0)) :: pt b2 (.cells #[.pointer (some ⟨b, 0, none⟩)] 83 (0, 0)) :: bookP b g j :: Gh g n most s :: RgB j k (es.map UE.bk) :: star (es.map entR) :: L) := Holds.to H
        refine O.nil ?_
        refine hK6 _ _ _ ?_
        refine W.seq (fun K8 hK8 => ?_)
        refine W.region ?_
        obtain ⟨wa, hwa, H⟩ : ∃ wa, wa = wasA s op ∧ Holds w (pt b8 (.cells (acs wa) 31 (0, 0)) :: pt b6 (.cells (kcs op) 151 (0, 0)) :: pt b4 (.cells ezc 93 (0, 0)) :: pt b3 (.cells op.cs 91 (0, 0)) :: pt b2 (.cells #[.pointer (some ⟨b, 0, none⟩)] 83 (0, 0)) :: bookP b g j :: Gh g n most s :: RgB j k (es.map UE.bk) :: star (es.map entR) :: L) := by
          refine ⟨_, rfl, ?_⟩
          first
          | (rw [wasA_no (by simpa using hth)]; exact H)
          | (rw [wasA_yes (by simpa using hth)]; exact H)
        refine O.allocP Try.zeroValue40 (fun b10 w H => ?_)
        have H : Holds w (pt b10 (.cells #[.int .i64 0] 40 (0, 0)) :: pt b8 (.cells (acs wa) 31 (0, 0)) :: pt b6 (.cells (kcs op) 151 (0, 0)) :: pt b4 (.cells ezc 93 (0, 0)) :: pt b3 (.cells op.cs 91 (0, 0)) :: pt b2 (.cells #[.pointer (some ⟨b, 0, none⟩)] 83 (0, 0)) :: bookP b g j :: Gh g n most s :: RgB j k (es.map UE.bk) :: star (es.map entR) :: L) := H
        refine O.nil ?_
        refine hK8 _ _ _ ?_
        refine W.seq (fun K9 hK9 => ?_)
        refine W.region ?_
        have hdo : ∀ w Y, Holds w (bookP b g j :: Gh g n most s :: Y :: pt b6 (.cells (kcs op) 151 (0, 0)) :: pt b2 (.cells #[.pointer (some ⟨b, 0, none⟩)] 83 (0, 0)) :: pt b3 (.cells op.cs 91 (0, 0)) :: pt b10 (.cells #[.int .i64 0] 40 (0, 0)) :: pt b8 (.cells (acs wa) 31 (0, 0)) :: pt b4 (.cells ezc 93 (0, 0)) :: RgB j k (es.map UE.bk) :: star (es.map entR) :: L) → VT Try.prog (.func (.func 99) #[] #[.pointer (some ⟨b6, 0, none⟩), .pointer (some ⟨b2, 0, none⟩), .pointer (some ⟨b3, 0, none⟩), .pointer (some ⟨b10, 0, none⟩)]) [] w fun _ w' => Holds w' (bookP b g j :: Gh g n most (opS n most s op) :: Y :: pt b6 (.cells (kcs op) 151 (0, 0)) :: pt b2 (.cells #[.pointer (some ⟨b, 0, none⟩)] 83 (0, 0)) :: pt b3 (.cells op.cs 91 (0, 0)) :: pt b10 (.cells #[.int .i64 (opC n most s op)] 40 (0, 0)) :: pt b8 (.cells (acs wa) 31 (0, 0)) :: pt b4 (.cells ezc 93 (0, 0)) :: RgB j k (es.map UE.bk) :: star (es.map entR) :: L) := by
          intro w Y H
          have H2 : Holds w (bookP b g j :: Gh g n most s :: pt b6 (.cells (kcs op) 151 (0, 0)) :: pt b2 (.cells #[.pointer (some ⟨b, 0, none⟩)] 83 (0, 0)) :: pt b3 (.cells op.cs 91 (0, 0)) :: pt b10 (.cells #[.int .i64 0] 40 (0, 0)) :: pt b8 (.cells (acs wa) 31 (0, 0)) :: pt b4 (.cells ezc 93 (0, 0)) :: RgB j k (es.map UE.bk) :: star (es.map entR) :: Y :: L) := Holds.to H
          refine VT.mono (VT.fn (p := #[]) (q := #[.pointer (some ⟨b6, 0, none⟩), .pointer (some ⟨b2, 0, none⟩), .pointer (some ⟨b3, 0, none⟩), .pointer (some ⟨b10, 0, none⟩)]) (args := []) Try.call99 (do1_ct hg h0 hch H2)) ?_
          intro u w' H3
          exact Holds.to H3
        refine O.ex (by first | exact Ex.loadP Try.isAgg83 rfl | exact Ex.loadQ Try.isAgg83 rfl | exact Ex.loadMh Try.isAgg83 rfl | exact Ex.loadR Try.isAgg83 rfl | exact Ex.loadIn1 Try.isAgg83 rfl (Holds.to (by assumption)) | exact Ex.loadM Try.isAgg83 rfl | exact Ex.loadVc Try.isAgg83 rfl) rfl ?_
        refine O.ex (by first | exact Ex.loadAggP Try.isAgg31 Try.sizeOf31 rfl | exact Ex.loadAggN Try.isAgg31 Try.sizeOf31 rfl | exact Ex.loadIn Try.isAgg31 Try.sizeOf31 rfl (Holds.to (by assumption))) rfl ?_
        refine O.ex (Ex.makeFunc rfl rfl) rfl ?_
        refine O.callF Try.call94 rfl rfl (CT.mono (turned_ct (b := b) (g := g) (j := j) (a := wa) hg (ok_op hg op) hdo (Holds.to (M := bookP b g j :: Gh g n most s :: pt b6 (.cells (kcs op) 151 (0, 0)) :: pt b2 (.cells #[.pointer (some ⟨b, 0, none⟩)] 83 (0, 0)) :: pt b3 (.cells op.cs 91 (0, 0)) :: pt b10 (.cells #[.int .i64 0] 40 (0, 0)) :: pt b8 (.cells (acs wa) 31 (0, 0)) :: pt b4 (.cells ezc 93 (0, 0)) :: RgB j k (es.map UE.bk) :: star (es.map entR) :: L) H)) ?_)
        rintro _ w ⟨rfl, H⟩
        refine O.allocP Try.zeroValue93 (fun b11 w H => ?_)
        first | refine O.storeAggP Try.sizeOf93 rfl rfl rfl rfl (fun w H => ?_) | refine O.storeAggN Try.sizeOf93 rfl rfl rfl (fun w H => ?_) rfl
        have H : Holds w (pt b4 (.cells ezc 93 (0, 0)) :: pt b11 (.cells (ecs s (opS n most s op) wa) 93 (0, 0)) :: bookP b g j :: Gh g n most (opS n most s op) :: pt b6 (.cells (kcs op) 151 (0, 0)) :: pt b2 (.cells #[.pointer (some ⟨b, 0, none⟩)] 83 (0, 0)) :: pt b3 (.cells op.cs 91 (0, 0)) :: pt b10 (.cells #[.int .i64 (opC n most s op)] 40 (0, 0)) :: pt b8 (.cells (acs wa) 31 (0, 0)) :: RgB j k (es.map UE.bk) :: star (es.map entR) :: L) := Holds.to H
        refine O.nil ?_
        refine hK9 _ _ _ ?_
        refine W.seq (fun K10 hK10 => ?_)
        refine W.seq (fun K11 hK11 => ?_)
        refine W.region ?_
        refine O.ex (by first | exact Ex.loadP Try.isAgg40 rfl | exact Ex.loadQ Try.isAgg40 rfl | exact Ex.loadMh Try.isAgg40 rfl | exact Ex.loadR Try.isAgg40 rfl | exact Ex.loadIn1 Try.isAgg40 rfl (Holds.to (by assumption)) | exact Ex.loadM Try.isAgg40 rfl | exact Ex.loadVc Try.isAgg40 rfl) rfl ?_
        refine O.ex (Ex.neqI rfl rfl) rfl ?_
        refine O.nil ?_
        refine hK11 _ _ _ ?_
        first | refine W.cond_p rfl (fun hbad => ?_) (fun hok => ?_) | refine W.cond_b rfl (fun hbad => ?_) (fun hok => ?_)
        · refine W.seq (fun K12 hK12 => ?_)
          refine W.drawTo _ (.take 0 (.take 1 (.one 2 (.take 3 .nil)))) (mixed) (fun _ _ _ _ h => h) (by assumption) (PP.refl _) (by decide +kernel) (fun w H => ?_)
          refine OQ.ex rfl (fun w H => (Ex.build rfl (bld93_  ))) rfl ?_
          refine OQ.ex rfl (fun w H => (by first | exact Ex.loadP Try.isAgg40 rfl | exact Ex.loadQ Try.isAgg40 rfl | exact Ex.loadMh Try.isAgg40 rfl | exact Ex.loadR Try.isAgg40 rfl | exact Ex.loadIn1 Try.isAgg40 rfl (Holds.to (by assumption)) | exact Ex.loadM Try.isAgg40 rfl | exact Ex.loadVc Try.isAgg40 rfl)) rfl ?_
          refine OQ.step rfl ?_
          first | refine O.storeAggP Try.sizeOf93 rfl rfl rfl rfl (fun w H => ?_) | refine O.storeAggN Try.sizeOf93 rfl rfl rfl (fun w H => ?_) rfl
          refine O.thenNil ⟨(by first | exact Holds.to (by assumption) | assumption), ?_⟩
          refine OQ.ex rfl (fun w H => (Ex.assign rfl)) rfl ?_
          refine OQ.done ?_
          refine hK12 _ _ _ ?_
          refine W.ret ?_
          try dsimp only [thenQ, blockQ, retQ]
          first | refine ⟨_, ⟨_, _, _, rfl, rfl, (by first | exact loadVar_mtx Try.isAgg93 Try.sizeOf93 | exact loadVar_agg Try.isAgg93 Try.sizeOf93), _, _, rfl, rfl, rfl⟩, ?_⟩ | (refine retD_mark ?_; intro w H; refine ⟨_, ⟨_, _, _, rfl, rfl, (by first | exact loadVar_mtx Try.isAgg93 Try.sizeOf93 | exact loadVar_agg Try.isAgg93 Try.sizeOf93), _, _, rfl, rfl, rfl⟩, ?_⟩) | (refine retD_mark2 ?_; intro w H; refine ⟨_, ⟨_, _, _, rfl, rfl, (by first | exact loadVar_mtx Try.isAgg93 Try.sizeOf93 | exact loadVar_agg Try.isAgg93 Try.sizeOf93), _, _, rfl, rfl, rfl⟩, ?_⟩)
          first
          | (obtain ⟨e1, e2⟩ := opC_no (n := n) (most := most) (s := s) hno
             rw [e1, e2, if_neg (by decide), if_neg (by decide)]
             exact ⟨rfl, uk_open.2 ⟨g, j, es, he, ukO_open.2 (Holds.to (by assumption))⟩⟩)
          | (have hb : ¬ opC n most s op = 0 := hbad
             rw [op_refused hb] at H
             rw [op_refused hb, if_neg hb, if_neg hb]
             exact ⟨rfl, uk_open.2 ⟨g, j, es, he, ukO_open.2 (Holds.to H)⟩⟩)
          | (have hz := Decidable.not_not.1 hok
             rw [if_pos hz, if_pos hz, ← hwa]
             refine ⟨by rw [hz]; rfl, ?_⟩
             exact uk_push (b6 := b6) (b3 := b3) (b8 := b8) he hch h0 (Holds.to H))
        · refine W.skip ?_
          refine hK10 _ _ _ ?_
          refine W.seq (fun K13 hK13 => ?_)
          refine W.drawTo (bookP b g j :: pt b2 (.cells #[.pointer (some ⟨b, 0, none⟩)] 83 (0, 0)) :: pt b8 (.cells (acs wa) 31 (0, 0)) :: []) (.take 0 (.take 1 (.take 2 (.take 3 (.take 4 (.take 5 (.take 6 (.one 7 .nil)))))))) (mixed) (fun _ _ _ _ h => h) (by assumption) PP.auto (by decide +kernel) (fun w H => ?_)
          refine OQ.ex rfl (fun w H => (by first | exact Ex.loadP Try.isAgg83 rfl | exact Ex.loadQ Try.isAgg83 rfl | exact Ex.loadMh Try.isAgg83 rfl | exact Ex.loadR Try.isAgg83 rfl | exact Ex.loadIn1 Try.isAgg83 rfl (Holds.to (by assumption)) | exact Ex.loadM Try.isAgg83 rfl | exact Ex.loadVc Try.isAgg83 rfl)) rfl ?_
          refine OQ.ex rfl (fun w H => (by first | exact Ex.nilPtr rfl | exact Ex.nilFunc rfl | exact Ex.nilYield rfl)) rfl ?_
          refine OQ.ex rfl (fun w H => (by first | exact Ex.field0 fld143_1 rfl | exact Ex.field fld143_1 rfl | exact Ex.fieldS fld143_1 rfl)) rfl ?_
          refine OQ.ex rfl (fun w H => (by first | exact Ex.loadMh Try.isAgg136 rfl | exact Ex.loadP Try.isAgg136 rfl | exact Ex.loadM Try.isAgg136 rfl | exact Ex.loadIn1 Try.isAgg136 rfl (Holds.to (by assumption)) | exact Ex.loadVc Try.isAgg136 rfl | exact Ex.loadR Try.isAgg136 rfl | exact Ex.loadQ Try.isAgg136 rfl)) rfl ?_
          refine OQ.ex rfl (fun w H => (Ex.makeFunc rfl rfl)) rfl ?_
          refine OQ.ex rfl (fun w H => (by first | exact Ex.loadAggP Try.isAgg31 Try.sizeOf31 rfl | exact Ex.loadAggN Try.isAgg31 Try.sizeOf31 rfl | exact Ex.loadIn Try.isAgg31 Try.sizeOf31 rfl (Holds.to (by assumption)))) rfl ?_
          refine OQ.ex rfl (fun w H => (Ex.build rfl (bld141_0_1 _ _ _ _ _ (by first | rfl | assumption)))) rfl ?_
          refine OQ.last rfl (by decide +kernel) ?_
          refine O.callF Try.call100 rfl rfl (CT.mono (pushB_ct (s := j) (v := ⟨some (b6, b3, b8), wa⟩) (Holds.to (M := RgB j k (es.map UE.bk) :: _) H)) ?_)
          rintro _ w H
          refine O.nil ?_
          refine hK13 _ _ _ ?_
          refine W.seq (fun K14 hK14 => ?_)
          refine W.region ?_
          have H : Holds w (pt b4 (.cells ezc 93 (0, 0)) :: pt b11 (.cells (ecs s (opS n most s op) wa) 93 (0, 0)) :: RgB j k ((if (es.map UE.bk).length = k then (es.map UE.bk).tail else es.map UE.bk) ++ [⟨some (b6, b3, b8), wa⟩]) :: bookP b g j :: Gh g n most (opS n most s op) :: pt b6 (.cells (kcs op) 151 (0, 0)) :: pt b2 (.cells #[.pointer (some ⟨b, 0, none⟩)] 83 (0, 0)) :: pt b3 (.cells op.cs 91 (0, 0)) :: pt b8 (.cells (acs wa) 31 (0, 0)) :: star (es.map entR) :: L) := Holds.to H
          refine O.ex (by first | exact Ex.loadAggP Try.isAgg93 Try.sizeOf93 rfl | exact Ex.loadAggN Try.isAgg93 Try.sizeOf93 rfl | exact Ex.loadIn Try.isAgg93 Try.sizeOf93 rfl (Holds.to (by assumption))) rfl ?_
          first | refine O.storeAggP Try.sizeOf93 rfl rfl rfl rfl (fun w H => ?_) | refine O.storeAggN Try.sizeOf93 rfl rfl rfl (fun w H => ?_) rfl
          have H : Holds w (pt b4 (.cells (ecs s (opS n most s op) wa) 93 (0, 0)) :: pt b11 (.cells (ecs s (opS n most s op) wa) 93 (0, 0)) :: RgB j k ((if (es.map UE.bk).length = k then (es.map UE.bk).tail else es.map UE.bk) ++ [⟨some (b6, b3, b8), wa⟩]) :: bookP b g j :: Gh g n most (opS n most s op) :: pt b6 (.cells (kcs op) 151 (0, 0)) :: pt b2 (.cells #[.pointer (some ⟨b, 0, none⟩)] 83 (0, 0)) :: pt b3 (.cells op.cs 91 (0, 0)) :: pt b8 (.cells (acs wa) 31 (0, 0)) :: star (es.map entR) :: L) := H
          refine O.ex (Ex.assign rfl) rfl ?_
          refine O.nil ?_
          refine hK14 _ _ _ ?_
          refine W.ret ?_
          try dsimp only [thenQ, blockQ, retQ]
          first | refine ⟨_, ⟨_, _, _, rfl, rfl, (by first | exact loadVar_mtx Try.isAgg93 Try.sizeOf93 | exact loadVar_agg Try.isAgg93 Try.sizeOf93), _, _, rfl, rfl, rfl⟩, ?_⟩ | (refine retD_mark ?_; intro w H; refine ⟨_, ⟨_, _, _, rfl, rfl, (by first | exact loadVar_mtx Try.isAgg93 Try.sizeOf93 | exact loadVar_agg Try.isAgg93 Try.sizeOf93), _, _, rfl, rfl, rfl⟩, ?_⟩) | (refine retD_mark2 ?_; intro w H; refine ⟨_, ⟨_, _, _, rfl, rfl, (by first | exact loadVar_mtx Try.isAgg93 Try.sizeOf93 | exact loadVar_agg Try.isAgg93 Try.sizeOf93), _, _, rfl, rfl, rfl⟩, ?_⟩)
          first
          | (obtain ⟨e1, e2⟩ := opC_no (n := n) (most := most) (s := s) hno
             rw [e1, e2, if_neg (by decide), if_neg (by decide)]
             exact ⟨rfl, uk_open.2 ⟨g, j, es, he, ukO_open.2 (Holds.to (by assumption))⟩⟩)
          | (have hb : ¬ opC n most s op = 0 := hbad
             rw [op_refused hb] at H
             rw [op_refused hb, if_neg hb, if_neg hb]
             exact ⟨rfl, uk_open.2 ⟨g, j, es, he, ukO_open.2 (Holds.to H)⟩⟩)
          | (have hz := Decidable.not_not.1 hok
             rw [if_pos hz, if_pos hz, ← hwa]
             refine ⟨by rw [hz]; rfl, ?_⟩
             exact uk_push (b6 := b6) (b3 := b3) (b8 := b8) he hch h0 (Holds.to H))
      · refine W.skip ?_
        refine hK6 _ _ _ ?_
        refine W.seq (fun K15 hK15 => ?_)
        refine W.region ?_
        obtain ⟨wa, hwa, H⟩ : ∃ wa, wa = wasA s op ∧ Holds w (pt b8 (.cells (acs wa) 31 (0, 0)) :: pt b6 (.cells (kcs op) 151 (0, 0)) :: pt b4 (.cells ezc 93 (0, 0)) :: pt b3 (.cells op.cs 91 (0, 0)) :: pt b2 (.cells #[.pointer (some ⟨b, 0, none⟩)] 83 (0, 0)) :: bookP b g j :: Gh g n most s :: RgB j k (es.map UE.bk) :: star (es.map entR) :: L) := by
          refine ⟨_, rfl, ?_⟩
          first
          | (rw [wasA_no (by simpa using hth)]; exact H)
          | (rw [wasA_yes (by simpa using hth)]; exact H)
        refine O.allocP Try.zeroValue40 (fun b10 w H => ?_)
        have H : Holds w (pt b10 (.cells #[.int .i64 0] 40 (0, 0)) :: pt b8 (.cells (acs wa) 31 (0, 0)) :: pt b6 (.cells (kcs op) 151 (0, 0)) :: pt b4 (.cells ezc 93 (0, 0)) :: pt b3 (.cells op.cs 91 (0, 0)) :: pt b2 (.cells #[.pointer (some ⟨b, 0, none⟩)] 83 (0, 0)) :: bookP b g j :: Gh g n most s :: RgB j k (es.map UE.bk) :: star (es.map entR) :: L) := H
        refine O.nil ?_
        refine hK15 _ _ _ ?_
        refine W.seq (fun K16 hK16 => ?_)
        refine W.region ?_
        have hdo : ∀ w Y, Holds w (bookP b g j :: Gh g n most s :: Y :: pt b6 (.cells (kcs op) 151 (0, 0)) :: pt b2 (.cells #[.pointer (some ⟨b, 0, none⟩)] 83 (0, 0)) :: pt b3 (.cells op.cs 91 (0, 0)) :: pt b10 (.cells #[.int .i64 0] 40 (0, 0)) :: pt b8 (.cells (acs wa) 31 (0, 0)) :: pt b4 (.cells ezc 93 (0, 0)) :: RgB j k (es.map UE.bk) :: star (es.map entR) :: L) → VT Try.prog (.func (.func 99) #[] #[.pointer (some ⟨b6, 0, none⟩), .pointer (some ⟨b2, 0, none⟩), .pointer (some ⟨b3, 0, none⟩), .pointer (some ⟨b10, 0, none⟩)]) [] w fun _ w' => Holds w' (bookP b g j :: Gh g n most (opS n most s op) :: Y :: pt b6 (.cells (kcs op) 151 (0, 0)) :: pt b2 (.cells #[.pointer (some ⟨b, 0, none⟩)] 83 (0, 0)) :: pt b3 (.cells op.cs 91 (0, 0)) :: pt b10 (.cells #[.int .i64 (opC n most s op)] 40 (0, 0)) :: pt b8 (.cells (acs wa) 31 (0, 0)) :: pt b4 (.cells ezc 93 (0, 0)) :: RgB j k (es.map UE.bk) :: star (es.map entR) :: L) := by
          intro w Y H
          have H2 : Holds w (bookP b g j :: Gh g n most s :: pt b6 (.cells (kcs op) 151 (0, 0)) :: pt b2 (.cells #[.pointer (some ⟨b, 0, none⟩)] 83 (0, 0)) :: pt b3 (.cells op.cs 91 (0, 0)) :: pt b10 (.cells #[.int .i64 0] 40 (0, 0)) :: pt b8 (.cells (acs wa) 31 (0, 0)) :: pt b4 (.cells ezc 93 (0, 0)) :: RgB j k (es.map UE.bk) :: star (es.map entR) :: Y :: L) := Holds.to H
          refine VT.mono (VT.fn (p := #[]) (q := #[.pointer (some ⟨b6, 0, none⟩), .pointer (some ⟨b2, 0, none⟩), .pointer (some ⟨b3, 0, none⟩), .pointer (some ⟨b10, 0, none⟩)]) (args := []) Try.call99 (do1_ct hg h0 hch H2)) ?_
          intro u w' H3
          exact Holds.to H3
        refine O.ex (by first | exact Ex.loadP Try.isAgg83 rfl | exact Ex.loadQ Try.isAgg83 rfl | exact Ex.loadMh Try.isAgg83 rfl | exact Ex.loadR Try.isAgg83 rfl | exact Ex.loadIn1 Try.isAgg83 rfl (Holds.to (by assumption)) | exact Ex.loadM Try.isAgg83 rfl | exact Ex.loadVc Try.isAgg83 rfl) rfl ?_
        refine O.ex (by first | exact Ex.loadAggP Try.isAgg31 Try.sizeOf31 rfl | exact Ex.loadAggN Try.isAgg31 Try.sizeOf31 rfl | exact Ex.loadIn Try.isAgg31 Try.sizeOf31 rfl (Holds.to (by assumption))) rfl ?_
        refine O.ex (Ex.makeFunc rfl rfl) rfl ?_
        refine O.callF Try.call94 rfl rfl (CT.mono (turned_ct (b := b) (g := g) (j := j) (a := wa) hg (ok_op hg op) hdo (Holds.to (M := bookP b g j :: Gh g n most s :: pt b6 (.cells (kcs op) 151 (0, 0)) :: pt b2 (.cells #[.pointer (some ⟨b, 0, none⟩)] 83 (0, 0)) :: pt b3 (.cells op.cs 91 (0, 0)) :: pt b10 (.cells #[.int .i64 0] 40 (0, 0)) :: pt b8 (.cells (acs wa) 31 (0, 0)) :: pt b4 (.cells ezc 93 (0, 0)) :: RgB j k (es.map UE.bk) :: star (es.map entR) :: L) H)) ?_)
        rintro _ w ⟨rfl, H⟩
        refine O.allocP Try.zeroValue93 (fun b11 w H => ?_)
        first | refine O.storeAggP Try.sizeOf93 rfl rfl rfl rfl (fun w H => ?_) | refine O.storeAggN Try.sizeOf93 rfl rfl rfl (fun w H => ?_) rfl
        have H : Holds w (pt b4 (.cells ezc 93 (0, 0)) :: pt b11 (.cells (ecs s (opS n most s op) wa) 93 (0, 0)) :: bookP b g j :: Gh g n most (opS n most s op) :: pt b6 (.cells (kcs op) 151 (0, 0)) :: pt b2 (.cells #[.pointer (some ⟨b, 0, none⟩)] 83 (0, 0)) :: pt b3 (.cells op.cs 91 (0, 0)) :: pt b10 (.cells #[.int .i64 (opC n most s op)] 40 (0, 0)) :: pt b8 (.cells (acs wa) 31 (0, 0)) :: RgB j k (es.map UE.bk) :: star (es.map entR) :: L) := Holds.to H
        refine O.nil ?_
        refine hK16 _ _ _ ?_
        refine W.seq (fun K17 hK17 => ?_)
        refine W.seq (fun K18 hK18 => ?_)
        refine W.region ?_
        refine O.ex (by first | exact Ex.loadP Try.isAgg40 rfl | exact Ex.loadQ Try.isAgg40 rfl | exact Ex.loadMh Try.isAgg40 rfl | exact Ex.loadR Try.isAgg40 rfl | exact Ex.loadIn1 Try.isAgg40 rfl (Holds.to (by assumption)) | exact Ex.loadM Try.isAgg40 rfl | exact Ex.loadVc Try.isAgg40 rfl) rfl ?_
        refine O.ex (Ex.neqI rfl rfl) rfl ?_
        refine O.nil ?_
        refine hK18 _ _ _ ?_
        first | refine W.cond_p rfl (fun hbad => ?_) (fun hok => ?_) | refine W.cond_b rfl (fun hbad => ?_) (fun hok => ?_)
        · refine W.seq (fun K19 hK19 => ?_)
          refine W.drawTo _ (.take 0 (.take 1 (.one 2 (.take 3 .nil)))) (mixed) (fun _ _ _ _ h => h) (by assumption) (PP.refl _) (by decide +kernel) (fun w H => ?_)
          refine OQ.ex rfl (fun w H => (Ex.build rfl (bld93_  ))) rfl ?_
          refine OQ.ex rfl (fun w H => (by first | exact Ex.loadP Try.isAgg40 rfl | exact Ex.loadQ Try.isAgg40 rfl | exact Ex.loadMh Try.isAgg40 rfl | exact Ex.loadR Try.isAgg40 rfl | exact Ex.loadIn1 Try.isAgg40 rfl (Holds.to (by assumption)) | exact Ex.loadM Try.isAgg40 rfl | exact Ex.loadVc Try.isAgg40 rfl)) rfl ?_
          refine OQ.step rfl ?_
          first | refine O.storeAggP Try.sizeOf93 rfl rfl rfl rfl (fun w H => ?_) | refine O.storeAggN Try.sizeOf93 rfl rfl rfl (fun w H => ?_) rfl
          refine O.thenNil ⟨(by first | exact Holds.to (by assumption) | assumption), ?_⟩
          refine OQ.ex rfl (fun w H => (Ex.assign rfl)) rfl ?_
          refine OQ.done ?_
          refine hK19 _ _ _ ?_
          refine W.ret ?_
          try dsimp only [thenQ, blockQ, retQ]
          first | refine ⟨_, ⟨_, _, _, rfl, rfl, (by first | exact loadVar_mtx Try.isAgg93 Try.sizeOf93 | exact loadVar_agg Try.isAgg93 Try.sizeOf93), _, _, rfl, rfl, rfl⟩, ?_⟩ | (refine retD_mark ?_; intro w H; refine ⟨_, ⟨_, _, _, rfl, rfl, (by first | exact loadVar_mtx Try.isAgg93 Try.sizeOf93 | exact loadVar_agg Try.isAgg93 Try.sizeOf93), _, _, rfl, rfl, rfl⟩, ?_⟩) | (refine retD_mark2 ?_; intro w H; refine ⟨_, ⟨_, _, _, rfl, rfl, (by first | exact loadVar_mtx Try.isAgg93 Try.sizeOf93 | exact loadVar_agg Try.isAgg93 Try.sizeOf93), _, _, rfl, rfl, rfl⟩, ?_⟩)
          first
          | (obtain ⟨e1, e2⟩ := opC_no (n := n) (most := most) (s := s) hno
             rw [e1, e2, if_neg (by decide), if_neg (by decide)]
             exact ⟨rfl, uk_open.2 ⟨g, j, es, he, ukO_open.2 (Holds.to (by assumption))⟩⟩)
          | (have hb : ¬ opC n most s op = 0 := hbad
             rw [op_refused hb] at H
             rw [op_refused hb, if_neg hb, if_neg hb]
             exact ⟨rfl, uk_open.2 ⟨g, j, es, he, ukO_open.2 (Holds.to H)⟩⟩)
          | (have hz := Decidable.not_not.1 hok
             rw [if_pos hz, if_pos hz, ← hwa]
             refine ⟨by rw [hz]; rfl, ?_⟩
             exact uk_push (b6 := b6) (b3 := b3) (b8 := b8) he hch h0 (Holds.to H))
        · refine W.skip ?_
          refine hK17 _ _ _ ?_
          refine W.seq (fun K20 hK20 => ?_)
          refine W.drawTo (bookP b g j :: pt b2 (.cells #[.pointer (some ⟨b, 0, none⟩)] 83 (0, 0)) :: pt b8 (.cells (acs wa) 31 (0, 0)) :: []) (.take 0 (.take 1 (.take 2 (.take 3 (.take 4 (.take 5 (.take 6 (.one 7 .nil)))))))) (mixed) (fun _ _ _ _ h => h) (by assumption) PP.auto (by decide +kernel) (fun w H => ?_)
          refine OQ.ex rfl (fun w H => (by first | exact Ex.loadP Try.isAgg83 rfl | exact Ex.loadQ Try.isAgg83 rfl | exact Ex.loadMh Try.isAgg83 rfl | exact Ex.loadR Try.isAgg83 rfl | exact Ex.loadIn1 Try.isAgg83 rfl (Holds.to (by assumption)) | exact Ex.loadM Try.isAgg83 rfl | exact Ex.loadVc Try.isAgg83 rfl)) rfl ?_
          refine OQ.ex rfl (fun w H => (by first | exact Ex.nilPtr rfl | exact Ex.nilFunc rfl | exact Ex.nilYield rfl)) rfl ?_
          refine OQ.ex rfl (fun w H => (by first | exact Ex.field0 fld143_1 rfl | exact Ex.field fld143_1 rfl | exact Ex.fieldS fld143_1 rfl)) rfl ?_
          refine OQ.ex rfl (fun w H => (by first | exact Ex.loadMh Try.isAgg136 rfl | exact Ex.loadP Try.isAgg136 rfl | exact Ex.loadM Try.isAgg136 rfl | exact Ex.loadIn1 Try.isAgg136 rfl (Holds.to (by assumption)) | exact Ex.loadVc Try.isAgg136 rfl | exact Ex.loadR Try.isAgg136 rfl | exact Ex.loadQ Try.isAgg136 rfl)) rfl ?_
          refine OQ.ex rfl (fun w H => (Ex.makeFunc rfl rfl)) rfl ?_
          refine OQ.ex rfl (fun w H => (by first | exact Ex.loadAggP Try.isAgg31 Try.sizeOf31 rfl | exact Ex.loadAggN Try.isAgg31 Try.sizeOf31 rfl | exact Ex.loadIn Try.isAgg31 Try.sizeOf31 rfl (Holds.to (by assumption)))) rfl ?_
          refine OQ.ex rfl (fun w H => (Ex.build rfl (bld141_0_1 _ _ _ _ _ (by first | rfl | assumption)))) rfl ?_
          refine OQ.last rfl (by decide +kernel) ?_
          refine O.callF Try.call100 rfl rfl (CT.mono (pushB_ct (s := j) (v := ⟨some (b6, b3, b8), wa⟩) (Holds.to (M := RgB j k (es.map UE.bk) :: _) H)) ?_)
          rintro _ w H
          refine O.nil ?_
          refine hK20 _ _ _ ?_
          refine W.seq (fun K21 hK21 => ?_)
          refine W.region ?_
          have H : Holds w (pt b4 (.cells ezc 93 (0, 0)) :: pt b11 (.cells (ecs s (opS n most s op) wa) 93 (0, 0)) :: RgB j k ((if (es.map UE.bk).length = k then (es.map UE.bk).tail else es.map UE.bk) ++ [⟨some (b6, b3, b8), wa⟩]) :: bookP b g j :: Gh g n most (opS n most s op) :: pt b6 (.cells (kcs op) 151 (0, 0)) :: pt b2 (.cells #[.pointer (some ⟨b, 0, none⟩)] 83 (0, 0)) :: pt b3 (.cells op.cs 91 (0, 0)) :: pt b8 (.cells (acs wa) 31 (0, 0)) :: star (es.map entR) :: L) := Holds.to H
          refine O.ex (by first | exact Ex.loadAggP Try.isAgg93 Try.sizeOf93 rfl | exact Ex.loadAggN Try.isAgg93 Try.sizeOf93 rfl | exact Ex.loadIn Try.isAgg93 Try.sizeOf93 rfl (Holds.to (by assumption))) rfl ?_
          first | refine O.storeAggP Try.sizeOf93 rfl rfl rfl rfl (fun w H => ?_) | refine O.storeAggN Try.sizeOf93 rfl rfl rfl (fun w H => ?_) rfl
          have H : Holds w (pt b4 (.cells (ecs s (opS n most s op) wa) 93 (0, 0)) :: pt b11 (.cells (ecs s (opS n most s op) wa) 93 (0, 0)) :: RgB j k ((if (es.map UE.bk).length = k then (es.map UE.bk).tail else es.map UE.bk) ++ [⟨some (b6, b3, b8), wa⟩]) :: bookP b g j :: Gh g n most (opS n most s op) :: pt b6 (.cells (kcs op) 151 (0, 0)) :: pt b2 (.cells #[.pointer (some ⟨b, 0, none⟩)] 83 (0, 0)) :: pt b3 (.cells op.cs 91 (0, 0)) :: pt b8 (.cells (acs wa) 31 (0, 0)) :: star (es.map entR) :: L) := H
          refine O.ex (Ex.assign rfl) rfl ?_
          refine O.nil ?_
          refine hK21 _ _ _ ?_
          refine W.ret ?_
          try dsimp only [thenQ, blockQ, retQ]
          first | refine ⟨_, ⟨_, _, _, rfl, rfl, (by first | exact loadVar_mtx Try.isAgg93 Try.sizeOf93 | exact loadVar_agg Try.isAgg93 Try.sizeOf93), _, _, rfl, rfl, rfl⟩, ?_⟩ | (refine retD_mark ?_; intro w H; refine ⟨_, ⟨_, _, _, rfl, rfl, (by first | exact loadVar_mtx Try.isAgg93 Try.sizeOf93 | exact loadVar_agg Try.isAgg93 Try.sizeOf93), _, _, rfl, rfl, rfl⟩, ?_⟩) | (refine retD_mark2 ?_; intro w H; refine ⟨_, ⟨_, _, _, rfl, rfl, (by first | exact loadVar_mtx Try.isAgg93 Try.sizeOf93 | exact loadVar_agg Try.isAgg93 Try.sizeOf93), _, _, rfl, rfl, rfl⟩, ?_⟩)
          first
          | (obtain ⟨e1, e2⟩ := opC_no (n := n) (most := most) (s := s) hno
             rw [e1, e2, if_neg (by decide), if_neg (by decide)]
             exact ⟨rfl, uk_open.2 ⟨g, j, es, he, ukO_open.2 (Holds.to (by assumption))⟩⟩)
          | (have hb : ¬ opC n most s op = 0 := hbad
             rw [op_refused hb] at H
             rw [op_refused hb, if_neg hb, if_neg hb]
             exact ⟨rfl, uk_open.2 ⟨g, j, es, he, ukO_open.2 (Holds.to H)⟩⟩)
          | (have hz := Decidable.not_not.1 hok
             rw [if_pos hz, if_pos hz, ← hwa]
             refine ⟨by rw [hz]; rfl, ?_⟩
             exact uk_push (b6 := b6) (b3 := b3) (b8 := b8) he hch h0 (Holds.to H))
    · refine O.allocP Try.zeroValue31 (fun b8 w H => ?_)
      refine O.thenNil ⟨(by first | exact Holds.to (by assumption) | assumption), ?_⟩
      refine OQ.step rfl ?_
      refine O.callF Try.call73 rfl rfl (CT.mono (garc_ct (g := g) (Holds.to (by assumption))) ?_)
      rintro _ w ⟨rfl, H⟩
      refine O.thenNil ⟨(by first | exact Holds.to (by assumption) | assumption), ?_⟩
      refine OQ.ex rfl (fun w H => (Ex.move rfl)) rfl ?_
      refine OQ.ex rfl (fun w H => (Ex.extract rfl rfl)) rfl ?_
      refine OQ.ex rfl (fun w H => (Ex.extract rfl rfl)) rfl ?_
      refine OQ.step rfl ?_
      first | refine O.storeAggP Try.sizeOf31 rfl rfl rfl rfl (fun w H => ?_) | refine O.storeAggN Try.sizeOf31 rfl rfl rfl (fun w H => ?_) rfl
      refine O.thenNil ⟨(by first | exact Holds.to (by assumption) | assumption), ?_⟩
      refine OQ.ex rfl (fun w H => (Ex.assign rfl)) rfl ?_
      refine OQ.done ?_
      refine hK5 _ _ _ ?_
      refine W.seq (fun K22 hK22 => ?_)
      refine W.seq (fun K23 hK23 => ?_)
      refine W.region ?_
      have H : Holds w (pt b8 (.cells (acs (arcQ s op.f_A)) 31 (0, 0)) :: pt b6 (.cells (kcs op) 151 (0, 0)) :: pt b4 (.cells ezc 93 (0, 0)) :: pt b3 (.cells op.cs 91 (0, 0)) :: pt b2 (.cells #[.pointer (some ⟨b, 0, none⟩)] 83 (0, 0)) :: bookP b g j :: Gh g n most s :: RgB j k (es.map UE.bk) :: star (es.map entR) :: L) := Holds.to H
      refine O.ex (Ex.move rfl) rfl ?_
      refine O.ex (by first | exact Ex.notD rfl | exact Ex.not rfl) rfl ?_
      refine O.nil ?_
      refine hK23 _ _ _ ?_
      first | refine W.cond_p rfl (fun hth => ?_) (fun hth => ?_) | refine W.cond_b rfl (fun hth => ?_) (fun hth => ?_)
      · refine W.region ?_
        refine O.ex (by first | exact Ex.loadAggP Try.isAgg91 Try.sizeOf91 rfl | exact Ex.loadAggN Try.isAgg91 Try.sizeOf91 rfl | exact Ex.loadIn Try.isAgg91 Try.sizeOf91 rfl (Holds.to (by assumption))) rfl ?_
        refine O.callF Try.call98 rfl rfl (CT.mono (inserted_ct (op := op) h0 (Holds.to (by assumption))) ?_)
        rintro _ w ⟨rfl, H⟩
        first | refine O.storeAggP Try.sizeOf31 rfl rfl rfl rfl (fun w H => ?_) | refine O.storeAggN Try.sizeOf31 rfl rfl rfl (fun w H => ?_) rfl
        have H : Holds w (pt b8 (.cells (acs op.ar) 31 (0, 0)) :: pt b6 (.cells (kcs op) 151 (0, 0)) :: pt b4 (.cells ezc 93 (0, 0)) :: pt b3 (.cells op.cs 91 (0, 0)) :: pt b2 (.cells #[.pointer (some ⟨b, 0, none⟩)] 83 (0, 0)) :: bookP b g j :: Gh g n most s :: RgB j k (es.map UE.bk) :: star (es.map entR) :: L) := Holds.to H
        refine O.nil ?_
        refine hK22 _ _ _ ?_
        refine W.seq (fun K24 hK24 => ?_)
        refine W.region ?_
        obtain ⟨wa, hwa, H⟩ : ∃ wa, wa = wasA s op ∧ Holds w (pt b8 (.cells (acs wa) 31 (0, 0)) :: pt b6 (.cells (kcs op) 151 (0, 0)) :: pt b4 (.cells ezc 93 (0, 0)) :: pt b3 (.cells op.cs 91 (0, 0)) :: pt b2 (.cells #[.pointer (some ⟨b, 0, none⟩)] 83 (0, 0)) :: bookP b g j :: Gh g n most s :: RgB j k (es.map UE.bk) :: star (es.map entR) :: L) := by
          refine ⟨_, rfl, ?_⟩
          first
          | (rw [wasA_no (by simpa using hth)]; exact H)
          | (rw [wasA_yes (by simpa using hth)]; exact H)
        refine O.allocP Try.zeroValue40 (fun b10 w H => ?_)
        have H : Holds w (pt b10 (.cells #[.int .i64 0] 40 (0, 0)) :: pt b8 (.cells (acs wa) 31 (0, 0)) :: pt b6 (.cells (kcs op) 151 (0, 0)) :: pt b4 (.cells ezc 93 (0, 0)) :: pt b3 (.cells op.cs 91 (0, 0)) :: pt b2 (.cells #[.pointer (some ⟨b, 0, none⟩)] 83 (0, 0)) :: bookP b g j :: Gh g n most s :: RgB j k (es.map UE.bk) :: star (es.map entR) :: L) := H
        refine O.nil ?_
        refine hK24 _ _ _ ?_
        refine W.seq (fun K25 hK25 => ?_)
        refine W.region ?_
        have hdo : ∀ w Y, Holds w (bookP b g j :: Gh g n most s :: Y :: pt b6 (.cells (kcs op) 151 (0, 0)) :: pt b2 (.cells #[.pointer (some ⟨b, 0, none⟩)] 83 (0, 0)) :: pt b3 (.cells op.cs 91 (0, 0)) :: pt b10 (.cells #[.int .i64 0] 40 (0, 0)) :: pt b8 (.cells (acs wa) 31 (0, 0)) :: pt b4 (.cells ezc 93 (0, 0)) :: RgB j k (es.map UE.bk) :: star (es.map entR) :: L) → VT Try.prog (.func (.func 99) #[] #[.pointer (some ⟨b6, 0, none⟩), .pointer (some ⟨b2, 0, none⟩), .pointer (some ⟨b3, 0, none⟩), .pointer (some ⟨b10, 0, none⟩)]) [] w fun _ w' => Holds w' (bookP b g j :: Gh g n most (opS n most s op) :: Y :: pt b6 (.cells (kcs op) 151 (0, 0)) :: pt b2 (.cells #[.pointer (some ⟨b, 0, none⟩)] 83 (0, 0)) :: pt b3 (.cells op.cs 91 (0, 0)) :: pt b10 (.cells #[.int .i64 (opC n most s op)] 40 (0, 0)) :: pt b8 (.cells (acs wa) 31 (0, 0)) :: pt b4 (.cells ezc 93 (0, 0)) :: RgB j k (es.map UE.bk) :: star (es.map entR) :: L) := by
          intro w Y H
          have H2 : Holds w (bookP b g j :: Gh g n most s :: pt b6 (.cells (kcs op) 151 (0, 0)) :: pt b2 (.cells #[.pointer (some ⟨b, 0, none⟩)] 83 (0, 0)) :: pt b3 (.cells op.cs 91 (0, 0)) :: pt b10 (.cells #[.int .i64 0] 40 (0, 0)) :: pt b8 (.cells (acs wa) 31 (0, 0)) :: pt b4 (.cells ezc 93 (0, 0)) :: RgB j k (es.map UE.bk) :: star (es.map entR) :: Y :: L) := Holds.to H
          refine VT.mono (VT.fn (p := #[]) (q := #[.pointer (some ⟨b6, 0, none⟩), .pointer (some ⟨b2, 0, none⟩), .pointer (some ⟨b3, 0, none⟩), .pointer (some ⟨b10, 0, none⟩)]) (args := []) Try.call99 (do1_ct hg h0 hch H2)) ?_
          intro u w' H3
          exact Holds.to H3
        refine O.ex (by first | exact Ex.loadP Try.isAgg83 rfl | exact Ex.loadQ Try.isAgg83 rfl | exact Ex.loadMh Try.isAgg83 rfl | exact Ex.loadR Try.isAgg83 rfl | exact Ex.loadIn1 Try.isAgg83 rfl (Holds.to (by assumption)) | exact Ex.loadM Try.isAgg83 rfl | exact Ex.loadVc Try.isAgg83 rfl) rfl ?_
        refine O.ex (by first | exact Ex.loadAggP Try.isAgg31 Try.sizeOf31 rfl | exact Ex.loadAggN Try.isAgg31 Try.sizeOf31 rfl | exact Ex.loadIn Try.isAgg31 Try.sizeOf31 rfl (Holds.to (by assumption))) rfl ?_
        refine O.ex (Ex.makeFunc rfl rfl) rfl ?_
        refine O.callF Try.call94 rfl rfl (CT.mono (turned_ct (b := b) (g := g) (j := j) (a := wa) hg (ok_op hg op) hdo (Holds.to (M := bookP b g j :: Gh g n most s :: pt b6 (.cells (kcs op) 151 (0, 0)) :: pt b2 (.cells #[.pointer (some ⟨b, 0, none⟩)] 83 (0, 0)) :: pt b3 (.cells op.cs 91 (0, 0)) :: pt b10 (.cells #[.int .i64 0] 40 (0, 0)) :: pt b8 (.cells (acs wa) 31 (0, 0)) :: pt b4 (.cells ezc 93 (0, 0)) :: RgB j k (es.map UE.bk) :: star (es.map entR) :: L) H)) ?_)
        rintro _ w ⟨rfl, H⟩
        refine O.allocP Try.zeroValue93 (fun b11 w H => ?_)
        first | refine O.storeAggP Try.sizeOf93 rfl rfl rfl rfl (fun w H => ?_) | refine O.storeAggN Try.sizeOf93 rfl rfl rfl (fun w H => ?_) rfl
        have H : Holds w (pt b4 (.cells ezc 93 (0, 0)) :: pt b11 (.cells (ecs s (opS n most s op) wa) 93 (0, 0)) :: bookP b g j :: Gh g n most (opS n most s op) :: pt b6 (.cells (kcs op) 151 (0, 0)) :: pt b2 (.cells #[.pointer (some ⟨b, 0, none⟩)] 83 (0, 0)) :: pt b3 (.cells op.cs 91 (0, 0)) :: pt b10 (.cells #[.int .i64 (opC n most s op)] 40 (0, 0)) :: pt b8 (.cells (acs wa) 31 (0, 0)) :: RgB j k (es.map UE.bk) :: star (es.map entR) :: L) := Holds.to H
        refine O.nil ?_
        refine hK25 _ _ _ ?_
        refine W.seq (fun K26 hK26 => ?_)
        refine W.seq (fun K27 hK27 => ?_)
        refine W.region ?_
        refine O.ex (by first | exact Ex.loadP Try.isAgg40 rfl | exact Ex.loadQ Try.isAgg40 rfl | exact Ex.loadMh Try.isAgg40 rfl | exact Ex.loadR Try.isAgg40 rfl | exact Ex.loadIn1 Try.isAgg40 rfl (Holds.to (by assumption)) | exact Ex.loadM Try.isAgg40 rfl | exact Ex.loadVc Try.isAgg40 rfl) rfl ?_
        refine O.ex (Ex.neqI rfl rfl) rfl ?_
        refine O.nil ?_
        refine hK27 _ _ _ ?_
        first | refine W.cond_p rfl (fun hbad => ?_) (fun hok => ?_) | refine W.cond_b rfl (fun hbad => ?_) (fun hok => ?_)
        · refine W.seq (fun K28 hK28 => ?_)
          refine W.drawTo _ (.take 0 (.take 1 (.one 2 (.take 3 .nil)))) (mixed) (fun _ _ _ _ h => h) (by assumption) (PP.refl _) (by decide +kernel) (fun w H => ?_)
          refine OQ.ex rfl (fun w H => (Ex.build rfl (bld93_  ))) rfl ?_
          refine OQ.ex rfl (fun w H => (by first | exact Ex.loadP Try.isAgg40 rfl | exact Ex.loadQ Try.isAgg40 rfl | exact Ex.loadMh Try.isAgg40 rfl | exact Ex.loadR Try.isAgg40 rfl | exact Ex.loadIn1 Try.isAgg40 rfl (Holds.to (by assumption)) | exact Ex.loadM Try.isAgg40 rfl | exact Ex.loadVc Try.isAgg40 rfl)) rfl ?_
          refine OQ.step rfl ?_
          first | refine O.storeAggP Try.sizeOf93 rfl rfl rfl rfl (fun w H => ?_) | refine O.storeAggN Try.sizeOf93 rfl rfl rfl (fun w H => ?_) rfl
          refine O.thenNil ⟨(by first | exact Holds.to (by assumption) | assumption), ?_⟩
          refine OQ.ex rfl (fun w H => (Ex.assign rfl)) rfl ?_
          refine OQ.done ?_
          refine hK28 _ _ _ ?_
          refine W.ret ?_
          try dsimp only [thenQ, blockQ, retQ]
          first | refine ⟨_, ⟨_, _, _, rfl, rfl, (by first | exact loadVar_mtx Try.isAgg93 Try.sizeOf93 | exact loadVar_agg Try.isAgg93 Try.sizeOf93), _, _, rfl, rfl, rfl⟩, ?_⟩ | (refine retD_mark ?_; intro w H; refine ⟨_, ⟨_, _, _, rfl, rfl, (by first | exact loadVar_mtx Try.isAgg93 Try.sizeOf93 | exact loadVar_agg Try.isAgg93 Try.sizeOf93), _, _, rfl, rfl, rfl⟩, ?_⟩) | (refine retD_mark2 ?_; intro w H; refine ⟨_, ⟨_, _, _, rfl, rfl, (by first | exact loadVar_mtx Try.isAgg93 Try.sizeOf93 | exact loadVar_agg Try.isAgg93 Try.sizeOf93), _, _, rfl, rfl, rfl⟩, ?_⟩)
          first
          | (obtain ⟨e1, e2⟩ := opC_no (n := n) (most := most) (s := s) hno
             rw [e1, e2, if_neg (by decide), if_neg (by decide)]
             exact ⟨rfl, uk_open.2 ⟨g, j, es, he, ukO_open.2 (Holds.to (by assumption))⟩⟩)
          | (have hb : ¬ opC n most s op = 0 := hbad
             rw [op_refused hb] at H
             rw [op_refused hb, if_neg hb, if_neg hb]
             exact ⟨rfl, uk_open.2 ⟨g, j, es, he, ukO_open.2 (Holds.to H)⟩⟩)
          | (have hz := Decidable.not_not.1 hok
             rw [if_pos hz, if_pos hz, ← hwa]
             refine ⟨by rw [hz]; rfl, ?_⟩
             exact uk_push (b6 := b6) (b3 := b3) (b8 := b8) he hch h0 (Holds.to H))
        · refine W.skip ?_
          refine hK26 _ _ _ ?_
          refine W.seq (fun K29 hK29 => ?_)
          refine W.drawTo (bookP b g j :: pt b2 (.cells #[.pointer (some ⟨b, 0, none⟩)] 83 (0, 0)) :: pt b8 (.cells (acs wa) 31 (0, 0)) :: []) (.take 0 (.take 1 (.take 2 (.take 3 (.take 4 (.take 5 (.take 6 (.one 7 .nil)))))))) (mixed) (fun _ _ _ _ h => h) (by assumption) PP.auto (by decide +kernel) (fun w H => ?_)
          refine OQ.ex rfl (fun w H => (by first | exact Ex.loadP Try.isAgg83 rfl | exact Ex.loadQ Try.isAgg83 rfl | exact Ex.loadMh Try.isAgg83 rfl | exact Ex.loadR Try.isAgg83 rfl | exact Ex.loadIn1 Try.isAgg83 rfl (Holds.to (by assumption)) | exact Ex.loadM Try.isAgg83 rfl | exact Ex.loadVc Try.isAgg83 rfl)) rfl ?_
          refine OQ.ex rfl (fun w H => (by first | exact Ex.nilPtr rfl | exact Ex.nilFunc rfl | exact Ex.nilYield rfl)) rfl ?_
          refine OQ.ex rfl (fun w H => (by first | exact Ex.field0 fld143_1 rfl | exact Ex.field fld143_1 rfl | exact Ex.fieldS fld143_1 rfl)) rfl ?_
          refine OQ.ex rfl (fun w H => (by first | exact Ex.loadMh Try.isAgg136 rfl | exact Ex.loadP Try.isAgg136 rfl | exact Ex.loadM Try.isAgg136 rfl | exact Ex.loadIn1 Try.isAgg136 rfl (Holds.to (by assumption)) | exact Ex.loadVc Try.isAgg136 rfl | exact Ex.loadR Try.isAgg136 rfl | exact Ex.loadQ Try.isAgg136 rfl)) rfl ?_
          refine OQ.ex rfl (fun w H => (Ex.makeFunc rfl rfl)) rfl ?_
          refine OQ.ex rfl (fun w H => (by first | exact Ex.loadAggP Try.isAgg31 Try.sizeOf31 rfl | exact Ex.loadAggN Try.isAgg31 Try.sizeOf31 rfl | exact Ex.loadIn Try.isAgg31 Try.sizeOf31 rfl (Holds.to (by assumption)))) rfl ?_
          refine OQ.ex rfl (fun w H => (Ex.build rfl (bld141_0_1 _ _ _ _ _ (by first | rfl | assumption)))) rfl ?_
          refine OQ.last rfl (by decide +kernel) ?_
          refine O.callF Try.call100 rfl rfl (CT.mono (pushB_ct (s := j) (v := ⟨some (b6, b3, b8), wa⟩) (Holds.to (M := RgB j k (es.map UE.bk) :: _) H)) ?_)
          rintro _ w H
          refine O.nil ?_
          refine hK29 _ _ _ ?_
          refine W.seq (fun K30 hK30 => ?_)
          refine W.region ?_
          have H : Holds w (pt b4 (.cells ezc 93 (0, 0)) :: pt b11 (.cells (ecs s (opS n most s op) wa) 93 (0, 0)) :: RgB j k ((if (es.map UE.bk).length = k then (es.map UE.bk).tail else es.map UE.bk) ++ [⟨some (b6, b3, b8), wa⟩]) :: bookP b g j :: Gh g n most (opS n most s op) :: pt b6 (.cells (kcs op) 151 (0, 0)) :: pt b2 (.cells #[.pointer (some ⟨b, 0, none⟩)] 83 (0, 0)) :: pt b3 (.cells op.cs 91 (0, 0)) :: pt b8 (.cells (acs wa) 31 (0, 0)) :: star (es.map entR) :: L) := Holds.to H
          refine O.ex (by first | exact Ex.loadAggP Try.isAgg93 Try.sizeOf93 rfl | exact Ex.loadAggN Try.isAgg93 Try.sizeOf93 rfl | exact Ex.loadIn Try.isAgg93 Try.sizeOf93 rfl (Holds.to (by assumption))) rfl ?_
          first | refine O.storeAggP Try.sizeOf93 rfl rfl rfl rfl (fun w H => ?_) | refine O.storeAggN Try.sizeOf93 rfl rfl rfl (fun w H => ?_) rfl
          have H : Holds w (pt b4 (.cells (ecs s (opS n most s op) wa) 93 (0, 0)) :: pt b11 (.cells (ecs s (opS n most s op) wa) 93 (0, 0)) :: RgB j k ((if (es.map UE.bk).length = k then (es.map UE.bk).tail else es.map UE.bk) ++ [⟨some (b6, b3, b8), wa⟩]) :: bookP b g j :: Gh g n most (opS n most s op) :: pt b6 (.cells (kcs op) 151 (0, 0)) :: pt b2 (.cells #[.pointer (some ⟨b, 0, none⟩)] 83 (0, 0)) :: pt b3 (.cells op.cs 91 (0, 0)) :: pt b8 (.cells (acs wa) 31 (0, 0)) :: star (es.map entR) :: L) := H
          refine O.ex (Ex.assign rfl) rfl ?_
          refine O.nil ?_
          refine hK30 _ _ _ ?_
          refine W.ret ?_
          try dsimp only [thenQ, blockQ, retQ]
          first | refine ⟨_, ⟨_, _, _, rfl, rfl, (by first | exact loadVar_mtx Try.isAgg93 Try.sizeOf93 | exact loadVar_agg Try.isAgg93 Try.sizeOf93), _, _, rfl, rfl, rfl⟩, ?_⟩ | (refine retD_mark ?_; intro w H; refine ⟨_, ⟨_, _, _, rfl, rfl, (by first | exact loadVar_mtx Try.isAgg93 Try.sizeOf93 | exact loadVar_agg Try.isAgg93 Try.sizeOf93), _, _, rfl, rfl, rfl⟩, ?_⟩) | (refine retD_mark2 ?_; intro w H; refine ⟨_, ⟨_, _, _, rfl, rfl, (by first | exact loadVar_mtx Try.isAgg93 Try.sizeOf93 | exact loadVar_agg Try.isAgg93 Try.sizeOf93), _, _, rfl, rfl, rfl⟩, ?_⟩)
          first
          | (obtain ⟨e1, e2⟩ := opC_no (n := n) (most := most) (s := s) hno
             rw [e1, e2, if_neg (by decide), if_neg (by decide)]
             exact ⟨rfl, uk_open.2 ⟨g, j, es, he, ukO_open.2 (Holds.to (by assumption))⟩⟩)
          | (have hb : ¬ opC n most s op = 0 := hbad
             rw [op_refused hb] at H
             rw [op_refused hb, if_neg hb, if_neg hb]
             exact ⟨rfl, uk_open.2 ⟨g, j, es, he, ukO_open.2 (Holds.to H)⟩⟩)
          | (have hz := Decidable.not_not.1 hok
             rw [if_pos hz, if_pos hz, ← hwa]
             refine ⟨by rw [hz]; rfl, ?_⟩
             exact uk_push (b6 := b6) (b3 := b3) (b8 := b8) he hch h0 (Holds.to H))
      · refine W.skip ?_
        refine hK22 _ _ _ ?_
        refine W.seq (fun K31 hK31 => ?_)
        refine W.region ?_
        obtain ⟨wa, hwa, H⟩ : ∃ wa, wa = wasA s op ∧ Holds w (pt b8 (.cells (acs wa) 31 (0, 0)) :: pt b6 (.cells (kcs op) 151 (0, 0)) :: pt b4 (.cells ezc 93 (0, 0)) :: pt b3 (.cells op.cs 91 (0, 0)) :: pt b2 (.cells #[.pointer (some ⟨b, 0, none⟩)] 83 (0, 0)) :: bookP b g j :: Gh g n most s :: RgB j k (es.map UE.bk) :: star (es.map entR) :: L) := by
          refine ⟨_, rfl, ?_⟩
          first
          | (rw [wasA_no (by simpa using hth)]; exact H)
          | (rw [wasA_yes (by simpa using hth)]; exact H)
        refine O.allocP Try.zeroValue40 (fun b10 w H => ?_)
        have H : Holds w (pt b10 (.cells #[.int .i64 0] 40 (0, 0)) :: pt b8 (.cells (acs wa) 31 (0, 0)) :: pt b6 (.cells (kcs op) 151 (0, 0)) :: pt b4 (.cells ezc 93 (0, 0)) :: pt b3 (.cells op.cs 91 (0, 0)) :: pt b2 (.cells #[.pointer (some ⟨b, 0, none⟩)] 83 (0, 0)) :: bookP b g j :: Gh g n most s :: RgB j k (es.map UE.bk) :: star (es.map entR) :: L) := H
        refine O.nil ?_
        refine hK31 _ _ _ ?_
        refine W.seq (fun K32 hK32 => ?_)
        refine W.region ?_
        have hdo : ∀ w Y, Holds w (bookP b g j :: Gh g n most s :: Y :: pt b6 (.cells (kcs op) 151 (0, 0)) :: pt b2 (.cells #[.pointer (some ⟨b, 0, none⟩)] 83 (0, 0)) :: pt b3 (.cells op.cs 91 (0, 0)) :: pt b10 (.cells #[.int .i64 0] 40 (0, 0)) :: pt b8 (.cells (acs wa) 31 (0, 0)) :: pt b4 (.cells ezc 93 (0, 0)) :: RgB j k (es.map UE.bk) :: star (es.map entR) :: L) → VT Try.prog (.func (.func 99) #[] #[.pointer (some ⟨b6, 0, none⟩), .pointer (some ⟨b2, 0, none⟩), .pointer (some ⟨b3, 0, none⟩), .pointer (some ⟨b10, 0, none⟩)]) [] w fun _ w' => Holds w' (bookP b g j :: Gh g n most (opS n most s op) :: Y :: pt b6 (.cells (kcs op) 151 (0, 0)) :: pt b2 (.cells #[.pointer (some ⟨b, 0, none⟩)] 83 (0, 0)) :: pt b3 (.cells op.cs 91 (0, 0)) :: pt b10 (.cells #[.int .i64 (opC n most s op)] 40 (0, 0)) :: pt b8 (.cells (acs wa) 31 (0, 0)) :: pt b4 (.cells ezc 93 (0, 0)) :: RgB j k (es.map UE.bk) :: star (es.map entR) :: L) := by
          intro w Y H
          have H2 : Holds w (bookP b g j :: Gh g n most s :: pt b6 (.cells (kcs op) 151 (0, 0)) :: pt b2 (.cells #[.pointer (some ⟨b, 0, none⟩)] 83 (0, 0)) :: pt b3 (.cells op.cs 91 (0, 0)) :: pt b10 (.cells #[.int .i64 0] 40 (0, 0)) :: pt b8 (.cells (acs wa) 31 (0, 0)) :: pt b4 (.cells ezc 93 (0, 0)) :: RgB j k (es.map UE.bk) :: star (es.map entR) :: Y :: L) := Holds.to H
          refine VT.mono (VT.fn (p := #[]) (q := #[.pointer (some ⟨b6, 0, none⟩), .pointer (some ⟨b2, 0, none⟩), .pointer (some ⟨b3, 0, none⟩), .pointer (some ⟨b10, 0, none⟩)]) (args := []) Try.call99 (do1_ct hg h0 hch H2)) ?_
          intro u w' H3
          exact Holds.to H3
        refine O.ex (by first | exact Ex.loadP Try.isAgg83 rfl | exact Ex.loadQ Try.isAgg83 rfl | exact Ex.loadMh Try.isAgg83 rfl | exact Ex.loadR Try.isAgg83 rfl | exact Ex.loadIn1 Try.isAgg83 rfl (Holds.to (by assumption)) | exact Ex.loadM Try.isAgg83 rfl | exact Ex.loadVc Try.isAgg83 rfl) rfl ?_
        refine O.ex (by first | exact Ex.loadAggP Try.isAgg31 Try.sizeOf31 rfl | exact Ex.loadAggN Try.isAgg31 Try.sizeOf31 rfl | exact Ex.loadIn Try.isAgg31 Try.sizeOf31 rfl (Holds.to (by assumption))) rfl ?_
        refine O.ex (Ex.makeFunc rfl rfl) rfl ?_
        refine O.callF Try.call94 rfl rfl (CT.mono (turned_ct (b := b) (g := g) (j := j) (a := wa) hg (ok_op hg op) hdo (Holds.to (M := bookP b g j :: Gh g n most s :: pt b6 (.cells (kcs op) 151 (0, 0)) :: pt b2 (.cells #[.pointer (some ⟨b, 0, none⟩)] 83 (0, 0)) :: pt b3 (.cells op.cs 91 (0, 0)) :: pt b10 (.cells #[.int .i64 0] 40 (0, 0)) :: pt b8 (.cells (acs wa) 31 (0, 0)) :: pt b4 (.cells ezc 93 (0, 0)) :: RgB j k (es.map UE.bk) :: star (es.map entR) :: L) H)) ?_)
        rintro _ w ⟨rfl, H⟩
        refine O.allocP Try.zeroValue93 (fun b11 w H => ?_)
        first | refine O.storeAggP Try.sizeOf93 rfl rfl rfl rfl (fun w H => ?_) | refine O.storeAggN Try.sizeOf93 rfl rfl rfl (fun w H => ?_) rfl
        have H : Holds w (pt b4 (.cells ezc 93 (0, 0)) :: pt b11 (.cells (ecs s (opS n most s op) wa) 93 (0, 0)) :: bookP b g j :: Gh g n most (opS n most s op) :: pt b6 (.cells (kcs op) 151 (0, 0)) :: pt b2 (.cells #[.pointer (some ⟨b, 0, none⟩)] 83 (0, 0)) :: pt b3 (.cells op.cs 91 (0, 0)) :: pt b10 (.cells #[.int .i64 (opC n most s op)] 40 (0, 0)) :: pt b8 (.cells (acs wa) 31 (0, 0)) :: RgB j k (es.map UE.bk) :: star (es.map entR) :: L) := Holds.to H
        refine O.nil ?_
        refine hK32 _ _ _ ?_
        refine W.seq (fun K33 hK33 => ?_)
        refine W.seq (fun K34 hK34 => ?_)
        refine W.region ?_
        refine O.ex (by first | exact Ex.loadP Try.isAgg40 rfl | exact Ex.loadQ Try.isAgg40 rfl | exact Ex.loadMh Try.isAgg40 rfl | exact Ex.loadR Try.isAgg40 rfl | exact Ex.loadIn1 Try.isAgg40 rfl (Holds.to (by assumption)) | exact Ex.loadM Try.isAgg40 rfl | exact Ex.loadVc Try.isAgg40 rfl) rfl ?_
        refine O.ex (Ex.neqI rfl rfl) rfl ?_
        refine O.nil ?_
        refine hK34 _ _ _ ?_
        first | refine W.cond_p rfl (fun hbad => ?_) (fun hok => ?_) | refine W.cond_b rfl (fun hbad => ?_) (fun hok => ?_)
        · refine W.seq (fun K35 hK35 => ?_)
          refine W.drawTo _ (.take 0 (.take 1 (.one 2 (.take 3 .nil)))) (mixed) (fun _ _ _ _ h => h) (by assumption) (PP.refl _) (by decide +kernel) (fun w H => ?_)
          refine OQ.ex rfl (fun w H => (Ex.build rfl (bld93_  ))) rfl ?_
          refine OQ.ex rfl (fun w H => (by first | exact Ex.loadP Try.isAgg40 rfl | exact Ex.loadQ Try.isAgg40 rfl | exact Ex.loadMh Try.isAgg40 rfl | exact Ex.loadR Try.isAgg40 rfl | exact Ex.loadIn1 Try.isAgg40 rfl (Holds.to (by assumption)) | exact Ex.loadM Try.isAgg40 rfl | exact Ex.loadVc Try.isAgg40 rfl)) rfl ?_
          refine OQ.step rfl ?_
          first | refine O.storeAggP Try.sizeOf93 rfl rfl rfl rfl (fun w H => ?_) | refine O.storeAggN Try.sizeOf93 rfl rfl rfl (fun w H => ?_) rfl
          refine O.thenNil ⟨(by first | exact Holds.to (by assumption) | assumption), ?_⟩
          refine OQ.ex rfl (fun w H => (Ex.assign rfl)) rfl ?_
          refine OQ.done ?_
          refine hK35 _ _ _ ?_
          refine W.ret ?_
          try dsimp only [thenQ, blockQ, retQ]
          first | refine ⟨_, ⟨_, _, _, rfl, rfl, (by first | exact loadVar_mtx Try.isAgg93 Try.sizeOf93 | exact loadVar_agg Try.isAgg93 Try.sizeOf93), _, _, rfl, rfl, rfl⟩, ?_⟩ | (refine retD_mark ?_; intro w H; refine ⟨_, ⟨_, _, _, rfl, rfl, (by first | exact loadVar_mtx Try.isAgg93 Try.sizeOf93 | exact loadVar_agg Try.isAgg93 Try.sizeOf93), _, _, rfl, rfl, rfl⟩, ?_⟩) | (refine retD_mark2 ?_; intro w H; refine ⟨_, ⟨_, _, _, rfl, rfl, (by first | exact loadVar_mtx Try.isAgg93 Try.sizeOf93 | exact loadVar_agg Try.isAgg93 Try.sizeOf93), _, _, rfl, rfl, rfl⟩, ?_⟩)
          first
          | (obtain ⟨e1, e2⟩ := opC_no (n := n) (most := most) (s := s) hno
             rw [e1, e2, if_neg (by decide), if_neg (by decide)]
             exact ⟨rfl, uk_open.2 ⟨g, j, es, he, ukO_open.2 (Holds.to (by assumption))⟩⟩)
          | (have hb : ¬ opC n most s op = 0 := hbad
             rw [op_refused hb] at H
             rw [op_refused hb, if_neg hb, if_neg hb]
             exact ⟨rfl, uk_open.2 ⟨g, j, es, he, ukO_open.2 (Holds.to H)⟩⟩)
          | (have hz := Decidable.not_not.1 hok
             rw [if_pos hz, if_pos hz, ← hwa]
             refine ⟨by rw [hz]; rfl, ?_⟩
             exact uk_push (b6 := b6) (b3 := b3) (b8 := b8) he hch h0 (Holds.to H))
        · refine W.skip ?_
          refine hK33 _ _ _ ?_
          refine W.seq (fun K36 hK36 => ?_)
          refine W.drawTo (bookP b g j :: pt b2 (.cells #[.pointer (some ⟨b, 0, none⟩)] 83 (0, 0)) :: pt b8 (.cells (acs wa) 31 (0, 0)) :: []) (.take 0 (.take 1 (.take 2 (.take 3 (.take 4 (.take 5 (.take 6 (.one 7 .nil)))))))) (mixed) (fun _ _ _ _ h => h) (by assumption) PP.auto (by decide +kernel) (fun w H => ?_)
          refine OQ.ex rfl (fun w H => (by first | exact Ex.loadP Try.isAgg83 rfl | exact Ex.loadQ Try.isAgg83 rfl | exact Ex.loadMh Try.isAgg83 rfl | exact Ex.loadR Try.isAgg83 rfl | exact Ex.loadIn1 Try.isAgg83 rfl (Holds.to (by assumption)) | exact Ex.loadM Try.isAgg83 rfl | exact Ex.loadVc Try.isAgg83 rfl)) rfl ?_
          refine OQ.ex rfl (fun w H => (by first | exact Ex.nilPtr rfl | exact Ex.nilFunc rfl | exact Ex.nilYield rfl)) rfl ?_
          refine OQ.ex rfl (fun w H => (by first | exact Ex.field0 fld143_1 rfl | exact Ex.field fld143_1 rfl | exact Ex.fieldS fld143_1 rfl)) rfl ?_
          refine OQ.ex rfl (fun w H => (by first | exact Ex.loadMh Try.isAgg136 rfl | exact Ex.loadP Try.isAgg136 rfl | exact Ex.loadM Try.isAgg136 rfl | exact Ex.loadIn1 Try.isAgg136 rfl (Holds.to (by assumption)) | exact Ex.loadVc Try.isAgg136 rfl | exact Ex.loadR Try.isAgg136 rfl | exact Ex.loadQ Try.isAgg136 rfl)) rfl ?_
          refine OQ.ex rfl (fun w H => (Ex.makeFunc rfl rfl)) rfl ?_
          refine OQ.ex rfl (fun w H => (by first | exact Ex.loadAggP Try.isAgg31 Try.sizeOf31 rfl | exact Ex.loadAggN Try.isAgg31 Try.sizeOf31 rfl | exact Ex.loadIn Try.isAgg31 Try.sizeOf31 rfl (Holds.to (by assumption)))) rfl ?_
          refine OQ.ex rfl (fun w H => (Ex.build rfl (bld141_0_1 _ _ _ _ _ (by first | rfl | assumption)))) rfl ?_
          refine OQ.last rfl (by decide +kernel) ?_
          refine O.callF Try.call100 rfl rfl (CT.mono (pushB_ct (s := j) (v := ⟨some (b6, b3, b8), wa⟩) (Holds.to (M := RgB j k (es.map UE.bk) :: _) H)) ?_)
          rintro _ w H
          refine O.nil ?_
          refine hK36 _ _ _ ?_
          refine W.seq (fun K37 hK37 => ?_)
          refine W.region ?_
          have H : Holds w (pt b4 (.cells ezc 93 (0, 0)) :: pt b11 (.cells (ecs s (opS n most s op) wa) 93 (0, 0)) :: RgB j k ((if (es.map UE.bk).length = k then (es.map UE.bk).tail else es.map UE.bk) ++ [⟨some (b6, b3, b8), wa⟩]) :: bookP b g j :: Gh g n most (opS n most s op) :: pt b6 (.cells (kcs op) 151 (0, 0)) :: pt b2 (.cells #[.pointer (some ⟨b, 0, none⟩)] 83 (0, 0)) :: pt b3 (.cells op.cs 91 (0, 0)) :: pt b8 (.cells (acs wa) 31 (0, 0)) :: star (es.map entR) :: L) := Holds.to H
          refine O.ex (by first | exact Ex.loadAggP Try.isAgg93 Try.sizeOf93 rfl | exact Ex.loadAggN Try.isAgg93 Try.sizeOf93 rfl | exact Ex.loadIn Try.isAgg93 Try.sizeOf93 rfl (Holds.to (by assumption))) rfl ?_
          first | refine O.storeAggP Try.sizeOf93 rfl rfl rfl rfl (fun w H => ?_) | refine O.storeAggN Try.sizeOf93 rfl rfl rfl (fun w H => ?_) rfl
          have H : Holds w (pt b4 (.cells (ecs s (opS n most s op) wa) 93 (0, 0)) :: pt b11 (.cells (ecs s (opS n most s op) wa) 93 (0, 0)) :: RgB j k ((if (es.map UE.bk).length = k then (es.map UE.bk).tail else es.map UE.bk) ++ [⟨some (b6, b3, b8), wa⟩]) :: bookP b g j :: Gh g n most (opS n most s op) :: pt b6 (.cells (kcs op) 151 (0, 0)) :: pt b2 (.cells #[.pointer (some ⟨b, 0, none⟩)] 83 (0, 0)) :: pt b3 (.cells op.cs 91 (0, 0)) :: pt b8 (.cells (acs wa) 31 (0, 0)) :: star (es.map entR) :: L) := H
          refine O.ex (Ex.assign rfl) rfl ?_
          refine O.nil ?_
          refine hK37 _ _ _ ?_
          refine W.ret ?_
          try dsimp only [thenQ, blockQ, retQ]
          first | refine ⟨_, ⟨_, _, _, rfl, rfl, (by first | exact loadVar_mtx Try.isAgg93 Try.sizeOf93 | exact loadVar_agg Try.isAgg93 Try.sizeOf93), _, _, rfl, rfl, rfl⟩, ?_⟩ | (refine retD_mark ?_; intro w H; refine ⟨_, ⟨_, _, _, rfl, rfl, (by first | exact loadVar_mtx Try.isAgg93 Try.sizeOf93 | exact loadVar_agg Try.isAgg93 Try.sizeOf93), _, _, rfl, rfl, rfl⟩, ?_⟩) | (refine retD_mark2 ?_; intro w H; refine ⟨_, ⟨_, _, _, rfl, rfl, (by first | exact loadVar_mtx Try.isAgg93 Try.sizeOf93 | exact loadVar_agg Try.isAgg93 Try.sizeOf93), _, _, rfl, rfl, rfl⟩, ?_⟩)
          first
          | (obtain ⟨e1, e2⟩ := opC_no (n := n) (most := most) (s := s) hno
             rw [e1, e2, if_neg (by decide), if_neg (by decide)]
             exact ⟨rfl, uk_open.2 ⟨g, j, es, he, ukO_open.2 (Holds.to (by assumption))⟩⟩)
          | (have hb : ¬ opC n most s op = 0 := hbad
             rw [op_refused hb] at H
             rw [op_refused hb, if_neg hb, if_neg hb]
             exact ⟨rfl, uk_open.2 ⟨g, j, es, he, ukO_open.2 (Holds.to H)⟩⟩)
          | (have hz := Decidable.not_not.1 hok
             rw [if_pos hz, if_pos hz, ← hwa]
             refine ⟨by rw [hz]; rfl, ?_⟩
             exact uk_push (b6 := b6) (b3 := b3) (b8 := b8) he hch h0 (Holds.to H))
end Go.Proofs.Ytakmbbgnnbpkoaa
