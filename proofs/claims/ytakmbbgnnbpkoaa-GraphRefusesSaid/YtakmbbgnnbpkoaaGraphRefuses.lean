import Derived.Test.YtakmbbgnnbpkoaaLaw08c
import Derived.Test.YtakmbbgnnbpkoaaGraphLaw2
--ARR
--INF
--DEEP
--LOADS loadRT loadRA loadRN loadRM
--AGGLOADS loadRArc
namespace Go.Proofs.Ytakmbbgnnbpkoaa
open Go.Rr Go Gr
set_option linter.unusedVariables false
theorem do_refused {n most : Int} {s : St} {c : Chg} (h : doC n most s c ≠ 0) : doS n most s c = s := by
  unfold doC at h
  unfold doS
  by_cases h0 : c.f_Kind = 0
  · rw [if_pos h0] at h ⊢; exact ins_refused h
  · rw [if_neg h0] at h ⊢
    by_cases h1 : c.f_Kind = 1
    · rw [if_pos h1] at h ⊢; exact del_refused h
    · rw [if_neg h1] at h ⊢
      by_cases h2 : c.f_Kind = 2
      · rw [if_pos h2] at h ⊢; exact turn_refused h
      · rw [if_neg h2] at h ⊢
        by_cases h3 : c.f_Kind = 3
        · rw [if_pos h3] at h ⊢; exact turn_refused h
        · rw [if_neg h3] at h ⊢; exact weigh_refused h
section
variable {w : World} {g : Nat} {n : Int} {s : St} {c : Chg} {L : List HProp}
theorem arcQ_pl {s : St} {id : Int} (h : pl id) : arcQ s id = (s id.toNat).a := if_pos h
theorem back0_ct (hg : GOk n 64 s) (hc : doC n 64 s c = 0) (h0 : c.f_Kind = 0) (H : Holds w (Gh g n 64 (doS n 64 s c) :: L)) :
    CT Try.prog 31 [.pointer (some ⟨g, 0, none⟩), .int .i64 c.f_ID] w fun u w' => u = .int .i64 0 ∧ Holds w' (Gh g n 64 s :: L) := by
  have e : doS n 64 s c = insS n 64 s c.f_ID c.a := if_pos h0
  have e1 : insC n 64 s c.f_ID c.a = 0 := by rw [← hc]; exact (if_pos h0).symm
  obtain ⟨b1, b2⟩ := ins_back hg e1
  rw [e] at H
  have := gdelete_ct (id := c.f_ID) (ok_ins hg c.f_ID c.a) H
  rw [b1, b2] at this
  exact this
theorem back1_ct (hg : GOk n 64 s) (hc : doC n 64 s c = 0) (h0 : ¬ c.f_Kind = 0) (h1 : c.f_Kind = 1) (H : Holds w (Gh g n 64 (doS n 64 s c) :: L)) :
    CT Try.prog 32 [.pointer (some ⟨g, 0, none⟩), .int .i64 c.f_ID, (arcQ s c.f_ID).val] w fun u w' => u = .int .i64 0 ∧ Holds w' (Gh g n 64 s :: L) := by
  have e : doS n 64 s c = delS s c.f_ID := by unfold doS; rw [if_neg h0, if_pos h1]
  have e1 : thC s c.f_ID = 0 := by rw [← hc]; unfold doC; rw [if_neg h0, if_pos h1]
  obtain ⟨b1, b2⟩ := del_back hg (cnt_rng s).2 e1
  rw [e] at H
  have := ginsert_ct (id := c.f_ID) (a := (s c.f_ID.toNat).a) (ok_del hg c.f_ID) H
  rw [b1, b2] at this
  rw [arcQ_pl (thC_zero.1 e1).1]
  exact this
theorem back2_ct (hg : GOk n 64 s) (hc : doC n 64 s c = 0) (h0 : ¬ c.f_Kind = 0) (h1 : ¬ c.f_Kind = 1) (h2 : c.f_Kind = 2) (H : Holds w (Gh g n 64 (doS n 64 s c) :: L)) :
    CT Try.prog 33 [.pointer (some ⟨g, 0, none⟩), .int .i64 c.f_ID] w fun u w' => u = .int .i64 0 ∧ Holds w' (Gh g n 64 s :: L) := by
  have e : doS n 64 s c = turnS s c.f_ID true := by unfold doS; rw [if_neg h0, if_neg h1, if_pos h2]
  have e1 : turnC s c.f_ID true = 0 := by rw [← hc]; unfold doC; rw [if_neg h0, if_neg h1, if_pos h2]
  obtain ⟨b1, b2⟩ := turn_back e1
  rw [e] at H
  have := gReopen_ct (id := c.f_ID) H
  rw [show (false : Bool) = !true from rfl, b1, b2] at this
  exact this
theorem back3_ct (hg : GOk n 64 s) (hc : doC n 64 s c = 0) (h0 : ¬ c.f_Kind = 0) (h1 : ¬ c.f_Kind = 1) (h2 : ¬ c.f_Kind = 2) (h3 : c.f_Kind = 3) (H : Holds w (Gh g n 64 (doS n 64 s c) :: L)) :
    CT Try.prog 34 [.pointer (some ⟨g, 0, none⟩), .int .i64 c.f_ID] w fun u w' => u = .int .i64 0 ∧ Holds w' (Gh g n 64 s :: L) := by
  have e : doS n 64 s c = turnS s c.f_ID false := by unfold doS; rw [if_neg h0, if_neg h1, if_neg h2, if_pos h3]
  have e1 : turnC s c.f_ID false = 0 := by rw [← hc]; unfold doC; rw [if_neg h0, if_neg h1, if_neg h2, if_pos h3]
  obtain ⟨b1, b2⟩ := turn_back e1
  rw [e] at H
  have := gClose_ct (id := c.f_ID) H
  rw [show (true : Bool) = !false from rfl, b1, b2] at this
  exact this
theorem back4_ct (hg : GOk n 64 s) (hc : doC n 64 s c = 0) (h0 : ¬ c.f_Kind = 0) (h1 : ¬ c.f_Kind = 1) (h2 : ¬ c.f_Kind = 2) (h3 : ¬ c.f_Kind = 3) (H : Holds w (Gh g n 64 (doS n 64 s c) :: L)) :
    CT Try.prog 35 [.pointer (some ⟨g, 0, none⟩), .int .i64 c.f_ID, .int .i64 (arcQ s c.f_ID).w] w fun u w' => u = .int .i64 0 ∧ Holds w' (Gh g n 64 s :: L) := by
  have e : doS n 64 s c = weighS s c.f_ID c.a.w := by unfold doS; rw [if_neg h0, if_neg h1, if_neg h2, if_neg h3]
  have e1 : weighC s c.f_ID c.a.w = 0 := by rw [← hc]; unfold doC; rw [if_neg h0, if_neg h1, if_neg h2, if_neg h3]
  obtain ⟨b1, b2⟩ := weigh_back hg e1
  rw [e] at H
  have := gweigh_ct (id := c.f_ID) (v := (s c.f_ID.toNat).a.w) H
  rw [b1, b2] at this
  rw [arcQ_pl (weighC_zero.1 e1).2.1]
  exact this
end
set_option maxHeartbeats 4000000 in
theorem graphRefuses_ct {w0 : World} {q : Int} {lv : Value} {l : List Chg} {c : Chg} (hq : (Lit.int .u8 q).wf = true) (hx : SlIn w0 6 Chg.enc lv l) (hl : l.length ≤ 9223372036854775807) :
    CT Try.prog 6 [.int .u8 q, lv, c.val] w0 fun x w' => x = .bool true ∧ RowKit.Below w0.heap.size w0 w' := by
  have H := Holds.base_refl w0
  refine CT.enter (N := 79) Try.func6 rfl rfl rfl rfl ?_
  refine W.seq (fun K0 hK0 => ?_)
  refine W.region ?_
  refine O.boxP rfl (fun b5 w H => ?_)
  have H : Holds w (pt b5 (.cells #[.int .i64 c.f_Kind, .int .i64 c.f_ID, .int .i64 c.f_Arc_Tail, .int .i64 c.f_Arc_Head, .int .i64 c.f_Arc_Weight, .bool c.f_Arc_Closed] 47 (0, 0)) :: base w0 :: []) := H
  refine O.ex (Ex.assign rfl) rfl ?_
  refine O.nil ?_
  refine hK0 _ _ _ ?_
  refine W.seq (fun K1 hK1 => ?_)
  refine W.seq (fun K2 hK2 => ?_)
  refine W.region ?_
  refine O.callF Try.call17 rfl rfl (CT.mono (awake08_ct (Holds.to (by assumption))) ?_)
  rintro _ w ⟨rfl, H⟩
  refine O.ex (by first | exact Ex.notD rfl | exact Ex.not rfl) rfl ?_
  refine O.nil ?_
  refine hK2 _ _ _ ?_
  refine W.known_f rfl (by first | exact decide_eq_true rfl | rfl | decide) ?_
  refine W.skip ?_
  refine hK1 _ _ _ ?_
  refine W.seq (fun K3 hK3 => ?_)
  refine W.region ?_
  refine O.ex (Ex.move rfl) rfl ?_
  refine O.ex (Ex.move rfl) rfl ?_
  refine O.callF Try.call18 rfl rfl (CT.mono (made08_ct hq hx hl (Holds.to (M := base w0 :: _) (by assumption))) ?_)
  rintro _ w ⟨g, r, hg, rfl, H⟩
  refine O.ex (Ex.move rfl) rfl ?_
  refine O.ex (Ex.extract rfl rfl) rfl ?_
  refine O.ex (Ex.extract rfl rfl) rfl ?_
  refine O.ex (Ex.assign rfl) rfl ?_
  refine O.ex (Ex.assign rfl) rfl ?_
  refine O.nil ?_
  refine hK3 _ _ _ ?_
  refine W.seq (fun K4 hK4 => ?_)
  refine W.seq (fun K5 hK5 => ?_)
  refine W.region ?_
  refine O.ex (Ex.move rfl) rfl ?_
  refine O.ex (Ex.nilEq Try.runUnderlying24 rfl rfl) rfl ?_
  refine O.nil ?_
  refine hK5 _ _ _ ?_
  refine W.known_f rfl (by first | exact decide_eq_true rfl | rfl | decide) ?_
  refine W.skip ?_
  refine hK4 _ _ _ ?_
  refine W.seq (fun K6 hK6 => ?_)
  refine W.region ?_
  obtain ⟨s, hs⟩ : ∃ s, s = doAll (1 + q % 24) 64 noS (l.take 150) := ⟨_, rfl⟩
  rw [← hs] at hg H
  obtain ⟨n, hn⟩ : ∃ n, n = 1 + q % 24 := ⟨_, rfl⟩
  rw [← hn] at hg H
  refine O.ex (Ex.move rfl) rfl ?_
  refine O.ex (by first | exact Ex.nilPtr rfl | exact Ex.nilFunc rfl | exact Ex.nilYield rfl) rfl ?_
  refine O.ex (Ex.loadAggC (m := 322) (b := r) (q := 0) (f := rf n 64 s s) Try.isAgg54 Try.sizeOf54 rfl (Holds.to (M := cel r 54 322 (rf n 64 s s) :: _) (by assumption)) (by omega)) rfl ?_
  refine O.allocC rZ rfl (fun b9 w H => ?_)
  refine O.storeAllC Try.sizeOf54 rfl rfl (fun i hi => rf_one _) H (fun w H => ?_)
  have H : Holds w (Rg b9 n 64 s :: _) := H.celTo (g := rf n 64 s s) (fun i _ => by rw [Nat.zero_add])
  refine O.nil ?_
  refine hK6 _ _ _ ?_
  refine W.seq (fun K7 hK7 => ?_)
  refine W.region ?_
  refine O.ex (Ex.move rfl) rfl ?_
  refine O.ex (by first | exact Ex.field0 fld47_1 rfl | exact Ex.field fld47_1 rfl | exact Ex.fieldS fld47_1 rfl | exact Ex.fieldIn fld47_1 rfl) rfl ?_
  refine O.ex (by first | exact Ex.loadRT Try.isAgg3 rfl | exact Ex.loadRA Try.isAgg3 rfl | exact Ex.loadRN Try.isAgg3 rfl | exact Ex.loadRM Try.isAgg3 rfl | exact Ex.loadMh Try.isAgg3 rfl | exact Ex.loadInF Try.isAgg3 rfl (Holds.to (by assumption)) | exact Ex.loadP Try.isAgg3 rfl | exact Ex.loadM Try.isAgg3 rfl | exact Ex.loadIn1 Try.isAgg3 rfl (Holds.to (by assumption)) | exact Ex.loadVc Try.isAgg3 rfl | exact Ex.loadR Try.isAgg3 rfl | exact Ex.loadQ Try.isAgg3 rfl) rfl ?_
  refine O.callF Try.call20 rfl rfl (CT.mono (rarc_ct (r := r) hg (Holds.to (by assumption))) ?_)
  rintro _ w ⟨rfl, H⟩
  refine O.ex (Ex.move rfl) rfl ?_
  refine O.ex (Ex.extract rfl rfl) rfl ?_
  refine O.ex (Ex.extract rfl rfl) rfl ?_
  refine O.allocP Try.zeroValue31 (fun b10 w H => ?_)
  first | refine O.storeAggP Try.sizeOf31 rfl rfl rfl rfl (fun w H => ?_) | refine O.storeAggN Try.sizeOf31 rfl rfl rfl (fun w H => ?_) rfl
  refine O.ex (Ex.assign rfl) rfl ?_
  refine O.nil ?_
  refine hK7 _ _ _ ?_
  refine W.seq (fun K8 hK8 => ?_)
  refine W.region ?_
  refine O.ex (Ex.move rfl) rfl ?_
  refine O.ex (by first | exact Ex.loadRArc Try.isAgg47 Try.sizeOf47 rfl | exact Ex.loadAggP Try.isAgg47 Try.sizeOf47 rfl | exact Ex.loadAggN Try.isAgg47 Try.sizeOf47 rfl | exact Ex.loadIn Try.isAgg47 Try.sizeOf47 rfl (Holds.to (by assumption))) rfl ?_
  refine O.callF Try.call28 rfl rfl (CT.mono (do_ct (c := c) hg (Holds.to (by assumption))) ?_)
  rintro _ w ⟨rfl, H⟩
  refine O.ex (Ex.assign rfl) rfl ?_
  refine O.nil ?_
  refine hK8 _ _ _ ?_
  refine W.seq (fun K9 hK9 => ?_)
  refine W.seq (fun K10 hK10 => ?_)
  refine W.region ?_
  refine O.ex (Ex.move rfl) rfl ?_
  refine O.ex (Ex.neqI rfl rfl) rfl ?_
  refine O.nil ?_
  refine hK10 _ _ _ ?_
  first | refine W.cond_p rfl (fun hbad => ?_) (fun hok => ?_) | refine W.cond_b rfl (fun hbad => ?_) (fun hok => ?_)
  · refine W.seq (fun K11 hK11 => ?_)
    refine W.region ?_
    rw [do_refused hbad] at H
    refine O.ex (Ex.move rfl) rfl ?_
    refine O.callF Try.call30 rfl rfl (CT.mono (same08_ct (r := b9) hg (Holds.to (by assumption))) ?_)
    rintro _ w ⟨rfl, H⟩
    refine O.ex (Ex.assign rfl) rfl ?_
    refine O.nil ?_
    refine hK11 _ _ _ ?_
    refine W.ret ?_
    try dsimp only [thenQ, blockQ, retQ]
    first | refine ⟨_, ⟨_, _, rfl, rfl, rfl⟩, ?_⟩ | (refine retD_mark ?_; intro w H; refine ⟨_, ⟨_, _, rfl, rfl, rfl⟩, ?_⟩) | (refine retD_mark2 ?_; intro w H; refine ⟨_, ⟨_, _, rfl, rfl, rfl⟩, ?_⟩)
    exact ⟨rfl, Holds.base_below (L := []) (Holds.to (by assumption))⟩
  · refine W.skip ?_
    refine hK9 _ _ _ ?_
    refine W.seq (fun K12 hK12 => ?_)
    refine W.seq (fun K13 hK13 => ?_)
    refine W.region ?_
    refine O.ex (by first | exact Ex.field0 fld47_0 rfl | exact Ex.field fld47_0 rfl | exact Ex.fieldS fld47_0 rfl | exact Ex.fieldIn fld47_0 rfl) rfl ?_
    refine O.ex (by first | exact Ex.loadRT Try.isAgg3 rfl | exact Ex.loadRA Try.isAgg3 rfl | exact Ex.loadRN Try.isAgg3 rfl | exact Ex.loadRM Try.isAgg3 rfl | exact Ex.loadMh Try.isAgg3 rfl | exact Ex.loadInF Try.isAgg3 rfl (Holds.to (by assumption)) | exact Ex.loadP Try.isAgg3 rfl | exact Ex.loadM Try.isAgg3 rfl | exact Ex.loadIn1 Try.isAgg3 rfl (Holds.to (by assumption)) | exact Ex.loadVc Try.isAgg3 rfl | exact Ex.loadR Try.isAgg3 rfl | exact Ex.loadQ Try.isAgg3 rfl) rfl ?_
    refine O.nil ?_
    refine hK13 _ _ _ ?_
    refine W.block ?_
    refine W.seq (fun K14 hK14 => ?_)
    refine W.region ?_
    refine O.ex (Ex.eqlI rfl rfl) rfl ?_
    refine O.ex (Ex.assign rfl) rfl ?_
    refine O.nil ?_
    refine hK14 _ _ _ ?_
    first | refine W.cond_p rfl (fun h0 => ?_) (fun h0 => ?_) | refine W.cond_b rfl (fun h0 => ?_) (fun h0 => ?_)
    · refine W.region ?_
      refine O.ex (Ex.move rfl) rfl ?_
      refine O.ex (by first | exact Ex.field0 fld47_1 rfl | exact Ex.field fld47_1 rfl | exact Ex.fieldS fld47_1 rfl | exact Ex.fieldIn fld47_1 rfl) rfl ?_
      refine O.ex (by first | exact Ex.loadRT Try.isAgg3 rfl | exact Ex.loadRA Try.isAgg3 rfl | exact Ex.loadRN Try.isAgg3 rfl | exact Ex.loadRM Try.isAgg3 rfl | exact Ex.loadMh Try.isAgg3 rfl | exact Ex.loadInF Try.isAgg3 rfl (Holds.to (by assumption)) | exact Ex.loadP Try.isAgg3 rfl | exact Ex.loadM Try.isAgg3 rfl | exact Ex.loadIn1 Try.isAgg3 rfl (Holds.to (by assumption)) | exact Ex.loadVc Try.isAgg3 rfl | exact Ex.loadR Try.isAgg3 rfl | exact Ex.loadQ Try.isAgg3 rfl) rfl ?_
      refine O.callF Try.call31 rfl rfl (CT.mono (back0_ct hg (Decidable.not_not.1 hok) h0 (Holds.to (by assumption))) ?_)
      rintro _ w ⟨rfl, H⟩
      refine O.ex (Ex.assign rfl) rfl ?_
      refine O.nil ?_
      refine hK12 _ _ _ ?_
      refine W.seq (fun K15 hK15 => ?_)
      refine W.region ?_
      refine O.ex (Ex.move rfl) rfl ?_
      refine O.ex (Ex.eqlI rfl rfl) rfl ?_
      refine O.ex (Ex.move rfl) rfl ?_
      refine O.known (t := 75) (c := true) rfl (by first | exact decide_eq_true rfl | rfl | decide) ?_
      refine O.guard_t rfl rfl ?_
      refine O.ex (Ex.move rfl) rfl ?_
      refine O.guard_t rfl rfl ?_
      refine O.callF Try.call30 rfl rfl (CT.mono (same08_ct (r := b9) hg (Holds.to (by assumption))) ?_)
      rintro _ w ⟨rfl, H⟩
      refine O.ex (Ex.pick_t rfl rfl) rfl ?_
      refine O.ex (Ex.assign rfl) rfl ?_
      refine O.nil ?_
      refine hK15 _ _ _ ?_
      refine W.ret ?_
      try dsimp only [thenQ, blockQ, retQ]
      first | refine ⟨_, ⟨_, _, rfl, rfl, rfl⟩, ?_⟩ | (refine retD_mark ?_; intro w H; refine ⟨_, ⟨_, _, rfl, rfl, rfl⟩, ?_⟩) | (refine retD_mark2 ?_; intro w H; refine ⟨_, ⟨_, _, rfl, rfl, rfl⟩, ?_⟩)
      exact ⟨rfl, Holds.base_below (L := []) (Holds.to (by assumption))⟩
    · refine W.seq (fun K16 hK16 => ?_)
      refine W.region ?_
      refine O.ex (Ex.eqlI rfl rfl) rfl ?_
      refine O.ex (Ex.assign rfl) rfl ?_
      refine O.nil ?_
      refine hK16 _ _ _ ?_
      first | refine W.cond_p rfl (fun h1 => ?_) (fun h1 => ?_) | refine W.cond_b rfl (fun h1 => ?_) (fun h1 => ?_)
      · refine W.region ?_
        refine O.ex (Ex.move rfl) rfl ?_
        refine O.ex (by first | exact Ex.field0 fld47_1 rfl | exact Ex.field fld47_1 rfl | exact Ex.fieldS fld47_1 rfl | exact Ex.fieldIn fld47_1 rfl) rfl ?_
        refine O.ex (by first | exact Ex.loadRT Try.isAgg3 rfl | exact Ex.loadRA Try.isAgg3 rfl | exact Ex.loadRN Try.isAgg3 rfl | exact Ex.loadRM Try.isAgg3 rfl | exact Ex.loadMh Try.isAgg3 rfl | exact Ex.loadInF Try.isAgg3 rfl (Holds.to (by assumption)) | exact Ex.loadP Try.isAgg3 rfl | exact Ex.loadM Try.isAgg3 rfl | exact Ex.loadIn1 Try.isAgg3 rfl (Holds.to (by assumption)) | exact Ex.loadVc Try.isAgg3 rfl | exact Ex.loadR Try.isAgg3 rfl | exact Ex.loadQ Try.isAgg3 rfl) rfl ?_
        refine O.ex (by first | exact Ex.loadRArc Try.isAgg31 Try.sizeOf31 rfl | exact Ex.loadAggP Try.isAgg31 Try.sizeOf31 rfl | exact Ex.loadAggN Try.isAgg31 Try.sizeOf31 rfl | exact Ex.loadIn Try.isAgg31 Try.sizeOf31 rfl (Holds.to (by assumption))) rfl ?_
        refine O.callF Try.call32 rfl rfl (CT.mono (back1_ct hg (Decidable.not_not.1 hok) h0 h1 (Holds.to (by assumption))) ?_)
        rintro _ w ⟨rfl, H⟩
        refine O.ex (Ex.assign rfl) rfl ?_
        refine O.nil ?_
        refine hK12 _ _ _ ?_
        refine W.seq (fun K17 hK17 => ?_)
        refine W.region ?_
        refine O.ex (Ex.move rfl) rfl ?_
        refine O.ex (Ex.eqlI rfl rfl) rfl ?_
        refine O.ex (Ex.move rfl) rfl ?_
        refine O.known (t := 75) (c := true) rfl (by first | exact decide_eq_true rfl | rfl | decide) ?_
        refine O.guard_t rfl rfl ?_
        refine O.ex (Ex.move rfl) rfl ?_
        refine O.guard_t rfl rfl ?_
        refine O.callF Try.call30 rfl rfl (CT.mono (same08_ct (r := b9) hg (Holds.to (by assumption))) ?_)
        rintro _ w ⟨rfl, H⟩
        refine O.ex (Ex.pick_t rfl rfl) rfl ?_
        refine O.ex (Ex.assign rfl) rfl ?_
        refine O.nil ?_
        refine hK17 _ _ _ ?_
        refine W.ret ?_
        try dsimp only [thenQ, blockQ, retQ]
        first | refine ⟨_, ⟨_, _, rfl, rfl, rfl⟩, ?_⟩ | (refine retD_mark ?_; intro w H; refine ⟨_, ⟨_, _, rfl, rfl, rfl⟩, ?_⟩) | (refine retD_mark2 ?_; intro w H; refine ⟨_, ⟨_, _, rfl, rfl, rfl⟩, ?_⟩)
        exact ⟨rfl, Holds.base_below (L := []) (Holds.to (by assumption))⟩
      · refine W.seq (fun K18 hK18 => ?_)
        refine W.region ?_
        refine O.ex (Ex.eqlI rfl rfl) rfl ?_
        refine O.ex (Ex.assign rfl) rfl ?_
        refine O.nil ?_
        refine hK18 _ _ _ ?_
        first | refine W.cond_p rfl (fun h2 => ?_) (fun h2 => ?_) | refine W.cond_b rfl (fun h2 => ?_) (fun h2 => ?_)
        · refine W.region ?_
          refine O.ex (Ex.move rfl) rfl ?_
          refine O.ex (by first | exact Ex.field0 fld47_1 rfl | exact Ex.field fld47_1 rfl | exact Ex.fieldS fld47_1 rfl | exact Ex.fieldIn fld47_1 rfl) rfl ?_
          refine O.ex (by first | exact Ex.loadRT Try.isAgg3 rfl | exact Ex.loadRA Try.isAgg3 rfl | exact Ex.loadRN Try.isAgg3 rfl | exact Ex.loadRM Try.isAgg3 rfl | exact Ex.loadMh Try.isAgg3 rfl | exact Ex.loadInF Try.isAgg3 rfl (Holds.to (by assumption)) | exact Ex.loadP Try.isAgg3 rfl | exact Ex.loadM Try.isAgg3 rfl | exact Ex.loadIn1 Try.isAgg3 rfl (Holds.to (by assumption)) | exact Ex.loadVc Try.isAgg3 rfl | exact Ex.loadR Try.isAgg3 rfl | exact Ex.loadQ Try.isAgg3 rfl) rfl ?_
          refine O.callF Try.call33 rfl rfl (CT.mono (back2_ct hg (Decidable.not_not.1 hok) h0 h1 h2 (Holds.to (by assumption))) ?_)
          rintro _ w ⟨rfl, H⟩
          refine O.ex (Ex.assign rfl) rfl ?_
          refine O.nil ?_
          refine hK12 _ _ _ ?_
          refine W.seq (fun K19 hK19 => ?_)
          refine W.region ?_
          refine O.ex (Ex.move rfl) rfl ?_
          refine O.ex (Ex.eqlI rfl rfl) rfl ?_
          refine O.ex (Ex.move rfl) rfl ?_
          refine O.known (t := 75) (c := true) rfl (by first | exact decide_eq_true rfl | rfl | decide) ?_
          refine O.guard_t rfl rfl ?_
          refine O.ex (Ex.move rfl) rfl ?_
          refine O.guard_t rfl rfl ?_
          refine O.callF Try.call30 rfl rfl (CT.mono (same08_ct (r := b9) hg (Holds.to (by assumption))) ?_)
          rintro _ w ⟨rfl, H⟩
          refine O.ex (Ex.pick_t rfl rfl) rfl ?_
          refine O.ex (Ex.assign rfl) rfl ?_
          refine O.nil ?_
          refine hK19 _ _ _ ?_
          refine W.ret ?_
          try dsimp only [thenQ, blockQ, retQ]
          first | refine ⟨_, ⟨_, _, rfl, rfl, rfl⟩, ?_⟩ | (refine retD_mark ?_; intro w H; refine ⟨_, ⟨_, _, rfl, rfl, rfl⟩, ?_⟩) | (refine retD_mark2 ?_; intro w H; refine ⟨_, ⟨_, _, rfl, rfl, rfl⟩, ?_⟩)
          exact ⟨rfl, Holds.base_below (L := []) (Holds.to (by assumption))⟩
        · refine W.seq (fun K20 hK20 => ?_)
          refine W.region ?_
          refine O.ex (Ex.eqlI rfl rfl) rfl ?_
          refine O.ex (Ex.assign rfl) rfl ?_
          refine O.nil ?_
          refine hK20 _ _ _ ?_
          first | refine W.cond_p rfl (fun h3 => ?_) (fun h3 => ?_) | refine W.cond_b rfl (fun h3 => ?_) (fun h3 => ?_)
          · refine W.region ?_
            refine O.ex (Ex.move rfl) rfl ?_
            refine O.ex (by first | exact Ex.field0 fld47_1 rfl | exact Ex.field fld47_1 rfl | exact Ex.fieldS fld47_1 rfl | exact Ex.fieldIn fld47_1 rfl) rfl ?_
            refine O.ex (by first | exact Ex.loadRT Try.isAgg3 rfl | exact Ex.loadRA Try.isAgg3 rfl | exact Ex.loadRN Try.isAgg3 rfl | exact Ex.loadRM Try.isAgg3 rfl | exact Ex.loadMh Try.isAgg3 rfl | exact Ex.loadInF Try.isAgg3 rfl (Holds.to (by assumption)) | exact Ex.loadP Try.isAgg3 rfl | exact Ex.loadM Try.isAgg3 rfl | exact Ex.loadIn1 Try.isAgg3 rfl (Holds.to (by assumption)) | exact Ex.loadVc Try.isAgg3 rfl | exact Ex.loadR Try.isAgg3 rfl | exact Ex.loadQ Try.isAgg3 rfl) rfl ?_
            refine O.callF Try.call34 rfl rfl (CT.mono (back3_ct hg (Decidable.not_not.1 hok) h0 h1 h2 h3 (Holds.to (by assumption))) ?_)
            rintro _ w ⟨rfl, H⟩
            refine O.ex (Ex.assign rfl) rfl ?_
            refine O.nil ?_
            refine hK12 _ _ _ ?_
            refine W.seq (fun K21 hK21 => ?_)
            refine W.region ?_
            refine O.ex (Ex.move rfl) rfl ?_
            refine O.ex (Ex.eqlI rfl rfl) rfl ?_
            refine O.ex (Ex.move rfl) rfl ?_
            refine O.known (t := 75) (c := true) rfl (by first | exact decide_eq_true rfl | rfl | decide) ?_
            refine O.guard_t rfl rfl ?_
            refine O.ex (Ex.move rfl) rfl ?_
            refine O.guard_t rfl rfl ?_
            refine O.callF Try.call30 rfl rfl (CT.mono (same08_ct (r := b9) hg (Holds.to (by assumption))) ?_)
            rintro _ w ⟨rfl, H⟩
            refine O.ex (Ex.pick_t rfl rfl) rfl ?_
            refine O.ex (Ex.assign rfl) rfl ?_
            refine O.nil ?_
            refine hK21 _ _ _ ?_
            refine W.ret ?_
            try dsimp only [thenQ, blockQ, retQ]
            first | refine ⟨_, ⟨_, _, rfl, rfl, rfl⟩, ?_⟩ | (refine retD_mark ?_; intro w H; refine ⟨_, ⟨_, _, rfl, rfl, rfl⟩, ?_⟩) | (refine retD_mark2 ?_; intro w H; refine ⟨_, ⟨_, _, rfl, rfl, rfl⟩, ?_⟩)
            exact ⟨rfl, Holds.base_below (L := []) (Holds.to (by assumption))⟩
          · refine W.region ?_
            refine O.ex (Ex.move rfl) rfl ?_
            refine O.ex (by first | exact Ex.field0 fld47_1 rfl | exact Ex.field fld47_1 rfl | exact Ex.fieldS fld47_1 rfl | exact Ex.fieldIn fld47_1 rfl) rfl ?_
            refine O.ex (by first | exact Ex.loadRT Try.isAgg3 rfl | exact Ex.loadRA Try.isAgg3 rfl | exact Ex.loadRN Try.isAgg3 rfl | exact Ex.loadRM Try.isAgg3 rfl | exact Ex.loadMh Try.isAgg3 rfl | exact Ex.loadInF Try.isAgg3 rfl (Holds.to (by assumption)) | exact Ex.loadP Try.isAgg3 rfl | exact Ex.loadM Try.isAgg3 rfl | exact Ex.loadIn1 Try.isAgg3 rfl (Holds.to (by assumption)) | exact Ex.loadVc Try.isAgg3 rfl | exact Ex.loadR Try.isAgg3 rfl | exact Ex.loadQ Try.isAgg3 rfl) rfl ?_
            refine O.ex (by first | exact Ex.field0 fld31_2 rfl | exact Ex.field fld31_2 rfl | exact Ex.fieldS fld31_2 rfl | exact Ex.fieldIn fld31_2 rfl) rfl ?_
            refine O.ex (by first | exact Ex.loadRT Try.isAgg3 rfl | exact Ex.loadRA Try.isAgg3 rfl | exact Ex.loadRN Try.isAgg3 rfl | exact Ex.loadRM Try.isAgg3 rfl | exact Ex.loadMh Try.isAgg3 rfl | exact Ex.loadInF Try.isAgg3 rfl (Holds.to (by assumption)) | exact Ex.loadP Try.isAgg3 rfl | exact Ex.loadM Try.isAgg3 rfl | exact Ex.loadIn1 Try.isAgg3 rfl (Holds.to (by assumption)) | exact Ex.loadVc Try.isAgg3 rfl | exact Ex.loadR Try.isAgg3 rfl | exact Ex.loadQ Try.isAgg3 rfl) rfl ?_
            refine O.callF Try.call35 rfl rfl (CT.mono (back4_ct hg (Decidable.not_not.1 hok) h0 h1 h2 h3 (Holds.to (by assumption))) ?_)
            rintro _ w ⟨rfl, H⟩
            refine O.ex (Ex.assign rfl) rfl ?_
            refine O.nil ?_
            refine hK12 _ _ _ ?_
            refine W.seq (fun K22 hK22 => ?_)
            refine W.region ?_
            refine O.ex (Ex.move rfl) rfl ?_
            refine O.ex (Ex.eqlI rfl rfl) rfl ?_
            refine O.ex (Ex.move rfl) rfl ?_
            refine O.known (t := 75) (c := true) rfl (by first | exact decide_eq_true rfl | rfl | decide) ?_
            refine O.guard_t rfl rfl ?_
            refine O.ex (Ex.move rfl) rfl ?_
            refine O.guard_t rfl rfl ?_
            refine O.callF Try.call30 rfl rfl (CT.mono (same08_ct (r := b9) hg (Holds.to (by assumption))) ?_)
            rintro _ w ⟨rfl, H⟩
            refine O.ex (Ex.pick_t rfl rfl) rfl ?_
            refine O.ex (Ex.assign rfl) rfl ?_
            refine O.nil ?_
            refine hK22 _ _ _ ?_
            refine W.ret ?_
            try dsimp only [thenQ, blockQ, retQ]
            first | refine ⟨_, ⟨_, _, rfl, rfl, rfl⟩, ?_⟩ | (refine retD_mark ?_; intro w H; refine ⟨_, ⟨_, _, rfl, rfl, rfl⟩, ?_⟩) | (refine retD_mark2 ?_; intro w H; refine ⟨_, ⟨_, _, rfl, rfl, rfl⟩, ?_⟩)
            exact ⟨rfl, Holds.base_below (L := []) (Holds.to (by assumption))⟩
theorem graphRefuses_row {w0 : World} {q : Int} {lv : Value} {l : List Chg} {c : Chg} (hq : (Lit.int .u8 q).wf = true) (hx : SlIn w0 6 Chg.enc lv l) (hg : ∀ x ∈ l, x.ok) (hl : l.length ≤ maxLen) (hc : c.ok) :
    CT Try.prog 6 [.int .u8 q, lv, .agg c.enc.toArray] w0 fun x w' => x = .bool true ∧ RowKit.Below w0.heap.size w0 w' :=
  graphRefuses_ct hq hx (by unfold maxLen at hl; omega)
end Go.Proofs.Ytakmbbgnnbpkoaa
