import Derived.Test.YtliofdfhimmjmaaHeap4
import Derived.Test.YtliofdfhimmjmaaClone
namespace Go.Proofs.Ytliofdfhimmjmaa
open Go.Rr Go Hp
set_option linter.unusedVariables false
theorem peekI2_ct {w : World} {h : Nat} {s : List (Option Int)} {L : List HProp} (H : Holds w (HqI h s :: L)) :
    CT Try.prog 94 [.pointer (some ⟨h, 0, none⟩)] w fun u w' => (bs RI s = none ∧ u = .tuple #[.int .i64 0, .int .i64 0, .bool false] ∧ Holds w' (HqI h s :: L)) ∨ (∃ b, bs RI s = some b ∧ u = .tuple #[.int .i64 (b : Int), .int .i64 (pg s b), .bool true] ∧ Holds w' (HqI h s :: L)) :=
  (peekIH_ct H).mono fun u w' ⟨hu, H⟩ => by
    cases e : bs RI s with
    | none =>
      refine .inl ⟨rfl, ?_, H⟩
      rw [hu]; unfold pkN pkP pkO; rw [e]; rfl
    | some b =>
      refine .inr ⟨b, rfl, ?_, H⟩
      rw [hu]; unfold pkN pkP pkO; rw [e]; rfl
set_option maxHeartbeats 1000000 in
theorem popIH_ct {w : World} {h : Nat} {s : List (Option Int)} {L : List HProp} (H : Holds w (HqI h s :: L)) :
    CT Try.prog 70 [.pointer (some ⟨h, 0, none⟩)] w fun u w' => (bs RI s = none ∧ u = .tuple #[.int .i64 0, .int .i64 0, .bool false] ∧ Holds w' (HqI h s :: L)) ∨ (∃ b, bs RI s = some b ∧ u = .tuple #[.int .i64 (b : Int), .int .i64 (pg s b), .bool true] ∧ Holds w' (HqI h (s.set b none) :: L)) := by
  refine CT.enter (N := 55) Try.func70 rfl rfl rfl rfl ?_
  refine W.seq (fun K0 hK0 => ?_)
  refine W.region ?_
  refine O.ex (Ex.assign rfl) rfl ?_
  refine O.ex (Ex.assign rfl) rfl ?_
  refine O.ex (Ex.assign rfl) rfl ?_
  refine O.nil ?_
  refine hK0 _ _ _ ?_
  refine W.seq (fun K1 hK1 => ?_)
  refine W.region ?_
  refine O.ex (Ex.move rfl) rfl ?_
  refine O.callF Try.call94 rfl rfl (CT.mono (peekI2_ct (Holds.to (by assumption))) ?_)
  rintro _ w hh
  rcases hh with ⟨hb, rfl, H⟩ | ⟨b, hb, rfl, H⟩
  · refine O.ex (Ex.move rfl) rfl ?_
    refine O.ex (Ex.extract rfl rfl) rfl ?_
    refine O.ex (Ex.extract rfl rfl) rfl ?_
    refine O.ex (Ex.extract rfl rfl) rfl ?_
    refine O.ex (Ex.assign rfl) rfl ?_
    refine O.ex (Ex.assign rfl) rfl ?_
    refine O.ex (Ex.assign rfl) rfl ?_
    refine O.nil ?_
    refine hK1 _ _ _ ?_
    refine W.seq (fun K2 hK2 => ?_)
    refine W.seq (fun K3 hK3 => ?_)
    refine W.region ?_
    refine O.ex (Ex.move rfl) rfl ?_
    refine O.ex (by first | exact Ex.notD rfl | exact Ex.not rfl) rfl ?_
    refine O.nil ?_
    refine hK3 _ _ _ ?_
    refine W.known_t rfl (by first | rfl | decide | (simp; done) | omega) ?_
    refine W.seq (fun K4 hK4 => ?_)
    refine W.region ?_
    refine O.ex (Ex.move rfl) rfl ?_
    refine O.ex (Ex.move rfl) rfl ?_
    refine O.ex (Ex.assign rfl) rfl ?_
    refine O.ex (Ex.assign rfl) rfl ?_
    refine O.ex (Ex.assign rfl) rfl ?_
    refine O.nil ?_
    refine hK4 _ _ _ ?_
    refine W.ret ?_
    try dsimp only [thenQ, blockQ, retQ]
    first | refine ⟨_, ⟨_, _, rfl, rfl, _, _, rfl, rfl, _, _, rfl, rfl, rfl⟩, ?_⟩ | (refine retD_mark ?_; intro w H; refine ⟨_, ⟨_, _, rfl, rfl, _, _, rfl, rfl, _, _, rfl, rfl, rfl⟩, ?_⟩) | (refine retD_mark2 ?_; intro w H; refine ⟨_, ⟨_, _, rfl, rfl, _, _, rfl, rfl, _, _, rfl, rfl, rfl⟩, ?_⟩)
    first
    | exact .inl ⟨hb, rfl, by assumption⟩
    | (refine .inr ⟨b, hb, rfl, ?_⟩
       have e : s.set b none = popL RI s := by unfold popL; rw [hb]
       rw [e]
       exact hqI_open.2 ⟨_, _, _, _, _, _, hr.pop soI h0 hp3 hh3 (fun z => (hm3 z).trans (hcut.2.2 z)), Holds.to (by assumption)⟩)
    | (refine .inr ⟨b, hb, rfl, ?_⟩
       have e : s.set b none = popL RI s := by unfold popL; rw [hb]
       rw [e]
       have H := (hpOI_open (h := h) (tv := hiV tv (t.length - 1)) (pv := pv) (qv := qv) (t := t1) (pl := (pl.set y ((0 : Nat) : Int)).set (t.getD 0 default) (-1)) (pr := pr)).2 (Holds.to (by assumption))
       exact hqI_open.2 ⟨_, _, _, _, _, _, hr.pop soI h0 hcut.1 (fun i h1 h2 => by omega) hcut.2.2, Holds.to (by assumption)⟩)
  · refine O.ex (Ex.move rfl) rfl ?_
    refine O.ex (Ex.extract rfl rfl) rfl ?_
    refine O.ex (Ex.extract rfl rfl) rfl ?_
    refine O.ex (Ex.extract rfl rfl) rfl ?_
    refine O.ex (Ex.assign rfl) rfl ?_
    refine O.ex (Ex.assign rfl) rfl ?_
    refine O.ex (Ex.assign rfl) rfl ?_
    refine O.nil ?_
    refine hK1 _ _ _ ?_
    refine W.seq (fun K5 hK5 => ?_)
    refine W.seq (fun K6 hK6 => ?_)
    refine W.region ?_
    refine O.ex (Ex.move rfl) rfl ?_
    refine O.ex (by first | exact Ex.notD rfl | exact Ex.not rfl) rfl ?_
    refine O.nil ?_
    refine hK6 _ _ _ ?_
    refine W.known_f rfl (by first | rfl | decide | (simp; done) | omega) ?_
    refine W.skip ?_
    refine hK5 _ _ _ ?_
    refine W.seq (fun K7 hK7 => ?_)
    refine W.region ?_
    obtain ⟨tv, pv, qv, t, pl, pr, hr, H⟩ := hqI_open.1 H
    have H := hpOI_open.1 H
    have ll := hr.pi.len
    have lp := hr.lp
    have htn := hr.pi.len_le
    have h64 := hr.n64
    have h0 : 0 < t.length := by
      refine Nat.pos_of_ne_zero fun e => ?_
      obtain rfl : t = [] := List.length_eq_zero_iff.1 e
      rw [hr.empty] at hb; cases hb
    have hb0 : b = t.getD 0 default := by have := hr.first soI h0; rw [hb] at this; exact Option.some.inj this
    have hbn : b < s.length := by rw [hb0]; exact hr.pi.lt 0 h0
    obtain ⟨y, hy⟩ : ∃ y, y = t.getD (t.length - 1) default := ⟨_, rfl⟩
    have hyn : y < s.length := by rw [hy]; exact hr.pi.lt _ (by omega)
    have hci : (t.length : Int) - 1 = ((t.length - 1 : Nat) : Int) := by omega
    have hcut := hr.cut soI h0 hy
    have hls : (t.set 0 y).length = t.length := by simp
    refine O.ex (Ex.move rfl) rfl ?_
    refine O.ex (by first | exact Ex.nilPtr rfl | exact Ex.nilFunc rfl | exact Ex.nilYield rfl) rfl ?_
    refine O.ex (by first | exact Ex.field0 fld126_0 rfl | exact Ex.field fld126_0 rfl | exact Ex.fieldS fld126_0 rfl) rfl ?_
    refine O.ex (by first | exact Ex.loadP Try.isAgg28 rfl | exact Ex.loadR Try.isAgg28 rfl | exact Ex.loadIn1 Try.isAgg28 rfl (Holds.to (by assumption))) rfl ?_
    refine O.ex (by first | exact Ex.lenR Try.runUnderlying28 rfl | exact Ex.lenIn Try.runUnderlying28 rfl | exact Ex.lenL Try.runUnderlying28 rfl | exact Ex.len rfl Try.runUnderlying28 rfl) rfl ?_
    refine O.ex (by first | exact Ex.subI rfl rfl | exact Ex.sub rfl rfl rfl) rfl ?_
    rw [hci]
    refine O.ex (Ex.assign rfl) rfl ?_
    refine O.nil ?_
    refine hK7 _ _ _ ?_
    refine W.seq (fun K8 hK8 => ?_)
    refine W.region ?_
    refine O.ex (Ex.move rfl) rfl ?_
    refine O.ex (Ex.move rfl) rfl ?_
    refine O.ex (by first | exact Ex.nilPtr rfl | exact Ex.nilFunc rfl | exact Ex.nilYield rfl) rfl ?_
    refine O.ex (by first | exact Ex.field0 fld126_0 rfl | exact Ex.field fld126_0 rfl | exact Ex.fieldS fld126_0 rfl) rfl ?_
    refine O.ex (by first | exact Ex.loadP Try.isAgg28 rfl | exact Ex.loadR Try.isAgg28 rfl | exact Ex.loadIn1 Try.isAgg28 rfl (Holds.to (by assumption))) rfl ?_
    refine O.ex (Ex.move rfl) rfl ?_
    refine O.ex (by first | exact Ex.idxR Try.runUnderlying28 Try.sizeOf3 rfl rfl | exact Ex.idxIn Try.runUnderlying28 Try.sizeOf3 rfl rfl | exact Ex.idxS Try.runUnderlying28 Try.sizeOf3 rfl rfl | exact Ex.idx Try.runUnderlying28 Try.sizeOf3 rfl rfl (by omega) (by omega)) rfl ?_
    refine O.ex (by first | exact Ex.loadP Try.isAgg3 rfl | exact Ex.loadR Try.isAgg3 rfl | exact Ex.loadIn1 Try.isAgg3 rfl (Holds.to (by assumption))) rfl ?_
    rw [show t.getD ((t.length - 1 : Nat) : Int).toNat default = y from hy.symm]
    refine O.callF Try.call95 rfl rfl (CT.mono (layI_ct (x := y) (p := 0) (tv := tv) (pv := pv) (qv := qv) (t := t) (pl := pl) (pr := pr) (by omega) (by omega) (hpOI_open.2 (Holds.to (by assumption)))) ?_)
    rintro _ w ⟨-, H⟩
    have H := hpOI_open.1 H
    refine O.nil ?_
    refine hK8 _ _ _ ?_
    refine W.seq (fun K9 hK9 => ?_)
    refine W.region ?_
    refine O.ex (Ex.move rfl) rfl ?_
    refine O.ex (Ex.move rfl) rfl ?_
    refine O.ex (by first | exact Ex.nilPtr rfl | exact Ex.nilFunc rfl | exact Ex.nilYield rfl) rfl ?_
    refine O.ex (by first | exact Ex.field0 fld126_0 rfl | exact Ex.field fld126_0 rfl | exact Ex.fieldS fld126_0 rfl) rfl ?_
    refine O.ex (by first | exact Ex.loadP Try.isAgg28 rfl | exact Ex.loadR Try.isAgg28 rfl | exact Ex.loadIn1 Try.isAgg28 rfl (Holds.to (by assumption))) rfl ?_
    refine O.ex (Ex.move rfl) rfl ?_
    refine O.ex (Ex.sliceHi Try.runUnderlying28 Try.sizeOf3 rfl rfl) rfl ?_
    refine O.ex (by first | exact Ex.nilPtr rfl | exact Ex.nilFunc rfl | exact Ex.nilYield rfl) rfl ?_
    refine O.ex (by first | exact Ex.field0 fld126_0 rfl | exact Ex.field fld126_0 rfl | exact Ex.fieldS fld126_0 rfl) rfl ?_
    have ho : (hiV tv ((t.length - 1 : Nat) : Int).toNat).oneCell' = true := arr_hi_one (T := 3) (e := eN) (xs := t.set 0 y) (Holds.to (by assumption)) _
    first | refine O.storeP Try.sizeOf28 rfl rfl (fun w H => ?_) | refine O.storeR Try.sizeOf28 rfl rfl (fun w H => ?_)
    refine O.nil ?_
    refine hK9 _ _ _ ?_
    refine W.seq (fun K10 hK10 => ?_)
    refine W.region ?_
    have H := arr_take (hi := ((t.length - 1 : Nat) : Int).toNat) (T := 3) (e := eN) (v := tv) (xs := t.set 0 y) (Holds.to (by assumption)) (by rw [List.length_set]; omega)
    rw [Int.toNat_natCast] at H
    obtain ⟨t1, ht1⟩ : ∃ t1, t1 = (t.set 0 y).take (t.length - 1) := ⟨_, rfl⟩
    rw [← ht1] at H hcut
    have hl1 : t1.length = t.length - 1 := by rw [ht1]; simp
    have lpy : (pl.set y ((0 : Nat) : Int)).length = s.length := by simp [ll]
    refine O.ex (Ex.move rfl) rfl ?_
    refine O.ex (by first | exact Ex.nilPtr rfl | exact Ex.nilFunc rfl | exact Ex.nilYield rfl) rfl ?_
    refine O.ex (by first | exact Ex.field0 fld126_1 rfl | exact Ex.field fld126_1 rfl | exact Ex.fieldS fld126_1 rfl) rfl ?_
    refine O.ex (by first | exact Ex.loadP Try.isAgg28 rfl | exact Ex.loadR Try.isAgg28 rfl | exact Ex.loadIn1 Try.isAgg28 rfl (Holds.to (by assumption))) rfl ?_
    refine O.ex (Ex.move rfl) rfl ?_
    refine O.ex (by first | exact Ex.idxR Try.runUnderlying28 Try.sizeOf3 rfl rfl | exact Ex.idxIn Try.runUnderlying28 Try.sizeOf3 rfl rfl | exact Ex.idxS Try.runUnderlying28 Try.sizeOf3 rfl rfl | exact Ex.idx Try.runUnderlying28 Try.sizeOf3 rfl rfl (by omega) (by omega)) rfl ?_
    first | refine O.storeP Try.sizeOf3 rfl rfl (fun w H => ?_) | refine O.storeR Try.sizeOf3 rfl rfl (fun w H => ?_)
    refine O.nil ?_
    refine hK10 _ _ _ ?_
    refine W.seq (fun K11 hK11 => ?_)
    refine W.seq (fun K12 hK12 => ?_)
    refine W.region ?_
    rw [hb0] at H
    refine O.ex (Ex.move rfl) rfl ?_
    refine O.ex (Ex.gtr rfl rfl) rfl ?_
    refine O.nil ?_
    refine hK12 _ _ _ ?_
    first | refine W.cond_p rfl (fun hpos => ?_) (fun hlast => ?_) | refine W.cond_b rfl (fun hpos => ?_) (fun hlast => ?_)
    · refine W.region ?_
      refine O.ex (Ex.move rfl) rfl ?_
      refine O.callF Try.call96 rfl rfl (CT.mono (downI_ct (n := s.length) (p := 0) (tv := hiV tv (t.length - 1)) (pv := pv) (qv := qv) (t := t1) (pl := (pl.set y ((0 : Nat) : Int)).set (t.getD 0 default) (-1)) (pr := pr) hcut.1 lp h64 (by omega) hcut.2.1 (hpOI_open.2 (Holds.to (by assumption)))) ?_)
      rintro _ w ⟨-, t3, pl3, hp3, hh3, hm3, H⟩
      refine O.nil ?_
      refine hK11 _ _ _ ?_
      refine W.seq (fun K13 hK13 => ?_)
      refine W.region ?_
      refine O.ex (Ex.move rfl) rfl ?_
      refine O.ex (Ex.move rfl) rfl ?_
      refine O.ex (Ex.assign rfl) rfl ?_
      refine O.ex (Ex.assign rfl) rfl ?_
      refine O.ex (Ex.assign rfl) rfl ?_
      refine O.nil ?_
      refine hK13 _ _ _ ?_
      refine W.ret ?_
      try dsimp only [thenQ, blockQ, retQ]
      first | refine ⟨_, ⟨_, _, rfl, rfl, _, _, rfl, rfl, _, _, rfl, rfl, rfl⟩, ?_⟩ | (refine retD_mark ?_; intro w H; refine ⟨_, ⟨_, _, rfl, rfl, _, _, rfl, rfl, _, _, rfl, rfl, rfl⟩, ?_⟩) | (refine retD_mark2 ?_; intro w H; refine ⟨_, ⟨_, _, rfl, rfl, _, _, rfl, rfl, _, _, rfl, rfl, rfl⟩, ?_⟩)
      first
      | exact .inl ⟨hb, rfl, by assumption⟩
      | (refine .inr ⟨b, hb, rfl, ?_⟩
         have e : s.set b none = popL RI s := by unfold popL; rw [hb]
         rw [e]
         exact hqI_open.2 ⟨_, _, _, _, _, _, hr.pop soI h0 hp3 hh3 (fun z => (hm3 z).trans (hcut.2.2 z)), Holds.to (by assumption)⟩)
      | (refine .inr ⟨b, hb, rfl, ?_⟩
         have e : s.set b none = popL RI s := by unfold popL; rw [hb]
         rw [e]
         have H := (hpOI_open (h := h) (tv := hiV tv (t.length - 1)) (pv := pv) (qv := qv) (t := t1) (pl := (pl.set y ((0 : Nat) : Int)).set (t.getD 0 default) (-1)) (pr := pr)).2 (Holds.to (by assumption))
         exact hqI_open.2 ⟨_, _, _, _, _, _, hr.pop soI h0 hcut.1 (fun i h1 h2 => by omega) hcut.2.2, Holds.to (by assumption)⟩)
    · refine W.skip ?_
      refine hK11 _ _ _ ?_
      refine W.seq (fun K14 hK14 => ?_)
      refine W.region ?_
      refine O.ex (Ex.move rfl) rfl ?_
      refine O.ex (Ex.move rfl) rfl ?_
      refine O.ex (Ex.assign rfl) rfl ?_
      refine O.ex (Ex.assign rfl) rfl ?_
      refine O.ex (Ex.assign rfl) rfl ?_
      refine O.nil ?_
      refine hK14 _ _ _ ?_
      refine W.ret ?_
      try dsimp only [thenQ, blockQ, retQ]
      first | refine ⟨_, ⟨_, _, rfl, rfl, _, _, rfl, rfl, _, _, rfl, rfl, rfl⟩, ?_⟩ | (refine retD_mark ?_; intro w H; refine ⟨_, ⟨_, _, rfl, rfl, _, _, rfl, rfl, _, _, rfl, rfl, rfl⟩, ?_⟩) | (refine retD_mark2 ?_; intro w H; refine ⟨_, ⟨_, _, rfl, rfl, _, _, rfl, rfl, _, _, rfl, rfl, rfl⟩, ?_⟩)
      first
      | exact .inl ⟨hb, rfl, by assumption⟩
      | (refine .inr ⟨b, hb, rfl, ?_⟩
         have e : s.set b none = popL RI s := by unfold popL; rw [hb]
         rw [e]
         exact hqI_open.2 ⟨_, _, _, _, _, _, hr.pop soI h0 hp3 hh3 (fun z => (hm3 z).trans (hcut.2.2 z)), Holds.to (by assumption)⟩)
      | (refine .inr ⟨b, hb, rfl, ?_⟩
         have e : s.set b none = popL RI s := by unfold popL; rw [hb]
         rw [e]
         have H := (hpOI_open (h := h) (tv := hiV tv (t.length - 1)) (pv := pv) (qv := qv) (t := t1) (pl := (pl.set y ((0 : Nat) : Int)).set (t.getD 0 default) (-1)) (pr := pr)).2 (Holds.to (by assumption))
         exact hqI_open.2 ⟨_, _, _, _, _, _, hr.pop soI h0 hcut.1 (fun i h1 h2 => by omega) hcut.2.2, Holds.to (by assumption)⟩)
end Go.Proofs.Ytliofdfhimmjmaa
