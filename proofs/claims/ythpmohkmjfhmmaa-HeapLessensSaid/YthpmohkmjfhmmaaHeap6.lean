import Derived.Test.YthpmohkmjfhmmaaHeap5
import Derived.Test.YthpmohkmjfhmmaaRrRange
namespace Go.Proofs.Ythpmohkmjfhmmaa
open Go.Rr Go Hp
set_option linter.unusedVariables false
theorem allIH_ct {w : World} {s : Nat} {L : List HProp} (H : Holds w L) :
    CT Try.prog 43 [.pointer (some ⟨s, 0, none⟩)] w fun u w' => ∃ c, u = .func (.func 56) #[] #[.pointer (some ⟨c, 0, none⟩)] ∧ Holds w' (pt c (.cells #[.pointer (some ⟨s, 0, none⟩)] 42 (0, 0)) :: L) := by
  refine CT.enter (N := 4) Try.func43 rfl rfl rfl rfl ?_
  refine W.seq (fun K0 hK0 => ?_)
  refine W.region ?_
  refine O.boxP rfl (fun b1 w H => ?_)
  refine O.ex (Ex.assign rfl) rfl ?_
  refine O.nil ?_
  refine hK0 _ _ _ ?_
  refine W.seq (fun K1 hK1 => ?_)
  refine W.region ?_
  refine O.ex (Ex.makeFunc rfl rfl) rfl ?_
  refine O.ex (Ex.assign rfl) rfl ?_
  refine O.nil ?_
  refine hK1 _ _ _ ?_
  refine W.ret ?_
  try dsimp only [thenQ, blockQ, retQ]
  first | refine ⟨_, ⟨_, _, rfl, rfl, rfl⟩, ?_⟩ | (refine retD_mark ?_; intro w H; refine ⟨_, ⟨_, _, rfl, rfl, rfl⟩, ?_⟩) | (refine retD_mark2 ?_; intro w H; refine ⟨_, ⟨_, _, rfl, rfl, rfl⟩, ?_⟩)
  exact ⟨_, rfl, Holds.to (by assumption)⟩
def capH (c s : Nat) : HProp := pt c (.cells #[.pointer (some ⟨s, 0, none⟩)] 42 (0, 0))
/-- What is left behind j that came out. -/
def itS (s : List (Option Int)) : Nat → List (Option Int)
  | 0 => s
  | j + 1 => popL RI (itS s j)
theorem popI1_ct {w : World} {h : Nat} {s : List (Option Int)} {L : List HProp} (H : Holds w (HqI h s :: L)) :
    CT Try.prog 31 [.pointer (some ⟨h, 0, none⟩)] w fun u w' => u = .tuple #[.int .i64 (pkN RI s : Int), .int .i64 (pkP RI s), .bool (pkO RI s)] ∧ Holds w' (HqI h (popL RI s) :: L) :=
  (popIH_ct H).mono fun u w' hh => by
    rcases hh with ⟨e, hu, H⟩ | ⟨b, e, hu, H⟩
    · rw [hu]; unfold pkN pkP pkO popL; rw [e]; exact ⟨rfl, H⟩
    · rw [hu]; unfold pkN pkP pkO popL; rw [e]; exact ⟨rfl, H⟩
set_option maxHeartbeats 1000000 in
theorem all1IH_ct {w : World} {c h : Nat} {s : List (Option Int)} {fv : Value} {J : Nat → List HProp} {φ : Nat → Prop} {S : World → Prop}
    (H : Holds w (capH c h :: HqI h s :: J 0)) (hφ : φ 0) (hS : ∀ w, S w → Holds w [capH c h, HqI h s])
    (hy : ∀ (j d : Nat) w, pkO RI (itS s j) = true → φ j → Holds w (capH c h :: HqI h s :: HqI d (itS s (j + 1)) :: J j) →
      VT Try.prog fv [.int .i64 (pkN RI (itS s j) : Int), .int .i64 (pkP RI (itS s j))] w fun u w' => (u = .bool true ∧ φ (j + 1) ∧ Holds w' (capH c h :: HqI h s :: HqI d (itS s (j + 1)) :: J (j + 1))) ∨ (u = .bool false ∧ S w')) :
    CT Try.prog 56 [fv, .pointer (some ⟨c, 0, none⟩)] w fun _ w' => (∃ j, φ j ∧ pkO RI (itS s j) = false ∧ Holds w' (capH c h :: HqI h s :: J j)) ∨ S w' := by
  obtain ⟨tv, pv, qv, t, pl, pr, hr, H⟩ := hqI_open.1 H.swap
  have H := Holds.f4 (hpOI_open.1 H)
  unfold capH at H
  have ll := hr.pi.len
  have lp := hr.lp
  have htn := hr.pi.len_le
  have h64 := hr.n64
  refine CT.enter (N := 42) Try.func56 rfl rfl rfl rfl ?_
  refine W.seq (fun K0 hK0 => ?_)
  refine W.drawTo (pt c _ :: pt h _ :: []) (.take 0 (.take 1 (.take 2 (.take 3 (.take 5 (.take 6 (.take 7 (.take 8 (.take 10 (.take 11 (.take 12 (.take 13 (.one 4 (.one 9 (.one 14 (.take 15 (.one 16 (.take 17 .nil)))))))))))))))))) (mixed) (fun _ _ _ _ h => h) (by assumption) PP.auto (by decide +kernel) (fun w H => ?_)
  refine OQ.ex rfl (fun w H => (by first | exact Ex.loadP Try.isAgg42 rfl | exact Ex.loadR Try.isAgg42 rfl | exact Ex.loadIn1 Try.isAgg42 rfl (Holds.to (by assumption)))) rfl ?_
  refine OQ.ex rfl (fun w H => (by first | exact Ex.nilPtr rfl | exact Ex.nilFunc rfl | exact Ex.nilYield rfl)) rfl ?_
  refine OQ.ex rfl (fun w H => (by first | exact Ex.field0 fld79_0 rfl | exact Ex.field fld79_0 rfl | exact Ex.fieldS fld79_0 rfl)) rfl ?_
  refine OQ.ex rfl (fun w H => (by first | exact Ex.loadP Try.isAgg22 rfl | exact Ex.loadR Try.isAgg22 rfl | exact Ex.loadIn1 Try.isAgg22 rfl (Holds.to (by assumption)))) rfl ?_
  refine OQ.ex rfl (fun w H => (by first | exact Ex.loadP Try.isAgg42 rfl | exact Ex.loadR Try.isAgg42 rfl | exact Ex.loadIn1 Try.isAgg42 rfl (Holds.to (by assumption)))) rfl ?_
  refine OQ.ex rfl (fun w H => (by first | exact Ex.nilPtr rfl | exact Ex.nilFunc rfl | exact Ex.nilYield rfl)) rfl ?_
  refine OQ.ex rfl (fun w H => (by first | exact Ex.field0 fld79_1 rfl | exact Ex.field fld79_1 rfl | exact Ex.fieldS fld79_1 rfl)) rfl ?_
  refine OQ.ex rfl (fun w H => (by first | exact Ex.loadP Try.isAgg22 rfl | exact Ex.loadR Try.isAgg22 rfl | exact Ex.loadIn1 Try.isAgg22 rfl (Holds.to (by assumption)))) rfl ?_
  refine OQ.ex rfl (fun w H => (by first | exact Ex.loadP Try.isAgg42 rfl | exact Ex.loadR Try.isAgg42 rfl | exact Ex.loadIn1 Try.isAgg42 rfl (Holds.to (by assumption)))) rfl ?_
  refine OQ.ex rfl (fun w H => (by first | exact Ex.nilPtr rfl | exact Ex.nilFunc rfl | exact Ex.nilYield rfl)) rfl ?_
  refine OQ.ex rfl (fun w H => (by first | exact Ex.field0 fld79_2 rfl | exact Ex.field fld79_2 rfl | exact Ex.fieldS fld79_2 rfl)) rfl ?_
  refine OQ.ex rfl (fun w H => (by first | exact Ex.loadP Try.isAgg22 rfl | exact Ex.loadR Try.isAgg22 rfl | exact Ex.loadIn1 Try.isAgg22 rfl (Holds.to (by assumption)))) rfl ?_
  refine OQ.step rfl ?_
  refine O.callF Try.call57 rfl rfl (CT.mono (clone_ct (e := eN) (v := tv) (xs := t) (fun _ => rfl) (by omega) (Holds.to (by assumption))) ?_)
  rintro _ w ⟨ha, H⟩
  rename_i va
  refine O.thenNil ⟨(by first | exact Holds.to (by assumption) | assumption), ?_⟩
  refine OQ.step rfl ?_
  refine O.callF Try.call57 rfl rfl (CT.mono (clone_ct (e := Value.int .i64) (v := pv) (xs := pl) (fun _ => rfl) (by omega) (Holds.to (by assumption))) ?_)
  rintro _ w ⟨hb, H⟩
  rename_i vb
  refine O.thenNil ⟨(by first | exact Holds.to (by assumption) | assumption), ?_⟩
  refine OQ.step rfl ?_
  refine O.callF Try.call57 rfl rfl (CT.mono (clone_ct (e := Value.int .i64) (v := qv) (xs := pr) (fun _ => rfl) (by omega) (Holds.to (by assumption))) ?_)
  rintro _ w ⟨hc, H⟩
  rename_i vc
  refine O.thenNil ⟨(by first | exact Holds.to (by assumption) | assumption), ?_⟩
  refine OQ.ex rfl (fun w H => (Ex.build rfl (bld79_0_1_2 _ _ _ (by first | rfl | assumption) (by first | rfl | assumption) (by first | rfl | assumption)))) rfl ?_
  refine OQ.step rfl ?_
  refine O.boxP rfl (fun b23 w H => ?_)
  refine O.thenNil ⟨(by first | exact Holds.to (by assumption) | assumption), ?_⟩
  refine OQ.ex rfl (fun w H => (Ex.assign rfl)) rfl ?_
  refine OQ.done ?_
  refine hK0 _ _ _ ?_
  refine W.seq (fun K1 hK1 => ?_)
  refine W.region ?_
  have H1 := (hpOI_open (h := b23) (tv := va) (pv := vb) (qv := vc) (t := t) (pl := pl) (pr := pr)).2 (Holds.to (by assumption))
  have H2 := hqI_open.2 ⟨_, _, _, _, _, _, hr, H1⟩
  have H3 := (hpOI_open (h := h) (tv := tv) (pv := pv) (qv := qv) (t := t) (pl := pl) (pr := pr)).2 (Holds.to H2)
  have H : Holds w (HqI h s :: HqI b23 (itS s 0) :: capH c h :: J 0) := hqI_open.2 ⟨_, _, _, _, _, _, hr, Holds.to H3⟩
  refine O.ex (Ex.move rfl) rfl ?_
  refine O.callF Try.call31 rfl rfl (CT.mono (popI1_ct (s := itS s 0) (Holds.to (by assumption))) ?_)
  rintro _ w ⟨rfl, H⟩
  refine O.ex (Ex.move rfl) rfl ?_
  refine O.ex (Ex.extract rfl rfl) rfl ?_
  refine O.ex (Ex.extract rfl rfl) rfl ?_
  refine O.ex (Ex.extract rfl rfl) rfl ?_
  refine O.ex (Ex.assign rfl) rfl ?_
  refine O.ex (Ex.assign rfl) rfl ?_
  refine O.ex (Ex.assign rfl) rfl ?_
  refine O.nil ?_
  refine hK1 _ _ _ ?_
  refine W.block ?_
  refine W.loop (σ := Nat) (fun j => [(0, fv), (1, .pointer (some ⟨c, 0, none⟩)), (3, .pointer (some ⟨b23, 0, none⟩)), (4, .int .i64 (pkN RI (itS s j) : Int)), (5, .int .i64 (pkP RI (itS s j))), (6, .bool (pkO RI (itS s j)))]) (fun j ds w => ds = [] ∧ φ j ∧ Holds w (capH c h :: HqI h s :: HqI b23 (itS s (j + 1)) :: J j)) (fun j => lenS (itS s j)) 0 ⟨rfl, rfl, rfl, rfl, rfl, rfl, trivial⟩ ⟨rfl, hφ, Holds.to (by assumption)⟩ ?_
  clear H
  rintro j _ w ⟨rfl, hφj, H⟩
  refine W.seq (fun K2 hK2 => ?_)
  refine W.seq (fun K3 hK3 => ?_)
  refine W.region ?_
  refine O.ex (Ex.move rfl) rfl ?_
  refine O.nil ?_
  refine hK3 _ _ _ ?_
  first | refine W.cond_p rfl (fun hok => ?_) (fun hno => ?_) | refine W.cond_b rfl (fun hok => ?_) (fun hno => ?_)
  · refine W.skip ?_
    refine hK2 _ _ _ ?_
    refine W.seq (fun K4 hK4 => ?_)
    refine W.block ?_
    refine W.seq (fun K5 hK5 => ?_)
    refine W.region ?_
    refine O.ex (Ex.move rfl) rfl ?_
    refine O.ex (Ex.move rfl) rfl ?_
    refine O.ex (Ex.move rfl) rfl ?_
    refine O.callVT rfl rfl rfl (VT.mono (VT.two (hy j b23 w hok hφj (Holds.to (by assumption))) (C := fun w' => Holds w' [capH c h, HqI h s]) (fun _ h => Holds.to h.2) hS) ?_)
    rintro _ w ⟨b, rfl, H, hb⟩
    refine O.ex (by first | exact Ex.notD rfl | exact Ex.not rfl) rfl ?_
    refine O.nil ?_
    refine hK5 _ _ _ ?_
    first | refine W.cond_p rfl (fun hstop => ?_) (fun hgo => ?_) | refine W.cond_b rfl (fun hstop => ?_) (fun hgo => ?_)
    · refine W.ret ?_
      try dsimp only [thenQ, blockQ, retQ]
      first | refine ⟨_, rfl, ?_⟩ | (refine retD_mark ?_; intro w H; refine ⟨_, rfl, ?_⟩) | (refine retD_mark2 ?_; intro w H; refine ⟨_, rfl, ?_⟩)
      first
      | (rcases hb with ⟨rfl, _⟩ | ⟨_, hs⟩
         · simp at hstop
         · exact .inr hs)
      | exact .inl ⟨j, hφj, by simpa using hno, Holds.to (by assumption)⟩
    · refine W.skip ?_
      refine hK4 _ _ _ ?_
      refine W.region ?_
      have hj : φ (j + 1) ∧ Holds w (capH c h :: HqI h s :: HqI b23 (itS s (j + 1)) :: J (j + 1)) := by
        rcases hb with ⟨_, hj⟩ | ⟨rfl, _⟩
        · exact hj
        · simp at hgo
      have H := hj.2
      refine O.ex (Ex.move rfl) rfl ?_
      refine O.callF Try.call31 rfl rfl (CT.mono (popI1_ct (s := itS s (j + 1)) (Holds.to (by assumption))) ?_)
      rintro _ w ⟨rfl, H⟩
      refine O.ex (Ex.move rfl) rfl ?_
      refine O.ex (Ex.extract rfl rfl) rfl ?_
      refine O.ex (Ex.extract rfl rfl) rfl ?_
      refine O.ex (Ex.extract rfl rfl) rfl ?_
      refine O.ex (Ex.assign rfl) rfl ?_
      refine O.ex (Ex.assign rfl) rfl ?_
      refine O.ex (Ex.assign rfl) rfl ?_
      refine O.nil ?_
      exact ⟨j + 1, ⟨rfl, rfl, rfl, rfl, rfl, rfl, trivial⟩, ⟨rfl, hj.1, Holds.to (by assumption)⟩, by have := lenS_pop soI hok; show lenS (popL RI (itS s j)) < _; omega⟩
  · refine W.exit ?_
    try dsimp only [thenQ, blockQ, retQ]
    first | refine ⟨_, rfl, ?_⟩ | (refine retD_mark ?_; intro w H; refine ⟨_, rfl, ?_⟩) | (refine retD_mark2 ?_; intro w H; refine ⟨_, rfl, ?_⟩)
    first
    | (rcases hb with ⟨rfl, _⟩ | ⟨_, hs⟩
       · simp at hstop
       · exact .inr hs)
    | exact .inl ⟨j, hφj, by simpa using hno, Holds.to (by assumption)⟩
end Go.Proofs.Ythpmohkmjfhmmaa
