import Derived.Test.YtakmbbgnnbpkoaaWalkLaw
import Derived.Test.YtakmbbgnnbpkoaaLaw08b
import Derived.Test.YtakmbbgnnbpkoaaMesh
import Derived.Test.YtakmbbgnnbpkoaaRrRd
import Derived.Test.YtakmbbgnnbpkoaaRrScope
import Derived.Test.YtakmbbgnnbpkoaaRrBase
--ARR
--DEEP
namespace Go.Proofs.Ytakmbbgnnbpkoaa
open Go.Rr Go Gr
set_option linter.unusedVariables false
theorem wvertex_ct {w : World} {g : Nat} {n most v : Int} {s : St} {L : List HProp} (hg : GOk n most s) (H : Holds w (Gh g n most s :: L)) :
    CT Try.prog 84 [.pointer (some ⟨g, 0, none⟩), .int .i64 v] w fun u w' => u = .bool (decide (vxW n v)) ∧ Holds w' (Gh g n most s :: L) := by
  have n1 := hg.n1
  refine CT.enter (N := 13) Try.func84 rfl rfl rfl rfl ?_
  refine W.seq (fun K0 hK0 => ?_)
  refine W.region ?_
  refine O.ex (Ex.assign rfl) rfl ?_
  refine O.nil ?_
  refine hK0 _ _ _ ?_
  refine W.seq (fun K1 hK1 => ?_)
  refine W.region ?_
  refine O.ex (Ex.move rfl) rfl ?_
  refine O.ex (Ex.geq rfl rfl) rfl ?_
  refine O.ex (Ex.move rfl) rfl ?_
  first | refine O.split_p (t := 7) rfl (fun h0 => ?_) (fun h0 => ?_) | refine O.split (t := 7) rfl (fun h0 => ?_) (fun h0 => ?_)
  · refine O.guard_t rfl rfl ?_
    refine O.ex (Ex.move rfl) rfl ?_
    refine O.guard_t rfl rfl ?_
    refine O.ex (Ex.move rfl) rfl ?_
    refine O.guard_t rfl rfl ?_
    refine O.callF Try.call71 rfl rfl (CT.mono (gvertices_ct (n := n) (by omega) (Holds.to (by assumption))) ?_)
    rintro _ w ⟨rfl, H⟩
    refine O.guard_t rfl rfl ?_
    refine O.ex (Ex.lss rfl rfl) rfl ?_
    refine O.ex (Ex.pick_t rfl rfl) rfl ?_
    refine O.ex (Ex.assign rfl) rfl ?_
    refine O.nil ?_
    refine hK1 _ _ _ ?_
    refine W.ret ?_
    try dsimp only [thenQ, blockQ, retQ]
    first | refine ⟨_, ⟨_, _, rfl, rfl, rfl⟩, ?_⟩ | (refine retD_mark ?_; intro w H; refine ⟨_, ⟨_, _, rfl, rfl, rfl⟩, ?_⟩) | (refine retD_mark2 ?_; intro w H; refine ⟨_, ⟨_, _, rfl, rfl, rfl⟩, ?_⟩)
    refine ⟨congrArg Value.bool ?_, Holds.to (by assumption)⟩
    first
    | exact decide_eq_decide.2 ⟨fun h => ⟨h0, h⟩, fun h => h.2⟩
    | exact (decide_eq_false (fun h => h0 h.1)).symm
  · refine O.guard_f rfl rfl rfl rfl ?_
    refine O.guard_f rfl rfl rfl rfl ?_
    refine O.guard_f rfl rfl rfl rfl ?_
    refine O.guard_f rfl rfl rfl rfl ?_
    refine O.ex (Ex.pick_f rfl rfl) rfl ?_
    refine O.ex (Ex.assign rfl) rfl ?_
    refine O.nil ?_
    refine hK1 _ _ _ ?_
    refine W.ret ?_
    try dsimp only [thenQ, blockQ, retQ]
    first | refine ⟨_, ⟨_, _, rfl, rfl, rfl⟩, ?_⟩ | (refine retD_mark ?_; intro w H; refine ⟨_, ⟨_, _, rfl, rfl, rfl⟩, ?_⟩) | (refine retD_mark2 ?_; intro w H; refine ⟨_, ⟨_, _, rfl, rfl, rfl⟩, ?_⟩)
    refine ⟨congrArg Value.bool ?_, Holds.to (by assumption)⟩
    first
    | exact decide_eq_decide.2 ⟨fun h => ⟨h0, h⟩, fun h => h.2⟩
    | exact (decide_eq_false (fun h => h0 h.1)).symm
theorem next_ct {w : World} {g : Nat} {n most v id : Int} {s : St} {L : List HProp} (H : Holds w (Gh g n most s :: L)) :
    CT Try.prog 114 [.pointer (some ⟨g, 0, none⟩), .int .i64 v, .int .i64 id] w fun u w' => u = .tuple #[.int .i64 (nextW s v id).1, .int .i64 (nextW s v id).2] ∧ Holds w' (Gh g n most s :: L) := by
  refine CT.enter (N := 29) Try.func114 rfl rfl rfl rfl ?_
  refine W.seq (fun K0 hK0 => ?_)
  refine W.region ?_
  refine O.ex (Ex.assign rfl) rfl ?_
  refine O.ex (Ex.assign rfl) rfl ?_
  refine O.nil ?_
  refine hK0 _ _ _ ?_
  refine W.seq (fun K1 hK1 => ?_)
  refine W.region ?_
  refine O.ex (Ex.move rfl) rfl ?_
  refine O.ex (Ex.move rfl) rfl ?_
  refine O.callF Try.call73 rfl rfl (CT.mono (garc_ct (id := id) (Holds.to (by assumption))) ?_)
  rintro _ w ⟨rfl, H⟩
  refine O.ex (Ex.move rfl) rfl ?_
  refine O.ex (Ex.extract rfl rfl) rfl ?_
  refine O.ex (Ex.extract rfl rfl) rfl ?_
  refine O.allocP Try.zeroValue31 (fun b8 w H => ?_)
  first | refine O.storeAggP Try.sizeOf31 rfl rfl rfl rfl (fun w H => ?_) | refine O.storeAggN Try.sizeOf31 rfl rfl rfl (fun w H => ?_) rfl
  refine O.ex (Ex.assign rfl) rfl ?_
  refine O.nil ?_
  refine hK1 _ _ _ ?_
  refine W.seq (fun K2 hK2 => ?_)
  refine W.block ?_
  refine W.seq (fun K3 hK3 => ?_)
  refine W.region ?_
  refine O.ex (Ex.move rfl) rfl ?_
  refine O.ex (by first | exact Ex.notD rfl | exact Ex.not rfl) rfl ?_
  refine O.ex (Ex.assign rfl) rfl ?_
  refine O.nil ?_
  refine hK3 _ _ _ ?_
  first | refine W.cond_p rfl (fun h1 => ?_) (fun h1 => ?_) | refine W.cond_b rfl (fun h1 => ?_) (fun h1 => ?_)
  · refine W.seq (fun K4 hK4 => ?_)
    refine W.region ?_
    refine O.ex (Ex.assign rfl) rfl ?_
    refine O.ex (Ex.assign rfl) rfl ?_
    refine O.nil ?_
    refine hK4 _ _ _ ?_
    refine W.ret ?_
    try dsimp only [thenQ, blockQ, retQ]
    first | refine ⟨_, ⟨_, _, rfl, rfl, _, _, rfl, rfl, rfl⟩, ?_⟩ | (refine retD_mark ?_; intro w H; refine ⟨_, ⟨_, _, rfl, rfl, _, _, rfl, rfl, rfl⟩, ?_⟩) | (refine retD_mark2 ?_; intro w H; refine ⟨_, ⟨_, _, rfl, rfl, _, _, rfl, rfl, rfl⟩, ?_⟩)
    refine ⟨?_, Holds.to (by assumption)⟩
    unfold nextW
    first
    | (rw [if_pos (by simpa using h1)]; rfl)
    | (rw [if_neg (by simpa using h1), if_pos h2]; rfl)
    | (rw [if_neg (by simpa using h1), if_neg (by simpa using h2), if_pos h3]; rfl)
    | (rw [if_neg (by simpa using h1), if_neg (by simpa using h2), if_neg h3]; rfl)
  · refine W.seq (fun K5 hK5 => ?_)
    refine W.region ?_
    refine O.ex (by first | exact Ex.field0 fld31_3 rfl | exact Ex.field fld31_3 rfl | exact Ex.fieldS fld31_3 rfl) rfl ?_
    refine O.ex (by first | exact Ex.loadMh Try.isAgg4 rfl | exact Ex.loadP Try.isAgg4 rfl | exact Ex.loadM Try.isAgg4 rfl | exact Ex.loadIn1 Try.isAgg4 rfl (Holds.to (by assumption)) | exact Ex.loadVc Try.isAgg4 rfl | exact Ex.loadR Try.isAgg4 rfl | exact Ex.loadQ Try.isAgg4 rfl) rfl ?_
    refine O.ex (Ex.assign rfl) rfl ?_
    refine O.nil ?_
    refine hK5 _ _ _ ?_
    first | refine W.cond_p rfl (fun h2 => ?_) (fun h2 => ?_) | refine W.cond_b rfl (fun h2 => ?_) (fun h2 => ?_)
    · refine W.seq (fun K6 hK6 => ?_)
      refine W.region ?_
      refine O.ex (Ex.assign rfl) rfl ?_
      refine O.ex (Ex.assign rfl) rfl ?_
      refine O.nil ?_
      refine hK6 _ _ _ ?_
      refine W.ret ?_
      try dsimp only [thenQ, blockQ, retQ]
      first | refine ⟨_, ⟨_, _, rfl, rfl, _, _, rfl, rfl, rfl⟩, ?_⟩ | (refine retD_mark ?_; intro w H; refine ⟨_, ⟨_, _, rfl, rfl, _, _, rfl, rfl, rfl⟩, ?_⟩) | (refine retD_mark2 ?_; intro w H; refine ⟨_, ⟨_, _, rfl, rfl, _, _, rfl, rfl, rfl⟩, ?_⟩)
      refine ⟨?_, Holds.to (by assumption)⟩
      unfold nextW
      first
      | (rw [if_pos (by simpa using h1)]; rfl)
      | (rw [if_neg (by simpa using h1), if_pos h2]; rfl)
      | (rw [if_neg (by simpa using h1), if_neg (by simpa using h2), if_pos h3]; rfl)
      | (rw [if_neg (by simpa using h1), if_neg (by simpa using h2), if_neg h3]; rfl)
    · refine W.seq (fun K7 hK7 => ?_)
      refine W.region ?_
      refine O.ex (by first | exact Ex.field0 fld31_0 rfl | exact Ex.field fld31_0 rfl | exact Ex.fieldS fld31_0 rfl) rfl ?_
      refine O.ex (by first | exact Ex.loadMh Try.isAgg3 rfl | exact Ex.loadP Try.isAgg3 rfl | exact Ex.loadM Try.isAgg3 rfl | exact Ex.loadIn1 Try.isAgg3 rfl (Holds.to (by assumption)) | exact Ex.loadVc Try.isAgg3 rfl | exact Ex.loadR Try.isAgg3 rfl | exact Ex.loadQ Try.isAgg3 rfl) rfl ?_
      refine O.ex (Ex.move rfl) rfl ?_
      refine O.ex (Ex.neqI rfl rfl) rfl ?_
      refine O.ex (Ex.assign rfl) rfl ?_
      refine O.nil ?_
      refine hK7 _ _ _ ?_
      first | refine W.cond_p rfl (fun h3 => ?_) (fun h3 => ?_) | refine W.cond_b rfl (fun h3 => ?_) (fun h3 => ?_)
      · refine W.seq (fun K8 hK8 => ?_)
        refine W.region ?_
        refine O.ex (Ex.assign rfl) rfl ?_
        refine O.ex (Ex.assign rfl) rfl ?_
        refine O.nil ?_
        refine hK8 _ _ _ ?_
        refine W.ret ?_
        try dsimp only [thenQ, blockQ, retQ]
        first | refine ⟨_, ⟨_, _, rfl, rfl, _, _, rfl, rfl, rfl⟩, ?_⟩ | (refine retD_mark ?_; intro w H; refine ⟨_, ⟨_, _, rfl, rfl, _, _, rfl, rfl, rfl⟩, ?_⟩) | (refine retD_mark2 ?_; intro w H; refine ⟨_, ⟨_, _, rfl, rfl, _, _, rfl, rfl, rfl⟩, ?_⟩)
        refine ⟨?_, Holds.to (by assumption)⟩
        unfold nextW
        first
        | (rw [if_pos (by simpa using h1)]; rfl)
        | (rw [if_neg (by simpa using h1), if_pos h2]; rfl)
        | (rw [if_neg (by simpa using h1), if_neg (by simpa using h2), if_pos h3]; rfl)
        | (rw [if_neg (by simpa using h1), if_neg (by simpa using h2), if_neg h3]; rfl)
      · refine W.skip ?_
        refine hK2 _ _ _ ?_
        refine W.seq (fun K9 hK9 => ?_)
        refine W.region ?_
        refine O.ex (by first | exact Ex.field0 fld31_1 rfl | exact Ex.field fld31_1 rfl | exact Ex.fieldS fld31_1 rfl) rfl ?_
        refine O.ex (by first | exact Ex.loadMh Try.isAgg3 rfl | exact Ex.loadP Try.isAgg3 rfl | exact Ex.loadM Try.isAgg3 rfl | exact Ex.loadIn1 Try.isAgg3 rfl (Holds.to (by assumption)) | exact Ex.loadVc Try.isAgg3 rfl | exact Ex.loadR Try.isAgg3 rfl | exact Ex.loadQ Try.isAgg3 rfl) rfl ?_
        refine O.ex (Ex.assign rfl) rfl ?_
        refine O.ex (Ex.assign rfl) rfl ?_
        refine O.nil ?_
        refine hK9 _ _ _ ?_
        refine W.ret ?_
        try dsimp only [thenQ, blockQ, retQ]
        first | refine ⟨_, ⟨_, _, rfl, rfl, _, _, rfl, rfl, rfl⟩, ?_⟩ | (refine retD_mark ?_; intro w H; refine ⟨_, ⟨_, _, rfl, rfl, _, _, rfl, rfl, rfl⟩, ?_⟩) | (refine retD_mark2 ?_; intro w H; refine ⟨_, ⟨_, _, rfl, rfl, _, _, rfl, rfl, rfl⟩, ?_⟩)
        refine ⟨?_, Holds.to (by assumption)⟩
        unfold nextW
        first
        | (rw [if_pos (by simpa using h1)]; rfl)
        | (rw [if_neg (by simpa using h1), if_pos h2]; rfl)
        | (rw [if_neg (by simpa using h1), if_neg (by simpa using h2), if_pos h3]; rfl)
        | (rw [if_neg (by simpa using h1), if_neg (by simpa using h2), if_neg h3]; rfl)
theorem steps_ct {w : World} {g : Nat} {v : Int} {iv : Value} {L : List HProp} (hv : iv.oneCell' = true) (H : Holds w L) :
    CT Try.prog 87 [.pointer (some ⟨g, 0, none⟩), .int .i64 v, iv] w fun u w' => ∃ b3 b4 b5, u = .func (.func 113) #[] #[.pointer (some ⟨b4, 0, none⟩), .pointer (some ⟨b5, 0, none⟩), .pointer (some ⟨b3, 0, none⟩)] ∧ Holds w' (pt b3 (.cells #[.pointer (some ⟨g, 0, none⟩)] 24 (0, 0)) :: pt b4 (.cells #[.int .i64 v] 3 (0, 0)) :: pt b5 (.cells #[iv] 37 (0, 0)) :: L) := by
  refine CT.enter (N := 8) Try.func87 rfl rfl rfl rfl ?_
  refine W.seq (fun K0 hK0 => ?_)
  refine W.region ?_
  refine O.boxP rfl (fun b3 w H => ?_)
  refine O.boxP rfl (fun b4 w H => ?_)
  refine O.boxP rfl (fun b5 w H => ?_)
  rw [cells_one hv] at H
  refine O.ex (Ex.assign rfl) rfl ?_
  refine O.nil ?_
  refine hK0 _ _ _ ?_
  refine W.seq (fun K1 hK1 => ?_)
  refine W.region ?_
  refine O.ex (Ex.makeFunc rfl rfl) rfl ?_
  refine O.ex (Ex.assign rfl) rfl ?_
  refine O.nil ?_
  refine hK1 _ _ _ ?_
  refine W.ret ?_
  try dsimp only [thenQ, blockQ, retQ]
  first | refine ⟨_, ⟨_, _, rfl, rfl, rfl⟩, ?_⟩ | (refine retD_mark ?_; intro w H; refine ⟨_, ⟨_, _, rfl, rfl, rfl⟩, ?_⟩) | (refine retD_mark2 ?_; intro w H; refine ⟨_, ⟨_, _, rfl, rfl, rfl⟩, ?_⟩)
  exact ⟨_, _, _, rfl, Holds.to (by assumption)⟩
def yW (s : St) (v : Int) (xs : List Int) : Nat → Int × Int
  | 0 => (v, 0)
  | i + 1 => nextW s (wrun s v (xs.take i)).2.1 (xs.getD i default)
def outK (s : St) (v : Int) (xs : List Int) : Nat → List Int
  | 0 => []
  | i + 1 => (wrun s v (xs.take i)).1
theorem wstep {s : St} {v : Int} {xs : List Int} {i : Nat} (hi : i < xs.length) : wrun s v (xs.take (i + 1)) = wst s (wrun s v (xs.take i)) (xs.getD i default) := by
  rw [take_getC _ hi, wrun_snoc]
theorem wst_ok {s : St} {b : WS} {id : Int} (h0 : b.2.2 = 0) (h : (nextW s b.2.1 id).2 = 0) : wst s b id = (b.1 ++ [(nextW s b.2.1 id).1], (nextW s b.2.1 id).1, 0) := by
  unfold wst; rw [if_neg (by omega), if_pos h]
theorem wst_bad {s : St} {b : WS} {id : Int} (h0 : b.2.2 = 0) (h : ¬ (nextW s b.2.1 id).2 = 0) : wst s b id = (b.1, b.2.1, (nextW s b.2.1 id).2) := by
  unfold wst; rw [if_neg (by omega), if_neg h]
/-- What the steps tell. -/
theorem steps1_ct {w : World} {g b3 b4 b5 : Nat} {n most v : Int} {s : St} {iv fv : Value} {xs : List Int} {S : HProp} {J SL : Nat → List HProp} (hR : Rd S iv xs) (hl : xs.length ≤ 1000)
    (H : Holds w (Gh g n most s :: S :: pt b3 (.cells #[.pointer (some ⟨g, 0, none⟩)] 24 (0, 0)) :: pt b4 (.cells #[.int .i64 v] 3 (0, 0)) :: pt b5 (.cells #[iv] 37 (0, 0)) :: J 0))
    (hy : ∀ k w, k ≤ xs.length → (∀ i, k = i + 1 → (wrun s v (xs.take i)).2.2 = 0) → Holds w (Gh g n most s :: S :: pt b3 (.cells #[.pointer (some ⟨g, 0, none⟩)] 24 (0, 0)) :: pt b4 (.cells #[.int .i64 v] 3 (0, 0)) :: pt b5 (.cells #[iv] 37 (0, 0)) :: J k) →
      VT Try.prog fv [.int .i64 (yW s v xs k).1, .int .i64 (yW s v xs k).2] w fun u w' => (u = .bool true ∧ (yW s v xs k).2 = 0 ∧ Holds w' (Gh g n most s :: S :: pt b3 (.cells #[.pointer (some ⟨g, 0, none⟩)] 24 (0, 0)) :: pt b4 (.cells #[.int .i64 v] 3 (0, 0)) :: pt b5 (.cells #[iv] 37 (0, 0)) :: J (k + 1))) ∨ (u = .bool false ∧ ¬ (yW s v xs k).2 = 0 ∧ Holds w' (SL k))) :
    CT Try.prog 113 [fv, .pointer (some ⟨b4, 0, none⟩), .pointer (some ⟨b5, 0, none⟩), .pointer (some ⟨b3, 0, none⟩)] w fun _ w' =>
      ((wrun s v xs).2.2 = 0 ∧ Holds w' (Gh g n most s :: S :: pt b3 (.cells #[.pointer (some ⟨g, 0, none⟩)] 24 (0, 0)) :: pt b4 (.cells #[.int .i64 v] 3 (0, 0)) :: pt b5 (.cells #[iv] 37 (0, 0)) :: J (xs.length + 1))) ∨ ∃ i, (i < xs.length ∧ (wrun s v (xs.take i)).2.2 = 0 ∧ ¬ (yW s v xs (i + 1)).2 = 0) ∧ Holds w' (SL (i + 1)) := by
  obtain ⟨a, cap, rfl⟩ := hR.form H.swap
  refine CT.enter (N := 39) Try.func113 rfl rfl rfl rfl ?_
  refine W.seq (fun K0 hK0 => ?_)
  refine W.seq (fun K1 hK1 => ?_)
  refine W.region ?_
  refine O.ex (Ex.move rfl) rfl ?_
  refine O.ex (by first | exact Ex.loadP Try.isAgg3 rfl | exact Ex.loadQ Try.isAgg3 rfl | exact Ex.loadMh Try.isAgg3 rfl | exact Ex.loadR Try.isAgg3 rfl | exact Ex.loadIn1 Try.isAgg3 rfl (Holds.to (by assumption)) | exact Ex.loadM Try.isAgg3 rfl | exact Ex.loadVc Try.isAgg3 rfl) rfl ?_
  refine O.callVT rfl rfl rfl (VT.mono (hy 0 w (by omega) (fun i hi => by omega) (Holds.to (by assumption))) ?_)
  rintro _ w hh
  obtain ⟨rfl, -, H⟩ : _ = Value.bool true ∧ True ∧ Holds w (Gh g n most s :: S :: pt b3 (.cells #[.pointer (some ⟨g, 0, none⟩)] 24 (0, 0)) :: pt b4 (.cells #[.int .i64 v] 3 (0, 0)) :: pt b5 (.cells #[.slice a xs.length cap] 37 (0, 0)) :: J 1) := by
    rcases hh with ⟨h1, -, h3⟩ | ⟨-, h2, -⟩
    · exact ⟨h1, trivial, h3⟩
    · exact absurd rfl h2
  refine O.ex (by first | exact Ex.notD rfl | exact Ex.not rfl) rfl ?_
  refine O.nil ?_
  refine hK1 _ _ _ ?_
  refine W.known_f rfl (by first | rfl | exact decide_eq_false (fun hh => hh hz)) ?_
  refine W.skip ?_
  refine hK0 _ _ _ ?_
  refine W.seq (fun K2 hK2 => ?_)
  refine W.region ?_
  refine O.ex (by first | exact Ex.loadP Try.isAgg3 rfl | exact Ex.loadQ Try.isAgg3 rfl | exact Ex.loadMh Try.isAgg3 rfl | exact Ex.loadR Try.isAgg3 rfl | exact Ex.loadIn1 Try.isAgg3 rfl (Holds.to (by assumption)) | exact Ex.loadM Try.isAgg3 rfl | exact Ex.loadVc Try.isAgg3 rfl) rfl ?_
  refine O.ex (Ex.assign rfl) rfl ?_
  refine O.nil ?_
  refine hK2 _ _ _ ?_
  refine W.seq (fun K3 hK3 => ?_)
  refine W.region ?_
  refine O.ex (by first | exact Ex.loadP Try.isAgg37 rfl | exact Ex.loadQ Try.isAgg37 rfl | exact Ex.loadMh Try.isAgg37 rfl | exact Ex.loadR Try.isAgg37 rfl | exact Ex.loadIn1 Try.isAgg37 rfl (Holds.to (by assumption)) | exact Ex.loadM Try.isAgg37 rfl | exact Ex.loadVc Try.isAgg37 rfl) rfl ?_
  refine O.ex (by first | exact Ex.lenR Try.runUnderlying37 rfl | exact Ex.lenIn Try.runUnderlying37 rfl | exact Ex.lenL Try.runUnderlying37 rfl | exact Ex.len rfl Try.runUnderlying37 rfl) rfl ?_
  refine O.ex (Ex.move rfl) rfl ?_
  refine O.nil ?_
  refine hK3 _ _ _ ?_
  refine W.block ?_
  refine W.loop (σ := Nat) (fun i => [(0, fv), (3, .pointer (some ⟨b3, 0, none⟩)), (5, .int .i64 (wrun s v (xs.take i)).2.1), (15, .slice a xs.length cap), (16, .int .i64 (xs.length : Int)), (17, .int .i64 (i : Int))]) (fun i ds w => ds = [] ∧ i ≤ xs.length ∧ (wrun s v (xs.take i)).2.2 = 0 ∧ Holds w (Gh g n most s :: S :: pt b3 (.cells #[.pointer (some ⟨g, 0, none⟩)] 24 (0, 0)) :: pt b4 (.cells #[.int .i64 v] 3 (0, 0)) :: pt b5 (.cells #[.slice a xs.length cap] 37 (0, 0)) :: J (i + 1))) (fun i => xs.length - i) 0 ⟨rfl, rfl, rfl, rfl, rfl, rfl, trivial⟩ ⟨rfl, by omega, rfl, Holds.to (by assumption)⟩ ?_
  clear H
  rintro i _ w ⟨rfl, hi, hc, H⟩
  refine W.seq (fun K4 hK4 => ?_)
  refine W.region ?_
  refine O.ex (Ex.lss rfl rfl) rfl ?_
  refine O.nil ?_
  refine hK4 _ _ _ ?_
  refine W.seq (fun K5 hK5 => ?_)
  first | refine W.cond_p rfl (fun hlt => ?_) (fun hge => ?_) | refine W.cond_b rfl (fun hlt => ?_) (fun hge => ?_)
  · refine W.skip ?_
    refine hK5 _ _ _ ?_
    refine W.seq (fun K6 hK6 => ?_)
    refine W.block ?_
    refine W.seq (fun K7 hK7 => ?_)
    refine W.region ?_
    have hil : i < xs.length := by omega
    refine O.ex (Ex.idxRd hR Try.runUnderlying37 Try.sizeOf3 rfl rfl) rfl ?_
    refine O.ex (Ex.loadRd (i := i) hR Try.isAgg3 rfl) rfl ?_
    refine O.ex (Ex.assign rfl) rfl ?_
    refine O.nil ?_
    refine hK7 _ _ _ ?_
    refine W.seq (fun K8 hK8 => ?_)
    refine W.region ?_
    refine O.ex (by first | exact Ex.loadP Try.isAgg24 rfl | exact Ex.loadQ Try.isAgg24 rfl | exact Ex.loadMh Try.isAgg24 rfl | exact Ex.loadR Try.isAgg24 rfl | exact Ex.loadIn1 Try.isAgg24 rfl (Holds.to (by assumption)) | exact Ex.loadM Try.isAgg24 rfl | exact Ex.loadVc Try.isAgg24 rfl) rfl ?_
    refine O.ex (Ex.move rfl) rfl ?_
    refine O.ex (Ex.move rfl) rfl ?_
    refine O.callF Try.call114 rfl rfl (CT.mono (next_ct (n := n) (most := most) (id := xs.getD i default) (Holds.to (by assumption))) ?_)
    rintro _ w ⟨rfl, H⟩
    refine O.ex (Ex.move rfl) rfl ?_
    refine O.ex (Ex.extract rfl rfl) rfl ?_
    refine O.ex (Ex.extract rfl rfl) rfl ?_
    refine O.ex (Ex.assign rfl) rfl ?_
    refine O.ex (Ex.assign rfl) rfl ?_
    refine O.nil ?_
    refine hK8 _ _ _ ?_
    refine W.seq (fun K9 hK9 => ?_)
    refine W.seq (fun K10 hK10 => ?_)
    refine W.region ?_
    have hcj : ∀ j, i + 1 = j + 1 → (wrun s v (xs.take j)).2.2 = 0 := fun j hj => by rw [← Nat.succ.inj hj]; exact hc
    refine O.ex (Ex.move rfl) rfl ?_
    refine O.ex (Ex.move rfl) rfl ?_
    refine O.ex (Ex.move rfl) rfl ?_
    refine O.callVT rfl rfl rfl (VT.mono (hy (i + 1) w (by omega) hcj (Holds.to (by assumption))) ?_)
    rintro _ w hh
    obtain (⟨rfl, hz, H⟩ | ⟨rfl, hz, H⟩) := hh
    · refine O.ex (by first | exact Ex.notD rfl | exact Ex.not rfl) rfl ?_
      refine O.ex (Ex.move rfl) rfl ?_
      refine O.known (t := 33) (c := false) rfl (by first | rfl | exact decide_eq_false (fun hh => hh hz)) ?_
      refine O.guard_t rfl rfl ?_
      refine O.ex (Ex.move rfl) rfl ?_
      refine O.guard_t rfl rfl ?_
      refine O.ex (Ex.neqI rfl rfl) rfl ?_
      refine O.ex (Ex.pick_f rfl rfl) rfl ?_
      refine O.nil ?_
      refine hK10 _ _ _ ?_
      refine W.known_f rfl (by first | rfl | exact decide_eq_false (fun hh => hh hz)) ?_
      refine W.skip ?_
      refine hK9 _ _ _ ?_
      refine W.region ?_
      refine O.ex (Ex.move rfl) rfl ?_
      refine O.ex (Ex.assign rfl) rfl ?_
      refine O.nil ?_
      refine hK6 _ _ _ ?_
      refine W.region ?_
      refine O.ex (by first | exact Ex.addI rfl rfl | exact Ex.add rfl rfl rfl) rfl ?_
      refine O.ex (Ex.move rfl) rfl ?_
      refine O.nil ?_
      have hz' : (nextW s (wrun s v (xs.take i)).2.1 (xs.getD i default)).2 = 0 := hz
      have esu := (wstep (s := s) (v := v) hil).trans (wst_ok hc hz')
      exact ⟨i + 1, ⟨rfl, rfl, by rw [esu]; rfl, rfl, rfl, rfl, trivial⟩, ⟨rfl, by omega, by rw [esu], Holds.to (by assumption)⟩, by omega⟩
    · refine O.ex (by first | exact Ex.notD rfl | exact Ex.not rfl) rfl ?_
      refine O.ex (Ex.move rfl) rfl ?_
      refine O.known (t := 33) (c := true) rfl (by first | rfl | exact decide_eq_false (fun hh => hh hz)) ?_
      refine O.guard_f rfl rfl rfl rfl ?_
      refine O.guard_f rfl rfl rfl rfl ?_
      refine O.ex (Ex.pick_t rfl rfl) rfl ?_
      refine O.nil ?_
      refine hK10 _ _ _ ?_
      refine W.cond_t rfl ?_
      refine W.ret ?_
      try dsimp only [thenQ, blockQ, retQ]
      first | refine ⟨_, rfl, ?_⟩ | (refine retD_mark ?_; intro w H; refine ⟨_, rfl, ?_⟩) | (refine retD_mark2 ?_; intro w H; refine ⟨_, rfl, ?_⟩)
      first
      | exact .inr ⟨i, ⟨hil, hc, hz⟩, H⟩
      | (obtain rfl : i = xs.length := by omega
         rw [List.take_length] at hc
         exact .inl ⟨hc, Holds.to (by assumption)⟩)
  · refine W.exit ?_
    try dsimp only [thenQ, blockQ, retQ]
    first | refine ⟨_, rfl, ?_⟩ | (refine retD_mark ?_; intro w H; refine ⟨_, rfl, ?_⟩) | (refine retD_mark2 ?_; intro w H; refine ⟨_, rfl, ?_⟩)
    first
    | exact .inr ⟨i, ⟨hil, hc, hz⟩, H⟩
    | (obtain rfl : i = xs.length := by omega
       rw [List.take_length] at hc
       exact .inl ⟨hc, Holds.to (by assumption)⟩)
set_option maxHeartbeats 1000000 in
theorem wvisits_ct {w : World} {g : Nat} {n most v : Int} {s : St} {iv : Value} {xs : List Int} {S : HProp} {L : List HProp} (hg : GOk n most s) (hR : Rd S iv xs) (hl : xs.length ≤ 200) (H : Holds w (Gh g n most s :: S :: L)) :
    CT Try.prog 44 [.pointer (some ⟨g, 0, none⟩), .int .i64 v, iv] w fun u w' => ∃ x, u = .tuple #[x, .int .i64 (vcode n s v xs)] ∧ x.oneCell' = true ∧ Holds w' (arr 3 (Value.int .i64) x (vlist n s v xs) :: Gh g n most s :: S :: L) := by
  obtain ⟨a, cap, rfl⟩ := hR.form H.swap
  refine CT.enter (N := 33) Try.func44 rfl rfl rfl rfl ?_
  refine W.seq (fun K0 hK0 => ?_)
  refine W.region ?_
  refine O.ex (Ex.assign rfl) rfl ?_
  refine O.ex (Ex.assign rfl) rfl ?_
  refine O.nil ?_
  refine hK0 _ _ _ ?_
  refine W.scope ?_
  refine W.seq (fun K1 hK1 => ?_)
  refine W.seq (fun K2 hK2 => ?_)
  refine W.region ?_
  refine O.ex (Ex.move rfl) rfl ?_
  refine O.ex (Ex.move rfl) rfl ?_
  refine O.callF Try.call84 rfl rfl (CT.mono (wvertex_ct hg (Holds.to (by assumption))) ?_)
  rintro _ w ⟨rfl, H⟩
  refine O.ex (by first | exact Ex.notD rfl | exact Ex.not rfl) rfl ?_
  refine O.nil ?_
  refine hK2 _ _ _ ?_
  first | refine W.cond_p rfl (fun hno => ?_) (fun hyes => ?_) | refine W.cond_b rfl (fun hno => ?_) (fun hyes => ?_)
  · refine W.seq (fun K3 hK3 => ?_)
    refine W.region ?_
    refine O.ex (Ex.assign rfl) rfl ?_
    refine O.ex (Ex.assign rfl) rfl ?_
    refine O.nil ?_
    refine hK3 _ _ _ ?_
    refine W.ret ?_
    try dsimp only [scopeQ, thenQ, blockQ, retQ]
    first | refine ⟨_, ⟨_, _, rfl, rfl, _, _, rfl, rfl, rfl⟩, ?_⟩ | (refine retD_mark ?_; intro w H; refine ⟨_, ⟨_, _, rfl, rfl, _, _, rfl, rfl, rfl⟩, ?_⟩) | (refine retD_mark2 ?_; intro w H; refine ⟨_, ⟨_, _, rfl, rfl, _, _, rfl, rfl, rfl⟩, ?_⟩)
    first
    | exact absurd rfl hbad
    | exact absurd hz hok
    | (have e1 : vcode n s v xs = 1 := if_pos hno
       have e2 : vlist n s v xs = [] := if_neg (by rw [e1]; decide)
       rw [e1, e2]
       exact ⟨_, rfl, rfl, arr_nil (Holds.to (by assumption))⟩)
    | (have e1 : vcode n s v xs = 0 := (if_neg hyes).trans hz
       have e2 := vlist_ok e1
       have e3 : outK s v xs (xs.length + 1) = (wrun s v xs).1 := by show (wrun s v (xs.take xs.length)).1 = _; rw [List.take_length]
       rw [e1, e2]
       rw [e3] at H
       exact ⟨_, rfl, arr_one (Holds.to (M := arr 3 (Value.int .i64) va (wrun s v xs).1 :: []) (by assumption)), Holds.to (by assumption)⟩)
    | (have ew := (wstep (s := s) (v := v) hi).trans (wst_bad hc hz)
       have es := wrun_stuck (s := s) (v := v) (i + 1) (by rw [ew]; exact hz)
       have e1 : vcode n s v xs = (yW s v xs (i + 1)).2 := (if_neg hyes).trans (by rw [es, ew]; rfl)
       have e2 : vlist n s v xs = [] := if_neg (by rw [e1]; exact hz)
       rw [e1, e2]
       exact ⟨_, rfl, rfl, arr_nil (Holds.to (by assumption))⟩)
  · refine W.skip ?_
    refine hK1 _ _ _ ?_
    refine W.seq (fun K4 hK4 => ?_)
    refine W.region ?_
    refine O.allocP Try.zeroValue37 (fun b8 w H => ?_)
    refine O.nil ?_
    refine hK4 _ _ _ ?_
    refine W.seq (fun K5 hK5 => ?_)
    refine W.region ?_
    refine O.allocP Try.zeroValue40 (fun b9 w H => ?_)
    first | refine O.storeP Try.sizeOf40 rfl rfl (fun w H => ?_) | refine O.storeR Try.sizeOf40 rfl rfl (fun w H => ?_) | refine O.storeM Try.sizeOf40 rfl rfl (fun w H => ?_) | refine O.storeVc Try.sizeOf40 rfl rfl (fun w H => ?_) | refine O.storeQ Try.sizeOf40 rfl rfl (fun w H => ?_)
    refine O.nil ?_
    refine hK5 _ _ _ ?_
    refine W.seq (fun K6 hK6 => ?_)
    refine W.label ?_
    refine hK6 _ _ _ ?_
    refine W.seq (fun K7 hK7 => ?_)
    refine W.seq (fun K8 hK8 => ?_)
    refine W.region ?_
    refine O.ex (Ex.move rfl) rfl ?_
    refine O.ex (Ex.move rfl) rfl ?_
    refine O.ex (Ex.move rfl) rfl ?_
    refine O.callF Try.call87 rfl rfl (CT.mono (steps_ct rfl (Holds.to (by assumption))) ?_)
    rintro _ w ⟨b3, b4, b5, rfl, H⟩
    refine O.nil ?_
    refine hK8 _ _ _ ?_
    refine W.block ?_
    have H := arr_nil (T := 3) (e := Value.int .i64) H
    have H : Holds w (slV b8 37 3 (Value.int .i64) (outK s v xs 0) :: pt b9 (.cells #[.int .i64 0] 40 (0, 0)) :: Gh g n most s :: S :: pt b3 (.cells #[.pointer (some ⟨g, 0, none⟩)] 24 (0, 0)) :: pt b4 (.cells #[.int .i64 v] 3 (0, 0)) :: pt b5 (.cells #[.slice a xs.length cap] 37 (0, 0)) :: L) := slV_open.2 ⟨_, Holds.to (by assumption)⟩
    refine W.rangeFunc rfl Try.call113 H ?_
    rintro LR kk D w hLR H
    refine CT.mono (steps1_ct (J := fun k => LR .ready none :: dblk D :: slV b8 37 3 (Value.int .i64) (outK s v xs k) :: pt b9 (.cells #[.int .i64 0] 40 (0, 0)) :: L) (SL := fun k => LR .done (some (.exit 0)) :: dblk D :: slV b8 37 3 (Value.int .i64) (outK s v xs k) :: pt b9 (.cells #[.int .i64 (yW s v xs k).2] 40 (0, 0)) :: Gh g n most s :: S :: L) hR (by omega) (Holds.to (by assumption)) ?_) ?_
    · intro k w hk hck H
      obtain ⟨va, H⟩ := slV_open.1 (Holds.to (by assumption))
      have htl : (outK s v xs k).length ≤ 200 := by
        cases k with
        | zero => exact Nat.zero_le _
        | succ i =>
          have := (wrun_good hg (v := v) (l := xs) i (by omega) (hck i rfl)).len
          show (wrun s v (xs.take i)).1.length ≤ 200
          omega
      refine VT.round hLR (Holds.to (by assumption)) rfl rfl ?_
      refine W.seq (fun K9 hK9 => ?_)
      refine W.region ?_
      refine O.ex (Ex.assign rfl) rfl ?_
      refine O.nil ?_
      refine hK9 _ _ _ ?_
      refine W.region ?_
      refine O.ex (Ex.assign rfl) rfl ?_
      refine O.nil ?_
      refine ⟨_, Holds.to (by assumption), fun w H => ?_⟩
      refine W.block ?_
      refine W.seq (fun K10 hK10 => ?_)
      refine W.seq (fun K11 hK11 => ?_)
      refine W.region ?_
      refine O.ex (Ex.move rfl) rfl ?_
      first | refine O.storeP Try.sizeOf40 rfl rfl (fun w H => ?_) | refine O.storeR Try.sizeOf40 rfl rfl (fun w H => ?_) | refine O.storeM Try.sizeOf40 rfl rfl (fun w H => ?_) | refine O.storeVc Try.sizeOf40 rfl rfl (fun w H => ?_) | refine O.storeQ Try.sizeOf40 rfl rfl (fun w H => ?_)
      refine O.nil ?_
      refine hK11 _ _ _ ?_
      refine W.seq (fun K12 hK12 => ?_)
      refine W.region ?_
      refine O.ex (Ex.move rfl) rfl ?_
      refine O.ex (Ex.neqI rfl rfl) rfl ?_
      refine O.nil ?_
      refine hK12 _ _ _ ?_
      first | refine W.cond_p rfl (fun hbad => ?_) (fun hok => ?_) | refine W.cond_b rfl (fun hbad => ?_) (fun hok => ?_)
      · refine W.exit ?_
        have H := (slV_open (b := b8) (TS := 37) (T := 3) (e := Value.int .i64) (xs := outK s v xs k)).2 ⟨_, Holds.to (by assumption)⟩
        exact ⟨_, Holds.to (by assumption), fun w H => .inr ⟨rfl, hbad, Holds.to (by assumption)⟩⟩
      · refine W.skip ?_
        refine hK10 _ _ _ ?_
        refine W.region ?_
        refine O.ex (by first | exact Ex.loadP Try.isAgg37 rfl | exact Ex.loadQ Try.isAgg37 rfl | exact Ex.loadMh Try.isAgg37 rfl | exact Ex.loadR Try.isAgg37 rfl | exact Ex.loadIn1 Try.isAgg37 rfl (Holds.to (by assumption)) | exact Ex.loadM Try.isAgg37 rfl | exact Ex.loadVc Try.isAgg37 rfl) rfl ?_
        refine O.ex (Ex.move rfl) rfl ?_
        refine O.build1 (e := Value.int .i64) Try.runUnderlying37 Try.sizeOf3 Try.zeroValue3 rfl (fun v27 w hv27 H => ?_)
        refine O.appendR Try.runUnderlying37 Try.typeInfo3 (bt := 8) rfl Try.sizeOf3 Try.zeroValue3 rfl rfl (fun v28 w hv28 H => ?_)
        first | refine O.storeP Try.sizeOf37 rfl rfl (fun w H => ?_) | refine O.storeR Try.sizeOf37 rfl rfl (fun w H => ?_) | refine O.storeM Try.sizeOf37 rfl rfl (fun w H => ?_) | refine O.storeVc Try.sizeOf37 rfl rfl (fun w H => ?_) | refine O.storeQ Try.sizeOf37 rfl rfl (fun w H => ?_)
        refine O.nil ?_
        have hz := Decidable.not_not.1 hok
        have e : outK s v xs k ++ [(yW s v xs k).1] = outK s v xs (k + 1) := by
          cases k with
          | zero => rfl
          | succ i =>
            show (wrun s v (xs.take i)).1 ++ [(nextW s (wrun s v (xs.take i)).2.1 (xs.getD i default)).1] = (wrun s v (xs.take (i + 1))).1
            rw [wstep (by omega), wst_ok (hck i rfl) hz]
        rw [e, hz] at H
        have H := (slV_open (b := b8) (TS := 37) (T := 3) (e := Value.int .i64) (xs := outK s v xs (k + 1))).2 ⟨_, Holds.to (by assumption)⟩
        exact ⟨_, Holds.to (by assumption), fun w H => .inl ⟨rfl, hz, Holds.to (by assumption)⟩⟩
    rintro _ w (⟨hz, H⟩ | ⟨i, ⟨hi, hc, hz⟩, H⟩)
    all_goals refine rangeEnd (Holds.to (by assumption)) (by nofun) (fun w H => ?_)
    all_goals obtain ⟨va, H⟩ := slV_open.1 (Holds.to (by assumption))
    all_goals try dsimp only [behind]
    · skip
      refine hK7 _ _ _ ?_
      refine W.seq (fun K13 hK13 => ?_)
      refine W.seq (fun K14 hK14 => ?_)
      refine W.region ?_
      refine O.ex (by first | exact Ex.loadP Try.isAgg40 rfl | exact Ex.loadQ Try.isAgg40 rfl | exact Ex.loadMh Try.isAgg40 rfl | exact Ex.loadR Try.isAgg40 rfl | exact Ex.loadIn1 Try.isAgg40 rfl (Holds.to (by assumption)) | exact Ex.loadM Try.isAgg40 rfl | exact Ex.loadVc Try.isAgg40 rfl) rfl ?_
      refine O.ex (Ex.neqI rfl rfl) rfl ?_
      refine O.nil ?_
      refine hK14 _ _ _ ?_
      first | refine W.cond_p rfl (fun hbad => ?_) (fun hok => ?_) | refine W.cond_b rfl (fun hbad => ?_) (fun hok => ?_)
      · refine W.seq (fun K15 hK15 => ?_)
        refine W.drawTo _ (.take 0 (.take 1 (.take 2 .nil))) (mixed) (fun _ _ _ _ h => h) (by assumption) (PP.refl _) (by decide +kernel) (fun w H => ?_)
        refine OQ.ex rfl (fun w H => (by first | exact Ex.loadP Try.isAgg40 rfl | exact Ex.loadQ Try.isAgg40 rfl | exact Ex.loadMh Try.isAgg40 rfl | exact Ex.loadR Try.isAgg40 rfl | exact Ex.loadIn1 Try.isAgg40 rfl (Holds.to (by assumption)) | exact Ex.loadM Try.isAgg40 rfl | exact Ex.loadVc Try.isAgg40 rfl)) rfl ?_
        refine OQ.ex rfl (fun w H => (Ex.assign rfl)) rfl ?_
        refine OQ.ex rfl (fun w H => (Ex.assign rfl)) rfl ?_
        refine OQ.done ?_
        refine hK15 _ _ _ ?_
        refine W.ret ?_
        try dsimp only [scopeQ, thenQ, blockQ, retQ]
        first | refine ⟨_, ⟨_, _, rfl, rfl, _, _, rfl, rfl, rfl⟩, ?_⟩ | (refine retD_mark ?_; intro w H; refine ⟨_, ⟨_, _, rfl, rfl, _, _, rfl, rfl, rfl⟩, ?_⟩) | (refine retD_mark2 ?_; intro w H; refine ⟨_, ⟨_, _, rfl, rfl, _, _, rfl, rfl, rfl⟩, ?_⟩)
        first
        | exact absurd rfl hbad
        | exact absurd hz hok
        | (have e1 : vcode n s v xs = 1 := if_pos hno
           have e2 : vlist n s v xs = [] := if_neg (by rw [e1]; decide)
           rw [e1, e2]
           exact ⟨_, rfl, rfl, arr_nil (Holds.to (by assumption))⟩)
        | (have e1 : vcode n s v xs = 0 := (if_neg hyes).trans hz
           have e2 := vlist_ok e1
           have e3 : outK s v xs (xs.length + 1) = (wrun s v xs).1 := by show (wrun s v (xs.take xs.length)).1 = _; rw [List.take_length]
           rw [e1, e2]
           rw [e3] at H
           exact ⟨_, rfl, arr_one (Holds.to (M := arr 3 (Value.int .i64) va (wrun s v xs).1 :: []) (by assumption)), Holds.to (by assumption)⟩)
        | (have ew := (wstep (s := s) (v := v) hi).trans (wst_bad hc hz)
           have es := wrun_stuck (s := s) (v := v) (i + 1) (by rw [ew]; exact hz)
           have e1 : vcode n s v xs = (yW s v xs (i + 1)).2 := (if_neg hyes).trans (by rw [es, ew]; rfl)
           have e2 : vlist n s v xs = [] := if_neg (by rw [e1]; exact hz)
           rw [e1, e2]
           exact ⟨_, rfl, rfl, arr_nil (Holds.to (by assumption))⟩)
      · refine W.skip ?_
        refine hK13 _ _ _ ?_
        refine W.seq (fun K16 hK16 => ?_)
        refine W.region ?_
        refine O.ex (by first | exact Ex.loadP Try.isAgg37 rfl | exact Ex.loadQ Try.isAgg37 rfl | exact Ex.loadMh Try.isAgg37 rfl | exact Ex.loadR Try.isAgg37 rfl | exact Ex.loadIn1 Try.isAgg37 rfl (Holds.to (by assumption)) | exact Ex.loadM Try.isAgg37 rfl | exact Ex.loadVc Try.isAgg37 rfl) rfl ?_
        refine O.ex (Ex.assign rfl) rfl ?_
        refine O.ex (Ex.assign rfl) rfl ?_
        refine O.nil ?_
        refine hK16 _ _ _ ?_
        refine W.ret ?_
        try dsimp only [scopeQ, thenQ, blockQ, retQ]
        first | refine ⟨_, ⟨_, _, rfl, rfl, _, _, rfl, rfl, rfl⟩, ?_⟩ | (refine retD_mark ?_; intro w H; refine ⟨_, ⟨_, _, rfl, rfl, _, _, rfl, rfl, rfl⟩, ?_⟩) | (refine retD_mark2 ?_; intro w H; refine ⟨_, ⟨_, _, rfl, rfl, _, _, rfl, rfl, rfl⟩, ?_⟩)
        first
        | exact absurd rfl hbad
        | exact absurd hz hok
        | (have e1 : vcode n s v xs = 1 := if_pos hno
           have e2 : vlist n s v xs = [] := if_neg (by rw [e1]; decide)
           rw [e1, e2]
           exact ⟨_, rfl, rfl, arr_nil (Holds.to (by assumption))⟩)
        | (have e1 : vcode n s v xs = 0 := (if_neg hyes).trans hz
           have e2 := vlist_ok e1
           have e3 : outK s v xs (xs.length + 1) = (wrun s v xs).1 := by show (wrun s v (xs.take xs.length)).1 = _; rw [List.take_length]
           rw [e1, e2]
           rw [e3] at H
           exact ⟨_, rfl, arr_one (Holds.to (M := arr 3 (Value.int .i64) va (wrun s v xs).1 :: []) (by assumption)), Holds.to (by assumption)⟩)
        | (have ew := (wstep (s := s) (v := v) hi).trans (wst_bad hc hz)
           have es := wrun_stuck (s := s) (v := v) (i + 1) (by rw [ew]; exact hz)
           have e1 : vcode n s v xs = (yW s v xs (i + 1)).2 := (if_neg hyes).trans (by rw [es, ew]; rfl)
           have e2 : vlist n s v xs = [] := if_neg (by rw [e1]; exact hz)
           rw [e1, e2]
           exact ⟨_, rfl, rfl, arr_nil (Holds.to (by assumption))⟩)
    · skip
      refine W.exit ?_
      refine hK7 _ _ _ ?_
      refine W.seq (fun K17 hK17 => ?_)
      refine W.seq (fun K18 hK18 => ?_)
      refine W.region ?_
      refine O.ex (by first | exact Ex.loadP Try.isAgg40 rfl | exact Ex.loadQ Try.isAgg40 rfl | exact Ex.loadMh Try.isAgg40 rfl | exact Ex.loadR Try.isAgg40 rfl | exact Ex.loadIn1 Try.isAgg40 rfl (Holds.to (by assumption)) | exact Ex.loadM Try.isAgg40 rfl | exact Ex.loadVc Try.isAgg40 rfl) rfl ?_
      refine O.ex (Ex.neqI rfl rfl) rfl ?_
      refine O.nil ?_
      refine hK18 _ _ _ ?_
      first | refine W.cond_p rfl (fun hbad => ?_) (fun hok => ?_) | refine W.cond_b rfl (fun hbad => ?_) (fun hok => ?_)
      · refine W.seq (fun K19 hK19 => ?_)
        refine W.drawTo _ (.take 0 (.take 1 (.take 2 .nil))) (mixed) (fun _ _ _ _ h => h) (by assumption) (PP.refl _) (by decide +kernel) (fun w H => ?_)
        refine OQ.ex rfl (fun w H => (by first | exact Ex.loadP Try.isAgg40 rfl | exact Ex.loadQ Try.isAgg40 rfl | exact Ex.loadMh Try.isAgg40 rfl | exact Ex.loadR Try.isAgg40 rfl | exact Ex.loadIn1 Try.isAgg40 rfl (Holds.to (by assumption)) | exact Ex.loadM Try.isAgg40 rfl | exact Ex.loadVc Try.isAgg40 rfl)) rfl ?_
        refine OQ.ex rfl (fun w H => (Ex.assign rfl)) rfl ?_
        refine OQ.ex rfl (fun w H => (Ex.assign rfl)) rfl ?_
        refine OQ.done ?_
        refine hK19 _ _ _ ?_
        refine W.ret ?_
        try dsimp only [scopeQ, thenQ, blockQ, retQ]
        first | refine ⟨_, ⟨_, _, rfl, rfl, _, _, rfl, rfl, rfl⟩, ?_⟩ | (refine retD_mark ?_; intro w H; refine ⟨_, ⟨_, _, rfl, rfl, _, _, rfl, rfl, rfl⟩, ?_⟩) | (refine retD_mark2 ?_; intro w H; refine ⟨_, ⟨_, _, rfl, rfl, _, _, rfl, rfl, rfl⟩, ?_⟩)
        first
        | exact absurd rfl hbad
        | exact absurd hz hok
        | (have e1 : vcode n s v xs = 1 := if_pos hno
           have e2 : vlist n s v xs = [] := if_neg (by rw [e1]; decide)
           rw [e1, e2]
           exact ⟨_, rfl, rfl, arr_nil (Holds.to (by assumption))⟩)
        | (have e1 : vcode n s v xs = 0 := (if_neg hyes).trans hz
           have e2 := vlist_ok e1
           have e3 : outK s v xs (xs.length + 1) = (wrun s v xs).1 := by show (wrun s v (xs.take xs.length)).1 = _; rw [List.take_length]
           rw [e1, e2]
           rw [e3] at H
           exact ⟨_, rfl, arr_one (Holds.to (M := arr 3 (Value.int .i64) va (wrun s v xs).1 :: []) (by assumption)), Holds.to (by assumption)⟩)
        | (have ew := (wstep (s := s) (v := v) hi).trans (wst_bad hc hz)
           have es := wrun_stuck (s := s) (v := v) (i + 1) (by rw [ew]; exact hz)
           have e1 : vcode n s v xs = (yW s v xs (i + 1)).2 := (if_neg hyes).trans (by rw [es, ew]; rfl)
           have e2 : vlist n s v xs = [] := if_neg (by rw [e1]; exact hz)
           rw [e1, e2]
           exact ⟨_, rfl, rfl, arr_nil (Holds.to (by assumption))⟩)
      · refine W.skip ?_
        refine hK17 _ _ _ ?_
        refine W.seq (fun K20 hK20 => ?_)
        refine W.region ?_
        refine O.ex (by first | exact Ex.loadP Try.isAgg37 rfl | exact Ex.loadQ Try.isAgg37 rfl | exact Ex.loadMh Try.isAgg37 rfl | exact Ex.loadR Try.isAgg37 rfl | exact Ex.loadIn1 Try.isAgg37 rfl (Holds.to (by assumption)) | exact Ex.loadM Try.isAgg37 rfl | exact Ex.loadVc Try.isAgg37 rfl) rfl ?_
        refine O.ex (Ex.assign rfl) rfl ?_
        refine O.ex (Ex.assign rfl) rfl ?_
        refine O.nil ?_
        refine hK20 _ _ _ ?_
        refine W.ret ?_
        try dsimp only [scopeQ, thenQ, blockQ, retQ]
        first | refine ⟨_, ⟨_, _, rfl, rfl, _, _, rfl, rfl, rfl⟩, ?_⟩ | (refine retD_mark ?_; intro w H; refine ⟨_, ⟨_, _, rfl, rfl, _, _, rfl, rfl, rfl⟩, ?_⟩) | (refine retD_mark2 ?_; intro w H; refine ⟨_, ⟨_, _, rfl, rfl, _, _, rfl, rfl, rfl⟩, ?_⟩)
        first
        | exact absurd rfl hbad
        | exact absurd hz hok
        | (have e1 : vcode n s v xs = 1 := if_pos hno
           have e2 : vlist n s v xs = [] := if_neg (by rw [e1]; decide)
           rw [e1, e2]
           exact ⟨_, rfl, rfl, arr_nil (Holds.to (by assumption))⟩)
        | (have e1 : vcode n s v xs = 0 := (if_neg hyes).trans hz
           have e2 := vlist_ok e1
           have e3 : outK s v xs (xs.length + 1) = (wrun s v xs).1 := by show (wrun s v (xs.take xs.length)).1 = _; rw [List.take_length]
           rw [e1, e2]
           rw [e3] at H
           exact ⟨_, rfl, arr_one (Holds.to (M := arr 3 (Value.int .i64) va (wrun s v xs).1 :: []) (by assumption)), Holds.to (by assumption)⟩)
        | (have ew := (wstep (s := s) (v := v) hi).trans (wst_bad hc hz)
           have es := wrun_stuck (s := s) (v := v) (i + 1) (by rw [ew]; exact hz)
           have e1 : vcode n s v xs = (yW s v xs (i + 1)).2 := (if_neg hyes).trans (by rw [es, ew]; rfl)
           have e2 : vlist n s v xs = [] := if_neg (by rw [e1]; exact hz)
           rw [e1, e2]
           exact ⟨_, rfl, rfl, arr_nil (Holds.to (by assumption))⟩)
set_option maxHeartbeats 1000000 in
theorem wcheck_ct {w : World} {g : Nat} {n most v u : Int} {s : St} {iv : Value} {xs : List Int} {S : HProp} {L : List HProp} (hg : GOk n most s) (hR : Rd S iv xs) (hl : xs.length ≤ 200) (H : Holds w (Gh g n most s :: S :: L)) :
    CT Try.prog 40 [.pointer (some ⟨g, 0, none⟩), .int .i64 v, .int .i64 u, iv] w fun x w' => x = .int .i64 (ccode n s v u xs) ∧ Holds w' (Gh g n most s :: S :: L) := by
  refine CT.enter (N := 41) Try.func40 rfl rfl rfl rfl ?_
  refine W.seq (fun K0 hK0 => ?_)
  refine W.region ?_
  refine O.ex (Ex.assign rfl) rfl ?_
  refine O.nil ?_
  refine hK0 _ _ _ ?_
  refine W.seq (fun K1 hK1 => ?_)
  refine W.seq (fun K2 hK2 => ?_)
  refine W.region ?_
  refine O.ex (Ex.move rfl) rfl ?_
  refine O.ex (Ex.move rfl) rfl ?_
  refine O.callF Try.call84 rfl rfl (CT.mono (wvertex_ct hg (Holds.to (by assumption))) ?_)
  rintro _ w ⟨rfl, H⟩
  refine O.ex (by first | exact Ex.notD rfl | exact Ex.not rfl) rfl ?_
  refine O.ex (Ex.move rfl) rfl ?_
  first | refine O.split_p (t := 15) rfl (fun h0 => ?_) (fun h0 => ?_) | refine O.split (t := 15) rfl (fun h0 => ?_) (fun h0 => ?_)
  · refine O.guard_f rfl rfl rfl rfl ?_
    refine O.guard_f rfl rfl rfl rfl ?_
    refine O.guard_f rfl rfl rfl rfl ?_
    refine O.guard_f rfl rfl rfl rfl ?_
    refine O.ex (Ex.pick_t rfl rfl) rfl ?_
    refine O.nil ?_
    refine hK2 _ _ _ ?_
    refine W.cond_t rfl ?_
    refine W.seq (fun K3 hK3 => ?_)
    refine W.region ?_
    refine O.ex (Ex.assign rfl) rfl ?_
    refine O.nil ?_
    refine hK3 _ _ _ ?_
    refine W.ret ?_
    try dsimp only [thenQ, blockQ, retQ]
    first | refine ⟨_, ⟨_, _, rfl, rfl, rfl⟩, ?_⟩ | (refine retD_mark ?_; intro w H; refine ⟨_, ⟨_, _, rfl, rfl, rfl⟩, ?_⟩) | (refine retD_mark2 ?_; intro w H; refine ⟨_, ⟨_, _, rfl, rfl, rfl⟩, ?_⟩)
    refine ⟨congrArg (Value.int .i64) ?_, Holds.to (by assumption)⟩
    unfold ccode
    first
    | (rw [if_pos (fun hh => h0 hh.1)]; done)
    | (rw [if_pos (fun hh => h1 hh.2)]; done)
    | (have hv2 : vxW n v := by simpa using h0
       have hu2 : vxW n u := by simpa using h1
       rw [if_neg (fun hh => hh ⟨hv2, hu2⟩)]
       have e : vcode n s v xs = (wrun s v xs).2.2 := if_neg (fun hh => hh hv2)
       rw [e] at hbad
       rw [if_pos hbad, e]; done)
    | (have hu2 : vxW n u := by simpa using h1
       rw [hlast] at h3
       rw [if_neg (fun hh => hh ⟨hvx, hu2⟩), if_neg (fun hh => hh hz2), if_pos h3]; done)
    | (have hu2 : vxW n u := by simpa using h1
       rw [hlast] at h3
       rw [if_neg (fun hh => hh ⟨hvx, hu2⟩), if_neg (fun hh => hh hz2), if_neg h3]; done)
  · refine O.guard_t rfl rfl ?_
    refine O.ex (Ex.move rfl) rfl ?_
    refine O.guard_t rfl rfl ?_
    refine O.ex (Ex.move rfl) rfl ?_
    refine O.guard_t rfl rfl ?_
    refine O.callF Try.call84 rfl rfl (CT.mono (wvertex_ct hg (Holds.to (by assumption))) ?_)
    rintro _ w ⟨rfl, H⟩
    refine O.guard_t rfl rfl ?_
    refine O.ex (by first | exact Ex.notD rfl | exact Ex.not rfl) rfl ?_
    refine O.ex (Ex.pick_f rfl rfl) rfl ?_
    refine O.nil ?_
    refine hK2 _ _ _ ?_
    first | refine W.cond_p rfl (fun h1 => ?_) (fun h1 => ?_) | refine W.cond_b rfl (fun h1 => ?_) (fun h1 => ?_)
    · refine W.seq (fun K4 hK4 => ?_)
      refine W.region ?_
      refine O.ex (Ex.assign rfl) rfl ?_
      refine O.nil ?_
      refine hK4 _ _ _ ?_
      refine W.ret ?_
      try dsimp only [thenQ, blockQ, retQ]
      first | refine ⟨_, ⟨_, _, rfl, rfl, rfl⟩, ?_⟩ | (refine retD_mark ?_; intro w H; refine ⟨_, ⟨_, _, rfl, rfl, rfl⟩, ?_⟩) | (refine retD_mark2 ?_; intro w H; refine ⟨_, ⟨_, _, rfl, rfl, rfl⟩, ?_⟩)
      refine ⟨congrArg (Value.int .i64) ?_, Holds.to (by assumption)⟩
      unfold ccode
      first
      | (rw [if_pos (fun hh => h0 hh.1)]; done)
      | (rw [if_pos (fun hh => h1 hh.2)]; done)
      | (have hv2 : vxW n v := by simpa using h0
         have hu2 : vxW n u := by simpa using h1
         rw [if_neg (fun hh => hh ⟨hv2, hu2⟩)]
         have e : vcode n s v xs = (wrun s v xs).2.2 := if_neg (fun hh => hh hv2)
         rw [e] at hbad
         rw [if_pos hbad, e]; done)
      | (have hu2 : vxW n u := by simpa using h1
         rw [hlast] at h3
         rw [if_neg (fun hh => hh ⟨hvx, hu2⟩), if_neg (fun hh => hh hz2), if_pos h3]; done)
      | (have hu2 : vxW n u := by simpa using h1
         rw [hlast] at h3
         rw [if_neg (fun hh => hh ⟨hvx, hu2⟩), if_neg (fun hh => hh hz2), if_neg h3]; done)
    · refine W.skip ?_
      refine hK1 _ _ _ ?_
      refine W.seq (fun K5 hK5 => ?_)
      refine W.region ?_
      refine O.ex (Ex.move rfl) rfl ?_
      refine O.ex (Ex.move rfl) rfl ?_
      refine O.ex (Ex.move rfl) rfl ?_
      refine O.callF Try.call44 rfl rfl (CT.mono (wvisits_ct hg hR hl (Holds.to (by assumption))) ?_)
      rintro _ w ⟨x, rfl, hx1, H⟩
      refine O.ex (Ex.move rfl) rfl ?_
      refine O.ex (Ex.extract rfl rfl) rfl ?_
      refine O.ex (Ex.extract rfl rfl) rfl ?_
      refine O.ex (Ex.assign rfl) rfl ?_
      refine O.ex (Ex.assign rfl) rfl ?_
      refine O.nil ?_
      refine hK5 _ _ _ ?_
      refine W.seq (fun K6 hK6 => ?_)
      refine W.block ?_
      refine W.seq (fun K7 hK7 => ?_)
      refine W.region ?_
      refine O.ex (Ex.move rfl) rfl ?_
      refine O.ex (Ex.neqI rfl rfl) rfl ?_
      refine O.ex (Ex.assign rfl) rfl ?_
      refine O.nil ?_
      refine hK7 _ _ _ ?_
      first | refine W.cond_p rfl (fun hbad => ?_) (fun hok => ?_) | refine W.cond_b rfl (fun hbad => ?_) (fun hok => ?_)
      · refine W.seq (fun K8 hK8 => ?_)
        refine W.region ?_
        refine O.ex (Ex.move rfl) rfl ?_
        refine O.ex (Ex.assign rfl) rfl ?_
        refine O.nil ?_
        refine hK8 _ _ _ ?_
        refine W.ret ?_
        try dsimp only [thenQ, blockQ, retQ]
        first | refine ⟨_, ⟨_, _, rfl, rfl, rfl⟩, ?_⟩ | (refine retD_mark ?_; intro w H; refine ⟨_, ⟨_, _, rfl, rfl, rfl⟩, ?_⟩) | (refine retD_mark2 ?_; intro w H; refine ⟨_, ⟨_, _, rfl, rfl, rfl⟩, ?_⟩)
        refine ⟨congrArg (Value.int .i64) ?_, Holds.to (by assumption)⟩
        unfold ccode
        first
        | (rw [if_pos (fun hh => h0 hh.1)]; done)
        | (rw [if_pos (fun hh => h1 hh.2)]; done)
        | (have hv2 : vxW n v := by simpa using h0
           have hu2 : vxW n u := by simpa using h1
           rw [if_neg (fun hh => hh ⟨hv2, hu2⟩)]
           have e : vcode n s v xs = (wrun s v xs).2.2 := if_neg (fun hh => hh hv2)
           rw [e] at hbad
           rw [if_pos hbad, e]; done)
        | (have hu2 : vxW n u := by simpa using h1
           rw [hlast] at h3
           rw [if_neg (fun hh => hh ⟨hvx, hu2⟩), if_neg (fun hh => hh hz2), if_pos h3]; done)
        | (have hu2 : vxW n u := by simpa using h1
           rw [hlast] at h3
           rw [if_neg (fun hh => hh ⟨hvx, hu2⟩), if_neg (fun hh => hh hz2), if_neg h3]; done)
      · refine W.seq (fun K9 hK9 => ?_)
        refine W.region ?_
        have hz := Decidable.not_not.1 hok
        obtain ⟨hvx, hz2⟩ := vcode_ok hz
        have hgd := wgood_all hg hz2
        have hll : (vlist n s v xs).length = xs.length + 1 := by rw [vlist_ok hz]; exact hgd.len
        have hlast : (vlist n s v xs).getD (((vlist n s v xs).length : Int) - 1).toNat default = (wrun s v xs).2.1 := by
          rw [hll, show ((((xs.length + 1 : Nat) : Int) - 1).toNat) = xs.length by omega, vlist_ok hz]; exact hgd.last
        refine O.ex (Ex.move rfl) rfl ?_
        refine O.ex (Ex.move rfl) rfl ?_
        refine O.ex (by first | exact Ex.lenR Try.runUnderlying37 rfl | exact Ex.lenIn Try.runUnderlying37 rfl | exact Ex.lenL Try.runUnderlying37 rfl | exact Ex.len rfl Try.runUnderlying37 rfl) rfl ?_
        refine O.ex (by first | exact Ex.subI rfl rfl | exact Ex.sub rfl rfl rfl) rfl ?_
        refine O.ex (by first | exact Ex.idxR Try.runUnderlying37 Try.sizeOf3 rfl rfl | exact Ex.idxIn Try.runUnderlying37 Try.sizeOf3 rfl rfl | exact Ex.idxS Try.runUnderlying37 Try.sizeOf3 rfl rfl | exact Ex.idx Try.runUnderlying37 Try.sizeOf3 rfl rfl (by omega) (by omega)) rfl ?_
        refine O.ex (by first | exact Ex.loadR Try.isAgg3 rfl | exact Ex.loadIn1 Try.isAgg3 rfl (Holds.to (by assumption)) | exact Ex.loadP Try.isAgg3 rfl | exact Ex.loadMh Try.isAgg3 rfl | exact Ex.loadM Try.isAgg3 rfl | exact Ex.loadVc Try.isAgg3 rfl | exact Ex.loadQ Try.isAgg3 rfl) rfl ?_
        refine O.ex (Ex.move rfl) rfl ?_
        refine O.ex (Ex.neqI rfl rfl) rfl ?_
        refine O.ex (Ex.assign rfl) rfl ?_
        refine O.nil ?_
        refine hK9 _ _ _ ?_
        first | refine W.cond_p rfl (fun h3 => ?_) (fun h3 => ?_) | refine W.cond_b rfl (fun h3 => ?_) (fun h3 => ?_)
        · refine W.seq (fun K10 hK10 => ?_)
          refine W.region ?_
          refine O.ex (Ex.assign rfl) rfl ?_
          refine O.nil ?_
          refine hK10 _ _ _ ?_
          refine W.ret ?_
          try dsimp only [thenQ, blockQ, retQ]
          first | refine ⟨_, ⟨_, _, rfl, rfl, rfl⟩, ?_⟩ | (refine retD_mark ?_; intro w H; refine ⟨_, ⟨_, _, rfl, rfl, rfl⟩, ?_⟩) | (refine retD_mark2 ?_; intro w H; refine ⟨_, ⟨_, _, rfl, rfl, rfl⟩, ?_⟩)
          refine ⟨congrArg (Value.int .i64) ?_, Holds.to (by assumption)⟩
          unfold ccode
          first
          | (rw [if_pos (fun hh => h0 hh.1)]; done)
          | (rw [if_pos (fun hh => h1 hh.2)]; done)
          | (have hv2 : vxW n v := by simpa using h0
             have hu2 : vxW n u := by simpa using h1
             rw [if_neg (fun hh => hh ⟨hv2, hu2⟩)]
             have e : vcode n s v xs = (wrun s v xs).2.2 := if_neg (fun hh => hh hv2)
             rw [e] at hbad
             rw [if_pos hbad, e]; done)
          | (have hu2 : vxW n u := by simpa using h1
             rw [hlast] at h3
             rw [if_neg (fun hh => hh ⟨hvx, hu2⟩), if_neg (fun hh => hh hz2), if_pos h3]; done)
          | (have hu2 : vxW n u := by simpa using h1
             rw [hlast] at h3
             rw [if_neg (fun hh => hh ⟨hvx, hu2⟩), if_neg (fun hh => hh hz2), if_neg h3]; done)
        · refine W.skip ?_
          refine hK6 _ _ _ ?_
          refine W.seq (fun K11 hK11 => ?_)
          refine W.region ?_
          refine O.ex (Ex.assign rfl) rfl ?_
          refine O.nil ?_
          refine hK11 _ _ _ ?_
          refine W.ret ?_
          try dsimp only [thenQ, blockQ, retQ]
          first | refine ⟨_, ⟨_, _, rfl, rfl, rfl⟩, ?_⟩ | (refine retD_mark ?_; intro w H; refine ⟨_, ⟨_, _, rfl, rfl, rfl⟩, ?_⟩) | (refine retD_mark2 ?_; intro w H; refine ⟨_, ⟨_, _, rfl, rfl, rfl⟩, ?_⟩)
          refine ⟨congrArg (Value.int .i64) ?_, Holds.to (by assumption)⟩
          unfold ccode
          first
          | (rw [if_pos (fun hh => h0 hh.1)]; done)
          | (rw [if_pos (fun hh => h1 hh.2)]; done)
          | (have hv2 : vxW n v := by simpa using h0
             have hu2 : vxW n u := by simpa using h1
             rw [if_neg (fun hh => hh ⟨hv2, hu2⟩)]
             have e : vcode n s v xs = (wrun s v xs).2.2 := if_neg (fun hh => hh hv2)
             rw [e] at hbad
             rw [if_pos hbad, e]; done)
          | (have hu2 : vxW n u := by simpa using h1
             rw [hlast] at h3
             rw [if_neg (fun hh => hh ⟨hvx, hu2⟩), if_neg (fun hh => hh hz2), if_pos h3]; done)
          | (have hu2 : vxW n u := by simpa using h1
             rw [hlast] at h3
             rw [if_neg (fun hh => hh ⟨hvx, hu2⟩), if_neg (fun hh => hh hz2), if_neg h3]; done)
set_option maxHeartbeats 1000000 in
theorem wsum_ct {w : World} {g : Nat} {n most : Int} {s : St} {iv : Value} {xs : List Int} {S : HProp} {L : List HProp} (hg : GOk n most s) (hR : Rd S iv xs) (hl : xs.length ≤ 200) (H : Holds w (Gh g n most s :: S :: L)) :
    CT Try.prog 42 [.pointer (some ⟨g, 0, none⟩), iv] w fun x w' => x = .int .i64 (srun s xs).1 ∧ Holds w' (Gh g n most s :: S :: L) := by
  obtain ⟨a, cap, rfl⟩ := hR.form H.swap
  refine CT.enter (N := 31) Try.func42 rfl rfl rfl rfl ?_
  refine W.seq (fun K0 hK0 => ?_)
  refine W.region ?_
  refine O.ex (Ex.assign rfl) rfl ?_
  refine O.nil ?_
  refine hK0 _ _ _ ?_
  refine W.seq (fun K1 hK1 => ?_)
  refine W.region ?_
  refine O.ex (Ex.assign rfl) rfl ?_
  refine O.nil ?_
  refine hK1 _ _ _ ?_
  refine W.seq (fun K2 hK2 => ?_)
  refine W.seq (fun K3 hK3 => ?_)
  refine W.region ?_
  refine O.ex (Ex.move rfl) rfl ?_
  refine O.ex (by first | exact Ex.lenR Try.runUnderlying37 rfl | exact Ex.lenIn Try.runUnderlying37 rfl | exact Ex.lenL Try.runUnderlying37 rfl | exact Ex.len rfl Try.runUnderlying37 rfl) rfl ?_
  refine O.ex (Ex.move rfl) rfl ?_
  refine O.nil ?_
  refine hK3 _ _ _ ?_
  refine W.block ?_
  refine W.loop (σ := Nat) (fun i => [(0, .pointer (some ⟨g, 0, none⟩)), (5, .int .i64 (srun s (xs.take i)).1), (10, .slice a xs.length cap), (11, .int .i64 (xs.length : Int)), (12, .int .i64 (i : Int))]) (fun i ds w => ds = [] ∧ i ≤ xs.length ∧ (srun s (xs.take i)).2 = true ∧ Holds w (Gh g n most s :: S :: L)) (fun i => xs.length - i) 0 ⟨rfl, rfl, rfl, rfl, rfl, trivial⟩ ⟨rfl, by omega, rfl, Holds.to (by assumption)⟩ ?_
  clear H
  rintro i _ w ⟨rfl, hi, hc, H⟩
  refine W.seq (fun K4 hK4 => ?_)
  refine W.region ?_
  refine O.ex (Ex.lss rfl rfl) rfl ?_
  refine O.nil ?_
  refine hK4 _ _ _ ?_
  refine W.seq (fun K5 hK5 => ?_)
  first | refine W.cond_p rfl (fun hlt => ?_) (fun hge => ?_) | refine W.cond_b rfl (fun hlt => ?_) (fun hge => ?_)
  · refine W.skip ?_
    refine hK5 _ _ _ ?_
    refine W.seq (fun K6 hK6 => ?_)
    refine W.block ?_
    refine W.seq (fun K7 hK7 => ?_)
    refine W.region ?_
    have hil : i < xs.length := by omega
    have esu : srun s (xs.take (i + 1)) = sst s (srun s (xs.take i)) (xs.getD i default) := by rw [take_getC _ hil, srun_snoc]
    have hdb : Dst (srun s (xs.take i)).1 := srun_dst hg (xs.take i) (0, true) ⟨by omega, by omega⟩
    refine O.ex (Ex.idxRd hR Try.runUnderlying37 Try.sizeOf3 rfl rfl) rfl ?_
    refine O.ex (Ex.loadRd (i := i) hR Try.isAgg3 rfl) rfl ?_
    refine O.ex (Ex.assign rfl) rfl ?_
    refine O.nil ?_
    refine hK7 _ _ _ ?_
    refine W.seq (fun K8 hK8 => ?_)
    refine W.region ?_
    refine O.ex (Ex.move rfl) rfl ?_
    refine O.ex (Ex.move rfl) rfl ?_
    refine O.callF Try.call73 rfl rfl (CT.mono (garc_ct (n := n) (most := most) (id := xs.getD i default) (Holds.to (by assumption))) ?_)
    rintro _ w ⟨rfl, H⟩
    refine O.ex (Ex.move rfl) rfl ?_
    refine O.ex (Ex.extract rfl rfl) rfl ?_
    refine O.ex (Ex.extract rfl rfl) rfl ?_
    refine O.allocP Try.zeroValue31 (fun b8 w H => ?_)
    first | refine O.storeAggP Try.sizeOf31 rfl rfl rfl rfl (fun w H => ?_) | refine O.storeAggN Try.sizeOf31 rfl rfl rfl (fun w H => ?_) rfl
    refine O.ex (Ex.assign rfl) rfl ?_
    refine O.nil ?_
    refine hK8 _ _ _ ?_
    refine W.seq (fun K9 hK9 => ?_)
    refine W.seq (fun K10 hK10 => ?_)
    refine W.region ?_
    refine O.ex (Ex.move rfl) rfl ?_
    refine O.ex (by first | exact Ex.notD rfl | exact Ex.not rfl) rfl ?_
    refine O.nil ?_
    refine hK10 _ _ _ ?_
    first | refine W.cond_p rfl (fun hno => ?_) (fun hyes => ?_) | refine W.cond_b rfl (fun hno => ?_) (fun hyes => ?_)
    · refine W.seq (fun K11 hK11 => ?_)
      refine W.region ?_
      refine O.ex (Ex.assign rfl) rfl ?_
      refine O.nil ?_
      refine hK11 _ _ _ ?_
      refine W.ret ?_
      try dsimp only [thenQ, blockQ, retQ]
      first | refine ⟨_, ⟨_, _, rfl, rfl, rfl⟩, ?_⟩ | (refine retD_mark ?_; intro w H; refine ⟨_, ⟨_, _, rfl, rfl, rfl⟩, ?_⟩) | (refine retD_mark2 ?_; intro w H; refine ⟨_, ⟨_, _, rfl, rfl, rfl⟩, ?_⟩)
      first
      | (have e : sst s (srun s (xs.take i)) (xs.getD i default) = (4611686018427387906, false) := by unfold sst; rw [if_neg (by rw [hc]; decide), if_neg (by simpa using hno)]
         rw [e] at esu
         have es := srun_stuck (s := s) (l := xs) (i + 1) (by rw [esu])
         rw [es, esu]
         exact ⟨rfl, Holds.to (by assumption)⟩)
      | (obtain rfl : i = xs.length := by omega
         rw [List.take_length]
         exact ⟨rfl, Holds.to (by assumption)⟩)
    · refine W.skip ?_
      refine hK9 _ _ _ ?_
      refine W.region ?_
      refine O.ex (Ex.move rfl) rfl ?_
      refine O.ex (by first | exact Ex.field0 fld31_2 rfl | exact Ex.field fld31_2 rfl | exact Ex.fieldS fld31_2 rfl) rfl ?_
      refine O.ex (by first | exact Ex.loadMh Try.isAgg3 rfl | exact Ex.loadP Try.isAgg3 rfl | exact Ex.loadM Try.isAgg3 rfl | exact Ex.loadIn1 Try.isAgg3 rfl (Holds.to (by assumption)) | exact Ex.loadVc Try.isAgg3 rfl | exact Ex.loadR Try.isAgg3 rfl | exact Ex.loadQ Try.isAgg3 rfl) rfl ?_
      refine O.buildK (e := Value.int .i64) (vs := [(0, .int .i64 (srun s (xs.take i)).1), (1, .int .i64 (arcQ s (xs.getD i default)).w)]) [(srun s (xs.take i)).1, (arcQ s (xs.getD i default)).w] Try.runUnderlying37 Try.sizeOf3 Try.zeroValue3 rfl rfl rfl rfl rfl rfl (fun v28 w hv28 H => ?_)
      refine O.callF Try.call86 rfl rfl (CT.mono (add_ct (Holds.to (by assumption)) hdb (arcQ_dst hg _)) ?_)
      rintro _ w ⟨rfl, H⟩
      refine O.ex (Ex.assign rfl) rfl ?_
      refine O.nil ?_
      refine hK6 _ _ _ ?_
      refine W.region ?_
      refine O.ex (by first | exact Ex.addI rfl rfl | exact Ex.add rfl rfl rfl) rfl ?_
      refine O.ex (Ex.move rfl) rfl ?_
      refine O.nil ?_
      have e : sst s (srun s (xs.take i)) (xs.getD i default) = (two (srun s (xs.take i)).1 (arcQ s (xs.getD i default)).w, true) := by unfold sst; rw [if_neg (by rw [hc]; decide), if_pos (by simpa using hyes)]
      rw [e] at esu
      exact ⟨i + 1, ⟨rfl, by rw [esu]; rfl, rfl, rfl, rfl, trivial⟩, ⟨rfl, by omega, by rw [esu], Holds.to (by assumption)⟩, by omega⟩
  · refine W.exit ?_
    refine hK2 _ _ _ ?_
    refine W.seq (fun K12 hK12 => ?_)
    refine W.region ?_
    refine O.ex (Ex.move rfl) rfl ?_
    refine O.ex (Ex.assign rfl) rfl ?_
    refine O.nil ?_
    refine hK12 _ _ _ ?_
    refine W.ret ?_
    try dsimp only [thenQ, blockQ, retQ]
    first | refine ⟨_, ⟨_, _, rfl, rfl, rfl⟩, ?_⟩ | (refine retD_mark ?_; intro w H; refine ⟨_, ⟨_, _, rfl, rfl, rfl⟩, ?_⟩) | (refine retD_mark2 ?_; intro w H; refine ⟨_, ⟨_, _, rfl, rfl, rfl⟩, ?_⟩)
    first
    | (have e : sst s (srun s (xs.take i)) (xs.getD i default) = (4611686018427387906, false) := by unfold sst; rw [if_neg (by rw [hc]; decide), if_neg (by simpa using hno)]
       rw [e] at esu
       have es := srun_stuck (s := s) (l := xs) (i + 1) (by rw [esu])
       rw [es, esu]
       exact ⟨rfl, Holds.to (by assumption)⟩)
    | (obtain rfl : i = xs.length := by omega
       rw [List.take_length]
       exact ⟨rfl, Holds.to (by assumption)⟩)
end Go.Proofs.Ytakmbbgnnbpkoaa
