import Derived.Test.YtblapiiinbppiaaFacts
import Derived.Test.YtblapiiinbppiaaRrBase
import Derived.Test.YtblapiiinbppiaaRrBits
import Derived.Test.YtblapiiinbppiaaMeshLaw
namespace Go.Proofs.Ytblapiiinbppiaa
open Go.Rr
set_option linter.unusedVariables false
def Mh (m : Nat) (n : Int) (c : Int → Int → Int) : HProp := mtx m 100 [.int .i64 n] (fun u w => 4611686018427387906 - c u w)
def Rh (r : Nat) (n : Int) (c : Int → Int → Int) : HProp := mtx r 32 [.int .i64 n] c
theorem mh_open {w : World} {m : Nat} {n : Int} {c : Int → Int → Int} {L : List HProp} : Holds w (Mh m n c :: L) ↔ Holds w (mtx m 100 [.int .i64 n] (fun u w => 4611686018427387906 - c u w) :: L) := Iff.rfl
theorem rh_open {w : World} {m : Nat} {n : Int} {c : Int → Int → Int} {L : List HProp} : Holds w (Rh m n c :: L) ↔ Holds w (mtx m 32 [.int .i64 n] c :: L) := Iff.rfl
theorem zM : ZeroIs Try.prog 100 (mval [.int .i64 0] fun _ _ => 0) := fun w => (Try.zeroValue100 w).trans (by rw [show Try.zeroCells100 = vcs [.int .i64 0] 576 (sq fun _ _ => 0) by kernel_rfl]; rfl)
theorem zR : ZeroIs Try.prog 32 (mval [.int .i64 0] fun _ _ => 0) := fun w => (Try.zeroValue32 w).trans (by rw [show Try.zeroCells32 = vcs [.int .i64 0] 576 (sq fun _ _ => 0) by kernel_rfl]; rfl)
theorem zS : ZeroIs Try.prog 30 (mval [] fun _ _ => 0) := fun w => (Try.zeroValue30 w).trans (by rw [show Try.zeroCells30 = vcs [] 576 (sq fun _ _ => 0) by kernel_rfl]; rfl)
theorem upd_neg (c : Int → Int → Int) (u w g : Int) : upd2 (fun a b => 4611686018427387906 - c a b) u w (4611686018427387906 - g) = fun a b => 4611686018427387906 - upd2 c u w g a b := by
  funext a b; unfold upd2; split <;> rfl
theorem vertexm_ct {w : World} {m : Nat} {n v : Int} {c : Int → Int → Int} {L : List HProp} (H : Holds w (Mh m n c :: L)) :
    CT Try.prog 53 [.pointer (some ⟨m, 0, none⟩), .int .i64 v] w fun u w' => u = .bool (decide (0 ≤ v ∧ v < n)) ∧ Holds w' (Mh m n c :: L) := by
  have H := mh_open.1 H
  refine CT.enter (N := 15) Try.func53 rfl rfl rfl rfl ?_
  refine W.seq (fun K0 hK0 => ?_)
  refine W.region ?_
  refine O.ex (Ex.assign rfl) rfl ?_
  refine O.nil ?_
  refine hK0 _ _ _ ?_
  refine W.seq (fun K1 hK1 => ?_)
  refine W.region ?_
  refine O.ex (Ex.move rfl) rfl ?_
  refine O.ex (Ex.geq rfl rfl) rfl ?_
  refine O.ex (Ex.move rfl) rfl ?_
  first | refine O.split_p (t := 7) rfl (fun h0 => ?_) (fun h0 => ?_) | refine O.split (t := 7) rfl (fun h0 => ?_) (fun h0 => ?_)
  · refine O.guard_t rfl rfl ?_
    refine O.ex (Ex.move rfl) rfl ?_
    refine O.guard_t rfl rfl ?_
    refine O.ex (Ex.move rfl) rfl ?_
    refine O.guard_t rfl rfl ?_
    refine O.ex (by first | exact Ex.nilPtr rfl | exact Ex.nilFunc rfl | exact Ex.nilYield rfl) rfl ?_
    refine O.guard_t rfl rfl ?_
    refine O.ex (by first | exact Ex.field0 fld100_0 rfl | exact Ex.field fld100_0 rfl | exact Ex.fieldS fld100_0 rfl) rfl ?_
    refine O.guard_t rfl rfl ?_
    refine O.ex (by first | exact Ex.loadMh Try.isAgg3 rfl | exact Ex.loadP Try.isAgg3 rfl | exact Ex.loadM Try.isAgg3 rfl | exact Ex.loadIn1 Try.isAgg3 rfl (Holds.to (by assumption)) | exact Ex.loadVc Try.isAgg3 rfl | exact Ex.loadR Try.isAgg3 rfl | exact Ex.loadQ Try.isAgg3 rfl) rfl ?_
    refine O.guard_t rfl rfl ?_
    refine O.ex (Ex.lss rfl rfl) rfl ?_
    refine O.ex (Ex.pick_t rfl rfl) rfl ?_
    refine O.ex (Ex.assign rfl) rfl ?_
    refine O.nil ?_
    refine hK1 _ _ _ ?_
    refine W.ret ?_
    try dsimp only [thenQ, blockQ, retQ]
    first | refine ⟨_, ⟨_, _, rfl, rfl, rfl⟩, ?_⟩ | (refine retD_mark ?_; intro w H; refine ⟨_, ⟨_, _, rfl, rfl, rfl⟩, ?_⟩) | (refine retD_mark2 ?_; intro w H; refine ⟨_, ⟨_, _, rfl, rfl, rfl⟩, ?_⟩)
    refine ⟨congrArg Value.bool ?_, mh_open.2 (Holds.to (by assumption))⟩
    first
    | exact decide_eq_decide.2 (by omega)
    | exact (decide_eq_false (by omega)).symm
  · refine O.guard_f rfl rfl rfl rfl ?_
    refine O.guard_f rfl rfl rfl rfl ?_
    refine O.guard_f rfl rfl rfl rfl ?_
    refine O.guard_f rfl rfl rfl rfl ?_
    refine O.guard_f rfl rfl rfl rfl ?_
    refine O.guard_f rfl rfl rfl rfl ?_
    refine O.ex (Ex.pick_f rfl rfl) rfl ?_
    refine O.ex (Ex.assign rfl) rfl ?_
    refine O.nil ?_
    refine hK1 _ _ _ ?_
    refine W.ret ?_
    try dsimp only [thenQ, blockQ, retQ]
    first | refine ⟨_, ⟨_, _, rfl, rfl, rfl⟩, ?_⟩ | (refine retD_mark ?_; intro w H; refine ⟨_, ⟨_, _, rfl, rfl, rfl⟩, ?_⟩) | (refine retD_mark2 ?_; intro w H; refine ⟨_, ⟨_, _, rfl, rfl, rfl⟩, ?_⟩)
    refine ⟨congrArg Value.bool ?_, mh_open.2 (Holds.to (by assumption))⟩
    first
    | exact decide_eq_decide.2 (by omega)
    | exact (decide_eq_false (by omega)).symm
theorem vertexr_ct {w : World} {m : Nat} {n v : Int} {c : Int → Int → Int} {L : List HProp} (H : Holds w (Rh m n c :: L)) :
    CT Try.prog 30 [.pointer (some ⟨m, 0, none⟩), .int .i64 v] w fun u w' => u = .bool (decide (0 ≤ v ∧ v < n)) ∧ Holds w' (Rh m n c :: L) := by
  have H := rh_open.1 H
  refine CT.enter (N := 15) Try.func30 rfl rfl rfl rfl ?_
  refine W.seq (fun K0 hK0 => ?_)
  refine W.region ?_
  refine O.ex (Ex.assign rfl) rfl ?_
  refine O.nil ?_
  refine hK0 _ _ _ ?_
  refine W.seq (fun K1 hK1 => ?_)
  refine W.region ?_
  refine O.ex (Ex.move rfl) rfl ?_
  refine O.ex (Ex.geq rfl rfl) rfl ?_
  refine O.ex (Ex.move rfl) rfl ?_
  first | refine O.split_p (t := 7) rfl (fun h0 => ?_) (fun h0 => ?_) | refine O.split (t := 7) rfl (fun h0 => ?_) (fun h0 => ?_)
  · refine O.guard_t rfl rfl ?_
    refine O.ex (Ex.move rfl) rfl ?_
    refine O.guard_t rfl rfl ?_
    refine O.ex (Ex.move rfl) rfl ?_
    refine O.guard_t rfl rfl ?_
    refine O.ex (by first | exact Ex.nilPtr rfl | exact Ex.nilFunc rfl | exact Ex.nilYield rfl) rfl ?_
    refine O.guard_t rfl rfl ?_
    refine O.ex (by first | exact Ex.field0 fld32_0 rfl | exact Ex.field fld32_0 rfl | exact Ex.fieldS fld32_0 rfl) rfl ?_
    refine O.guard_t rfl rfl ?_
    refine O.ex (by first | exact Ex.loadMh Try.isAgg3 rfl | exact Ex.loadP Try.isAgg3 rfl | exact Ex.loadM Try.isAgg3 rfl | exact Ex.loadIn1 Try.isAgg3 rfl (Holds.to (by assumption)) | exact Ex.loadVc Try.isAgg3 rfl | exact Ex.loadR Try.isAgg3 rfl | exact Ex.loadQ Try.isAgg3 rfl) rfl ?_
    refine O.guard_t rfl rfl ?_
    refine O.ex (Ex.lss rfl rfl) rfl ?_
    refine O.ex (Ex.pick_t rfl rfl) rfl ?_
    refine O.ex (Ex.assign rfl) rfl ?_
    refine O.nil ?_
    refine hK1 _ _ _ ?_
    refine W.ret ?_
    try dsimp only [thenQ, blockQ, retQ]
    first | refine ⟨_, ⟨_, _, rfl, rfl, rfl⟩, ?_⟩ | (refine retD_mark ?_; intro w H; refine ⟨_, ⟨_, _, rfl, rfl, rfl⟩, ?_⟩) | (refine retD_mark2 ?_; intro w H; refine ⟨_, ⟨_, _, rfl, rfl, rfl⟩, ?_⟩)
    refine ⟨congrArg Value.bool ?_, rh_open.2 (Holds.to (by assumption))⟩
    first
    | exact decide_eq_decide.2 (by omega)
    | exact (decide_eq_false (by omega)).symm
  · refine O.guard_f rfl rfl rfl rfl ?_
    refine O.guard_f rfl rfl rfl rfl ?_
    refine O.guard_f rfl rfl rfl rfl ?_
    refine O.guard_f rfl rfl rfl rfl ?_
    refine O.guard_f rfl rfl rfl rfl ?_
    refine O.guard_f rfl rfl rfl rfl ?_
    refine O.ex (Ex.pick_f rfl rfl) rfl ?_
    refine O.ex (Ex.assign rfl) rfl ?_
    refine O.nil ?_
    refine hK1 _ _ _ ?_
    refine W.ret ?_
    try dsimp only [thenQ, blockQ, retQ]
    first | refine ⟨_, ⟨_, _, rfl, rfl, rfl⟩, ?_⟩ | (refine retD_mark ?_; intro w H; refine ⟨_, ⟨_, _, rfl, rfl, rfl⟩, ?_⟩) | (refine retD_mark2 ?_; intro w H; refine ⟨_, ⟨_, _, rfl, rfl, rfl⟩, ?_⟩)
    refine ⟨congrArg Value.bool ?_, rh_open.2 (Holds.to (by assumption))⟩
    first
    | exact decide_eq_decide.2 (by omega)
    | exact (decide_eq_false (by omega)).symm
theorem at_ct {w : World} {m : Nat} {n u v : Int} {c : Int → Int → Int} {L : List HProp} (hg : Good n c) (H : Holds w (Mh m n c :: L)) :
    CT Try.prog 19 [.pointer (some ⟨m, 0, none⟩), .int .i64 u, .int .i64 v] w fun x w' => x = .int .i64 (c u v) ∧ Holds w' (Mh m n c :: L) := by
  have n2 := hg.n2
  have hl := hg.lo u v
  have hh := hg.hi u v
  refine CT.enter (N := 26) Try.func19 rfl rfl rfl rfl ?_
  refine W.seq (fun K0 hK0 => ?_)
  refine W.region ?_
  refine O.ex (Ex.assign rfl) rfl ?_
  refine O.nil ?_
  refine hK0 _ _ _ ?_
  refine W.seq (fun K1 hK1 => ?_)
  refine W.seq (fun K2 hK2 => ?_)
  refine W.region ?_
  refine O.ex (Ex.move rfl) rfl ?_
  refine O.ex (Ex.move rfl) rfl ?_
  refine O.callF Try.call53 rfl rfl (CT.mono (vertexm_ct (Holds.to (by assumption))) ?_)
  rintro _ w ⟨rfl, H⟩
  refine O.ex (by first | exact Ex.notD rfl | exact Ex.not rfl) rfl ?_
  refine O.ex (Ex.move rfl) rfl ?_
  first | refine O.split_p (t := 11) rfl (fun h0 => ?_) (fun h0 => ?_) | refine O.split (t := 11) rfl (fun h0 => ?_) (fun h0 => ?_)
  · refine O.guard_f rfl rfl rfl rfl ?_
    refine O.guard_f rfl rfl rfl rfl ?_
    refine O.guard_f rfl rfl rfl rfl ?_
    refine O.guard_f rfl rfl rfl rfl ?_
    refine O.ex (Ex.pick_t rfl rfl) rfl ?_
    refine O.nil ?_
    refine hK2 _ _ _ ?_
    refine W.cond_t rfl ?_
    refine W.seq (fun K3 hK3 => ?_)
    refine W.region ?_
    refine O.ex (Ex.assign rfl) rfl ?_
    refine O.nil ?_
    refine hK3 _ _ _ ?_
    refine W.ret ?_
    try dsimp only [thenQ, blockQ, retQ]
    first | refine ⟨_, ⟨_, _, rfl, rfl, rfl⟩, ?_⟩ | (refine retD_mark ?_; intro w H; refine ⟨_, ⟨_, _, rfl, rfl, rfl⟩, ?_⟩) | (refine retD_mark2 ?_; intro w H; refine ⟨_, ⟨_, _, rfl, rfl, rfl⟩, ?_⟩)
    first
    | exact ⟨congrArg (Value.int .i64) (hg.out u v (by omega)).symm, Holds.to (by assumption)⟩
    | exact ⟨congrArg (Value.int .i64) (by omega), mh_open.2 (Holds.to (by assumption))⟩
  · refine O.guard_t rfl rfl ?_
    refine O.ex (Ex.move rfl) rfl ?_
    refine O.guard_t rfl rfl ?_
    refine O.ex (Ex.move rfl) rfl ?_
    refine O.guard_t rfl rfl ?_
    refine O.callF Try.call53 rfl rfl (CT.mono (vertexm_ct (Holds.to (by assumption))) ?_)
    rintro _ w ⟨rfl, H⟩
    refine O.guard_t rfl rfl ?_
    refine O.ex (by first | exact Ex.notD rfl | exact Ex.not rfl) rfl ?_
    refine O.ex (Ex.pick_f rfl rfl) rfl ?_
    refine O.nil ?_
    refine hK2 _ _ _ ?_
    first | refine W.cond_p rfl (fun h1 => ?_) (fun h1 => ?_) | refine W.cond_b rfl (fun h1 => ?_) (fun h1 => ?_)
    · refine W.seq (fun K4 hK4 => ?_)
      refine W.region ?_
      refine O.ex (Ex.assign rfl) rfl ?_
      refine O.nil ?_
      refine hK4 _ _ _ ?_
      refine W.ret ?_
      try dsimp only [thenQ, blockQ, retQ]
      first | refine ⟨_, ⟨_, _, rfl, rfl, rfl⟩, ?_⟩ | (refine retD_mark ?_; intro w H; refine ⟨_, ⟨_, _, rfl, rfl, rfl⟩, ?_⟩) | (refine retD_mark2 ?_; intro w H; refine ⟨_, ⟨_, _, rfl, rfl, rfl⟩, ?_⟩)
      first
      | exact ⟨congrArg (Value.int .i64) (hg.out u v (by omega)).symm, Holds.to (by assumption)⟩
      | exact ⟨congrArg (Value.int .i64) (by omega), mh_open.2 (Holds.to (by assumption))⟩
    · refine W.skip ?_
      refine hK1 _ _ _ ?_
      refine W.seq (fun K5 hK5 => ?_)
      refine W.region ?_
      have H := mh_open.1 (Holds.to (by assumption))
      refine O.ex (Ex.move rfl) rfl ?_
      refine O.ex (Ex.move rfl) rfl ?_
      refine O.ex (Ex.move rfl) rfl ?_
      refine O.ex (by first | exact Ex.nilPtr rfl | exact Ex.nilFunc rfl | exact Ex.nilYield rfl) rfl ?_
      refine O.ex (by first | exact Ex.field0 fld100_1 rfl | exact Ex.field fld100_1 rfl | exact Ex.fieldS fld100_1 rfl) rfl ?_
      refine O.ex (Ex.idxArr Try.runUnderlying98 Try.sizeOf29 rfl rfl) rfl ?_
      refine O.ex (Ex.idxArr Try.runUnderlying29 Try.sizeOf3 rfl rfl) rfl ?_
      refine O.ex (by first | exact Ex.loadM Try.isAgg3 rfl | exact Ex.loadVc Try.isAgg3 rfl | exact Ex.loadP Try.isAgg3 rfl | exact Ex.loadIn1 Try.isAgg3 rfl (Holds.to (by assumption)) | exact Ex.loadMh Try.isAgg3 rfl | exact Ex.loadR Try.isAgg3 rfl | exact Ex.loadQ Try.isAgg3 rfl) rfl ?_
      refine O.ex (by first | exact Ex.subI rfl rfl | exact Ex.sub rfl rfl rfl) rfl ?_
      refine O.ex (Ex.assign rfl) rfl ?_
      refine O.nil ?_
      refine hK5 _ _ _ ?_
      refine W.ret ?_
      try dsimp only [thenQ, blockQ, retQ]
      first | refine ⟨_, ⟨_, _, rfl, rfl, rfl⟩, ?_⟩ | (refine retD_mark ?_; intro w H; refine ⟨_, ⟨_, _, rfl, rfl, rfl⟩, ?_⟩) | (refine retD_mark2 ?_; intro w H; refine ⟨_, ⟨_, _, rfl, rfl, rfl⟩, ?_⟩)
      first
      | exact ⟨congrArg (Value.int .i64) (hg.out u v (by omega)).symm, Holds.to (by assumption)⟩
      | exact ⟨congrArg (Value.int .i64) (by omega), mh_open.2 (Holds.to (by assumption))⟩
theorem refAt_ct {w : World} {m : Nat} {n u v : Int} {c : Int → Int → Int} {L : List HProp} (hg : Good n c) (H : Holds w (Rh m n c :: L)) :
    CT Try.prog 54 [.pointer (some ⟨m, 0, none⟩), .int .i64 u, .int .i64 v] w fun x w' => x = .int .i64 (c u v) ∧ Holds w' (Rh m n c :: L) := by
  have n2 := hg.n2
  have hd := hg.dg
  refine CT.enter (N := 30) Try.func54 rfl rfl rfl rfl ?_
  refine W.seq (fun K0 hK0 => ?_)
  refine W.region ?_
  refine O.ex (Ex.assign rfl) rfl ?_
  refine O.nil ?_
  refine hK0 _ _ _ ?_
  refine W.seq (fun K1 hK1 => ?_)
  refine W.seq (fun K2 hK2 => ?_)
  refine W.region ?_
  refine O.ex (Ex.move rfl) rfl ?_
  refine O.ex (Ex.move rfl) rfl ?_
  refine O.callF Try.call30 rfl rfl (CT.mono (vertexr_ct (Holds.to (by assumption))) ?_)
  rintro _ w ⟨rfl, H⟩
  refine O.ex (by first | exact Ex.notD rfl | exact Ex.not rfl) rfl ?_
  refine O.ex (Ex.move rfl) rfl ?_
  first | refine O.split_p (t := 11) rfl (fun h0 => ?_) (fun h0 => ?_) | refine O.split (t := 11) rfl (fun h0 => ?_) (fun h0 => ?_)
  · refine O.guard_f rfl rfl rfl rfl ?_
    refine O.guard_f rfl rfl rfl rfl ?_
    refine O.guard_f rfl rfl rfl rfl ?_
    refine O.guard_f rfl rfl rfl rfl ?_
    refine O.ex (Ex.pick_t rfl rfl) rfl ?_
    refine O.ex (Ex.move rfl) rfl ?_
    refine O.guard_f rfl rfl rfl rfl ?_
    refine O.guard_f rfl rfl rfl rfl ?_
    refine O.guard_f rfl rfl rfl rfl ?_
    refine O.ex (Ex.pick_t rfl rfl) rfl ?_
    refine O.nil ?_
    refine hK2 _ _ _ ?_
    refine W.cond_t rfl ?_
    refine W.seq (fun K3 hK3 => ?_)
    refine W.region ?_
    refine O.ex (Ex.assign rfl) rfl ?_
    refine O.nil ?_
    refine hK3 _ _ _ ?_
    refine W.ret ?_
    try dsimp only [thenQ, blockQ, retQ]
    first | refine ⟨_, ⟨_, _, rfl, rfl, rfl⟩, ?_⟩ | (refine retD_mark ?_; intro w H; refine ⟨_, ⟨_, _, rfl, rfl, rfl⟩, ?_⟩) | (refine retD_mark2 ?_; intro w H; refine ⟨_, ⟨_, _, rfl, rfl, rfl⟩, ?_⟩)
    first
    | exact ⟨congrArg (Value.int .i64) (hg.out u v (by omega)).symm, Holds.to (by assumption)⟩
    | (refine ⟨congrArg (Value.int .i64) ?_, Holds.to (by assumption)⟩
       rw [h2]; exact (hd _).symm)
    | exact ⟨rfl, rh_open.2 (Holds.to (by assumption))⟩
  · refine O.guard_t rfl rfl ?_
    refine O.ex (Ex.move rfl) rfl ?_
    refine O.guard_t rfl rfl ?_
    refine O.ex (Ex.move rfl) rfl ?_
    refine O.guard_t rfl rfl ?_
    refine O.callF Try.call30 rfl rfl (CT.mono (vertexr_ct (Holds.to (by assumption))) ?_)
    rintro _ w ⟨rfl, H⟩
    refine O.guard_t rfl rfl ?_
    refine O.ex (by first | exact Ex.notD rfl | exact Ex.not rfl) rfl ?_
    refine O.ex (Ex.pick_f rfl rfl) rfl ?_
    refine O.ex (Ex.move rfl) rfl ?_
    first | refine O.split_p (t := 17) rfl (fun h1 => ?_) (fun h1 => ?_) | refine O.split (t := 17) rfl (fun h1 => ?_) (fun h1 => ?_)
    · refine O.guard_f rfl rfl rfl rfl ?_
      refine O.guard_f rfl rfl rfl rfl ?_
      refine O.guard_f rfl rfl rfl rfl ?_
      refine O.ex (Ex.pick_t rfl rfl) rfl ?_
      refine O.nil ?_
      refine hK2 _ _ _ ?_
      refine W.cond_t rfl ?_
      refine W.seq (fun K4 hK4 => ?_)
      refine W.region ?_
      refine O.ex (Ex.assign rfl) rfl ?_
      refine O.nil ?_
      refine hK4 _ _ _ ?_
      refine W.ret ?_
      try dsimp only [thenQ, blockQ, retQ]
      first | refine ⟨_, ⟨_, _, rfl, rfl, rfl⟩, ?_⟩ | (refine retD_mark ?_; intro w H; refine ⟨_, ⟨_, _, rfl, rfl, rfl⟩, ?_⟩) | (refine retD_mark2 ?_; intro w H; refine ⟨_, ⟨_, _, rfl, rfl, rfl⟩, ?_⟩)
      first
      | exact ⟨congrArg (Value.int .i64) (hg.out u v (by omega)).symm, Holds.to (by assumption)⟩
      | (refine ⟨congrArg (Value.int .i64) ?_, Holds.to (by assumption)⟩
         rw [h2]; exact (hd _).symm)
      | exact ⟨rfl, rh_open.2 (Holds.to (by assumption))⟩
    · refine O.guard_t rfl rfl ?_
      refine O.ex (Ex.move rfl) rfl ?_
      refine O.guard_t rfl rfl ?_
      refine O.ex (Ex.move rfl) rfl ?_
      refine O.guard_t rfl rfl ?_
      refine O.ex (Ex.eqlI rfl rfl) rfl ?_
      refine O.ex (Ex.pick_f rfl rfl) rfl ?_
      refine O.nil ?_
      refine hK2 _ _ _ ?_
      first | refine W.cond_p rfl (fun h2 => ?_) (fun h2 => ?_) | refine W.cond_b rfl (fun h2 => ?_) (fun h2 => ?_)
      · refine W.seq (fun K5 hK5 => ?_)
        refine W.region ?_
        refine O.ex (Ex.assign rfl) rfl ?_
        refine O.nil ?_
        refine hK5 _ _ _ ?_
        refine W.ret ?_
        try dsimp only [thenQ, blockQ, retQ]
        first | refine ⟨_, ⟨_, _, rfl, rfl, rfl⟩, ?_⟩ | (refine retD_mark ?_; intro w H; refine ⟨_, ⟨_, _, rfl, rfl, rfl⟩, ?_⟩) | (refine retD_mark2 ?_; intro w H; refine ⟨_, ⟨_, _, rfl, rfl, rfl⟩, ?_⟩)
        first
        | exact ⟨congrArg (Value.int .i64) (hg.out u v (by omega)).symm, Holds.to (by assumption)⟩
        | (refine ⟨congrArg (Value.int .i64) ?_, Holds.to (by assumption)⟩
           rw [h2]; exact (hd _).symm)
        | exact ⟨rfl, rh_open.2 (Holds.to (by assumption))⟩
      · refine W.skip ?_
        refine hK1 _ _ _ ?_
        refine W.seq (fun K6 hK6 => ?_)
        refine W.region ?_
        have H := rh_open.1 (Holds.to (by assumption))
        refine O.ex (Ex.move rfl) rfl ?_
        refine O.ex (Ex.move rfl) rfl ?_
        refine O.ex (Ex.move rfl) rfl ?_
        refine O.ex (by first | exact Ex.nilPtr rfl | exact Ex.nilFunc rfl | exact Ex.nilYield rfl) rfl ?_
        refine O.ex (by first | exact Ex.field0 fld32_1 rfl | exact Ex.field fld32_1 rfl | exact Ex.fieldS fld32_1 rfl) rfl ?_
        refine O.ex (Ex.idxArr Try.runUnderlying30 Try.sizeOf29 rfl rfl) rfl ?_
        refine O.ex (Ex.idxArr Try.runUnderlying29 Try.sizeOf3 rfl rfl) rfl ?_
        refine O.ex (by first | exact Ex.loadM Try.isAgg3 rfl | exact Ex.loadVc Try.isAgg3 rfl | exact Ex.loadP Try.isAgg3 rfl | exact Ex.loadIn1 Try.isAgg3 rfl (Holds.to (by assumption)) | exact Ex.loadMh Try.isAgg3 rfl | exact Ex.loadR Try.isAgg3 rfl | exact Ex.loadQ Try.isAgg3 rfl) rfl ?_
        refine O.ex (Ex.assign rfl) rfl ?_
        refine O.nil ?_
        refine hK6 _ _ _ ?_
        refine W.ret ?_
        try dsimp only [thenQ, blockQ, retQ]
        first | refine ⟨_, ⟨_, _, rfl, rfl, rfl⟩, ?_⟩ | (refine retD_mark ?_; intro w H; refine ⟨_, ⟨_, _, rfl, rfl, rfl⟩, ?_⟩) | (refine retD_mark2 ?_; intro w H; refine ⟨_, ⟨_, _, rfl, rfl, rfl⟩, ?_⟩)
        first
        | exact ⟨congrArg (Value.int .i64) (hg.out u v (by omega)).symm, Holds.to (by assumption)⟩
        | (refine ⟨congrArg (Value.int .i64) ?_, Holds.to (by assumption)⟩
           rw [h2]; exact (hd _).symm)
        | exact ⟨rfl, rh_open.2 (Holds.to (by assumption))⟩
theorem vertices_ct {w : World} {m : Nat} {n : Int} {c : Int → Int → Int} {L : List HProp} (H : Holds w (Mh m n c :: L)) :
    CT Try.prog 55 [.pointer (some ⟨m, 0, none⟩)] w fun x w' => x = .int .i64 n ∧ Holds w' (Mh m n c :: L) := by
  have H := mh_open.1 H
  refine CT.enter (N := 7) Try.func55 rfl rfl rfl rfl ?_
  refine W.seq (fun K0 hK0 => ?_)
  refine W.region ?_
  refine O.ex (Ex.assign rfl) rfl ?_
  refine O.nil ?_
  refine hK0 _ _ _ ?_
  refine W.seq (fun K1 hK1 => ?_)
  refine W.region ?_
  refine O.ex (Ex.move rfl) rfl ?_
  refine O.ex (by first | exact Ex.nilPtr rfl | exact Ex.nilFunc rfl | exact Ex.nilYield rfl) rfl ?_
  refine O.ex (by first | exact Ex.field0 fld100_0 rfl | exact Ex.field fld100_0 rfl | exact Ex.fieldS fld100_0 rfl) rfl ?_
  refine O.ex (by first | exact Ex.loadMh Try.isAgg3 rfl | exact Ex.loadP Try.isAgg3 rfl | exact Ex.loadM Try.isAgg3 rfl | exact Ex.loadIn1 Try.isAgg3 rfl (Holds.to (by assumption)) | exact Ex.loadVc Try.isAgg3 rfl | exact Ex.loadR Try.isAgg3 rfl | exact Ex.loadQ Try.isAgg3 rfl) rfl ?_
  refine O.ex (Ex.assign rfl) rfl ?_
  refine O.nil ?_
  refine hK1 _ _ _ ?_
  refine W.ret ?_
  try dsimp only [thenQ, blockQ, retQ]
  first | refine ⟨_, ⟨_, _, rfl, rfl, rfl⟩, ?_⟩ | (refine retD_mark ?_; intro w H; refine ⟨_, ⟨_, _, rfl, rfl, rfl⟩, ?_⟩) | (refine retD_mark2 ?_; intro w H; refine ⟨_, ⟨_, _, rfl, rfl, rfl⟩, ?_⟩)
  exact ⟨rfl, mh_open.2 (Holds.to (by assumption))⟩
theorem new_ct {w : World} {n : Int} {L : List HProp} (H : Holds w L) :
    CT Try.prog 20 [.int .i64 n] w fun u w' => (¬ (1 ≤ n ∧ n ≤ 24) ∧ u = .tuple #[.pointer none, .int .i64 1] ∧ Holds w' L) ∨ ((1 ≤ n ∧ n ≤ 24) ∧ ∃ m, u = .tuple #[.pointer (some ⟨m, 0, none⟩), .int .i64 0] ∧ Holds w' (Mh m n noneM :: L)) := by
  refine CT.enter (N := 13) Try.func20 rfl rfl rfl rfl ?_
  refine W.seq (fun K0 hK0 => ?_)
  refine W.region ?_
  refine O.ex (Ex.assign rfl) rfl ?_
  refine O.ex (Ex.assign rfl) rfl ?_
  refine O.nil ?_
  refine hK0 _ _ _ ?_
  refine W.seq (fun K1 hK1 => ?_)
  refine W.seq (fun K2 hK2 => ?_)
  refine W.region ?_
  refine O.ex (Ex.move rfl) rfl ?_
  refine O.ex (Ex.lss rfl rfl) rfl ?_
  refine O.ex (Ex.move rfl) rfl ?_
  first | refine O.split_p (t := 6) rfl (fun h0 => ?_) (fun h0 => ?_) | refine O.split (t := 6) rfl (fun h0 => ?_) (fun h0 => ?_)
  · refine O.guard_f rfl rfl rfl rfl ?_
    refine O.guard_f rfl rfl rfl rfl ?_
    refine O.ex (Ex.pick_t rfl rfl) rfl ?_
    refine O.nil ?_
    refine hK2 _ _ _ ?_
    refine W.cond_t rfl ?_
    refine W.seq (fun K3 hK3 => ?_)
    refine W.region ?_
    refine O.ex (Ex.assign rfl) rfl ?_
    refine O.ex (Ex.assign rfl) rfl ?_
    refine O.nil ?_
    refine hK3 _ _ _ ?_
    refine W.ret ?_
    try dsimp only [thenQ, blockQ, retQ]
    first | refine ⟨_, ⟨_, _, rfl, rfl, _, _, rfl, rfl, rfl⟩, ?_⟩ | (refine retD_mark ?_; intro w H; refine ⟨_, ⟨_, _, rfl, rfl, _, _, rfl, rfl, rfl⟩, ?_⟩) | (refine retD_mark2 ?_; intro w H; refine ⟨_, ⟨_, _, rfl, rfl, _, _, rfl, rfl, rfl⟩, ?_⟩)
    first
    | exact .inl ⟨by omega, rfl, Holds.to (by assumption)⟩
    | (have H : Holds w (Mh b12 n noneM :: _) := H
       exact .inr ⟨by omega, b12, rfl, Holds.to (by assumption)⟩)
  · refine O.guard_t rfl rfl ?_
    refine O.ex (Ex.move rfl) rfl ?_
    refine O.guard_t rfl rfl ?_
    refine O.ex (Ex.gtr rfl rfl) rfl ?_
    refine O.ex (Ex.pick_f rfl rfl) rfl ?_
    refine O.nil ?_
    refine hK2 _ _ _ ?_
    first | refine W.cond_p rfl (fun h1 => ?_) (fun h1 => ?_) | refine W.cond_b rfl (fun h1 => ?_) (fun h1 => ?_)
    · refine W.seq (fun K4 hK4 => ?_)
      refine W.region ?_
      refine O.ex (Ex.assign rfl) rfl ?_
      refine O.ex (Ex.assign rfl) rfl ?_
      refine O.nil ?_
      refine hK4 _ _ _ ?_
      refine W.ret ?_
      try dsimp only [thenQ, blockQ, retQ]
      first | refine ⟨_, ⟨_, _, rfl, rfl, _, _, rfl, rfl, rfl⟩, ?_⟩ | (refine retD_mark ?_; intro w H; refine ⟨_, ⟨_, _, rfl, rfl, _, _, rfl, rfl, rfl⟩, ?_⟩) | (refine retD_mark2 ?_; intro w H; refine ⟨_, ⟨_, _, rfl, rfl, _, _, rfl, rfl, rfl⟩, ?_⟩)
      first
      | exact .inl ⟨by omega, rfl, Holds.to (by assumption)⟩
      | (have H : Holds w (Mh b12 n noneM :: _) := H
         exact .inr ⟨by omega, b12, rfl, Holds.to (by assumption)⟩)
    · refine W.skip ?_
      refine hK1 _ _ _ ?_
      refine W.seq (fun K5 hK5 => ?_)
      refine W.region ?_
      refine O.ex (Ex.move rfl) rfl ?_
      refine O.ex (Ex.buildM Try.runUnderlying100 zM (fun w => by simp [Try.sizeOf3, Try.sizeOf98]) rfl rfl) rfl ?_
      refine O.boxM rfl (fun b12 w H => ?_)
      refine O.ex (Ex.assign rfl) rfl ?_
      refine O.ex (Ex.assign rfl) rfl ?_
      refine O.nil ?_
      refine hK5 _ _ _ ?_
      refine W.ret ?_
      try dsimp only [thenQ, blockQ, retQ]
      first | refine ⟨_, ⟨_, _, rfl, rfl, _, _, rfl, rfl, rfl⟩, ?_⟩ | (refine retD_mark ?_; intro w H; refine ⟨_, ⟨_, _, rfl, rfl, _, _, rfl, rfl, rfl⟩, ?_⟩) | (refine retD_mark2 ?_; intro w H; refine ⟨_, ⟨_, _, rfl, rfl, _, _, rfl, rfl, rfl⟩, ?_⟩)
      first
      | exact .inl ⟨by omega, rfl, Holds.to (by assumption)⟩
      | (have H : Holds w (Mh b12 n noneM :: _) := H
         exact .inr ⟨by omega, b12, rfl, Holds.to (by assumption)⟩)
theorem put_ct {w : World} {m : Nat} {n u v g : Int} {c : Int → Int → Int} {L : List HProp} (hg : Good n c) (H : Holds w (Mh m n c :: L)) :
    CT Try.prog 22 [.pointer (some ⟨m, 0, none⟩), .int .i64 u, .int .i64 v, .int .i64 g] w fun x w' => x = .int .i64 (if okP n u v g then 0 else 1) ∧ Holds w' (Mh m n (putD n c u v g) :: L) := by
  have n2 := hg.n2
  refine CT.enter (N := 41) Try.func22 rfl rfl rfl rfl ?_
  refine W.seq (fun K0 hK0 => ?_)
  refine W.region ?_
  refine O.ex (Ex.assign rfl) rfl ?_
  refine O.nil ?_
  refine hK0 _ _ _ ?_
  refine W.seq (fun K1 hK1 => ?_)
  refine W.seq (fun K2 hK2 => ?_)
  refine W.region ?_
  refine O.ex (Ex.move rfl) rfl ?_
  refine O.ex (Ex.move rfl) rfl ?_
  refine O.callF Try.call53 rfl rfl (CT.mono (vertexm_ct (Holds.to (by assumption))) ?_)
  rintro _ w ⟨rfl, H⟩
  refine O.ex (by first | exact Ex.notD rfl | exact Ex.not rfl) rfl ?_
  refine O.ex (Ex.move rfl) rfl ?_
  first | refine O.split_p (t := 13) rfl (fun h0 => ?_) (fun h0 => ?_) | refine O.split (t := 13) rfl (fun h0 => ?_) (fun h0 => ?_)
  · refine O.guard_f rfl rfl rfl rfl ?_
    refine O.guard_f rfl rfl rfl rfl ?_
    refine O.guard_f rfl rfl rfl rfl ?_
    refine O.guard_f rfl rfl rfl rfl ?_
    refine O.ex (Ex.pick_t rfl rfl) rfl ?_
    refine O.ex (Ex.move rfl) rfl ?_
    refine O.guard_f rfl rfl rfl rfl ?_
    refine O.guard_f rfl rfl rfl rfl ?_
    refine O.guard_f rfl rfl rfl rfl ?_
    refine O.ex (Ex.pick_t rfl rfl) rfl ?_
    refine O.ex (Ex.move rfl) rfl ?_
    refine O.guard_f rfl rfl rfl rfl ?_
    refine O.guard_f rfl rfl rfl rfl ?_
    refine O.ex (Ex.pick_t rfl rfl) rfl ?_
    refine O.ex (Ex.move rfl) rfl ?_
    refine O.guard_f rfl rfl rfl rfl ?_
    refine O.guard_f rfl rfl rfl rfl ?_
    refine O.ex (Ex.pick_t rfl rfl) rfl ?_
    refine O.nil ?_
    refine hK2 _ _ _ ?_
    refine W.cond_t rfl ?_
    refine W.seq (fun K3 hK3 => ?_)
    refine W.region ?_
    refine O.ex (Ex.assign rfl) rfl ?_
    refine O.nil ?_
    refine hK3 _ _ _ ?_
    refine W.ret ?_
    try dsimp only [thenQ, blockQ, retQ]
    first | refine ⟨_, ⟨_, _, rfl, rfl, rfl⟩, ?_⟩ | (refine retD_mark ?_; intro w H; refine ⟨_, ⟨_, _, rfl, rfl, rfl⟩, ?_⟩) | (refine retD_mark2 ?_; intro w H; refine ⟨_, ⟨_, _, rfl, rfl, rfl⟩, ?_⟩)
    first
    | (have hno : ¬ okP n u v g := by unfold okP; omega
       refine ⟨by rw [if_neg hno]; rfl, ?_⟩
       unfold putD; rw [if_neg hno]; exact Holds.to (by assumption))
    | (have hok : okP n u v g := by unfold okP; omega
       refine ⟨by rw [if_pos hok]; rfl, ?_⟩
       unfold putD; rw [if_pos hok]
       rw [upd_neg] at H
       exact mh_open.2 (Holds.to (by assumption)))
  · refine O.guard_t rfl rfl ?_
    refine O.ex (Ex.move rfl) rfl ?_
    refine O.guard_t rfl rfl ?_
    refine O.ex (Ex.move rfl) rfl ?_
    refine O.guard_t rfl rfl ?_
    refine O.callF Try.call53 rfl rfl (CT.mono (vertexm_ct (Holds.to (by assumption))) ?_)
    rintro _ w ⟨rfl, H⟩
    refine O.guard_t rfl rfl ?_
    refine O.ex (by first | exact Ex.notD rfl | exact Ex.not rfl) rfl ?_
    refine O.ex (Ex.pick_f rfl rfl) rfl ?_
    refine O.ex (Ex.move rfl) rfl ?_
    first | refine O.split_p (t := 19) rfl (fun h1 => ?_) (fun h1 => ?_) | refine O.split (t := 19) rfl (fun h1 => ?_) (fun h1 => ?_)
    · refine O.guard_f rfl rfl rfl rfl ?_
      refine O.guard_f rfl rfl rfl rfl ?_
      refine O.guard_f rfl rfl rfl rfl ?_
      refine O.ex (Ex.pick_t rfl rfl) rfl ?_
      refine O.ex (Ex.move rfl) rfl ?_
      refine O.guard_f rfl rfl rfl rfl ?_
      refine O.guard_f rfl rfl rfl rfl ?_
      refine O.ex (Ex.pick_t rfl rfl) rfl ?_
      refine O.ex (Ex.move rfl) rfl ?_
      refine O.guard_f rfl rfl rfl rfl ?_
      refine O.guard_f rfl rfl rfl rfl ?_
      refine O.ex (Ex.pick_t rfl rfl) rfl ?_
      refine O.nil ?_
      refine hK2 _ _ _ ?_
      refine W.cond_t rfl ?_
      refine W.seq (fun K4 hK4 => ?_)
      refine W.region ?_
      refine O.ex (Ex.assign rfl) rfl ?_
      refine O.nil ?_
      refine hK4 _ _ _ ?_
      refine W.ret ?_
      try dsimp only [thenQ, blockQ, retQ]
      first | refine ⟨_, ⟨_, _, rfl, rfl, rfl⟩, ?_⟩ | (refine retD_mark ?_; intro w H; refine ⟨_, ⟨_, _, rfl, rfl, rfl⟩, ?_⟩) | (refine retD_mark2 ?_; intro w H; refine ⟨_, ⟨_, _, rfl, rfl, rfl⟩, ?_⟩)
      first
      | (have hno : ¬ okP n u v g := by unfold okP; omega
         refine ⟨by rw [if_neg hno]; rfl, ?_⟩
         unfold putD; rw [if_neg hno]; exact Holds.to (by assumption))
      | (have hok : okP n u v g := by unfold okP; omega
         refine ⟨by rw [if_pos hok]; rfl, ?_⟩
         unfold putD; rw [if_pos hok]
         rw [upd_neg] at H
         exact mh_open.2 (Holds.to (by assumption)))
    · refine O.guard_t rfl rfl ?_
      refine O.ex (Ex.move rfl) rfl ?_
      refine O.guard_t rfl rfl ?_
      refine O.ex (Ex.move rfl) rfl ?_
      refine O.guard_t rfl rfl ?_
      refine O.ex (Ex.eqlI rfl rfl) rfl ?_
      refine O.ex (Ex.pick_f rfl rfl) rfl ?_
      refine O.ex (Ex.move rfl) rfl ?_
      first | refine O.split_p (t := 24) rfl (fun h2 => ?_) (fun h2 => ?_) | refine O.split (t := 24) rfl (fun h2 => ?_) (fun h2 => ?_)
      · refine O.guard_f rfl rfl rfl rfl ?_
        refine O.guard_f rfl rfl rfl rfl ?_
        refine O.ex (Ex.pick_t rfl rfl) rfl ?_
        refine O.ex (Ex.move rfl) rfl ?_
        refine O.guard_f rfl rfl rfl rfl ?_
        refine O.guard_f rfl rfl rfl rfl ?_
        refine O.ex (Ex.pick_t rfl rfl) rfl ?_
        refine O.nil ?_
        refine hK2 _ _ _ ?_
        refine W.cond_t rfl ?_
        refine W.seq (fun K5 hK5 => ?_)
        refine W.region ?_
        refine O.ex (Ex.assign rfl) rfl ?_
        refine O.nil ?_
        refine hK5 _ _ _ ?_
        refine W.ret ?_
        try dsimp only [thenQ, blockQ, retQ]
        first | refine ⟨_, ⟨_, _, rfl, rfl, rfl⟩, ?_⟩ | (refine retD_mark ?_; intro w H; refine ⟨_, ⟨_, _, rfl, rfl, rfl⟩, ?_⟩) | (refine retD_mark2 ?_; intro w H; refine ⟨_, ⟨_, _, rfl, rfl, rfl⟩, ?_⟩)
        first
        | (have hno : ¬ okP n u v g := by unfold okP; omega
           refine ⟨by rw [if_neg hno]; rfl, ?_⟩
           unfold putD; rw [if_neg hno]; exact Holds.to (by assumption))
        | (have hok : okP n u v g := by unfold okP; omega
           refine ⟨by rw [if_pos hok]; rfl, ?_⟩
           unfold putD; rw [if_pos hok]
           rw [upd_neg] at H
           exact mh_open.2 (Holds.to (by assumption)))
      · refine O.guard_t rfl rfl ?_
        refine O.ex (Ex.move rfl) rfl ?_
        refine O.guard_t rfl rfl ?_
        refine O.ex (Ex.lss rfl rfl) rfl ?_
        refine O.ex (Ex.pick_f rfl rfl) rfl ?_
        refine O.ex (Ex.move rfl) rfl ?_
        first | refine O.split_p (t := 28) rfl (fun h3 => ?_) (fun h3 => ?_) | refine O.split (t := 28) rfl (fun h3 => ?_) (fun h3 => ?_)
        · refine O.guard_f rfl rfl rfl rfl ?_
          refine O.guard_f rfl rfl rfl rfl ?_
          refine O.ex (Ex.pick_t rfl rfl) rfl ?_
          refine O.nil ?_
          refine hK2 _ _ _ ?_
          refine W.cond_t rfl ?_
          refine W.seq (fun K6 hK6 => ?_)
          refine W.region ?_
          refine O.ex (Ex.assign rfl) rfl ?_
          refine O.nil ?_
          refine hK6 _ _ _ ?_
          refine W.ret ?_
          try dsimp only [thenQ, blockQ, retQ]
          first | refine ⟨_, ⟨_, _, rfl, rfl, rfl⟩, ?_⟩ | (refine retD_mark ?_; intro w H; refine ⟨_, ⟨_, _, rfl, rfl, rfl⟩, ?_⟩) | (refine retD_mark2 ?_; intro w H; refine ⟨_, ⟨_, _, rfl, rfl, rfl⟩, ?_⟩)
          first
          | (have hno : ¬ okP n u v g := by unfold okP; omega
             refine ⟨by rw [if_neg hno]; rfl, ?_⟩
             unfold putD; rw [if_neg hno]; exact Holds.to (by assumption))
          | (have hok : okP n u v g := by unfold okP; omega
             refine ⟨by rw [if_pos hok]; rfl, ?_⟩
             unfold putD; rw [if_pos hok]
             rw [upd_neg] at H
             exact mh_open.2 (Holds.to (by assumption)))
        · refine O.guard_t rfl rfl ?_
          refine O.ex (Ex.move rfl) rfl ?_
          refine O.guard_t rfl rfl ?_
          refine O.ex (Ex.gtr rfl rfl) rfl ?_
          refine O.ex (Ex.pick_f rfl rfl) rfl ?_
          refine O.nil ?_
          refine hK2 _ _ _ ?_
          first | refine W.cond_p rfl (fun h4 => ?_) (fun h4 => ?_) | refine W.cond_b rfl (fun h4 => ?_) (fun h4 => ?_)
          · refine W.seq (fun K7 hK7 => ?_)
            refine W.region ?_
            refine O.ex (Ex.assign rfl) rfl ?_
            refine O.nil ?_
            refine hK7 _ _ _ ?_
            refine W.ret ?_
            try dsimp only [thenQ, blockQ, retQ]
            first | refine ⟨_, ⟨_, _, rfl, rfl, rfl⟩, ?_⟩ | (refine retD_mark ?_; intro w H; refine ⟨_, ⟨_, _, rfl, rfl, rfl⟩, ?_⟩) | (refine retD_mark2 ?_; intro w H; refine ⟨_, ⟨_, _, rfl, rfl, rfl⟩, ?_⟩)
            first
            | (have hno : ¬ okP n u v g := by unfold okP; omega
               refine ⟨by rw [if_neg hno]; rfl, ?_⟩
               unfold putD; rw [if_neg hno]; exact Holds.to (by assumption))
            | (have hok : okP n u v g := by unfold okP; omega
               refine ⟨by rw [if_pos hok]; rfl, ?_⟩
               unfold putD; rw [if_pos hok]
               rw [upd_neg] at H
               exact mh_open.2 (Holds.to (by assumption)))
          · refine W.skip ?_
            refine hK1 _ _ _ ?_
            refine W.seq (fun K8 hK8 => ?_)
            refine W.region ?_
            have H := mh_open.1 (Holds.to (by assumption))
            refine O.ex (Ex.move rfl) rfl ?_
            refine O.ex (Ex.move rfl) rfl ?_
            refine O.ex (Ex.move rfl) rfl ?_
            refine O.ex (Ex.move rfl) rfl ?_
            refine O.ex (by first | exact Ex.subI rfl rfl | exact Ex.sub rfl rfl rfl) rfl ?_
            refine O.ex (by first | exact Ex.nilPtr rfl | exact Ex.nilFunc rfl | exact Ex.nilYield rfl) rfl ?_
            refine O.ex (by first | exact Ex.field0 fld100_1 rfl | exact Ex.field fld100_1 rfl | exact Ex.fieldS fld100_1 rfl) rfl ?_
            refine O.ex (Ex.idxArr Try.runUnderlying98 Try.sizeOf29 rfl rfl) rfl ?_
            refine O.ex (Ex.idxArr Try.runUnderlying29 Try.sizeOf3 rfl rfl) rfl ?_
            first | refine O.storeP Try.sizeOf3 rfl rfl (fun w H => ?_) | refine O.storeR Try.sizeOf3 rfl rfl (fun w H => ?_) | refine O.storeM Try.sizeOf3 rfl rfl (fun w H => ?_) | refine O.storeVc Try.sizeOf3 rfl rfl (fun w H => ?_)
            refine O.nil ?_
            refine hK8 _ _ _ ?_
            refine W.seq (fun K9 hK9 => ?_)
            refine W.region ?_
            refine O.ex (Ex.assign rfl) rfl ?_
            refine O.nil ?_
            refine hK9 _ _ _ ?_
            refine W.ret ?_
            try dsimp only [thenQ, blockQ, retQ]
            first | refine ⟨_, ⟨_, _, rfl, rfl, rfl⟩, ?_⟩ | (refine retD_mark ?_; intro w H; refine ⟨_, ⟨_, _, rfl, rfl, rfl⟩, ?_⟩) | (refine retD_mark2 ?_; intro w H; refine ⟨_, ⟨_, _, rfl, rfl, rfl⟩, ?_⟩)
            first
            | (have hno : ¬ okP n u v g := by unfold okP; omega
               refine ⟨by rw [if_neg hno]; rfl, ?_⟩
               unfold putD; rw [if_neg hno]; exact Holds.to (by assumption))
            | (have hok : okP n u v g := by unfold okP; omega
               refine ⟨by rw [if_pos hok]; rfl, ?_⟩
               unfold putD; rw [if_pos hok]
               rw [upd_neg] at H
               exact mh_open.2 (Holds.to (by assumption)))
theorem refPut_ct {w : World} {m : Nat} {n u v g : Int} {c : Int → Int → Int} {L : List HProp} (hg : Good n c) (H : Holds w (Rh m n c :: L)) :
    CT Try.prog 23 [.pointer (some ⟨m, 0, none⟩), .int .i64 u, .int .i64 v, .int .i64 g] w fun x w' => x = .int .i64 (if okP n u v g then 0 else 1) ∧ Holds w' (Rh m n (putD n c u v g) :: L) := by
  have n2 := hg.n2
  refine CT.enter (N := 40) Try.func23 rfl rfl rfl rfl ?_
  refine W.seq (fun K0 hK0 => ?_)
  refine W.region ?_
  refine O.ex (Ex.assign rfl) rfl ?_
  refine O.nil ?_
  refine hK0 _ _ _ ?_
  refine W.seq (fun K1 hK1 => ?_)
  refine W.seq (fun K2 hK2 => ?_)
  refine W.region ?_
  refine O.ex (Ex.move rfl) rfl ?_
  refine O.ex (Ex.move rfl) rfl ?_
  refine O.callF Try.call30 rfl rfl (CT.mono (vertexr_ct (Holds.to (by assumption))) ?_)
  rintro _ w ⟨rfl, H⟩
  refine O.ex (by first | exact Ex.notD rfl | exact Ex.not rfl) rfl ?_
  refine O.ex (Ex.move rfl) rfl ?_
  first | refine O.split_p (t := 13) rfl (fun h0 => ?_) (fun h0 => ?_) | refine O.split (t := 13) rfl (fun h0 => ?_) (fun h0 => ?_)
  · refine O.guard_f rfl rfl rfl rfl ?_
    refine O.guard_f rfl rfl rfl rfl ?_
    refine O.guard_f rfl rfl rfl rfl ?_
    refine O.guard_f rfl rfl rfl rfl ?_
    refine O.ex (Ex.pick_t rfl rfl) rfl ?_
    refine O.ex (Ex.move rfl) rfl ?_
    refine O.guard_f rfl rfl rfl rfl ?_
    refine O.guard_f rfl rfl rfl rfl ?_
    refine O.guard_f rfl rfl rfl rfl ?_
    refine O.ex (Ex.pick_t rfl rfl) rfl ?_
    refine O.ex (Ex.move rfl) rfl ?_
    refine O.guard_f rfl rfl rfl rfl ?_
    refine O.guard_f rfl rfl rfl rfl ?_
    refine O.ex (Ex.pick_t rfl rfl) rfl ?_
    refine O.ex (Ex.move rfl) rfl ?_
    refine O.guard_f rfl rfl rfl rfl ?_
    refine O.guard_f rfl rfl rfl rfl ?_
    refine O.ex (Ex.pick_t rfl rfl) rfl ?_
    refine O.nil ?_
    refine hK2 _ _ _ ?_
    refine W.cond_t rfl ?_
    refine W.seq (fun K3 hK3 => ?_)
    refine W.region ?_
    refine O.ex (Ex.assign rfl) rfl ?_
    refine O.nil ?_
    refine hK3 _ _ _ ?_
    refine W.ret ?_
    try dsimp only [thenQ, blockQ, retQ]
    first | refine ⟨_, ⟨_, _, rfl, rfl, rfl⟩, ?_⟩ | (refine retD_mark ?_; intro w H; refine ⟨_, ⟨_, _, rfl, rfl, rfl⟩, ?_⟩) | (refine retD_mark2 ?_; intro w H; refine ⟨_, ⟨_, _, rfl, rfl, rfl⟩, ?_⟩)
    first
    | (have hno : ¬ okP n u v g := by unfold okP; omega
       refine ⟨by rw [if_neg hno]; rfl, ?_⟩
       unfold putD; rw [if_neg hno]; exact Holds.to (by assumption))
    | (have hok : okP n u v g := by unfold okP; omega
       refine ⟨by rw [if_pos hok]; rfl, ?_⟩
       unfold putD; rw [if_pos hok]
       exact rh_open.2 (Holds.to (by assumption)))
  · refine O.guard_t rfl rfl ?_
    refine O.ex (Ex.move rfl) rfl ?_
    refine O.guard_t rfl rfl ?_
    refine O.ex (Ex.move rfl) rfl ?_
    refine O.guard_t rfl rfl ?_
    refine O.callF Try.call30 rfl rfl (CT.mono (vertexr_ct (Holds.to (by assumption))) ?_)
    rintro _ w ⟨rfl, H⟩
    refine O.guard_t rfl rfl ?_
    refine O.ex (by first | exact Ex.notD rfl | exact Ex.not rfl) rfl ?_
    refine O.ex (Ex.pick_f rfl rfl) rfl ?_
    refine O.ex (Ex.move rfl) rfl ?_
    first | refine O.split_p (t := 19) rfl (fun h1 => ?_) (fun h1 => ?_) | refine O.split (t := 19) rfl (fun h1 => ?_) (fun h1 => ?_)
    · refine O.guard_f rfl rfl rfl rfl ?_
      refine O.guard_f rfl rfl rfl rfl ?_
      refine O.guard_f rfl rfl rfl rfl ?_
      refine O.ex (Ex.pick_t rfl rfl) rfl ?_
      refine O.ex (Ex.move rfl) rfl ?_
      refine O.guard_f rfl rfl rfl rfl ?_
      refine O.guard_f rfl rfl rfl rfl ?_
      refine O.ex (Ex.pick_t rfl rfl) rfl ?_
      refine O.ex (Ex.move rfl) rfl ?_
      refine O.guard_f rfl rfl rfl rfl ?_
      refine O.guard_f rfl rfl rfl rfl ?_
      refine O.ex (Ex.pick_t rfl rfl) rfl ?_
      refine O.nil ?_
      refine hK2 _ _ _ ?_
      refine W.cond_t rfl ?_
      refine W.seq (fun K4 hK4 => ?_)
      refine W.region ?_
      refine O.ex (Ex.assign rfl) rfl ?_
      refine O.nil ?_
      refine hK4 _ _ _ ?_
      refine W.ret ?_
      try dsimp only [thenQ, blockQ, retQ]
      first | refine ⟨_, ⟨_, _, rfl, rfl, rfl⟩, ?_⟩ | (refine retD_mark ?_; intro w H; refine ⟨_, ⟨_, _, rfl, rfl, rfl⟩, ?_⟩) | (refine retD_mark2 ?_; intro w H; refine ⟨_, ⟨_, _, rfl, rfl, rfl⟩, ?_⟩)
      first
      | (have hno : ¬ okP n u v g := by unfold okP; omega
         refine ⟨by rw [if_neg hno]; rfl, ?_⟩
         unfold putD; rw [if_neg hno]; exact Holds.to (by assumption))
      | (have hok : okP n u v g := by unfold okP; omega
         refine ⟨by rw [if_pos hok]; rfl, ?_⟩
         unfold putD; rw [if_pos hok]
         exact rh_open.2 (Holds.to (by assumption)))
    · refine O.guard_t rfl rfl ?_
      refine O.ex (Ex.move rfl) rfl ?_
      refine O.guard_t rfl rfl ?_
      refine O.ex (Ex.move rfl) rfl ?_
      refine O.guard_t rfl rfl ?_
      refine O.ex (Ex.eqlI rfl rfl) rfl ?_
      refine O.ex (Ex.pick_f rfl rfl) rfl ?_
      refine O.ex (Ex.move rfl) rfl ?_
      first | refine O.split_p (t := 24) rfl (fun h2 => ?_) (fun h2 => ?_) | refine O.split (t := 24) rfl (fun h2 => ?_) (fun h2 => ?_)
      · refine O.guard_f rfl rfl rfl rfl ?_
        refine O.guard_f rfl rfl rfl rfl ?_
        refine O.ex (Ex.pick_t rfl rfl) rfl ?_
        refine O.ex (Ex.move rfl) rfl ?_
        refine O.guard_f rfl rfl rfl rfl ?_
        refine O.guard_f rfl rfl rfl rfl ?_
        refine O.ex (Ex.pick_t rfl rfl) rfl ?_
        refine O.nil ?_
        refine hK2 _ _ _ ?_
        refine W.cond_t rfl ?_
        refine W.seq (fun K5 hK5 => ?_)
        refine W.region ?_
        refine O.ex (Ex.assign rfl) rfl ?_
        refine O.nil ?_
        refine hK5 _ _ _ ?_
        refine W.ret ?_
        try dsimp only [thenQ, blockQ, retQ]
        first | refine ⟨_, ⟨_, _, rfl, rfl, rfl⟩, ?_⟩ | (refine retD_mark ?_; intro w H; refine ⟨_, ⟨_, _, rfl, rfl, rfl⟩, ?_⟩) | (refine retD_mark2 ?_; intro w H; refine ⟨_, ⟨_, _, rfl, rfl, rfl⟩, ?_⟩)
        first
        | (have hno : ¬ okP n u v g := by unfold okP; omega
           refine ⟨by rw [if_neg hno]; rfl, ?_⟩
           unfold putD; rw [if_neg hno]; exact Holds.to (by assumption))
        | (have hok : okP n u v g := by unfold okP; omega
           refine ⟨by rw [if_pos hok]; rfl, ?_⟩
           unfold putD; rw [if_pos hok]
           exact rh_open.2 (Holds.to (by assumption)))
      · refine O.guard_t rfl rfl ?_
        refine O.ex (Ex.move rfl) rfl ?_
        refine O.guard_t rfl rfl ?_
        refine O.ex (Ex.lss rfl rfl) rfl ?_
        refine O.ex (Ex.pick_f rfl rfl) rfl ?_
        refine O.ex (Ex.move rfl) rfl ?_
        first | refine O.split_p (t := 28) rfl (fun h3 => ?_) (fun h3 => ?_) | refine O.split (t := 28) rfl (fun h3 => ?_) (fun h3 => ?_)
        · refine O.guard_f rfl rfl rfl rfl ?_
          refine O.guard_f rfl rfl rfl rfl ?_
          refine O.ex (Ex.pick_t rfl rfl) rfl ?_
          refine O.nil ?_
          refine hK2 _ _ _ ?_
          refine W.cond_t rfl ?_
          refine W.seq (fun K6 hK6 => ?_)
          refine W.region ?_
          refine O.ex (Ex.assign rfl) rfl ?_
          refine O.nil ?_
          refine hK6 _ _ _ ?_
          refine W.ret ?_
          try dsimp only [thenQ, blockQ, retQ]
          first | refine ⟨_, ⟨_, _, rfl, rfl, rfl⟩, ?_⟩ | (refine retD_mark ?_; intro w H; refine ⟨_, ⟨_, _, rfl, rfl, rfl⟩, ?_⟩) | (refine retD_mark2 ?_; intro w H; refine ⟨_, ⟨_, _, rfl, rfl, rfl⟩, ?_⟩)
          first
          | (have hno : ¬ okP n u v g := by unfold okP; omega
             refine ⟨by rw [if_neg hno]; rfl, ?_⟩
             unfold putD; rw [if_neg hno]; exact Holds.to (by assumption))
          | (have hok : okP n u v g := by unfold okP; omega
             refine ⟨by rw [if_pos hok]; rfl, ?_⟩
             unfold putD; rw [if_pos hok]
             exact rh_open.2 (Holds.to (by assumption)))
        · refine O.guard_t rfl rfl ?_
          refine O.ex (Ex.move rfl) rfl ?_
          refine O.guard_t rfl rfl ?_
          refine O.ex (Ex.gtr rfl rfl) rfl ?_
          refine O.ex (Ex.pick_f rfl rfl) rfl ?_
          refine O.nil ?_
          refine hK2 _ _ _ ?_
          first | refine W.cond_p rfl (fun h4 => ?_) (fun h4 => ?_) | refine W.cond_b rfl (fun h4 => ?_) (fun h4 => ?_)
          · refine W.seq (fun K7 hK7 => ?_)
            refine W.region ?_
            refine O.ex (Ex.assign rfl) rfl ?_
            refine O.nil ?_
            refine hK7 _ _ _ ?_
            refine W.ret ?_
            try dsimp only [thenQ, blockQ, retQ]
            first | refine ⟨_, ⟨_, _, rfl, rfl, rfl⟩, ?_⟩ | (refine retD_mark ?_; intro w H; refine ⟨_, ⟨_, _, rfl, rfl, rfl⟩, ?_⟩) | (refine retD_mark2 ?_; intro w H; refine ⟨_, ⟨_, _, rfl, rfl, rfl⟩, ?_⟩)
            first
            | (have hno : ¬ okP n u v g := by unfold okP; omega
               refine ⟨by rw [if_neg hno]; rfl, ?_⟩
               unfold putD; rw [if_neg hno]; exact Holds.to (by assumption))
            | (have hok : okP n u v g := by unfold okP; omega
               refine ⟨by rw [if_pos hok]; rfl, ?_⟩
               unfold putD; rw [if_pos hok]
               exact rh_open.2 (Holds.to (by assumption)))
          · refine W.skip ?_
            refine hK1 _ _ _ ?_
            refine W.seq (fun K8 hK8 => ?_)
            refine W.region ?_
            have H := rh_open.1 (Holds.to (by assumption))
            refine O.ex (Ex.move rfl) rfl ?_
            refine O.ex (Ex.move rfl) rfl ?_
            refine O.ex (Ex.move rfl) rfl ?_
            refine O.ex (Ex.move rfl) rfl ?_
            refine O.ex (by first | exact Ex.nilPtr rfl | exact Ex.nilFunc rfl | exact Ex.nilYield rfl) rfl ?_
            refine O.ex (by first | exact Ex.field0 fld32_1 rfl | exact Ex.field fld32_1 rfl | exact Ex.fieldS fld32_1 rfl) rfl ?_
            refine O.ex (Ex.idxArr Try.runUnderlying30 Try.sizeOf29 rfl rfl) rfl ?_
            refine O.ex (Ex.idxArr Try.runUnderlying29 Try.sizeOf3 rfl rfl) rfl ?_
            first | refine O.storeP Try.sizeOf3 rfl rfl (fun w H => ?_) | refine O.storeR Try.sizeOf3 rfl rfl (fun w H => ?_) | refine O.storeM Try.sizeOf3 rfl rfl (fun w H => ?_) | refine O.storeVc Try.sizeOf3 rfl rfl (fun w H => ?_)
            refine O.nil ?_
            refine hK8 _ _ _ ?_
            refine W.seq (fun K9 hK9 => ?_)
            refine W.region ?_
            refine O.ex (Ex.assign rfl) rfl ?_
            refine O.nil ?_
            refine hK9 _ _ _ ?_
            refine W.ret ?_
            try dsimp only [thenQ, blockQ, retQ]
            first | refine ⟨_, ⟨_, _, rfl, rfl, rfl⟩, ?_⟩ | (refine retD_mark ?_; intro w H; refine ⟨_, ⟨_, _, rfl, rfl, rfl⟩, ?_⟩) | (refine retD_mark2 ?_; intro w H; refine ⟨_, ⟨_, _, rfl, rfl, rfl⟩, ?_⟩)
            first
            | (have hno : ¬ okP n u v g := by unfold okP; omega
               refine ⟨by rw [if_neg hno]; rfl, ?_⟩
               unfold putD; rw [if_neg hno]; exact Holds.to (by assumption))
            | (have hok : okP n u v g := by unfold okP; omega
               refine ⟨by rw [if_pos hok]; rfl, ?_⟩
               unfold putD; rw [if_pos hok]
               exact rh_open.2 (Holds.to (by assumption)))
theorem refNew_ct {w : World} {n : Int} {L : List HProp} (H : Holds w L) :
    CT Try.prog 21 [.int .i64 n] w fun u w' => ∃ r, u = .pointer (some ⟨r, 0, none⟩) ∧ Holds w' (Rh r n noneM :: L) := by
  refine CT.enter (N := 25) Try.func21 rfl rfl rfl rfl ?_
  refine W.seq (fun K0 hK0 => ?_)
  refine W.region ?_
  refine O.ex (Ex.assign rfl) rfl ?_
  refine O.nil ?_
  refine hK0 _ _ _ ?_
  refine W.seq (fun K1 hK1 => ?_)
  refine W.region ?_
  refine O.ex (Ex.move rfl) rfl ?_
  refine O.ex (Ex.buildM Try.runUnderlying32 zR (fun w => by simp [Try.sizeOf3, Try.sizeOf30]) rfl rfl) rfl ?_
  refine O.boxM rfl (fun b8 w H => ?_)
  refine O.ex (Ex.assign rfl) rfl ?_
  refine O.nil ?_
  refine hK1 _ _ _ ?_
  refine W.seq (fun K2 hK2 => ?_)
  refine W.seq (fun K3 hK3 => ?_)
  refine W.region ?_
  refine O.ex (Ex.assign rfl) rfl ?_
  refine O.nil ?_
  refine hK3 _ _ _ ?_
  refine W.block ?_
  refine W.loop (σ := Nat) (fun i => [(3, .pointer (some ⟨b8, 0, none⟩)), (4, .int .i64 (i : Int))]) (fun i ds w => ds = [] ∧ i ≤ 24 ∧ Holds w (mtx b8 32 [.int .i64 n] (fun a b => if a < (i : Nat) then 4611686018427387906 else 0) :: L)) (fun i => 24 - i) 0 ⟨rfl, rfl, trivial⟩ ⟨rfl, by omega, by rw [mtx_congr (D' := fun _ _ => 0) (fun u v h0 _ _ _ => if_neg (by omega))]; exact Holds.to (by assumption)⟩ ?_
  clear H
  rintro i _ w ⟨rfl, hi, H⟩
  refine W.seq (fun K4 hK4 => ?_)
  refine W.seq (fun K5 hK5 => ?_)
  refine W.region ?_
  refine O.ex (Ex.move rfl) rfl ?_
  refine O.ex (Ex.lss rfl rfl) rfl ?_
  refine O.nil ?_
  refine hK5 _ _ _ ?_
  first | refine W.cond_p rfl (fun hlt => ?_) (fun hge => ?_) | refine W.cond_b rfl (fun hlt => ?_) (fun hge => ?_)
  · refine W.skip ?_
    refine hK4 _ _ _ ?_
    refine W.seq (fun K6 hK6 => ?_)
    refine W.block ?_
    refine W.seq (fun K7 hK7 => ?_)
    refine W.region ?_
    refine O.ex (Ex.assign rfl) rfl ?_
    refine O.nil ?_
    refine hK7 _ _ _ ?_
    refine W.block ?_
    have H : Holds w (mtx b8 32 [.int .i64 n] (fun a b => if a < (i : Nat) ∨ (a = (i : Nat) ∧ b < ((0 : Nat) : Int)) then 4611686018427387906 else 0) :: L) := by
      rw [mtx_congr (D' := fun a b => if a < (i : Nat) then 4611686018427387906 else 0) (fun u v h0 _ h2 _ => by (repeat' split) <;> omega)]; exact Holds.to (by assumption)
    refine W.loop (σ := Nat) (fun j => [(3, .pointer (some ⟨b8, 0, none⟩)), (4, .int .i64 (i : Int)), (5, .int .i64 (j : Int))]) (fun j ds w => ds = [] ∧ j ≤ 24 ∧ Holds w (mtx b8 32 [.int .i64 n] (fun a b => if a < (i : Nat) ∨ (a = (i : Nat) ∧ b < (j : Nat)) then 4611686018427387906 else 0) :: L)) (fun j => 24 - j) 0 ⟨rfl, rfl, rfl, trivial⟩ ⟨rfl, by omega, Holds.to (by assumption)⟩ ?_
    clear H
    rintro j _ w ⟨rfl, hj, H⟩
    refine W.seq (fun K8 hK8 => ?_)
    refine W.seq (fun K9 hK9 => ?_)
    refine W.region ?_
    refine O.ex (Ex.move rfl) rfl ?_
    refine O.ex (Ex.lss rfl rfl) rfl ?_
    refine O.nil ?_
    refine hK9 _ _ _ ?_
    first | refine W.cond_p rfl (fun hlt2 => ?_) (fun hge2 => ?_) | refine W.cond_b rfl (fun hlt2 => ?_) (fun hge2 => ?_)
    · refine W.skip ?_
      refine hK8 _ _ _ ?_
      refine W.seq (fun K10 hK10 => ?_)
      refine W.block ?_
      refine W.region ?_
      refine O.ex (Ex.move rfl) rfl ?_
      refine O.ex (Ex.move rfl) rfl ?_
      refine O.ex (Ex.move rfl) rfl ?_
      refine O.ex (by first | exact Ex.nilPtr rfl | exact Ex.nilFunc rfl | exact Ex.nilYield rfl) rfl ?_
      refine O.ex (by first | exact Ex.field0 fld32_1 rfl | exact Ex.field fld32_1 rfl | exact Ex.fieldS fld32_1 rfl) rfl ?_
      refine O.ex (Ex.idxArr Try.runUnderlying30 Try.sizeOf29 rfl rfl) rfl ?_
      refine O.ex (Ex.idxArr Try.runUnderlying29 Try.sizeOf3 rfl rfl) rfl ?_
      first | refine O.storeP Try.sizeOf3 rfl rfl (fun w H => ?_) | refine O.storeR Try.sizeOf3 rfl rfl (fun w H => ?_) | refine O.storeM Try.sizeOf3 rfl rfl (fun w H => ?_) | refine O.storeVc Try.sizeOf3 rfl rfl (fun w H => ?_)
      refine O.nil ?_
      refine hK10 _ _ _ ?_
      refine W.region ?_
      refine O.ex (Ex.move rfl) rfl ?_
      refine O.ex (by first | exact Ex.addI rfl rfl | exact Ex.add rfl rfl rfl) rfl ?_
      refine O.ex (Ex.assign rfl) rfl ?_
      refine O.nil ?_
      rw [show upd2 (fun (a b : Int) => if a < (i : Nat) ∨ (a = (i : Nat) ∧ b < (j : Nat)) then 4611686018427387906 else 0) (i : Nat) (j : Nat) 4611686018427387906 = (fun (a b : Int) => if a < (i : Nat) ∨ (a = (i : Nat) ∧ b < ((j + 1 : Nat) : Int)) then 4611686018427387906 else 0) from by funext a b; unfold upd2; dsimp only; (repeat' split) <;> omega] at H
      exact ⟨j + 1, ⟨rfl, rfl, rfl, trivial⟩, ⟨rfl, by omega, Holds.to (by assumption)⟩, by omega⟩
    · refine W.exit ?_
      refine hK6 _ _ _ ?_
      refine W.region ?_
      refine O.ex (Ex.move rfl) rfl ?_
      refine O.ex (by first | exact Ex.addI rfl rfl | exact Ex.add rfl rfl rfl) rfl ?_
      refine O.ex (Ex.assign rfl) rfl ?_
      refine O.nil ?_
      have H : Holds w (mtx b8 32 [.int .i64 n] (fun a b => if a < ((i + 1 : Nat) : Int) then 4611686018427387906 else 0) :: L) := by
        rw [mtx_congr (D' := fun a b => if a < (i : Nat) ∨ (a = (i : Nat) ∧ b < (j : Nat)) then 4611686018427387906 else 0) (fun u v h0 _ h2 _ => by (repeat' split) <;> omega)]; exact Holds.to (by assumption)
      exact ⟨i + 1, ⟨rfl, rfl, trivial⟩, ⟨rfl, by omega, Holds.to (by assumption)⟩, by omega⟩
  · refine W.exit ?_
    refine hK2 _ _ _ ?_
    refine W.seq (fun K11 hK11 => ?_)
    refine W.region ?_
    refine O.ex (Ex.move rfl) rfl ?_
    refine O.ex (Ex.assign rfl) rfl ?_
    refine O.nil ?_
    refine hK11 _ _ _ ?_
    refine W.ret ?_
    try dsimp only [thenQ, blockQ, retQ]
    first | refine ⟨_, ⟨_, _, rfl, rfl, rfl⟩, ?_⟩ | (refine retD_mark ?_; intro w H; refine ⟨_, ⟨_, _, rfl, rfl, rfl⟩, ?_⟩) | (refine retD_mark2 ?_; intro w H; refine ⟨_, ⟨_, _, rfl, rfl, rfl⟩, ?_⟩)
    refine ⟨b8, rfl, ?_⟩
    show Holds w (mtx _ _ _ noneM :: L)
    rw [mtx_congr (D := noneM) (D' := fun a b => if a < (i : Nat) then 4611686018427387906 else 0) (fun u v h0 h1 _ _ => (if_pos (by omega)).symm)]; exact Holds.to (by assumption)
theorem copy_ct {w : World} {m : Nat} {n : Int} {c : Int → Int → Int} {L : List HProp} (H : Holds w (Mh m n c :: L)) :
    CT Try.prog 29 [.pointer (some ⟨m, 0, none⟩)] w fun x w' => ∃ k, x = .pointer (some ⟨k, 0, none⟩) ∧ Holds w' (Mh k n c :: Mh m n c :: L) := by
  have H := mh_open.1 H
  refine CT.enter (N := 7) Try.func29 rfl rfl rfl rfl ?_
  refine W.seq (fun K0 hK0 => ?_)
  refine W.region ?_
  refine O.ex (Ex.assign rfl) rfl ?_
  refine O.nil ?_
  refine hK0 _ _ _ ?_
  refine W.seq (fun K1 hK1 => ?_)
  refine W.region ?_
  refine O.ex (Ex.move rfl) rfl ?_
  refine O.ex (by first | exact Ex.nilPtr rfl | exact Ex.nilFunc rfl | exact Ex.nilYield rfl) rfl ?_
  refine O.ex (Ex.loadMall Try.isAgg100 Try.sizeOf100 rfl rfl) rfl ?_
  refine O.allocM [.int .i64 0] zM (fun b3 w H => ?_)
  refine O.storeMall (hd := [.int .i64 0]) Try.sizeOf100 rfl rfl rfl rfl rfl (fun w H => ?_)
  refine O.nil ?_
  refine hK1 _ _ _ ?_
  refine W.seq (fun K2 hK2 => ?_)
  refine W.region ?_
  refine O.ex (Ex.assign rfl) rfl ?_
  refine O.nil ?_
  refine hK2 _ _ _ ?_
  refine W.ret ?_
  try dsimp only [thenQ, blockQ, retQ]
  first | refine ⟨_, ⟨_, _, rfl, rfl, rfl⟩, ?_⟩ | (refine retD_mark ?_; intro w H; refine ⟨_, ⟨_, _, rfl, rfl, rfl⟩, ?_⟩) | (refine retD_mark2 ?_; intro w H; refine ⟨_, ⟨_, _, rfl, rfl, rfl⟩, ?_⟩)
  exact ⟨b3, rfl, Holds.to (by assumption)⟩
def capsS (b3 b5 b4 m : Nat) (lv : Value) (v : Int) : HProp := star [pt b3 (.cells #[.pointer (some ⟨m, 0, none⟩)] 25 (0, 0)), pt b5 (.cells #[lv] 37 (0, 0)), pt b4 (.cells #[.int .i64 v] 3 (0, 0))]
theorem capsS_open {w : World} {b3 b5 b4 m : Nat} {lv : Value} {v : Int} {L : List HProp} : Holds w (capsS b3 b5 b4 m lv v :: L) ↔ Holds w (pt b3 (.cells #[.pointer (some ⟨m, 0, none⟩)] 25 (0, 0)) :: pt b5 (.cells #[lv] 37 (0, 0)) :: pt b4 (.cells #[.int .i64 v] 3 (0, 0)) :: L) := by
  unfold capsS
  simp only [Holds.star, List.cons_append, List.nil_append]
/-- What the iterator over a vertex's steps tells. -/
theorem steps1_ct {w : World} {b3 b5 b4 m : Nat} {lv fv : Value} {n v : Int} {c : Int → Int → Int} {g : Int → Int} {J : Nat → List HProp} {φ : Nat → Prop} {S : World → Prop} (hn2 : n ≤ 24) (hn1 : 1 ≤ n) (hφ : φ 0)
    (H : Holds w (capsS b3 b5 b4 m lv v :: Mh m n c :: J 0))
    (hl : ∀ (i : Nat) w, Holds w (capsS b3 b5 b4 m lv v :: Mh m n c :: J i) → VT Try.prog lv [.int .i64 v, .int .i64 (i : Int)] w fun u w' => u = .int .i64 (g i) ∧ Holds w' (capsS b3 b5 b4 m lv v :: Mh m n c :: J i))
    (hy : ∀ (i : Nat) w, (i : Int) < n → g i ≠ 4611686018427387906 → φ i → Holds w (capsS b3 b5 b4 m lv v :: Mh m n c :: J i) →
      VT Try.prog fv [.int .i64 (i : Int), .int .i64 (g i)] w fun u w' => (u = .bool true ∧ φ (i + 1) ∧ Holds w' (capsS b3 b5 b4 m lv v :: Mh m n c :: J (i + 1))) ∨ (u = .bool false ∧ S w'))
    (hno : ∀ (i : Nat) w, (i : Int) < n → ¬ g i ≠ 4611686018427387906 → φ i → Holds w (capsS b3 b5 b4 m lv v :: Mh m n c :: J i) → φ (i + 1) ∧ Holds w (capsS b3 b5 b4 m lv v :: Mh m n c :: J (i + 1))) :
    CT Try.prog 98 [fv, .pointer (some ⟨b3, 0, none⟩), .pointer (some ⟨b5, 0, none⟩), .pointer (some ⟨b4, 0, none⟩)] w fun _ w' => (φ n.toNat ∧ Holds w' (capsS b3 b5 b4 m lv v :: Mh m n c :: J n.toNat)) ∨ S w' := by
  have H := capsS_open.1 H
  refine CT.enter (N := 28) Try.func98 rfl rfl rfl rfl ?_
  refine W.seq (fun K0 hK0 => ?_)
  refine W.region ?_
  refine O.ex (by first | exact Ex.loadP Try.isAgg25 rfl | exact Ex.loadQ Try.isAgg25 rfl | exact Ex.loadMh Try.isAgg25 rfl | exact Ex.loadR Try.isAgg25 rfl | exact Ex.loadIn1 Try.isAgg25 rfl (Holds.to (by assumption)) | exact Ex.loadM Try.isAgg25 rfl | exact Ex.loadVc Try.isAgg25 rfl) rfl ?_
  refine O.ex (by first | exact Ex.nilPtr rfl | exact Ex.nilFunc rfl | exact Ex.nilYield rfl) rfl ?_
  refine O.ex (by first | exact Ex.field0 fld100_0 rfl | exact Ex.field fld100_0 rfl | exact Ex.fieldS fld100_0 rfl) rfl ?_
  have H := mh_open.1 (Holds.to (by assumption))
  refine O.ex (by first | exact Ex.loadMh Try.isAgg3 rfl | exact Ex.loadP Try.isAgg3 rfl | exact Ex.loadM Try.isAgg3 rfl | exact Ex.loadIn1 Try.isAgg3 rfl (Holds.to (by assumption)) | exact Ex.loadVc Try.isAgg3 rfl | exact Ex.loadR Try.isAgg3 rfl | exact Ex.loadQ Try.isAgg3 rfl) rfl ?_
  refine O.ex (Ex.move rfl) rfl ?_
  refine O.nil ?_
  refine hK0 _ _ _ ?_
  refine W.block ?_
  have H := capsS_open.2 (Holds.to (by assumption))
  refine W.loop (σ := Nat) (fun i => [(0, fv), (1, .pointer (some ⟨b3, 0, none⟩)), (2, .pointer (some ⟨b5, 0, none⟩)), (3, .pointer (some ⟨b4, 0, none⟩)), (10, .int .i64 n), (11, .int .i64 (i : Int))]) (fun i ds w => ds = [] ∧ (i : Int) ≤ n ∧ φ i ∧ Holds w (capsS b3 b5 b4 m lv v :: Mh m n c :: J i)) (fun i => n.toNat - i) 0 ⟨rfl, rfl, rfl, rfl, rfl, rfl, trivial⟩ ⟨rfl, by omega, hφ, Holds.to (by assumption)⟩ ?_
  clear H
  rintro i _ w ⟨rfl, hi, hφi, H⟩
  refine W.seq (fun K1 hK1 => ?_)
  refine W.region ?_
  refine O.ex (Ex.lss rfl rfl) rfl ?_
  refine O.nil ?_
  refine hK1 _ _ _ ?_
  refine W.seq (fun K2 hK2 => ?_)
  first | refine W.cond_p rfl (fun hlt => ?_) (fun hge => ?_) | refine W.cond_b rfl (fun hlt => ?_) (fun hge => ?_)
  · refine W.skip ?_
    refine hK2 _ _ _ ?_
    refine W.seq (fun K3 hK3 => ?_)
    refine W.block ?_
    refine W.seq (fun K4 hK4 => ?_)
    refine W.region ?_
    refine O.ex (Ex.move rfl) rfl ?_
    refine O.ex (Ex.assign rfl) rfl ?_
    refine O.nil ?_
    refine hK4 _ _ _ ?_
    refine W.seq (fun K5 hK5 => ?_)
    refine W.region ?_
    have H := capsS_open.1 H
    refine O.ex (by first | exact Ex.loadP Try.isAgg37 rfl | exact Ex.loadQ Try.isAgg37 rfl | exact Ex.loadMh Try.isAgg37 rfl | exact Ex.loadR Try.isAgg37 rfl | exact Ex.loadIn1 Try.isAgg37 rfl (Holds.to (by assumption)) | exact Ex.loadM Try.isAgg37 rfl | exact Ex.loadVc Try.isAgg37 rfl) rfl ?_
    refine O.ex (by first | exact Ex.loadP Try.isAgg3 rfl | exact Ex.loadQ Try.isAgg3 rfl | exact Ex.loadMh Try.isAgg3 rfl | exact Ex.loadR Try.isAgg3 rfl | exact Ex.loadIn1 Try.isAgg3 rfl (Holds.to (by assumption)) | exact Ex.loadM Try.isAgg3 rfl | exact Ex.loadVc Try.isAgg3 rfl) rfl ?_
    refine O.ex (Ex.move rfl) rfl ?_
    refine O.callVT rfl rfl rfl (VT.mono (hl i w (capsS_open.2 (Holds.to (by assumption)))) ?_)
    rintro _ w ⟨rfl, H⟩
    refine O.ex (Ex.assign rfl) rfl ?_
    refine O.nil ?_
    refine hK5 _ _ _ ?_
    refine W.seq (fun K6 hK6 => ?_)
    refine W.region ?_
    refine O.ex (Ex.move rfl) rfl ?_
    refine O.ex (Ex.neqI rfl rfl) rfl ?_
    refine O.ex (Ex.move rfl) rfl ?_
    first | refine O.split_p (t := 20) rfl (fun hyes => ?_) (fun hnn => ?_) | refine O.split (t := 20) rfl (fun hyes => ?_) (fun hnn => ?_)
    · refine O.guard_t rfl rfl ?_
      refine O.ex (Ex.move rfl) rfl ?_
      refine O.guard_t rfl rfl ?_
      refine O.ex (Ex.move rfl) rfl ?_
      refine O.guard_t rfl rfl ?_
      refine O.ex (Ex.move rfl) rfl ?_
      refine O.guard_t rfl rfl ?_
      refine O.callVT rfl rfl rfl (VT.mono (hy i w hlt hyes hφi (Holds.to (by assumption))) ?_)
      rintro _ w hh
      obtain (⟨rfl, hφ2, H⟩ | ⟨rfl, H⟩) := hh
      · refine O.guard_t rfl rfl ?_
        refine O.ex (by first | exact Ex.notD rfl | exact Ex.not rfl) rfl ?_
        refine O.ex (Ex.pick_t rfl rfl) rfl ?_
        refine O.nil ?_
        refine hK6 _ _ _ ?_
        refine W.known_f rfl (by first | rfl | decide | (simp; done) | omega) ?_
        refine W.skip ?_
        refine hK3 _ _ _ ?_
        refine W.region ?_
        refine O.ex (by first | exact Ex.addI rfl rfl | exact Ex.add rfl rfl rfl) rfl ?_
        refine O.ex (Ex.move rfl) rfl ?_
        refine O.nil ?_
        first
        | exact ⟨i + 1, ⟨rfl, rfl, rfl, rfl, rfl, rfl, trivial⟩, ⟨rfl, by omega, hφ2, Holds.to (by assumption)⟩, by omega⟩
        | (have hnn2 := hno i w hlt hnn hφi (Holds.to (by assumption))
           exact ⟨i + 1, ⟨rfl, rfl, rfl, rfl, rfl, rfl, trivial⟩, ⟨rfl, by omega, hnn2.1, hnn2.2⟩, by omega⟩)
      · refine O.guard_t rfl rfl ?_
        refine O.ex (by first | exact Ex.notD rfl | exact Ex.not rfl) rfl ?_
        refine O.ex (Ex.pick_t rfl rfl) rfl ?_
        refine O.nil ?_
        refine hK6 _ _ _ ?_
        refine W.known_t rfl (by first | rfl | decide | (simp; done) | omega) ?_
        refine W.ret ?_
        try dsimp only [thenQ, blockQ, retQ]
        first | refine ⟨_, rfl, ?_⟩ | (refine retD_mark ?_; intro w H; refine ⟨_, rfl, ?_⟩) | (refine retD_mark2 ?_; intro w H; refine ⟨_, rfl, ?_⟩)
        first
        | exact .inr H
        | (obtain rfl : i = n.toNat := by omega
           exact .inl ⟨hφi, Holds.to (by assumption)⟩)
    · refine O.guard_f rfl rfl rfl rfl ?_
      refine O.guard_f rfl rfl rfl rfl ?_
      refine O.guard_f rfl rfl rfl rfl ?_
      refine O.guard_f rfl rfl rfl rfl ?_
      refine O.guard_f rfl rfl rfl rfl ?_
      refine O.ex (Ex.pick_f rfl rfl) rfl ?_
      refine O.nil ?_
      refine hK6 _ _ _ ?_
      refine W.cond_f rfl ?_
      refine W.skip ?_
      refine hK3 _ _ _ ?_
      refine W.region ?_
      refine O.ex (by first | exact Ex.addI rfl rfl | exact Ex.add rfl rfl rfl) rfl ?_
      refine O.ex (Ex.move rfl) rfl ?_
      refine O.nil ?_
      first
      | exact ⟨i + 1, ⟨rfl, rfl, rfl, rfl, rfl, rfl, trivial⟩, ⟨rfl, by omega, hφ2, Holds.to (by assumption)⟩, by omega⟩
      | (have hnn2 := hno i w hlt hnn hφi (Holds.to (by assumption))
         exact ⟨i + 1, ⟨rfl, rfl, rfl, rfl, rfl, rfl, trivial⟩, ⟨rfl, by omega, hnn2.1, hnn2.2⟩, by omega⟩)
  · refine W.exit ?_
    try dsimp only [thenQ, blockQ, retQ]
    first | refine ⟨_, rfl, ?_⟩ | (refine retD_mark ?_; intro w H; refine ⟨_, rfl, ?_⟩) | (refine retD_mark2 ?_; intro w H; refine ⟨_, rfl, ?_⟩)
    first
    | exact .inr H
    | (obtain rfl : i = n.toNat := by omega
       exact .inl ⟨hφi, Holds.to (by assumption)⟩)
theorem steps_ct {w : World} {m : Nat} {v : Int} {lv : Value} {L : List HProp} (hlv : lv.oneCell' = true) (H : Holds w L) :
    CT Try.prog 74 [.pointer (some ⟨m, 0, none⟩), .int .i64 v, lv] w fun x w' => ∃ b3 b5 b4, x = .func (.func 98) #[] #[.pointer (some ⟨b3, 0, none⟩), .pointer (some ⟨b5, 0, none⟩), .pointer (some ⟨b4, 0, none⟩)] ∧ Holds w' (capsS b3 b5 b4 m lv v :: L) := by
  refine CT.enter (N := 8) Try.func74 rfl rfl rfl rfl ?_
  refine W.seq (fun K0 hK0 => ?_)
  refine W.region ?_
  refine O.boxP rfl (fun b3 w H => ?_)
  refine O.boxP rfl (fun b4 w H => ?_)
  refine O.boxP rfl (fun b5 w H => ?_)
  rw [cells_one hlv] at H
  refine O.ex (Ex.assign rfl) rfl ?_
  refine O.nil ?_
  refine hK0 _ _ _ ?_
  refine W.seq (fun K1 hK1 => ?_)
  refine W.region ?_
  refine O.ex (Ex.makeFunc rfl rfl) rfl ?_
  refine O.ex (Ex.assign rfl) rfl ?_
  refine O.nil ?_
  refine hK1 _ _ _ ?_
  refine W.ret ?_
  try dsimp only [thenQ, blockQ, retQ]
  first | refine ⟨_, ⟨_, _, rfl, rfl, rfl⟩, ?_⟩ | (refine retD_mark ?_; intro w H; refine ⟨_, ⟨_, _, rfl, rfl, rfl⟩, ?_⟩) | (refine retD_mark2 ?_; intro w H; refine ⟨_, ⟨_, _, rfl, rfl, rfl⟩, ?_⟩)
  exact ⟨b3, b5, b4, rfl, capsS_open.2 (Holds.to (by assumption))⟩
abbrev atV (m : Nat) : Value := .func (.func 19) #[.pointer (some ⟨m, 0, none⟩)] #[]
abbrev inV (b : Nat) : Value := .func (.func 75) #[] #[.pointer (some ⟨b, 0, none⟩)]
theorem vtAt {w : World} {m : Nat} {n u v : Int} {c : Int → Int → Int} {L : List HProp} (hg : Good n c) (H : Holds w (Mh m n c :: L)) :
    VT Try.prog (atV m) [.int .i64 u, .int .i64 v] w fun x w' => x = .int .i64 (c u v) ∧ Holds w' (Mh m n c :: L) := VT.fn Try.call19 (at_ct hg H)
def cap2 (b m : Nat) : HProp := pt b (.cells #[.pointer (some ⟨m, 0, none⟩)] 25 (0, 0))
theorem in1_ct {w : World} {b m : Nat} {n u v : Int} {c : Int → Int → Int} {L : List HProp} (hg : Good n c) (H : Holds w (Mh m n c :: cap2 b m :: L)) :
    CT Try.prog 75 [.int .i64 u, .int .i64 v, .pointer (some ⟨b, 0, none⟩)] w fun x w' => x = .int .i64 (c v u) ∧ Holds w' (Mh m n c :: cap2 b m :: L) := by
  have H := H.swap
  unfold cap2 at H
  refine CT.enter (N := 10) Try.func75 rfl rfl rfl rfl ?_
  refine W.seq (fun K0 hK0 => ?_)
  refine W.region ?_
  refine O.ex (Ex.assign rfl) rfl ?_
  refine O.nil ?_
  refine hK0 _ _ _ ?_
  refine W.seq (fun K1 hK1 => ?_)
  refine W.region ?_
  refine O.ex (by first | exact Ex.loadP Try.isAgg25 rfl | exact Ex.loadQ Try.isAgg25 rfl | exact Ex.loadMh Try.isAgg25 rfl | exact Ex.loadR Try.isAgg25 rfl | exact Ex.loadIn1 Try.isAgg25 rfl (Holds.to (by assumption)) | exact Ex.loadM Try.isAgg25 rfl | exact Ex.loadVc Try.isAgg25 rfl) rfl ?_
  refine O.ex (Ex.move rfl) rfl ?_
  refine O.ex (Ex.move rfl) rfl ?_
  refine O.callF Try.call19 rfl rfl (CT.mono (at_ct hg (Holds.to (by assumption))) ?_)
  rintro _ w ⟨rfl, H⟩
  refine O.ex (Ex.assign rfl) rfl ?_
  refine O.nil ?_
  refine hK1 _ _ _ ?_
  refine W.ret ?_
  try dsimp only [thenQ, blockQ, retQ]
  first | refine ⟨_, ⟨_, _, rfl, rfl, rfl⟩, ?_⟩ | (refine retD_mark ?_; intro w H; refine ⟨_, ⟨_, _, rfl, rfl, rfl⟩, ?_⟩) | (refine retD_mark2 ?_; intro w H; refine ⟨_, ⟨_, _, rfl, rfl, rfl⟩, ?_⟩)
  exact ⟨rfl, by first | assumption | exact Holds.to (by assumption)⟩
theorem vtIn {w : World} {b m : Nat} {n u v : Int} {c : Int → Int → Int} {L : List HProp} (hg : Good n c) (H : Holds w (Mh m n c :: cap2 b m :: L)) :
    VT Try.prog (inV b) [.int .i64 u, .int .i64 v] w fun x w' => x = .int .i64 (c v u) ∧ Holds w' (Mh m n c :: cap2 b m :: L) := VT.fn Try.call75 (in1_ct hg H)
theorem out_ct {w : World} {m : Nat} {v : Int} {L : List HProp} (H : Holds w L) :
    CT Try.prog 56 [.pointer (some ⟨m, 0, none⟩), .int .i64 v] w fun x w' => ∃ b3 b5 b4, x = .func (.func 98) #[] #[.pointer (some ⟨b3, 0, none⟩), .pointer (some ⟨b5, 0, none⟩), .pointer (some ⟨b4, 0, none⟩)] ∧ Holds w' (capsS b3 b5 b4 m (atV m) v :: L) := by
  refine CT.enter (N := 10) Try.func56 rfl rfl rfl rfl ?_
  refine W.seq (fun K0 hK0 => ?_)
  refine W.region ?_
  refine O.ex (Ex.assign rfl) rfl ?_
  refine O.nil ?_
  refine hK0 _ _ _ ?_
  refine W.seq (fun K1 hK1 => ?_)
  refine W.region ?_
  refine O.ex (Ex.move rfl) rfl ?_
  refine O.ex (Ex.move rfl) rfl ?_
  refine O.ex (Ex.move rfl) rfl ?_
  refine O.ex (Ex.makeFunc rfl rfl) rfl ?_
  refine O.callF Try.call74 rfl rfl (CT.mono (steps_ct (lv := atV m) rfl (Holds.to (by assumption))) ?_)
  rintro _ w ⟨b3, b5, b4, rfl, H⟩
  refine O.ex (Ex.assign rfl) rfl ?_
  refine O.nil ?_
  refine hK1 _ _ _ ?_
  refine W.ret ?_
  try dsimp only [thenQ, blockQ, retQ]
  first | refine ⟨_, ⟨_, _, rfl, rfl, rfl⟩, ?_⟩ | (refine retD_mark ?_; intro w H; refine ⟨_, ⟨_, _, rfl, rfl, rfl⟩, ?_⟩) | (refine retD_mark2 ?_; intro w H; refine ⟨_, ⟨_, _, rfl, rfl, rfl⟩, ?_⟩)
  exact ⟨b3, b5, b4, rfl, Holds.to (by assumption)⟩
theorem in_ct {w : World} {m : Nat} {v : Int} {L : List HProp} (H : Holds w L) :
    CT Try.prog 57 [.pointer (some ⟨m, 0, none⟩), .int .i64 v] w fun x w' => ∃ b2 b3 b5 b4, x = .func (.func 98) #[] #[.pointer (some ⟨b3, 0, none⟩), .pointer (some ⟨b5, 0, none⟩), .pointer (some ⟨b4, 0, none⟩)] ∧ Holds w' (capsS b3 b5 b4 m (inV b2) v :: cap2 b2 m :: L) := by
  refine CT.enter (N := 9) Try.func57 rfl rfl rfl rfl ?_
  refine W.seq (fun K0 hK0 => ?_)
  refine W.region ?_
  refine O.boxP rfl (fun b2 w H => ?_)
  refine O.ex (Ex.assign rfl) rfl ?_
  refine O.nil ?_
  refine hK0 _ _ _ ?_
  refine W.seq (fun K1 hK1 => ?_)
  refine W.region ?_
  refine O.ex (by first | exact Ex.loadP Try.isAgg25 rfl | exact Ex.loadQ Try.isAgg25 rfl | exact Ex.loadMh Try.isAgg25 rfl | exact Ex.loadR Try.isAgg25 rfl | exact Ex.loadIn1 Try.isAgg25 rfl (Holds.to (by assumption)) | exact Ex.loadM Try.isAgg25 rfl | exact Ex.loadVc Try.isAgg25 rfl) rfl ?_
  refine O.ex (Ex.move rfl) rfl ?_
  refine O.ex (Ex.makeFunc rfl rfl) rfl ?_
  refine O.callF Try.call74 rfl rfl (CT.mono (steps_ct (lv := inV b2) rfl (Holds.to (by assumption))) ?_)
  rintro _ w ⟨b3, b5, b4, rfl, H⟩
  refine O.ex (Ex.assign rfl) rfl ?_
  refine O.nil ?_
  refine hK1 _ _ _ ?_
  refine W.ret ?_
  try dsimp only [thenQ, blockQ, retQ]
  first | refine ⟨_, ⟨_, _, rfl, rfl, rfl⟩, ?_⟩ | (refine retD_mark ?_; intro w H; refine ⟨_, ⟨_, _, rfl, rfl, rfl⟩, ?_⟩) | (refine retD_mark2 ?_; intro w H; refine ⟨_, ⟨_, _, rfl, rfl, rfl⟩, ?_⟩)
  exact ⟨b2, b3, b5, b4, rfl, Holds.to (by assumption)⟩
theorem norm_ct {w : World} {a : Int} {L : List HProp} (H : Holds w L) (ha : Dst a) : CT Try.prog 78 [.int .i64 a] w fun x w' => x = .int .i64 a ∧ Holds w' L := by
  unfold Dst at ha
  refine CT.enter (N := 6) Try.func78 rfl rfl rfl rfl ?_
  refine W.seq (fun K0 hK0 => ?_)
  refine W.region ?_
  refine O.ex (Ex.assign rfl) rfl ?_
  refine O.nil ?_
  refine hK0 _ _ _ ?_
  refine W.seq (fun K1 hK1 => ?_)
  refine W.region ?_
  refine O.ex (Ex.move rfl) rfl ?_
  refine O.ex (Ex.maxI rfl rfl) rfl ?_
  refine O.ex (Ex.minI rfl rfl) rfl ?_
  refine O.ex (Ex.assign rfl) rfl ?_
  refine O.nil ?_
  refine hK1 _ _ _ ?_
  refine W.ret ?_
  try dsimp only [thenQ, blockQ, retQ]
  first | refine ⟨_, ⟨_, _, rfl, rfl, rfl⟩, ?_⟩ | (refine retD_mark ?_; intro w H; refine ⟨_, ⟨_, _, rfl, rfl, rfl⟩, ?_⟩) | (refine retD_mark2 ?_; intro w H; refine ⟨_, ⟨_, _, rfl, rfl, rfl⟩, ?_⟩)
  exact ⟨congrArg (Value.int .i64) (by omega), Holds.to (by assumption)⟩
theorem add1_ct {w : World} {a b : Int} {L : List HProp} (H : Holds w L) (ha : Dst a) (hb : Dst b) : CT Try.prog 77 [.int .i64 a, .int .i64 b] w fun x w' => x = .int .i64 (two a b) ∧ Holds w' L := by
  have ha' := ha
  have hb' := hb
  unfold Dst at ha' hb'
  refine CT.enter (N := 26) Try.func77 rfl rfl rfl rfl ?_
  refine W.seq (fun K0 hK0 => ?_)
  refine W.region ?_
  refine O.ex (Ex.assign rfl) rfl ?_
  refine O.nil ?_
  refine hK0 _ _ _ ?_
  refine W.seq (fun K1 hK1 => ?_)
  refine W.region ?_
  refine O.ex (Ex.move rfl) rfl ?_
  refine O.callF Try.call78 rfl rfl (CT.mono (norm_ct (Holds.to (by assumption)) hb) ?_)
  rintro _ w ⟨rfl, H⟩
  refine O.ex (Ex.assign rfl) rfl ?_
  refine O.nil ?_
  refine hK1 _ _ _ ?_
  refine W.seq (fun K2 hK2 => ?_)
  refine W.block ?_
  refine W.seq (fun K3 hK3 => ?_)
  refine W.region ?_
  refine O.ex (Ex.move rfl) rfl ?_
  refine O.ex (Ex.eqlI rfl rfl) rfl ?_
  refine O.ex (Ex.move rfl) rfl ?_
  first | refine O.split_p (t := 10) rfl (fun h0 => ?_) (fun h0 => ?_) | refine O.split (t := 10) rfl (fun h0 => ?_) (fun h0 => ?_)
  · refine O.guard_f rfl rfl rfl rfl ?_
    refine O.guard_f rfl rfl rfl rfl ?_
    refine O.ex (Ex.pick_t rfl rfl) rfl ?_
    refine O.ex (Ex.assign rfl) rfl ?_
    refine O.nil ?_
    refine hK3 _ _ _ ?_
    refine W.cond_t rfl ?_
    refine W.seq (fun K4 hK4 => ?_)
    refine W.region ?_
    refine O.ex (Ex.assign rfl) rfl ?_
    refine O.nil ?_
    refine hK4 _ _ _ ?_
    refine W.ret ?_
    try dsimp only [thenQ, blockQ, retQ]
    first | refine ⟨_, ⟨_, _, rfl, rfl, rfl⟩, ?_⟩ | (refine retD_mark ?_; intro w H; refine ⟨_, ⟨_, _, rfl, rfl, rfl⟩, ?_⟩) | (refine retD_mark2 ?_; intro w H; refine ⟨_, ⟨_, _, rfl, rfl, rfl⟩, ?_⟩)
    exact ⟨congrArg (Value.int .i64) (by unfold two; (repeat' split) <;> omega), Holds.to (by assumption)⟩
  · refine O.guard_t rfl rfl ?_
    refine O.ex (Ex.move rfl) rfl ?_
    refine O.guard_t rfl rfl ?_
    refine O.ex (Ex.eqlI rfl rfl) rfl ?_
    refine O.ex (Ex.pick_f rfl rfl) rfl ?_
    refine O.ex (Ex.assign rfl) rfl ?_
    refine O.nil ?_
    refine hK3 _ _ _ ?_
    first | refine W.cond_p rfl (fun h1 => ?_) (fun h1 => ?_) | refine W.cond_b rfl (fun h1 => ?_) (fun h1 => ?_)
    · refine W.seq (fun K5 hK5 => ?_)
      refine W.region ?_
      refine O.ex (Ex.assign rfl) rfl ?_
      refine O.nil ?_
      refine hK5 _ _ _ ?_
      refine W.ret ?_
      try dsimp only [thenQ, blockQ, retQ]
      first | refine ⟨_, ⟨_, _, rfl, rfl, rfl⟩, ?_⟩ | (refine retD_mark ?_; intro w H; refine ⟨_, ⟨_, _, rfl, rfl, rfl⟩, ?_⟩) | (refine retD_mark2 ?_; intro w H; refine ⟨_, ⟨_, _, rfl, rfl, rfl⟩, ?_⟩)
      exact ⟨congrArg (Value.int .i64) (by unfold two; (repeat' split) <;> omega), Holds.to (by assumption)⟩
    · refine W.seq (fun K6 hK6 => ?_)
      refine W.region ?_
      refine O.ex (Ex.move rfl) rfl ?_
      refine O.ex (Ex.gtr rfl rfl) rfl ?_
      refine O.ex (Ex.move rfl) rfl ?_
      first | refine O.split_p (t := 17) rfl (fun h2 => ?_) (fun h2 => ?_) | refine O.split (t := 17) rfl (fun h2 => ?_) (fun h2 => ?_)
      · refine O.guard_f rfl rfl rfl rfl ?_
        refine O.guard_f rfl rfl rfl rfl ?_
        refine O.guard_f rfl rfl rfl rfl ?_
        refine O.guard_f rfl rfl rfl rfl ?_
        refine O.ex (Ex.pick_t rfl rfl) rfl ?_
        refine O.ex (Ex.assign rfl) rfl ?_
        refine O.nil ?_
        refine hK6 _ _ _ ?_
        refine W.cond_t rfl ?_
        refine W.seq (fun K7 hK7 => ?_)
        refine W.region ?_
        refine O.ex (Ex.assign rfl) rfl ?_
        refine O.nil ?_
        refine hK7 _ _ _ ?_
        refine W.ret ?_
        try dsimp only [thenQ, blockQ, retQ]
        first | refine ⟨_, ⟨_, _, rfl, rfl, rfl⟩, ?_⟩ | (refine retD_mark ?_; intro w H; refine ⟨_, ⟨_, _, rfl, rfl, rfl⟩, ?_⟩) | (refine retD_mark2 ?_; intro w H; refine ⟨_, ⟨_, _, rfl, rfl, rfl⟩, ?_⟩)
        exact ⟨congrArg (Value.int .i64) (by unfold two; (repeat' split) <;> omega), Holds.to (by assumption)⟩
      · refine O.guard_t rfl rfl ?_
        refine O.ex (Ex.move rfl) rfl ?_
        refine O.guard_t rfl rfl ?_
        refine O.ex (Ex.move rfl) rfl ?_
        refine O.guard_t rfl rfl ?_
        refine O.ex (by first | exact Ex.subI rfl rfl | exact Ex.sub rfl rfl rfl) rfl ?_
        refine O.guard_t rfl rfl ?_
        refine O.ex (Ex.gtr rfl rfl) rfl ?_
        refine O.ex (Ex.pick_f rfl rfl) rfl ?_
        refine O.ex (Ex.assign rfl) rfl ?_
        refine O.nil ?_
        refine hK6 _ _ _ ?_
        first | refine W.cond_p rfl (fun h3 => ?_) (fun h3 => ?_) | refine W.cond_b rfl (fun h3 => ?_) (fun h3 => ?_)
        · refine W.seq (fun K8 hK8 => ?_)
          refine W.region ?_
          refine O.ex (Ex.assign rfl) rfl ?_
          refine O.nil ?_
          refine hK8 _ _ _ ?_
          refine W.ret ?_
          try dsimp only [thenQ, blockQ, retQ]
          first | refine ⟨_, ⟨_, _, rfl, rfl, rfl⟩, ?_⟩ | (refine retD_mark ?_; intro w H; refine ⟨_, ⟨_, _, rfl, rfl, rfl⟩, ?_⟩) | (refine retD_mark2 ?_; intro w H; refine ⟨_, ⟨_, _, rfl, rfl, rfl⟩, ?_⟩)
          exact ⟨congrArg (Value.int .i64) (by unfold two; (repeat' split) <;> omega), Holds.to (by assumption)⟩
        · refine W.skip ?_
          refine hK2 _ _ _ ?_
          refine W.seq (fun K9 hK9 => ?_)
          refine W.region ?_
          refine O.ex (Ex.move rfl) rfl ?_
          refine O.ex (Ex.move rfl) rfl ?_
          refine O.ex (by first | exact Ex.addI rfl rfl | exact Ex.add rfl rfl rfl) rfl ?_
          refine O.ex (Ex.assign rfl) rfl ?_
          refine O.nil ?_
          refine hK9 _ _ _ ?_
          refine W.ret ?_
          try dsimp only [thenQ, blockQ, retQ]
          first | refine ⟨_, ⟨_, _, rfl, rfl, rfl⟩, ?_⟩ | (refine retD_mark ?_; intro w H; refine ⟨_, ⟨_, _, rfl, rfl, rfl⟩, ?_⟩) | (refine retD_mark2 ?_; intro w H; refine ⟨_, ⟨_, _, rfl, rfl, rfl⟩, ?_⟩)
          exact ⟨congrArg (Value.int .i64) (by unfold two; (repeat' split) <;> omega), Holds.to (by assumption)⟩
theorem fold_dst (xs : List Int) : ∀ a, Dst a → (∀ x ∈ xs, Dst x) → Dst (xs.foldl two a) := by
  induction xs with
  | nil => intro a ha _; exact ha
  | cons x xs ih => intro a ha hx; exact ih _ (two_dst ha (hx x (by simp))) fun y hy => hx y (by simp [hy])
theorem take_get (xs : List Int) (i : Nat) (h : i < xs.length) : xs.take (i + 1) = xs.take i ++ [xs.getD i default] := by
  rw [List.take_succ_eq_append_getElem h]; simp [List.getD_eq_getElem?_getD, h]
theorem fold_ct {w : World} {v : Value} {xs : List Int} {L : List HProp} (H : Holds w (arr 3 (Value.int .i64) v xs :: L)) (hx : ∀ x ∈ xs, Dst x) (hl : xs.length ≤ 1000) :
    CT Try.prog 76 [v, .int .i64 0, .func (.func 77) #[] #[]] w fun x w' => x = .int .i64 (xs.foldl two 0) ∧ Holds w' (arr 3 (Value.int .i64) v xs :: L) := by
  refine CT.enter (N := 21) Try.func76 rfl rfl rfl rfl ?_
  refine W.seq (fun K0 hK0 => ?_)
  refine W.region ?_
  refine O.ex (Ex.assign rfl) rfl ?_
  refine O.nil ?_
  refine hK0 _ _ _ ?_
  refine W.seq (fun K1 hK1 => ?_)
  refine W.seq (fun K2 hK2 => ?_)
  refine W.region ?_
  refine O.ex (Ex.move rfl) rfl ?_
  refine O.ex (by first | exact Ex.lenR Try.runUnderlying51 rfl | exact Ex.lenIn Try.runUnderlying51 rfl | exact Ex.lenL Try.runUnderlying51 rfl | exact Ex.len rfl Try.runUnderlying51 rfl) rfl ?_
  refine O.ex (Ex.move rfl) rfl ?_
  refine O.nil ?_
  refine hK2 _ _ _ ?_
  refine W.block ?_
  refine W.loop (σ := Nat) (fun i => [(1, .int .i64 ((xs.take i).foldl two 0)), (2, .func (.func 77) #[] #[]), (9, v), (10, .int .i64 xs.length), (11, .int .i64 (i : Int))]) (fun i ds w => ds = [] ∧ i ≤ xs.length ∧ Holds w (arr 3 (Value.int .i64) v xs :: L)) (fun i => xs.length - i) 0 ⟨rfl, rfl, rfl, rfl, rfl, trivial⟩ ⟨rfl, by omega, Holds.to (by assumption)⟩ ?_
  clear H
  rintro i _ w ⟨rfl, hi, H⟩
  have hd := fold_dst (xs.take i) 0 ⟨by omega, by omega⟩ (fun x h => hx x (List.mem_of_mem_take h))
  refine W.seq (fun K3 hK3 => ?_)
  refine W.region ?_
  refine O.ex (Ex.lss rfl rfl) rfl ?_
  refine O.nil ?_
  refine hK3 _ _ _ ?_
  refine W.seq (fun K4 hK4 => ?_)
  first | refine W.cond_p rfl (fun hlt => ?_) (fun hge => ?_) | refine W.cond_b rfl (fun hlt => ?_) (fun hge => ?_)
  · refine W.skip ?_
    refine hK4 _ _ _ ?_
    refine W.seq (fun K5 hK5 => ?_)
    refine W.block ?_
    refine W.seq (fun K6 hK6 => ?_)
    refine W.region ?_
    refine O.ex (by first | exact Ex.idxR Try.runUnderlying51 Try.sizeOf3 rfl rfl | exact Ex.idxIn Try.runUnderlying51 Try.sizeOf3 rfl rfl | exact Ex.idxS Try.runUnderlying51 Try.sizeOf3 rfl rfl | exact Ex.idx Try.runUnderlying51 Try.sizeOf3 rfl rfl (by omega) (by omega)) rfl ?_
    refine O.ex (by first | exact Ex.loadR Try.isAgg3 rfl | exact Ex.loadIn1 Try.isAgg3 rfl (Holds.to (by assumption)) | exact Ex.loadP Try.isAgg3 rfl | exact Ex.loadMh Try.isAgg3 rfl | exact Ex.loadM Try.isAgg3 rfl | exact Ex.loadVc Try.isAgg3 rfl | exact Ex.loadQ Try.isAgg3 rfl) rfl ?_
    refine O.ex (Ex.assign rfl) rfl ?_
    refine O.nil ?_
    refine hK6 _ _ _ ?_
    refine W.region ?_
    have hxd : Dst (xs.getD ((i : Nat) : Int).toNat default) := hx _ (by
      rw [Int.toNat_natCast, List.getD_eq_getElem?_getD, List.getElem?_eq_getElem (by omega)]; exact List.getElem_mem _)
    refine O.ex (Ex.move rfl) rfl ?_
    refine O.ex (Ex.move rfl) rfl ?_
    refine O.ex (Ex.move rfl) rfl ?_
    refine O.callVT rfl rfl rfl (VT.mono (VT.fn Try.call77 (add1_ct (Holds.to (by assumption)) hd hxd)) ?_)
    rintro _ w ⟨rfl, H⟩
    refine O.ex (Ex.assign rfl) rfl ?_
    refine O.nil ?_
    refine hK5 _ _ _ ?_
    refine W.region ?_
    refine O.ex (by first | exact Ex.addI rfl rfl | exact Ex.add rfl rfl rfl) rfl ?_
    refine O.ex (Ex.move rfl) rfl ?_
    refine O.nil ?_
    exact ⟨i + 1, ⟨by rw [take_get xs i (by omega), List.foldl_append]; rfl, rfl, rfl, rfl, rfl, trivial⟩, ⟨rfl, by omega, Holds.to (by assumption)⟩, by omega⟩
  · refine W.exit ?_
    refine hK1 _ _ _ ?_
    refine W.seq (fun K7 hK7 => ?_)
    refine W.region ?_
    refine O.ex (Ex.move rfl) rfl ?_
    refine O.ex (Ex.assign rfl) rfl ?_
    refine O.nil ?_
    refine hK7 _ _ _ ?_
    refine W.ret ?_
    try dsimp only [thenQ, blockQ, retQ]
    first | refine ⟨_, ⟨_, _, rfl, rfl, rfl⟩, ?_⟩ | (refine retD_mark ?_; intro w H; refine ⟨_, ⟨_, _, rfl, rfl, rfl⟩, ?_⟩) | (refine retD_mark2 ?_; intro w H; refine ⟨_, ⟨_, _, rfl, rfl, rfl⟩, ?_⟩)
    obtain rfl : i = xs.length := by omega
    exact ⟨by rw [List.take_length]; rfl, Holds.to (by assumption)⟩
theorem add_ct {w : World} {v : Value} {a b : Int} {L : List HProp} (H : Holds w (arr 3 (Value.int .i64) v [a, b] :: L)) (ha : Dst a) (hb : Dst b) :
    CT Try.prog 58 [v] w fun x w' => x = .int .i64 (two a b) ∧ Holds w' L := by
  have hx : ∀ x ∈ [a, b], Dst x := by
    intro x hx
    simp only [List.mem_cons, List.not_mem_nil, or_false] at hx
    rcases hx with rfl | rfl <;> assumption
  refine CT.enter (N := 5) Try.func58 rfl rfl rfl rfl ?_
  refine W.seq (fun K0 hK0 => ?_)
  refine W.region ?_
  refine O.ex (Ex.assign rfl) rfl ?_
  refine O.nil ?_
  refine hK0 _ _ _ ?_
  refine W.seq (fun K1 hK1 => ?_)
  refine W.region ?_
  refine O.ex (Ex.move rfl) rfl ?_
  refine O.callF Try.call76 rfl rfl (CT.mono (fold_ct (xs := [a, b]) (Holds.to (by assumption)) hx (by simp)) ?_)
  rintro _ w ⟨rfl, H⟩
  refine O.ex (Ex.assign rfl) rfl ?_
  refine O.nil ?_
  refine hK1 _ _ _ ?_
  refine W.ret ?_
  try dsimp only [thenQ, blockQ, retQ]
  first | refine ⟨_, ⟨_, _, rfl, rfl, rfl⟩, ?_⟩ | (refine retD_mark ?_; intro w H; refine ⟨_, ⟨_, _, rfl, rfl, rfl⟩, ?_⟩) | (refine retD_mark2 ?_; intro w H; refine ⟨_, ⟨_, _, rfl, rfl, rfl⟩, ?_⟩)
  exact ⟨congrArg (Value.int .i64) (by show two (two 0 a) b = two a b; rw [zero_two ha]), Holds.to (by assumption)⟩
end Go.Proofs.Ytblapiiinbppiaa
