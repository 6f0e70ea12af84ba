/- Several texts as one: Mesh Mesh2 Mesh3 Mesh4 Mesh5 Mesh6 Mesh7. -/
import Derived.Test.YtblapiiinbppiaaGreatDoorFacts
import Derived.Test.YtblapiiinbppiaaGreatDoorRrBase
import Derived.Test.YtblapiiinbppiaaGreatDoorRrBits
import Derived.Test.YtblapiiinbppiaaGreatDoorMeshLaw
namespace Go.Proofs.YtblapiiinbppiaaGreatDoor
open Go.Rr
set_option linter.unusedVariables false
def Mh (m : Nat) (n : Int) (c : Int → Int → Int) : HProp:=mtx m 93 [.int .i64 n] (fun u w=>4611686018427387906 - c u w)
def Rh (r : Nat) (n : Int) (c : Int → Int → Int) : HProp:=mtx r 114 [.int .i64 n] c
theorem mh_open {w : World} {m : Nat} {n : Int} {c : Int → Int → Int} {L : List HProp} : Holds w (Mh m n c::L) ↔ Holds w (mtx m 93 [.int .i64 n] (fun u w=>4611686018427387906 - c u w)::L):=Iff.rfl
theorem rh_open {w : World} {m : Nat} {n : Int} {c : Int → Int → Int} {L : List HProp} : Holds w (Rh m n c::L) ↔ Holds w (mtx m 114 [.int .i64 n] c::L):=Iff.rfl
theorem zM : ZeroIs Tryz.prog 93 (mval [.int .i64 0] fun _ _=>0):=fun w=>(Tryz.zeroValue93 w).trans (by rw [show Tryz.zeroCells93 = vcs [.int .i64 0] 576 (sq fun _ _=>0) by kernel_rfl]; rfl)
theorem zR : ZeroIs Tryz.prog 114 (mval [.int .i64 0] fun _ _=>0):=fun w=>(Tryz.zeroValue114 w).trans (by rw [show Tryz.zeroCells114 = vcs [.int .i64 0] 576 (sq fun _ _=>0) by kernel_rfl]; rfl)
theorem upd_neg (c : Int → Int → Int) (u w g : Int) : upd2 (fun a b=>4611686018427387906 - c a b) u w (4611686018427387906 - g) = fun a b=>4611686018427387906 - upd2 c u w g a b:=by
  funext a b; unfold upd2; split <;> rfl
theorem vertexm_ct {w : World} {m : Nat} {n v : Int} {c : Int → Int → Int} {L : List HProp} (H : Holds w (Mh m n c::L)) :
    CT Tryz.prog 40 [.pointer (some ⟨m,0,none⟩),.int .i64 v] w fun u w'=>u = .bool (decide (0 ≤ v ∧ v < n)) ∧ Holds w' (Mh m n c::L):=by
  have H:=mh_open.1 H
  refine CT.enter (N:=15) Tryz.func40 rfl rfl rfl rfl ?_
  refine W.seq (fun K0 hK0=>?_)
  refine W.region ?_
  refine O.ex (Ex.assign rfl) rfl ?_
  refine O.nil ?_
  refine hK0 _ _ _ ?_
  refine W.seq (fun K1 hK1=>?_)
  refine W.region ?_
  refine O.ex (Ex.move rfl) rfl ?_
  refine O.ex (Ex.geq rfl rfl) rfl ?_
  refine O.ex (Ex.move rfl) rfl ?_
  first|refine O.split_p (t:=7) rfl (fun h0=>?_) (fun h0=>?_)|refine O.split (t:=7) rfl (fun h0=>?_) (fun h0=>?_)
  · refine O.guard_t rfl rfl ?_
    refine O.ex (Ex.move rfl) rfl ?_
    refine O.guard_t rfl rfl ?_
    refine O.ex (Ex.move rfl) rfl ?_
    refine O.guard_t rfl rfl ?_
    refine O.ex (by first|exact Ex.nilPtr rfl|exact Ex.nilFunc rfl|exact Ex.nilYield rfl) rfl ?_
    refine O.guard_t rfl rfl ?_
    refine O.ex (by first|exact Ex.field0 fld93_0 rfl|exact Ex.field fld93_0 rfl|exact Ex.fieldS fld93_0 rfl) rfl ?_
    refine O.guard_t rfl rfl ?_
    refine O.ex (by first|exact Ex.loadMh Tryz.isAgg3 rfl|exact Ex.loadP Tryz.isAgg3 rfl|exact Ex.loadM Tryz.isAgg3 rfl|exact Ex.loadIn1 Tryz.isAgg3 rfl (Holds.to (by assumption))|exact Ex.loadVc Tryz.isAgg3 rfl|exact Ex.loadR Tryz.isAgg3 rfl|exact Ex.loadQ Tryz.isAgg3 rfl) rfl ?_
    refine O.guard_t rfl rfl ?_
    refine O.ex (Ex.lss rfl rfl) rfl ?_
    refine O.ex (Ex.pick_t rfl rfl) rfl ?_
    refine O.ex (Ex.assign rfl) rfl ?_
    refine O.nil ?_
    refine hK1 _ _ _ ?_
    refine W.ret ?_
    try dsimp only [thenQ,blockQ,retQ]
    first|refine ⟨_,⟨_,_,rfl,rfl,rfl⟩,?_⟩|(refine retD_mark ?_; intro w H; refine ⟨_,⟨_,_,rfl,rfl,rfl⟩,?_⟩)|(refine retD_mark2 ?_; intro w H; refine ⟨_,⟨_,_,rfl,rfl,rfl⟩,?_⟩)
    refine ⟨congrArg Value.bool ?_,mh_open.2 (Holds.to (by assumption))⟩
    first
    | exact decide_eq_decide.2 (by omega)
    | exact (decide_eq_false (by omega)).symm
  · refine O.guard_f rfl rfl rfl rfl ?_
    refine O.guard_f rfl rfl rfl rfl ?_
    refine O.guard_f rfl rfl rfl rfl ?_
    refine O.guard_f rfl rfl rfl rfl ?_
    refine O.guard_f rfl rfl rfl rfl ?_
    refine O.guard_f rfl rfl rfl rfl ?_
    refine O.ex (Ex.pick_f rfl rfl) rfl ?_
    refine O.ex (Ex.assign rfl) rfl ?_
    refine O.nil ?_
    refine hK1 _ _ _ ?_
    refine W.ret ?_
    try dsimp only [thenQ,blockQ,retQ]
    first|refine ⟨_,⟨_,_,rfl,rfl,rfl⟩,?_⟩|(refine retD_mark ?_; intro w H; refine ⟨_,⟨_,_,rfl,rfl,rfl⟩,?_⟩)|(refine retD_mark2 ?_; intro w H; refine ⟨_,⟨_,_,rfl,rfl,rfl⟩,?_⟩)
    refine ⟨congrArg Value.bool ?_,mh_open.2 (Holds.to (by assumption))⟩
    first
    | exact decide_eq_decide.2 (by omega)
    | exact (decide_eq_false (by omega)).symm
theorem vertexr_ct {w : World} {m : Nat} {n v : Int} {c : Int → Int → Int} {L : List HProp} (H : Holds w (Rh m n c::L)) :
    CT Tryz.prog 85 [.pointer (some ⟨m,0,none⟩),.int .i64 v] w fun u w'=>u = .bool (decide (0 ≤ v ∧ v < n)) ∧ Holds w' (Rh m n c::L):=by
  have H:=rh_open.1 H
  refine CT.enter (N:=15) Tryz.func85 rfl rfl rfl rfl ?_
  refine W.seq (fun K0 hK0=>?_)
  refine W.region ?_
  refine O.ex (Ex.assign rfl) rfl ?_
  refine O.nil ?_
  refine hK0 _ _ _ ?_
  refine W.seq (fun K1 hK1=>?_)
  refine W.region ?_
  refine O.ex (Ex.move rfl) rfl ?_
  refine O.ex (Ex.geq rfl rfl) rfl ?_
  refine O.ex (Ex.move rfl) rfl ?_
  first|refine O.split_p (t:=7) rfl (fun h0=>?_) (fun h0=>?_)|refine O.split (t:=7) rfl (fun h0=>?_) (fun h0=>?_)
  · refine O.guard_t rfl rfl ?_
    refine O.ex (Ex.move rfl) rfl ?_
    refine O.guard_t rfl rfl ?_
    refine O.ex (Ex.move rfl) rfl ?_
    refine O.guard_t rfl rfl ?_
    refine O.ex (by first|exact Ex.nilPtr rfl|exact Ex.nilFunc rfl|exact Ex.nilYield rfl) rfl ?_
    refine O.guard_t rfl rfl ?_
    refine O.ex (by first|exact Ex.field0 fld114_0 rfl|exact Ex.field fld114_0 rfl|exact Ex.fieldS fld114_0 rfl) rfl ?_
    refine O.guard_t rfl rfl ?_
    refine O.ex (by first|exact Ex.loadMh Tryz.isAgg3 rfl|exact Ex.loadP Tryz.isAgg3 rfl|exact Ex.loadM Tryz.isAgg3 rfl|exact Ex.loadIn1 Tryz.isAgg3 rfl (Holds.to (by assumption))|exact Ex.loadVc Tryz.isAgg3 rfl|exact Ex.loadR Tryz.isAgg3 rfl|exact Ex.loadQ Tryz.isAgg3 rfl) rfl ?_
    refine O.guard_t rfl rfl ?_
    refine O.ex (Ex.lss rfl rfl) rfl ?_
    refine O.ex (Ex.pick_t rfl rfl) rfl ?_
    refine O.ex (Ex.assign rfl) rfl ?_
    refine O.nil ?_
    refine hK1 _ _ _ ?_
    refine W.ret ?_
    try dsimp only [thenQ,blockQ,retQ]
    first|refine ⟨_,⟨_,_,rfl,rfl,rfl⟩,?_⟩|(refine retD_mark ?_; intro w H; refine ⟨_,⟨_,_,rfl,rfl,rfl⟩,?_⟩)|(refine retD_mark2 ?_; intro w H; refine ⟨_,⟨_,_,rfl,rfl,rfl⟩,?_⟩)
    refine ⟨congrArg Value.bool ?_,rh_open.2 (Holds.to (by assumption))⟩
    first
    | exact decide_eq_decide.2 (by omega)
    | exact (decide_eq_false (by omega)).symm
  · refine O.guard_f rfl rfl rfl rfl ?_
    refine O.guard_f rfl rfl rfl rfl ?_
    refine O.guard_f rfl rfl rfl rfl ?_
    refine O.guard_f rfl rfl rfl rfl ?_
    refine O.guard_f rfl rfl rfl rfl ?_
    refine O.guard_f rfl rfl rfl rfl ?_
    refine O.ex (Ex.pick_f rfl rfl) rfl ?_
    refine O.ex (Ex.assign rfl) rfl ?_
    refine O.nil ?_
    refine hK1 _ _ _ ?_
    refine W.ret ?_
    try dsimp only [thenQ,blockQ,retQ]
    first|refine ⟨_,⟨_,_,rfl,rfl,rfl⟩,?_⟩|(refine retD_mark ?_; intro w H; refine ⟨_,⟨_,_,rfl,rfl,rfl⟩,?_⟩)|(refine retD_mark2 ?_; intro w H; refine ⟨_,⟨_,_,rfl,rfl,rfl⟩,?_⟩)
    refine ⟨congrArg Value.bool ?_,rh_open.2 (Holds.to (by assumption))⟩
    first
    | exact decide_eq_decide.2 (by omega)
    | exact (decide_eq_false (by omega)).symm
theorem at_ct {w : World} {m : Nat} {n u v : Int} {c : Int → Int → Int} {L : List HProp} (hg : Good n c) (H : Holds w (Mh m n c::L)) :
    CT Tryz.prog 59 [.pointer (some ⟨m,0,none⟩),.int .i64 u,.int .i64 v] w fun x w'=>x = .int .i64 (c u v) ∧ Holds w' (Mh m n c::L):=by
  have n2:=hg.n2
  have hl:=hg.lo u v
  have hh:=hg.hi u v
  refine CT.enter (N:=26) Tryz.func59 rfl rfl rfl rfl ?_
  refine W.seq (fun K0 hK0=>?_)
  refine W.region ?_
  refine O.ex (Ex.assign rfl) rfl ?_
  refine O.nil ?_
  refine hK0 _ _ _ ?_
  refine W.seq (fun K1 hK1=>?_)
  refine W.seq (fun K2 hK2=>?_)
  refine W.region ?_
  refine O.ex (Ex.move rfl) rfl ?_
  refine O.ex (Ex.move rfl) rfl ?_
  refine O.callF Tryz.call40 rfl rfl (CT.mono (vertexm_ct (Holds.to (by assumption))) ?_)
  rintro _ w ⟨rfl,H⟩
  refine O.ex (by first|exact Ex.notD rfl|exact Ex.not rfl) rfl ?_
  refine O.ex (Ex.move rfl) rfl ?_
  first|refine O.split_p (t:=11) rfl (fun h0=>?_) (fun h0=>?_)|refine O.split (t:=11) rfl (fun h0=>?_) (fun h0=>?_)
  · refine O.guard_f rfl rfl rfl rfl ?_
    refine O.guard_f rfl rfl rfl rfl ?_
    refine O.guard_f rfl rfl rfl rfl ?_
    refine O.guard_f rfl rfl rfl rfl ?_
    refine O.ex (Ex.pick_t rfl rfl) rfl ?_
    refine O.nil ?_
    refine hK2 _ _ _ ?_
    refine W.cond_t rfl ?_
    refine W.seq (fun K3 hK3=>?_)
    refine W.region ?_
    refine O.ex (Ex.assign rfl) rfl ?_
    refine O.nil ?_
    refine hK3 _ _ _ ?_
    refine W.ret ?_
    try dsimp only [thenQ,blockQ,retQ]
    first|refine ⟨_,⟨_,_,rfl,rfl,rfl⟩,?_⟩|(refine retD_mark ?_; intro w H; refine ⟨_,⟨_,_,rfl,rfl,rfl⟩,?_⟩)|(refine retD_mark2 ?_; intro w H; refine ⟨_,⟨_,_,rfl,rfl,rfl⟩,?_⟩)
    first
    | exact ⟨congrArg (Value.int .i64) (hg.out u v (by omega)).symm,Holds.to (by assumption)⟩
    | exact ⟨congrArg (Value.int .i64) (by omega),mh_open.2 (Holds.to (by assumption))⟩
  · refine O.guard_t rfl rfl ?_
    refine O.ex (Ex.move rfl) rfl ?_
    refine O.guard_t rfl rfl ?_
    refine O.ex (Ex.move rfl) rfl ?_
    refine O.guard_t rfl rfl ?_
    refine O.callF Tryz.call40 rfl rfl (CT.mono (vertexm_ct (Holds.to (by assumption))) ?_)
    rintro _ w ⟨rfl,H⟩
    refine O.guard_t rfl rfl ?_
    refine O.ex (by first|exact Ex.notD rfl|exact Ex.not rfl) rfl ?_
    refine O.ex (Ex.pick_f rfl rfl) rfl ?_
    refine O.nil ?_
    refine hK2 _ _ _ ?_
    first|refine W.cond_p rfl (fun h1=>?_) (fun h1=>?_)|refine W.cond_b rfl (fun h1=>?_) (fun h1=>?_)
    · refine W.seq (fun K4 hK4=>?_)
      refine W.region ?_
      refine O.ex (Ex.assign rfl) rfl ?_
      refine O.nil ?_
      refine hK4 _ _ _ ?_
      refine W.ret ?_
      try dsimp only [thenQ,blockQ,retQ]
      first|refine ⟨_,⟨_,_,rfl,rfl,rfl⟩,?_⟩|(refine retD_mark ?_; intro w H; refine ⟨_,⟨_,_,rfl,rfl,rfl⟩,?_⟩)|(refine retD_mark2 ?_; intro w H; refine ⟨_,⟨_,_,rfl,rfl,rfl⟩,?_⟩)
      first
      | exact ⟨congrArg (Value.int .i64) (hg.out u v (by omega)).symm,Holds.to (by assumption)⟩
      | exact ⟨congrArg (Value.int .i64) (by omega),mh_open.2 (Holds.to (by assumption))⟩
    · refine W.skip ?_
      refine hK1 _ _ _ ?_
      refine W.seq (fun K5 hK5=>?_)
      refine W.region ?_
      have H:=mh_open.1 (Holds.to (by assumption))
      refine O.ex (Ex.move rfl) rfl ?_
      refine O.ex (Ex.move rfl) rfl ?_
      refine O.ex (Ex.move rfl) rfl ?_
      refine O.ex (by first|exact Ex.nilPtr rfl|exact Ex.nilFunc rfl|exact Ex.nilYield rfl) rfl ?_
      refine O.ex (by first|exact Ex.field0 fld93_1 rfl|exact Ex.field fld93_1 rfl|exact Ex.fieldS fld93_1 rfl) rfl ?_
      refine O.ex (Ex.idxArr Tryz.runUnderlying91 Tryz.sizeOf89 rfl rfl) rfl ?_
      refine O.ex (Ex.idxArr Tryz.runUnderlying89 Tryz.sizeOf3 rfl rfl) rfl ?_
      refine O.ex (by first|exact Ex.loadM Tryz.isAgg3 rfl|exact Ex.loadVc Tryz.isAgg3 rfl|exact Ex.loadP Tryz.isAgg3 rfl|exact Ex.loadIn1 Tryz.isAgg3 rfl (Holds.to (by assumption))|exact Ex.loadMh Tryz.isAgg3 rfl|exact Ex.loadR Tryz.isAgg3 rfl|exact Ex.loadQ Tryz.isAgg3 rfl) rfl ?_
      refine O.ex (by first|exact Ex.subI rfl rfl|exact Ex.sub rfl rfl rfl) rfl ?_
      refine O.ex (Ex.assign rfl) rfl ?_
      refine O.nil ?_
      refine hK5 _ _ _ ?_
      refine W.ret ?_
      try dsimp only [thenQ,blockQ,retQ]
      first|refine ⟨_,⟨_,_,rfl,rfl,rfl⟩,?_⟩|(refine retD_mark ?_; intro w H; refine ⟨_,⟨_,_,rfl,rfl,rfl⟩,?_⟩)|(refine retD_mark2 ?_; intro w H; refine ⟨_,⟨_,_,rfl,rfl,rfl⟩,?_⟩)
      first
      | exact ⟨congrArg (Value.int .i64) (hg.out u v (by omega)).symm,Holds.to (by assumption)⟩
      | exact ⟨congrArg (Value.int .i64) (by omega),mh_open.2 (Holds.to (by assumption))⟩
theorem refAt_ct {w : World} {m : Nat} {n u v : Int} {c : Int → Int → Int} {L : List HProp} (hg : Good n c) (H : Holds w (Rh m n c::L)) :
    CT Tryz.prog 63 [.pointer (some ⟨m,0,none⟩),.int .i64 u,.int .i64 v] w fun x w'=>x = .int .i64 (c u v) ∧ Holds w' (Rh m n c::L):=by
  have n2:=hg.n2
  have hd:=hg.dg
  refine CT.enter (N:=30) Tryz.func63 rfl rfl rfl rfl ?_
  refine W.seq (fun K0 hK0=>?_)
  refine W.region ?_
  refine O.ex (Ex.assign rfl) rfl ?_
  refine O.nil ?_
  refine hK0 _ _ _ ?_
  refine W.seq (fun K1 hK1=>?_)
  refine W.seq (fun K2 hK2=>?_)
  refine W.region ?_
  refine O.ex (Ex.move rfl) rfl ?_
  refine O.ex (Ex.move rfl) rfl ?_
  refine O.callF Tryz.call85 rfl rfl (CT.mono (vertexr_ct (Holds.to (by assumption))) ?_)
  rintro _ w ⟨rfl,H⟩
  refine O.ex (by first|exact Ex.notD rfl|exact Ex.not rfl) rfl ?_
  refine O.ex (Ex.move rfl) rfl ?_
  first|refine O.split_p (t:=11) rfl (fun h0=>?_) (fun h0=>?_)|refine O.split (t:=11) rfl (fun h0=>?_) (fun h0=>?_)
  · refine O.guard_f rfl rfl rfl rfl ?_
    refine O.guard_f rfl rfl rfl rfl ?_
    refine O.guard_f rfl rfl rfl rfl ?_
    refine O.guard_f rfl rfl rfl rfl ?_
    refine O.ex (Ex.pick_t rfl rfl) rfl ?_
    refine O.ex (Ex.move rfl) rfl ?_
    refine O.guard_f rfl rfl rfl rfl ?_
    refine O.guard_f rfl rfl rfl rfl ?_
    refine O.guard_f rfl rfl rfl rfl ?_
    refine O.ex (Ex.pick_t rfl rfl) rfl ?_
    refine O.nil ?_
    refine hK2 _ _ _ ?_
    refine W.cond_t rfl ?_
    refine W.seq (fun K3 hK3=>?_)
    refine W.region ?_
    refine O.ex (Ex.assign rfl) rfl ?_
    refine O.nil ?_
    refine hK3 _ _ _ ?_
    refine W.ret ?_
    try dsimp only [thenQ,blockQ,retQ]
    first|refine ⟨_,⟨_,_,rfl,rfl,rfl⟩,?_⟩|(refine retD_mark ?_; intro w H; refine ⟨_,⟨_,_,rfl,rfl,rfl⟩,?_⟩)|(refine retD_mark2 ?_; intro w H; refine ⟨_,⟨_,_,rfl,rfl,rfl⟩,?_⟩)
    first
    | exact ⟨congrArg (Value.int .i64) (hg.out u v (by omega)).symm,Holds.to (by assumption)⟩
    | (refine ⟨congrArg (Value.int .i64) ?_,Holds.to (by assumption)⟩
       rw [h2]; exact (hd _).symm)
    | exact ⟨rfl,rh_open.2 (Holds.to (by assumption))⟩
  · refine O.guard_t rfl rfl ?_
    refine O.ex (Ex.move rfl) rfl ?_
    refine O.guard_t rfl rfl ?_
    refine O.ex (Ex.move rfl) rfl ?_
    refine O.guard_t rfl rfl ?_
    refine O.callF Tryz.call85 rfl rfl (CT.mono (vertexr_ct (Holds.to (by assumption))) ?_)
    rintro _ w ⟨rfl,H⟩
    refine O.guard_t rfl rfl ?_
    refine O.ex (by first|exact Ex.notD rfl|exact Ex.not rfl) rfl ?_
    refine O.ex (Ex.pick_f rfl rfl) rfl ?_
    refine O.ex (Ex.move rfl) rfl ?_
    first|refine O.split_p (t:=17) rfl (fun h1=>?_) (fun h1=>?_)|refine O.split (t:=17) rfl (fun h1=>?_) (fun h1=>?_)
    · refine O.guard_f rfl rfl rfl rfl ?_
      refine O.guard_f rfl rfl rfl rfl ?_
      refine O.guard_f rfl rfl rfl rfl ?_
      refine O.ex (Ex.pick_t rfl rfl) rfl ?_
      refine O.nil ?_
      refine hK2 _ _ _ ?_
      refine W.cond_t rfl ?_
      refine W.seq (fun K4 hK4=>?_)
      refine W.region ?_
      refine O.ex (Ex.assign rfl) rfl ?_
      refine O.nil ?_
      refine hK4 _ _ _ ?_
      refine W.ret ?_
      try dsimp only [thenQ,blockQ,retQ]
      first|refine ⟨_,⟨_,_,rfl,rfl,rfl⟩,?_⟩|(refine retD_mark ?_; intro w H; refine ⟨_,⟨_,_,rfl,rfl,rfl⟩,?_⟩)|(refine retD_mark2 ?_; intro w H; refine ⟨_,⟨_,_,rfl,rfl,rfl⟩,?_⟩)
      first
      | exact ⟨congrArg (Value.int .i64) (hg.out u v (by omega)).symm,Holds.to (by assumption)⟩
      | (refine ⟨congrArg (Value.int .i64) ?_,Holds.to (by assumption)⟩
         rw [h2]; exact (hd _).symm)
      | exact ⟨rfl,rh_open.2 (Holds.to (by assumption))⟩
    · refine O.guard_t rfl rfl ?_
      refine O.ex (Ex.move rfl) rfl ?_
      refine O.guard_t rfl rfl ?_
      refine O.ex (Ex.move rfl) rfl ?_
      refine O.guard_t rfl rfl ?_
      refine O.ex (Ex.eqlI rfl rfl) rfl ?_
      refine O.ex (Ex.pick_f rfl rfl) rfl ?_
      refine O.nil ?_
      refine hK2 _ _ _ ?_
      first|refine W.cond_p rfl (fun h2=>?_) (fun h2=>?_)|refine W.cond_b rfl (fun h2=>?_) (fun h2=>?_)
      · refine W.seq (fun K5 hK5=>?_)
        refine W.region ?_
        refine O.ex (Ex.assign rfl) rfl ?_
        refine O.nil ?_
        refine hK5 _ _ _ ?_
        refine W.ret ?_
        try dsimp only [thenQ,blockQ,retQ]
        first|refine ⟨_,⟨_,_,rfl,rfl,rfl⟩,?_⟩|(refine retD_mark ?_; intro w H; refine ⟨_,⟨_,_,rfl,rfl,rfl⟩,?_⟩)|(refine retD_mark2 ?_; intro w H; refine ⟨_,⟨_,_,rfl,rfl,rfl⟩,?_⟩)
        first
        | exact ⟨congrArg (Value.int .i64) (hg.out u v (by omega)).symm,Holds.to (by assumption)⟩
        | (refine ⟨congrArg (Value.int .i64) ?_,Holds.to (by assumption)⟩
           rw [h2]; exact (hd _).symm)
        | exact ⟨rfl,rh_open.2 (Holds.to (by assumption))⟩
      · refine W.skip ?_
        refine hK1 _ _ _ ?_
        refine W.seq (fun K6 hK6=>?_)
        refine W.region ?_
        have H:=rh_open.1 (Holds.to (by assumption))
        refine O.ex (Ex.move rfl) rfl ?_
        refine O.ex (Ex.move rfl) rfl ?_
        refine O.ex (Ex.move rfl) rfl ?_
        refine O.ex (by first|exact Ex.nilPtr rfl|exact Ex.nilFunc rfl|exact Ex.nilYield rfl) rfl ?_
        refine O.ex (by first|exact Ex.field0 fld114_1 rfl|exact Ex.field fld114_1 rfl|exact Ex.fieldS fld114_1 rfl) rfl ?_
        refine O.ex (Ex.idxArr Tryz.runUnderlying90 Tryz.sizeOf89 rfl rfl) rfl ?_
        refine O.ex (Ex.idxArr Tryz.runUnderlying89 Tryz.sizeOf3 rfl rfl) rfl ?_
        refine O.ex (by first|exact Ex.loadM Tryz.isAgg3 rfl|exact Ex.loadVc Tryz.isAgg3 rfl|exact Ex.loadP Tryz.isAgg3 rfl|exact Ex.loadIn1 Tryz.isAgg3 rfl (Holds.to (by assumption))|exact Ex.loadMh Tryz.isAgg3 rfl|exact Ex.loadR Tryz.isAgg3 rfl|exact Ex.loadQ Tryz.isAgg3 rfl) rfl ?_
        refine O.ex (Ex.assign rfl) rfl ?_
        refine O.nil ?_
        refine hK6 _ _ _ ?_
        refine W.ret ?_
        try dsimp only [thenQ,blockQ,retQ]
        first|refine ⟨_,⟨_,_,rfl,rfl,rfl⟩,?_⟩|(refine retD_mark ?_; intro w H; refine ⟨_,⟨_,_,rfl,rfl,rfl⟩,?_⟩)|(refine retD_mark2 ?_; intro w H; refine ⟨_,⟨_,_,rfl,rfl,rfl⟩,?_⟩)
        first
        | exact ⟨congrArg (Value.int .i64) (hg.out u v (by omega)).symm,Holds.to (by assumption)⟩
        | (refine ⟨congrArg (Value.int .i64) ?_,Holds.to (by assumption)⟩
           rw [h2]; exact (hd _).symm)
        | exact ⟨rfl,rh_open.2 (Holds.to (by assumption))⟩
theorem vertices_ct {w : World} {m : Nat} {n : Int} {c : Int → Int → Int} {L : List HProp} (H : Holds w (Mh m n c::L)) :
    CT Tryz.prog 22 [.pointer (some ⟨m,0,none⟩)] w fun x w'=>x = .int .i64 n ∧ Holds w' (Mh m n c::L):=by
  have H:=mh_open.1 H
  refine CT.enter (N:=7) Tryz.func22 rfl rfl rfl rfl ?_
  refine W.seq (fun K0 hK0=>?_)
  refine W.region ?_
  refine O.ex (Ex.assign rfl) rfl ?_
  refine O.nil ?_
  refine hK0 _ _ _ ?_
  refine W.seq (fun K1 hK1=>?_)
  refine W.region ?_
  refine O.ex (Ex.move rfl) rfl ?_
  refine O.ex (by first|exact Ex.nilPtr rfl|exact Ex.nilFunc rfl|exact Ex.nilYield rfl) rfl ?_
  refine O.ex (by first|exact Ex.field0 fld93_0 rfl|exact Ex.field fld93_0 rfl|exact Ex.fieldS fld93_0 rfl) rfl ?_
  refine O.ex (by first|exact Ex.loadMh Tryz.isAgg3 rfl|exact Ex.loadP Tryz.isAgg3 rfl|exact Ex.loadM Tryz.isAgg3 rfl|exact Ex.loadIn1 Tryz.isAgg3 rfl (Holds.to (by assumption))|exact Ex.loadVc Tryz.isAgg3 rfl|exact Ex.loadR Tryz.isAgg3 rfl|exact Ex.loadQ Tryz.isAgg3 rfl) rfl ?_
  refine O.ex (Ex.assign rfl) rfl ?_
  refine O.nil ?_
  refine hK1 _ _ _ ?_
  refine W.ret ?_
  try dsimp only [thenQ,blockQ,retQ]
  first|refine ⟨_,⟨_,_,rfl,rfl,rfl⟩,?_⟩|(refine retD_mark ?_; intro w H; refine ⟨_,⟨_,_,rfl,rfl,rfl⟩,?_⟩)|(refine retD_mark2 ?_; intro w H; refine ⟨_,⟨_,_,rfl,rfl,rfl⟩,?_⟩)
  exact ⟨rfl,mh_open.2 (Holds.to (by assumption))⟩
theorem new_ct {w : World} {n : Int} {L : List HProp} (H : Holds w L) :
    CT Tryz.prog 13 [.int .i64 n] w fun u w'=>(¬ (1 ≤ n ∧ n ≤ 24) ∧ u = .tuple #[.pointer none,.int .i64 1] ∧ Holds w' L) ∨ ((1 ≤ n ∧ n ≤ 24) ∧ ∃ m,u = .tuple #[.pointer (some ⟨m,0,none⟩),.int .i64 0] ∧ Holds w' (Mh m n noneM::L)):=by
  refine CT.enter (N:=13) Tryz.func13 rfl rfl rfl rfl ?_
  refine W.seq (fun K0 hK0=>?_)
  refine W.region ?_
  refine O.ex (Ex.assign rfl) rfl ?_
  refine O.ex (Ex.assign rfl) rfl ?_
  refine O.nil ?_
  refine hK0 _ _ _ ?_
  refine W.seq (fun K1 hK1=>?_)
  refine W.seq (fun K2 hK2=>?_)
  refine W.region ?_
  refine O.ex (Ex.move rfl) rfl ?_
  refine O.ex (Ex.lss rfl rfl) rfl ?_
  refine O.ex (Ex.move rfl) rfl ?_
  first|refine O.split_p (t:=6) rfl (fun h0=>?_) (fun h0=>?_)|refine O.split (t:=6) rfl (fun h0=>?_) (fun h0=>?_)
  · refine O.guard_f rfl rfl rfl rfl ?_
    refine O.guard_f rfl rfl rfl rfl ?_
    refine O.ex (Ex.pick_t rfl rfl) rfl ?_
    refine O.nil ?_
    refine hK2 _ _ _ ?_
    refine W.cond_t rfl ?_
    refine W.seq (fun K3 hK3=>?_)
    refine W.region ?_
    refine O.ex (Ex.assign rfl) rfl ?_
    refine O.ex (Ex.assign rfl) rfl ?_
    refine O.nil ?_
    refine hK3 _ _ _ ?_
    refine W.ret ?_
    try dsimp only [thenQ,blockQ,retQ]
    first|refine ⟨_,⟨_,_,rfl,rfl,_,_,rfl,rfl,rfl⟩,?_⟩|(refine retD_mark ?_; intro w H; refine ⟨_,⟨_,_,rfl,rfl,_,_,rfl,rfl,rfl⟩,?_⟩)|(refine retD_mark2 ?_; intro w H; refine ⟨_,⟨_,_,rfl,rfl,_,_,rfl,rfl,rfl⟩,?_⟩)
    first
    | exact .inl ⟨by omega,rfl,Holds.to (by assumption)⟩
    | (have H : Holds w (Mh b12 n noneM::_):=H
       exact .inr ⟨by omega,b12,rfl,Holds.to (by assumption)⟩)
  · refine O.guard_t rfl rfl ?_
    refine O.ex (Ex.move rfl) rfl ?_
    refine O.guard_t rfl rfl ?_
    refine O.ex (Ex.gtr rfl rfl) rfl ?_
    refine O.ex (Ex.pick_f rfl rfl) rfl ?_
    refine O.nil ?_
    refine hK2 _ _ _ ?_
    first|refine W.cond_p rfl (fun h1=>?_) (fun h1=>?_)|refine W.cond_b rfl (fun h1=>?_) (fun h1=>?_)
    · refine W.seq (fun K4 hK4=>?_)
      refine W.region ?_
      refine O.ex (Ex.assign rfl) rfl ?_
      refine O.ex (Ex.assign rfl) rfl ?_
      refine O.nil ?_
      refine hK4 _ _ _ ?_
      refine W.ret ?_
      try dsimp only [thenQ,blockQ,retQ]
      first|refine ⟨_,⟨_,_,rfl,rfl,_,_,rfl,rfl,rfl⟩,?_⟩|(refine retD_mark ?_; intro w H; refine ⟨_,⟨_,_,rfl,rfl,_,_,rfl,rfl,rfl⟩,?_⟩)|(refine retD_mark2 ?_; intro w H; refine ⟨_,⟨_,_,rfl,rfl,_,_,rfl,rfl,rfl⟩,?_⟩)
      first
      | exact .inl ⟨by omega,rfl,Holds.to (by assumption)⟩
      | (have H : Holds w (Mh b12 n noneM::_):=H
         exact .inr ⟨by omega,b12,rfl,Holds.to (by assumption)⟩)
    · refine W.skip ?_
      refine hK1 _ _ _ ?_
      refine W.seq (fun K5 hK5=>?_)
      refine W.region ?_
      refine O.ex (Ex.move rfl) rfl ?_
      refine O.ex (Ex.buildM Tryz.runUnderlying93 zM (fun w=>by simp [Tryz.sizeOf3,Tryz.sizeOf91]) rfl rfl) rfl ?_
      refine O.boxM rfl (fun b12 w H=>?_)
      refine O.ex (Ex.assign rfl) rfl ?_
      refine O.ex (Ex.assign rfl) rfl ?_
      refine O.nil ?_
      refine hK5 _ _ _ ?_
      refine W.ret ?_
      try dsimp only [thenQ,blockQ,retQ]
      first|refine ⟨_,⟨_,_,rfl,rfl,_,_,rfl,rfl,rfl⟩,?_⟩|(refine retD_mark ?_; intro w H; refine ⟨_,⟨_,_,rfl,rfl,_,_,rfl,rfl,rfl⟩,?_⟩)|(refine retD_mark2 ?_; intro w H; refine ⟨_,⟨_,_,rfl,rfl,_,_,rfl,rfl,rfl⟩,?_⟩)
      first
      | exact .inl ⟨by omega,rfl,Holds.to (by assumption)⟩
      | (have H : Holds w (Mh b12 n noneM::_):=H
         exact .inr ⟨by omega,b12,rfl,Holds.to (by assumption)⟩)
theorem put_ct {w : World} {m : Nat} {n u v g : Int} {c : Int → Int → Int} {L : List HProp} (hg : Good n c) (H : Holds w (Mh m n c::L)) :
    CT Tryz.prog 14 [.pointer (some ⟨m,0,none⟩),.int .i64 u,.int .i64 v,.int .i64 g] w fun x w'=>x = .int .i64 (if okP n u v g then 0 else 1) ∧ Holds w' (Mh m n (putD n c u v g)::L):=by
  have n2:=hg.n2
  refine CT.enter (N:=41) Tryz.func14 rfl rfl rfl rfl ?_
  refine W.seq (fun K0 hK0=>?_)
  refine W.region ?_
  refine O.ex (Ex.assign rfl) rfl ?_
  refine O.nil ?_
  refine hK0 _ _ _ ?_
  refine W.seq (fun K1 hK1=>?_)
  refine W.seq (fun K2 hK2=>?_)
  refine W.region ?_
  refine O.ex (Ex.move rfl) rfl ?_
  refine O.ex (Ex.move rfl) rfl ?_
  refine O.callF Tryz.call40 rfl rfl (CT.mono (vertexm_ct (Holds.to (by assumption))) ?_)
  rintro _ w ⟨rfl,H⟩
  refine O.ex (by first|exact Ex.notD rfl|exact Ex.not rfl) rfl ?_
  refine O.ex (Ex.move rfl) rfl ?_
  first|refine O.split_p (t:=13) rfl (fun h0=>?_) (fun h0=>?_)|refine O.split (t:=13) rfl (fun h0=>?_) (fun h0=>?_)
  · refine O.guard_f rfl rfl rfl rfl ?_
    refine O.guard_f rfl rfl rfl rfl ?_
    refine O.guard_f rfl rfl rfl rfl ?_
    refine O.guard_f rfl rfl rfl rfl ?_
    refine O.ex (Ex.pick_t rfl rfl) rfl ?_
    refine O.ex (Ex.move rfl) rfl ?_
    refine O.guard_f rfl rfl rfl rfl ?_
    refine O.guard_f rfl rfl rfl rfl ?_
    refine O.guard_f rfl rfl rfl rfl ?_
    refine O.ex (Ex.pick_t rfl rfl) rfl ?_
    refine O.ex (Ex.move rfl) rfl ?_
    refine O.guard_f rfl rfl rfl rfl ?_
    refine O.guard_f rfl rfl rfl rfl ?_
    refine O.ex (Ex.pick_t rfl rfl) rfl ?_
    refine O.ex (Ex.move rfl) rfl ?_
    refine O.guard_f rfl rfl rfl rfl ?_
    refine O.guard_f rfl rfl rfl rfl ?_
    refine O.ex (Ex.pick_t rfl rfl) rfl ?_
    refine O.nil ?_
    refine hK2 _ _ _ ?_
    refine W.cond_t rfl ?_
    refine W.seq (fun K3 hK3=>?_)
    refine W.region ?_
    refine O.ex (Ex.assign rfl) rfl ?_
    refine O.nil ?_
    refine hK3 _ _ _ ?_
    refine W.ret ?_
    try dsimp only [thenQ,blockQ,retQ]
    first|refine ⟨_,⟨_,_,rfl,rfl,rfl⟩,?_⟩|(refine retD_mark ?_; intro w H; refine ⟨_,⟨_,_,rfl,rfl,rfl⟩,?_⟩)|(refine retD_mark2 ?_; intro w H; refine ⟨_,⟨_,_,rfl,rfl,rfl⟩,?_⟩)
    first
    | (have hno : ¬ okP n u v g:=by unfold okP; omega
       refine ⟨by rw [if_neg hno]; rfl,?_⟩
       unfold putD; rw [if_neg hno]; exact Holds.to (by assumption))
    | (have hok : okP n u v g:=by unfold okP; omega
       refine ⟨by rw [if_pos hok]; rfl,?_⟩
       unfold putD; rw [if_pos hok]
       rw [upd_neg] at H
       exact mh_open.2 (Holds.to (by assumption)))
  · refine O.guard_t rfl rfl ?_
    refine O.ex (Ex.move rfl) rfl ?_
    refine O.guard_t rfl rfl ?_
    refine O.ex (Ex.move rfl) rfl ?_
    refine O.guard_t rfl rfl ?_
    refine O.callF Tryz.call40 rfl rfl (CT.mono (vertexm_ct (Holds.to (by assumption))) ?_)
    rintro _ w ⟨rfl,H⟩
    refine O.guard_t rfl rfl ?_
    refine O.ex (by first|exact Ex.notD rfl|exact Ex.not rfl) rfl ?_
    refine O.ex (Ex.pick_f rfl rfl) rfl ?_
    refine O.ex (Ex.move rfl) rfl ?_
    first|refine O.split_p (t:=19) rfl (fun h1=>?_) (fun h1=>?_)|refine O.split (t:=19) rfl (fun h1=>?_) (fun h1=>?_)
    · refine O.guard_f rfl rfl rfl rfl ?_
      refine O.guard_f rfl rfl rfl rfl ?_
      refine O.guard_f rfl rfl rfl rfl ?_
      refine O.ex (Ex.pick_t rfl rfl) rfl ?_
      refine O.ex (Ex.move rfl) rfl ?_
      refine O.guard_f rfl rfl rfl rfl ?_
      refine O.guard_f rfl rfl rfl rfl ?_
      refine O.ex (Ex.pick_t rfl rfl) rfl ?_
      refine O.ex (Ex.move rfl) rfl ?_
      refine O.guard_f rfl rfl rfl rfl ?_
      refine O.guard_f rfl rfl rfl rfl ?_
      refine O.ex (Ex.pick_t rfl rfl) rfl ?_
      refine O.nil ?_
      refine hK2 _ _ _ ?_
      refine W.cond_t rfl ?_
      refine W.seq (fun K4 hK4=>?_)
      refine W.region ?_
      refine O.ex (Ex.assign rfl) rfl ?_
      refine O.nil ?_
      refine hK4 _ _ _ ?_
      refine W.ret ?_
      try dsimp only [thenQ,blockQ,retQ]
      first|refine ⟨_,⟨_,_,rfl,rfl,rfl⟩,?_⟩|(refine retD_mark ?_; intro w H; refine ⟨_,⟨_,_,rfl,rfl,rfl⟩,?_⟩)|(refine retD_mark2 ?_; intro w H; refine ⟨_,⟨_,_,rfl,rfl,rfl⟩,?_⟩)
      first
      | (have hno : ¬ okP n u v g:=by unfold okP; omega
         refine ⟨by rw [if_neg hno]; rfl,?_⟩
         unfold putD; rw [if_neg hno]; exact Holds.to (by assumption))
      | (have hok : okP n u v g:=by unfold okP; omega
         refine ⟨by rw [if_pos hok]; rfl,?_⟩
         unfold putD; rw [if_pos hok]
         rw [upd_neg] at H
         exact mh_open.2 (Holds.to (by assumption)))
    · refine O.guard_t rfl rfl ?_
      refine O.ex (Ex.move rfl) rfl ?_
      refine O.guard_t rfl rfl ?_
      refine O.ex (Ex.move rfl) rfl ?_
      refine O.guard_t rfl rfl ?_
      refine O.ex (Ex.eqlI rfl rfl) rfl ?_
      refine O.ex (Ex.pick_f rfl rfl) rfl ?_
      refine O.ex (Ex.move rfl) rfl ?_
      first|refine O.split_p (t:=24) rfl (fun h2=>?_) (fun h2=>?_)|refine O.split (t:=24) rfl (fun h2=>?_) (fun h2=>?_)
      · refine O.guard_f rfl rfl rfl rfl ?_
        refine O.guard_f rfl rfl rfl rfl ?_
        refine O.ex (Ex.pick_t rfl rfl) rfl ?_
        refine O.ex (Ex.move rfl) rfl ?_
        refine O.guard_f rfl rfl rfl rfl ?_
        refine O.guard_f rfl rfl rfl rfl ?_
        refine O.ex (Ex.pick_t rfl rfl) rfl ?_
        refine O.nil ?_
        refine hK2 _ _ _ ?_
        refine W.cond_t rfl ?_
        refine W.seq (fun K5 hK5=>?_)
        refine W.region ?_
        refine O.ex (Ex.assign rfl) rfl ?_
        refine O.nil ?_
        refine hK5 _ _ _ ?_
        refine W.ret ?_
        try dsimp only [thenQ,blockQ,retQ]
        first|refine ⟨_,⟨_,_,rfl,rfl,rfl⟩,?_⟩|(refine retD_mark ?_; intro w H; refine ⟨_,⟨_,_,rfl,rfl,rfl⟩,?_⟩)|(refine retD_mark2 ?_; intro w H; refine ⟨_,⟨_,_,rfl,rfl,rfl⟩,?_⟩)
        first
        | (have hno : ¬ okP n u v g:=by unfold okP; omega
           refine ⟨by rw [if_neg hno]; rfl,?_⟩
           unfold putD; rw [if_neg hno]; exact Holds.to (by assumption))
        | (have hok : okP n u v g:=by unfold okP; omega
           refine ⟨by rw [if_pos hok]; rfl,?_⟩
           unfold putD; rw [if_pos hok]
           rw [upd_neg] at H
           exact mh_open.2 (Holds.to (by assumption)))
      · refine O.guard_t rfl rfl ?_
        refine O.ex (Ex.move rfl) rfl ?_
        refine O.guard_t rfl rfl ?_
        refine O.ex (Ex.lss rfl rfl) rfl ?_
        refine O.ex (Ex.pick_f rfl rfl) rfl ?_
        refine O.ex (Ex.move rfl) rfl ?_
        first|refine O.split_p (t:=28) rfl (fun h3=>?_) (fun h3=>?_)|refine O.split (t:=28) rfl (fun h3=>?_) (fun h3=>?_)
        · refine O.guard_f rfl rfl rfl rfl ?_
          refine O.guard_f rfl rfl rfl rfl ?_
          refine O.ex (Ex.pick_t rfl rfl) rfl ?_
          refine O.nil ?_
          refine hK2 _ _ _ ?_
          refine W.cond_t rfl ?_
          refine W.seq (fun K6 hK6=>?_)
          refine W.region ?_
          refine O.ex (Ex.assign rfl) rfl ?_
          refine O.nil ?_
          refine hK6 _ _ _ ?_
          refine W.ret ?_
          try dsimp only [thenQ,blockQ,retQ]
          first|refine ⟨_,⟨_,_,rfl,rfl,rfl⟩,?_⟩|(refine retD_mark ?_; intro w H; refine ⟨_,⟨_,_,rfl,rfl,rfl⟩,?_⟩)|(refine retD_mark2 ?_; intro w H; refine ⟨_,⟨_,_,rfl,rfl,rfl⟩,?_⟩)
          first
          | (have hno : ¬ okP n u v g:=by unfold okP; omega
             refine ⟨by rw [if_neg hno]; rfl,?_⟩
             unfold putD; rw [if_neg hno]; exact Holds.to (by assumption))
          | (have hok : okP n u v g:=by unfold okP; omega
             refine ⟨by rw [if_pos hok]; rfl,?_⟩
             unfold putD; rw [if_pos hok]
             rw [upd_neg] at H
             exact mh_open.2 (Holds.to (by assumption)))
        · refine O.guard_t rfl rfl ?_
          refine O.ex (Ex.move rfl) rfl ?_
          refine O.guard_t rfl rfl ?_
          refine O.ex (Ex.gtr rfl rfl) rfl ?_
          refine O.ex (Ex.pick_f rfl rfl) rfl ?_
          refine O.nil ?_
          refine hK2 _ _ _ ?_
          first|refine W.cond_p rfl (fun h4=>?_) (fun h4=>?_)|refine W.cond_b rfl (fun h4=>?_) (fun h4=>?_)
          · refine W.seq (fun K7 hK7=>?_)
            refine W.region ?_
            refine O.ex (Ex.assign rfl) rfl ?_
            refine O.nil ?_
            refine hK7 _ _ _ ?_
            refine W.ret ?_
            try dsimp only [thenQ,blockQ,retQ]
            first|refine ⟨_,⟨_,_,rfl,rfl,rfl⟩,?_⟩|(refine retD_mark ?_; intro w H; refine ⟨_,⟨_,_,rfl,rfl,rfl⟩,?_⟩)|(refine retD_mark2 ?_; intro w H; refine ⟨_,⟨_,_,rfl,rfl,rfl⟩,?_⟩)
            first
            | (have hno : ¬ okP n u v g:=by unfold okP; omega
               refine ⟨by rw [if_neg hno]; rfl,?_⟩
               unfold putD; rw [if_neg hno]; exact Holds.to (by assumption))
            | (have hok : okP n u v g:=by unfold okP; omega
               refine ⟨by rw [if_pos hok]; rfl,?_⟩
               unfold putD; rw [if_pos hok]
               rw [upd_neg] at H
               exact mh_open.2 (Holds.to (by assumption)))
          · refine W.skip ?_
            refine hK1 _ _ _ ?_
            refine W.seq (fun K8 hK8=>?_)
            refine W.region ?_
            have H:=mh_open.1 (Holds.to (by assumption))
            refine O.ex (Ex.move rfl) rfl ?_
            refine O.ex (Ex.move rfl) rfl ?_
            refine O.ex (Ex.move rfl) rfl ?_
            refine O.ex (Ex.move rfl) rfl ?_
            refine O.ex (by first|exact Ex.subI rfl rfl|exact Ex.sub rfl rfl rfl) rfl ?_
            refine O.ex (by first|exact Ex.nilPtr rfl|exact Ex.nilFunc rfl|exact Ex.nilYield rfl) rfl ?_
            refine O.ex (by first|exact Ex.field0 fld93_1 rfl|exact Ex.field fld93_1 rfl|exact Ex.fieldS fld93_1 rfl) rfl ?_
            refine O.ex (Ex.idxArr Tryz.runUnderlying91 Tryz.sizeOf89 rfl rfl) rfl ?_
            refine O.ex (Ex.idxArr Tryz.runUnderlying89 Tryz.sizeOf3 rfl rfl) rfl ?_
            first|refine O.storeP Tryz.sizeOf3 rfl rfl (fun w H=>?_)|refine O.storeR Tryz.sizeOf3 rfl rfl (fun w H=>?_)|refine O.storeM Tryz.sizeOf3 rfl rfl (fun w H=>?_)|refine O.storeVc Tryz.sizeOf3 rfl rfl (fun w H=>?_)
            refine O.nil ?_
            refine hK8 _ _ _ ?_
            refine W.seq (fun K9 hK9=>?_)
            refine W.region ?_
            refine O.ex (Ex.assign rfl) rfl ?_
            refine O.nil ?_
            refine hK9 _ _ _ ?_
            refine W.ret ?_
            try dsimp only [thenQ,blockQ,retQ]
            first|refine ⟨_,⟨_,_,rfl,rfl,rfl⟩,?_⟩|(refine retD_mark ?_; intro w H; refine ⟨_,⟨_,_,rfl,rfl,rfl⟩,?_⟩)|(refine retD_mark2 ?_; intro w H; refine ⟨_,⟨_,_,rfl,rfl,rfl⟩,?_⟩)
            first
            | (have hno : ¬ okP n u v g:=by unfold okP; omega
               refine ⟨by rw [if_neg hno]; rfl,?_⟩
               unfold putD; rw [if_neg hno]; exact Holds.to (by assumption))
            | (have hok : okP n u v g:=by unfold okP; omega
               refine ⟨by rw [if_pos hok]; rfl,?_⟩
               unfold putD; rw [if_pos hok]
               rw [upd_neg] at H
               exact mh_open.2 (Holds.to (by assumption)))
theorem refNew_ct {w : World} {n : Int} {L : List HProp} (H : Holds w L) :
    CT Tryz.prog 60 [.int .i64 n] w fun u w'=>∃ r,u = .pointer (some ⟨r,0,none⟩) ∧ Holds w' (Rh r n noneM::L):=by
  refine CT.enter (N:=25) Tryz.func60 rfl rfl rfl rfl ?_
  refine W.seq (fun K0 hK0=>?_)
  refine W.region ?_
  refine O.ex (Ex.assign rfl) rfl ?_
  refine O.nil ?_
  refine hK0 _ _ _ ?_
  refine W.seq (fun K1 hK1=>?_)
  refine W.region ?_
  refine O.ex (Ex.move rfl) rfl ?_
  refine O.ex (Ex.buildM Tryz.runUnderlying114 zR (fun w=>by simp [Tryz.sizeOf3,Tryz.sizeOf90]) rfl rfl) rfl ?_
  refine O.boxM rfl (fun b8 w H=>?_)
  refine O.ex (Ex.assign rfl) rfl ?_
  refine O.nil ?_
  refine hK1 _ _ _ ?_
  refine W.seq (fun K2 hK2=>?_)
  refine W.seq (fun K3 hK3=>?_)
  refine W.region ?_
  refine O.ex (Ex.assign rfl) rfl ?_
  refine O.nil ?_
  refine hK3 _ _ _ ?_
  refine W.block ?_
  refine W.loop (σ:=Nat) (fun i=>[(3,.pointer (some ⟨b8,0,none⟩)),(4,.int .i64 (i : Int))]) (fun i ds w=>ds = [] ∧ i ≤ 24 ∧ Holds w (mtx b8 114 [.int .i64 n] (fun a b=>if a < (i : Nat) then 4611686018427387906 else 0)::L)) (fun i=>24 - i) 0 ⟨rfl,rfl,trivial⟩ ⟨rfl,by omega,by rw [mtx_congr (D':=fun _ _=>0) (fun u v h0 _ _ _=>if_neg (by omega))]; exact Holds.to (by assumption)⟩ ?_
  clear H
  rintro i _ w ⟨rfl,hi,H⟩
  refine W.seq (fun K4 hK4=>?_)
  refine W.seq (fun K5 hK5=>?_)
  refine W.region ?_
  refine O.ex (Ex.move rfl) rfl ?_
  refine O.ex (Ex.lss rfl rfl) rfl ?_
  refine O.nil ?_
  refine hK5 _ _ _ ?_
  first|refine W.cond_p rfl (fun hlt=>?_) (fun hge=>?_)|refine W.cond_b rfl (fun hlt=>?_) (fun hge=>?_)
  · refine W.skip ?_
    refine hK4 _ _ _ ?_
    refine W.seq (fun K6 hK6=>?_)
    refine W.block ?_
    refine W.seq (fun K7 hK7=>?_)
    refine W.region ?_
    refine O.ex (Ex.assign rfl) rfl ?_
    refine O.nil ?_
    refine hK7 _ _ _ ?_
    refine W.block ?_
    have H : Holds w (mtx b8 114 [.int .i64 n] (fun a b=>if a < (i : Nat) ∨ (a = (i : Nat) ∧ b < ((0 : Nat) : Int)) then 4611686018427387906 else 0)::L):=by
      rw [mtx_congr (D':=fun a b=>if a < (i : Nat) then 4611686018427387906 else 0) (fun u v h0 _ h2 _=>by (repeat' split) <;> omega)]; exact Holds.to (by assumption)
    refine W.loop (σ:=Nat) (fun j=>[(3,.pointer (some ⟨b8,0,none⟩)),(4,.int .i64 (i : Int)),(5,.int .i64 (j : Int))]) (fun j ds w=>ds = [] ∧ j ≤ 24 ∧ Holds w (mtx b8 114 [.int .i64 n] (fun a b=>if a < (i : Nat) ∨ (a = (i : Nat) ∧ b < (j : Nat)) then 4611686018427387906 else 0)::L)) (fun j=>24 - j) 0 ⟨rfl,rfl,rfl,trivial⟩ ⟨rfl,by omega,Holds.to (by assumption)⟩ ?_
    clear H
    rintro j _ w ⟨rfl,hj,H⟩
    refine W.seq (fun K8 hK8=>?_)
    refine W.seq (fun K9 hK9=>?_)
    refine W.region ?_
    refine O.ex (Ex.move rfl) rfl ?_
    refine O.ex (Ex.lss rfl rfl) rfl ?_
    refine O.nil ?_
    refine hK9 _ _ _ ?_
    first|refine W.cond_p rfl (fun hlt2=>?_) (fun hge2=>?_)|refine W.cond_b rfl (fun hlt2=>?_) (fun hge2=>?_)
    · refine W.skip ?_
      refine hK8 _ _ _ ?_
      refine W.seq (fun K10 hK10=>?_)
      refine W.block ?_
      refine W.region ?_
      refine O.ex (Ex.move rfl) rfl ?_
      refine O.ex (Ex.move rfl) rfl ?_
      refine O.ex (Ex.move rfl) rfl ?_
      refine O.ex (by first|exact Ex.nilPtr rfl|exact Ex.nilFunc rfl|exact Ex.nilYield rfl) rfl ?_
      refine O.ex (by first|exact Ex.field0 fld114_1 rfl|exact Ex.field fld114_1 rfl|exact Ex.fieldS fld114_1 rfl) rfl ?_
      refine O.ex (Ex.idxArr Tryz.runUnderlying90 Tryz.sizeOf89 rfl rfl) rfl ?_
      refine O.ex (Ex.idxArr Tryz.runUnderlying89 Tryz.sizeOf3 rfl rfl) rfl ?_
      first|refine O.storeP Tryz.sizeOf3 rfl rfl (fun w H=>?_)|refine O.storeR Tryz.sizeOf3 rfl rfl (fun w H=>?_)|refine O.storeM Tryz.sizeOf3 rfl rfl (fun w H=>?_)|refine O.storeVc Tryz.sizeOf3 rfl rfl (fun w H=>?_)
      refine O.nil ?_
      refine hK10 _ _ _ ?_
      refine W.region ?_
      refine O.ex (Ex.move rfl) rfl ?_
      refine O.ex (by first|exact Ex.addI rfl rfl|exact Ex.add rfl rfl rfl) rfl ?_
      refine O.ex (Ex.assign rfl) rfl ?_
      refine O.nil ?_
      rw [show upd2 (fun (a b : Int)=>if a < (i : Nat) ∨ (a = (i : Nat) ∧ b < (j : Nat)) then 4611686018427387906 else 0) (i : Nat) (j : Nat) 4611686018427387906 = (fun (a b : Int)=>if a < (i : Nat) ∨ (a = (i : Nat) ∧ b < ((j + 1 : Nat) : Int)) then 4611686018427387906 else 0) from by funext a b; unfold upd2; dsimp only; (repeat' split) <;> omega] at H
      exact ⟨j + 1,⟨rfl,rfl,rfl,trivial⟩,⟨rfl,by omega,Holds.to (by assumption)⟩,by omega⟩
    · refine W.exit ?_
      refine hK6 _ _ _ ?_
      refine W.region ?_
      refine O.ex (Ex.move rfl) rfl ?_
      refine O.ex (by first|exact Ex.addI rfl rfl|exact Ex.add rfl rfl rfl) rfl ?_
      refine O.ex (Ex.assign rfl) rfl ?_
      refine O.nil ?_
      have H : Holds w (mtx b8 114 [.int .i64 n] (fun a b=>if a < ((i + 1 : Nat) : Int) then 4611686018427387906 else 0)::L):=by
        rw [mtx_congr (D':=fun a b=>if a < (i : Nat) ∨ (a = (i : Nat) ∧ b < (j : Nat)) then 4611686018427387906 else 0) (fun u v h0 _ h2 _=>by (repeat' split) <;> omega)]; exact Holds.to (by assumption)
      exact ⟨i + 1,⟨rfl,rfl,trivial⟩,⟨rfl,by omega,Holds.to (by assumption)⟩,by omega⟩
  · refine W.exit ?_
    refine hK2 _ _ _ ?_
    refine W.seq (fun K11 hK11=>?_)
    refine W.region ?_
    refine O.ex (Ex.move rfl) rfl ?_
    refine O.ex (Ex.assign rfl) rfl ?_
    refine O.nil ?_
    refine hK11 _ _ _ ?_
    refine W.ret ?_
    try dsimp only [thenQ,blockQ,retQ]
    first|refine ⟨_,⟨_,_,rfl,rfl,rfl⟩,?_⟩|(refine retD_mark ?_; intro w H; refine ⟨_,⟨_,_,rfl,rfl,rfl⟩,?_⟩)|(refine retD_mark2 ?_; intro w H; refine ⟨_,⟨_,_,rfl,rfl,rfl⟩,?_⟩)
    refine ⟨b8,rfl,?_⟩
    show Holds w (mtx _ _ _ noneM::L)
    rw [mtx_congr (D:=noneM) (D':=fun a b=>if a < (i : Nat) then 4611686018427387906 else 0) (fun u v h0 h1 _ _=>(if_pos (by omega)).symm)]; exact Holds.to (by assumption)
def capsS (b3 b5 b4 m : Nat) (lv : Value) (v : Int) : HProp:=star [pt b3 (.cells #[.pointer (some ⟨m,0,none⟩)] 45 (0,0)),pt b5 (.cells #[lv] 111 (0,0)),pt b4 (.cells #[.int .i64 v] 3 (0,0))]
theorem capsS_open {w : World} {b3 b5 b4 m : Nat} {lv : Value} {v : Int} {L : List HProp} : Holds w (capsS b3 b5 b4 m lv v::L) ↔ Holds w (pt b3 (.cells #[.pointer (some ⟨m,0,none⟩)] 45 (0,0))::pt b5 (.cells #[lv] 111 (0,0))::pt b4 (.cells #[.int .i64 v] 3 (0,0))::L):=by
  unfold capsS
  simp only [Holds.star,List.cons_append,List.nil_append]
/-- What the iterator over a vertex's steps tells. -/
theorem steps1_ct {w : World} {b3 b5 b4 m : Nat} {lv fv : Value} {n v : Int} {c : Int → Int → Int} {g : Int → Int} {J : Nat → List HProp} {φ : Nat → Prop} {S : World → Prop} (hn2 : n ≤ 24) (hn1 : 1 ≤ n) (hφ : φ 0)
    (H : Holds w (capsS b3 b5 b4 m lv v::Mh m n c::J 0))
    (hl : ∀ (i : Nat) w,Holds w (capsS b3 b5 b4 m lv v::Mh m n c::J i) → VT Tryz.prog lv [.int .i64 v,.int .i64 (i : Int)] w fun u w'=>u = .int .i64 (g i) ∧ Holds w' (capsS b3 b5 b4 m lv v::Mh m n c::J i))
    (hy : ∀ (i : Nat) w,(i : Int) < n → g i ≠ 4611686018427387906 → φ i → Holds w (capsS b3 b5 b4 m lv v::Mh m n c::J i) →
      VT Tryz.prog fv [.int .i64 (i : Int),.int .i64 (g i)] w fun u w'=>(u = .bool true ∧ φ (i + 1) ∧ Holds w' (capsS b3 b5 b4 m lv v::Mh m n c::J (i + 1))) ∨ (u = .bool false ∧ S w'))
    (hno : ∀ (i : Nat) w,(i : Int) < n → ¬ g i ≠ 4611686018427387906 → φ i → Holds w (capsS b3 b5 b4 m lv v::Mh m n c::J i) → φ (i + 1) ∧ Holds w (capsS b3 b5 b4 m lv v::Mh m n c::J (i + 1))) :
    CT Tryz.prog 100 [fv,.pointer (some ⟨b3,0,none⟩),.pointer (some ⟨b5,0,none⟩),.pointer (some ⟨b4,0,none⟩)] w fun _ w'=>(φ n.toNat ∧ Holds w' (capsS b3 b5 b4 m lv v::Mh m n c::J n.toNat)) ∨ S w':=by
  have H:=capsS_open.1 H
  refine CT.enter (N:=28) Tryz.func100 rfl rfl rfl rfl ?_
  refine W.seq (fun K0 hK0=>?_)
  refine W.region ?_
  refine O.ex (by first|exact Ex.loadP Tryz.isAgg45 rfl|exact Ex.loadQ Tryz.isAgg45 rfl|exact Ex.loadMh Tryz.isAgg45 rfl|exact Ex.loadR Tryz.isAgg45 rfl|exact Ex.loadIn1 Tryz.isAgg45 rfl (Holds.to (by assumption))|exact Ex.loadM Tryz.isAgg45 rfl|exact Ex.loadVc Tryz.isAgg45 rfl) rfl ?_
  refine O.ex (by first|exact Ex.nilPtr rfl|exact Ex.nilFunc rfl|exact Ex.nilYield rfl) rfl ?_
  refine O.ex (by first|exact Ex.field0 fld93_0 rfl|exact Ex.field fld93_0 rfl|exact Ex.fieldS fld93_0 rfl) rfl ?_
  have H:=mh_open.1 (Holds.to (by assumption))
  refine O.ex (by first|exact Ex.loadMh Tryz.isAgg3 rfl|exact Ex.loadP Tryz.isAgg3 rfl|exact Ex.loadM Tryz.isAgg3 rfl|exact Ex.loadIn1 Tryz.isAgg3 rfl (Holds.to (by assumption))|exact Ex.loadVc Tryz.isAgg3 rfl|exact Ex.loadR Tryz.isAgg3 rfl|exact Ex.loadQ Tryz.isAgg3 rfl) rfl ?_
  refine O.ex (Ex.move rfl) rfl ?_
  refine O.nil ?_
  refine hK0 _ _ _ ?_
  refine W.block ?_
  have H:=capsS_open.2 (Holds.to (by assumption))
  refine W.loop (σ:=Nat) (fun i=>[(0,fv),(1,.pointer (some ⟨b3,0,none⟩)),(2,.pointer (some ⟨b5,0,none⟩)),(3,.pointer (some ⟨b4,0,none⟩)),(10,.int .i64 n),(11,.int .i64 (i : Int))]) (fun i ds w=>ds = [] ∧ (i : Int) ≤ n ∧ φ i ∧ Holds w (capsS b3 b5 b4 m lv v::Mh m n c::J i)) (fun i=>n.toNat - i) 0 ⟨rfl,rfl,rfl,rfl,rfl,rfl,trivial⟩ ⟨rfl,by omega,hφ,Holds.to (by assumption)⟩ ?_
  clear H
  rintro i _ w ⟨rfl,hi,hφi,H⟩
  refine W.seq (fun K1 hK1=>?_)
  refine W.region ?_
  refine O.ex (Ex.lss rfl rfl) rfl ?_
  refine O.nil ?_
  refine hK1 _ _ _ ?_
  refine W.seq (fun K2 hK2=>?_)
  first|refine W.cond_p rfl (fun hlt=>?_) (fun hge=>?_)|refine W.cond_b rfl (fun hlt=>?_) (fun hge=>?_)
  · refine W.skip ?_
    refine hK2 _ _ _ ?_
    refine W.seq (fun K3 hK3=>?_)
    refine W.block ?_
    refine W.seq (fun K4 hK4=>?_)
    refine W.region ?_
    refine O.ex (Ex.move rfl) rfl ?_
    refine O.ex (Ex.assign rfl) rfl ?_
    refine O.nil ?_
    refine hK4 _ _ _ ?_
    refine W.seq (fun K5 hK5=>?_)
    refine W.region ?_
    have H:=capsS_open.1 H
    refine O.ex (by first|exact Ex.loadP Tryz.isAgg111 rfl|exact Ex.loadQ Tryz.isAgg111 rfl|exact Ex.loadMh Tryz.isAgg111 rfl|exact Ex.loadR Tryz.isAgg111 rfl|exact Ex.loadIn1 Tryz.isAgg111 rfl (Holds.to (by assumption))|exact Ex.loadM Tryz.isAgg111 rfl|exact Ex.loadVc Tryz.isAgg111 rfl) rfl ?_
    refine O.ex (by first|exact Ex.loadP Tryz.isAgg3 rfl|exact Ex.loadQ Tryz.isAgg3 rfl|exact Ex.loadMh Tryz.isAgg3 rfl|exact Ex.loadR Tryz.isAgg3 rfl|exact Ex.loadIn1 Tryz.isAgg3 rfl (Holds.to (by assumption))|exact Ex.loadM Tryz.isAgg3 rfl|exact Ex.loadVc Tryz.isAgg3 rfl) rfl ?_
    refine O.ex (Ex.move rfl) rfl ?_
    refine O.callVT rfl rfl rfl (VT.mono (hl i w (capsS_open.2 (Holds.to (by assumption)))) ?_)
    rintro _ w ⟨rfl,H⟩
    refine O.ex (Ex.assign rfl) rfl ?_
    refine O.nil ?_
    refine hK5 _ _ _ ?_
    refine W.seq (fun K6 hK6=>?_)
    refine W.region ?_
    refine O.ex (Ex.move rfl) rfl ?_
    refine O.ex (Ex.neqI rfl rfl) rfl ?_
    refine O.ex (Ex.move rfl) rfl ?_
    first|refine O.split_p (t:=20) rfl (fun hyes=>?_) (fun hnn=>?_)|refine O.split (t:=20) rfl (fun hyes=>?_) (fun hnn=>?_)
    · refine O.guard_t rfl rfl ?_
      refine O.ex (Ex.move rfl) rfl ?_
      refine O.guard_t rfl rfl ?_
      refine O.ex (Ex.move rfl) rfl ?_
      refine O.guard_t rfl rfl ?_
      refine O.ex (Ex.move rfl) rfl ?_
      refine O.guard_t rfl rfl ?_
      refine O.callVT rfl rfl rfl (VT.mono (hy i w hlt hyes hφi (Holds.to (by assumption))) ?_)
      rintro _ w hh
      obtain (⟨rfl,hφ2,H⟩|⟨rfl,H⟩):=hh
      · refine O.guard_t rfl rfl ?_
        refine O.ex (by first|exact Ex.notD rfl|exact Ex.not rfl) rfl ?_
        refine O.ex (Ex.pick_t rfl rfl) rfl ?_
        refine O.nil ?_
        refine hK6 _ _ _ ?_
        refine W.known_f rfl (by first|rfl|decide|(simp; done)|omega) ?_
        refine W.skip ?_
        refine hK3 _ _ _ ?_
        refine W.region ?_
        refine O.ex (by first|exact Ex.addI rfl rfl|exact Ex.add rfl rfl rfl) rfl ?_
        refine O.ex (Ex.move rfl) rfl ?_
        refine O.nil ?_
        first
        | exact ⟨i + 1,⟨rfl,rfl,rfl,rfl,rfl,rfl,trivial⟩,⟨rfl,by omega,hφ2,Holds.to (by assumption)⟩,by omega⟩
        | (have hnn2:=hno i w hlt hnn hφi (Holds.to (by assumption))
           exact ⟨i + 1,⟨rfl,rfl,rfl,rfl,rfl,rfl,trivial⟩,⟨rfl,by omega,hnn2.1,hnn2.2⟩,by omega⟩)
      · refine O.guard_t rfl rfl ?_
        refine O.ex (by first|exact Ex.notD rfl|exact Ex.not rfl) rfl ?_
        refine O.ex (Ex.pick_t rfl rfl) rfl ?_
        refine O.nil ?_
        refine hK6 _ _ _ ?_
        refine W.known_t rfl (by first|rfl|decide|(simp; done)|omega) ?_
        refine W.ret ?_
        try dsimp only [thenQ,blockQ,retQ]
        first|refine ⟨_,rfl,?_⟩|(refine retD_mark ?_; intro w H; refine ⟨_,rfl,?_⟩)|(refine retD_mark2 ?_; intro w H; refine ⟨_,rfl,?_⟩)
        first
        | exact .inr H
        | (obtain rfl : i = n.toNat:=by omega
           exact .inl ⟨hφi,Holds.to (by assumption)⟩)
    · refine O.guard_f rfl rfl rfl rfl ?_
      refine O.guard_f rfl rfl rfl rfl ?_
      refine O.guard_f rfl rfl rfl rfl ?_
      refine O.guard_f rfl rfl rfl rfl ?_
      refine O.guard_f rfl rfl rfl rfl ?_
      refine O.ex (Ex.pick_f rfl rfl) rfl ?_
      refine O.nil ?_
      refine hK6 _ _ _ ?_
      refine W.cond_f rfl ?_
      refine W.skip ?_
      refine hK3 _ _ _ ?_
      refine W.region ?_
      refine O.ex (by first|exact Ex.addI rfl rfl|exact Ex.add rfl rfl rfl) rfl ?_
      refine O.ex (Ex.move rfl) rfl ?_
      refine O.nil ?_
      first
      | exact ⟨i + 1,⟨rfl,rfl,rfl,rfl,rfl,rfl,trivial⟩,⟨rfl,by omega,hφ2,Holds.to (by assumption)⟩,by omega⟩
      | (have hnn2:=hno i w hlt hnn hφi (Holds.to (by assumption))
         exact ⟨i + 1,⟨rfl,rfl,rfl,rfl,rfl,rfl,trivial⟩,⟨rfl,by omega,hnn2.1,hnn2.2⟩,by omega⟩)
  · refine W.exit ?_
    try dsimp only [thenQ,blockQ,retQ]
    first|refine ⟨_,rfl,?_⟩|(refine retD_mark ?_; intro w H; refine ⟨_,rfl,?_⟩)|(refine retD_mark2 ?_; intro w H; refine ⟨_,rfl,?_⟩)
    first
    | exact .inr H
    | (obtain rfl : i = n.toNat:=by omega
       exact .inl ⟨hφi,Holds.to (by assumption)⟩)
theorem steps_ct {w : World} {m : Nat} {v : Int} {lv : Value} {L : List HProp} (hlv : lv.oneCell' = true) (H : Holds w L) :
    CT Tryz.prog 81 [.pointer (some ⟨m,0,none⟩),.int .i64 v,lv] w fun x w'=>∃ b3 b5 b4,x = .func (.func 100) #[] #[.pointer (some ⟨b3,0,none⟩),.pointer (some ⟨b5,0,none⟩),.pointer (some ⟨b4,0,none⟩)] ∧ Holds w' (capsS b3 b5 b4 m lv v::L):=by
  refine CT.enter (N:=8) Tryz.func81 rfl rfl rfl rfl ?_
  refine W.seq (fun K0 hK0=>?_)
  refine W.region ?_
  refine O.boxP rfl (fun b3 w H=>?_)
  refine O.boxP rfl (fun b4 w H=>?_)
  refine O.boxP rfl (fun b5 w H=>?_)
  rw [cells_one hlv] at H
  refine O.ex (Ex.assign rfl) rfl ?_
  refine O.nil ?_
  refine hK0 _ _ _ ?_
  refine W.seq (fun K1 hK1=>?_)
  refine W.region ?_
  refine O.ex (Ex.makeFunc rfl rfl) rfl ?_
  refine O.ex (Ex.assign rfl) rfl ?_
  refine O.nil ?_
  refine hK1 _ _ _ ?_
  refine W.ret ?_
  try dsimp only [thenQ,blockQ,retQ]
  first|refine ⟨_,⟨_,_,rfl,rfl,rfl⟩,?_⟩|(refine retD_mark ?_; intro w H; refine ⟨_,⟨_,_,rfl,rfl,rfl⟩,?_⟩)|(refine retD_mark2 ?_; intro w H; refine ⟨_,⟨_,_,rfl,rfl,rfl⟩,?_⟩)
  exact ⟨b3,b5,b4,rfl,capsS_open.2 (Holds.to (by assumption))⟩
abbrev atV (m : Nat) : Value:=.func (.func 59) #[.pointer (some ⟨m,0,none⟩)] #[]
abbrev inV (b : Nat) : Value:=.func (.func 82) #[] #[.pointer (some ⟨b,0,none⟩)]
theorem vtAt {w : World} {m : Nat} {n u v : Int} {c : Int → Int → Int} {L : List HProp} (hg : Good n c) (H : Holds w (Mh m n c::L)) :
    VT Tryz.prog (atV m) [.int .i64 u,.int .i64 v] w fun x w'=>x = .int .i64 (c u v) ∧ Holds w' (Mh m n c::L):=VT.fn Tryz.call59 (at_ct hg H)
def cap2 (b m : Nat) : HProp:=pt b (.cells #[.pointer (some ⟨m,0,none⟩)] 45 (0,0))
theorem in1_ct {w : World} {b m : Nat} {n u v : Int} {c : Int → Int → Int} {L : List HProp} (hg : Good n c) (H : Holds w (Mh m n c::cap2 b m::L)) :
    CT Tryz.prog 82 [.int .i64 u,.int .i64 v,.pointer (some ⟨b,0,none⟩)] w fun x w'=>x = .int .i64 (c v u) ∧ Holds w' (Mh m n c::cap2 b m::L):=by
  have H:=H.swap
  unfold cap2 at H
  refine CT.enter (N:=10) Tryz.func82 rfl rfl rfl rfl ?_
  refine W.seq (fun K0 hK0=>?_)
  refine W.region ?_
  refine O.ex (Ex.assign rfl) rfl ?_
  refine O.nil ?_
  refine hK0 _ _ _ ?_
  refine W.seq (fun K1 hK1=>?_)
  refine W.region ?_
  refine O.ex (by first|exact Ex.loadP Tryz.isAgg45 rfl|exact Ex.loadQ Tryz.isAgg45 rfl|exact Ex.loadMh Tryz.isAgg45 rfl|exact Ex.loadR Tryz.isAgg45 rfl|exact Ex.loadIn1 Tryz.isAgg45 rfl (Holds.to (by assumption))|exact Ex.loadM Tryz.isAgg45 rfl|exact Ex.loadVc Tryz.isAgg45 rfl) rfl ?_
  refine O.ex (Ex.move rfl) rfl ?_
  refine O.ex (Ex.move rfl) rfl ?_
  refine O.callF Tryz.call59 rfl rfl (CT.mono (at_ct hg (Holds.to (by assumption))) ?_)
  rintro _ w ⟨rfl,H⟩
  refine O.ex (Ex.assign rfl) rfl ?_
  refine O.nil ?_
  refine hK1 _ _ _ ?_
  refine W.ret ?_
  try dsimp only [thenQ,blockQ,retQ]
  first|refine ⟨_,⟨_,_,rfl,rfl,rfl⟩,?_⟩|(refine retD_mark ?_; intro w H; refine ⟨_,⟨_,_,rfl,rfl,rfl⟩,?_⟩)|(refine retD_mark2 ?_; intro w H; refine ⟨_,⟨_,_,rfl,rfl,rfl⟩,?_⟩)
  exact ⟨rfl,by first|assumption|exact Holds.to (by assumption)⟩
theorem vtIn {w : World} {b m : Nat} {n u v : Int} {c : Int → Int → Int} {L : List HProp} (hg : Good n c) (H : Holds w (Mh m n c::cap2 b m::L)) :
    VT Tryz.prog (inV b) [.int .i64 u,.int .i64 v] w fun x w'=>x = .int .i64 (c v u) ∧ Holds w' (Mh m n c::cap2 b m::L):=VT.fn Tryz.call82 (in1_ct hg H)
theorem out_ct {w : World} {m : Nat} {v : Int} {L : List HProp} (H : Holds w L) :
    CT Tryz.prog 56 [.pointer (some ⟨m,0,none⟩),.int .i64 v] w fun x w'=>∃ b3 b5 b4,x = .func (.func 100) #[] #[.pointer (some ⟨b3,0,none⟩),.pointer (some ⟨b5,0,none⟩),.pointer (some ⟨b4,0,none⟩)] ∧ Holds w' (capsS b3 b5 b4 m (atV m) v::L):=by
  refine CT.enter (N:=10) Tryz.func56 rfl rfl rfl rfl ?_
  refine W.seq (fun K0 hK0=>?_)
  refine W.region ?_
  refine O.ex (Ex.assign rfl) rfl ?_
  refine O.nil ?_
  refine hK0 _ _ _ ?_
  refine W.seq (fun K1 hK1=>?_)
  refine W.region ?_
  refine O.ex (Ex.move rfl) rfl ?_
  refine O.ex (Ex.move rfl) rfl ?_
  refine O.ex (Ex.move rfl) rfl ?_
  refine O.ex (Ex.makeFunc rfl rfl) rfl ?_
  refine O.callF Tryz.call81 rfl rfl (CT.mono (steps_ct (lv:=atV m) rfl (Holds.to (by assumption))) ?_)
  rintro _ w ⟨b3,b5,b4,rfl,H⟩
  refine O.ex (Ex.assign rfl) rfl ?_
  refine O.nil ?_
  refine hK1 _ _ _ ?_
  refine W.ret ?_
  try dsimp only [thenQ,blockQ,retQ]
  first|refine ⟨_,⟨_,_,rfl,rfl,rfl⟩,?_⟩|(refine retD_mark ?_; intro w H; refine ⟨_,⟨_,_,rfl,rfl,rfl⟩,?_⟩)|(refine retD_mark2 ?_; intro w H; refine ⟨_,⟨_,_,rfl,rfl,rfl⟩,?_⟩)
  exact ⟨b3,b5,b4,rfl,Holds.to (by assumption)⟩
theorem in_ct {w : World} {m : Nat} {v : Int} {L : List HProp} (H : Holds w L) :
    CT Tryz.prog 57 [.pointer (some ⟨m,0,none⟩),.int .i64 v] w fun x w'=>∃ b2 b3 b5 b4,x = .func (.func 100) #[] #[.pointer (some ⟨b3,0,none⟩),.pointer (some ⟨b5,0,none⟩),.pointer (some ⟨b4,0,none⟩)] ∧ Holds w' (capsS b3 b5 b4 m (inV b2) v::cap2 b2 m::L):=by
  refine CT.enter (N:=9) Tryz.func57 rfl rfl rfl rfl ?_
  refine W.seq (fun K0 hK0=>?_)
  refine W.region ?_
  refine O.boxP rfl (fun b2 w H=>?_)
  refine O.ex (Ex.assign rfl) rfl ?_
  refine O.nil ?_
  refine hK0 _ _ _ ?_
  refine W.seq (fun K1 hK1=>?_)
  refine W.region ?_
  refine O.ex (by first|exact Ex.loadP Tryz.isAgg45 rfl|exact Ex.loadQ Tryz.isAgg45 rfl|exact Ex.loadMh Tryz.isAgg45 rfl|exact Ex.loadR Tryz.isAgg45 rfl|exact Ex.loadIn1 Tryz.isAgg45 rfl (Holds.to (by assumption))|exact Ex.loadM Tryz.isAgg45 rfl|exact Ex.loadVc Tryz.isAgg45 rfl) rfl ?_
  refine O.ex (Ex.move rfl) rfl ?_
  refine O.ex (Ex.makeFunc rfl rfl) rfl ?_
  refine O.callF Tryz.call81 rfl rfl (CT.mono (steps_ct (lv:=inV b2) rfl (Holds.to (by assumption))) ?_)
  rintro _ w ⟨b3,b5,b4,rfl,H⟩
  refine O.ex (Ex.assign rfl) rfl ?_
  refine O.nil ?_
  refine hK1 _ _ _ ?_
  refine W.ret ?_
  try dsimp only [thenQ,blockQ,retQ]
  first|refine ⟨_,⟨_,_,rfl,rfl,rfl⟩,?_⟩|(refine retD_mark ?_; intro w H; refine ⟨_,⟨_,_,rfl,rfl,rfl⟩,?_⟩)|(refine retD_mark2 ?_; intro w H; refine ⟨_,⟨_,_,rfl,rfl,rfl⟩,?_⟩)
  exact ⟨b2,b3,b5,b4,rfl,Holds.to (by assumption)⟩
theorem norm_ct {w : World} {a : Int} {L : List HProp} (H : Holds w L) (ha : Dst a) : CT Tryz.prog 93 [.int .i64 a] w fun x w'=>x = .int .i64 a ∧ Holds w' L:=by
  unfold Dst at ha
  refine CT.enter (N:=6) Tryz.func93 rfl rfl rfl rfl ?_
  refine W.seq (fun K0 hK0=>?_)
  refine W.region ?_
  refine O.ex (Ex.assign rfl) rfl ?_
  refine O.nil ?_
  refine hK0 _ _ _ ?_
  refine W.seq (fun K1 hK1=>?_)
  refine W.region ?_
  refine O.ex (Ex.move rfl) rfl ?_
  refine O.ex (Ex.maxI rfl rfl) rfl ?_
  refine O.ex (Ex.minI rfl rfl) rfl ?_
  refine O.ex (Ex.assign rfl) rfl ?_
  refine O.nil ?_
  refine hK1 _ _ _ ?_
  refine W.ret ?_
  try dsimp only [thenQ,blockQ,retQ]
  first|refine ⟨_,⟨_,_,rfl,rfl,rfl⟩,?_⟩|(refine retD_mark ?_; intro w H; refine ⟨_,⟨_,_,rfl,rfl,rfl⟩,?_⟩)|(refine retD_mark2 ?_; intro w H; refine ⟨_,⟨_,_,rfl,rfl,rfl⟩,?_⟩)
  exact ⟨congrArg (Value.int .i64) (by omega),Holds.to (by assumption)⟩
theorem add1_ct {w : World} {a b : Int} {L : List HProp} (H : Holds w L) (ha : Dst a) (hb : Dst b) : CT Tryz.prog 92 [.int .i64 a,.int .i64 b] w fun x w'=>x = .int .i64 (two a b) ∧ Holds w' L:=by
  have ha':=ha
  have hb':=hb
  unfold Dst at ha' hb'
  refine CT.enter (N:=26) Tryz.func92 rfl rfl rfl rfl ?_
  refine W.seq (fun K0 hK0=>?_)
  refine W.region ?_
  refine O.ex (Ex.assign rfl) rfl ?_
  refine O.nil ?_
  refine hK0 _ _ _ ?_
  refine W.seq (fun K1 hK1=>?_)
  refine W.region ?_
  refine O.ex (Ex.move rfl) rfl ?_
  refine O.callF Tryz.call93 rfl rfl (CT.mono (norm_ct (Holds.to (by assumption)) hb) ?_)
  rintro _ w ⟨rfl,H⟩
  refine O.ex (Ex.assign rfl) rfl ?_
  refine O.nil ?_
  refine hK1 _ _ _ ?_
  refine W.seq (fun K2 hK2=>?_)
  refine W.block ?_
  refine W.seq (fun K3 hK3=>?_)
  refine W.region ?_
  refine O.ex (Ex.move rfl) rfl ?_
  refine O.ex (Ex.eqlI rfl rfl) rfl ?_
  refine O.ex (Ex.move rfl) rfl ?_
  first|refine O.split_p (t:=10) rfl (fun h0=>?_) (fun h0=>?_)|refine O.split (t:=10) rfl (fun h0=>?_) (fun h0=>?_)
  · refine O.guard_f rfl rfl rfl rfl ?_
    refine O.guard_f rfl rfl rfl rfl ?_
    refine O.ex (Ex.pick_t rfl rfl) rfl ?_
    refine O.ex (Ex.assign rfl) rfl ?_
    refine O.nil ?_
    refine hK3 _ _ _ ?_
    refine W.cond_t rfl ?_
    refine W.seq (fun K4 hK4=>?_)
    refine W.region ?_
    refine O.ex (Ex.assign rfl) rfl ?_
    refine O.nil ?_
    refine hK4 _ _ _ ?_
    refine W.ret ?_
    try dsimp only [thenQ,blockQ,retQ]
    first|refine ⟨_,⟨_,_,rfl,rfl,rfl⟩,?_⟩|(refine retD_mark ?_; intro w H; refine ⟨_,⟨_,_,rfl,rfl,rfl⟩,?_⟩)|(refine retD_mark2 ?_; intro w H; refine ⟨_,⟨_,_,rfl,rfl,rfl⟩,?_⟩)
    exact ⟨congrArg (Value.int .i64) (by unfold two; (repeat' split) <;> omega),Holds.to (by assumption)⟩
  · refine O.guard_t rfl rfl ?_
    refine O.ex (Ex.move rfl) rfl ?_
    refine O.guard_t rfl rfl ?_
    refine O.ex (Ex.eqlI rfl rfl) rfl ?_
    refine O.ex (Ex.pick_f rfl rfl) rfl ?_
    refine O.ex (Ex.assign rfl) rfl ?_
    refine O.nil ?_
    refine hK3 _ _ _ ?_
    first|refine W.cond_p rfl (fun h1=>?_) (fun h1=>?_)|refine W.cond_b rfl (fun h1=>?_) (fun h1=>?_)
    · refine W.seq (fun K5 hK5=>?_)
      refine W.region ?_
      refine O.ex (Ex.assign rfl) rfl ?_
      refine O.nil ?_
      refine hK5 _ _ _ ?_
      refine W.ret ?_
      try dsimp only [thenQ,blockQ,retQ]
      first|refine ⟨_,⟨_,_,rfl,rfl,rfl⟩,?_⟩|(refine retD_mark ?_; intro w H; refine ⟨_,⟨_,_,rfl,rfl,rfl⟩,?_⟩)|(refine retD_mark2 ?_; intro w H; refine ⟨_,⟨_,_,rfl,rfl,rfl⟩,?_⟩)
      exact ⟨congrArg (Value.int .i64) (by unfold two; (repeat' split) <;> omega),Holds.to (by assumption)⟩
    · refine W.seq (fun K6 hK6=>?_)
      refine W.region ?_
      refine O.ex (Ex.move rfl) rfl ?_
      refine O.ex (Ex.gtr rfl rfl) rfl ?_
      refine O.ex (Ex.move rfl) rfl ?_
      first|refine O.split_p (t:=17) rfl (fun h2=>?_) (fun h2=>?_)|refine O.split (t:=17) rfl (fun h2=>?_) (fun h2=>?_)
      · refine O.guard_f rfl rfl rfl rfl ?_
        refine O.guard_f rfl rfl rfl rfl ?_
        refine O.guard_f rfl rfl rfl rfl ?_
        refine O.guard_f rfl rfl rfl rfl ?_
        refine O.ex (Ex.pick_t rfl rfl) rfl ?_
        refine O.ex (Ex.assign rfl) rfl ?_
        refine O.nil ?_
        refine hK6 _ _ _ ?_
        refine W.cond_t rfl ?_
        refine W.seq (fun K7 hK7=>?_)
        refine W.region ?_
        refine O.ex (Ex.assign rfl) rfl ?_
        refine O.nil ?_
        refine hK7 _ _ _ ?_
        refine W.ret ?_
        try dsimp only [thenQ,blockQ,retQ]
        first|refine ⟨_,⟨_,_,rfl,rfl,rfl⟩,?_⟩|(refine retD_mark ?_; intro w H; refine ⟨_,⟨_,_,rfl,rfl,rfl⟩,?_⟩)|(refine retD_mark2 ?_; intro w H; refine ⟨_,⟨_,_,rfl,rfl,rfl⟩,?_⟩)
        exact ⟨congrArg (Value.int .i64) (by unfold two; (repeat' split) <;> omega),Holds.to (by assumption)⟩
      · refine O.guard_t rfl rfl ?_
        refine O.ex (Ex.move rfl) rfl ?_
        refine O.guard_t rfl rfl ?_
        refine O.ex (Ex.move rfl) rfl ?_
        refine O.guard_t rfl rfl ?_
        refine O.ex (by first|exact Ex.subI rfl rfl|exact Ex.sub rfl rfl rfl) rfl ?_
        refine O.guard_t rfl rfl ?_
        refine O.ex (Ex.gtr rfl rfl) rfl ?_
        refine O.ex (Ex.pick_f rfl rfl) rfl ?_
        refine O.ex (Ex.assign rfl) rfl ?_
        refine O.nil ?_
        refine hK6 _ _ _ ?_
        first|refine W.cond_p rfl (fun h3=>?_) (fun h3=>?_)|refine W.cond_b rfl (fun h3=>?_) (fun h3=>?_)
        · refine W.seq (fun K8 hK8=>?_)
          refine W.region ?_
          refine O.ex (Ex.assign rfl) rfl ?_
          refine O.nil ?_
          refine hK8 _ _ _ ?_
          refine W.ret ?_
          try dsimp only [thenQ,blockQ,retQ]
          first|refine ⟨_,⟨_,_,rfl,rfl,rfl⟩,?_⟩|(refine retD_mark ?_; intro w H; refine ⟨_,⟨_,_,rfl,rfl,rfl⟩,?_⟩)|(refine retD_mark2 ?_; intro w H; refine ⟨_,⟨_,_,rfl,rfl,rfl⟩,?_⟩)
          exact ⟨congrArg (Value.int .i64) (by unfold two; (repeat' split) <;> omega),Holds.to (by assumption)⟩
        · refine W.skip ?_
          refine hK2 _ _ _ ?_
          refine W.seq (fun K9 hK9=>?_)
          refine W.region ?_
          refine O.ex (Ex.move rfl) rfl ?_
          refine O.ex (Ex.move rfl) rfl ?_
          refine O.ex (by first|exact Ex.addI rfl rfl|exact Ex.add rfl rfl rfl) rfl ?_
          refine O.ex (Ex.assign rfl) rfl ?_
          refine O.nil ?_
          refine hK9 _ _ _ ?_
          refine W.ret ?_
          try dsimp only [thenQ,blockQ,retQ]
          first|refine ⟨_,⟨_,_,rfl,rfl,rfl⟩,?_⟩|(refine retD_mark ?_; intro w H; refine ⟨_,⟨_,_,rfl,rfl,rfl⟩,?_⟩)|(refine retD_mark2 ?_; intro w H; refine ⟨_,⟨_,_,rfl,rfl,rfl⟩,?_⟩)
          exact ⟨congrArg (Value.int .i64) (by unfold two; (repeat' split) <;> omega),Holds.to (by assumption)⟩
theorem fold_dst (xs : List Int) : ∀ a,Dst a → (∀ x ∈ xs,Dst x) → Dst (xs.foldl two a):=by
  induction xs with
  | nil=>intro a ha _; exact ha
  | cons x xs ih=>intro a ha hx; exact ih _ (two_dst ha (hx x (by simp))) fun y hy=>hx y (by simp [hy])
theorem take_get (xs : List Int) (i : Nat) (h : i < xs.length) : xs.take (i + 1) = xs.take i ++ [xs.getD i default]:=by
  rw [List.take_succ_eq_append_getElem h]; simp [List.getD_eq_getElem?_getD,h]
theorem fold_ct {w : World} {v : Value} {xs : List Int} {L : List HProp} (H : Holds w (arr 3 (Value.int .i64) v xs::L)) (hx : ∀ x ∈ xs,Dst x) (hl : xs.length ≤ 1000) :
    CT Tryz.prog 91 [v,.int .i64 0,.func (.func 92) #[] #[]] w fun x w'=>x = .int .i64 (xs.foldl two 0) ∧ Holds w' (arr 3 (Value.int .i64) v xs::L):=by
  refine CT.enter (N:=21) Tryz.func91 rfl rfl rfl rfl ?_
  refine W.seq (fun K0 hK0=>?_)
  refine W.region ?_
  refine O.ex (Ex.assign rfl) rfl ?_
  refine O.nil ?_
  refine hK0 _ _ _ ?_
  refine W.seq (fun K1 hK1=>?_)
  refine W.seq (fun K2 hK2=>?_)
  refine W.region ?_
  refine O.ex (Ex.move rfl) rfl ?_
  refine O.ex (by first|exact Ex.lenR Tryz.runUnderlying28 rfl|exact Ex.lenIn Tryz.runUnderlying28 rfl|exact Ex.lenL Tryz.runUnderlying28 rfl|exact Ex.len rfl Tryz.runUnderlying28 rfl) rfl ?_
  refine O.ex (Ex.move rfl) rfl ?_
  refine O.nil ?_
  refine hK2 _ _ _ ?_
  refine W.block ?_
  refine W.loop (σ:=Nat) (fun i=>[(1,.int .i64 ((xs.take i).foldl two 0)),(2,.func (.func 92) #[] #[]),(9,v),(10,.int .i64 xs.length),(11,.int .i64 (i : Int))]) (fun i ds w=>ds = [] ∧ i ≤ xs.length ∧ Holds w (arr 3 (Value.int .i64) v xs::L)) (fun i=>xs.length - i) 0 ⟨rfl,rfl,rfl,rfl,rfl,trivial⟩ ⟨rfl,by omega,Holds.to (by assumption)⟩ ?_
  clear H
  rintro i _ w ⟨rfl,hi,H⟩
  have hd:=fold_dst (xs.take i) 0 ⟨by omega,by omega⟩ (fun x h=>hx x (List.mem_of_mem_take h))
  refine W.seq (fun K3 hK3=>?_)
  refine W.region ?_
  refine O.ex (Ex.lss rfl rfl) rfl ?_
  refine O.nil ?_
  refine hK3 _ _ _ ?_
  refine W.seq (fun K4 hK4=>?_)
  first|refine W.cond_p rfl (fun hlt=>?_) (fun hge=>?_)|refine W.cond_b rfl (fun hlt=>?_) (fun hge=>?_)
  · refine W.skip ?_
    refine hK4 _ _ _ ?_
    refine W.seq (fun K5 hK5=>?_)
    refine W.block ?_
    refine W.seq (fun K6 hK6=>?_)
    refine W.region ?_
    refine O.ex (by first|exact Ex.idxR Tryz.runUnderlying28 Tryz.sizeOf3 rfl rfl|exact Ex.idxIn Tryz.runUnderlying28 Tryz.sizeOf3 rfl rfl|exact Ex.idxS Tryz.runUnderlying28 Tryz.sizeOf3 rfl rfl|exact Ex.idx Tryz.runUnderlying28 Tryz.sizeOf3 rfl rfl (by omega) (by omega)) rfl ?_
    refine O.ex (by first|exact Ex.loadR Tryz.isAgg3 rfl|exact Ex.loadIn1 Tryz.isAgg3 rfl (Holds.to (by assumption))|exact Ex.loadP Tryz.isAgg3 rfl|exact Ex.loadMh Tryz.isAgg3 rfl|exact Ex.loadM Tryz.isAgg3 rfl|exact Ex.loadVc Tryz.isAgg3 rfl|exact Ex.loadQ Tryz.isAgg3 rfl) rfl ?_
    refine O.ex (Ex.assign rfl) rfl ?_
    refine O.nil ?_
    refine hK6 _ _ _ ?_
    refine W.region ?_
    have hxd : Dst (xs.getD ((i : Nat) : Int).toNat default):=hx _ (by
      rw [Int.toNat_natCast,List.getD_eq_getElem?_getD,List.getElem?_eq_getElem (by omega)]; exact List.getElem_mem _)
    refine O.ex (Ex.move rfl) rfl ?_
    refine O.ex (Ex.move rfl) rfl ?_
    refine O.ex (Ex.move rfl) rfl ?_
    refine O.callVT rfl rfl rfl (VT.mono (VT.fn Tryz.call92 (add1_ct (Holds.to (by assumption)) hd hxd)) ?_)
    rintro _ w ⟨rfl,H⟩
    refine O.ex (Ex.assign rfl) rfl ?_
    refine O.nil ?_
    refine hK5 _ _ _ ?_
    refine W.region ?_
    refine O.ex (by first|exact Ex.addI rfl rfl|exact Ex.add rfl rfl rfl) rfl ?_
    refine O.ex (Ex.move rfl) rfl ?_
    refine O.nil ?_
    exact ⟨i + 1,⟨by rw [take_get xs i (by omega),List.foldl_append]; rfl,rfl,rfl,rfl,rfl,trivial⟩,⟨rfl,by omega,Holds.to (by assumption)⟩,by omega⟩
  · refine W.exit ?_
    refine hK1 _ _ _ ?_
    refine W.seq (fun K7 hK7=>?_)
    refine W.region ?_
    refine O.ex (Ex.move rfl) rfl ?_
    refine O.ex (Ex.assign rfl) rfl ?_
    refine O.nil ?_
    refine hK7 _ _ _ ?_
    refine W.ret ?_
    try dsimp only [thenQ,blockQ,retQ]
    first|refine ⟨_,⟨_,_,rfl,rfl,rfl⟩,?_⟩|(refine retD_mark ?_; intro w H; refine ⟨_,⟨_,_,rfl,rfl,rfl⟩,?_⟩)|(refine retD_mark2 ?_; intro w H; refine ⟨_,⟨_,_,rfl,rfl,rfl⟩,?_⟩)
    obtain rfl : i = xs.length:=by omega
    exact ⟨by rw [List.take_length]; rfl,Holds.to (by assumption)⟩
theorem add_ct {w : World} {v : Value} {a b : Int} {L : List HProp} (H : Holds w (arr 3 (Value.int .i64) v [a,b]::L)) (ha : Dst a) (hb : Dst b) :
    CT Tryz.prog 67 [v] w fun x w'=>x = .int .i64 (two a b) ∧ Holds w' L:=by
  have hx : ∀ x ∈ [a,b],Dst x:=by
    intro x hx
    simp only [List.mem_cons,List.not_mem_nil,or_false] at hx
    rcases hx with rfl|rfl <;> assumption
  refine CT.enter (N:=5) Tryz.func67 rfl rfl rfl rfl ?_
  refine W.seq (fun K0 hK0=>?_)
  refine W.region ?_
  refine O.ex (Ex.assign rfl) rfl ?_
  refine O.nil ?_
  refine hK0 _ _ _ ?_
  refine W.seq (fun K1 hK1=>?_)
  refine W.region ?_
  refine O.ex (Ex.move rfl) rfl ?_
  refine O.callF Tryz.call91 rfl rfl (CT.mono (fold_ct (xs:=[a,b]) (Holds.to (by assumption)) hx (by simp)) ?_)
  rintro _ w ⟨rfl,H⟩
  refine O.ex (Ex.assign rfl) rfl ?_
  refine O.nil ?_
  refine hK1 _ _ _ ?_
  refine W.ret ?_
  try dsimp only [thenQ,blockQ,retQ]
  first|refine ⟨_,⟨_,_,rfl,rfl,rfl⟩,?_⟩|(refine retD_mark ?_; intro w H; refine ⟨_,⟨_,_,rfl,rfl,rfl⟩,?_⟩)|(refine retD_mark2 ?_; intro w H; refine ⟨_,⟨_,_,rfl,rfl,rfl⟩,?_⟩)
  exact ⟨congrArg (Value.int .i64) (by show two (two 0 a) b = two a b; rw [zero_two ha]),Holds.to (by assumption)⟩
end Go.Proofs.YtblapiiinbppiaaGreatDoor
namespace Go.Proofs.YtblapiiinbppiaaGreatDoor
open Go.Rr
set_option linter.unusedVariables false
def LinkM.enc (x : LinkM) : List Value:=[.int .i64 x.t,.int .i64 x.h,.int .i64 x.g,.int .i64 (-1),.int .i64 x.mid]
abbrev lks (v : Value) (xs : List LinkM) : HProp:=arrN 99 5 LinkM.enc v xs
/-- A slice of links in a variable. -/
def lkV (b : Nat) (xs : List LinkM) : HProp:=hex fun va=>star [pt b (.cells #[va] 94 (0,0)),lks va xs]
theorem lkV_open {w : World} {b : Nat} {xs : List LinkM} {L : List HProp} : Holds w (lkV b xs::L) ↔ ∃ va,Holds w (pt b (.cells #[va] 94 (0,0))::lks va xs::L):=by
  unfold lkV
  simp only [Holds.hex,Holds.star,List.cons_append,List.nil_append]
set_option maxHeartbeats 1000000 in
theorem detours_ct {w : World} {m : Nat} {n v : Int} {c : Int → Int → Int} {L : List HProp} (hg : Good n c) (H : Holds w (Mh m n c::L)) :
    CT Tryz.prog 41 [.pointer (some ⟨m,0,none⟩),.int .i64 v] w fun x w'=>x.oneCell' = true ∧ Holds w' (lks x (detL n c v)::Mh m n c::L):=by
  have n1:=hg.n1
  have n2:=hg.n2
  have hN : ((n.toNat : Nat) : Int) = n:=by omega
  refine CT.enter (N:=36) Tryz.func41 rfl rfl rfl rfl ?_
  refine W.seq (fun K0 hK0=>?_)
  refine W.region ?_
  refine O.boxP rfl (fun b2 w H=>?_)
  refine O.boxP rfl (fun b3 w H=>?_)
  refine O.ex (Ex.assign rfl) rfl ?_
  refine O.nil ?_
  refine hK0 _ _ _ ?_
  refine W.seq (fun K1 hK1=>?_)
  refine W.region ?_
  refine O.allocP Tryz.zeroValue94 (fun b5 w H=>?_)
  refine O.nil ?_
  refine hK1 _ _ _ ?_
  refine W.seq (fun K2 hK2=>?_)
  refine W.seq (fun K3 hK3=>?_)
  refine W.region ?_
  refine O.ex (by first|exact Ex.loadP Tryz.isAgg45 rfl|exact Ex.loadQ Tryz.isAgg45 rfl|exact Ex.loadMh Tryz.isAgg45 rfl|exact Ex.loadR Tryz.isAgg45 rfl|exact Ex.loadIn1 Tryz.isAgg45 rfl (Holds.to (by assumption))|exact Ex.loadM Tryz.isAgg45 rfl|exact Ex.loadVc Tryz.isAgg45 rfl) rfl ?_
  refine O.ex (by first|exact Ex.loadP Tryz.isAgg3 rfl|exact Ex.loadQ Tryz.isAgg3 rfl|exact Ex.loadMh Tryz.isAgg3 rfl|exact Ex.loadR Tryz.isAgg3 rfl|exact Ex.loadIn1 Tryz.isAgg3 rfl (Holds.to (by assumption))|exact Ex.loadM Tryz.isAgg3 rfl|exact Ex.loadVc Tryz.isAgg3 rfl) rfl ?_
  refine O.callF Tryz.call57 rfl rfl (CT.mono (in_ct (Holds.to (by assumption))) ?_)
  rintro _ w ⟨c2,c3,c5,c4,rfl,H⟩
  refine O.nil ?_
  refine hK3 _ _ _ ?_
  refine W.block ?_
  have H:=(lkV_open (b:=b5) (xs:=outL n.toNat c v 0)).2 ⟨_,(by exact Holds.to (arrN_nil (T:=99) (sz:=5) (e:=LinkM.enc) H))⟩
  have H : Holds w (lkV b5 (outL n.toNat c v 0)::pt b2 (.cells #[.pointer (some ⟨m,0,none⟩)] 45 (0,0))::pt b3 (.cells #[.int .i64 v] 3 (0,0))::capsS c3 c5 c4 m (inV c2) v::cap2 c2 m::Mh m n c::L):=Holds.to H
  refine W.rangeFunc rfl Tryz.call100 H ?_
  rintro LR kk D w hLR H
  refine CT.mono (steps1_ct (g:=fun u=>c u v) (J:=fun i=>LR .ready none::dblk D::lkV b5 (outL n.toNat c v i)::pt b2 (.cells #[.pointer (some ⟨m,0,none⟩)] 45 (0,0))::pt b3 (.cells #[.int .i64 v] 3 (0,0))::cap2 c2 m::L) (φ:=fun _=>True) (S:=fun _=>False) n2 n1 trivial (Holds.to (by assumption)) (fun i w H=>?_) ?_ ?_) ?_
  · refine (vtIn (b:=c2) (m:=m) (u:=v) (v:=(i : Int)) hg (Holds.to (by assumption))).mono ?_
    rintro u w' ⟨e,H⟩
    exact ⟨e,Holds.to (by assumption)⟩
  · intro i w hi hne _ H
    refine VT.round hLR (Holds.to (by assumption)) rfl rfl ?_
    refine W.seq (fun K4 hK4=>?_)
    refine W.region ?_
    refine O.allocP Tryz.zeroValue3 (fun b6 w H=>?_)
    first|refine O.storeP Tryz.sizeOf3 rfl rfl (fun w H=>?_)|refine O.storeR Tryz.sizeOf3 rfl rfl (fun w H=>?_)|refine O.storeM Tryz.sizeOf3 rfl rfl (fun w H=>?_)|refine O.storeVc Tryz.sizeOf3 rfl rfl (fun w H=>?_)
    refine O.nil ?_
    refine hK4 _ _ _ ?_
    refine W.region ?_
    refine O.allocP Tryz.zeroValue3 (fun b7 w H=>?_)
    first|refine O.storeP Tryz.sizeOf3 rfl rfl (fun w H=>?_)|refine O.storeR Tryz.sizeOf3 rfl rfl (fun w H=>?_)|refine O.storeM Tryz.sizeOf3 rfl rfl (fun w H=>?_)|refine O.storeVc Tryz.sizeOf3 rfl rfl (fun w H=>?_)
    refine O.nil ?_
    refine ⟨_,Holds.to (by assumption),fun w H=>?_⟩
    refine W.block ?_
    refine W.seq (fun K5 hK5=>?_)
    refine W.region ?_
    refine O.ex (by first|exact Ex.loadP Tryz.isAgg45 rfl|exact Ex.loadQ Tryz.isAgg45 rfl|exact Ex.loadMh Tryz.isAgg45 rfl|exact Ex.loadR Tryz.isAgg45 rfl|exact Ex.loadIn1 Tryz.isAgg45 rfl (Holds.to (by assumption))|exact Ex.loadM Tryz.isAgg45 rfl|exact Ex.loadVc Tryz.isAgg45 rfl) rfl ?_
    refine O.ex (by first|exact Ex.loadP Tryz.isAgg3 rfl|exact Ex.loadQ Tryz.isAgg3 rfl|exact Ex.loadMh Tryz.isAgg3 rfl|exact Ex.loadR Tryz.isAgg3 rfl|exact Ex.loadIn1 Tryz.isAgg3 rfl (Holds.to (by assumption))|exact Ex.loadM Tryz.isAgg3 rfl|exact Ex.loadVc Tryz.isAgg3 rfl) rfl ?_
    refine O.callF Tryz.call56 rfl rfl (CT.mono (out_ct (Holds.to (by assumption))) ?_)
    rintro _ w ⟨d3,d5,d4,rfl,H⟩
    refine O.nil ?_
    refine hK5 _ _ _ ?_
    refine W.block ?_
    have H : Holds w (LR .busy none::dblk D::lkV b5 (outL n.toNat c v i ++ inn c v (i : Nat) (c i v) 0)::pt b6 (.cells #[.int .i64 (i : Int)] 3 (0,0))::pt b7 (.cells #[.int .i64 (c i v)] 3 (0,0))::pt b2 (.cells #[.pointer (some ⟨m,0,none⟩)] 45 (0,0))::pt b3 (.cells #[.int .i64 v] 3 (0,0))::capsS d3 d5 d4 m (atV m) v::capsS c3 c5 c4 m (inV c2) v::cap2 c2 m::Mh m n c::L):=by
      rw [show outL n.toNat c v i ++ inn c v (i : Nat) (c i v) 0 = outL n.toNat c v i from List.append_nil _]; exact Holds.to (by assumption)
    refine W.rangeFuncIn hLR rfl Tryz.call100 H ?_
    rintro LR2 k2 w hLR2 H
    refine CT.mono (steps1_ct (g:=fun u=>c v u) (J:=fun j=>LR2 .ready none::LR .busy none::dblk D::lkV b5 (outL n.toNat c v i ++ inn c v (i : Nat) (c i v) j)::pt b6 (.cells #[.int .i64 (i : Int)] 3 (0,0))::pt b7 (.cells #[.int .i64 (c i v)] 3 (0,0))::pt b2 (.cells #[.pointer (some ⟨m,0,none⟩)] 45 (0,0))::pt b3 (.cells #[.int .i64 v] 3 (0,0))::capsS c3 c5 c4 m (inV c2) v::cap2 c2 m::L) (φ:=fun _=>True) (S:=fun _=>False) n2 n1 trivial (Holds.to (by assumption)) (fun j w H=>?_) ?_ ?_) ?_
    · refine (vtAt (m:=m) (u:=v) (v:=(j : Int)) hg (Holds.to (by assumption))).mono ?_
      rintro u w' ⟨e,H⟩
      exact ⟨e,Holds.to (by assumption)⟩
    · intro j w hj hne2 _ H
      refine VT.round hLR2 (Holds.to (by assumption)) rfl rfl ?_
      refine W.seq (fun K6 hK6=>?_)
      refine W.region ?_
      refine O.ex (Ex.assign rfl) rfl ?_
      refine O.nil ?_
      refine hK6 _ _ _ ?_
      refine W.region ?_
      refine O.ex (Ex.assign rfl) rfl ?_
      refine O.nil ?_
      refine ⟨_,Holds.to (by assumption),fun w H=>?_⟩
      refine W.block ?_
      refine W.seq (fun K7 hK7=>?_)
      refine W.region ?_
      refine O.ex (by first|exact Ex.loadP Tryz.isAgg3 rfl|exact Ex.loadQ Tryz.isAgg3 rfl|exact Ex.loadMh Tryz.isAgg3 rfl|exact Ex.loadR Tryz.isAgg3 rfl|exact Ex.loadIn1 Tryz.isAgg3 rfl (Holds.to (by assumption))|exact Ex.loadM Tryz.isAgg3 rfl|exact Ex.loadVc Tryz.isAgg3 rfl) rfl ?_
      refine O.ex (Ex.move rfl) rfl ?_
      refine O.ex (Ex.neqI rfl rfl) rfl ?_
      refine O.nil ?_
      refine hK7 _ _ _ ?_
      first|refine W.cond_p rfl (fun hu1=>?_) (fun hu2=>?_)|refine W.cond_b rfl (fun hu1=>?_) (fun hu2=>?_)
      · have hl1:=outL_len n.toNat c v i
        have hl2:=inn_len c v (i : Nat) (c i v) j
        have hl3 : i * n.toNat ≤ 24 * 24:=Nat.mul_le_mul (by omega) (by omega)
        have hlen : (outL n.toNat c v i ++ inn c v (i : Nat) (c i v) j).length ≤ 1000:=by rw [List.length_append]; omega
        obtain ⟨va,H⟩:=lkV_open.1 (Holds.to (by assumption))
        refine W.drawTo (pt b5 _::pt b6 _::pt b7 _::pt b3 _::[]) (.take 0 (.take 1 (.take 2 (.take 3 (.take 4 (.take 7 (.one 5 (.one 6 (.take 8 (.take 9 (.one 10 (.one 11 (.one 12 .nil))))))))))))) (mixed) (fun _ _ _ _ h=>h) (by assumption) PP.auto (by decide +kernel) (fun w H=>?_)
        refine OQ.ex rfl (fun w H=>(by first|exact Ex.loadP Tryz.isAgg94 rfl|exact Ex.loadQ Tryz.isAgg94 rfl|exact Ex.loadMh Tryz.isAgg94 rfl|exact Ex.loadR Tryz.isAgg94 rfl|exact Ex.loadIn1 Tryz.isAgg94 rfl (Holds.to (by assumption))|exact Ex.loadM Tryz.isAgg94 rfl|exact Ex.loadVc Tryz.isAgg94 rfl)) rfl ?_
        refine OQ.ex rfl (fun w H=>(by first|exact Ex.loadP Tryz.isAgg3 rfl|exact Ex.loadQ Tryz.isAgg3 rfl|exact Ex.loadMh Tryz.isAgg3 rfl|exact Ex.loadR Tryz.isAgg3 rfl|exact Ex.loadIn1 Tryz.isAgg3 rfl (Holds.to (by assumption))|exact Ex.loadM Tryz.isAgg3 rfl|exact Ex.loadVc Tryz.isAgg3 rfl)) rfl ?_
        refine OQ.ex rfl (fun w H=>(Ex.move rfl)) rfl ?_
        refine OQ.ex rfl (fun w H=>(by first|exact Ex.loadP Tryz.isAgg3 rfl|exact Ex.loadQ Tryz.isAgg3 rfl|exact Ex.loadMh Tryz.isAgg3 rfl|exact Ex.loadR Tryz.isAgg3 rfl|exact Ex.loadIn1 Tryz.isAgg3 rfl (Holds.to (by assumption))|exact Ex.loadM Tryz.isAgg3 rfl|exact Ex.loadVc Tryz.isAgg3 rfl)) rfl ?_
        refine OQ.ex rfl (fun w H=>(Ex.move rfl)) rfl ?_
        refine OQ.ex rfl (fun w H=>(by first|exact Ex.loadP Tryz.isAgg3 rfl|exact Ex.loadQ Tryz.isAgg3 rfl|exact Ex.loadMh Tryz.isAgg3 rfl|exact Ex.loadR Tryz.isAgg3 rfl|exact Ex.loadIn1 Tryz.isAgg3 rfl (Holds.to (by assumption))|exact Ex.loadM Tryz.isAgg3 rfl|exact Ex.loadVc Tryz.isAgg3 rfl)) rfl ?_
        refine OQ.step rfl ?_
        refine O.buildK (e:=Value.int .i64) (vs:=[(0,.int .i64 (c i v)),(1,.int .i64 (c v j))]) [c i v,c v j] Tryz.runUnderlying28 Tryz.sizeOf3 Tryz.zeroValue3 rfl rfl rfl rfl rfl rfl (fun v28 w hv28 H=>?_)
        refine O.thenNil ⟨(by first|exact Holds.to (by assumption)|assumption),?_⟩
        refine OQ.step rfl ?_
        refine O.callF Tryz.call67 rfl rfl (CT.mono (add_ct (Holds.to (by assumption)) (hg.dst _ _) (hg.dst _ _)) ?_)
        rintro _ w ⟨rfl,H⟩
        refine O.thenNil ⟨(by first|exact Holds.to (by assumption)|assumption),?_⟩
        refine OQ.ex rfl (fun w H=>(Ex.build rfl (bld97_0_1_2 _ _ _ (by first|rfl|assumption) (by first|rfl|assumption) (by first|rfl|assumption)))) rfl ?_
        refine OQ.ex rfl (fun w H=>(Ex.build rfl (bld99_0_1_2 _ _ _ _ _ (by first|rfl|assumption) (by first|rfl|assumption)))) rfl ?_
        refine OQ.step rfl ?_
        refine O.build1N (e:=LinkM.enc) (z:=⟨(i : Int),(j : Int),two (c i v) (c v j),v⟩) Tryz.runUnderlying94 Tryz.sizeOf99 Tryz.zeroValue99 rfl rfl (fun v33 w hv33 H=>?_)
        refine O.thenNil ⟨(by first|exact Holds.to (by assumption)|assumption),?_⟩
        refine OQ.step rfl ?_
        refine O.appendN Tryz.runUnderlying94 Tryz.typeInfo99 (bt:=40) rfl Tryz.sizeOf99 Tryz.zeroValue99 rfl rfl (fun v34 w hv34 H=>?_)
        refine O.thenNil ⟨(by first|exact Holds.to (by assumption)|assumption),?_⟩
        refine OQ.last rfl (by decide +kernel) ?_
        first|refine O.storeP Tryz.sizeOf94 rfl rfl (fun w H=>?_)|refine O.storeR Tryz.sizeOf94 rfl rfl (fun w H=>?_)|refine O.storeM Tryz.sizeOf94 rfl rfl (fun w H=>?_)|refine O.storeVc Tryz.sizeOf94 rfl rfl (fun w H=>?_)
        refine O.nil ?_
        first
        | (rw [List.append_assoc,show inn c v (i : Nat) (c i v) j ++ [⟨(i : Int),(j : Int),two (c i v) (c v j),v⟩] = inn c v (i : Nat) (c i v) (j + 1) from (if_pos ⟨hne2,hu1⟩).symm] at H
           have H:=(lkV_open (b:=b5) (xs:=outL n.toNat c v i ++ inn c v (i : Nat) (c i v) (j + 1))).2 ⟨_,Holds.to (by assumption)⟩
           exact ⟨_,Holds.to (by assumption),fun w H=>.inl ⟨rfl,trivial,Holds.to (by assumption)⟩⟩)
        | (rw [show inn c v (i : Nat) (c i v) j = inn c v (i : Nat) (c i v) (j + 1) from (if_neg (fun hh=>hu2 hh.2)).symm] at H
           exact ⟨_,Holds.to (by assumption),fun w H=>.inl ⟨rfl,trivial,Holds.to (by assumption)⟩⟩)
      · refine W.skip ?_
        first
        | (rw [List.append_assoc,show inn c v (i : Nat) (c i v) j ++ [⟨(i : Int),(j : Int),two (c i v) (c v j),v⟩] = inn c v (i : Nat) (c i v) (j + 1) from (if_pos ⟨hne2,hu1⟩).symm] at H
           have H:=(lkV_open (b:=b5) (xs:=outL n.toNat c v i ++ inn c v (i : Nat) (c i v) (j + 1))).2 ⟨_,Holds.to (by assumption)⟩
           exact ⟨_,Holds.to (by assumption),fun w H=>.inl ⟨rfl,trivial,Holds.to (by assumption)⟩⟩)
        | (rw [show inn c v (i : Nat) (c i v) j = inn c v (i : Nat) (c i v) (j + 1) from (if_neg (fun hh=>hu2 hh.2)).symm] at H
           exact ⟨_,Holds.to (by assumption),fun w H=>.inl ⟨rfl,trivial,Holds.to (by assumption)⟩⟩)
    · intro j w hj hnn _ H
      refine ⟨trivial,?_⟩
      rw [show inn c v (i : Nat) (c i v) (j + 1) = inn c v (i : Nat) (c i v) j from if_neg (fun hh=>hnn hh.1)]
      exact H
    rintro _ w (⟨_,H⟩|hf)
    rotate_left
    · exact hf.elim
    refine rangeEndIn (Holds.to (by assumption)) (by nofun) (fun w H=>?_)
    rw [show outL n.toNat c v i ++ inn c v (i : Nat) (c i v) n.toNat = outL n.toNat c v (i + 1) from (if_pos hne).symm] at H
    exact ⟨_,Holds.to (by assumption),fun w H=>.inl ⟨rfl,trivial,Holds.to (by assumption)⟩⟩
  · intro i w hi hnn _ H
    refine ⟨trivial,?_⟩
    rw [show outL n.toNat c v (i + 1) = outL n.toNat c v i from if_neg hnn]
    exact H
  rintro _ w (⟨_,H⟩|hf)
  rotate_left
  · exact hf.elim
  refine rangeEnd (Holds.to (by assumption)) (by nofun) (fun w H=>?_)
  obtain ⟨va,H⟩:=lkV_open.1 (Holds.to (by assumption))
  refine hK2 _ _ _ ?_
  refine W.seq (fun K8 hK8=>?_)
  refine W.region ?_
  refine O.ex (by first|exact Ex.loadP Tryz.isAgg94 rfl|exact Ex.loadQ Tryz.isAgg94 rfl|exact Ex.loadMh Tryz.isAgg94 rfl|exact Ex.loadR Tryz.isAgg94 rfl|exact Ex.loadIn1 Tryz.isAgg94 rfl (Holds.to (by assumption))|exact Ex.loadM Tryz.isAgg94 rfl|exact Ex.loadVc Tryz.isAgg94 rfl) rfl ?_
  refine O.ex (Ex.assign rfl) rfl ?_
  refine O.nil ?_
  refine hK8 _ _ _ ?_
  refine W.ret ?_
  try dsimp only [thenQ,blockQ,retQ]
  first|refine ⟨_,⟨_,_,rfl,rfl,rfl⟩,?_⟩|(refine retD_mark ?_; intro w H; refine ⟨_,⟨_,_,rfl,rfl,rfl⟩,?_⟩)|(refine retD_mark2 ?_; intro w H; refine ⟨_,⟨_,_,rfl,rfl,rfl⟩,?_⟩)
  exact ⟨arrN_one (Holds.to (by assumption)),Holds.to (by assumption)⟩
end Go.Proofs.YtblapiiinbppiaaGreatDoor
namespace Go.Proofs.YtblapiiinbppiaaGreatDoor
open Go.Rr
set_option linter.unusedVariables false
theorem refNorm_ct {w : World} {a : Int} {L : List HProp} (H : Holds w L) (ha : Dst a) : CT Tryz.prog 103 [.int .i64 a] w fun x w'=>x = .int .i64 a ∧ Holds w' L:=by
  unfold Dst at ha
  refine CT.enter (N:=8) Tryz.func103 rfl rfl rfl rfl ?_
  refine W.seq (fun K0 hK0=>?_)
  refine W.region ?_
  refine O.ex (Ex.assign rfl) rfl ?_
  refine O.nil ?_
  refine hK0 _ _ _ ?_
  refine W.seq (fun K1 hK1=>?_)
  refine W.seq (fun K2 hK2=>?_)
  refine W.region ?_
  refine O.ex (Ex.move rfl) rfl ?_
  refine O.ex (Ex.lss rfl rfl) rfl ?_
  refine O.nil ?_
  refine hK2 _ _ _ ?_
  refine W.known_f rfl (decide_eq_false (by omega)) ?_
  refine W.skip ?_
  refine hK1 _ _ _ ?_
  refine W.seq (fun K3 hK3=>?_)
  refine W.seq (fun K4 hK4=>?_)
  refine W.region ?_
  refine O.ex (Ex.move rfl) rfl ?_
  refine O.ex (Ex.gtr rfl rfl) rfl ?_
  refine O.nil ?_
  refine hK4 _ _ _ ?_
  refine W.known_f rfl (decide_eq_false (by omega)) ?_
  refine W.skip ?_
  refine hK3 _ _ _ ?_
  refine W.seq (fun K5 hK5=>?_)
  refine W.region ?_
  refine O.ex (Ex.move rfl) rfl ?_
  refine O.ex (Ex.assign rfl) rfl ?_
  refine O.nil ?_
  refine hK5 _ _ _ ?_
  refine W.ret ?_
  try dsimp only [thenQ,blockQ,retQ]
  first|refine ⟨_,⟨_,_,rfl,rfl,rfl⟩,?_⟩|(refine retD_mark ?_; intro w H; refine ⟨_,⟨_,_,rfl,rfl,rfl⟩,?_⟩)|(refine retD_mark2 ?_; intro w H; refine ⟨_,⟨_,_,rfl,rfl,rfl⟩,?_⟩)
  exact ⟨rfl,by first|assumption|exact Holds.to (by assumption)⟩
theorem refTwo_ct {w : World} {a b : Int} {L : List HProp} (H : Holds w L) (ha : Dst a) (hb : Dst b) : CT Tryz.prog 86 [.int .i64 a,.int .i64 b] w fun x w'=>x = .int .i64 (two a b) ∧ Holds w' L:=by
  have ha':=ha
  have hb':=hb
  unfold Dst at ha' hb'
  refine CT.enter (N:=30) Tryz.func86 rfl rfl rfl rfl ?_
  refine W.seq (fun K0 hK0=>?_)
  refine W.region ?_
  refine O.ex (Ex.assign rfl) rfl ?_
  refine O.nil ?_
  refine hK0 _ _ _ ?_
  refine W.seq (fun K1 hK1=>?_)
  refine W.region ?_
  refine O.ex (Ex.move rfl) rfl ?_
  refine O.callF Tryz.call103 rfl rfl (CT.mono (refNorm_ct (Holds.to (by assumption)) (by assumption)) ?_)
  rintro _ w ⟨rfl,H⟩
  refine O.ex (Ex.assign rfl) rfl ?_
  refine O.nil ?_
  refine hK1 _ _ _ ?_
  refine W.seq (fun K2 hK2=>?_)
  refine W.region ?_
  refine O.ex (Ex.move rfl) rfl ?_
  refine O.callF Tryz.call103 rfl rfl (CT.mono (refNorm_ct (Holds.to (by assumption)) (by assumption)) ?_)
  rintro _ w ⟨rfl,H⟩
  refine O.ex (Ex.assign rfl) rfl ?_
  refine O.nil ?_
  refine hK2 _ _ _ ?_
  refine W.seq (fun K3 hK3=>?_)
  refine W.seq (fun K4 hK4=>?_)
  refine W.region ?_
  refine O.ex (Ex.move rfl) rfl ?_
  refine O.ex (Ex.eqlI rfl rfl) rfl ?_
  refine O.ex (Ex.move rfl) rfl ?_
  first|refine O.split_p (t:=11) rfl (fun h0=>?_) (fun h0=>?_)|refine O.split (t:=11) rfl (fun h0=>?_) (fun h0=>?_)
  · refine O.guard_f rfl rfl rfl rfl ?_
    refine O.guard_f rfl rfl rfl rfl ?_
    refine O.ex (Ex.pick_t rfl rfl) rfl ?_
    refine O.nil ?_
    refine hK4 _ _ _ ?_
    refine W.cond_t rfl ?_
    refine W.seq (fun K5 hK5=>?_)
    refine W.region ?_
    refine O.ex (Ex.assign rfl) rfl ?_
    refine O.nil ?_
    refine hK5 _ _ _ ?_
    refine W.ret ?_
    try dsimp only [thenQ,blockQ,retQ]
    first|refine ⟨_,⟨_,_,rfl,rfl,rfl⟩,?_⟩|(refine retD_mark ?_; intro w H; refine ⟨_,⟨_,_,rfl,rfl,rfl⟩,?_⟩)|(refine retD_mark2 ?_; intro w H; refine ⟨_,⟨_,_,rfl,rfl,rfl⟩,?_⟩)
    exact ⟨congrArg (Value.int .i64) (by unfold two; (repeat' split) <;> omega),Holds.to (by assumption)⟩
  · refine O.guard_t rfl rfl ?_
    refine O.ex (Ex.move rfl) rfl ?_
    refine O.guard_t rfl rfl ?_
    refine O.ex (Ex.eqlI rfl rfl) rfl ?_
    refine O.ex (Ex.pick_f rfl rfl) rfl ?_
    refine O.nil ?_
    refine hK4 _ _ _ ?_
    first|refine W.cond_p rfl (fun h1=>?_) (fun h1=>?_)|refine W.cond_b rfl (fun h1=>?_) (fun h1=>?_)
    · refine W.seq (fun K6 hK6=>?_)
      refine W.region ?_
      refine O.ex (Ex.assign rfl) rfl ?_
      refine O.nil ?_
      refine hK6 _ _ _ ?_
      refine W.ret ?_
      try dsimp only [thenQ,blockQ,retQ]
      first|refine ⟨_,⟨_,_,rfl,rfl,rfl⟩,?_⟩|(refine retD_mark ?_; intro w H; refine ⟨_,⟨_,_,rfl,rfl,rfl⟩,?_⟩)|(refine retD_mark2 ?_; intro w H; refine ⟨_,⟨_,_,rfl,rfl,rfl⟩,?_⟩)
      exact ⟨congrArg (Value.int .i64) (by unfold two; (repeat' split) <;> omega),Holds.to (by assumption)⟩
    · refine W.skip ?_
      refine hK3 _ _ _ ?_
      refine W.seq (fun K7 hK7=>?_)
      refine W.seq (fun K8 hK8=>?_)
      refine W.region ?_
      refine O.ex (Ex.move rfl) rfl ?_
      refine O.ex (Ex.eqlI rfl rfl) rfl ?_
      refine O.ex (Ex.move rfl) rfl ?_
      first|refine O.split_p (t:=17) rfl (fun h2=>?_) (fun h2=>?_)|refine O.split (t:=17) rfl (fun h2=>?_) (fun h2=>?_)
      · refine O.guard_f rfl rfl rfl rfl ?_
        refine O.guard_f rfl rfl rfl rfl ?_
        refine O.ex (Ex.pick_t rfl rfl) rfl ?_
        refine O.ex (Ex.move rfl) rfl ?_
        refine O.guard_f rfl rfl rfl rfl ?_
        refine O.guard_f rfl rfl rfl rfl ?_
        refine O.guard_f rfl rfl rfl rfl ?_
        refine O.guard_f rfl rfl rfl rfl ?_
        refine O.ex (Ex.pick_t rfl rfl) rfl ?_
        refine O.nil ?_
        refine hK8 _ _ _ ?_
        refine W.cond_t rfl ?_
        refine W.seq (fun K9 hK9=>?_)
        refine W.region ?_
        refine O.ex (Ex.assign rfl) rfl ?_
        refine O.nil ?_
        refine hK9 _ _ _ ?_
        refine W.ret ?_
        try dsimp only [thenQ,blockQ,retQ]
        first|refine ⟨_,⟨_,_,rfl,rfl,rfl⟩,?_⟩|(refine retD_mark ?_; intro w H; refine ⟨_,⟨_,_,rfl,rfl,rfl⟩,?_⟩)|(refine retD_mark2 ?_; intro w H; refine ⟨_,⟨_,_,rfl,rfl,rfl⟩,?_⟩)
        exact ⟨congrArg (Value.int .i64) (by unfold two; (repeat' split) <;> omega),Holds.to (by assumption)⟩
      · refine O.guard_t rfl rfl ?_
        refine O.ex (Ex.move rfl) rfl ?_
        refine O.guard_t rfl rfl ?_
        refine O.ex (Ex.eqlI rfl rfl) rfl ?_
        refine O.ex (Ex.pick_f rfl rfl) rfl ?_
        refine O.ex (Ex.move rfl) rfl ?_
        first|refine O.split_p (t:=21) rfl (fun h3=>?_) (fun h3=>?_)|refine O.split (t:=21) rfl (fun h3=>?_) (fun h3=>?_)
        · refine O.guard_f rfl rfl rfl rfl ?_
          refine O.guard_f rfl rfl rfl rfl ?_
          refine O.guard_f rfl rfl rfl rfl ?_
          refine O.guard_f rfl rfl rfl rfl ?_
          refine O.ex (Ex.pick_t rfl rfl) rfl ?_
          refine O.nil ?_
          refine hK8 _ _ _ ?_
          refine W.cond_t rfl ?_
          refine W.seq (fun K10 hK10=>?_)
          refine W.region ?_
          refine O.ex (Ex.assign rfl) rfl ?_
          refine O.nil ?_
          refine hK10 _ _ _ ?_
          refine W.ret ?_
          try dsimp only [thenQ,blockQ,retQ]
          first|refine ⟨_,⟨_,_,rfl,rfl,rfl⟩,?_⟩|(refine retD_mark ?_; intro w H; refine ⟨_,⟨_,_,rfl,rfl,rfl⟩,?_⟩)|(refine retD_mark2 ?_; intro w H; refine ⟨_,⟨_,_,rfl,rfl,rfl⟩,?_⟩)
          exact ⟨congrArg (Value.int .i64) (by unfold two; (repeat' split) <;> omega),Holds.to (by assumption)⟩
        · refine O.guard_t rfl rfl ?_
          refine O.ex (Ex.move rfl) rfl ?_
          refine O.guard_t rfl rfl ?_
          refine O.ex (Ex.move rfl) rfl ?_
          refine O.guard_t rfl rfl ?_
          refine O.ex (by first|exact Ex.subI rfl rfl|exact Ex.sub rfl rfl rfl) rfl ?_
          refine O.guard_t rfl rfl ?_
          refine O.ex (Ex.gtr rfl rfl) rfl ?_
          refine O.ex (Ex.pick_f rfl rfl) rfl ?_
          refine O.nil ?_
          refine hK8 _ _ _ ?_
          first|refine W.cond_p rfl (fun h4=>?_) (fun h4=>?_)|refine W.cond_b rfl (fun h4=>?_) (fun h4=>?_)
          · refine W.seq (fun K11 hK11=>?_)
            refine W.region ?_
            refine O.ex (Ex.assign rfl) rfl ?_
            refine O.nil ?_
            refine hK11 _ _ _ ?_
            refine W.ret ?_
            try dsimp only [thenQ,blockQ,retQ]
            first|refine ⟨_,⟨_,_,rfl,rfl,rfl⟩,?_⟩|(refine retD_mark ?_; intro w H; refine ⟨_,⟨_,_,rfl,rfl,rfl⟩,?_⟩)|(refine retD_mark2 ?_; intro w H; refine ⟨_,⟨_,_,rfl,rfl,rfl⟩,?_⟩)
            exact ⟨congrArg (Value.int .i64) (by unfold two; (repeat' split) <;> omega),Holds.to (by assumption)⟩
          · refine W.skip ?_
            refine hK7 _ _ _ ?_
            refine W.seq (fun K12 hK12=>?_)
            refine W.region ?_
            refine O.ex (Ex.move rfl) rfl ?_
            refine O.ex (Ex.move rfl) rfl ?_
            refine O.ex (by first|exact Ex.addI rfl rfl|exact Ex.add rfl rfl rfl) rfl ?_
            refine O.ex (Ex.assign rfl) rfl ?_
            refine O.nil ?_
            refine hK12 _ _ _ ?_
            refine W.ret ?_
            try dsimp only [thenQ,blockQ,retQ]
            first|refine ⟨_,⟨_,_,rfl,rfl,rfl⟩,?_⟩|(refine retD_mark ?_; intro w H; refine ⟨_,⟨_,_,rfl,rfl,rfl⟩,?_⟩)|(refine retD_mark2 ?_; intro w H; refine ⟨_,⟨_,_,rfl,rfl,rfl⟩,?_⟩)
            exact ⟨congrArg (Value.int .i64) (by unfold two; (repeat' split) <;> omega),Holds.to (by assumption)⟩
set_option maxHeartbeats 1000000 in
theorem refDetours_ct {w : World} {m : Nat} {n v : Int} {c : Int → Int → Int} {L : List HProp} (hg : Good n c) (H : Holds w (Rh m n c::L)) :
    CT Tryz.prog 64 [.pointer (some ⟨m,0,none⟩),.int .i64 v] w fun x w'=>x.oneCell' = true ∧ Holds w' (lks x (detL n c v)::Rh m n c::L):=by
  have n1:=hg.n1
  have n2:=hg.n2
  have hN : ((n.toNat : Nat) : Int) = n:=by omega
  have hdt : detL n c v = routL n.toNat c v n.toNat:=(rout_eq hg n.toNat v n.toNat).symm
  rw [hdt]
  have rl : ∀ (u : Int) k,(rinn c v u k).length ≤ k:=fun u k=>by
    rw [rinn_eq hg]; split
    · exact inn_len _ _ _ _ _
    · simp
  refine CT.enter (N:=51) Tryz.func64 rfl rfl rfl rfl ?_
  refine W.seq (fun K0 hK0=>?_)
  refine W.region ?_
  refine O.ex (Ex.assign rfl) rfl ?_
  refine O.nil ?_
  refine hK0 _ _ _ ?_
  refine W.seq (fun K1 hK1=>?_)
  refine W.region ?_
  refine O.ex (Ex.assign rfl) rfl ?_
  refine O.nil ?_
  refine hK1 _ _ _ ?_
  refine W.seq (fun K2 hK2=>?_)
  refine W.seq (fun K3 hK3=>?_)
  refine W.region ?_
  refine O.ex (Ex.assign rfl) rfl ?_
  refine O.nil ?_
  refine hK3 _ _ _ ?_
  refine W.block ?_
  have H:=arrN_nil (T:=99) (sz:=5) (e:=LinkM.enc) H
  refine W.loop (σ:=Nat × Value) (fun i=>[(0,.pointer (some ⟨m,0,none⟩)),(1,.int .i64 v),(5,i.2),(6,.int .i64 (i.1 : Int))]) (fun i ds w=>ds = [] ∧ (i.1 : Int) ≤ n ∧ i.2.oneCell' = true ∧ Holds w (lks i.2 (routL n.toNat c v i.1)::Rh m n c::L)) (fun i=>n.toNat - i.1) (0,.slice none 0 0) ⟨rfl,rfl,rfl,rfl,trivial⟩ ⟨rfl,by dsimp only; omega,rfl,Holds.to (by assumption)⟩ ?_
  clear H
  rintro ⟨i,va⟩ _ w ⟨rfl,hi,hva,H⟩
  dsimp only at hi hva H
  dsimp only
  have hol : (routL n.toNat c v i).length ≤ i * n.toNat:=by rw [rout_eq hg]; exact outL_len _ _ _ _
  have hol2 : i * n.toNat ≤ 24 * 24:=Nat.mul_le_mul (by omega) (by omega)
  refine W.seq (fun K4 hK4=>?_)
  refine W.seq (fun K5 hK5=>?_)
  refine W.region ?_
  refine O.ex (Ex.move rfl) rfl ?_
  have H:=(rh_open (m:=m) (n:=n) (c:=c)).1 (Holds.to (by assumption))
  refine O.ex (Ex.move rfl) rfl ?_
  refine O.ex (by first|exact Ex.nilPtr rfl|exact Ex.nilFunc rfl|exact Ex.nilYield rfl) rfl ?_
  refine O.ex (by first|exact Ex.field0 fld114_0 rfl|exact Ex.field fld114_0 rfl|exact Ex.fieldS fld114_0 rfl) rfl ?_
  refine O.ex (by first|exact Ex.loadMh Tryz.isAgg3 rfl|exact Ex.loadP Tryz.isAgg3 rfl|exact Ex.loadM Tryz.isAgg3 rfl|exact Ex.loadIn1 Tryz.isAgg3 rfl (Holds.to (by assumption))|exact Ex.loadVc Tryz.isAgg3 rfl|exact Ex.loadR Tryz.isAgg3 rfl|exact Ex.loadQ Tryz.isAgg3 rfl) rfl ?_
  refine O.ex (Ex.lss rfl rfl) rfl ?_
  refine O.nil ?_
  refine hK5 _ _ _ ?_
  first|refine W.cond_p rfl (fun hlt=>?_) (fun hge=>?_)|refine W.cond_b rfl (fun hlt=>?_) (fun hge=>?_)
  · refine W.skip ?_
    refine hK4 _ _ _ ?_
    refine W.seq (fun K6 hK6=>?_)
    refine W.block ?_
    refine W.seq (fun K7 hK7=>?_)
    refine W.region ?_
    refine O.ex (Ex.assign rfl) rfl ?_
    refine O.nil ?_
    refine hK7 _ _ _ ?_
    refine W.block ?_
    refine W.loop (σ:=Nat × Value) (fun j=>[(0,.pointer (some ⟨m,0,none⟩)),(1,.int .i64 v),(5,j.2),(6,.int .i64 (i : Int)),(7,.int .i64 (j.1 : Int))]) (fun j ds w=>ds = [] ∧ (j.1 : Int) ≤ n ∧ j.2.oneCell' = true ∧ Holds w (lks j.2 (routL n.toNat c v i ++ rinn c v (i : Nat) j.1)::Rh m n c::L)) (fun j=>n.toNat - j.1) (0,va) ⟨rfl,rfl,rfl,rfl,rfl,trivial⟩ ⟨rfl,by dsimp only; omega,hva,by
        rw [show routL n.toNat c v i ++ rinn c v (i : Nat) 0 = routL n.toNat c v i from List.append_nil _]; exact Holds.to (rh_open.2 (Holds.to (by assumption)))⟩ ?_
    clear H
    rintro ⟨j,vb⟩ _ w ⟨rfl,hj,hvb,H⟩
    dsimp only at hj hvb H
    dsimp only
    have hil:=rl (i : Nat) j
    have hlen : (routL n.toNat c v i ++ rinn c v (i : Nat) j).length ≤ 1000:=by rw [List.length_append]; omega
    refine W.seq (fun K8 hK8=>?_)
    refine W.seq (fun K9 hK9=>?_)
    refine W.region ?_
    refine O.ex (Ex.move rfl) rfl ?_
    refine O.ex (Ex.move rfl) rfl ?_
    refine O.ex (by first|exact Ex.nilPtr rfl|exact Ex.nilFunc rfl|exact Ex.nilYield rfl) rfl ?_
    refine O.ex (by first|exact Ex.field0 fld114_0 rfl|exact Ex.field fld114_0 rfl|exact Ex.fieldS fld114_0 rfl) rfl ?_
    refine O.ex (by first|exact Ex.loadMh Tryz.isAgg3 rfl|exact Ex.loadP Tryz.isAgg3 rfl|exact Ex.loadM Tryz.isAgg3 rfl|exact Ex.loadIn1 Tryz.isAgg3 rfl (Holds.to (by assumption))|exact Ex.loadVc Tryz.isAgg3 rfl|exact Ex.loadR Tryz.isAgg3 rfl|exact Ex.loadQ Tryz.isAgg3 rfl) rfl ?_
    refine O.ex (Ex.lss rfl rfl) rfl ?_
    refine O.nil ?_
    refine hK9 _ _ _ ?_
    first|refine W.cond_p rfl (fun hlt2=>?_) (fun hge2=>?_)|refine W.cond_b rfl (fun hlt2=>?_) (fun hge2=>?_)
    · refine W.skip ?_
      refine hK8 _ _ _ ?_
      refine W.seq (fun K10 hK10=>?_)
      refine W.block ?_
      refine W.seq (fun K11 hK11=>?_)
      refine W.region ?_
      refine O.ex (Ex.move rfl) rfl ?_
      refine O.ex (Ex.move rfl) rfl ?_
      refine O.ex (Ex.move rfl) rfl ?_
      refine O.callF Tryz.call63 rfl rfl (CT.mono (refAt_ct hg (Holds.to (by assumption))) ?_)
      rintro _ w ⟨rfl,H⟩
      refine O.ex (Ex.move rfl) rfl ?_
      refine O.ex (Ex.move rfl) rfl ?_
      refine O.ex (Ex.move rfl) rfl ?_
      refine O.callF Tryz.call63 rfl rfl (CT.mono (refAt_ct hg (Holds.to (by assumption))) ?_)
      rintro _ w ⟨rfl,H⟩
      refine O.callF Tryz.call86 rfl rfl (CT.mono (refTwo_ct (Holds.to (by assumption)) (hg.dst _ _) (hg.dst _ _)) ?_)
      rintro _ w ⟨rfl,H⟩
      refine O.ex (Ex.assign rfl) rfl ?_
      refine O.nil ?_
      refine hK11 _ _ _ ?_
      refine W.seq (fun K12 hK12=>?_)
      refine W.region ?_
      refine O.ex (Ex.move rfl) rfl ?_
      refine O.ex (Ex.move rfl) rfl ?_
      refine O.ex (Ex.neqI rfl rfl) rfl ?_
      refine O.ex (Ex.move rfl) rfl ?_
      first|refine O.split_p (t:=37) rfl (fun hu1=>?_) (fun hu2=>?_)|refine O.split (t:=37) rfl (fun hu1=>?_) (fun hu2=>?_)
      · refine O.guard_t rfl rfl ?_
        refine O.ex (Ex.move rfl) rfl ?_
        refine O.guard_t rfl rfl ?_
        refine O.ex (Ex.lss rfl rfl) rfl ?_
        refine O.ex (Ex.pick_t rfl rfl) rfl ?_
        refine O.nil ?_
        refine hK12 _ _ _ ?_
        first|refine W.cond_p rfl (fun hl1=>?_) (fun hl2=>?_)|refine W.cond_b rfl (fun hl1=>?_) (fun hl2=>?_)
        · refine W.region ?_
          refine O.ex (Ex.move rfl) rfl ?_
          refine O.ex (Ex.move rfl) rfl ?_
          refine O.ex (Ex.move rfl) rfl ?_
          refine O.ex (Ex.move rfl) rfl ?_
          refine O.ex (Ex.move rfl) rfl ?_
          refine O.ex (Ex.build rfl (bld97_0_1_2 _ _ _ (by first|rfl|assumption) (by first|rfl|assumption) (by first|rfl|assumption))) rfl ?_
          refine O.ex (Ex.build rfl (bld99_0_1_2 _ _ _ _ _ (by first|rfl|assumption) (by first|rfl|assumption))) rfl ?_
          refine O.build1N (e:=LinkM.enc) (z:=⟨(i : Int),(j : Int),two (c i v) (c v j),v⟩) Tryz.runUnderlying94 Tryz.sizeOf99 Tryz.zeroValue99 rfl rfl (fun v48 w hv48 H=>?_)
          refine O.appendN Tryz.runUnderlying94 Tryz.typeInfo99 (bt:=40) rfl Tryz.sizeOf99 Tryz.zeroValue99 rfl rfl (fun v49 w hv49 H=>?_)
          refine O.ex (Ex.assign rfl) rfl ?_
          refine O.nil ?_
          refine hK10 _ _ _ ?_
          refine W.region ?_
          refine O.ex (Ex.move rfl) rfl ?_
          refine O.ex (by first|exact Ex.addI rfl rfl|exact Ex.add rfl rfl rfl) rfl ?_
          refine O.ex (Ex.assign rfl) rfl ?_
          refine O.nil ?_
          first
          | (rw [List.append_assoc,show rinn c v (i : Nat) j ++ [⟨(i : Int),(j : Int),two (c i v) (c v j),v⟩] = rinn c v (i : Nat) (j + 1) from (if_pos ⟨hu1,hl1⟩).symm] at H
             exact ⟨(j + 1,_),⟨rfl,rfl,rfl,rfl,rfl,trivial⟩,⟨rfl,by dsimp only; omega,by assumption,Holds.to (by assumption)⟩,by dsimp only; omega⟩)
          | (rw [show rinn c v (i : Nat) j = rinn c v (i : Nat) (j + 1) from (if_neg (fun hh=>by first|exact hu2 hh.1|exact hl2 hh.2)).symm] at H
             exact ⟨(j + 1,_),⟨rfl,rfl,rfl,rfl,rfl,trivial⟩,⟨rfl,by dsimp only; omega,by assumption,Holds.to (by assumption)⟩,by dsimp only; omega⟩)
        · refine W.skip ?_
          refine hK10 _ _ _ ?_
          refine W.region ?_
          refine O.ex (Ex.move rfl) rfl ?_
          refine O.ex (by first|exact Ex.addI rfl rfl|exact Ex.add rfl rfl rfl) rfl ?_
          refine O.ex (Ex.assign rfl) rfl ?_
          refine O.nil ?_
          first
          | (rw [List.append_assoc,show rinn c v (i : Nat) j ++ [⟨(i : Int),(j : Int),two (c i v) (c v j),v⟩] = rinn c v (i : Nat) (j + 1) from (if_pos ⟨hu1,hl1⟩).symm] at H
             exact ⟨(j + 1,_),⟨rfl,rfl,rfl,rfl,rfl,trivial⟩,⟨rfl,by dsimp only; omega,by assumption,Holds.to (by assumption)⟩,by dsimp only; omega⟩)
          | (rw [show rinn c v (i : Nat) j = rinn c v (i : Nat) (j + 1) from (if_neg (fun hh=>by first|exact hu2 hh.1|exact hl2 hh.2)).symm] at H
             exact ⟨(j + 1,_),⟨rfl,rfl,rfl,rfl,rfl,trivial⟩,⟨rfl,by dsimp only; omega,by assumption,Holds.to (by assumption)⟩,by dsimp only; omega⟩)
      · refine O.guard_f rfl rfl rfl rfl ?_
        refine O.guard_f rfl rfl rfl rfl ?_
        refine O.ex (Ex.pick_f rfl rfl) rfl ?_
        refine O.nil ?_
        refine hK12 _ _ _ ?_
        refine W.cond_f rfl ?_
        refine W.skip ?_
        refine hK10 _ _ _ ?_
        refine W.region ?_
        refine O.ex (Ex.move rfl) rfl ?_
        refine O.ex (by first|exact Ex.addI rfl rfl|exact Ex.add rfl rfl rfl) rfl ?_
        refine O.ex (Ex.assign rfl) rfl ?_
        refine O.nil ?_
        first
        | (rw [List.append_assoc,show rinn c v (i : Nat) j ++ [⟨(i : Int),(j : Int),two (c i v) (c v j),v⟩] = rinn c v (i : Nat) (j + 1) from (if_pos ⟨hu1,hl1⟩).symm] at H
           exact ⟨(j + 1,_),⟨rfl,rfl,rfl,rfl,rfl,trivial⟩,⟨rfl,by dsimp only; omega,by assumption,Holds.to (by assumption)⟩,by dsimp only; omega⟩)
        | (rw [show rinn c v (i : Nat) j = rinn c v (i : Nat) (j + 1) from (if_neg (fun hh=>by first|exact hu2 hh.1|exact hl2 hh.2)).symm] at H
           exact ⟨(j + 1,_),⟨rfl,rfl,rfl,rfl,rfl,trivial⟩,⟨rfl,by dsimp only; omega,by assumption,Holds.to (by assumption)⟩,by dsimp only; omega⟩)
    · refine W.exit ?_
      refine hK6 _ _ _ ?_
      refine W.region ?_
      refine O.ex (Ex.move rfl) rfl ?_
      refine O.ex (by first|exact Ex.addI rfl rfl|exact Ex.add rfl rfl rfl) rfl ?_
      refine O.ex (Ex.assign rfl) rfl ?_
      refine O.nil ?_
      obtain rfl : j = n.toNat:=by omega
      rw [show routL n.toNat c v i ++ rinn c v (i : Nat) n.toNat = routL n.toNat c v (i + 1) from rfl] at H
      exact ⟨(i + 1,_),⟨rfl,rfl,rfl,rfl,trivial⟩,⟨rfl,by dsimp only; omega,by assumption,Holds.to (rh_open.2 (Holds.to (by assumption)))⟩,by dsimp only; omega⟩
  · refine W.exit ?_
    refine hK2 _ _ _ ?_
    refine W.seq (fun K13 hK13=>?_)
    refine W.region ?_
    refine O.ex (Ex.move rfl) rfl ?_
    refine O.ex (Ex.assign rfl) rfl ?_
    refine O.nil ?_
    refine hK13 _ _ _ ?_
    refine W.ret ?_
    try dsimp only [thenQ,blockQ,retQ]
    first|refine ⟨_,⟨_,_,rfl,rfl,rfl⟩,?_⟩|(refine retD_mark ?_; intro w H; refine ⟨_,⟨_,_,rfl,rfl,rfl⟩,?_⟩)|(refine retD_mark2 ?_; intro w H; refine ⟨_,⟨_,_,rfl,rfl,rfl⟩,?_⟩)
    obtain rfl : i = n.toNat:=by omega
    exact ⟨by assumption,Holds.to (rh_open.2 (Holds.to (by assumption)))⟩
end Go.Proofs.YtblapiiinbppiaaGreatDoor
namespace Go.Proofs.YtblapiiinbppiaaGreatDoor
open Go.Rr
set_option linter.unusedVariables false
set_option maxHeartbeats 1000000 in
theorem contract_ct {w : World} {m : Nat} {n v : Int} {c : Int → Int → Int} {L : List HProp} (hg : Good n c) (H : Holds w (Mh m n c::L)) :
    CT Tryz.prog 29 [.pointer (some ⟨m,0,none⟩),.int .i64 v] w fun x w'=>((0 ≤ v ∧ v < n) ∧ x = .tuple #[.int .i64 (contrK n c v),.int .i64 0] ∧ Holds w' (Mh m n (contrC n c v)::L)) ∨ (¬ (0 ≤ v ∧ v < n) ∧ x = .tuple #[.int .i64 0,.int .i64 1] ∧ Holds w' (Mh m n c::L)):=by
  have n1:=hg.n1
  have n2:=hg.n2
  have hdl:=detL_len hg v
  have hmem : ∀ x ∈ detL n c v,okP n x.t x.h x.g:=fun x hx=>mem_det hg hx
  refine CT.enter (N:=70) Tryz.func29 rfl rfl rfl rfl ?_
  refine W.seq (fun K0 hK0=>?_)
  refine W.region ?_
  refine O.ex (Ex.assign rfl) rfl ?_
  refine O.ex (Ex.assign rfl) rfl ?_
  refine O.nil ?_
  refine hK0 _ _ _ ?_
  refine W.seq (fun K1 hK1=>?_)
  refine W.seq (fun K2 hK2=>?_)
  refine W.region ?_
  refine O.ex (Ex.move rfl) rfl ?_
  refine O.ex (Ex.move rfl) rfl ?_
  refine O.callF Tryz.call40 rfl rfl (CT.mono (vertexm_ct (Holds.to (by assumption))) ?_)
  rintro _ w ⟨rfl,H⟩
  refine O.ex (by first|exact Ex.notD rfl|exact Ex.not rfl) rfl ?_
  refine O.nil ?_
  refine hK2 _ _ _ ?_
  first|refine W.cond_p rfl (fun h0=>?_) (fun h0=>?_)|refine W.cond_b rfl (fun h0=>?_) (fun h0=>?_)
  · refine W.seq (fun K3 hK3=>?_)
    refine W.region ?_
    refine O.ex (Ex.assign rfl) rfl ?_
    refine O.ex (Ex.assign rfl) rfl ?_
    refine O.nil ?_
    refine hK3 _ _ _ ?_
    refine W.ret ?_
    try dsimp only [thenQ,blockQ,retQ]
    first|refine ⟨_,⟨_,_,rfl,rfl,_,_,rfl,rfl,rfl⟩,?_⟩|(refine retD_mark ?_; intro w H; refine ⟨_,⟨_,_,rfl,rfl,_,_,rfl,rfl,rfl⟩,?_⟩)|(refine retD_mark2 ?_; intro w H; refine ⟨_,⟨_,_,rfl,rfl,_,_,rfl,rfl,rfl⟩,?_⟩)
    first
    | exact .inr ⟨by omega,rfl,Holds.to (by assumption)⟩
    | (refine .inl ⟨by omega,by unfold contrK; rw [← hl,← hs]; rfl,?_⟩
       refine mh_open.2 ?_
       rw [mtx_congr (D:=fun a b=>4611686018427387906 - contrC n c v a b) (D':=fun a b=>4611686018427387906 - (if a = v ∨ (b = v ∧ a < (i : Nat)) then 4611686018427387906 else s.1 a b))]
       · exact Holds.to (by assumption)
       · intro a b h0 h1 h2 h3
         have hcc : contrC n c v a b = if a = v ∨ b = v then 4611686018427387906 else s.1 a b:=by unfold contrC; rw [← hl,← hs]
         rw [hcc]
         by_cases e : a = v ∨ b = v
         · rw [if_pos e]
           by_cases e2 : a = v ∨ (b = v ∧ a < (i : Nat))
           · rw [if_pos e2]
           · rw [if_neg e2,hgs.out a b (by omega)]
         · rw [if_neg e,if_neg (by omega)])
  · refine W.skip ?_
    refine hK1 _ _ _ ?_
    refine W.seq (fun K4 hK4=>?_)
    refine W.region ?_
    refine O.ex (Ex.assign rfl) rfl ?_
    refine O.nil ?_
    refine hK4 _ _ _ ?_
    refine W.seq (fun K5 hK5=>?_)
    refine W.seq (fun K6 hK6=>?_)
    refine W.region ?_
    refine O.ex (Ex.move rfl) rfl ?_
    refine O.ex (Ex.move rfl) rfl ?_
    refine O.callF Tryz.call41 rfl rfl (CT.mono (detours_ct hg (Holds.to (by assumption))) ?_)
    rintro _ w ⟨hvd,H⟩
    rename_i vd
    obtain ⟨l,hl⟩ : ∃ l,l = detL n c v:=⟨_,rfl⟩
    rw [← hl] at H hdl hmem
    refine O.ex (by first|exact Ex.lenN Tryz.runUnderlying94 rfl|exact Ex.lenIn Tryz.runUnderlying94 rfl|exact Ex.lenL Tryz.runUnderlying94 rfl|exact Ex.len rfl Tryz.runUnderlying94 rfl) rfl ?_
    refine O.ex (Ex.move rfl) rfl ?_
    refine O.nil ?_
    refine hK6 _ _ _ ?_
    refine W.block ?_
    refine W.loop (σ:=Nat) (fun i=>[(0,.pointer (some ⟨m,0,none⟩)),(1,.int .i64 v),(6,.int .i64 (appl (l.take i) (c,0)).2),(16,vd),(17,.int .i64 l.length),(18,.int .i64 (i : Int))]) (fun i ds w=>ds = [] ∧ i ≤ l.length ∧ Holds w (Mh m n (appl (l.take i) (c,0)).1::lks vd l::L)) (fun i=>l.length - i) 0 ⟨rfl,rfl,rfl,rfl,rfl,rfl,trivial⟩ ⟨rfl,by omega,Holds.to (by assumption)⟩ ?_
    clear H
    rintro i _ w ⟨rfl,hi,H⟩
    obtain ⟨s,hs⟩ : ∃ s,s = appl (l.take i) (c,0):=⟨_,rfl⟩
    rw [← hs] at H ⊢
    have hgs : Good n s.1:=by rw [hs]; exact good_appl _ _ hg fun x hx=>hmem x (List.mem_of_mem_take hx)
    have hcn:=appl_cnt (l.take i) (c,0)
    rw [← hs,List.length_take] at hcn
    dsimp only at hcn
    refine W.seq (fun K7 hK7=>?_)
    refine W.region ?_
    refine O.ex (Ex.lss rfl rfl) rfl ?_
    refine O.nil ?_
    refine hK7 _ _ _ ?_
    refine W.seq (fun K8 hK8=>?_)
    first|refine W.cond_p rfl (fun hlt=>?_) (fun hge=>?_)|refine W.cond_b rfl (fun hlt=>?_) (fun hge=>?_)
    · refine W.skip ?_
      refine hK8 _ _ _ ?_
      refine W.seq (fun K9 hK9=>?_)
      refine W.block ?_
      refine W.seq (fun K10 hK10=>?_)
      refine W.region ?_
      have hil : i < l.length:=by omega
      have hsl:=arrN_sl (sz:=5) (e:=LinkM.enc) (v:=vd) (xs:=l) (Holds.to (by assumption)) (by omega)
      have hok:=hmem _ (getL_mem l i hil)
      have hap:=appl_take l i hil (c,0)
      rw [← hs] at hap
      obtain ⟨x,hx⟩ : ∃ x,x = l.getD i default:=⟨_,rfl⟩
      rw [← hx] at hok hap
      unfold okP at hok
      refine O.ex (by first|exact Ex.idxN Tryz.runUnderlying94 Tryz.sizeOf99 rfl rfl|exact Ex.idxSN Tryz.runUnderlying94 Tryz.sizeOf99 rfl rfl|exact Ex.idxIn Tryz.runUnderlying94 Tryz.sizeOf99 rfl rfl|exact Ex.idx Tryz.runUnderlying94 Tryz.sizeOf99 rfl rfl (by omega) (by omega)) rfl ?_
      refine O.ex (by first|exact Ex.loadAggP Tryz.isAgg99 Tryz.sizeOf99 rfl|exact Ex.loadAggN Tryz.isAgg99 Tryz.sizeOf99 rfl|exact Ex.loadIn Tryz.isAgg99 Tryz.sizeOf99 rfl (Holds.to (by assumption))) rfl ?_
      rw [show l.getD ((i : Nat) : Int).toNat default = x from hx.symm]
      refine O.allocP Tryz.zeroValue99 (fun b8 w H=>?_)
      first|refine O.storeAggP Tryz.sizeOf99 rfl rfl rfl rfl (fun w H=>?_)|refine O.storeAggN Tryz.sizeOf99 rfl rfl rfl (fun w H=>?_) rfl
      have H : Holds w (pt b8 (.cells #[.int .i64 x.t,.int .i64 x.h,.int .i64 x.g,.int .i64 (-1),.int .i64 x.mid] 99 (0,0))::_):=H
      refine O.nil ?_
      refine hK10 _ _ _ ?_
      refine W.seq (fun K11 hK11=>?_)
      refine W.drawTo _ (.take 0 (.take 1 (.take 2 (.take 3 (.take 4 (.take 5 (.take 6 (.take 7 (.one 8 (.take 9 .nil)))))))))) (mixed) (fun _ _ _ _ h=>h) (by assumption) (PP.refl _) (by decide +kernel) (fun w H=>?_)
      refine OQ.ex rfl (fun w H=>(by first|exact Ex.field0 fld99_2 rfl|exact Ex.field fld99_2 rfl|exact Ex.fieldS fld99_2 rfl)) rfl ?_
      refine OQ.ex rfl (fun w H=>(by first|exact Ex.field0 fld97_0 rfl|exact Ex.field fld97_0 rfl|exact Ex.fieldS fld97_0 rfl)) rfl ?_
      refine OQ.ex rfl (fun w H=>(by first|exact Ex.loadMh Tryz.isAgg3 rfl|exact Ex.loadP Tryz.isAgg3 rfl|exact Ex.loadM Tryz.isAgg3 rfl|exact Ex.loadIn1 Tryz.isAgg3 rfl (Holds.to (by assumption))|exact Ex.loadVc Tryz.isAgg3 rfl|exact Ex.loadR Tryz.isAgg3 rfl|exact Ex.loadQ Tryz.isAgg3 rfl)) rfl ?_
      refine OQ.ex rfl (fun w H=>(Ex.move rfl)) rfl ?_
      refine OQ.ex rfl (fun w H=>(by first|exact Ex.field0 fld99_0 rfl|exact Ex.field fld99_0 rfl|exact Ex.fieldS fld99_0 rfl)) rfl ?_
      refine OQ.ex rfl (fun w H=>(by first|exact Ex.loadMh Tryz.isAgg3 rfl|exact Ex.loadP Tryz.isAgg3 rfl|exact Ex.loadM Tryz.isAgg3 rfl|exact Ex.loadIn1 Tryz.isAgg3 rfl (Holds.to (by assumption))|exact Ex.loadVc Tryz.isAgg3 rfl|exact Ex.loadR Tryz.isAgg3 rfl|exact Ex.loadQ Tryz.isAgg3 rfl)) rfl ?_
      refine OQ.ex rfl (fun w H=>(by first|exact Ex.field0 fld99_1 rfl|exact Ex.field fld99_1 rfl|exact Ex.fieldS fld99_1 rfl)) rfl ?_
      refine OQ.ex rfl (fun w H=>(by first|exact Ex.loadMh Tryz.isAgg3 rfl|exact Ex.loadP Tryz.isAgg3 rfl|exact Ex.loadM Tryz.isAgg3 rfl|exact Ex.loadIn1 Tryz.isAgg3 rfl (Holds.to (by assumption))|exact Ex.loadVc Tryz.isAgg3 rfl|exact Ex.loadR Tryz.isAgg3 rfl|exact Ex.loadQ Tryz.isAgg3 rfl)) rfl ?_
      refine OQ.step rfl ?_
      refine O.callF Tryz.call59 rfl rfl (CT.mono (at_ct hgs (Holds.to (by assumption))) ?_)
      rintro _ w ⟨rfl,H⟩
      refine O.thenNil ⟨(by first|exact Holds.to (by assumption)|assumption),?_⟩
      refine OQ.ex rfl (fun w H=>(Ex.lss rfl rfl)) rfl ?_
      refine OQ.done ?_
      refine hK11 _ _ _ ?_
      first|refine W.cond_p rfl (fun hlt2=>?_) (fun hge2=>?_)|refine W.cond_b rfl (fun hlt2=>?_) (fun hge2=>?_)
      · refine W.seq (fun K12 hK12=>?_)
        have H:=(mh_open (m:=m) (n:=n) (c:=s.1)).1 (Holds.to (by assumption))
        refine W.drawTo (pt b8 _::[]) (.take 0 (.take 1 (.take 2 (.take 3 (.take 4 (.take 5 (.take 6 (.take 7 (.take 8 (.take 9 (.take 10 (.take 11 (.take 12 (.one 13 .nil)))))))))))))) (mixed) (fun _ _ _ _ h=>h) (by assumption) PP.auto (by decide +kernel) (fun w H=>?_)
        refine OQ.ex rfl (fun w H=>(Ex.move rfl)) rfl ?_
        refine OQ.ex rfl (fun w H=>(by first|exact Ex.field0 fld99_0 rfl|exact Ex.field fld99_0 rfl|exact Ex.fieldS fld99_0 rfl)) rfl ?_
        refine OQ.ex rfl (fun w H=>(by first|exact Ex.loadMh Tryz.isAgg3 rfl|exact Ex.loadP Tryz.isAgg3 rfl|exact Ex.loadM Tryz.isAgg3 rfl|exact Ex.loadIn1 Tryz.isAgg3 rfl (Holds.to (by assumption))|exact Ex.loadVc Tryz.isAgg3 rfl|exact Ex.loadR Tryz.isAgg3 rfl|exact Ex.loadQ Tryz.isAgg3 rfl)) rfl ?_
        refine OQ.ex rfl (fun w H=>(by first|exact Ex.field0 fld99_1 rfl|exact Ex.field fld99_1 rfl|exact Ex.fieldS fld99_1 rfl)) rfl ?_
        refine OQ.ex rfl (fun w H=>(by first|exact Ex.loadMh Tryz.isAgg3 rfl|exact Ex.loadP Tryz.isAgg3 rfl|exact Ex.loadM Tryz.isAgg3 rfl|exact Ex.loadIn1 Tryz.isAgg3 rfl (Holds.to (by assumption))|exact Ex.loadVc Tryz.isAgg3 rfl|exact Ex.loadR Tryz.isAgg3 rfl|exact Ex.loadQ Tryz.isAgg3 rfl)) rfl ?_
        refine OQ.ex rfl (fun w H=>(by first|exact Ex.field0 fld99_2 rfl|exact Ex.field fld99_2 rfl|exact Ex.fieldS fld99_2 rfl)) rfl ?_
        refine OQ.ex rfl (fun w H=>(by first|exact Ex.field0 fld97_0 rfl|exact Ex.field fld97_0 rfl|exact Ex.fieldS fld97_0 rfl)) rfl ?_
        refine OQ.ex rfl (fun w H=>(by first|exact Ex.loadMh Tryz.isAgg3 rfl|exact Ex.loadP Tryz.isAgg3 rfl|exact Ex.loadM Tryz.isAgg3 rfl|exact Ex.loadIn1 Tryz.isAgg3 rfl (Holds.to (by assumption))|exact Ex.loadVc Tryz.isAgg3 rfl|exact Ex.loadR Tryz.isAgg3 rfl|exact Ex.loadQ Tryz.isAgg3 rfl)) rfl ?_
        refine OQ.ex rfl (fun w H=>(by first|exact Ex.subI rfl rfl|exact Ex.sub rfl rfl rfl)) rfl ?_
        refine OQ.ex rfl (fun w H=>(by first|exact Ex.nilPtr rfl|exact Ex.nilFunc rfl|exact Ex.nilYield rfl)) rfl ?_
        refine OQ.ex rfl (fun w H=>(by first|exact Ex.field0 fld93_1 rfl|exact Ex.field fld93_1 rfl|exact Ex.fieldS fld93_1 rfl)) rfl ?_
        refine OQ.ex rfl (fun w H=>(Ex.idxArr Tryz.runUnderlying91 Tryz.sizeOf89 rfl rfl)) rfl ?_
        refine OQ.ex rfl (fun w H=>(Ex.idxArr Tryz.runUnderlying89 Tryz.sizeOf3 rfl rfl)) rfl ?_
        refine OQ.last rfl (by decide +kernel) ?_
        first|refine O.storeP Tryz.sizeOf3 rfl rfl (fun w H=>?_)|refine O.storeR Tryz.sizeOf3 rfl rfl (fun w H=>?_)|refine O.storeM Tryz.sizeOf3 rfl rfl (fun w H=>?_)|refine O.storeVc Tryz.sizeOf3 rfl rfl (fun w H=>?_)
        refine O.nil ?_
        refine hK12 _ _ _ ?_
        refine W.region ?_
        refine O.ex (Ex.move rfl) rfl ?_
        refine O.ex (by first|exact Ex.addI rfl rfl|exact Ex.add rfl rfl rfl) rfl ?_
        refine O.ex (Ex.assign rfl) rfl ?_
        refine O.nil ?_
        refine hK9 _ _ _ ?_
        refine W.region ?_
        refine O.ex (by first|exact Ex.addI rfl rfl|exact Ex.add rfl rfl rfl) rfl ?_
        refine O.ex (Ex.move rfl) rfl ?_
        refine O.nil ?_
        first
        | (rw [upd_neg] at H
           have H:=(mh_open (m:=m) (n:=n) (c:=upd2 s.1 x.t x.h x.g)).2 (Holds.to (by assumption))
           have hap2 : appl (l.take (i + 1)) (c,0) = (upd2 s.1 x.t x.h x.g,s.2 + 1):=by rw [hap]; exact if_pos hlt2
           exact ⟨i + 1,⟨rfl,rfl,by rw [hap2]; rfl,rfl,rfl,rfl,trivial⟩,⟨rfl,by omega,by rw [hap2]; exact Holds.to (by assumption)⟩,by omega⟩)
        | (have hap2 : appl (l.take (i + 1)) (c,0) = s:=by rw [hap]; exact if_neg hge2
           exact ⟨i + 1,⟨rfl,rfl,by rw [hap2]; rfl,rfl,rfl,rfl,trivial⟩,⟨rfl,by omega,by rw [hap2]; exact Holds.to (by assumption)⟩,by omega⟩)
      · refine W.skip ?_
        refine hK9 _ _ _ ?_
        refine W.region ?_
        refine O.ex (by first|exact Ex.addI rfl rfl|exact Ex.add rfl rfl rfl) rfl ?_
        refine O.ex (Ex.move rfl) rfl ?_
        refine O.nil ?_
        first
        | (rw [upd_neg] at H
           have H:=(mh_open (m:=m) (n:=n) (c:=upd2 s.1 x.t x.h x.g)).2 (Holds.to (by assumption))
           have hap2 : appl (l.take (i + 1)) (c,0) = (upd2 s.1 x.t x.h x.g,s.2 + 1):=by rw [hap]; exact if_pos hlt2
           exact ⟨i + 1,⟨rfl,rfl,by rw [hap2]; rfl,rfl,rfl,rfl,trivial⟩,⟨rfl,by omega,by rw [hap2]; exact Holds.to (by assumption)⟩,by omega⟩)
        | (have hap2 : appl (l.take (i + 1)) (c,0) = s:=by rw [hap]; exact if_neg hge2
           exact ⟨i + 1,⟨rfl,rfl,by rw [hap2]; rfl,rfl,rfl,rfl,trivial⟩,⟨rfl,by omega,by rw [hap2]; exact Holds.to (by assumption)⟩,by omega⟩)
    · refine W.exit ?_
      refine hK5 _ _ _ ?_
      refine W.seq (fun K13 hK13=>?_)
      refine W.region ?_
      obtain rfl : i = l.length:=by omega
      rw [List.take_length] at hs
      have hgc:=good_contr hg v
      have H:=(mh_open (m:=m) (n:=n) (c:=s.1)).1 (Holds.to (by assumption))
      refine O.ex (Ex.move rfl) rfl ?_
      refine O.ex (Ex.move rfl) rfl ?_
      refine O.ex (Ex.build rfl (bld89_  )) rfl ?_
      refine O.ex (by first|exact Ex.nilPtr rfl|exact Ex.nilFunc rfl|exact Ex.nilYield rfl) rfl ?_
      refine O.ex (by first|exact Ex.field0 fld93_1 rfl|exact Ex.field fld93_1 rfl|exact Ex.fieldS fld93_1 rfl) rfl ?_
      refine O.ex (Ex.idxArr Tryz.runUnderlying91 Tryz.sizeOf89 rfl rfl) rfl ?_
      refine O.storeMrow 0 Tryz.sizeOf89 rfl rfl rfl (fun w H=>?_)
      rw [row_neg] at H
      refine O.nil ?_
      refine hK13 _ _ _ ?_
      refine W.seq (fun K14 hK14=>?_)
      refine W.seq (fun K15 hK15=>?_)
      refine W.region ?_
      refine O.ex (Ex.move rfl) rfl ?_
      refine O.ex (by first|exact Ex.nilPtr rfl|exact Ex.nilFunc rfl|exact Ex.nilYield rfl) rfl ?_
      refine O.ex (by first|exact Ex.field0 fld93_0 rfl|exact Ex.field fld93_0 rfl|exact Ex.fieldS fld93_0 rfl) rfl ?_
      refine O.ex (by first|exact Ex.loadMh Tryz.isAgg3 rfl|exact Ex.loadP Tryz.isAgg3 rfl|exact Ex.loadM Tryz.isAgg3 rfl|exact Ex.loadIn1 Tryz.isAgg3 rfl (Holds.to (by assumption))|exact Ex.loadVc Tryz.isAgg3 rfl|exact Ex.loadR Tryz.isAgg3 rfl|exact Ex.loadQ Tryz.isAgg3 rfl) rfl ?_
      refine O.ex (Ex.move rfl) rfl ?_
      refine O.nil ?_
      refine hK15 _ _ _ ?_
      refine W.block ?_
      have H : Holds w (mtx m 93 [.int .i64 n] (fun a b=>4611686018427387906 - (if a = v ∨ (b = v ∧ a < ((0 : Nat) : Int)) then 4611686018427387906 else s.1 a b))::lks vd l::L):=by
        rw [mtx_congr (D':=fun a b=>4611686018427387906 - (if a = v then 4611686018427387906 else s.1 a b)) (fun a b h0 _ _ _=>by by_cases e : a = v <;> simp [e]; omega)]; exact Holds.to (by assumption)
      refine W.loop (σ:=Nat) (fun i=>[(0,.pointer (some ⟨m,0,none⟩)),(1,.int .i64 v),(6,.int .i64 s.2),(57,.int .i64 n),(58,.int .i64 (i : Int))]) (fun i ds w=>ds = [] ∧ (i : Int) ≤ n ∧ Holds w (mtx m 93 [.int .i64 n] (fun a b=>4611686018427387906 - (if a = v ∨ (b = v ∧ a < (i : Nat)) then 4611686018427387906 else s.1 a b))::lks vd l::L)) (fun i=>n.toNat - i) 0 ⟨rfl,rfl,rfl,rfl,rfl,trivial⟩ ⟨rfl,by omega,Holds.to (by assumption)⟩ ?_
      clear H
      rintro i _ w ⟨rfl,hi,H⟩
      refine W.seq (fun K16 hK16=>?_)
      refine W.region ?_
      refine O.ex (Ex.lss rfl rfl) rfl ?_
      refine O.nil ?_
      refine hK16 _ _ _ ?_
      refine W.seq (fun K17 hK17=>?_)
      first|refine W.cond_p rfl (fun hlt=>?_) (fun hge=>?_)|refine W.cond_b rfl (fun hlt=>?_) (fun hge=>?_)
      · refine W.skip ?_
        refine hK17 _ _ _ ?_
        refine W.seq (fun K18 hK18=>?_)
        refine W.block ?_
        refine W.seq (fun K19 hK19=>?_)
        refine W.region ?_
        refine O.ex (Ex.move rfl) rfl ?_
        refine O.ex (Ex.assign rfl) rfl ?_
        refine O.nil ?_
        refine hK19 _ _ _ ?_
        refine W.region ?_
        refine O.ex (Ex.move rfl) rfl ?_
        refine O.ex (Ex.move rfl) rfl ?_
        refine O.ex (Ex.move rfl) rfl ?_
        refine O.ex (by first|exact Ex.nilPtr rfl|exact Ex.nilFunc rfl|exact Ex.nilYield rfl) rfl ?_
        refine O.ex (by first|exact Ex.field0 fld93_1 rfl|exact Ex.field fld93_1 rfl|exact Ex.fieldS fld93_1 rfl) rfl ?_
        refine O.ex (Ex.idxArr Tryz.runUnderlying91 Tryz.sizeOf89 rfl rfl) rfl ?_
        refine O.ex (Ex.idxArr Tryz.runUnderlying89 Tryz.sizeOf3 rfl rfl) rfl ?_
        first|refine O.storeP Tryz.sizeOf3 rfl rfl (fun w H=>?_)|refine O.storeR Tryz.sizeOf3 rfl rfl (fun w H=>?_)|refine O.storeM Tryz.sizeOf3 rfl rfl (fun w H=>?_)|refine O.storeVc Tryz.sizeOf3 rfl rfl (fun w H=>?_)
        refine O.nil ?_
        refine hK18 _ _ _ ?_
        refine W.region ?_
        refine O.ex (by first|exact Ex.addI rfl rfl|exact Ex.add rfl rfl rfl) rfl ?_
        refine O.ex (Ex.move rfl) rfl ?_
        refine O.nil ?_
        rw [show upd2 (fun (a b : Int)=>4611686018427387906 - (if a = v ∨ (b = v ∧ a < (i : Nat)) then 4611686018427387906 else s.1 a b)) (i : Nat) v 0 = (fun (a b : Int)=>4611686018427387906 - (if a = v ∨ (b = v ∧ a < ((i + 1 : Nat) : Int)) then 4611686018427387906 else s.1 a b)) from by funext a b; unfold upd2; dsimp only; (repeat' split) <;> omega] at H
        exact ⟨i + 1,⟨rfl,rfl,rfl,rfl,rfl,trivial⟩,⟨rfl,by omega,Holds.to (by assumption)⟩,by omega⟩
      · refine W.exit ?_
        refine hK14 _ _ _ ?_
        refine W.seq (fun K20 hK20=>?_)
        refine W.region ?_
        refine O.ex (Ex.move rfl) rfl ?_
        refine O.ex (Ex.assign rfl) rfl ?_
        refine O.ex (Ex.assign rfl) rfl ?_
        refine O.nil ?_
        refine hK20 _ _ _ ?_
        refine W.ret ?_
        try dsimp only [thenQ,blockQ,retQ]
        first|refine ⟨_,⟨_,_,rfl,rfl,_,_,rfl,rfl,rfl⟩,?_⟩|(refine retD_mark ?_; intro w H; refine ⟨_,⟨_,_,rfl,rfl,_,_,rfl,rfl,rfl⟩,?_⟩)|(refine retD_mark2 ?_; intro w H; refine ⟨_,⟨_,_,rfl,rfl,_,_,rfl,rfl,rfl⟩,?_⟩)
        first
        | exact .inr ⟨by omega,rfl,Holds.to (by assumption)⟩
        | (refine .inl ⟨by omega,by unfold contrK; rw [← hl,← hs]; rfl,?_⟩
           refine mh_open.2 ?_
           rw [mtx_congr (D:=fun a b=>4611686018427387906 - contrC n c v a b) (D':=fun a b=>4611686018427387906 - (if a = v ∨ (b = v ∧ a < (i : Nat)) then 4611686018427387906 else s.1 a b))]
           · exact Holds.to (by assumption)
           · intro a b h0 h1 h2 h3
             have hcc : contrC n c v a b = if a = v ∨ b = v then 4611686018427387906 else s.1 a b:=by unfold contrC; rw [← hl,← hs]
             rw [hcc]
             by_cases e : a = v ∨ b = v
             · rw [if_pos e]
               by_cases e2 : a = v ∨ (b = v ∧ a < (i : Nat))
               · rw [if_pos e2]
               · rw [if_neg e2,hgs.out a b (by omega)]
             · rw [if_neg e,if_neg (by omega)])
end Go.Proofs.YtblapiiinbppiaaGreatDoor
namespace Go.Proofs.YtblapiiinbppiaaGreatDoor
open Go.Rr Go
set_option linter.unusedVariables false
end Go.Proofs.YtblapiiinbppiaaGreatDoor
namespace Go.Proofs.YtblapiiinbppiaaGreatDoor
open Go.Rr Go
set_option linter.unusedVariables false
end Go.Proofs.YtblapiiinbppiaaGreatDoor
namespace Go.Proofs.YtblapiiinbppiaaGreatDoor
open Go.Rr Go
set_option linter.unusedVariables false
set_option maxHeartbeats 1000000 in
theorem refContract_ct {w : World} {m : Nat} {n v : Int} {c : Int → Int → Int} {L : List HProp} (hg : Good n c) (hv0 : 0 ≤ v) (hv1 : v < n) (H : Holds w (Rh m n c::L)) :
    CT Tryz.prog 34 [.pointer (some ⟨m,0,none⟩),.int .i64 v] w fun x w'=>x = .int .i64 (contrK n c v) ∧ Holds w' (Rh m n (contrC n c v)::L):=by
  have n1:=hg.n1
  have n2:=hg.n2
  have hdl:=detL_len hg v
  have hmem : ∀ x ∈ detL n c v,okP n x.t x.h x.g:=fun x hx=>mem_det hg hx
  refine CT.enter (N:=83) Tryz.func34 rfl rfl rfl rfl ?_
  refine W.seq (fun K0 hK0=>?_)
  refine W.region ?_
  refine O.ex (Ex.assign rfl) rfl ?_
  refine O.nil ?_
  refine hK0 _ _ _ ?_
  refine W.seq (fun K1 hK1=>?_)
  refine W.region ?_
  refine O.ex (Ex.assign rfl) rfl ?_
  refine O.nil ?_
  refine hK1 _ _ _ ?_
  refine W.seq (fun K2 hK2=>?_)
  refine W.region ?_
  refine O.ex (Ex.move rfl) rfl ?_
  refine O.ex (Ex.move rfl) rfl ?_
  refine O.callF Tryz.call64 rfl rfl (CT.mono (refDetours_ct hg (Holds.to (by assumption))) ?_)
  rintro _ w ⟨hvd,H⟩
  rename_i vd
  obtain ⟨l,hl⟩ : ∃ l,l = detL n c v:=⟨_,rfl⟩
  rw [← hl] at H hdl hmem
  refine O.ex (Ex.assign rfl) rfl ?_
  refine O.nil ?_
  refine hK2 _ _ _ ?_
  refine W.seq (fun K3 hK3=>?_)
  refine W.seq (fun K4 hK4=>?_)
  refine W.region ?_
  refine O.ex (Ex.assign rfl) rfl ?_
  refine O.nil ?_
  refine hK4 _ _ _ ?_
  refine W.block ?_
  refine W.loop (σ:=Nat) (fun i=>[(0,.pointer (some ⟨m,0,none⟩)),(1,.int .i64 v),(5,.int .i64 (appl (l.take i) (c,0)).2),(6,vd),(7,.int .i64 (i : Int))]) (fun i ds w=>ds = [] ∧ i ≤ l.length ∧ Holds w (Rh m n (appl (l.take i) (c,0)).1::lks vd l::L)) (fun i=>l.length - i) 0 ⟨rfl,rfl,rfl,rfl,rfl,trivial⟩ ⟨rfl,by omega,Holds.to (by assumption)⟩ ?_
  clear H
  rintro i _ w ⟨rfl,hi,H⟩
  obtain ⟨s,hs⟩ : ∃ s,s = appl (l.take i) (c,0):=⟨_,rfl⟩
  rw [← hs] at H ⊢
  have hgs : Good n s.1:=by rw [hs]; exact good_appl _ _ hg fun x hx=>hmem x (List.mem_of_mem_take hx)
  have hcn:=appl_cnt (l.take i) (c,0)
  rw [← hs,List.length_take] at hcn
  dsimp only at hcn
  refine W.seq (fun K5 hK5=>?_)
  refine W.seq (fun K6 hK6=>?_)
  refine W.region ?_
  refine O.ex (Ex.move rfl) rfl ?_
  refine O.ex (Ex.move rfl) rfl ?_
  refine O.ex (by first|exact Ex.lenN Tryz.runUnderlying94 rfl|exact Ex.lenIn Tryz.runUnderlying94 rfl|exact Ex.lenL Tryz.runUnderlying94 rfl|exact Ex.len rfl Tryz.runUnderlying94 rfl) rfl ?_
  refine O.ex (Ex.lss rfl rfl) rfl ?_
  refine O.nil ?_
  refine hK6 _ _ _ ?_
  first|refine W.cond_p rfl (fun hlt=>?_) (fun hge=>?_)|refine W.cond_b rfl (fun hlt=>?_) (fun hge=>?_)
  · refine W.skip ?_
    refine hK5 _ _ _ ?_
    refine W.seq (fun K7 hK7=>?_)
    refine W.block ?_
    refine W.seq (fun K8 hK8=>?_)
    have hil : i < l.length:=by omega
    have hsl:=arrN_sl (sz:=5) (e:=LinkM.enc) (v:=vd) (xs:=l) (Holds.to (by assumption)) (by omega)
    have hok:=hmem _ (getL_mem l i hil)
    have hap:=appl_take l i hil (c,0)
    rw [← hs] at hap
    unfold okP at hok
    have H:=(rh_open (m:=m) (n:=n) (c:=s.1)).1 (Holds.to (by assumption))
    refine W.drawTo _ (.take 0 (.take 1 (.take 2 (.take 3 (.take 4 (.take 5 (.take 6 (.take 7 (.take 8 (.take 9 (.take 10 (.take 11 (.take 12 (.take 13 (.take 14 (.take 15 (.take 16 (.take 17 (.take 18 (.take 19 (.take 20 (.take 21 (.take 22 .nil))))))))))))))))))))))) (mixed) (fun _ _ _ _ h=>h) (by assumption) (PP.refl _) (by decide +kernel) (fun w H=>?_)
    refine OQ.ex rfl (fun w H=>(Ex.move rfl)) rfl ?_
    refine OQ.ex rfl (fun w H=>(Ex.move rfl)) rfl ?_
    refine OQ.ex rfl (fun w H=>(by first|exact Ex.idxN Tryz.runUnderlying94 Tryz.sizeOf99 rfl rfl|exact Ex.idxSN Tryz.runUnderlying94 Tryz.sizeOf99 rfl rfl|exact Ex.idxIn Tryz.runUnderlying94 Tryz.sizeOf99 rfl rfl|exact Ex.idx Tryz.runUnderlying94 Tryz.sizeOf99 rfl rfl (by omega) (by omega))) rfl ?_
    refine OQ.ex rfl (fun w H=>(by first|exact Ex.field0 fld99_2 rfl|exact Ex.field fld99_2 rfl|exact Ex.fieldS fld99_2 rfl)) rfl ?_
    refine OQ.ex rfl (fun w H=>(by first|exact Ex.field0 fld97_0 rfl|exact Ex.field fld97_0 rfl|exact Ex.fieldS fld97_0 rfl)) rfl ?_
    refine OQ.ex rfl (fun w H=>(Ex.loadN (xs:=l) (e:=LinkM.enc) (i:=i) (j:=2) Tryz.isAgg3 rfl)) rfl ?_
    refine OQ.ex rfl (fun w H=>(Ex.move rfl)) rfl ?_
    refine OQ.ex rfl (fun w H=>(Ex.move rfl)) rfl ?_
    refine OQ.ex rfl (fun w H=>(Ex.move rfl)) rfl ?_
    refine OQ.ex rfl (fun w H=>(by first|exact Ex.idxN Tryz.runUnderlying94 Tryz.sizeOf99 rfl rfl|exact Ex.idxSN Tryz.runUnderlying94 Tryz.sizeOf99 rfl rfl|exact Ex.idxIn Tryz.runUnderlying94 Tryz.sizeOf99 rfl rfl|exact Ex.idx Tryz.runUnderlying94 Tryz.sizeOf99 rfl rfl (by omega) (by omega))) rfl ?_
    refine OQ.ex rfl (fun w H=>(by first|exact Ex.field0 fld99_0 rfl|exact Ex.field fld99_0 rfl|exact Ex.fieldS fld99_0 rfl)) rfl ?_
    refine OQ.ex rfl (fun w H=>(Ex.loadN (xs:=l) (e:=LinkM.enc) (i:=i) (j:=0) Tryz.isAgg3 rfl)) rfl ?_
    refine OQ.ex rfl (fun w H=>(Ex.move rfl)) rfl ?_
    refine OQ.ex rfl (fun w H=>(Ex.move rfl)) rfl ?_
    refine OQ.ex rfl (fun w H=>(by first|exact Ex.idxN Tryz.runUnderlying94 Tryz.sizeOf99 rfl rfl|exact Ex.idxSN Tryz.runUnderlying94 Tryz.sizeOf99 rfl rfl|exact Ex.idxIn Tryz.runUnderlying94 Tryz.sizeOf99 rfl rfl|exact Ex.idx Tryz.runUnderlying94 Tryz.sizeOf99 rfl rfl (by omega) (by omega))) rfl ?_
    refine OQ.ex rfl (fun w H=>(by first|exact Ex.field0 fld99_1 rfl|exact Ex.field fld99_1 rfl|exact Ex.fieldS fld99_1 rfl)) rfl ?_
    refine OQ.ex rfl (fun w H=>(Ex.loadN (xs:=l) (e:=LinkM.enc) (i:=i) (j:=1) Tryz.isAgg3 rfl)) rfl ?_
    refine OQ.ex rfl (fun w H=>(by first|exact Ex.nilPtr rfl|exact Ex.nilFunc rfl|exact Ex.nilYield rfl)) rfl ?_
    refine OQ.ex rfl (fun w H=>(by first|exact Ex.field0 fld114_1 rfl|exact Ex.field fld114_1 rfl|exact Ex.fieldS fld114_1 rfl)) rfl ?_
    refine OQ.ex rfl (fun w H=>(Ex.idxArr Tryz.runUnderlying90 Tryz.sizeOf89 rfl rfl)) rfl ?_
    refine OQ.ex rfl (fun w H=>(Ex.idxArr Tryz.runUnderlying89 Tryz.sizeOf3 rfl rfl)) rfl ?_
    refine OQ.ex rfl (fun w H=>(by first|exact Ex.loadM Tryz.isAgg3 rfl|exact Ex.loadVc Tryz.isAgg3 rfl|exact Ex.loadP Tryz.isAgg3 rfl|exact Ex.loadIn1 Tryz.isAgg3 rfl (Holds.to (by assumption))|exact Ex.loadMh Tryz.isAgg3 rfl|exact Ex.loadR Tryz.isAgg3 rfl|exact Ex.loadQ Tryz.isAgg3 rfl)) rfl ?_
    refine OQ.ex rfl (fun w H=>(Ex.lss rfl rfl)) rfl ?_
    refine OQ.done ?_
    refine hK8 _ _ _ ?_
    first|refine W.cond_p rfl (fun hlt2=>?_) (fun hge2=>?_)|refine W.cond_b rfl (fun hlt2=>?_) (fun hge2=>?_)
    · refine W.seq (fun K9 hK9=>?_)
      refine W.drawTo _ (.take 0 (.take 1 (.take 2 (.take 3 (.take 4 (.take 5 (.take 6 (.take 7 (.take 8 (.take 9 (.take 10 (.take 11 (.take 12 (.take 13 (.take 14 (.take 15 (.take 16 (.take 17 (.take 18 (.take 19 (.take 20 (.one 21 .nil)))))))))))))))))))))) (mixed) (fun _ _ _ _ h=>h) (by assumption) (PP.refl _) (by decide +kernel) (fun w H=>?_)
      refine OQ.ex rfl (fun w H=>(Ex.move rfl)) rfl ?_
      refine OQ.ex rfl (fun w H=>(Ex.move rfl)) rfl ?_
      refine OQ.ex rfl (fun w H=>(Ex.move rfl)) rfl ?_
      refine OQ.ex rfl (fun w H=>(by first|exact Ex.idxN Tryz.runUnderlying94 Tryz.sizeOf99 rfl rfl|exact Ex.idxSN Tryz.runUnderlying94 Tryz.sizeOf99 rfl rfl|exact Ex.idxIn Tryz.runUnderlying94 Tryz.sizeOf99 rfl rfl|exact Ex.idx Tryz.runUnderlying94 Tryz.sizeOf99 rfl rfl (by omega) (by omega))) rfl ?_
      refine OQ.ex rfl (fun w H=>(by first|exact Ex.field0 fld99_0 rfl|exact Ex.field fld99_0 rfl|exact Ex.fieldS fld99_0 rfl)) rfl ?_
      refine OQ.ex rfl (fun w H=>(Ex.loadN (xs:=l) (e:=LinkM.enc) (i:=i) (j:=0) Tryz.isAgg3 rfl)) rfl ?_
      refine OQ.ex rfl (fun w H=>(Ex.move rfl)) rfl ?_
      refine OQ.ex rfl (fun w H=>(Ex.move rfl)) rfl ?_
      refine OQ.ex rfl (fun w H=>(by first|exact Ex.idxN Tryz.runUnderlying94 Tryz.sizeOf99 rfl rfl|exact Ex.idxSN Tryz.runUnderlying94 Tryz.sizeOf99 rfl rfl|exact Ex.idxIn Tryz.runUnderlying94 Tryz.sizeOf99 rfl rfl|exact Ex.idx Tryz.runUnderlying94 Tryz.sizeOf99 rfl rfl (by omega) (by omega))) rfl ?_
      refine OQ.ex rfl (fun w H=>(by first|exact Ex.field0 fld99_1 rfl|exact Ex.field fld99_1 rfl|exact Ex.fieldS fld99_1 rfl)) rfl ?_
      refine OQ.ex rfl (fun w H=>(Ex.loadN (xs:=l) (e:=LinkM.enc) (i:=i) (j:=1) Tryz.isAgg3 rfl)) rfl ?_
      refine OQ.ex rfl (fun w H=>(Ex.move rfl)) rfl ?_
      refine OQ.ex rfl (fun w H=>(Ex.move rfl)) rfl ?_
      refine OQ.ex rfl (fun w H=>(by first|exact Ex.idxN Tryz.runUnderlying94 Tryz.sizeOf99 rfl rfl|exact Ex.idxSN Tryz.runUnderlying94 Tryz.sizeOf99 rfl rfl|exact Ex.idxIn Tryz.runUnderlying94 Tryz.sizeOf99 rfl rfl|exact Ex.idx Tryz.runUnderlying94 Tryz.sizeOf99 rfl rfl (by omega) (by omega))) rfl ?_
      refine OQ.ex rfl (fun w H=>(by first|exact Ex.field0 fld99_2 rfl|exact Ex.field fld99_2 rfl|exact Ex.fieldS fld99_2 rfl)) rfl ?_
      refine OQ.ex rfl (fun w H=>(by first|exact Ex.field0 fld97_0 rfl|exact Ex.field fld97_0 rfl|exact Ex.fieldS fld97_0 rfl)) rfl ?_
      refine OQ.ex rfl (fun w H=>(Ex.loadN (xs:=l) (e:=LinkM.enc) (i:=i) (j:=2) Tryz.isAgg3 rfl)) rfl ?_
      refine OQ.ex rfl (fun w H=>(by first|exact Ex.nilPtr rfl|exact Ex.nilFunc rfl|exact Ex.nilYield rfl)) rfl ?_
      refine OQ.ex rfl (fun w H=>(by first|exact Ex.field0 fld114_1 rfl|exact Ex.field fld114_1 rfl|exact Ex.fieldS fld114_1 rfl)) rfl ?_
      refine OQ.ex rfl (fun w H=>(Ex.idxArr Tryz.runUnderlying90 Tryz.sizeOf89 rfl rfl)) rfl ?_
      refine OQ.ex rfl (fun w H=>(Ex.idxArr Tryz.runUnderlying89 Tryz.sizeOf3 rfl rfl)) rfl ?_
      refine OQ.last rfl (by decide +kernel) ?_
      first|refine O.storeP Tryz.sizeOf3 rfl rfl (fun w H=>?_)|refine O.storeR Tryz.sizeOf3 rfl rfl (fun w H=>?_)|refine O.storeM Tryz.sizeOf3 rfl rfl (fun w H=>?_)|refine O.storeVc Tryz.sizeOf3 rfl rfl (fun w H=>?_)
      refine O.nil ?_
      refine hK9 _ _ _ ?_
      refine W.region ?_
      refine O.ex (Ex.move rfl) rfl ?_
      refine O.ex (by first|exact Ex.addI rfl rfl|exact Ex.add rfl rfl rfl) rfl ?_
      refine O.ex (Ex.assign rfl) rfl ?_
      refine O.nil ?_
      refine hK7 _ _ _ ?_
      refine W.region ?_
      refine O.ex (Ex.move rfl) rfl ?_
      refine O.ex (by first|exact Ex.addI rfl rfl|exact Ex.add rfl rfl rfl) rfl ?_
      refine O.ex (Ex.assign rfl) rfl ?_
      refine O.nil ?_
      first
      | (have H:=(rh_open (m:=m) (n:=n) (c:=upd2 s.1 (l.getD i default).t (l.getD i default).h (l.getD i default).g)).2 (Holds.to (by assumption))
         have hap2 : appl (l.take (i + 1)) (c,0) = (upd2 s.1 (l.getD i default).t (l.getD i default).h (l.getD i default).g,s.2 + 1):=by rw [hap]; exact if_pos hlt2
         exact ⟨i + 1,⟨rfl,rfl,by rw [hap2]; rfl,rfl,rfl,trivial⟩,⟨rfl,by omega,by rw [hap2]; exact Holds.to (by assumption)⟩,by omega⟩)
      | (have hap2 : appl (l.take (i + 1)) (c,0) = s:=by rw [hap]; exact if_neg hge2
         exact ⟨i + 1,⟨rfl,rfl,by rw [hap2]; rfl,rfl,rfl,trivial⟩,⟨rfl,by omega,by rw [hap2]; exact (rh_open (m:=m) (n:=n) (c:=s.1)).2 (Holds.to (by assumption))⟩,by omega⟩)
    · refine W.skip ?_
      refine hK7 _ _ _ ?_
      refine W.region ?_
      refine O.ex (Ex.move rfl) rfl ?_
      refine O.ex (by first|exact Ex.addI rfl rfl|exact Ex.add rfl rfl rfl) rfl ?_
      refine O.ex (Ex.assign rfl) rfl ?_
      refine O.nil ?_
      first
      | (have H:=(rh_open (m:=m) (n:=n) (c:=upd2 s.1 (l.getD i default).t (l.getD i default).h (l.getD i default).g)).2 (Holds.to (by assumption))
         have hap2 : appl (l.take (i + 1)) (c,0) = (upd2 s.1 (l.getD i default).t (l.getD i default).h (l.getD i default).g,s.2 + 1):=by rw [hap]; exact if_pos hlt2
         exact ⟨i + 1,⟨rfl,rfl,by rw [hap2]; rfl,rfl,rfl,trivial⟩,⟨rfl,by omega,by rw [hap2]; exact Holds.to (by assumption)⟩,by omega⟩)
      | (have hap2 : appl (l.take (i + 1)) (c,0) = s:=by rw [hap]; exact if_neg hge2
         exact ⟨i + 1,⟨rfl,rfl,by rw [hap2]; rfl,rfl,rfl,trivial⟩,⟨rfl,by omega,by rw [hap2]; exact (rh_open (m:=m) (n:=n) (c:=s.1)).2 (Holds.to (by assumption))⟩,by omega⟩)
  · refine W.exit ?_
    refine hK3 _ _ _ ?_
    refine W.seq (fun K10 hK10=>?_)
    refine W.seq (fun K11 hK11=>?_)
    refine W.region ?_
    refine O.ex (Ex.assign rfl) rfl ?_
    refine O.nil ?_
    refine hK11 _ _ _ ?_
    refine W.block ?_
    obtain rfl : i = l.length:=by omega
    rw [List.take_length] at hs
    have H:=(rh_open (m:=m) (n:=n) (c:=s.1)).1 (Holds.to (by assumption))
    have H : Holds w (mtx m 114 [.int .i64 n] (fun a b=>if (b = v ∧ a < ((0 : Nat) : Int)) ∨ (a = v ∧ b < ((0 : Nat) : Int)) then 4611686018427387906 else s.1 a b)::lks vd l::L):=by
      rw [mtx_congr (D:=fun a b=>if (b = v ∧ a < ((0 : Nat) : Int)) ∨ (a = v ∧ b < ((0 : Nat) : Int)) then 4611686018427387906 else s.1 a b) (D':=s.1) (fun a b h0 _ h2 _=>if_neg (by omega))]; exact Holds.to (by assumption)
    refine W.loop (σ:=Nat) (fun i=>[(0,.pointer (some ⟨m,0,none⟩)),(1,.int .i64 v),(5,.int .i64 s.2),(8,.int .i64 (i : Int))]) (fun i ds w=>ds = [] ∧ i ≤ 24 ∧ Holds w (mtx m 114 [.int .i64 n] (fun a b=>if (b = v ∧ a < (i : Nat)) ∨ (a = v ∧ b < (i : Nat)) then 4611686018427387906 else s.1 a b)::lks vd l::L)) (fun i=>24 - i) 0 ⟨rfl,rfl,rfl,rfl,trivial⟩ ⟨rfl,by omega,Holds.to (by assumption)⟩ ?_
    clear H
    rintro i _ w ⟨rfl,hi,H⟩
    refine W.seq (fun K12 hK12=>?_)
    refine W.seq (fun K13 hK13=>?_)
    refine W.region ?_
    refine O.ex (Ex.move rfl) rfl ?_
    refine O.ex (Ex.lss rfl rfl) rfl ?_
    refine O.nil ?_
    refine hK13 _ _ _ ?_
    first|refine W.cond_p rfl (fun hlt=>?_) (fun hge=>?_)|refine W.cond_b rfl (fun hlt=>?_) (fun hge=>?_)
    · refine W.skip ?_
      refine hK12 _ _ _ ?_
      refine W.seq (fun K14 hK14=>?_)
      refine W.block ?_
      refine W.seq (fun K15 hK15=>?_)
      refine W.region ?_
      refine O.ex (Ex.move rfl) rfl ?_
      refine O.ex (Ex.move rfl) rfl ?_
      refine O.ex (Ex.move rfl) rfl ?_
      refine O.ex (by first|exact Ex.nilPtr rfl|exact Ex.nilFunc rfl|exact Ex.nilYield rfl) rfl ?_
      refine O.ex (by first|exact Ex.field0 fld114_1 rfl|exact Ex.field fld114_1 rfl|exact Ex.fieldS fld114_1 rfl) rfl ?_
      refine O.ex (Ex.idxArr Tryz.runUnderlying90 Tryz.sizeOf89 rfl rfl) rfl ?_
      refine O.ex (Ex.idxArr Tryz.runUnderlying89 Tryz.sizeOf3 rfl rfl) rfl ?_
      first|refine O.storeP Tryz.sizeOf3 rfl rfl (fun w H=>?_)|refine O.storeR Tryz.sizeOf3 rfl rfl (fun w H=>?_)|refine O.storeM Tryz.sizeOf3 rfl rfl (fun w H=>?_)|refine O.storeVc Tryz.sizeOf3 rfl rfl (fun w H=>?_)
      refine O.nil ?_
      refine hK15 _ _ _ ?_
      refine W.region ?_
      refine O.ex (Ex.move rfl) rfl ?_
      refine O.ex (Ex.move rfl) rfl ?_
      refine O.ex (Ex.move rfl) rfl ?_
      refine O.ex (by first|exact Ex.nilPtr rfl|exact Ex.nilFunc rfl|exact Ex.nilYield rfl) rfl ?_
      refine O.ex (by first|exact Ex.field0 fld114_1 rfl|exact Ex.field fld114_1 rfl|exact Ex.fieldS fld114_1 rfl) rfl ?_
      refine O.ex (Ex.idxArr Tryz.runUnderlying90 Tryz.sizeOf89 rfl rfl) rfl ?_
      refine O.ex (Ex.idxArr Tryz.runUnderlying89 Tryz.sizeOf3 rfl rfl) rfl ?_
      first|refine O.storeP Tryz.sizeOf3 rfl rfl (fun w H=>?_)|refine O.storeR Tryz.sizeOf3 rfl rfl (fun w H=>?_)|refine O.storeM Tryz.sizeOf3 rfl rfl (fun w H=>?_)|refine O.storeVc Tryz.sizeOf3 rfl rfl (fun w H=>?_)
      refine O.nil ?_
      refine hK14 _ _ _ ?_
      refine W.region ?_
      refine O.ex (Ex.move rfl) rfl ?_
      refine O.ex (by first|exact Ex.addI rfl rfl|exact Ex.add rfl rfl rfl) rfl ?_
      refine O.ex (Ex.assign rfl) rfl ?_
      refine O.nil ?_
      rw [show upd2 (upd2 (fun (a b : Int)=>if (b = v ∧ a < (i : Nat)) ∨ (a = v ∧ b < (i : Nat)) then 4611686018427387906 else s.1 a b) (i : Nat) v 4611686018427387906) v (i : Nat) 4611686018427387906 = (fun (a b : Int)=>if (b = v ∧ a < ((i + 1 : Nat) : Int)) ∨ (a = v ∧ b < ((i + 1 : Nat) : Int)) then 4611686018427387906 else s.1 a b) from by funext a b; unfold upd2; dsimp only; (repeat' split) <;> omega] at H
      exact ⟨i + 1,⟨rfl,rfl,rfl,rfl,trivial⟩,⟨rfl,by omega,Holds.to (by assumption)⟩,by omega⟩
    · refine W.exit ?_
      refine hK10 _ _ _ ?_
      refine W.seq (fun K16 hK16=>?_)
      refine W.region ?_
      refine O.ex (Ex.move rfl) rfl ?_
      refine O.ex (Ex.assign rfl) rfl ?_
      refine O.nil ?_
      refine hK16 _ _ _ ?_
      refine W.ret ?_
      try dsimp only [thenQ,blockQ,retQ]
      first|refine ⟨_,⟨_,_,rfl,rfl,rfl⟩,?_⟩|(refine retD_mark ?_; intro w H; refine ⟨_,⟨_,_,rfl,rfl,rfl⟩,?_⟩)|(refine retD_mark2 ?_; intro w H; refine ⟨_,⟨_,_,rfl,rfl,rfl⟩,?_⟩)
      refine ⟨by unfold contrK; rw [← hl,← hs]; rfl,rh_open.2 ?_⟩
      rw [mtx_congr (D:=contrC n c v) (D':=fun a b=>if (b = v ∧ a < (i : Nat)) ∨ (a = v ∧ b < (i : Nat)) then 4611686018427387906 else s.1 a b)]
      · exact Holds.to (by assumption)
      · intro a b h0 h1 h2 h3
        have hcc : contrC n c v a b = if a = v ∨ b = v then 4611686018427387906 else s.1 a b:=by unfold contrC; rw [← hl,← hs]
        rw [hcc]
        by_cases e : a = v ∨ b = v
        · rw [if_pos e,if_pos (by omega)]
        · rw [if_neg e,if_neg (by omega)]
end Go.Proofs.YtblapiiinbppiaaGreatDoor
