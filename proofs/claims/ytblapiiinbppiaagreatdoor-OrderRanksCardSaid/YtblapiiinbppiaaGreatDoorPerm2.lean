import Derived.Test.YtblapiiinbppiaaGreatDoorPerm
namespace Go.Proofs.YtblapiiinbppiaaGreatDoor
open Go.Rr Go
set_option linter.unusedVariables false
/-- So far it may be an order. -/
def pre (l : List Int) (i : Nat) : Prop:=(∀ x ∈ l.take i,0 ≤ x ∧ x < l.length) ∧ (l.take i).Nodup
theorem cnt_take (l : List Int) (i : Nat) (h : i < l.length) (r : Int) : (l.take (i + 1)).count r = (l.take i).count r + if l.getD i default = r then 1 else 0:=by
  rw [take_get l i h,List.count_append,List.count_singleton]
  congr 1
  by_cases e : l.getD i default = r
  · rw [if_pos e,e]; simp
  · rw [if_neg e]; simpa using e
theorem refRightA_ct {w  : World} {v : Value} {l : List Int} {L : List HProp} (H : Holds w (arr 3 (Value.int .i64) v l::L)) (hlen : l.length ≤ 9223372036854775807) :
    CT Tryz.prog 10 [v] w fun u w'=>u = .bool (decide (RightP l)) ∧ Holds w' (arr 3 (Value.int .i64) v l::L):=by
  refine CT.enter (N:=31) Tryz.func10 rfl rfl rfl rfl ?_
  refine W.seq (fun K0 hK0=>?_)
  refine W.region ?_
  refine O.ex (Ex.assign rfl) rfl ?_
  refine O.nil ?_
  refine hK0 _ _ _ ?_
  refine W.seq (fun K1 hK1=>?_)
  refine W.seq (fun K2 hK2=>?_)
  refine W.region ?_
  refine O.ex (Ex.move rfl) rfl ?_
  refine O.ex (by first|exact Ex.lenR Tryz.runUnderlying28 rfl|exact Ex.lenIn Tryz.runUnderlying28 rfl|exact Ex.lenL Tryz.runUnderlying28 rfl|exact Ex.len rfl Tryz.runUnderlying28 rfl) rfl ?_
  refine O.ex (Ex.gtr rfl rfl) rfl ?_
  refine O.nil ?_
  refine hK2 _ _ _ ?_
  first|refine W.cond_p rfl (fun hbig=>?_) (fun hle=>?_)|refine W.cond_b rfl (fun hbig=>?_) (fun hle=>?_)
  · refine W.seq (fun K3 hK3=>?_)
    refine W.region ?_
    refine O.ex (Ex.assign rfl) rfl ?_
    refine O.nil ?_
    refine hK3 _ _ _ ?_
    refine W.ret ?_
    try dsimp only [thenQ,blockQ,retQ]
    first|refine ⟨_,⟨_,_,rfl,rfl,rfl⟩,?_⟩|(refine retD_mark ?_; intro w H; refine ⟨_,⟨_,_,rfl,rfl,rfl⟩,?_⟩)|(refine retD_mark2 ?_; intro w H; refine ⟨_,⟨_,_,rfl,rfl,rfl⟩,?_⟩)
    first
    | exact ⟨congrArg Value.bool (decide_eq_false fun h=>by have:=h.1; omega).symm,Holds.to (by assumption)⟩
    | (refine ⟨congrArg Value.bool (decide_eq_false fun h=>?_).symm,Holds.to (by assumption)⟩
       have:=h.cnt (r:=(i : Int)) (by omega) (by omega)
       omega)
    | (obtain rfl : i = l.length:=by omega
       exact ⟨congrArg Value.bool (decide_eq_true (right_of_cnt (by omega) hc)).symm,Holds.to (by assumption)⟩)
  · refine W.skip ?_
    refine hK1 _ _ _ ?_
    refine W.seq (fun K4 hK4=>?_)
    refine W.seq (fun K5 hK5=>?_)
    refine W.region ?_
    refine O.ex (Ex.assign rfl) rfl ?_
    refine O.nil ?_
    refine hK5 _ _ _ ?_
    refine W.block ?_
    refine W.loop (σ:=Nat) (fun i=>[(0,v),(3,.int .i64 (i : Int))]) (fun i ds w=>ds = [] ∧ i ≤ l.length ∧ (∀ r : Nat,r < i → l.count (r : Int) = 1) ∧ Holds w (arr 3 (Value.int .i64) v l::L)) (fun i=>l.length - i) 0 ⟨rfl,rfl,trivial⟩ ⟨rfl,by omega,fun r hr=>absurd hr (by omega),Holds.to (by assumption)⟩ ?_
    clear H
    rintro i _ w ⟨rfl,hi,hc,H⟩
    refine W.seq (fun K6 hK6=>?_)
    refine W.seq (fun K7 hK7=>?_)
    refine W.region ?_
    refine O.ex (Ex.move rfl) rfl ?_
    refine O.ex (Ex.move rfl) rfl ?_
    refine O.ex (by first|exact Ex.lenR Tryz.runUnderlying28 rfl|exact Ex.lenIn Tryz.runUnderlying28 rfl|exact Ex.lenL Tryz.runUnderlying28 rfl|exact Ex.len rfl Tryz.runUnderlying28 rfl) rfl ?_
    refine O.ex (Ex.lss rfl rfl) rfl ?_
    refine O.nil ?_
    refine hK7 _ _ _ ?_
    first|refine W.cond_p rfl (fun hlt=>?_) (fun hge=>?_)|refine W.cond_b rfl (fun hlt=>?_) (fun hge=>?_)
    · refine W.skip ?_
      refine hK6 _ _ _ ?_
      refine W.seq (fun K8 hK8=>?_)
      refine W.block ?_
      refine W.seq (fun K9 hK9=>?_)
      refine W.region ?_
      refine O.ex (Ex.assign rfl) rfl ?_
      refine O.nil ?_
      refine hK9 _ _ _ ?_
      refine W.seq (fun K10 hK10=>?_)
      refine W.seq (fun K11 hK11=>?_)
      refine W.region ?_
      refine O.ex (Ex.assign rfl) rfl ?_
      refine O.nil ?_
      refine hK11 _ _ _ ?_
      refine W.block ?_
      refine W.loop (σ:=Nat) (fun j=>[(0,v),(3,.int .i64 (i : Int)),(4,.int .i64 ((l.take j).count (i : Int) : Nat)),(5,.int .i64 (j : Int))]) (fun j ds w=>ds = [] ∧ j ≤ l.length ∧ Holds w (arr 3 (Value.int .i64) v l::L)) (fun j=>l.length - j) 0 ⟨rfl,rfl,by rw [List.take_zero]; rfl,rfl,trivial⟩ ⟨rfl,by omega,Holds.to (by assumption)⟩ ?_
      clear H
      rintro j _ w ⟨rfl,hj,H⟩
      have hcl : (l.take j).count (i : Int) ≤ j:=Nat.le_trans List.count_le_length (by rw [List.length_take]; omega)
      refine W.seq (fun K12 hK12=>?_)
      refine W.seq (fun K13 hK13=>?_)
      refine W.region ?_
      refine O.ex (Ex.move rfl) rfl ?_
      refine O.ex (Ex.move rfl) rfl ?_
      refine O.ex (by first|exact Ex.lenR Tryz.runUnderlying28 rfl|exact Ex.lenIn Tryz.runUnderlying28 rfl|exact Ex.lenL Tryz.runUnderlying28 rfl|exact Ex.len rfl Tryz.runUnderlying28 rfl) rfl ?_
      refine O.ex (Ex.lss rfl rfl) rfl ?_
      refine O.nil ?_
      refine hK13 _ _ _ ?_
      first|refine W.cond_p rfl (fun hlt2=>?_) (fun hge2=>?_)|refine W.cond_b rfl (fun hlt2=>?_) (fun hge2=>?_)
      · refine W.skip ?_
        refine hK12 _ _ _ ?_
        refine W.seq (fun K14 hK14=>?_)
        refine W.block ?_
        refine W.seq (fun K15 hK15=>?_)
        refine W.region ?_
        refine O.ex (Ex.move rfl) rfl ?_
        refine O.ex (Ex.move rfl) rfl ?_
        refine O.ex (by first|exact Ex.idxR Tryz.runUnderlying28 Tryz.sizeOf3 rfl rfl|exact Ex.idxIn Tryz.runUnderlying28 Tryz.sizeOf3 rfl rfl|exact Ex.idxS Tryz.runUnderlying28 Tryz.sizeOf3 rfl rfl|exact Ex.idx Tryz.runUnderlying28 Tryz.sizeOf3 rfl rfl (by omega) (by omega)) rfl ?_
        refine O.ex (by first|exact Ex.loadR Tryz.isAgg3 rfl|exact Ex.loadIn1 Tryz.isAgg3 rfl (Holds.to (by assumption))|exact Ex.loadP Tryz.isAgg3 rfl|exact Ex.loadMh Tryz.isAgg3 rfl|exact Ex.loadM Tryz.isAgg3 rfl|exact Ex.loadVc Tryz.isAgg3 rfl|exact Ex.loadQ Tryz.isAgg3 rfl) rfl ?_
        refine O.ex (Ex.move rfl) rfl ?_
        refine O.ex (Ex.eqlI rfl rfl) rfl ?_
        refine O.nil ?_
        refine hK15 _ _ _ ?_
        first|refine W.cond_p rfl (fun heq=>?_) (fun hne=>?_)|refine W.cond_b rfl (fun heq=>?_) (fun hne=>?_)
        · refine W.region ?_
          refine O.ex (Ex.move rfl) rfl ?_
          refine O.ex (by first|exact Ex.addI rfl rfl|exact Ex.add rfl rfl rfl) rfl ?_
          refine O.ex (Ex.assign rfl) rfl ?_
          refine O.nil ?_
          refine hK14 _ _ _ ?_
          refine W.region ?_
          refine O.ex (Ex.move rfl) rfl ?_
          refine O.ex (by first|exact Ex.addI rfl rfl|exact Ex.add rfl rfl rfl) rfl ?_
          refine O.ex (Ex.assign rfl) rfl ?_
          refine O.nil ?_
          first
          | (replace heq : l.getD j default = (i : Int):=heq
             exact ⟨j + 1,⟨rfl,rfl,by rw [cnt_take l j (by omega),if_pos heq]; rfl,rfl,trivial⟩,⟨rfl,by omega,Holds.to (by assumption)⟩,by omega⟩)
          | (replace hne : ¬ l.getD j default = (i : Int):=hne
             exact ⟨j + 1,⟨rfl,rfl,by rw [cnt_take l j (by omega),if_neg hne]; rfl,rfl,trivial⟩,⟨rfl,by omega,Holds.to (by assumption)⟩,by omega⟩)
        · refine W.skip ?_
          refine hK14 _ _ _ ?_
          refine W.region ?_
          refine O.ex (Ex.move rfl) rfl ?_
          refine O.ex (by first|exact Ex.addI rfl rfl|exact Ex.add rfl rfl rfl) rfl ?_
          refine O.ex (Ex.assign rfl) rfl ?_
          refine O.nil ?_
          first
          | (replace heq : l.getD j default = (i : Int):=heq
             exact ⟨j + 1,⟨rfl,rfl,by rw [cnt_take l j (by omega),if_pos heq]; rfl,rfl,trivial⟩,⟨rfl,by omega,Holds.to (by assumption)⟩,by omega⟩)
          | (replace hne : ¬ l.getD j default = (i : Int):=hne
             exact ⟨j + 1,⟨rfl,rfl,by rw [cnt_take l j (by omega),if_neg hne]; rfl,rfl,trivial⟩,⟨rfl,by omega,Holds.to (by assumption)⟩,by omega⟩)
      · refine W.exit ?_
        refine hK10 _ _ _ ?_
        refine W.seq (fun K16 hK16=>?_)
        refine W.region ?_
        obtain rfl : j = l.length:=by omega
        rw [List.take_length]
        refine O.ex (Ex.move rfl) rfl ?_
        refine O.ex (Ex.neqI rfl rfl) rfl ?_
        refine O.nil ?_
        refine hK16 _ _ _ ?_
        first|refine W.cond_p rfl (fun hbad=>?_) (fun hok=>?_)|refine W.cond_b rfl (fun hbad=>?_) (fun hok=>?_)
        · refine W.seq (fun K17 hK17=>?_)
          refine W.region ?_
          refine O.ex (Ex.assign rfl) rfl ?_
          refine O.nil ?_
          refine hK17 _ _ _ ?_
          refine W.ret ?_
          try dsimp only [thenQ,blockQ,retQ]
          first|refine ⟨_,⟨_,_,rfl,rfl,rfl⟩,?_⟩|(refine retD_mark ?_; intro w H; refine ⟨_,⟨_,_,rfl,rfl,rfl⟩,?_⟩)|(refine retD_mark2 ?_; intro w H; refine ⟨_,⟨_,_,rfl,rfl,rfl⟩,?_⟩)
          first
          | exact ⟨congrArg Value.bool (decide_eq_false fun h=>by have:=h.1; omega).symm,Holds.to (by assumption)⟩
          | (refine ⟨congrArg Value.bool (decide_eq_false fun h=>?_).symm,Holds.to (by assumption)⟩
             have:=h.cnt (r:=(i : Int)) (by omega) (by omega)
             omega)
          | (obtain rfl : i = l.length:=by omega
             exact ⟨congrArg Value.bool (decide_eq_true (right_of_cnt (by omega) hc)).symm,Holds.to (by assumption)⟩)
        · refine W.skip ?_
          refine hK8 _ _ _ ?_
          refine W.region ?_
          refine O.ex (Ex.move rfl) rfl ?_
          refine O.ex (by first|exact Ex.addI rfl rfl|exact Ex.add rfl rfl rfl) rfl ?_
          refine O.ex (Ex.assign rfl) rfl ?_
          refine O.nil ?_
          refine ⟨i + 1,⟨rfl,rfl,trivial⟩,⟨rfl,by omega,fun r hr=>?_,Holds.to (by assumption)⟩,by omega⟩
          by_cases e : r = i
          · subst e; omega
          · exact hc r (by omega)
    · refine W.exit ?_
      refine hK4 _ _ _ ?_
      refine W.seq (fun K18 hK18=>?_)
      refine W.region ?_
      refine O.ex (Ex.assign rfl) rfl ?_
      refine O.nil ?_
      refine hK18 _ _ _ ?_
      refine W.ret ?_
      try dsimp only [thenQ,blockQ,retQ]
      first|refine ⟨_,⟨_,_,rfl,rfl,rfl⟩,?_⟩|(refine retD_mark ?_; intro w H; refine ⟨_,⟨_,_,rfl,rfl,rfl⟩,?_⟩)|(refine retD_mark2 ?_; intro w H; refine ⟨_,⟨_,_,rfl,rfl,rfl⟩,?_⟩)
      first
      | exact ⟨congrArg Value.bool (decide_eq_false fun h=>by have:=h.1; omega).symm,Holds.to (by assumption)⟩
      | (refine ⟨congrArg Value.bool (decide_eq_false fun h=>?_).symm,Holds.to (by assumption)⟩
         have:=h.cnt (r:=(i : Int)) (by omega) (by omega)
         omega)
      | (obtain rfl : i = l.length:=by omega
         exact ⟨congrArg Value.bool (decide_eq_true (right_of_cnt (by omega) hc)).symm,Holds.to (by assumption)⟩)
end Go.Proofs.YtblapiiinbppiaaGreatDoor
