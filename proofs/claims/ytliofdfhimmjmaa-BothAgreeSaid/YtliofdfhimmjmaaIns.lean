import Derived.Test.YtliofdfhimmjmaaPerm
import Derived.Test.YtliofdfhimmjmaaRrBase
namespace Go.Proofs.Ytliofdfhimmjmaa
open Go.Rr Go
set_option linter.unusedVariables false
theorem cmpNan_ct {w : World} {a : Int} {L : List HProp} (H : Holds w L) : CT Try.prog 114 [.int .i64 a] w fun u w'=>u = .bool false ∧ Holds w' L:=by
  refine CT.enter (N:=6) Try.func114 rfl rfl rfl rfl ?_
  refine W.seq (fun K0 hK0=>?_)
  refine W.region ?_
  refine O.ex (Ex.assign rfl) rfl ?_
  refine O.nil ?_
  refine hK0 _ _ _ ?_
  refine W.seq (fun K1 hK1=>?_)
  refine W.region ?_
  refine O.ex (Ex.move rfl) rfl ?_
  refine O.ex (Ex.move rfl) rfl ?_
  refine O.ex (Ex.neqI rfl rfl) rfl ?_
  refine O.ex (Ex.assign rfl) rfl ?_
  refine O.nil ?_
  refine hK1 _ _ _ ?_
  refine W.ret ?_
  try dsimp only [thenQ,blockQ,retQ]
  first|refine ⟨_,⟨_,_,rfl,rfl,rfl⟩,?_⟩|(refine retD_mark ?_; intro w H; refine ⟨_,⟨_,_,rfl,rfl,rfl⟩,?_⟩)|(refine retD_mark2 ?_; intro w H; refine ⟨_,⟨_,_,rfl,rfl,rfl⟩,?_⟩)
  exact ⟨congrArg Value.bool (decide_eq_false (fun hh=>hh rfl)),Holds.to (by assumption)⟩
theorem slNan_ct {w : World} {a : Int} {L : List HProp} (H : Holds w L) : CT Try.prog 107 [.int .i64 a] w fun u w'=>u = .bool false ∧ Holds w' L:=by
  refine CT.enter (N:=6) Try.func107 rfl rfl rfl rfl ?_
  refine W.seq (fun K0 hK0=>?_)
  refine W.region ?_
  refine O.ex (Ex.assign rfl) rfl ?_
  refine O.nil ?_
  refine hK0 _ _ _ ?_
  refine W.seq (fun K1 hK1=>?_)
  refine W.region ?_
  refine O.ex (Ex.move rfl) rfl ?_
  refine O.ex (Ex.move rfl) rfl ?_
  refine O.ex (Ex.neqI rfl rfl) rfl ?_
  refine O.ex (Ex.assign rfl) rfl ?_
  refine O.nil ?_
  refine hK1 _ _ _ ?_
  refine W.ret ?_
  try dsimp only [thenQ,blockQ,retQ]
  first|refine ⟨_,⟨_,_,rfl,rfl,rfl⟩,?_⟩|(refine retD_mark ?_; intro w H; refine ⟨_,⟨_,_,rfl,rfl,rfl⟩,?_⟩)|(refine retD_mark2 ?_; intro w H; refine ⟨_,⟨_,_,rfl,rfl,rfl⟩,?_⟩)
  exact ⟨congrArg Value.bool (decide_eq_false (fun hh=>hh rfl)),Holds.to (by assumption)⟩
theorem cmpLess_ct {w : World} {a b : Int} {L : List HProp} (H : Holds w L) : CT Try.prog 106 [.int .i64 a,.int .i64 b] w fun u w'=>u = .bool (decide (a < b)) ∧ Holds w' L:=by
  refine CT.enter (N:=17) Try.func106 rfl rfl rfl rfl ?_
  refine W.seq (fun K0 hK0=>?_)
  refine W.region ?_
  refine O.ex (Ex.assign rfl) rfl ?_
  refine O.nil ?_
  refine hK0 _ _ _ ?_
  refine W.seq (fun K1 hK1=>?_)
  refine W.region ?_
  refine O.ex (Ex.move rfl) rfl ?_
  refine O.callF Try.call114 rfl rfl (CT.mono (cmpNan_ct (Holds.to (by assumption))) ?_)
  rintro _ w ⟨rfl,H⟩
  refine O.ex (Ex.move rfl) rfl ?_
  refine O.known (t:=7) (c:=false) rfl (by first|rfl|decide|(simp; done)|omega) ?_
  refine O.guard_f rfl rfl rfl rfl ?_
  refine O.guard_f rfl rfl rfl rfl ?_
  refine O.guard_f rfl rfl rfl rfl ?_
  refine O.ex (Ex.pick_f rfl rfl) rfl ?_
  refine O.ex (Ex.move rfl) rfl ?_
  refine O.guard_t rfl rfl ?_
  refine O.ex (Ex.move rfl) rfl ?_
  refine O.guard_t rfl rfl ?_
  refine O.ex (Ex.move rfl) rfl ?_
  refine O.guard_t rfl rfl ?_
  refine O.ex (Ex.lss rfl rfl) rfl ?_
  refine O.ex (Ex.pick_f rfl rfl) rfl ?_
  refine O.ex (Ex.assign rfl) rfl ?_
  refine O.nil ?_
  refine hK1 _ _ _ ?_
  refine W.ret ?_
  try dsimp only [thenQ,blockQ,retQ]
  first|refine ⟨_,⟨_,_,rfl,rfl,rfl⟩,?_⟩|(refine retD_mark ?_; intro w H; refine ⟨_,⟨_,_,rfl,rfl,rfl⟩,?_⟩)|(refine retD_mark2 ?_; intro w H; refine ⟨_,⟨_,_,rfl,rfl,rfl⟩,?_⟩)
  exact ⟨rfl,by first|assumption|exact Holds.to (by assumption)⟩
theorem search_ct {w : World} {v : Value} {xs : List Int} {x : Int} {L : List HProp} (hl : xs.length ≤ 1000) (hs : ∀ i j,i < j → j < xs.length → xs.getD i 0 < xs.getD j 0) (H : Holds w (arr 3 (Value.int .i64) v xs::L)) :
    CT Try.prog 85 [v,.int .i64 x] w fun u w'=>∃ (i : Nat) (f : Bool),u = .tuple #[.int .i64 (i : Int),.bool f] ∧ i ≤ xs.length ∧ (∀ k,k < i → xs.getD k 0 < x) ∧ (∀ k,i ≤ k → k < xs.length → x ≤ xs.getD k 0) ∧ Holds w' (arr 3 (Value.int .i64) v xs::L):=by
  refine CT.enter (N:=54) Try.func85 rfl rfl rfl rfl ?_
  refine W.seq (fun K0 hK0=>?_)
  refine W.region ?_
  refine O.ex (Ex.assign rfl) rfl ?_
  refine O.ex (Ex.assign rfl) rfl ?_
  refine O.nil ?_
  refine hK0 _ _ _ ?_
  refine W.seq (fun K1 hK1=>?_)
  refine W.region ?_
  refine O.ex (Ex.move rfl) rfl ?_
  refine O.ex (by first|exact Ex.lenR Try.runUnderlying28 rfl|exact Ex.lenIn Try.runUnderlying28 rfl|exact Ex.lenL Try.runUnderlying28 rfl|exact Ex.len rfl Try.runUnderlying28 rfl) rfl ?_
  refine O.ex (Ex.assign rfl) rfl ?_
  refine O.nil ?_
  refine hK1 _ _ _ ?_
  refine W.seq (fun K2 hK2=>?_)
  refine W.region ?_
  refine O.ex (Ex.move rfl) rfl ?_
  refine O.ex (Ex.assign rfl) rfl ?_
  refine O.ex (Ex.assign rfl) rfl ?_
  refine O.nil ?_
  refine hK2 _ _ _ ?_
  refine W.seq (fun K3 hK3=>?_)
  refine W.block ?_
  refine W.loop (σ:=Nat × Nat) (fun z=>[(0,v),(1,.int .i64 x),(6,.int .i64 xs.length),(7,.int .i64 (z.1 : Int)),(8,.int .i64 (z.2 : Int))])
    (fun z ds w=>ds = [] ∧ z.1 ≤ z.2 ∧ z.2 ≤ xs.length ∧ (∀ k,k < z.1 → xs.getD k 0 < x) ∧ (∀ k,z.2 ≤ k → k < xs.length → x ≤ xs.getD k 0) ∧ Holds w (arr 3 (Value.int .i64) v xs::L)) (fun z=>z.2 - z.1) (0,xs.length) ⟨rfl,rfl,rfl,rfl,rfl,trivial⟩ ⟨rfl,by omega,by omega,fun k h=>absurd h (by omega),fun k h1 h2=>absurd h2 (by omega),Holds.to (by assumption)⟩ ?_
  clear H
  rintro ⟨i,j⟩ _ w ⟨rfl,hij,hjn,hlo,hhi,H⟩
  dsimp only at hij hjn hlo hhi H ⊢
  refine W.seq (fun K4 hK4=>?_)
  refine W.seq (fun K5 hK5=>?_)
  refine W.region ?_
  refine O.ex (Ex.move rfl) rfl ?_
  refine O.ex (Ex.move rfl) rfl ?_
  refine O.ex (Ex.lss rfl rfl) rfl ?_
  refine O.nil ?_
  refine hK5 _ _ _ ?_
  first|refine W.cond_p rfl (fun hlt=>?_) (fun hge=>?_)|refine W.cond_b rfl (fun hlt=>?_) (fun hge=>?_)
  · refine W.skip ?_
    refine hK4 _ _ _ ?_
    refine W.block ?_
    refine W.seq (fun K6 hK6=>?_)
    refine W.region ?_
    refine O.ex (Ex.move rfl) rfl ?_
    refine O.ex (Ex.move rfl) rfl ?_
    refine O.ex (by first|exact Ex.addI rfl rfl|exact Ex.add rfl rfl rfl) rfl ?_
    refine O.ex (Ex.convI (r:=((i + j : Nat) : Int)) Try.runUnderlying3 Try.runUnderlying122 rfl (by rw [wrap64]; omega)) rfl ?_
    refine O.ex (Ex.shr64 (i + j) 1 rfl rfl) rfl ?_
    refine O.ex (Ex.convI (r:=(((i + j) / 2 : Nat) : Int)) Try.runUnderlying122 Try.runUnderlying3 rfl (by rw [Nat.pow_one]; exact IntWalk.i64_in _ ⟨by omega,by omega⟩)) rfl ?_
    refine O.ex (Ex.assign rfl) rfl ?_
    refine O.nil ?_
    refine hK6 _ _ _ ?_
    refine W.seq (fun K7 hK7=>?_)
    refine W.region ?_
    obtain ⟨h,hh⟩ : ∃ h,h = (i + j) / 2:=⟨_,rfl⟩
    rw [← hh]
    have h1 : i ≤ h:=by omega
    have h2 : h < j:=by omega
    refine O.ex (Ex.move rfl) rfl ?_
    refine O.ex (Ex.move rfl) rfl ?_
    refine O.ex (by first|exact Ex.idxR Try.runUnderlying28 Try.sizeOf3 rfl rfl|exact Ex.idxIn Try.runUnderlying28 Try.sizeOf3 rfl rfl|exact Ex.idxS Try.runUnderlying28 Try.sizeOf3 rfl rfl|exact Ex.idx Try.runUnderlying28 Try.sizeOf3 rfl rfl (by omega) (by omega)) rfl ?_
    refine O.ex (by first|exact Ex.loadP Try.isAgg3 rfl|exact Ex.loadR Try.isAgg3 rfl|exact Ex.loadIn1 Try.isAgg3 rfl (Holds.to (by assumption))) rfl ?_
    refine O.ex (Ex.move rfl) rfl ?_
    refine O.callF Try.call106 rfl rfl (CT.mono (cmpLess_ct (Holds.to (by assumption))) ?_)
    rintro _ w ⟨rfl,H⟩
    refine O.nil ?_
    refine hK7 _ _ _ ?_
    first|refine W.cond_p rfl (fun hle=>?_) (fun hgt=>?_)|refine W.cond_b rfl (fun hle=>?_) (fun hgt=>?_)
    · refine W.region ?_
      refine O.ex (Ex.move rfl) rfl ?_
      refine O.ex (by first|exact Ex.addI rfl rfl|exact Ex.add rfl rfl rfl) rfl ?_
      refine O.ex (Ex.assign rfl) rfl ?_
      refine O.nil ?_
      rw [Int.toNat_natCast] at *
      first
      | (refine ⟨(h + 1,j),⟨rfl,rfl,rfl,rfl,rfl,trivial⟩,⟨rfl,by omega,hjn,fun k hk=>?_,hhi,Holds.to (by assumption)⟩,by dsimp only; omega⟩
         by_cases e : k = h
         · rw [e]; exact hle
         · have:=hs k h (by omega) (by omega)
           have hle' : xs.getD h 0 < x:=hle
           omega)
      | (refine ⟨(i,h),⟨rfl,rfl,rfl,rfl,rfl,trivial⟩,⟨rfl,by omega,by omega,hlo,fun k hk1 hk2=>?_,Holds.to (by assumption)⟩,by dsimp only; omega⟩
         have hgt' : ¬ xs.getD h 0 < x:=hgt
         by_cases e : k = h
         · rw [e]; omega
         · have:=hs h k (by omega) (by omega)
           omega)
    · refine W.region ?_
      refine O.ex (Ex.move rfl) rfl ?_
      refine O.ex (Ex.assign rfl) rfl ?_
      refine O.nil ?_
      rw [Int.toNat_natCast] at *
      first
      | (refine ⟨(h + 1,j),⟨rfl,rfl,rfl,rfl,rfl,trivial⟩,⟨rfl,by omega,hjn,fun k hk=>?_,hhi,Holds.to (by assumption)⟩,by dsimp only; omega⟩
         by_cases e : k = h
         · rw [e]; exact hle
         · have:=hs k h (by omega) (by omega)
           have hle' : xs.getD h 0 < x:=hle
           omega)
      | (refine ⟨(i,h),⟨rfl,rfl,rfl,rfl,rfl,trivial⟩,⟨rfl,by omega,by omega,hlo,fun k hk1 hk2=>?_,Holds.to (by assumption)⟩,by dsimp only; omega⟩
         have hgt' : ¬ xs.getD h 0 < x:=hgt
         by_cases e : k = h
         · rw [e]; omega
         · have:=hs h k (by omega) (by omega)
           omega)
  · refine W.exit ?_
    refine hK3 _ _ _ ?_
    refine W.seq (fun K8 hK8=>?_)
    refine W.region ?_
    refine O.ex (Ex.move rfl) rfl ?_
    refine O.ex (Ex.move rfl) rfl ?_
    refine O.ex (Ex.move rfl) rfl ?_
    refine O.ex (Ex.lss rfl rfl) rfl ?_
    refine O.ex (Ex.move rfl) rfl ?_
    first|refine O.split_p (t:=35) rfl (fun hA=>?_) (fun hB=>?_)|refine O.split (t:=35) rfl (fun hA=>?_) (fun hB=>?_)
    · refine O.guard_t rfl rfl ?_
      refine O.ex (Ex.move rfl) rfl ?_
      refine O.guard_t rfl rfl ?_
      refine O.ex (Ex.move rfl) rfl ?_
      refine O.guard_t rfl rfl ?_
      refine O.ex (by first|exact Ex.idxR Try.runUnderlying28 Try.sizeOf3 rfl rfl|exact Ex.idxIn Try.runUnderlying28 Try.sizeOf3 rfl rfl|exact Ex.idxS Try.runUnderlying28 Try.sizeOf3 rfl rfl|exact Ex.idx Try.runUnderlying28 Try.sizeOf3 rfl rfl (by omega) (by omega)) rfl ?_
      refine O.guard_t rfl rfl ?_
      refine O.ex (by first|exact Ex.loadP Try.isAgg3 rfl|exact Ex.loadR Try.isAgg3 rfl|exact Ex.loadIn1 Try.isAgg3 rfl (Holds.to (by assumption))) rfl ?_
      refine O.guard_t rfl rfl ?_
      refine O.ex (Ex.move rfl) rfl ?_
      refine O.guard_t rfl rfl ?_
      refine O.ex (Ex.eqlI rfl rfl) rfl ?_
      refine O.guard_t rfl rfl ?_
      refine O.ex (Ex.move rfl) rfl ?_
      first|refine O.split_p (t:=42) rfl (fun hC=>?_) (fun hD=>?_)|refine O.split (t:=42) rfl (fun hC=>?_) (fun hD=>?_)
      · refine O.guard_f rfl rfl rfl rfl ?_
        refine O.guard_f rfl rfl rfl rfl ?_
        refine O.guard_f rfl rfl rfl rfl ?_
        refine O.guard_f rfl rfl rfl rfl ?_
        refine O.guard_f rfl rfl rfl rfl ?_
        refine O.guard_f rfl rfl rfl rfl ?_
        refine O.guard_u rfl rfl rfl ?_
        refine O.guard_u rfl rfl rfl ?_
        refine O.guard_f rfl rfl rfl rfl ?_
        refine O.guard_t rfl rfl ?_
        refine O.ex (Ex.pick_t rfl rfl) rfl ?_
        refine O.ex (Ex.pick_t rfl rfl) rfl ?_
        refine O.ex (Ex.assign rfl) rfl ?_
        refine O.ex (Ex.assign rfl) rfl ?_
        refine O.nil ?_
        refine hK8 _ _ _ ?_
        refine W.ret ?_
        try dsimp only [thenQ,blockQ,retQ]
        first|refine ⟨_,⟨_,_,rfl,rfl,_,_,rfl,rfl,rfl⟩,?_⟩|(refine retD_mark ?_; intro w H; refine ⟨_,⟨_,_,rfl,rfl,_,_,rfl,rfl,rfl⟩,?_⟩)|(refine retD_mark2 ?_; intro w H; refine ⟨_,⟨_,_,rfl,rfl,_,_,rfl,rfl,rfl⟩,?_⟩)
        have e : i = j:=by omega
        exact ⟨i,_,rfl,by omega,hlo,fun k h1 h2=>hhi k (by omega) h2,Holds.to (by assumption)⟩
      · refine O.guard_t rfl rfl ?_
        refine O.ex (Ex.move rfl) rfl ?_
        refine O.guard_t rfl rfl ?_
        refine O.ex (Ex.move rfl) rfl ?_
        refine O.guard_t rfl rfl ?_
        refine O.ex (by first|exact Ex.idxR Try.runUnderlying28 Try.sizeOf3 rfl rfl|exact Ex.idxIn Try.runUnderlying28 Try.sizeOf3 rfl rfl|exact Ex.idxS Try.runUnderlying28 Try.sizeOf3 rfl rfl|exact Ex.idx Try.runUnderlying28 Try.sizeOf3 rfl rfl (by omega) (by omega)) rfl ?_
        refine O.guard_t rfl rfl ?_
        refine O.ex (by first|exact Ex.loadP Try.isAgg3 rfl|exact Ex.loadR Try.isAgg3 rfl|exact Ex.loadIn1 Try.isAgg3 rfl (Holds.to (by assumption))) rfl ?_
        refine O.guard_t rfl rfl ?_
        refine O.callF Try.call107 rfl rfl (CT.mono (slNan_ct (Holds.to (by assumption))) ?_)
        rintro _ w ⟨rfl,H⟩
        refine O.guard_t rfl rfl ?_
        refine O.ex (Ex.move rfl) rfl ?_
        refine O.known (t:=48) (c:=false) rfl (by first|rfl|decide|(simp; done)|omega) ?_
        refine O.guard_f rfl rfl rfl rfl ?_
        refine O.guard_f rfl rfl rfl rfl ?_
        refine O.guard_t rfl rfl ?_
        refine O.ex (Ex.pick_f rfl rfl) rfl ?_
        refine O.guard_t rfl rfl ?_
        refine O.ex (Ex.pick_f rfl rfl) rfl ?_
        refine O.ex (Ex.pick_t rfl rfl) rfl ?_
        refine O.ex (Ex.assign rfl) rfl ?_
        refine O.ex (Ex.assign rfl) rfl ?_
        refine O.nil ?_
        refine hK8 _ _ _ ?_
        refine W.ret ?_
        try dsimp only [thenQ,blockQ,retQ]
        first|refine ⟨_,⟨_,_,rfl,rfl,_,_,rfl,rfl,rfl⟩,?_⟩|(refine retD_mark ?_; intro w H; refine ⟨_,⟨_,_,rfl,rfl,_,_,rfl,rfl,rfl⟩,?_⟩)|(refine retD_mark2 ?_; intro w H; refine ⟨_,⟨_,_,rfl,rfl,_,_,rfl,rfl,rfl⟩,?_⟩)
        have e : i = j:=by omega
        exact ⟨i,_,rfl,by omega,hlo,fun k h1 h2=>hhi k (by omega) h2,Holds.to (by assumption)⟩
    · refine O.guard_f rfl rfl rfl rfl ?_
      refine O.guard_f rfl rfl rfl rfl ?_
      refine O.guard_f rfl rfl rfl rfl ?_
      refine O.guard_f rfl rfl rfl rfl ?_
      refine O.guard_f rfl rfl rfl rfl ?_
      refine O.guard_f rfl rfl rfl rfl ?_
      refine O.guard_f rfl rfl rfl rfl ?_
      refine O.guard_u rfl rfl rfl ?_
      refine O.guard_u rfl rfl rfl ?_
      refine O.guard_u rfl rfl rfl ?_
      refine O.guard_u rfl rfl rfl ?_
      refine O.guard_u rfl rfl rfl ?_
      refine O.guard_u rfl rfl rfl ?_
      refine O.guard_u rfl rfl rfl ?_
      refine O.guard_u rfl rfl rfl ?_
      refine O.guard_u rfl rfl rfl ?_
      refine O.guard_f rfl rfl rfl rfl ?_
      refine O.ex (Ex.pick_f rfl rfl) rfl ?_
      refine O.ex (Ex.assign rfl) rfl ?_
      refine O.ex (Ex.assign rfl) rfl ?_
      refine O.nil ?_
      refine hK8 _ _ _ ?_
      refine W.ret ?_
      try dsimp only [thenQ,blockQ,retQ]
      first|refine ⟨_,⟨_,_,rfl,rfl,_,_,rfl,rfl,rfl⟩,?_⟩|(refine retD_mark ?_; intro w H; refine ⟨_,⟨_,_,rfl,rfl,_,_,rfl,rfl,rfl⟩,?_⟩)|(refine retD_mark2 ?_; intro w H; refine ⟨_,⟨_,_,rfl,rfl,_,_,rfl,rfl,rfl⟩,?_⟩)
      have e : i = j:=by omega
      exact ⟨i,_,rfl,by omega,hlo,fun k h1 h2=>hhi k (by omega) h2,Holds.to (by assumption)⟩
end Go.Proofs.Ytliofdfhimmjmaa
