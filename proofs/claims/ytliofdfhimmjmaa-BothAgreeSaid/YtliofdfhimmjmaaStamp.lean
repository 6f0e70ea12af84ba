import Derived.Test.YtliofdfhimmjmaaFacts
namespace Go.Proofs.Ytliofdfhimmjmaa
open Go.Rr
set_option linter.unusedVariables false
/-- What a row holds: what is at each place, when it was set, the time, and how many. -/
structure RowM (α : Type) where
  v : List α
  wh : List Int
  now : Int
  n : Int
def RowM.has {α : Type} (R : RowM α) (i : Int) : Prop:=(0 ≤ i ∧ i < R.v.length) ∧ R.wh.getD i.toNat 0 = R.now
instance {α : Type} (R : RowM α) (i : Int) : Decidable (R.has i):=by unfold RowM.has; exact inferInstance
def RowM.set {α : Type} (R : RowM α) (i : Int) (x : α) : RowM α :=
  if 0 ≤ i ∧ i < R.v.length then { v:=R.v.set i.toNat x,wh:=R.wh.set i.toNat R.now,now:=R.now,n:=if R.has i then R.n else R.n + 1 } else R
def RowM.clear {α : Type} (R : RowM α) : RowM α :=
  if R.now = 255 then { v:=R.v,wh:=List.replicate R.wh.length 0,now:=1,n:=0 } else { v:=R.v,wh:=R.wh,now:=R.now + 1,n:=0 }
def RowM.new {α : Type} (z : α) (n : Nat) : RowM α:={ v:=List.replicate n z,wh:=List.replicate n 0,now:=1,n:=0 }
def RowI (r : Nat) (R : RowM Int) : HProp:=hex fun vv=>hex fun wv=>star [pt r (.cells #[vv,wv,.int .u8 R.now,.int .i64 R.n] 136 (0,0)),arr 3 (Value.int .i64) vv R.v,arr 5 (Value.int .u8) wv R.wh]
theorem rowI_open {w : World} {r : Nat} {R : RowM Int} {L : List HProp} : Holds w (RowI r R::L) ↔ ∃ vv wv,Holds w (pt r (.cells #[vv,wv,.int .u8 R.now,.int .i64 R.n] 136 (0,0))::arr 3 (Value.int .i64) vv R.v::arr 5 (Value.int .u8) wv R.wh::L):=by
  unfold RowI
  simp only [Holds.hex,Holds.star,List.cons_append,List.nil_append]
theorem thereI_ct {w : World} {r : Nat} {vv wv a b : Value} {v : List Int} {i : Int} {L : List HProp} (H : Holds w (pt r (.cells #[vv,wv,a,b] 136 (0,0))::arr 3 (Value.int .i64) vv v::L)) :
    CT Try.prog 104 [.pointer (some ⟨r,0,none⟩),.int .i64 i] w fun u w'=>u = .bool (decide (0 ≤ i ∧ i < v.length)) ∧ Holds w' (pt r (.cells #[vv,wv,a,b] 136 (0,0))::arr 3 (Value.int .i64) vv v::L):=by
  refine CT.enter (N:=16) Try.func104 rfl rfl rfl rfl ?_
  refine W.seq (fun K0 hK0=>?_)
  refine W.region ?_
  refine O.ex (Ex.assign rfl) rfl ?_
  refine O.nil ?_
  refine hK0 _ _ _ ?_
  refine W.seq (fun K1 hK1=>?_)
  refine W.region ?_
  refine O.ex (Ex.move rfl) rfl ?_
  refine O.ex (Ex.geq rfl rfl) rfl ?_
  refine O.ex (Ex.move rfl) rfl ?_
  first|refine O.split_p (t:=7) rfl (fun h7=>?_) (fun h7=>?_)|refine O.split (t:=7) rfl (fun h7=>?_) (fun h7=>?_)
  · refine O.guard_t rfl rfl ?_
    refine O.ex (Ex.move rfl) rfl ?_
    refine O.guard_t rfl rfl ?_
    refine O.ex (Ex.move rfl) rfl ?_
    refine O.guard_t rfl rfl ?_
    refine O.ex (by first|exact Ex.nilPtr rfl|exact Ex.nilFunc rfl|exact Ex.nilYield rfl) rfl ?_
    refine O.guard_t rfl rfl ?_
    refine O.ex (by first|exact Ex.field0 fld136_0 rfl|exact Ex.field fld136_0 rfl|exact Ex.fieldS fld136_0 rfl) rfl ?_
    refine O.guard_t rfl rfl ?_
    refine O.ex (by first|exact Ex.loadP Try.isAgg28 rfl|exact Ex.loadR Try.isAgg28 rfl|exact Ex.loadIn1 Try.isAgg28 rfl (Holds.to (by assumption))) rfl ?_
    refine O.guard_t rfl rfl ?_
    refine O.ex (by first|exact Ex.lenR Try.runUnderlying28 rfl|exact Ex.lenIn Try.runUnderlying28 rfl|exact Ex.lenL Try.runUnderlying28 rfl|exact Ex.len rfl Try.runUnderlying28 rfl) rfl ?_
    refine O.guard_t rfl rfl ?_
    refine O.ex (Ex.lss rfl rfl) rfl ?_
    refine O.ex (Ex.pick_t rfl rfl) rfl ?_
    refine O.ex (Ex.assign rfl) rfl ?_
    refine O.nil ?_
    refine hK1 _ _ _ ?_
    refine W.ret ?_
    try dsimp only [thenQ,blockQ,retQ]
    first|refine ⟨_,⟨_,_,rfl,rfl,rfl⟩,?_⟩|(refine retD_mark ?_; intro w H; refine ⟨_,⟨_,_,rfl,rfl,rfl⟩,?_⟩)|(refine retD_mark2 ?_; intro w H; refine ⟨_,⟨_,_,rfl,rfl,rfl⟩,?_⟩)
    exact ⟨by simp [*,oneOf],H⟩
  · refine O.guard_f rfl rfl rfl rfl ?_
    refine O.guard_f rfl rfl rfl rfl ?_
    refine O.guard_f rfl rfl rfl rfl ?_
    refine O.guard_f rfl rfl rfl rfl ?_
    refine O.guard_f rfl rfl rfl rfl ?_
    refine O.guard_f rfl rfl rfl rfl ?_
    refine O.guard_f rfl rfl rfl rfl ?_
    refine O.ex (Ex.pick_f rfl rfl) rfl ?_
    refine O.ex (Ex.assign rfl) rfl ?_
    refine O.nil ?_
    refine hK1 _ _ _ ?_
    refine W.ret ?_
    try dsimp only [thenQ,blockQ,retQ]
    first|refine ⟨_,⟨_,_,rfl,rfl,rfl⟩,?_⟩|(refine retD_mark ?_; intro w H; refine ⟨_,⟨_,_,rfl,rfl,rfl⟩,?_⟩)|(refine retD_mark2 ?_; intro w H; refine ⟨_,⟨_,_,rfl,rfl,rfl⟩,?_⟩)
    exact ⟨by simp [*,oneOf],H⟩
theorem isI_ct {w : World} {r : Nat} {vv wv b : Value} {now : Int} {wh : List Int} {i : Int} {L : List HProp} (H : Holds w (pt r (.cells #[vv,wv,.int .u8 now,b] 136 (0,0))::arr 5 (Value.int .u8) wv wh::L)) (h0 : 0 ≤ i) (h1 : i < wh.length) :
    CT Try.prog 105 [.pointer (some ⟨r,0,none⟩),.int .i64 i] w fun u w'=>u = .bool (decide (wh.getD i.toNat 0 = now)) ∧ Holds w' (pt r (.cells #[vv,wv,.int .u8 now,b] 136 (0,0))::arr 5 (Value.int .u8) wv wh::L):=by
  refine CT.enter (N:=17) Try.func105 rfl rfl rfl rfl ?_
  refine W.seq (fun K0 hK0=>?_)
  refine W.region ?_
  refine O.ex (Ex.assign rfl) rfl ?_
  refine O.nil ?_
  refine hK0 _ _ _ ?_
  refine W.seq (fun K1 hK1=>?_)
  refine W.drawTo _ (.take 0 (.take 1 (.take 2 (.take 3 (.take 4 (.take 5 (.take 6 (.take 7 (.take 8 (.take 9 (.take 10 (.take 11 (.take 12 .nil))))))))))))) (mixed) (fun _ _ _ _ h=>h) (by assumption) (PP.refl _) (by decide +kernel) (fun w H=>?_)
  refine OQ.ex rfl (fun w H=>(Ex.move rfl)) rfl ?_
  refine OQ.ex rfl (fun w H=>(by first|exact Ex.nilPtr rfl|exact Ex.nilFunc rfl|exact Ex.nilYield rfl)) rfl ?_
  refine OQ.ex rfl (fun w H=>(by first|exact Ex.field0 fld136_1 rfl|exact Ex.field fld136_1 rfl|exact Ex.fieldS fld136_1 rfl)) rfl ?_
  refine OQ.ex rfl (fun w H=>(by first|exact Ex.loadP Try.isAgg134 rfl|exact Ex.loadR Try.isAgg134 rfl|exact Ex.loadIn1 Try.isAgg134 rfl (Holds.to (by assumption)))) rfl ?_
  refine OQ.ex rfl (fun w H=>(Ex.move rfl)) rfl ?_
  refine OQ.ex rfl (fun w H=>(by first|exact Ex.idxR Try.runUnderlying134 Try.sizeOf5 rfl rfl|exact Ex.idxIn Try.runUnderlying134 Try.sizeOf5 rfl rfl|exact Ex.idxS Try.runUnderlying134 Try.sizeOf5 rfl rfl|exact Ex.idx Try.runUnderlying134 Try.sizeOf5 rfl rfl (by omega) (by omega))) rfl ?_
  refine OQ.ex rfl (fun w H=>(by first|exact Ex.loadP Try.isAgg5 rfl|exact Ex.loadR Try.isAgg5 rfl|exact Ex.loadIn1 Try.isAgg5 rfl (Holds.to (by assumption)))) rfl ?_
  refine OQ.ex rfl (fun w H=>(Ex.move rfl)) rfl ?_
  refine OQ.ex rfl (fun w H=>(by first|exact Ex.nilPtr rfl|exact Ex.nilFunc rfl|exact Ex.nilYield rfl)) rfl ?_
  refine OQ.ex rfl (fun w H=>(by first|exact Ex.field0 fld136_2 rfl|exact Ex.field fld136_2 rfl|exact Ex.fieldS fld136_2 rfl)) rfl ?_
  refine OQ.ex rfl (fun w H=>(by first|exact Ex.loadP Try.isAgg5 rfl|exact Ex.loadR Try.isAgg5 rfl|exact Ex.loadIn1 Try.isAgg5 rfl (Holds.to (by assumption)))) rfl ?_
  refine OQ.ex rfl (fun w H=>(Ex.eqlI rfl rfl)) rfl ?_
  refine OQ.ex rfl (fun w H=>(Ex.assign rfl)) rfl ?_
  refine OQ.done ?_
  refine hK1 _ _ _ ?_
  refine W.ret ?_
  try dsimp only [thenQ,blockQ,retQ]
  first|refine ⟨_,⟨_,_,rfl,rfl,rfl⟩,?_⟩|(refine retD_mark ?_; intro w H; refine ⟨_,⟨_,_,rfl,rfl,rfl⟩,?_⟩)|(refine retD_mark2 ?_; intro w H; refine ⟨_,⟨_,_,rfl,rfl,rfl⟩,?_⟩)
  exact ⟨rfl,by first|assumption|exact Holds.to (by assumption)⟩
theorem setI_ct {w : World} {r : Nat} {R : RowM Int} {i : Int} {x : Int} {L : List HProp} (H : Holds w (RowI r R::L)) (hl : R.wh.length = R.v.length) (hn0 : 0 ≤ R.n) (hn1 : R.n ≤ 100) :
    CT Try.prog 101 [.pointer (some ⟨r,0,none⟩),.int .i64 i,.int .i64 x] w fun u w'=>u = .int .i64 (if 0 ≤ i ∧ i < R.v.length then 0 else 1) ∧ Holds w' (RowI r (R.set i x)::L):=by
  obtain ⟨vv,wv,H⟩:=rowI_open.1 H
  refine CT.enter (N:=39) Try.func101 rfl rfl rfl rfl ?_
  refine W.seq (fun K0 hK0=>?_)
  refine W.region ?_
  refine O.ex (Ex.assign rfl) rfl ?_
  refine O.nil ?_
  refine hK0 _ _ _ ?_
  refine W.seq (fun K1 hK1=>?_)
  refine W.seq (fun K2 hK2=>?_)
  refine W.region ?_
  refine O.ex (Ex.move rfl) rfl ?_
  refine O.ex (Ex.move rfl) rfl ?_
  refine O.callF Try.call104 rfl rfl (CT.mono (thereI_ct (Holds.to (by assumption))) ?_)
  rintro _ w ⟨rfl,H⟩
  refine O.ex (by first|exact Ex.notD rfl|exact Ex.not rfl) rfl ?_
  refine O.nil ?_
  refine hK2 _ _ _ ?_
  first|refine W.cond_p rfl (fun hno=>?_) (fun hyes=>?_)|refine W.cond_b rfl (fun hno=>?_) (fun hyes=>?_)
  · refine W.seq (fun K3 hK3=>?_)
    refine W.region ?_
    refine O.ex (Ex.assign rfl) rfl ?_
    refine O.nil ?_
    refine hK3 _ _ _ ?_
    refine W.ret ?_
    try dsimp only [thenQ,blockQ,retQ]
    first|refine ⟨_,⟨_,_,rfl,rfl,rfl⟩,?_⟩|(refine retD_mark ?_; intro w H; refine ⟨_,⟨_,_,rfl,rfl,rfl⟩,?_⟩)|(refine retD_mark2 ?_; intro w H; refine ⟨_,⟨_,_,rfl,rfl,rfl⟩,?_⟩)
    first
    | (refine ⟨by simp only [oneOf]; rw [if_neg (by omega)],?_⟩
       rw [show R.set i x = R from if_neg (by omega)]
       exact rowI_open.2 ⟨vv,wv,Holds.to (by assumption)⟩)
    | (refine ⟨by simp only [oneOf]; rw [if_pos (by omega)],?_⟩
       rw [show R.set i x = { v:=R.v.set i.toNat x,wh:=R.wh.set i.toNat R.now,now:=R.now,n:=R.n + 1 } from by unfold RowM.set; rw [if_pos (by omega),if_neg (by unfold RowM.has; omega)]]
       exact rowI_open.2 ⟨vv,wv,Holds.to (by assumption)⟩)
    | (refine ⟨by simp only [oneOf]; rw [if_pos (by omega)],?_⟩
       rw [show R.set i x = { v:=R.v.set i.toNat x,wh:=R.wh.set i.toNat R.now,now:=R.now,n:=R.n } from by unfold RowM.set; rw [if_pos (by omega),if_pos (by unfold RowM.has; omega)]]
       exact rowI_open.2 ⟨vv,wv,Holds.to (by assumption)⟩)
  · refine W.skip ?_
    refine hK1 _ _ _ ?_
    refine W.seq (fun K4 hK4=>?_)
    refine W.seq (fun K5 hK5=>?_)
    refine W.region ?_
    refine O.ex (Ex.move rfl) rfl ?_
    refine O.ex (Ex.move rfl) rfl ?_
    refine O.callF Try.call105 rfl rfl (CT.mono (isI_ct (Holds.to (by assumption)) (by omega) (by omega)) ?_)
    rintro _ w ⟨rfl,H⟩
    refine O.ex (by first|exact Ex.notD rfl|exact Ex.not rfl) rfl ?_
    refine O.nil ?_
    refine hK5 _ _ _ ?_
    first|refine W.cond_p rfl (fun hnew=>?_) (fun hold=>?_)|refine W.cond_b rfl (fun hnew=>?_) (fun hold=>?_)
    · refine W.region ?_
      refine O.ex (Ex.move rfl) rfl ?_
      refine O.ex (by first|exact Ex.nilPtr rfl|exact Ex.nilFunc rfl|exact Ex.nilYield rfl) rfl ?_
      refine O.ex (by first|exact Ex.field0 fld136_3 rfl|exact Ex.field fld136_3 rfl|exact Ex.fieldS fld136_3 rfl) rfl ?_
      refine O.ex (by first|exact Ex.loadP Try.isAgg3 rfl|exact Ex.loadR Try.isAgg3 rfl|exact Ex.loadIn1 Try.isAgg3 rfl (Holds.to (by assumption))) rfl ?_
      refine O.ex (by first|exact Ex.addI rfl rfl|exact Ex.add rfl rfl rfl) rfl ?_
      refine O.ex (by first|exact Ex.nilPtr rfl|exact Ex.nilFunc rfl|exact Ex.nilYield rfl) rfl ?_
      refine O.ex (by first|exact Ex.field0 fld136_3 rfl|exact Ex.field fld136_3 rfl|exact Ex.fieldS fld136_3 rfl) rfl ?_
      first|refine O.storeP Try.sizeOf3 rfl rfl (fun w H=>?_)|refine O.storeR Try.sizeOf3 rfl rfl (fun w H=>?_)
      refine O.nil ?_
      refine hK4 _ _ _ ?_
      refine W.seq (fun K6 hK6=>?_)
      have s1:=arr_sl (e:=Value.int .i64) (v:=vv) (xs:=R.v) (Holds.to (by assumption)) (by omega)
      have s2:=arr_sl (e:=Value.int .u8) (v:=wv) (xs:=R.wh) (Holds.to (by assumption)) (by omega)
      refine W.drawTo (pt r _::[]) (.take 0 (.take 1 (.take 2 (.take 3 (.take 4 (.take 5 (.take 6 (.take 7 (.take 8 (.take 9 (.take 10 (.take 11 (.take 12 (.take 13 (.take 14 (.take 15 (.one 16 (.take 17 (.one 18 .nil))))))))))))))))))) (mixed) (fun _ _ _ _ h=>h) (by assumption) PP.auto (by decide +kernel) (fun w H=>?_)
      refine OQ.ex rfl (fun w H=>(Ex.move rfl)) rfl ?_
      refine OQ.ex rfl (fun w H=>(by first|exact Ex.nilPtr rfl|exact Ex.nilFunc rfl|exact Ex.nilYield rfl)) rfl ?_
      refine OQ.ex rfl (fun w H=>(by first|exact Ex.field0 fld136_0 rfl|exact Ex.field fld136_0 rfl|exact Ex.fieldS fld136_0 rfl)) rfl ?_
      refine OQ.ex rfl (fun w H=>(by first|exact Ex.loadP Try.isAgg28 rfl|exact Ex.loadR Try.isAgg28 rfl|exact Ex.loadIn1 Try.isAgg28 rfl (Holds.to (by assumption)))) rfl ?_
      refine OQ.ex rfl (fun w H=>(Ex.move rfl)) rfl ?_
      refine OQ.ex rfl (fun w H=>(Ex.move rfl)) rfl ?_
      refine OQ.ex rfl (fun w H=>(by first|exact Ex.nilPtr rfl|exact Ex.nilFunc rfl|exact Ex.nilYield rfl)) rfl ?_
      refine OQ.ex rfl (fun w H=>(by first|exact Ex.field0 fld136_1 rfl|exact Ex.field fld136_1 rfl|exact Ex.fieldS fld136_1 rfl)) rfl ?_
      refine OQ.ex rfl (fun w H=>(by first|exact Ex.loadP Try.isAgg134 rfl|exact Ex.loadR Try.isAgg134 rfl|exact Ex.loadIn1 Try.isAgg134 rfl (Holds.to (by assumption)))) rfl ?_
      refine OQ.ex rfl (fun w H=>(Ex.move rfl)) rfl ?_
      refine OQ.ex rfl (fun w H=>(Ex.move rfl)) rfl ?_
      refine OQ.ex rfl (fun w H=>(Ex.move rfl)) rfl ?_
      refine OQ.ex rfl (fun w H=>(by first|exact Ex.nilPtr rfl|exact Ex.nilFunc rfl|exact Ex.nilYield rfl)) rfl ?_
      refine OQ.ex rfl (fun w H=>(by first|exact Ex.field0 fld136_2 rfl|exact Ex.field fld136_2 rfl|exact Ex.fieldS fld136_2 rfl)) rfl ?_
      refine OQ.ex rfl (fun w H=>(by first|exact Ex.loadP Try.isAgg5 rfl|exact Ex.loadR Try.isAgg5 rfl|exact Ex.loadIn1 Try.isAgg5 rfl (Holds.to (by assumption)))) rfl ?_
      refine OQ.ex rfl (fun w H=>(by first|exact Ex.idxR Try.runUnderlying28 Try.sizeOf3 rfl rfl|exact Ex.idxIn Try.runUnderlying28 Try.sizeOf3 rfl rfl|exact Ex.idxS Try.runUnderlying28 Try.sizeOf3 rfl rfl|exact Ex.idx Try.runUnderlying28 Try.sizeOf3 rfl rfl (by omega) (by omega))) rfl ?_
      refine OQ.step rfl ?_
      first|refine O.storeP Try.sizeOf3 rfl rfl (fun w H=>?_)|refine O.storeR Try.sizeOf3 rfl rfl (fun w H=>?_)
      refine O.thenNil ⟨(by first|exact Holds.to (by assumption)|assumption),?_⟩
      refine OQ.ex rfl (fun w H=>(by first|exact Ex.idxR Try.runUnderlying134 Try.sizeOf5 rfl rfl|exact Ex.idxIn Try.runUnderlying134 Try.sizeOf5 rfl rfl|exact Ex.idxS Try.runUnderlying134 Try.sizeOf5 rfl rfl|exact Ex.idx Try.runUnderlying134 Try.sizeOf5 rfl rfl (by omega) (by omega))) rfl ?_
      refine OQ.last rfl (by decide +kernel) ?_
      first|refine O.storeP Try.sizeOf5 rfl rfl (fun w H=>?_)|refine O.storeR Try.sizeOf5 rfl rfl (fun w H=>?_)
      refine O.nil ?_
      refine hK6 _ _ _ ?_
      refine W.seq (fun K7 hK7=>?_)
      refine W.region ?_
      refine O.ex (Ex.assign rfl) rfl ?_
      refine O.nil ?_
      refine hK7 _ _ _ ?_
      refine W.ret ?_
      try dsimp only [thenQ,blockQ,retQ]
      first|refine ⟨_,⟨_,_,rfl,rfl,rfl⟩,?_⟩|(refine retD_mark ?_; intro w H; refine ⟨_,⟨_,_,rfl,rfl,rfl⟩,?_⟩)|(refine retD_mark2 ?_; intro w H; refine ⟨_,⟨_,_,rfl,rfl,rfl⟩,?_⟩)
      first
      | (refine ⟨by simp only [oneOf]; rw [if_neg (by omega)],?_⟩
         rw [show R.set i x = R from if_neg (by omega)]
         exact rowI_open.2 ⟨vv,wv,Holds.to (by assumption)⟩)
      | (refine ⟨by simp only [oneOf]; rw [if_pos (by omega)],?_⟩
         rw [show R.set i x = { v:=R.v.set i.toNat x,wh:=R.wh.set i.toNat R.now,now:=R.now,n:=R.n + 1 } from by unfold RowM.set; rw [if_pos (by omega),if_neg (by unfold RowM.has; omega)]]
         exact rowI_open.2 ⟨vv,wv,Holds.to (by assumption)⟩)
      | (refine ⟨by simp only [oneOf]; rw [if_pos (by omega)],?_⟩
         rw [show R.set i x = { v:=R.v.set i.toNat x,wh:=R.wh.set i.toNat R.now,now:=R.now,n:=R.n } from by unfold RowM.set; rw [if_pos (by omega),if_pos (by unfold RowM.has; omega)]]
         exact rowI_open.2 ⟨vv,wv,Holds.to (by assumption)⟩)
    · refine W.skip ?_
      refine hK4 _ _ _ ?_
      refine W.seq (fun K8 hK8=>?_)
      have s1:=arr_sl (e:=Value.int .i64) (v:=vv) (xs:=R.v) (Holds.to (by assumption)) (by omega)
      have s2:=arr_sl (e:=Value.int .u8) (v:=wv) (xs:=R.wh) (Holds.to (by assumption)) (by omega)
      refine W.drawTo (pt r _::[]) (.take 0 (.take 1 (.take 2 (.take 3 (.take 4 (.take 5 (.take 6 (.take 7 (.take 8 (.take 9 (.take 10 (.take 11 (.take 12 (.take 13 (.take 14 (.take 15 (.one 16 (.take 17 (.one 18 .nil))))))))))))))))))) (mixed) (fun _ _ _ _ h=>h) (by assumption) PP.auto (by decide +kernel) (fun w H=>?_)
      refine OQ.ex rfl (fun w H=>(Ex.move rfl)) rfl ?_
      refine OQ.ex rfl (fun w H=>(by first|exact Ex.nilPtr rfl|exact Ex.nilFunc rfl|exact Ex.nilYield rfl)) rfl ?_
      refine OQ.ex rfl (fun w H=>(by first|exact Ex.field0 fld136_0 rfl|exact Ex.field fld136_0 rfl|exact Ex.fieldS fld136_0 rfl)) rfl ?_
      refine OQ.ex rfl (fun w H=>(by first|exact Ex.loadP Try.isAgg28 rfl|exact Ex.loadR Try.isAgg28 rfl|exact Ex.loadIn1 Try.isAgg28 rfl (Holds.to (by assumption)))) rfl ?_
      refine OQ.ex rfl (fun w H=>(Ex.move rfl)) rfl ?_
      refine OQ.ex rfl (fun w H=>(Ex.move rfl)) rfl ?_
      refine OQ.ex rfl (fun w H=>(by first|exact Ex.nilPtr rfl|exact Ex.nilFunc rfl|exact Ex.nilYield rfl)) rfl ?_
      refine OQ.ex rfl (fun w H=>(by first|exact Ex.field0 fld136_1 rfl|exact Ex.field fld136_1 rfl|exact Ex.fieldS fld136_1 rfl)) rfl ?_
      refine OQ.ex rfl (fun w H=>(by first|exact Ex.loadP Try.isAgg134 rfl|exact Ex.loadR Try.isAgg134 rfl|exact Ex.loadIn1 Try.isAgg134 rfl (Holds.to (by assumption)))) rfl ?_
      refine OQ.ex rfl (fun w H=>(Ex.move rfl)) rfl ?_
      refine OQ.ex rfl (fun w H=>(Ex.move rfl)) rfl ?_
      refine OQ.ex rfl (fun w H=>(Ex.move rfl)) rfl ?_
      refine OQ.ex rfl (fun w H=>(by first|exact Ex.nilPtr rfl|exact Ex.nilFunc rfl|exact Ex.nilYield rfl)) rfl ?_
      refine OQ.ex rfl (fun w H=>(by first|exact Ex.field0 fld136_2 rfl|exact Ex.field fld136_2 rfl|exact Ex.fieldS fld136_2 rfl)) rfl ?_
      refine OQ.ex rfl (fun w H=>(by first|exact Ex.loadP Try.isAgg5 rfl|exact Ex.loadR Try.isAgg5 rfl|exact Ex.loadIn1 Try.isAgg5 rfl (Holds.to (by assumption)))) rfl ?_
      refine OQ.ex rfl (fun w H=>(by first|exact Ex.idxR Try.runUnderlying28 Try.sizeOf3 rfl rfl|exact Ex.idxIn Try.runUnderlying28 Try.sizeOf3 rfl rfl|exact Ex.idxS Try.runUnderlying28 Try.sizeOf3 rfl rfl|exact Ex.idx Try.runUnderlying28 Try.sizeOf3 rfl rfl (by omega) (by omega))) rfl ?_
      refine OQ.step rfl ?_
      first|refine O.storeP Try.sizeOf3 rfl rfl (fun w H=>?_)|refine O.storeR Try.sizeOf3 rfl rfl (fun w H=>?_)
      refine O.thenNil ⟨(by first|exact Holds.to (by assumption)|assumption),?_⟩
      refine OQ.ex rfl (fun w H=>(by first|exact Ex.idxR Try.runUnderlying134 Try.sizeOf5 rfl rfl|exact Ex.idxIn Try.runUnderlying134 Try.sizeOf5 rfl rfl|exact Ex.idxS Try.runUnderlying134 Try.sizeOf5 rfl rfl|exact Ex.idx Try.runUnderlying134 Try.sizeOf5 rfl rfl (by omega) (by omega))) rfl ?_
      refine OQ.last rfl (by decide +kernel) ?_
      first|refine O.storeP Try.sizeOf5 rfl rfl (fun w H=>?_)|refine O.storeR Try.sizeOf5 rfl rfl (fun w H=>?_)
      refine O.nil ?_
      refine hK8 _ _ _ ?_
      refine W.seq (fun K9 hK9=>?_)
      refine W.region ?_
      refine O.ex (Ex.assign rfl) rfl ?_
      refine O.nil ?_
      refine hK9 _ _ _ ?_
      refine W.ret ?_
      try dsimp only [thenQ,blockQ,retQ]
      first|refine ⟨_,⟨_,_,rfl,rfl,rfl⟩,?_⟩|(refine retD_mark ?_; intro w H; refine ⟨_,⟨_,_,rfl,rfl,rfl⟩,?_⟩)|(refine retD_mark2 ?_; intro w H; refine ⟨_,⟨_,_,rfl,rfl,rfl⟩,?_⟩)
      first
      | (refine ⟨by simp only [oneOf]; rw [if_neg (by omega)],?_⟩
         rw [show R.set i x = R from if_neg (by omega)]
         exact rowI_open.2 ⟨vv,wv,Holds.to (by assumption)⟩)
      | (refine ⟨by simp only [oneOf]; rw [if_pos (by omega)],?_⟩
         rw [show R.set i x = { v:=R.v.set i.toNat x,wh:=R.wh.set i.toNat R.now,now:=R.now,n:=R.n + 1 } from by unfold RowM.set; rw [if_pos (by omega),if_neg (by unfold RowM.has; omega)]]
         exact rowI_open.2 ⟨vv,wv,Holds.to (by assumption)⟩)
      | (refine ⟨by simp only [oneOf]; rw [if_pos (by omega)],?_⟩
         rw [show R.set i x = { v:=R.v.set i.toNat x,wh:=R.wh.set i.toNat R.now,now:=R.now,n:=R.n } from by unfold RowM.set; rw [if_pos (by omega),if_pos (by unfold RowM.has; omega)]]
         exact rowI_open.2 ⟨vv,wv,Holds.to (by assumption)⟩)
theorem getI_ct {w : World} {r : Nat} {R : RowM Int} {i : Int} {L : List HProp} (H : Holds w (RowI r R::L)) (hl : R.wh.length = R.v.length) :
    CT Try.prog 84 [.pointer (some ⟨r,0,none⟩),.int .i64 i] w fun u w'=>u = .tuple #[.int .i64 (if R.has i then R.v.getD i.toNat default else (0 : Int)),.bool (decide (R.has i))] ∧ Holds w' (RowI r R::L):=by
  obtain ⟨vv,wv,H⟩:=rowI_open.1 H
  refine CT.enter (N:=25) Try.func84 rfl rfl rfl rfl ?_
  refine W.seq (fun K0 hK0=>?_)
  refine W.region ?_
  refine O.ex (Ex.assign rfl) rfl ?_
  refine O.ex (Ex.assign rfl) rfl ?_
  refine O.nil ?_
  refine hK0 _ _ _ ?_
  refine W.seq (fun K1 hK1=>?_)
  refine W.seq (fun K2 hK2=>?_)
  refine W.region ?_
  refine O.ex (Ex.move rfl) rfl ?_
  refine O.ex (Ex.move rfl) rfl ?_
  refine O.callF Try.call104 rfl rfl (CT.mono (thereI_ct (Holds.to (by assumption))) ?_)
  rintro _ w ⟨rfl,H⟩
  refine O.ex (by first|exact Ex.notD rfl|exact Ex.not rfl) rfl ?_
  refine O.ex (Ex.move rfl) rfl ?_
  first|refine O.split_p (t:=11) rfl (fun h11=>?_) (fun h11=>?_)|refine O.split (t:=11) rfl (fun h11=>?_) (fun h11=>?_)
  · refine O.guard_f rfl rfl rfl rfl ?_
    refine O.guard_f rfl rfl rfl rfl ?_
    refine O.guard_f rfl rfl rfl rfl ?_
    refine O.guard_f rfl rfl rfl rfl ?_
    refine O.ex (Ex.pick_t rfl rfl) rfl ?_
    refine O.nil ?_
    refine hK2 _ _ _ ?_
    refine W.cond_t rfl ?_
    refine W.seq (fun K3 hK3=>?_)
    refine W.region ?_
    refine O.ex (Ex.assign rfl) rfl ?_
    refine O.nil ?_
    refine hK3 _ _ _ ?_
    refine W.seq (fun K4 hK4=>?_)
    refine W.region ?_
    refine O.ex (Ex.move rfl) rfl ?_
    refine O.ex (Ex.assign rfl) rfl ?_
    refine O.ex (Ex.assign rfl) rfl ?_
    refine O.nil ?_
    refine hK4 _ _ _ ?_
    refine W.ret ?_
    try dsimp only [thenQ,blockQ,retQ]
    first|refine ⟨_,⟨_,_,rfl,rfl,_,_,rfl,rfl,rfl⟩,?_⟩|(refine retD_mark ?_; intro w H; refine ⟨_,⟨_,_,rfl,rfl,_,_,rfl,rfl,rfl⟩,?_⟩)|(refine retD_mark2 ?_; intro w H; refine ⟨_,⟨_,_,rfl,rfl,_,_,rfl,rfl,rfl⟩,?_⟩)
    first
    | (have e : ¬ R.has i:=by unfold RowM.has; omega
       refine ⟨by simp only [oneOf,if_neg e,decide_eq_false e],rowI_open.2 ⟨vv,wv,Holds.to (by assumption)⟩⟩)
    | (have e : R.has i:=by unfold RowM.has; omega
       refine ⟨by simp only [oneOf,if_pos e,decide_eq_true e],rowI_open.2 ⟨vv,wv,Holds.to (by assumption)⟩⟩)
  · refine O.guard_t rfl rfl ?_
    refine O.ex (Ex.move rfl) rfl ?_
    refine O.guard_t rfl rfl ?_
    refine O.ex (Ex.move rfl) rfl ?_
    refine O.guard_t rfl rfl ?_
    refine O.callF Try.call105 rfl rfl (CT.mono (isI_ct (Holds.to (by assumption)) (by omega) (by omega)) ?_)
    rintro _ w ⟨rfl,H⟩
    refine O.guard_t rfl rfl ?_
    refine O.ex (by first|exact Ex.notD rfl|exact Ex.not rfl) rfl ?_
    refine O.ex (Ex.pick_f rfl rfl) rfl ?_
    refine O.nil ?_
    refine hK2 _ _ _ ?_
    first|refine W.cond_p rfl (fun h16=>?_) (fun h16=>?_)|refine W.cond_b rfl (fun h16=>?_) (fun h16=>?_)
    · refine W.seq (fun K5 hK5=>?_)
      refine W.region ?_
      refine O.ex (Ex.assign rfl) rfl ?_
      refine O.nil ?_
      refine hK5 _ _ _ ?_
      refine W.seq (fun K6 hK6=>?_)
      refine W.region ?_
      refine O.ex (Ex.move rfl) rfl ?_
      refine O.ex (Ex.assign rfl) rfl ?_
      refine O.ex (Ex.assign rfl) rfl ?_
      refine O.nil ?_
      refine hK6 _ _ _ ?_
      refine W.ret ?_
      try dsimp only [thenQ,blockQ,retQ]
      first|refine ⟨_,⟨_,_,rfl,rfl,_,_,rfl,rfl,rfl⟩,?_⟩|(refine retD_mark ?_; intro w H; refine ⟨_,⟨_,_,rfl,rfl,_,_,rfl,rfl,rfl⟩,?_⟩)|(refine retD_mark2 ?_; intro w H; refine ⟨_,⟨_,_,rfl,rfl,_,_,rfl,rfl,rfl⟩,?_⟩)
      first
      | (have e : ¬ R.has i:=by unfold RowM.has; omega
         refine ⟨by simp only [oneOf,if_neg e,decide_eq_false e],rowI_open.2 ⟨vv,wv,Holds.to (by assumption)⟩⟩)
      | (have e : R.has i:=by unfold RowM.has; omega
         refine ⟨by simp only [oneOf,if_pos e,decide_eq_true e],rowI_open.2 ⟨vv,wv,Holds.to (by assumption)⟩⟩)
    · refine W.skip ?_
      refine hK1 _ _ _ ?_
      refine W.seq (fun K7 hK7=>?_)
      refine W.region ?_
      refine O.ex (Ex.move rfl) rfl ?_
      refine O.ex (by first|exact Ex.nilPtr rfl|exact Ex.nilFunc rfl|exact Ex.nilYield rfl) rfl ?_
      refine O.ex (by first|exact Ex.field0 fld136_0 rfl|exact Ex.field fld136_0 rfl|exact Ex.fieldS fld136_0 rfl) rfl ?_
      refine O.ex (by first|exact Ex.loadP Try.isAgg28 rfl|exact Ex.loadR Try.isAgg28 rfl|exact Ex.loadIn1 Try.isAgg28 rfl (Holds.to (by assumption))) rfl ?_
      refine O.ex (Ex.move rfl) rfl ?_
      refine O.ex (by first|exact Ex.idxR Try.runUnderlying28 Try.sizeOf3 rfl rfl|exact Ex.idxIn Try.runUnderlying28 Try.sizeOf3 rfl rfl|exact Ex.idxS Try.runUnderlying28 Try.sizeOf3 rfl rfl|exact Ex.idx Try.runUnderlying28 Try.sizeOf3 rfl rfl (by omega) (by omega)) rfl ?_
      refine O.ex (by first|exact Ex.loadP Try.isAgg3 rfl|exact Ex.loadR Try.isAgg3 rfl|exact Ex.loadIn1 Try.isAgg3 rfl (Holds.to (by assumption))) rfl ?_
      refine O.ex (Ex.assign rfl) rfl ?_
      refine O.ex (Ex.assign rfl) rfl ?_
      refine O.nil ?_
      refine hK7 _ _ _ ?_
      refine W.ret ?_
      try dsimp only [thenQ,blockQ,retQ]
      first|refine ⟨_,⟨_,_,rfl,rfl,_,_,rfl,rfl,rfl⟩,?_⟩|(refine retD_mark ?_; intro w H; refine ⟨_,⟨_,_,rfl,rfl,_,_,rfl,rfl,rfl⟩,?_⟩)|(refine retD_mark2 ?_; intro w H; refine ⟨_,⟨_,_,rfl,rfl,_,_,rfl,rfl,rfl⟩,?_⟩)
      first
      | (have e : ¬ R.has i:=by unfold RowM.has; omega
         refine ⟨by simp only [oneOf,if_neg e,decide_eq_false e],rowI_open.2 ⟨vv,wv,Holds.to (by assumption)⟩⟩)
      | (have e : R.has i:=by unfold RowM.has; omega
         refine ⟨by simp only [oneOf,if_pos e,decide_eq_true e],rowI_open.2 ⟨vv,wv,Holds.to (by assumption)⟩⟩)
theorem newI_ct {w : World} {n : Int} {L : List HProp} (H : Holds w L) :
    CT Try.prog 100 [.int .i64 n] w fun u w'=>(¬ (0 ≤ n ∧ n ≤ 64) ∧ u = .tuple #[.pointer none,.int .i64 1] ∧ Holds w' L) ∨
      ((0 ≤ n ∧ n ≤ 64) ∧ ∃ r,u = .tuple #[.pointer (some ⟨r,0,none⟩),.int .i64 0] ∧ Holds w' (RowI r (RowM.new ((0 : Int) : Int) n.toNat)::L)):=by
  refine CT.enter (N:=16) Try.func100 rfl rfl rfl rfl ?_
  refine W.seq (fun K0 hK0=>?_)
  refine W.region ?_
  refine O.ex (Ex.assign rfl) rfl ?_
  refine O.ex (Ex.assign rfl) rfl ?_
  refine O.nil ?_
  refine hK0 _ _ _ ?_
  refine W.seq (fun K1 hK1=>?_)
  refine W.seq (fun K2 hK2=>?_)
  refine W.region ?_
  refine O.ex (Ex.move rfl) rfl ?_
  refine O.ex (Ex.lss rfl rfl) rfl ?_
  refine O.ex (Ex.move rfl) rfl ?_
  first|refine O.split_p (t:=6) rfl (fun h6=>?_) (fun h6=>?_)|refine O.split (t:=6) rfl (fun h6=>?_) (fun h6=>?_)
  · refine O.guard_f rfl rfl rfl rfl ?_
    refine O.guard_f rfl rfl rfl rfl ?_
    refine O.ex (Ex.pick_t rfl rfl) rfl ?_
    refine O.nil ?_
    refine hK2 _ _ _ ?_
    refine W.cond_t rfl ?_
    refine W.seq (fun K3 hK3=>?_)
    refine W.region ?_
    refine O.ex (Ex.assign rfl) rfl ?_
    refine O.ex (Ex.assign rfl) rfl ?_
    refine O.nil ?_
    refine hK3 _ _ _ ?_
    refine W.ret ?_
    try dsimp only [thenQ,blockQ,retQ]
    first|refine ⟨_,⟨_,_,rfl,rfl,_,_,rfl,rfl,rfl⟩,?_⟩|(refine retD_mark ?_; intro w H; refine ⟨_,⟨_,_,rfl,rfl,_,_,rfl,rfl,rfl⟩,?_⟩)|(refine retD_mark2 ?_; intro w H; refine ⟨_,⟨_,_,rfl,rfl,_,_,rfl,rfl,rfl⟩,?_⟩)
    first
    | exact .inl ⟨by omega,rfl,by assumption⟩
    | exact .inr ⟨by omega,_,rfl,rowI_open.2 ⟨_,_,Holds.to (by assumption)⟩⟩
  · refine O.guard_t rfl rfl ?_
    refine O.ex (Ex.move rfl) rfl ?_
    refine O.guard_t rfl rfl ?_
    refine O.ex (Ex.gtr rfl rfl) rfl ?_
    refine O.ex (Ex.pick_f rfl rfl) rfl ?_
    refine O.nil ?_
    refine hK2 _ _ _ ?_
    first|refine W.cond_p rfl (fun h9=>?_) (fun h9=>?_)|refine W.cond_b rfl (fun h9=>?_) (fun h9=>?_)
    · refine W.seq (fun K4 hK4=>?_)
      refine W.region ?_
      refine O.ex (Ex.assign rfl) rfl ?_
      refine O.ex (Ex.assign rfl) rfl ?_
      refine O.nil ?_
      refine hK4 _ _ _ ?_
      refine W.ret ?_
      try dsimp only [thenQ,blockQ,retQ]
      first|refine ⟨_,⟨_,_,rfl,rfl,_,_,rfl,rfl,rfl⟩,?_⟩|(refine retD_mark ?_; intro w H; refine ⟨_,⟨_,_,rfl,rfl,_,_,rfl,rfl,rfl⟩,?_⟩)|(refine retD_mark2 ?_; intro w H; refine ⟨_,⟨_,_,rfl,rfl,_,_,rfl,rfl,rfl⟩,?_⟩)
      first
      | exact .inl ⟨by omega,rfl,by assumption⟩
      | exact .inr ⟨by omega,_,rfl,rowI_open.2 ⟨_,_,Holds.to (by assumption)⟩⟩
    · refine W.skip ?_
      refine hK1 _ _ _ ?_
      refine W.seq (fun K5 hK5=>?_)
      refine W.drawTo _ (.take 0 (.take 2 (.two 1 3 (.one 3 (.take 4 (.one 5 (.take 6 (.take 7 .nil))))) (.one 1 (.take 4 (.one 5 (.take 6 (.take 7 .nil)))))))) (mixed) (fun _ _ _ _ h=>h) (by assumption) (PP.refl _) (by decide +kernel) (fun w H=>?_)
      refine OQ.ex rfl (fun w H=>(Ex.move rfl)) rfl ?_
      refine OQ.ex rfl (fun w H=>(Ex.move rfl)) rfl ?_
      refine OQ.two rfl rfl ?_ ?_
      · refine O.makeR (0 : Int) (e:=Value.int .i64) (bt:=8) Try.runUnderlying28 Try.sizeOf3 Try.zeroValue3 Try.typeInfo3 rfl rfl rfl (fun s11 w hs11 H=>?_)
        refine O.thenNil ⟨(by first|exact Holds.to (by assumption)|assumption),?_⟩
        refine OQ.step rfl ?_
        refine O.makeR (0 : Int) (e:=Value.int .u8) (bt:=1) Try.runUnderlying134 Try.sizeOf5 Try.zeroValue5 Try.typeInfo5 rfl rfl rfl (fun s13 w hs13 H=>?_)
        refine O.thenNil ⟨(by first|exact Holds.to (by assumption)|assumption),?_⟩
        refine OQ.ex rfl (fun w H=>(Ex.build rfl (bld136_0_1_2 _ _ _ (by first|rfl|assumption) (by first|rfl|assumption) (by first|rfl|assumption)))) rfl ?_
        refine OQ.step rfl ?_
        refine O.boxP rfl (fun b15 w H=>?_)
        refine O.thenNil ⟨(by first|exact Holds.to (by assumption)|assumption),?_⟩
        refine OQ.ex rfl (fun w H=>(Ex.assign rfl)) rfl ?_
        refine OQ.ex rfl (fun w H=>(Ex.assign rfl)) rfl ?_
        refine OQ.done ?_
        refine hK5 _ _ _ ?_
        refine W.ret ?_
        try dsimp only [thenQ,blockQ,retQ]
        first|refine ⟨_,⟨_,_,rfl,rfl,_,_,rfl,rfl,rfl⟩,?_⟩|(refine retD_mark ?_; intro w H; refine ⟨_,⟨_,_,rfl,rfl,_,_,rfl,rfl,rfl⟩,?_⟩)|(refine retD_mark2 ?_; intro w H; refine ⟨_,⟨_,_,rfl,rfl,_,_,rfl,rfl,rfl⟩,?_⟩)
        first
        | exact .inl ⟨by omega,rfl,by assumption⟩
        | exact .inr ⟨by omega,_,rfl,rowI_open.2 ⟨_,_,Holds.to (by assumption)⟩⟩
      · refine O.makeR (0 : Int) (e:=Value.int .u8) (bt:=1) Try.runUnderlying134 Try.sizeOf5 Try.zeroValue5 Try.typeInfo5 rfl rfl rfl (fun s13 w hs13 H=>?_)
        refine O.thenNil ⟨(by first|exact Holds.to (by assumption)|assumption),?_⟩
        refine OQ.step rfl ?_
        refine O.makeR (0 : Int) (e:=Value.int .i64) (bt:=8) Try.runUnderlying28 Try.sizeOf3 Try.zeroValue3 Try.typeInfo3 rfl rfl rfl (fun s11 w hs11 H=>?_)
        refine O.thenNil ⟨(by first|exact Holds.to (by assumption)|assumption),?_⟩
        refine OQ.ex rfl (fun w H=>(Ex.build rfl (bld136_0_1_2 _ _ _ (by first|rfl|assumption) (by first|rfl|assumption) (by first|rfl|assumption)))) rfl ?_
        refine OQ.step rfl ?_
        refine O.boxP rfl (fun b15 w H=>?_)
        refine O.thenNil ⟨(by first|exact Holds.to (by assumption)|assumption),?_⟩
        refine OQ.ex rfl (fun w H=>(Ex.assign rfl)) rfl ?_
        refine OQ.ex rfl (fun w H=>(Ex.assign rfl)) rfl ?_
        refine OQ.done ?_
        refine hK5 _ _ _ ?_
        refine W.ret ?_
        try dsimp only [thenQ,blockQ,retQ]
        first|refine ⟨_,⟨_,_,rfl,rfl,_,_,rfl,rfl,rfl⟩,?_⟩|(refine retD_mark ?_; intro w H; refine ⟨_,⟨_,_,rfl,rfl,_,_,rfl,rfl,rfl⟩,?_⟩)|(refine retD_mark2 ?_; intro w H; refine ⟨_,⟨_,_,rfl,rfl,_,_,rfl,rfl,rfl⟩,?_⟩)
        first
        | exact .inl ⟨by omega,rfl,by assumption⟩
        | exact .inr ⟨by omega,_,rfl,rowI_open.2 ⟨_,_,Holds.to (by assumption)⟩⟩
end Go.Proofs.Ytliofdfhimmjmaa
