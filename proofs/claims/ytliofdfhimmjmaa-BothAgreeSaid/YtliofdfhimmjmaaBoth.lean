import Derived.Test.YtliofdfhimmjmaaNear3
import Derived.Test.YtliofdfhimmjmaaBothLaw
import Derived.Test.YtliofdfhimmjmaaStamp
namespace Go.Proofs.Ytliofdfhimmjmaa
open Go.Rr Go Gr Hp
set_option linter.unusedVariables false
set_option linter.unusedSimpArgs false
def cntF : Nat → (Nat → Option Int) → Nat
  | 0,_=>0
  | k + 1,f=>cntF k f + (if (f k).isSome = true then 1 else 0)
theorem cntF_le (f : Nat → Option Int) : ∀ k,cntF k f ≤ k
  | 0=>Nat.le_refl _
  | k + 1=>by have:=cntF_le f k; unfold cntF; split <;> omega
theorem cntF_upd (f : Nat → Option Int) (i : Nat) (x : Int) : ∀ k,cntF k (updN f i x) = cntF k f + (if i < k ∧ (f i).isSome = false then 1 else 0)
  | 0=>by rw [if_neg (by omega)]; rfl
  | k + 1=>by
    unfold cntF
    rw [cntF_upd f i x k]
    by_cases e : k = i
    · subst e
      have h1 : updN f k x k = some x:=if_pos rfl
      rw [h1,if_neg (by omega)]
      cases hf : (f k).isSome <;> simp
    · have h1 : updN f i x k = f k:=if_neg e
      have h2 : (i < k + 1 ∧ (f i).isSome = false) ↔ (i < k ∧ (f i).isSome = false):=by
        constructor
        · rintro ⟨a,b⟩; exact ⟨by omega,b⟩
        · rintro ⟨a,b⟩; exact ⟨by omega,b⟩
      rw [h1]
      simp only [h2]
      omega
/-- A row that holds what f says. -/
structure RowFn (N : Nat) (f : Nat → Option Int) (R : RowM Int) : Prop where
  nw : R.now = 1
  vl : R.v.length = N
  wl : R.wh.length = N
  n0 : 0 ≤ R.n
  n1 : R.n ≤ cntF N f
  at_ : ∀ i,i < N → (R.wh.getD i 0 = 1 ↔ (f i).isSome = true) ∧ ∀ x,f i = some x → R.v.getD i default = x
theorem RowFn.has {N : Nat} {f : Nat → Option Int} {R : RowM Int} (h : RowFn N f R) {i : Nat} (hi : i < N) : R.has (i : Int) ↔ (f i).isSome = true:=by
  unfold RowM.has
  rw [Int.toNat_natCast,h.nw,← (h.at_ i hi).1,h.vl]
  exact ⟨fun k=>k.2,fun k=>⟨⟨by omega,by omega⟩,k⟩⟩
theorem RowFn.new (N : Nat) : RowFn N (fun _=>none) (RowM.new (0 : Int) N):=by
  refine ⟨rfl,by simp [RowM.new],by simp [RowM.new],Int.le_refl _,by show (0 : Int) ≤ _; omega,fun i hi=>⟨?_,fun x hx=>(by cases hx)⟩⟩
  show (List.replicate N (0 : Int)).getD i 0 = 1 ↔ (none : Option Int).isSome = true
  rw [List.getD_eq_getElem?_getD,List.getElem?_replicate,if_pos hi]
  simp
theorem RowFn.put {N : Nat} {f : Nat → Option Int} {R : RowM Int} (h : RowFn N f R) {i : Nat} (hi : i < N) (x : Int) : RowFn N (updN f i x) (R.set (i : Int) x):=by
  have hh:=h.has hi
  have e : R.set (i : Int) x = { v:=R.v.set i x,wh:=R.wh.set i 1,now:=1,n:=if R.has (i : Int) then R.n else R.n + 1 }:=by
    unfold RowM.set
    rw [if_pos (by rw [h.vl]; omega),Int.toNat_natCast,h.nw]
  rw [e]
  have n0:=h.n0
  have n1:=h.n1
  refine ⟨rfl,by rw [List.length_set]; exact h.vl,by rw [List.length_set]; exact h.wl,?_,?_,fun k hk=>?_⟩
  · show 0 ≤ (if R.has (i : Int) then R.n else R.n + 1)
    split <;> omega
  · show (if R.has (i : Int) then R.n else R.n + 1) ≤ _
    rw [cntF_upd]
    by_cases k : R.has (i : Int)
    · rw [if_pos k]; omega
    · rw [if_neg k,if_pos ⟨hi,by simpa using fun h2=>k (hh.2 h2)⟩]; omega
  · dsimp only
    rw [List.getD_eq_getElem?_getD,List.getD_eq_getElem?_getD,List.getElem?_set,List.getElem?_set,h.vl,h.wl]
    by_cases e2 : i = k
    · subst e2
      have h1 : updN f i x i = some x:=if_pos rfl
      rw [if_pos rfl,if_pos rfl,if_pos hi,if_pos hi,h1]
      exact ⟨by simp,fun y hy=>Option.some.inj hy⟩
    · have h1 : updN f i x k = f k:=if_neg (Ne.symm e2)
      rw [if_neg e2,if_neg e2,h1,← List.getD_eq_getElem?_getD,← List.getD_eq_getElem?_getD]
      exact h.at_ k hk
def RowF (r N : Nat) (f : Nat → Option Int) : HProp:=hex fun R=>hex fun (_ : RowFn N f R)=>RowI r R
theorem rowF_open {w : World} {r N : Nat} {f : Nat → Option Int} {L : List HProp} : Holds w (RowF r N f::L) ↔ ∃ R,RowFn N f R ∧ Holds w (RowI r R::L):=by
  unfold RowF
  simp only [Holds.hex,exists_prop]
theorem getF_ct {w : World} {r N i : Nat} {f : Nat → Option Int} {L : List HProp} (hi : i < N) (H : Holds w (RowF r N f::L)) :
    CT Try.prog 84 [.pointer (some ⟨r,0,none⟩),.int .i64 (i : Int)] w fun u w'=>u = .tuple #[.int .i64 ((f i).getD 0),.bool (f i).isSome] ∧ Holds w' (RowF r N f::L):=by
  obtain ⟨R,hR,H⟩:=rowF_open.1 H
  refine (getI_ct H (by rw [hR.vl,hR.wl])).mono fun u w' ⟨hu,H⟩=>⟨?_,rowF_open.2 ⟨R,hR,H⟩⟩
  rw [hu]
  have hh:=hR.has hi
  cases e : f i with
  | none =>
    have hn : ¬ R.has (i : Int):=fun k=>by have:=hh.1 k; rw [e] at this; cases this
    rw [if_neg hn,decide_eq_false hn]; rfl
  | some x =>
    have hp : R.has (i : Int):=hh.2 (by rw [e]; rfl)
    rw [if_pos hp,decide_eq_true hp,Int.toNat_natCast,(hR.at_ i hi).2 x e]; rfl
theorem setF_ct {w : World} {r N i : Nat} {x : Int} {f : Nat → Option Int} {L : List HProp} (hN : N ≤ 64) (hi : i < N) (H : Holds w (RowF r N f::L)) :
    CT Try.prog 101 [.pointer (some ⟨r,0,none⟩),.int .i64 (i : Int),.int .i64 x] w fun u w'=>u = .int .i64 0 ∧ Holds w' (RowF r N (updN f i x)::L):=by
  obtain ⟨R,hR,H⟩:=rowF_open.1 H
  have h1:=hR.n1
  have h2:=cntF_le f N
  refine (setI_ct H (by rw [hR.vl,hR.wl]) hR.n0 (by omega)).mono fun u w' ⟨hu,H⟩=>⟨?_,rowF_open.2 ⟨_,hR.put hi x,H⟩⟩
  rw [hu,if_pos (by rw [hR.vl]; omega)]
theorem newF_ct {w : World} {n : Int} {L : List HProp} (h0 : 0 ≤ n) (h1 : n ≤ 64) (H : Holds w L) :
    CT Try.prog 100 [.int .i64 n] w fun u w'=>∃ r,u = .tuple #[.pointer (some ⟨r,0,none⟩),.int .i64 0] ∧ Holds w' (RowF r n.toNat (fun _=>none)::L) :=
  (newI_ct H).mono fun u w' hh=>by
    rcases hh with ⟨hno,_⟩|⟨_,r,hu,H⟩
    · exact absurd ⟨h0,h1⟩ hno
    · exact ⟨r,hu,rowF_open.2 ⟨_,RowFn.new _,H⟩⟩
/-- A row whose contents are as Q says. -/
def SdB (r N : Nat) (Q : (Nat → Option Int) → Prop) : HProp:=hex fun f=>hex fun (_ : Q f)=>RowF r N f
theorem sdB_open {w : World} {r N : Nat} {Q : (Nat → Option Int) → Prop} {L : List HProp} : Holds w (SdB r N Q::L) ↔ ∃ f,Q f ∧ Holds w (RowF r N f::L):=by
  unfold SdB
  simp only [Holds.hex,exists_prop]
/-- The cells of a side. -/
def sdc (hh fr br : Nat) (b : Bool) : Array Value:=#[.pointer (some ⟨hh,0,none⟩),.pointer (some ⟨fr,0,none⟩),.pointer (some ⟨br,0,none⟩),.bool b]
abbrev Far (n : Int) (s : St) (b : Bool) (s0 j : Nat) : Nat → Int:=fq n (cD s b) s0 (stN n (cD s b) s0 j)
def Sd (p hh fr br : Nat) (n : Int) (s : St) (b : Bool) (s0 j : Nat) : HProp :=
  star [pt p (.cells (sdc hh fr br b) 118 (0,0)),HqI hh (Wt.hpW n.toNat (cD s b) s0 0 (stN n (cD s b) s0 j)),RowF fr n.toNat (fun w=>ov (Far n s b s0 j w)),SdB br n.toNat (ByOk n s b s0 (Far n s b s0 j) (fun w=>Wt.isIn (stN n (cD s b) s0 j) w))]
theorem sd_open {w : World} {p hh fr br : Nat} {n : Int} {s : St} {b : Bool} {s0 j : Nat} {L : List HProp} : Holds w (Sd p hh fr br n s b s0 j::L) ↔
    Holds w (pt p (.cells #[.pointer (some ⟨hh,0,none⟩),.pointer (some ⟨fr,0,none⟩),.pointer (some ⟨br,0,none⟩),.bool b] 118 (0,0))::HqI hh (Wt.hpW n.toNat (cD s b) s0 0 (stN n (cD s b) s0 j))::RowF fr n.toNat (fun w=>ov (Far n s b s0 j w))::SdB br n.toNat (ByOk n s b s0 (Far n s b s0 j) (fun w=>Wt.isIn (stN n (cD s b) s0 j) w))::L):=by
  unfold Sd sdc
  simp only [Holds.star,List.cons_append,List.nil_append]
theorem start_row (n : Int) (s : St) (b : Bool) (s0 : Nat) : updN (fun _=>none) s0 0 = fun w=>ov (Far n s b s0 0 w):=by
  funext w
  show _ = ov (fq n (cD s b) s0 [] w)
  rw [fq_nil]
  unfold updN ov
  by_cases e : w = s0
  · rw [if_pos e,if_pos e,if_pos (by omega)]
  · rw [if_neg e,if_neg e,if_neg (by omega)]
set_option maxHeartbeats 2000000 in
theorem newSide_ct {w : World} {n most : Int} {s : St} {b : Bool} {s0 : Nat} {L : List HProp} (hg : GOk n most s) (h1 : s0 < n.toNat) (H : Holds w L) :
    CT Try.prog 79 [.int .i64 n,.int .i64 (s0 : Int),.bool b] w fun u w'=>∃ p hh fr br,u = .pointer (some ⟨p,0,none⟩) ∧ Holds w' (Sd p hh fr br n s b s0 0::L):=by
  have n1:=hg.n1
  have n2:=hg.n2
  refine CT.enter (N:=48) Try.func79 rfl rfl rfl rfl ?_
  refine W.seq (fun K0 hK0=>?_)
  refine W.region ?_
  refine O.ex (Ex.assign rfl) rfl ?_
  refine O.nil ?_
  refine hK0 _ _ _ ?_
  refine W.seq (fun K1 hK1=>?_)
  refine W.region ?_
  refine O.ex (Ex.move rfl) rfl ?_
  refine O.ex (Ex.build rfl (bld118_3 _ (by first|rfl|assumption))) rfl ?_
  refine O.boxP rfl (fun b10 w H=>?_)
  refine O.ex (Ex.assign rfl) rfl ?_
  refine O.nil ?_
  refine hK1 _ _ _ ?_
  refine W.seq (fun K2 hK2=>?_)
  refine W.region ?_
  refine O.ex (Ex.move rfl) rfl ?_
  refine O.ex (Ex.move rfl) rfl ?_
  refine O.callF Try.call68 rfl rfl (CT.mono (newIH_ct (n:=n) (Holds.to (by assumption))) ?_)
  rintro _ w (⟨hx,-⟩|⟨-,hh,rfl,H⟩)
  · exact absurd (by omega) hx
  refine O.ex (Ex.move rfl) rfl ?_
  refine O.ex (Ex.extract rfl rfl) rfl ?_
  refine O.ex (Ex.extract rfl rfl) rfl ?_
  refine O.ex (by first|exact Ex.nilPtr rfl|exact Ex.nilFunc rfl|exact Ex.nilYield rfl) rfl ?_
  refine O.ex (by first|exact Ex.field0 fld118_0 rfl|exact Ex.field fld118_0 rfl|exact Ex.fieldS fld118_0 rfl|exact Ex.fieldIn fld118_0 rfl) rfl ?_
  replace H : Holds w (pt b10 (.cells #[.pointer none,.pointer none,.pointer none,.bool b] 118 (0,0))::HqI hh (List.replicate n.toNat none)::L):=Holds.to H
  first|refine O.storeP Try.sizeOf99 rfl rfl (fun w H=>?_)|refine O.storeR Try.sizeOf99 rfl rfl (fun w H=>?_)|refine O.storeM Try.sizeOf99 rfl rfl (fun w H=>?_)|refine O.storeVc Try.sizeOf99 rfl rfl (fun w H=>?_)|refine O.storeQ Try.sizeOf99 rfl rfl (fun w H=>?_)
  replace H : Holds w (pt b10 (.cells #[.pointer (some ⟨hh,0,none⟩),.pointer none,.pointer none,.bool b] 118 (0,0))::HqI hh (List.replicate n.toNat none)::L):=H
  refine O.nil ?_
  refine hK2 _ _ _ ?_
  refine W.seq (fun K3 hK3=>?_)
  refine W.region ?_
  refine O.ex (Ex.move rfl) rfl ?_
  refine O.ex (Ex.move rfl) rfl ?_
  refine O.callF Try.call100 rfl rfl (CT.mono (newF_ct (n:=n) (by omega) (by omega) (by assumption)) ?_)
  rintro _ w ⟨fr,rfl,H⟩
  replace H : Holds w (pt b10 (.cells #[.pointer (some ⟨hh,0,none⟩),.pointer none,.pointer none,.bool b] 118 (0,0))::HqI hh (List.replicate n.toNat none)::RowF fr n.toNat (fun _=>none)::L):=Holds.to H
  refine O.ex (Ex.move rfl) rfl ?_
  refine O.ex (Ex.extract rfl rfl) rfl ?_
  refine O.ex (Ex.extract rfl rfl) rfl ?_
  refine O.ex (by first|exact Ex.nilPtr rfl|exact Ex.nilFunc rfl|exact Ex.nilYield rfl) rfl ?_
  refine O.ex (by first|exact Ex.field0 fld118_1 rfl|exact Ex.field fld118_1 rfl|exact Ex.fieldS fld118_1 rfl|exact Ex.fieldIn fld118_1 rfl) rfl ?_
  first|refine O.storeP Try.sizeOf116 rfl rfl (fun w H=>?_)|refine O.storeR Try.sizeOf116 rfl rfl (fun w H=>?_)|refine O.storeM Try.sizeOf116 rfl rfl (fun w H=>?_)|refine O.storeVc Try.sizeOf116 rfl rfl (fun w H=>?_)|refine O.storeQ Try.sizeOf116 rfl rfl (fun w H=>?_)
  replace H : Holds w (pt b10 (.cells #[.pointer (some ⟨hh,0,none⟩),.pointer (some ⟨fr,0,none⟩),.pointer none,.bool b] 118 (0,0))::HqI hh (List.replicate n.toNat none)::RowF fr n.toNat (fun _=>none)::L):=H
  refine O.nil ?_
  refine hK3 _ _ _ ?_
  refine W.seq (fun K4 hK4=>?_)
  refine W.region ?_
  refine O.ex (Ex.move rfl) rfl ?_
  refine O.ex (Ex.move rfl) rfl ?_
  refine O.callF Try.call100 rfl rfl (CT.mono (newF_ct (n:=n) (by omega) (by omega) (by assumption)) ?_)
  rintro _ w ⟨br,rfl,H⟩
  replace H : Holds w (pt b10 (.cells #[.pointer (some ⟨hh,0,none⟩),.pointer (some ⟨fr,0,none⟩),.pointer none,.bool b] 118 (0,0))::HqI hh (List.replicate n.toNat none)::RowF fr n.toNat (fun _=>none)::RowF br n.toNat (fun _=>none)::L):=Holds.to H
  refine O.ex (Ex.move rfl) rfl ?_
  refine O.ex (Ex.extract rfl rfl) rfl ?_
  refine O.ex (Ex.extract rfl rfl) rfl ?_
  refine O.ex (by first|exact Ex.nilPtr rfl|exact Ex.nilFunc rfl|exact Ex.nilYield rfl) rfl ?_
  refine O.ex (by first|exact Ex.field0 fld118_2 rfl|exact Ex.field fld118_2 rfl|exact Ex.fieldS fld118_2 rfl|exact Ex.fieldIn fld118_2 rfl) rfl ?_
  first|refine O.storeP Try.sizeOf116 rfl rfl (fun w H=>?_)|refine O.storeR Try.sizeOf116 rfl rfl (fun w H=>?_)|refine O.storeM Try.sizeOf116 rfl rfl (fun w H=>?_)|refine O.storeVc Try.sizeOf116 rfl rfl (fun w H=>?_)|refine O.storeQ Try.sizeOf116 rfl rfl (fun w H=>?_)
  replace H : Holds w (pt b10 (.cells #[.pointer (some ⟨hh,0,none⟩),.pointer (some ⟨fr,0,none⟩),.pointer (some ⟨br,0,none⟩),.bool b] 118 (0,0))::HqI hh (List.replicate n.toNat none)::RowF fr n.toNat (fun _=>none)::RowF br n.toNat (fun _=>none)::L):=H
  refine O.nil ?_
  refine hK4 _ _ _ ?_
  refine W.seq (fun K5 hK5=>?_)
  refine W.region ?_
  refine O.ex (Ex.move rfl) rfl ?_
  refine O.ex (by first|exact Ex.nilPtr rfl|exact Ex.nilFunc rfl|exact Ex.nilYield rfl) rfl ?_
  refine O.ex (by first|exact Ex.field0 fld118_0 rfl|exact Ex.field fld118_0 rfl|exact Ex.fieldS fld118_0 rfl|exact Ex.fieldIn fld118_0 rfl) rfl ?_
  refine O.ex (by first|exact Ex.loadMh Try.isAgg99 rfl|exact Ex.loadInF Try.isAgg99 rfl (Holds.to (by assumption))|exact Ex.loadP Try.isAgg99 rfl|exact Ex.loadM Try.isAgg99 rfl|exact Ex.loadIn1 Try.isAgg99 rfl (Holds.to (by assumption))|exact Ex.loadVc Try.isAgg99 rfl|exact Ex.loadR Try.isAgg99 rfl|exact Ex.loadQ Try.isAgg99 rfl) rfl ?_
  refine O.ex (Ex.move rfl) rfl ?_
  refine O.callF Try.call69 rfl rfl (CT.mono (putIH_ct (Holds.to (by assumption))) ?_)
  rintro _ w ⟨-,H⟩
  rw [hp_start0 (c:=cD s b) h1] at H
  replace H : Holds w (pt b10 (.cells #[.pointer (some ⟨hh,0,none⟩),.pointer (some ⟨fr,0,none⟩),.pointer (some ⟨br,0,none⟩),.bool b] 118 (0,0))::RowF fr n.toNat (fun _=>none)::HqI hh (Wt.hpW n.toNat (cD s b) s0 0 (stN n (cD s b) s0 0))::RowF br n.toNat (fun _=>none)::L):=Holds.to H
  refine O.nil ?_
  refine hK5 _ _ _ ?_
  refine W.seq (fun K6 hK6=>?_)
  refine W.region ?_
  refine O.ex (Ex.move rfl) rfl ?_
  refine O.ex (by first|exact Ex.nilPtr rfl|exact Ex.nilFunc rfl|exact Ex.nilYield rfl) rfl ?_
  refine O.ex (by first|exact Ex.field0 fld118_1 rfl|exact Ex.field fld118_1 rfl|exact Ex.fieldS fld118_1 rfl|exact Ex.fieldIn fld118_1 rfl) rfl ?_
  refine O.ex (by first|exact Ex.loadMh Try.isAgg116 rfl|exact Ex.loadInF Try.isAgg116 rfl (Holds.to (by assumption))|exact Ex.loadP Try.isAgg116 rfl|exact Ex.loadM Try.isAgg116 rfl|exact Ex.loadIn1 Try.isAgg116 rfl (Holds.to (by assumption))|exact Ex.loadVc Try.isAgg116 rfl|exact Ex.loadR Try.isAgg116 rfl|exact Ex.loadQ Try.isAgg116 rfl) rfl ?_
  refine O.ex (Ex.move rfl) rfl ?_
  refine O.callF Try.call101 rfl rfl (CT.mono (setF_ct (r:=fr) (N:=n.toNat) (i:=s0) (x:=0) (f:=fun _=>none) (by omega) h1 (Holds.to (by assumption))) ?_)
  rintro _ w ⟨rfl,H⟩
  refine O.nil ?_
  refine hK6 _ _ _ ?_
  refine W.seq (fun K7 hK7=>?_)
  refine W.region ?_
  refine O.ex (Ex.move rfl) rfl ?_
  refine O.ex (Ex.assign rfl) rfl ?_
  refine O.nil ?_
  refine hK7 _ _ _ ?_
  refine W.ret ?_
  try dsimp only [thenQ,blockQ,retQ]
  first|refine ⟨_,⟨_,_,rfl,rfl,rfl⟩,?_⟩|(refine retD_mark ?_; intro w H; refine ⟨_,⟨_,_,rfl,rfl,rfl⟩,?_⟩)|(refine retD_mark2 ?_; intro w H; refine ⟨_,⟨_,_,rfl,rfl,rfl⟩,?_⟩)
  rw [start_row n s b s0] at H
  refine ⟨b10,hh,fr,br,rfl,sd_open.2 ?_⟩
  have H:=sdB_open.2 ⟨_,by_start (s0:=s0) (cD_good hg b),Holds.to (M:=RowF br n.toNat (fun _=>none)::_) H⟩
  exact Holds.to H
theorem snext_ct {w : World} {p hh fr br : Nat} {n most : Int} {s : St} {b : Bool} {s0 j : Nat} {L : List HProp} (hg : GOk n most s) (h1 : s0 < n.toNat) (H : Holds w (Sd p hh fr br n s b s0 j::L)) :
    CT Try.prog 80 [.pointer (some ⟨p,0,none⟩)] w fun u w'=>u = .int .i64 (nxT n (cD s b) s0 (stN n (cD s b) s0 j)) ∧ Holds w' (Sd p hh fr br n s b s0 j::L):=by
  have H:=sd_open.1 H
  have hG:=cD_good hg b
  refine CT.enter (N:=17) Try.func80 rfl rfl rfl rfl ?_
  refine W.seq (fun K0 hK0=>?_)
  refine W.region ?_
  refine O.ex (Ex.assign rfl) rfl ?_
  refine O.nil ?_
  refine hK0 _ _ _ ?_
  refine W.seq (fun K1 hK1=>?_)
  refine W.seq (fun K2 hK2=>?_)
  refine W.region ?_
  refine O.ex (Ex.move rfl) rfl ?_
  refine O.ex (by first|exact Ex.nilPtr rfl|exact Ex.nilFunc rfl|exact Ex.nilYield rfl) rfl ?_
  refine O.ex (by first|exact Ex.field0 fld118_0 rfl|exact Ex.field fld118_0 rfl|exact Ex.fieldS fld118_0 rfl|exact Ex.fieldIn fld118_0 rfl) rfl ?_
  refine O.ex (by first|exact Ex.loadMh Try.isAgg99 rfl|exact Ex.loadInF Try.isAgg99 rfl (Holds.to (by assumption))|exact Ex.loadP Try.isAgg99 rfl|exact Ex.loadM Try.isAgg99 rfl|exact Ex.loadIn1 Try.isAgg99 rfl (Holds.to (by assumption))|exact Ex.loadVc Try.isAgg99 rfl|exact Ex.loadR Try.isAgg99 rfl|exact Ex.loadQ Try.isAgg99 rfl) rfl ?_
  refine O.callF Try.call94 rfl rfl (CT.mono (peekI2_ct (Holds.to (by assumption))) ?_)
  rintro _ w hh2
  rcases hh2 with ⟨e,rfl,H⟩|⟨b2,e,rfl,H⟩
  · refine O.ex (Ex.move rfl) rfl ?_
    refine O.ex (Ex.extract rfl rfl) rfl ?_
    refine O.ex (Ex.extract rfl rfl) rfl ?_
    refine O.ex (Ex.extract rfl rfl) rfl ?_
    refine O.ex (Ex.assign rfl) rfl ?_
    refine O.ex (Ex.assign rfl) rfl ?_
    refine O.ex (Ex.assign rfl) rfl ?_
    refine O.nil ?_
    refine hK2 _ _ _ ?_
    refine W.seq (fun K3 hK3=>?_)
    refine W.region ?_
    refine O.ex (Ex.move rfl) rfl ?_
    refine O.nil ?_
    refine hK3 _ _ _ ?_
    refine W.known_f rfl (by first|rfl|decide) ?_
    refine W.skip ?_
    refine hK1 _ _ _ ?_
    refine W.seq (fun K4 hK4=>?_)
    refine W.region ?_
    refine O.ex (Ex.assign rfl) rfl ?_
    refine O.nil ?_
    refine hK4 _ _ _ ?_
    refine W.ret ?_
    try dsimp only [thenQ,blockQ,retQ]
    first|refine ⟨_,⟨_,_,rfl,rfl,rfl⟩,?_⟩|(refine retD_mark ?_; intro w H; refine ⟨_,⟨_,_,rfl,rfl,rfl⟩,?_⟩)|(refine retD_mark2 ?_; intro w H; refine ⟨_,⟨_,_,rfl,rfl,rfl⟩,?_⟩)
    first
    | (rw [nxT_none (show Wt.nx n.toNat (cD s b) s0 0 (stN n (cD s b) s0 j) = none from e)]
       exact ⟨rfl,sd_open.2 (Holds.to (by assumption))⟩)
    | (have hb : Wt.nx n.toNat (cD s b) s0 0 (stN n (cD s b) s0 j) = some b2:=e
       rw [nxT_some hb,← nx_far hG h1 hb,← (Wt.nx_spec hb).2.2.2.2.1]
       exact ⟨rfl,sd_open.2 (Holds.to (by assumption))⟩)
  · refine O.ex (Ex.move rfl) rfl ?_
    refine O.ex (Ex.extract rfl rfl) rfl ?_
    refine O.ex (Ex.extract rfl rfl) rfl ?_
    refine O.ex (Ex.extract rfl rfl) rfl ?_
    refine O.ex (Ex.assign rfl) rfl ?_
    refine O.ex (Ex.assign rfl) rfl ?_
    refine O.ex (Ex.assign rfl) rfl ?_
    refine O.nil ?_
    refine hK2 _ _ _ ?_
    refine W.seq (fun K5 hK5=>?_)
    refine W.region ?_
    refine O.ex (Ex.move rfl) rfl ?_
    refine O.nil ?_
    refine hK5 _ _ _ ?_
    refine W.known_t rfl (by first|rfl|decide) ?_
    refine W.seq (fun K6 hK6=>?_)
    refine W.region ?_
    refine O.ex (Ex.move rfl) rfl ?_
    refine O.ex (Ex.assign rfl) rfl ?_
    refine O.nil ?_
    refine hK6 _ _ _ ?_
    refine W.ret ?_
    try dsimp only [thenQ,blockQ,retQ]
    first|refine ⟨_,⟨_,_,rfl,rfl,rfl⟩,?_⟩|(refine retD_mark ?_; intro w H; refine ⟨_,⟨_,_,rfl,rfl,rfl⟩,?_⟩)|(refine retD_mark2 ?_; intro w H; refine ⟨_,⟨_,_,rfl,rfl,rfl⟩,?_⟩)
    first
    | (rw [nxT_none (show Wt.nx n.toNat (cD s b) s0 0 (stN n (cD s b) s0 j) = none from e)]
       exact ⟨rfl,sd_open.2 (Holds.to (by assumption))⟩)
    | (have hb : Wt.nx n.toNat (cD s b) s0 0 (stN n (cD s b) s0 j) = some b2:=e
       rw [nxT_some hb,← nx_far hG h1 hb,← (Wt.nx_spec hb).2.2.2.2.1]
       exact ⟨rfl,sd_open.2 (Holds.to (by assumption))⟩)
theorem ov_get {x : Int} (h : x < 4611686018427387906) : ov x = some x:=if_pos h
theorem ov_none {x : Int} (h : ¬ x < 4611686018427387906) : ov x = none:=if_neg h
theorem sat_ct {w : World} {p hh fr br N v : Nat} {b : Bool} {F : Nat → Int} {L : List HProp} (hv : v < N) (hF : F v ≤ 4611686018427387906) (H : Holds w (pt p (.cells #[.pointer (some ⟨hh,0,none⟩),.pointer (some ⟨fr,0,none⟩),.pointer (some ⟨br,0,none⟩),.bool b] 118 (0,0))::RowF fr N (fun w=>ov (F w))::L)) :
    CT Try.prog 83 [.pointer (some ⟨p,0,none⟩),.int .i64 (v : Int)] w fun u w'=>u = .int .i64 (F v) ∧ Holds w' (pt p (.cells #[.pointer (some ⟨hh,0,none⟩),.pointer (some ⟨fr,0,none⟩),.pointer (some ⟨br,0,none⟩),.bool b] 118 (0,0))::RowF fr N (fun w=>ov (F w))::L):=by
  refine CT.enter (N:=18) Try.func83 rfl rfl rfl rfl ?_
  refine W.seq (fun K0 hK0=>?_)
  refine W.region ?_
  refine O.ex (Ex.assign rfl) rfl ?_
  refine O.nil ?_
  refine hK0 _ _ _ ?_
  refine W.seq (fun K1 hK1=>?_)
  refine W.seq (fun K2 hK2=>?_)
  refine W.region ?_
  refine O.ex (Ex.move rfl) rfl ?_
  refine O.ex (by first|exact Ex.nilPtr rfl|exact Ex.nilFunc rfl|exact Ex.nilYield rfl) rfl ?_
  refine O.ex (by first|exact Ex.field0 fld118_1 rfl|exact Ex.field fld118_1 rfl|exact Ex.fieldS fld118_1 rfl|exact Ex.fieldIn fld118_1 rfl) rfl ?_
  refine O.ex (by first|exact Ex.loadMh Try.isAgg116 rfl|exact Ex.loadInF Try.isAgg116 rfl (Holds.to (by assumption))|exact Ex.loadP Try.isAgg116 rfl|exact Ex.loadM Try.isAgg116 rfl|exact Ex.loadIn1 Try.isAgg116 rfl (Holds.to (by assumption))|exact Ex.loadVc Try.isAgg116 rfl|exact Ex.loadR Try.isAgg116 rfl|exact Ex.loadQ Try.isAgg116 rfl) rfl ?_
  refine O.ex (Ex.move rfl) rfl ?_
  refine O.callF Try.call84 rfl rfl (CT.mono (getF_ct (N:=N) (i:=v) (f:=fun w=>ov (F w)) hv (Holds.to (M:=RowF fr N (fun w=>ov (F w))::_) (by assumption))) ?_)
  rintro _ w ⟨rfl,H⟩
  refine O.ex (Ex.move rfl) rfl ?_
  refine O.ex (Ex.extract rfl rfl) rfl ?_
  refine O.ex (Ex.extract rfl rfl) rfl ?_
  refine O.ex (Ex.assign rfl) rfl ?_
  refine O.ex (Ex.assign rfl) rfl ?_
  refine O.nil ?_
  refine hK2 _ _ _ ?_
  refine W.seq (fun K3 hK3=>?_)
  refine W.region ?_
  refine O.ex (Ex.move rfl) rfl ?_
  refine O.nil ?_
  refine hK3 _ _ _ ?_
  first|refine W.cond_p rfl (fun hs=>?_) (fun hn=>?_)|refine W.cond_b rfl (fun hs=>?_) (fun hn=>?_)
  · refine W.seq (fun K4 hK4=>?_)
    refine W.region ?_
    refine O.ex (Ex.move rfl) rfl ?_
    refine O.ex (Ex.assign rfl) rfl ?_
    refine O.nil ?_
    refine hK4 _ _ _ ?_
    refine W.ret ?_
    try dsimp only [thenQ,blockQ,retQ]
    first|refine ⟨_,⟨_,_,rfl,rfl,rfl⟩,?_⟩|(refine retD_mark ?_; intro w H; refine ⟨_,⟨_,_,rfl,rfl,rfl⟩,?_⟩)|(refine retD_mark2 ?_; intro w H; refine ⟨_,⟨_,_,rfl,rfl,rfl⟩,?_⟩)
    first
    | (have hlt : F v < 4611686018427387906:=Decidable.byContradiction fun k=>by
         have h9 : (ov (F v)).isSome = true:=hs
         rw [ov_none k] at h9; cases h9
       rw [ov_get hlt]
       exact ⟨rfl,Holds.to (by assumption)⟩)
    | (have hlt : ¬ F v < 4611686018427387906:=fun k=>by
         have h9 : ¬ (ov (F v)).isSome = true:=by simpa using hn
         rw [ov_get k] at h9; exact h9 rfl
       exact ⟨congrArg (Value.int .i64) (by omega),Holds.to (by assumption)⟩)
  · refine W.skip ?_
    refine hK1 _ _ _ ?_
    refine W.seq (fun K5 hK5=>?_)
    refine W.region ?_
    refine O.ex (Ex.assign rfl) rfl ?_
    refine O.nil ?_
    refine hK5 _ _ _ ?_
    refine W.ret ?_
    try dsimp only [thenQ,blockQ,retQ]
    first|refine ⟨_,⟨_,_,rfl,rfl,rfl⟩,?_⟩|(refine retD_mark ?_; intro w H; refine ⟨_,⟨_,_,rfl,rfl,rfl⟩,?_⟩)|(refine retD_mark2 ?_; intro w H; refine ⟨_,⟨_,_,rfl,rfl,rfl⟩,?_⟩)
    first
    | (have hlt : F v < 4611686018427387906:=Decidable.byContradiction fun k=>by
         have h9 : (ov (F v)).isSome = true:=hs
         rw [ov_none k] at h9; cases h9
       rw [ov_get hlt]
       exact ⟨rfl,Holds.to (by assumption)⟩)
    | (have hlt : ¬ F v < 4611686018427387906:=fun k=>by
         have h9 : ¬ (ov (F v)).isSome = true:=by simpa using hn
         rw [ov_get k] at h9; exact h9 rfl
       exact ⟨congrArg (Value.int .i64) (by omega),Holds.to (by assumption)⟩)
theorem sto_ct {w : World} {p hh fr br : Nat} {b : Bool} {a : Arc} {L : List HProp} (H : Holds w (pt p (.cells #[.pointer (some ⟨hh,0,none⟩),.pointer (some ⟨fr,0,none⟩),.pointer (some ⟨br,0,none⟩),.bool b] 118 (0,0))::L)) :
    CT Try.prog 103 [.pointer (some ⟨p,0,none⟩),a.val] w fun u w'=>u = .int .i64 (oth a b) ∧ Holds w' (pt p (.cells #[.pointer (some ⟨hh,0,none⟩),.pointer (some ⟨fr,0,none⟩),.pointer (some ⟨br,0,none⟩),.bool b] 118 (0,0))::L):=by
  refine CT.enter (N:=13) Try.func103 rfl rfl rfl rfl ?_
  refine W.seq (fun K0 hK0=>?_)
  refine W.region ?_
  refine O.boxP rfl (fun b3 w H=>?_)
  replace H : Holds w (pt b3 (.cells #[.int .i64 a.t,.int .i64 a.h,.int .i64 a.w,.bool a.cl] 42 (0,0))::pt p (.cells #[.pointer (some ⟨hh,0,none⟩),.pointer (some ⟨fr,0,none⟩),.pointer (some ⟨br,0,none⟩),.bool b] 118 (0,0))::L):=H
  refine O.ex (Ex.assign rfl) rfl ?_
  refine O.nil ?_
  refine hK0 _ _ _ ?_
  refine W.seq (fun K1 hK1=>?_)
  refine W.seq (fun K2 hK2=>?_)
  refine W.region ?_
  refine O.ex (Ex.move rfl) rfl ?_
  refine O.ex (by first|exact Ex.nilPtr rfl|exact Ex.nilFunc rfl|exact Ex.nilYield rfl) rfl ?_
  refine O.ex (by first|exact Ex.field0 fld118_3 rfl|exact Ex.field fld118_3 rfl|exact Ex.fieldS fld118_3 rfl|exact Ex.fieldIn fld118_3 rfl) rfl ?_
  refine O.ex (by first|exact Ex.loadMh Try.isAgg4 rfl|exact Ex.loadInF Try.isAgg4 rfl (Holds.to (by assumption))|exact Ex.loadP Try.isAgg4 rfl|exact Ex.loadM Try.isAgg4 rfl|exact Ex.loadIn1 Try.isAgg4 rfl (Holds.to (by assumption))|exact Ex.loadVc Try.isAgg4 rfl|exact Ex.loadR Try.isAgg4 rfl|exact Ex.loadQ Try.isAgg4 rfl) rfl ?_
  refine O.nil ?_
  refine hK2 _ _ _ ?_
  first|refine W.cond_p rfl (fun hb=>?_) (fun hb=>?_)|refine W.cond_b rfl (fun hb=>?_) (fun hb=>?_)
  · refine W.seq (fun K3 hK3=>?_)
    refine W.region ?_
    refine O.ex (by first|exact Ex.field0 fld42_0 rfl|exact Ex.field fld42_0 rfl|exact Ex.fieldS fld42_0 rfl|exact Ex.fieldIn fld42_0 rfl) rfl ?_
    refine O.ex (by first|exact Ex.loadMh Try.isAgg3 rfl|exact Ex.loadInF Try.isAgg3 rfl (Holds.to (by assumption))|exact Ex.loadP Try.isAgg3 rfl|exact Ex.loadM Try.isAgg3 rfl|exact Ex.loadIn1 Try.isAgg3 rfl (Holds.to (by assumption))|exact Ex.loadVc Try.isAgg3 rfl|exact Ex.loadR Try.isAgg3 rfl|exact Ex.loadQ Try.isAgg3 rfl) rfl ?_
    refine O.ex (Ex.assign rfl) rfl ?_
    refine O.nil ?_
    refine hK3 _ _ _ ?_
    refine W.ret ?_
    try dsimp only [thenQ,blockQ,retQ]
    first|refine ⟨_,⟨_,_,rfl,rfl,rfl⟩,?_⟩|(refine retD_mark ?_; intro w H; refine ⟨_,⟨_,_,rfl,rfl,rfl⟩,?_⟩)|(refine retD_mark2 ?_; intro w H; refine ⟨_,⟨_,_,rfl,rfl,rfl⟩,?_⟩)
    unfold oth
    first
    | (rw [if_pos (show b = true from hb)]; exact ⟨rfl,Holds.to (by assumption)⟩)
    | (rw [if_neg (show ¬ b = true by simpa using hb)]; exact ⟨rfl,Holds.to (by assumption)⟩)
  · refine W.skip ?_
    refine hK1 _ _ _ ?_
    refine W.seq (fun K4 hK4=>?_)
    refine W.region ?_
    refine O.ex (by first|exact Ex.field0 fld42_1 rfl|exact Ex.field fld42_1 rfl|exact Ex.fieldS fld42_1 rfl|exact Ex.fieldIn fld42_1 rfl) rfl ?_
    refine O.ex (by first|exact Ex.loadMh Try.isAgg3 rfl|exact Ex.loadInF Try.isAgg3 rfl (Holds.to (by assumption))|exact Ex.loadP Try.isAgg3 rfl|exact Ex.loadM Try.isAgg3 rfl|exact Ex.loadIn1 Try.isAgg3 rfl (Holds.to (by assumption))|exact Ex.loadVc Try.isAgg3 rfl|exact Ex.loadR Try.isAgg3 rfl|exact Ex.loadQ Try.isAgg3 rfl) rfl ?_
    refine O.ex (Ex.assign rfl) rfl ?_
    refine O.nil ?_
    refine hK4 _ _ _ ?_
    refine W.ret ?_
    try dsimp only [thenQ,blockQ,retQ]
    first|refine ⟨_,⟨_,_,rfl,rfl,rfl⟩,?_⟩|(refine retD_mark ?_; intro w H; refine ⟨_,⟨_,_,rfl,rfl,rfl⟩,?_⟩)|(refine retD_mark2 ?_; intro w H; refine ⟨_,⟨_,_,rfl,rfl,rfl⟩,?_⟩)
    unfold oth
    first
    | (rw [if_pos (show b = true from hb)]; exact ⟨rfl,Holds.to (by assumption)⟩)
    | (rw [if_neg (show ¬ b = true by simpa using hb)]; exact ⟨rfl,Holds.to (by assumption)⟩)
theorem sarcsout_ct {w : World} {p hh fr br g : Nat} {v : Int} {L : List HProp} (H : Holds w (pt p (.cells #[.pointer (some ⟨hh,0,none⟩),.pointer (some ⟨fr,0,none⟩),.pointer (some ⟨br,0,none⟩),.bool false] 118 (0,0))::L)) :
    CT Try.prog 102 [.pointer (some ⟨p,0,none⟩),.pointer (some ⟨g,0,none⟩),.int .i64 v] w fun u w'=>∃ c2 c3,u = .func (.func 73) #[] #[.pointer (some ⟨c2,0,none⟩),.pointer (some ⟨c3,0,none⟩)] ∧ Holds w' (capO c2 c3 g v::pt p (.cells #[.pointer (some ⟨hh,0,none⟩),.pointer (some ⟨fr,0,none⟩),.pointer (some ⟨br,0,none⟩),.bool false] 118 (0,0))::L):=by
  refine CT.enter (N:=17) Try.func102 rfl rfl rfl rfl ?_
  refine W.seq (fun K0 hK0=>?_)
  refine W.region ?_
  refine O.ex (Ex.assign rfl) rfl ?_
  refine O.nil ?_
  refine hK0 _ _ _ ?_
  refine W.seq (fun K1 hK1=>?_)
  refine W.seq (fun K2 hK2=>?_)
  refine W.region ?_
  refine O.ex (Ex.move rfl) rfl ?_
  refine O.ex (by first|exact Ex.nilPtr rfl|exact Ex.nilFunc rfl|exact Ex.nilYield rfl) rfl ?_
  refine O.ex (by first|exact Ex.field0 fld118_3 rfl|exact Ex.field fld118_3 rfl|exact Ex.fieldS fld118_3 rfl|exact Ex.fieldIn fld118_3 rfl) rfl ?_
  refine O.ex (by first|exact Ex.loadMh Try.isAgg4 rfl|exact Ex.loadInF Try.isAgg4 rfl (Holds.to (by assumption))|exact Ex.loadP Try.isAgg4 rfl|exact Ex.loadM Try.isAgg4 rfl|exact Ex.loadIn1 Try.isAgg4 rfl (Holds.to (by assumption))|exact Ex.loadVc Try.isAgg4 rfl|exact Ex.loadR Try.isAgg4 rfl|exact Ex.loadQ Try.isAgg4 rfl) rfl ?_
  refine O.nil ?_
  refine hK2 _ _ _ ?_
  refine W.known_f rfl (by first|rfl|decide) ?_
  refine W.skip ?_
  refine hK1 _ _ _ ?_
  refine W.seq (fun K3 hK3=>?_)
  refine W.region ?_
  refine O.ex (Ex.move rfl) rfl ?_
  refine O.ex (Ex.move rfl) rfl ?_
  refine O.callF Try.call44 rfl rfl (CT.mono (gout_ct (g:=g) (v:=v) (Holds.to (by assumption))) ?_)
  rintro _ w ⟨c2,c3,rfl,H⟩
  refine O.ex (Ex.assign rfl) rfl ?_
  refine O.nil ?_
  refine hK3 _ _ _ ?_
  refine W.ret ?_
  try dsimp only [thenQ,blockQ,retQ]
  first|refine ⟨_,⟨_,_,rfl,rfl,rfl⟩,?_⟩|(refine retD_mark ?_; intro w H; refine ⟨_,⟨_,_,rfl,rfl,rfl⟩,?_⟩)|(refine retD_mark2 ?_; intro w H; refine ⟨_,⟨_,_,rfl,rfl,rfl⟩,?_⟩)
  exact ⟨c2,c3,rfl,Holds.to (by assumption)⟩
theorem sarcsin_ct {w : World} {p hh fr br g : Nat} {v : Int} {L : List HProp} (H : Holds w (pt p (.cells #[.pointer (some ⟨hh,0,none⟩),.pointer (some ⟨fr,0,none⟩),.pointer (some ⟨br,0,none⟩),.bool true] 118 (0,0))::L)) :
    CT Try.prog 102 [.pointer (some ⟨p,0,none⟩),.pointer (some ⟨g,0,none⟩),.int .i64 v] w fun u w'=>∃ c2 c3,u = .func (.func 77) #[] #[.pointer (some ⟨c2,0,none⟩),.pointer (some ⟨c3,0,none⟩)] ∧ Holds w' (capO c2 c3 g v::pt p (.cells #[.pointer (some ⟨hh,0,none⟩),.pointer (some ⟨fr,0,none⟩),.pointer (some ⟨br,0,none⟩),.bool true] 118 (0,0))::L):=by
  refine CT.enter (N:=17) Try.func102 rfl rfl rfl rfl ?_
  refine W.seq (fun K0 hK0=>?_)
  refine W.region ?_
  refine O.ex (Ex.assign rfl) rfl ?_
  refine O.nil ?_
  refine hK0 _ _ _ ?_
  refine W.seq (fun K1 hK1=>?_)
  refine W.seq (fun K2 hK2=>?_)
  refine W.region ?_
  refine O.ex (Ex.move rfl) rfl ?_
  refine O.ex (by first|exact Ex.nilPtr rfl|exact Ex.nilFunc rfl|exact Ex.nilYield rfl) rfl ?_
  refine O.ex (by first|exact Ex.field0 fld118_3 rfl|exact Ex.field fld118_3 rfl|exact Ex.fieldS fld118_3 rfl|exact Ex.fieldIn fld118_3 rfl) rfl ?_
  refine O.ex (by first|exact Ex.loadMh Try.isAgg4 rfl|exact Ex.loadInF Try.isAgg4 rfl (Holds.to (by assumption))|exact Ex.loadP Try.isAgg4 rfl|exact Ex.loadM Try.isAgg4 rfl|exact Ex.loadIn1 Try.isAgg4 rfl (Holds.to (by assumption))|exact Ex.loadVc Try.isAgg4 rfl|exact Ex.loadR Try.isAgg4 rfl|exact Ex.loadQ Try.isAgg4 rfl) rfl ?_
  refine O.nil ?_
  refine hK2 _ _ _ ?_
  refine W.known_t rfl (by first|rfl|decide) ?_
  refine W.seq (fun K3 hK3=>?_)
  refine W.region ?_
  refine O.ex (Ex.move rfl) rfl ?_
  refine O.ex (Ex.move rfl) rfl ?_
  refine O.callF Try.call48 rfl rfl (CT.mono (gin_ct (g:=g) (v:=v) (Holds.to (by assumption))) ?_)
  rintro _ w ⟨c2,c3,rfl,H⟩
  refine O.ex (Ex.assign rfl) rfl ?_
  refine O.nil ?_
  refine hK3 _ _ _ ?_
  refine W.ret ?_
  try dsimp only [thenQ,blockQ,retQ]
  first|refine ⟨_,⟨_,_,rfl,rfl,rfl⟩,?_⟩|(refine retD_mark ?_; intro w H; refine ⟨_,⟨_,_,rfl,rfl,rfl⟩,?_⟩)|(refine retD_mark2 ?_; intro w H; refine ⟨_,⟨_,_,rfl,rfl,rfl⟩,?_⟩)
  exact ⟨c2,c3,rfl,Holds.to (by assumption)⟩
end Go.Proofs.Ytliofdfhimmjmaa
