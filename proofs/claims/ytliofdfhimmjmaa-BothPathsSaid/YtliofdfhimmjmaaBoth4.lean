import Derived.Test.YtliofdfhimmjmaaBoth3
import Derived.Test.YtliofdfhimmjmaaBothLaw3
namespace Go.Proofs.Ytliofdfhimmjmaa
open Go.Rr Go Gr Hp
set_option linter.unusedVariables false
set_option linter.unusedSimpArgs false
theorem bvert_ct {w : World} {g : Nat} {n most v t : Int} {s : St} {L : List HProp} (hn : 0 ≤ n) (H : Holds w (Gh g n most s::L)) :
    CT Try.prog 53 [.pointer (some ⟨g,0,none⟩),.int .i64 v,.int .i64 t] w fun u w'=>u = .bool (decide ((0 ≤ v ∧ v < n) ∧ (0 ≤ t ∧ t < n))) ∧ Holds w' (Gh g n most s::L):=by
  refine CT.enter (N:=19) Try.func53 rfl rfl rfl rfl ?_
  refine W.seq (fun K0 hK0=>?_)
  refine W.region ?_
  refine O.ex (Ex.assign rfl) rfl ?_
  refine O.nil ?_
  refine hK0 _ _ _ ?_
  refine W.seq (fun K1 hK1=>?_)
  refine W.region ?_
  refine O.ex (Ex.move rfl) rfl ?_
  refine O.ex (Ex.move rfl) rfl ?_
  refine O.ex (Ex.minI rfl rfl) rfl ?_
  refine O.ex (Ex.geq rfl rfl) rfl ?_
  refine O.ex (Ex.move rfl) rfl ?_
  first|refine O.split_p (t:=11) rfl (fun h0=>?_) (fun h0=>?_)|refine O.split (t:=11) rfl (fun h0=>?_) (fun h0=>?_)
  · refine O.guard_t rfl rfl ?_
    refine O.ex (Ex.move rfl) rfl ?_
    refine O.guard_t rfl rfl ?_
    refine O.ex (Ex.move rfl) rfl ?_
    refine O.guard_t rfl rfl ?_
    refine O.ex (Ex.maxI rfl rfl) rfl ?_
    refine O.guard_t rfl rfl ?_
    refine O.ex (Ex.move rfl) rfl ?_
    refine O.guard_t rfl rfl ?_
    refine O.callF Try.call66 rfl rfl (CT.mono (gvertices_ct (g:=g) hn (Holds.to (by assumption))) ?_)
    rintro _ w ⟨rfl,H⟩
    refine O.guard_t rfl rfl ?_
    refine O.ex (Ex.lss rfl rfl) rfl ?_
    refine O.ex (Ex.pick_t rfl rfl) rfl ?_
    refine O.ex (Ex.assign rfl) rfl ?_
    refine O.nil ?_
    refine hK1 _ _ _ ?_
    refine W.ret ?_
    try dsimp only [thenQ,blockQ,retQ]
    first|refine ⟨_,⟨_,_,rfl,rfl,rfl⟩,?_⟩|(refine retD_mark ?_; intro w H; refine ⟨_,⟨_,_,rfl,rfl,rfl⟩,?_⟩)|(refine retD_mark2 ?_; intro w H; refine ⟨_,⟨_,_,rfl,rfl,rfl⟩,?_⟩)
    refine ⟨congrArg Value.bool ?_,Holds.to (by assumption)⟩
    first
    | exact decide_eq_decide.2 (by omega)
    | exact (decide_eq_false (by omega)).symm
  · refine O.guard_f rfl rfl rfl rfl ?_
    refine O.guard_f rfl rfl rfl rfl ?_
    refine O.guard_f rfl rfl rfl rfl ?_
    refine O.guard_f rfl rfl rfl rfl ?_
    refine O.guard_f rfl rfl rfl rfl ?_
    refine O.guard_f rfl rfl rfl rfl ?_
    refine O.ex (Ex.pick_f rfl rfl) rfl ?_
    refine O.ex (Ex.assign rfl) rfl ?_
    refine O.nil ?_
    refine hK1 _ _ _ ?_
    refine W.ret ?_
    try dsimp only [thenQ,blockQ,retQ]
    first|refine ⟨_,⟨_,_,rfl,rfl,rfl⟩,?_⟩|(refine retD_mark ?_; intro w H; refine ⟨_,⟨_,_,rfl,rfl,rfl⟩,?_⟩)|(refine retD_mark2 ?_; intro w H; refine ⟨_,⟨_,_,rfl,rfl,rfl⟩,?_⟩)
    refine ⟨congrArg Value.bool ?_,Holds.to (by assumption)⟩
    first
    | exact decide_eq_decide.2 (by omega)
    | exact (decide_eq_false (by omega)).symm
set_option maxHeartbeats 1000000 in
theorem bdist_ct {w : World} {g : Nat} {n most v t : Int} {s : St} {L : List HProp} (hg : GOk n most s) (H : Holds w (Gh g n most s::L)) :
    CT Try.prog 31 [.pointer (some ⟨g,0,none⟩),.int .i64 v,.int .i64 t] w fun u w' =>
      (¬ ((0 ≤ v ∧ v < n) ∧ (0 ≤ t ∧ t < n)) ∧ u = .tuple #[.int .i64 0,.int .i64 1] ∧ Holds w' (Gh g n most s::L)) ∨ (((0 ≤ v ∧ v < n) ∧ (0 ≤ t ∧ t < n)) ∧ u = .tuple #[.int .i64 (far n (cG s) v t),.int .i64 0] ∧ Holds w' (Gh g n most s::L)):=by
  have n1:=hg.n1
  refine CT.enter (N:=24) Try.func31 rfl rfl rfl rfl ?_
  refine W.seq (fun K0 hK0=>?_)
  refine W.region ?_
  refine O.ex (Ex.assign rfl) rfl ?_
  refine O.ex (Ex.assign rfl) rfl ?_
  refine O.nil ?_
  refine hK0 _ _ _ ?_
  refine W.seq (fun K1 hK1=>?_)
  refine W.seq (fun K2 hK2=>?_)
  refine W.region ?_
  refine O.ex (Ex.move rfl) rfl ?_
  refine O.ex (Ex.move rfl) rfl ?_
  refine O.ex (Ex.move rfl) rfl ?_
  refine O.callF Try.call53 rfl rfl (CT.mono (bvert_ct (g:=g) (n:=n) (most:=most) (s:=s) (by omega) (Holds.to (by assumption))) ?_)
  rintro _ w ⟨rfl,H⟩
  refine O.ex (by first|exact Ex.notD rfl|exact Ex.not rfl) rfl ?_
  refine O.nil ?_
  refine hK2 _ _ _ ?_
  first|refine W.cond_p rfl (fun hno=>?_) (fun hyes=>?_)|refine W.cond_b rfl (fun hno=>?_) (fun hyes=>?_)
  · refine W.seq (fun K3 hK3=>?_)
    refine W.region ?_
    refine O.ex (Ex.assign rfl) rfl ?_
    refine O.ex (Ex.assign rfl) rfl ?_
    refine O.nil ?_
    refine hK3 _ _ _ ?_
    refine W.ret ?_
    try dsimp only [thenQ,blockQ,retQ]
    first|refine ⟨_,⟨_,_,rfl,rfl,_,_,rfl,rfl,rfl⟩,?_⟩|(refine retD_mark ?_; intro w H; refine ⟨_,⟨_,_,rfl,rfl,_,_,rfl,rfl,rfl⟩,?_⟩)|(refine retD_mark2 ?_; intro w H; refine ⟨_,⟨_,_,rfl,rfl,_,_,rfl,rfl,rfl⟩,?_⟩)
    first
    | (have hno' : ¬ ((0 ≤ v ∧ v < n) ∧ (0 ≤ t ∧ t < n)):=by have h9:=hno; simp at h9; omega
       exact .inl ⟨hno',rfl,Holds.to (by assumption)⟩)
    | (rw [hm1]
       exact .inr ⟨hr,rfl,Holds.to (by assumption)⟩)
  · refine W.skip ?_
    refine hK1 _ _ _ ?_
    refine W.seq (fun K4 hK4=>?_)
    refine W.region ?_
    have hr : (0 ≤ v ∧ v < n) ∧ (0 ≤ t ∧ t < n):=by have h9:=hyes; simp at h9; omega
    obtain ⟨s0,rfl⟩ : ∃ s0 : Nat,v = (s0 : Int):=⟨v.toNat,by omega⟩
    obtain ⟨t0,rfl⟩ : ∃ t0 : Nat,t = (t0 : Int):=⟨t.toNat,by omega⟩
    refine O.ex (Ex.move rfl) rfl ?_
    refine O.ex (Ex.move rfl) rfl ?_
    refine O.ex (Ex.move rfl) rfl ?_
    refine O.callF Try.call54 rfl rfl (CT.mono (bsearch_ct (g:=g) (s0:=s0) (t0:=t0) hg (by omega) (by omega) (Holds.to (by assumption))) ?_)
    rintro _ w ⟨p0,hh0,fr0,br0,p1,hh1,fr1,br1,i,j,m,rfl,⟨hm1,hm2⟩,H⟩
    refine O.ex (Ex.move rfl) rfl ?_
    refine O.ex (Ex.extract rfl rfl) rfl ?_
    refine O.ex (Ex.extract rfl rfl) rfl ?_
    refine O.allocP Try.zeroValue82 (fun b8 w H=>?_)
    refine O.allocP Try.zeroValue84 (fun b9 w H=>?_)
    first|refine O.storeAggP Try.sizeOf82 rfl rfl rfl rfl (fun w H=>?_)|refine O.storeAggN Try.sizeOf82 rfl rfl rfl (fun w H=>?_) rfl
    first|refine O.storeAggP Try.sizeOf84 rfl rfl rfl rfl (fun w H=>?_)|refine O.storeAggN Try.sizeOf84 rfl rfl rfl (fun w H=>?_) rfl
    replace H : Holds w (pt b9 (.cells #[.int .i64 m.1,.int .i64 m.2] 84 (0,0))::Gh g n most s::L):=Holds.to H
    refine O.nil ?_
    refine hK4 _ _ _ ?_
    refine W.seq (fun K5 hK5=>?_)
    refine W.region ?_
    refine O.ex (by first|exact Ex.field0 fld84_1 rfl|exact Ex.field fld84_1 rfl|exact Ex.fieldS fld84_1 rfl|exact Ex.fieldIn fld84_1 rfl) rfl ?_
    refine O.ex (by first|exact Ex.loadMh Try.isAgg3 rfl|exact Ex.loadInF Try.isAgg3 rfl (Holds.to (by assumption))|exact Ex.loadP Try.isAgg3 rfl|exact Ex.loadM Try.isAgg3 rfl|exact Ex.loadIn1 Try.isAgg3 rfl (Holds.to (by assumption))|exact Ex.loadVc Try.isAgg3 rfl|exact Ex.loadR Try.isAgg3 rfl|exact Ex.loadQ Try.isAgg3 rfl) rfl ?_
    refine O.ex (Ex.assign rfl) rfl ?_
    refine O.ex (Ex.assign rfl) rfl ?_
    refine O.nil ?_
    refine hK5 _ _ _ ?_
    refine W.ret ?_
    try dsimp only [thenQ,blockQ,retQ]
    first|refine ⟨_,⟨_,_,rfl,rfl,_,_,rfl,rfl,rfl⟩,?_⟩|(refine retD_mark ?_; intro w H; refine ⟨_,⟨_,_,rfl,rfl,_,_,rfl,rfl,rfl⟩,?_⟩)|(refine retD_mark2 ?_; intro w H; refine ⟨_,⟨_,_,rfl,rfl,_,_,rfl,rfl,rfl⟩,?_⟩)
    first
    | (have hno' : ¬ ((0 ≤ v ∧ v < n) ∧ (0 ≤ t ∧ t < n)):=by have h9:=hno; simp at h9; omega
       exact .inl ⟨hno',rfl,Holds.to (by assumption)⟩)
    | (rw [hm1]
       exact .inr ⟨hr,rfl,Holds.to (by assumption)⟩)
set_option maxHeartbeats 2000000 in
theorem wayout_ct {w : World} {p hh fw br g s0 j x : Nat} {n most : Int} {s : St} {L : List HProp} (hg : GOk n most s) (h1 : s0 < n.toNat) (hx : x < n.toNat) (hxm : Far n s false s0 j x ≤ 4611686018427387904) (H : Holds w (Sd p hh fw br n s false s0 j::Gh g n most s::L)) :
    CT Try.prog 55 [.pointer (some ⟨p,0,none⟩),.pointer (some ⟨g,0,none⟩),.int .i64 (x : Int)] w fun u w'=>∃ l,u.oneCell' = true ∧ l.length ≤ 24 ∧ Wl s (s0 : Int) l.reverse (x : Int) (Far n s false s0 j x) ∧ Holds w' (arr 3 (Value.int .i64) u l::Sd p hh fw br n s false s0 j::Gh g n most s::L):=by
  have n1:=hg.n1
  have n2:=hg.n2
  have hG:=cD_good hg false
  have hxd : Dst (Far n s false s0 j x):=fq_dst hG j x
  obtain ⟨f,hf,H⟩:=sdB_open.1 (Holds.to (M:=SdB br n.toNat (ByOk n s false s0 (Far n s false s0 j) (fun w=>Wt.isIn (stN n (cD s false) s0 j) w))::pcS p hh fw br false::HqI hh (Wt.hpW n.toNat (cD s false) s0 0 (stN n (cD s false) s0 j))::RowF fw n.toNat (fun w=>ov (Far n s false s0 j w))::Gh g n most s::L) (sd_open.1 H))
  have hst : ∀ u,Wt.isIn (stN n (cD s false) s0 j) u → Far n s false s0 j u = far n (cD s false) s0 u:=fun u hu=>fq_in hu
  refine CT.enter (N:=50) Try.func55 rfl rfl rfl rfl ?_
  refine W.seq (fun K0 hK0=>?_)
  refine W.region ?_
  refine O.ex (Ex.assign rfl) rfl ?_
  refine O.nil ?_
  refine hK0 _ _ _ ?_
  refine W.seq (fun K1 hK1=>?_)
  refine W.region ?_
  refine O.ex (Ex.assign rfl) rfl ?_
  refine O.nil ?_
  refine hK1 _ _ _ ?_
  refine W.seq (fun K2 hK2=>?_)
  refine W.seq (fun K3 hK3=>?_)
  refine W.region ?_
  refine O.ex (Ex.move rfl) rfl ?_
  refine O.ex (by first|exact Ex.nilPtr rfl|exact Ex.nilFunc rfl|exact Ex.nilYield rfl) rfl ?_
  refine O.ex (by first|exact Ex.field0 fld118_2 rfl|exact Ex.field fld118_2 rfl|exact Ex.fieldS fld118_2 rfl|exact Ex.fieldIn fld118_2 rfl) rfl ?_
  refine O.ex (by first|exact Ex.loadMh Try.isAgg116 rfl|exact Ex.loadInF Try.isAgg116 rfl (Holds.to (by assumption))|exact Ex.loadP Try.isAgg116 rfl|exact Ex.loadM Try.isAgg116 rfl|exact Ex.loadIn1 Try.isAgg116 rfl (Holds.to (by assumption))|exact Ex.loadVc Try.isAgg116 rfl|exact Ex.loadR Try.isAgg116 rfl|exact Ex.loadQ Try.isAgg116 rfl) rfl ?_
  refine O.ex (Ex.move rfl) rfl ?_
  refine O.callF Try.call84 rfl rfl (CT.mono (getF_ct (N:=n.toNat) (i:=x) (f:=f) hx (Holds.to (M:=RowF br n.toNat f::_) (by assumption))) ?_)
  rintro _ w ⟨rfl,H⟩
  refine O.ex (Ex.move rfl) rfl ?_
  refine O.ex (Ex.extract rfl rfl) rfl ?_
  refine O.ex (Ex.extract rfl rfl) rfl ?_
  refine O.ex (Ex.assign rfl) rfl ?_
  refine O.ex (Ex.assign rfl) rfl ?_
  refine O.nil ?_
  refine hK3 _ _ _ ?_
  refine W.block ?_
  have H:=arr_nil (T:=3) (e:=Value.int .i64) H
  refine W.loop (σ:=List Int × Value × Nat × Int) (fun z=>[(0,.pointer (some ⟨p,0,none⟩)),(1,.pointer (some ⟨g,0,none⟩)),(2,.int .i64 (z.2.2.1 : Int)),(7,z.2.1),(8,.int .i64 ((f z.2.2.1).getD 0)),(9,.bool (f z.2.2.1).isSome)]) (fun z ds w=>ds = [] ∧ z.2.1.oneCell' = true ∧ z.2.2.1 < n.toNat ∧ Abv n.toNat (Far n s false s0 j) (Far n s false s0 j z.2.2.1) z.1.length ∧ Wl s (z.2.2.1 : Int) z.1.reverse (x : Int) z.2.2.2 ∧ two (Far n s false s0 j z.2.2.1) z.2.2.2 = Far n s false s0 j x ∧ Holds w (arr 3 (Value.int .i64) z.2.1 z.1::pcS p hh fw br false::HqI hh (Wt.hpW n.toNat (cD s false) s0 0 (stN n (cD s false) s0 j))::RowF fw n.toNat (fun w=>ov (Far n s false s0 j w))::RowF br n.toNat f::Gh g n most s::L)) (fun z=>(Far n s false s0 j z.2.2.1).toNat) ([],.slice none 0 0,x,0) ⟨rfl,rfl,rfl,rfl,rfl,rfl,trivial⟩ ⟨rfl,rfl,hx,Abv.zero _ _ _,⟨rfl,rfl⟩,two_zero hxd,Holds.to (by assumption)⟩ ?_
  clear H
  rintro ⟨l,ovv,v,tl⟩ _ w ⟨rfl,hov,hv,hab,hW,hS,H⟩
  dsimp only at hov hv hab hW hS H ⊢
  have hll:=hab.le
  have hvd : Dst (Far n s false s0 j v):=fq_dst hG j v
  refine W.seq (fun K4 hK4=>?_)
  refine W.seq (fun K5 hK5=>?_)
  refine W.region ?_
  refine O.ex (Ex.move rfl) rfl ?_
  refine O.nil ?_
  refine hK5 _ _ _ ?_
  first|refine W.cond_p rfl (fun hsome=>?_) (fun hnone=>?_)|refine W.cond_b rfl (fun hsome=>?_) (fun hnone=>?_)
  · refine W.skip ?_
    refine hK4 _ _ _ ?_
    refine W.seq (fun K6 hK6=>?_)
    refine W.block ?_
    refine W.seq (fun K7 hK7=>?_)
    refine W.region ?_
    obtain ⟨id,hid⟩ : ∃ id,f v = some id:=Option.isSome_iff_exists.1 hsome
    obtain ⟨u,u1,u2,u3,u4,u5,u6⟩:=way_f hg hf hst hv hid hxm hvd hW hS
    rw [hid]
    rw [show (some id).getD 0 = id from rfl]
    have hab2:=hab.step hv u4
    refine O.ex (Ex.move rfl) rfl ?_
    refine O.ex (Ex.move rfl) rfl ?_
    refine O.build1 (e:=Value.int .i64) Try.runUnderlying28 Try.sizeOf3 Try.zeroValue3 rfl (fun v33 w hv33 H=>?_)
    refine O.appendR Try.runUnderlying28 Try.typeInfo3 (bt:=8) rfl Try.sizeOf3 Try.zeroValue3 rfl rfl (fun v34 w hv34 H=>?_)
    refine O.ex (Ex.assign rfl) rfl ?_
    refine O.nil ?_
    refine hK7 _ _ _ ?_
    refine W.seq (fun K8 hK8=>?_)
    refine W.region ?_
    refine O.ex (Ex.move rfl) rfl ?_
    refine O.ex (Ex.move rfl) rfl ?_
    refine O.callF Try.call40 rfl rfl (CT.mono (garc_ct (g:=g) (Holds.to (by assumption))) ?_)
    rintro _ w ⟨rfl,H⟩
    refine O.ex (Ex.move rfl) rfl ?_
    refine O.ex (Ex.extract rfl rfl) rfl ?_
    refine O.ex (Ex.extract rfl rfl) rfl ?_
    refine O.allocP Try.zeroValue42 (fun b10 w H=>?_)
    first|refine O.storeAggP Try.sizeOf42 rfl rfl rfl rfl (fun w H=>?_)|refine O.storeAggN Try.sizeOf42 rfl rfl rfl (fun w H=>?_) rfl
    replace H : Holds w (pt b10 (.cells #[.int .i64 (arcQ s id).t,.int .i64 (arcQ s id).h,.int .i64 (arcQ s id).w,.bool (arcQ s id).cl] 42 (0,0))::arr 3 (Value.int .i64) v34 (l ++ [id])::pcS p hh fw br false::HqI hh (Wt.hpW n.toNat (cD s false) s0 0 (stN n (cD s false) s0 j))::RowF fw n.toNat (fun w=>ov (Far n s false s0 j w))::RowF br n.toNat f::Gh g n most s::L):=Holds.to H
    refine O.ex (Ex.assign rfl) rfl ?_
    refine O.nil ?_
    refine hK8 _ _ _ ?_
    refine W.seq (fun K9 hK9=>?_)
    refine W.region ?_
    refine O.ex (by first|exact Ex.field0 fld42_0 rfl|exact Ex.field fld42_0 rfl|exact Ex.fieldS fld42_0 rfl|exact Ex.fieldIn fld42_0 rfl) rfl ?_
    refine O.ex (by first|exact Ex.loadMh Try.isAgg3 rfl|exact Ex.loadInF Try.isAgg3 rfl (Holds.to (by assumption))|exact Ex.loadP Try.isAgg3 rfl|exact Ex.loadM Try.isAgg3 rfl|exact Ex.loadIn1 Try.isAgg3 rfl (Holds.to (by assumption))|exact Ex.loadVc Try.isAgg3 rfl|exact Ex.loadR Try.isAgg3 rfl|exact Ex.loadQ Try.isAgg3 rfl) rfl ?_
    refine O.ex (Ex.assign rfl) rfl ?_
    refine O.nil ?_
    refine hK9 _ _ _ ?_
    refine W.seq (fun K10 hK10=>?_)
    refine W.region ?_
    refine O.ex (Ex.move rfl) rfl ?_
    refine O.ex (by first|exact Ex.nilPtr rfl|exact Ex.nilFunc rfl|exact Ex.nilYield rfl) rfl ?_
    refine O.ex (by first|exact Ex.field0 fld118_3 rfl|exact Ex.field fld118_3 rfl|exact Ex.fieldS fld118_3 rfl|exact Ex.fieldIn fld118_3 rfl) rfl ?_
    refine O.ex (by first|exact Ex.loadMh Try.isAgg4 rfl|exact Ex.loadInF Try.isAgg4 rfl (Holds.to (by assumption))|exact Ex.loadP Try.isAgg4 rfl|exact Ex.loadM Try.isAgg4 rfl|exact Ex.loadIn1 Try.isAgg4 rfl (Holds.to (by assumption))|exact Ex.loadVc Try.isAgg4 rfl|exact Ex.loadR Try.isAgg4 rfl|exact Ex.loadQ Try.isAgg4 rfl) rfl ?_
    refine O.nil ?_
    refine hK10 _ _ _ ?_
    refine W.known_f rfl (by first|rfl|decide) ?_
    refine W.skip ?_
    refine hK6 _ _ _ ?_
    refine W.region ?_
    rw [← u2]
    refine O.ex (Ex.move rfl) rfl ?_
    refine O.ex (by first|exact Ex.nilPtr rfl|exact Ex.nilFunc rfl|exact Ex.nilYield rfl) rfl ?_
    refine O.ex (by first|exact Ex.field0 fld118_2 rfl|exact Ex.field fld118_2 rfl|exact Ex.fieldS fld118_2 rfl|exact Ex.fieldIn fld118_2 rfl) rfl ?_
    refine O.ex (by first|exact Ex.loadMh Try.isAgg116 rfl|exact Ex.loadInF Try.isAgg116 rfl (Holds.to (by assumption))|exact Ex.loadP Try.isAgg116 rfl|exact Ex.loadM Try.isAgg116 rfl|exact Ex.loadIn1 Try.isAgg116 rfl (Holds.to (by assumption))|exact Ex.loadVc Try.isAgg116 rfl|exact Ex.loadR Try.isAgg116 rfl|exact Ex.loadQ Try.isAgg116 rfl) rfl ?_
    refine O.ex (Ex.move rfl) rfl ?_
    refine O.callF Try.call84 rfl rfl (CT.mono (getF_ct (N:=n.toNat) (i:=u) (f:=f) u1 (Holds.to (M:=RowF br n.toNat f::_) (by assumption))) ?_)
    rintro _ w ⟨rfl,H⟩
    refine O.ex (Ex.move rfl) rfl ?_
    refine O.ex (Ex.extract rfl rfl) rfl ?_
    refine O.ex (Ex.extract rfl rfl) rfl ?_
    refine O.ex (Ex.assign rfl) rfl ?_
    refine O.ex (Ex.assign rfl) rfl ?_
    refine O.nil ?_
    have hov2:=arr_one (Holds.to (M:=arr 3 (Value.int .i64) v34 (l ++ [id])::[]) H)
    exact ⟨(l ++ [id],v34,u,two (arcQ s id).w tl),⟨rfl,rfl,rfl,rfl,rfl,rfl,trivial⟩,⟨rfl,hov2,u1,by rw [List.length_append,List.length_singleton]; exact hab2,u5,u6,Holds.to (by assumption)⟩,by have h9:=u3.1; dsimp only; omega⟩
  · refine W.exit ?_
    refine hK2 _ _ _ ?_
    refine W.seq (fun K11 hK11=>?_)
    refine W.region ?_
    refine O.ex (Ex.move rfl) rfl ?_
    refine O.ex (Ex.assign rfl) rfl ?_
    refine O.nil ?_
    refine hK11 _ _ _ ?_
    refine W.ret ?_
    try dsimp only [thenQ,blockQ,retQ]
    first|refine ⟨_,⟨_,_,rfl,rfl,rfl⟩,?_⟩|(refine retD_mark ?_; intro w H; refine ⟨_,⟨_,_,rfl,rfl,rfl⟩,?_⟩)|(refine retD_mark2 ?_; intro w H; refine ⟨_,⟨_,_,rfl,rfl,rfl⟩,?_⟩)
    have hfn : f v = none:=by simpa using hnone
    have htl:=Wl.dst hg hW
    have hvm : Far n s false s0 j v ≤ 4611686018427387904:=by first|(have:=le_two_left hvd htl; omega)|(have:=le_two_right htl hvd; omega)
    have hvs:=way_end hf hv hfn hvm
    have hz : Far n s false s0 j s0 = 0:=fq_self hG h1 j
    rw [hvs] at hW hS
    rw [hz] at hS
    have htle : tl = Far n s false s0 j x:=by first|rwa [zero_two htl] at hS|rwa [two_zero htl] at hS
    rw [htle] at hW
    refine ⟨l,hov,by omega,hW,?_⟩
    have H:=sdB_open.2 ⟨f,hf,Holds.to (M:=RowF br n.toNat f::_) H⟩
    have H2 : Holds _ (Sd p hh fw br n s false s0 j::arr 3 (Value.int .i64) ovv l::Gh g n most s::L):=sd_open.2 (Holds.to (by assumption))
    exact H2.swap
set_option maxHeartbeats 2000000 in
theorem wayin_ct {w : World} {p hh fw br g s0 j x : Nat} {n most : Int} {s : St} {L : List HProp} (hg : GOk n most s) (h1 : s0 < n.toNat) (hx : x < n.toNat) (hxm : Far n s true s0 j x ≤ 4611686018427387904) (H : Holds w (Sd p hh fw br n s true s0 j::Gh g n most s::L)) :
    CT Try.prog 55 [.pointer (some ⟨p,0,none⟩),.pointer (some ⟨g,0,none⟩),.int .i64 (x : Int)] w fun u w'=>∃ l,u.oneCell' = true ∧ l.length ≤ 24 ∧ Wl s (x : Int) l (s0 : Int) (Far n s true s0 j x) ∧ Holds w' (arr 3 (Value.int .i64) u l::Sd p hh fw br n s true s0 j::Gh g n most s::L):=by
  have n1:=hg.n1
  have n2:=hg.n2
  have hG:=cD_good hg true
  have hxd : Dst (Far n s true s0 j x):=fq_dst hG j x
  obtain ⟨f,hf,H⟩:=sdB_open.1 (Holds.to (M:=SdB br n.toNat (ByOk n s true s0 (Far n s true s0 j) (fun w=>Wt.isIn (stN n (cD s true) s0 j) w))::pcS p hh fw br true::HqI hh (Wt.hpW n.toNat (cD s true) s0 0 (stN n (cD s true) s0 j))::RowF fw n.toNat (fun w=>ov (Far n s true s0 j w))::Gh g n most s::L) (sd_open.1 H))
  have hst : ∀ u,Wt.isIn (stN n (cD s true) s0 j) u → Far n s true s0 j u = far n (cD s true) s0 u:=fun u hu=>fq_in hu
  refine CT.enter (N:=50) Try.func55 rfl rfl rfl rfl ?_
  refine W.seq (fun K0 hK0=>?_)
  refine W.region ?_
  refine O.ex (Ex.assign rfl) rfl ?_
  refine O.nil ?_
  refine hK0 _ _ _ ?_
  refine W.seq (fun K1 hK1=>?_)
  refine W.region ?_
  refine O.ex (Ex.assign rfl) rfl ?_
  refine O.nil ?_
  refine hK1 _ _ _ ?_
  refine W.seq (fun K2 hK2=>?_)
  refine W.seq (fun K3 hK3=>?_)
  refine W.region ?_
  refine O.ex (Ex.move rfl) rfl ?_
  refine O.ex (by first|exact Ex.nilPtr rfl|exact Ex.nilFunc rfl|exact Ex.nilYield rfl) rfl ?_
  refine O.ex (by first|exact Ex.field0 fld118_2 rfl|exact Ex.field fld118_2 rfl|exact Ex.fieldS fld118_2 rfl|exact Ex.fieldIn fld118_2 rfl) rfl ?_
  refine O.ex (by first|exact Ex.loadMh Try.isAgg116 rfl|exact Ex.loadInF Try.isAgg116 rfl (Holds.to (by assumption))|exact Ex.loadP Try.isAgg116 rfl|exact Ex.loadM Try.isAgg116 rfl|exact Ex.loadIn1 Try.isAgg116 rfl (Holds.to (by assumption))|exact Ex.loadVc Try.isAgg116 rfl|exact Ex.loadR Try.isAgg116 rfl|exact Ex.loadQ Try.isAgg116 rfl) rfl ?_
  refine O.ex (Ex.move rfl) rfl ?_
  refine O.callF Try.call84 rfl rfl (CT.mono (getF_ct (N:=n.toNat) (i:=x) (f:=f) hx (Holds.to (M:=RowF br n.toNat f::_) (by assumption))) ?_)
  rintro _ w ⟨rfl,H⟩
  refine O.ex (Ex.move rfl) rfl ?_
  refine O.ex (Ex.extract rfl rfl) rfl ?_
  refine O.ex (Ex.extract rfl rfl) rfl ?_
  refine O.ex (Ex.assign rfl) rfl ?_
  refine O.ex (Ex.assign rfl) rfl ?_
  refine O.nil ?_
  refine hK3 _ _ _ ?_
  refine W.block ?_
  have H:=arr_nil (T:=3) (e:=Value.int .i64) H
  refine W.loop (σ:=List Int × Value × Nat × Int) (fun z=>[(0,.pointer (some ⟨p,0,none⟩)),(1,.pointer (some ⟨g,0,none⟩)),(2,.int .i64 (z.2.2.1 : Int)),(7,z.2.1),(8,.int .i64 ((f z.2.2.1).getD 0)),(9,.bool (f z.2.2.1).isSome)]) (fun z ds w=>ds = [] ∧ z.2.1.oneCell' = true ∧ z.2.2.1 < n.toNat ∧ Abv n.toNat (Far n s true s0 j) (Far n s true s0 j z.2.2.1) z.1.length ∧ Wl s (x : Int) z.1 (z.2.2.1 : Int) z.2.2.2 ∧ two z.2.2.2 (Far n s true s0 j z.2.2.1) = Far n s true s0 j x ∧ Holds w (arr 3 (Value.int .i64) z.2.1 z.1::pcS p hh fw br true::HqI hh (Wt.hpW n.toNat (cD s true) s0 0 (stN n (cD s true) s0 j))::RowF fw n.toNat (fun w=>ov (Far n s true s0 j w))::RowF br n.toNat f::Gh g n most s::L)) (fun z=>(Far n s true s0 j z.2.2.1).toNat) ([],.slice none 0 0,x,0) ⟨rfl,rfl,rfl,rfl,rfl,rfl,trivial⟩ ⟨rfl,rfl,hx,Abv.zero _ _ _,⟨rfl,rfl⟩,zero_two hxd,Holds.to (by assumption)⟩ ?_
  clear H
  rintro ⟨l,ovv,v,tl⟩ _ w ⟨rfl,hov,hv,hab,hW,hS,H⟩
  dsimp only at hov hv hab hW hS H ⊢
  have hll:=hab.le
  have hvd : Dst (Far n s true s0 j v):=fq_dst hG j v
  refine W.seq (fun K4 hK4=>?_)
  refine W.seq (fun K5 hK5=>?_)
  refine W.region ?_
  refine O.ex (Ex.move rfl) rfl ?_
  refine O.nil ?_
  refine hK5 _ _ _ ?_
  first|refine W.cond_p rfl (fun hsome=>?_) (fun hnone=>?_)|refine W.cond_b rfl (fun hsome=>?_) (fun hnone=>?_)
  · refine W.skip ?_
    refine hK4 _ _ _ ?_
    refine W.seq (fun K6 hK6=>?_)
    refine W.block ?_
    refine W.seq (fun K7 hK7=>?_)
    refine W.region ?_
    obtain ⟨id,hid⟩ : ∃ id,f v = some id:=Option.isSome_iff_exists.1 hsome
    obtain ⟨u,u1,u2,u3,u4,u5,u6⟩:=way_b hg hf hst hv hid hxm hvd hW hS
    rw [hid]
    rw [show (some id).getD 0 = id from rfl]
    have hab2:=hab.step hv u4
    refine O.ex (Ex.move rfl) rfl ?_
    refine O.ex (Ex.move rfl) rfl ?_
    refine O.build1 (e:=Value.int .i64) Try.runUnderlying28 Try.sizeOf3 Try.zeroValue3 rfl (fun v33 w hv33 H=>?_)
    refine O.appendR Try.runUnderlying28 Try.typeInfo3 (bt:=8) rfl Try.sizeOf3 Try.zeroValue3 rfl rfl (fun v34 w hv34 H=>?_)
    refine O.ex (Ex.assign rfl) rfl ?_
    refine O.nil ?_
    refine hK7 _ _ _ ?_
    refine W.seq (fun K8 hK8=>?_)
    refine W.region ?_
    refine O.ex (Ex.move rfl) rfl ?_
    refine O.ex (Ex.move rfl) rfl ?_
    refine O.callF Try.call40 rfl rfl (CT.mono (garc_ct (g:=g) (Holds.to (by assumption))) ?_)
    rintro _ w ⟨rfl,H⟩
    refine O.ex (Ex.move rfl) rfl ?_
    refine O.ex (Ex.extract rfl rfl) rfl ?_
    refine O.ex (Ex.extract rfl rfl) rfl ?_
    refine O.allocP Try.zeroValue42 (fun b10 w H=>?_)
    first|refine O.storeAggP Try.sizeOf42 rfl rfl rfl rfl (fun w H=>?_)|refine O.storeAggN Try.sizeOf42 rfl rfl rfl (fun w H=>?_) rfl
    replace H : Holds w (pt b10 (.cells #[.int .i64 (arcQ s id).t,.int .i64 (arcQ s id).h,.int .i64 (arcQ s id).w,.bool (arcQ s id).cl] 42 (0,0))::arr 3 (Value.int .i64) v34 (l ++ [id])::pcS p hh fw br true::HqI hh (Wt.hpW n.toNat (cD s true) s0 0 (stN n (cD s true) s0 j))::RowF fw n.toNat (fun w=>ov (Far n s true s0 j w))::RowF br n.toNat f::Gh g n most s::L):=Holds.to H
    refine O.ex (Ex.assign rfl) rfl ?_
    refine O.nil ?_
    refine hK8 _ _ _ ?_
    refine W.seq (fun K9 hK9=>?_)
    refine W.region ?_
    refine O.ex (by first|exact Ex.field0 fld42_0 rfl|exact Ex.field fld42_0 rfl|exact Ex.fieldS fld42_0 rfl|exact Ex.fieldIn fld42_0 rfl) rfl ?_
    refine O.ex (by first|exact Ex.loadMh Try.isAgg3 rfl|exact Ex.loadInF Try.isAgg3 rfl (Holds.to (by assumption))|exact Ex.loadP Try.isAgg3 rfl|exact Ex.loadM Try.isAgg3 rfl|exact Ex.loadIn1 Try.isAgg3 rfl (Holds.to (by assumption))|exact Ex.loadVc Try.isAgg3 rfl|exact Ex.loadR Try.isAgg3 rfl|exact Ex.loadQ Try.isAgg3 rfl) rfl ?_
    refine O.ex (Ex.assign rfl) rfl ?_
    refine O.nil ?_
    refine hK9 _ _ _ ?_
    refine W.seq (fun K10 hK10=>?_)
    refine W.region ?_
    refine O.ex (Ex.move rfl) rfl ?_
    refine O.ex (by first|exact Ex.nilPtr rfl|exact Ex.nilFunc rfl|exact Ex.nilYield rfl) rfl ?_
    refine O.ex (by first|exact Ex.field0 fld118_3 rfl|exact Ex.field fld118_3 rfl|exact Ex.fieldS fld118_3 rfl|exact Ex.fieldIn fld118_3 rfl) rfl ?_
    refine O.ex (by first|exact Ex.loadMh Try.isAgg4 rfl|exact Ex.loadInF Try.isAgg4 rfl (Holds.to (by assumption))|exact Ex.loadP Try.isAgg4 rfl|exact Ex.loadM Try.isAgg4 rfl|exact Ex.loadIn1 Try.isAgg4 rfl (Holds.to (by assumption))|exact Ex.loadVc Try.isAgg4 rfl|exact Ex.loadR Try.isAgg4 rfl|exact Ex.loadQ Try.isAgg4 rfl) rfl ?_
    refine O.nil ?_
    refine hK10 _ _ _ ?_
    refine W.known_t rfl (by first|rfl|decide) ?_
    refine W.region ?_
    refine O.ex (by first|exact Ex.field0 fld42_1 rfl|exact Ex.field fld42_1 rfl|exact Ex.fieldS fld42_1 rfl|exact Ex.fieldIn fld42_1 rfl) rfl ?_
    refine O.ex (by first|exact Ex.loadMh Try.isAgg3 rfl|exact Ex.loadInF Try.isAgg3 rfl (Holds.to (by assumption))|exact Ex.loadP Try.isAgg3 rfl|exact Ex.loadM Try.isAgg3 rfl|exact Ex.loadIn1 Try.isAgg3 rfl (Holds.to (by assumption))|exact Ex.loadVc Try.isAgg3 rfl|exact Ex.loadR Try.isAgg3 rfl|exact Ex.loadQ Try.isAgg3 rfl) rfl ?_
    refine O.ex (Ex.assign rfl) rfl ?_
    refine O.nil ?_
    refine hK6 _ _ _ ?_
    refine W.region ?_
    rw [← u2]
    refine O.ex (Ex.move rfl) rfl ?_
    refine O.ex (by first|exact Ex.nilPtr rfl|exact Ex.nilFunc rfl|exact Ex.nilYield rfl) rfl ?_
    refine O.ex (by first|exact Ex.field0 fld118_2 rfl|exact Ex.field fld118_2 rfl|exact Ex.fieldS fld118_2 rfl|exact Ex.fieldIn fld118_2 rfl) rfl ?_
    refine O.ex (by first|exact Ex.loadMh Try.isAgg116 rfl|exact Ex.loadInF Try.isAgg116 rfl (Holds.to (by assumption))|exact Ex.loadP Try.isAgg116 rfl|exact Ex.loadM Try.isAgg116 rfl|exact Ex.loadIn1 Try.isAgg116 rfl (Holds.to (by assumption))|exact Ex.loadVc Try.isAgg116 rfl|exact Ex.loadR Try.isAgg116 rfl|exact Ex.loadQ Try.isAgg116 rfl) rfl ?_
    refine O.ex (Ex.move rfl) rfl ?_
    refine O.callF Try.call84 rfl rfl (CT.mono (getF_ct (N:=n.toNat) (i:=u) (f:=f) u1 (Holds.to (M:=RowF br n.toNat f::_) (by assumption))) ?_)
    rintro _ w ⟨rfl,H⟩
    refine O.ex (Ex.move rfl) rfl ?_
    refine O.ex (Ex.extract rfl rfl) rfl ?_
    refine O.ex (Ex.extract rfl rfl) rfl ?_
    refine O.ex (Ex.assign rfl) rfl ?_
    refine O.ex (Ex.assign rfl) rfl ?_
    refine O.nil ?_
    have hov2:=arr_one (Holds.to (M:=arr 3 (Value.int .i64) v34 (l ++ [id])::[]) H)
    exact ⟨(l ++ [id],v34,u,two tl (arcQ s id).w),⟨rfl,rfl,rfl,rfl,rfl,rfl,trivial⟩,⟨rfl,hov2,u1,by rw [List.length_append,List.length_singleton]; exact hab2,u5,u6,Holds.to (by assumption)⟩,by have h9:=u3.1; dsimp only; omega⟩
  · refine W.exit ?_
    refine hK2 _ _ _ ?_
    refine W.seq (fun K11 hK11=>?_)
    refine W.region ?_
    refine O.ex (Ex.move rfl) rfl ?_
    refine O.ex (Ex.assign rfl) rfl ?_
    refine O.nil ?_
    refine hK11 _ _ _ ?_
    refine W.ret ?_
    try dsimp only [thenQ,blockQ,retQ]
    first|refine ⟨_,⟨_,_,rfl,rfl,rfl⟩,?_⟩|(refine retD_mark ?_; intro w H; refine ⟨_,⟨_,_,rfl,rfl,rfl⟩,?_⟩)|(refine retD_mark2 ?_; intro w H; refine ⟨_,⟨_,_,rfl,rfl,rfl⟩,?_⟩)
    have hfn : f v = none:=by simpa using hnone
    have htl:=Wl.dst hg hW
    have hvm : Far n s true s0 j v ≤ 4611686018427387904:=by first|(have:=le_two_left hvd htl; omega)|(have:=le_two_right htl hvd; omega)
    have hvs:=way_end hf hv hfn hvm
    have hz : Far n s true s0 j s0 = 0:=fq_self hG h1 j
    rw [hvs] at hW hS
    rw [hz] at hS
    have htle : tl = Far n s true s0 j x:=by first|rwa [zero_two htl] at hS|rwa [two_zero htl] at hS
    rw [htle] at hW
    refine ⟨l,hov,by omega,hW,?_⟩
    have H:=sdB_open.2 ⟨f,hf,Holds.to (M:=RowF br n.toNat f::_) H⟩
    have H2 : Holds _ (Sd p hh fw br n s true s0 j::arr 3 (Value.int .i64) ovv l::Gh g n most s::L):=sd_open.2 (Holds.to (by assumption))
    exact H2.swap
set_option maxHeartbeats 4000000 in
theorem bpath_ct {w : World} {g : Nat} {n most v t : Int} {s : St} {L : List HProp} (hg : GOk n most s) (H : Holds w (Gh g n most s::L)) :
    CT Try.prog 32 [.pointer (some ⟨g,0,none⟩),.int .i64 v,.int .i64 t] w fun u w' =>
      (¬ ((0 ≤ v ∧ v < n) ∧ (0 ≤ t ∧ t < n)) ∧ u = .tuple #[.slice none 0 0,.int .i64 0,.int .i64 1] ∧ Holds w' (Gh g n most s::L)) ∨
      (((0 ≤ v ∧ v < n) ∧ (0 ≤ t ∧ t < n)) ∧ far n (cG s) v t = 4611686018427387906 ∧ u = .tuple #[.slice none 0 0,.int .i64 0,.int .i64 3] ∧ Holds w' (Gh g n most s::L)) ∨
      (((0 ≤ v ∧ v < n) ∧ (0 ≤ t ∧ t < n)) ∧ far n (cG s) v t = 4611686018427387905 ∧ u = .tuple #[.slice none 0 0,.int .i64 0,.int .i64 9] ∧ Holds w' (Gh g n most s::L)) ∨
      (((0 ≤ v ∧ v < n) ∧ (0 ≤ t ∧ t < n)) ∧ far n (cG s) v t ≤ 4611686018427387904 ∧ ∃ ov l,Wl s v l t (far n (cG s) v t) ∧ l.length ≤ 48 ∧ u = .tuple #[ov,.int .i64 (far n (cG s) v t),.int .i64 0] ∧ ov.oneCell' = true ∧ Holds w' (arr 3 (Value.int .i64) ov l::Gh g n most s::L)):=by
  have n1:=hg.n1
  have n2:=hg.n2
  refine CT.enter (N:=48) Try.func32 rfl rfl rfl rfl ?_
  refine W.seq (fun K0 hK0=>?_)
  refine W.region ?_
  refine O.ex (Ex.assign rfl) rfl ?_
  refine O.ex (Ex.assign rfl) rfl ?_
  refine O.ex (Ex.assign rfl) rfl ?_
  refine O.nil ?_
  refine hK0 _ _ _ ?_
  refine W.seq (fun K1 hK1=>?_)
  refine W.seq (fun K2 hK2=>?_)
  refine W.region ?_
  refine O.ex (Ex.move rfl) rfl ?_
  refine O.ex (Ex.move rfl) rfl ?_
  refine O.ex (Ex.move rfl) rfl ?_
  refine O.callF Try.call53 rfl rfl (CT.mono (bvert_ct (g:=g) (n:=n) (most:=most) (s:=s) (by omega) (Holds.to (by assumption))) ?_)
  rintro _ w ⟨rfl,H⟩
  refine O.ex (by first|exact Ex.notD rfl|exact Ex.not rfl) rfl ?_
  refine O.nil ?_
  refine hK2 _ _ _ ?_
  first|refine W.cond_p rfl (fun hno=>?_) (fun hyes=>?_)|refine W.cond_b rfl (fun hno=>?_) (fun hyes=>?_)
  · refine W.seq (fun K3 hK3=>?_)
    refine W.region ?_
    refine O.ex (Ex.assign rfl) rfl ?_
    refine O.ex (Ex.assign rfl) rfl ?_
    refine O.ex (Ex.assign rfl) rfl ?_
    refine O.nil ?_
    refine hK3 _ _ _ ?_
    refine W.ret ?_
    try dsimp only [thenQ,blockQ,retQ]
    first|refine ⟨_,⟨_,_,rfl,rfl,_,_,rfl,rfl,_,_,rfl,rfl,rfl⟩,?_⟩|(refine retD_mark ?_; intro w H; refine ⟨_,⟨_,_,rfl,rfl,_,_,rfl,rfl,_,_,rfl,rfl,rfl⟩,?_⟩)|(refine retD_mark2 ?_; intro w H; refine ⟨_,⟨_,_,rfl,rfl,_,_,rfl,rfl,_,_,rfl,rfl,rfl⟩,?_⟩)
    first
    | (have hb : ¬ ((0 ≤ v ∧ v < n) ∧ (0 ≤ t ∧ t < n)):=by have h9:=hno; simp at h9; omega
       exact .inl ⟨hb,rfl,Holds.to (by assumption)⟩)
    | (have a1 : m.2 = 4611686018427387906:=hnone
       exact .inr (.inl ⟨hr,by omega,rfl,Holds.to (by assumption)⟩))
    | (have a1 : m.2 = 4611686018427387905:=hfar
       exact .inr (.inr (.inl ⟨hr,by omega,rfl,Holds.to (by assumption)⟩)))
    | (have hW:=Wl.app hg hW0 hW1
       rw [x4] at hW
       rw [hm1]
       have ho:=arr_one (Holds.to (M:=arr 3 (Value.int .i64) v45 (l0.reverse ++ l1)::[]) H)
       exact .inr (.inr (.inr ⟨hr,by omega,v45,l0.reverse ++ l1,hW,by rw [List.length_append,hlr]; omega,rfl,ho,Holds.to (by assumption)⟩)))
  · refine W.skip ?_
    refine hK1 _ _ _ ?_
    refine W.seq (fun K4 hK4=>?_)
    refine W.region ?_
    have hr : (0 ≤ v ∧ v < n) ∧ (0 ≤ t ∧ t < n):=by have h9:=hyes; simp at h9; omega
    obtain ⟨s0,rfl⟩ : ∃ s0 : Nat,v = (s0 : Int):=⟨v.toNat,by omega⟩
    obtain ⟨t0,rfl⟩ : ∃ t0 : Nat,t = (t0 : Int):=⟨t.toNat,by omega⟩
    refine O.ex (Ex.move rfl) rfl ?_
    refine O.ex (Ex.move rfl) rfl ?_
    refine O.ex (Ex.move rfl) rfl ?_
    refine O.callF Try.call54 rfl rfl (CT.mono (bsearch_ct (g:=g) (s0:=s0) (t0:=t0) hg (by omega) (by omega) (Holds.to (by assumption))) ?_)
    rintro _ w ⟨p0,hh0,fr0,br0,p1,hh1,fr1,br1,i,j,m,rfl,⟨hm1,hm2⟩,H⟩
    refine O.ex (Ex.move rfl) rfl ?_
    refine O.ex (Ex.extract rfl rfl) rfl ?_
    refine O.ex (Ex.extract rfl rfl) rfl ?_
    refine O.allocP Try.zeroValue82 (fun b9 w H=>?_)
    refine O.allocP Try.zeroValue84 (fun b10 w H=>?_)
    first|refine O.storeAggP Try.sizeOf82 rfl rfl rfl rfl (fun w H=>?_)|refine O.storeAggN Try.sizeOf82 rfl rfl rfl (fun w H=>?_) rfl
    first|refine O.storeAggP Try.sizeOf84 rfl rfl rfl rfl (fun w H=>?_)|refine O.storeAggN Try.sizeOf84 rfl rfl rfl (fun w H=>?_) rfl
    replace H : Holds w (pt b10 (.cells #[.int .i64 m.1,.int .i64 m.2] 84 (0,0))::pt b9 (.cells #[.pointer (some ⟨p0,0,none⟩),.pointer (some ⟨p1,0,none⟩)] 82 (0,0))::Sd p0 hh0 fr0 br0 n s false s0 i::Sd p1 hh1 fr1 br1 n s true t0 j::Gh g n most s::L):=Holds.to H
    have hD : Dst (far n (cG s) (s0 : Int) (t0 : Int)):=fw_dst (cG_good hg) n.toNat _ _
    refine O.nil ?_
    refine hK4 _ _ _ ?_
    refine W.seq (fun K5 hK5=>?_)
    refine W.seq (fun K6 hK6=>?_)
    refine W.region ?_
    refine O.ex (by first|exact Ex.field0 fld84_1 rfl|exact Ex.field fld84_1 rfl|exact Ex.fieldS fld84_1 rfl|exact Ex.fieldIn fld84_1 rfl) rfl ?_
    refine O.ex (by first|exact Ex.loadMh Try.isAgg3 rfl|exact Ex.loadInF Try.isAgg3 rfl (Holds.to (by assumption))|exact Ex.loadP Try.isAgg3 rfl|exact Ex.loadM Try.isAgg3 rfl|exact Ex.loadIn1 Try.isAgg3 rfl (Holds.to (by assumption))|exact Ex.loadVc Try.isAgg3 rfl|exact Ex.loadR Try.isAgg3 rfl|exact Ex.loadQ Try.isAgg3 rfl) rfl ?_
    refine O.nil ?_
    refine hK6 _ _ _ ?_
    refine W.block ?_
    refine W.seq (fun K7 hK7=>?_)
    refine W.region ?_
    refine O.ex (Ex.eqlI rfl rfl) rfl ?_
    refine O.ex (Ex.assign rfl) rfl ?_
    refine O.nil ?_
    refine hK7 _ _ _ ?_
    first|refine W.cond_p rfl (fun hnone=>?_) (fun hn1=>?_)|refine W.cond_b rfl (fun hnone=>?_) (fun hn1=>?_)
    · refine W.seq (fun K8 hK8=>?_)
      refine W.region ?_
      refine O.ex (Ex.assign rfl) rfl ?_
      refine O.ex (Ex.assign rfl) rfl ?_
      refine O.ex (Ex.assign rfl) rfl ?_
      refine O.nil ?_
      refine hK8 _ _ _ ?_
      refine W.ret ?_
      try dsimp only [thenQ,blockQ,retQ]
      first|refine ⟨_,⟨_,_,rfl,rfl,_,_,rfl,rfl,_,_,rfl,rfl,rfl⟩,?_⟩|(refine retD_mark ?_; intro w H; refine ⟨_,⟨_,_,rfl,rfl,_,_,rfl,rfl,_,_,rfl,rfl,rfl⟩,?_⟩)|(refine retD_mark2 ?_; intro w H; refine ⟨_,⟨_,_,rfl,rfl,_,_,rfl,rfl,_,_,rfl,rfl,rfl⟩,?_⟩)
      first
      | (have hb : ¬ ((0 ≤ v ∧ v < n) ∧ (0 ≤ t ∧ t < n)):=by have h9:=hno; simp at h9; omega
         exact .inl ⟨hb,rfl,Holds.to (by assumption)⟩)
      | (have a1 : m.2 = 4611686018427387906:=hnone
         exact .inr (.inl ⟨hr,by omega,rfl,Holds.to (by assumption)⟩))
      | (have a1 : m.2 = 4611686018427387905:=hfar
         exact .inr (.inr (.inl ⟨hr,by omega,rfl,Holds.to (by assumption)⟩)))
      | (have hW:=Wl.app hg hW0 hW1
         rw [x4] at hW
         rw [hm1]
         have ho:=arr_one (Holds.to (M:=arr 3 (Value.int .i64) v45 (l0.reverse ++ l1)::[]) H)
         exact .inr (.inr (.inr ⟨hr,by omega,v45,l0.reverse ++ l1,hW,by rw [List.length_append,hlr]; omega,rfl,ho,Holds.to (by assumption)⟩)))
    · refine W.seq (fun K9 hK9=>?_)
      refine W.region ?_
      refine O.ex (Ex.eqlI rfl rfl) rfl ?_
      refine O.ex (Ex.assign rfl) rfl ?_
      refine O.nil ?_
      refine hK9 _ _ _ ?_
      first|refine W.cond_p rfl (fun hfar=>?_) (fun hn2=>?_)|refine W.cond_b rfl (fun hfar=>?_) (fun hn2=>?_)
      · refine W.seq (fun K10 hK10=>?_)
        refine W.region ?_
        refine O.ex (Ex.assign rfl) rfl ?_
        refine O.ex (Ex.assign rfl) rfl ?_
        refine O.ex (Ex.assign rfl) rfl ?_
        refine O.nil ?_
        refine hK10 _ _ _ ?_
        refine W.ret ?_
        try dsimp only [thenQ,blockQ,retQ]
        first|refine ⟨_,⟨_,_,rfl,rfl,_,_,rfl,rfl,_,_,rfl,rfl,rfl⟩,?_⟩|(refine retD_mark ?_; intro w H; refine ⟨_,⟨_,_,rfl,rfl,_,_,rfl,rfl,_,_,rfl,rfl,rfl⟩,?_⟩)|(refine retD_mark2 ?_; intro w H; refine ⟨_,⟨_,_,rfl,rfl,_,_,rfl,rfl,_,_,rfl,rfl,rfl⟩,?_⟩)
        first
        | (have hb : ¬ ((0 ≤ v ∧ v < n) ∧ (0 ≤ t ∧ t < n)):=by have h9:=hno; simp at h9; omega
           exact .inl ⟨hb,rfl,Holds.to (by assumption)⟩)
        | (have a1 : m.2 = 4611686018427387906:=hnone
           exact .inr (.inl ⟨hr,by omega,rfl,Holds.to (by assumption)⟩))
        | (have a1 : m.2 = 4611686018427387905:=hfar
           exact .inr (.inr (.inl ⟨hr,by omega,rfl,Holds.to (by assumption)⟩)))
        | (have hW:=Wl.app hg hW0 hW1
           rw [x4] at hW
           rw [hm1]
           have ho:=arr_one (Holds.to (M:=arr 3 (Value.int .i64) v45 (l0.reverse ++ l1)::[]) H)
           exact .inr (.inr (.inr ⟨hr,by omega,v45,l0.reverse ++ l1,hW,by rw [List.length_append,hlr]; omega,rfl,ho,Holds.to (by assumption)⟩)))
      · refine W.skip ?_
        refine hK5 _ _ _ ?_
        refine W.seq (fun K11 hK11=>?_)
        refine W.region ?_
        have hm : m.2 ≤ 4611686018427387904:=by
          have a1 : ¬ m.2 = 4611686018427387906:=by simpa using hn1
          have a2 : ¬ m.2 = 4611686018427387905:=by simpa using hn2
          have a3:=hD.2
          omega
        obtain ⟨x,x1,x2,x3⟩ : ∃ x : Nat,x < n.toNat ∧ m.1 = (x : Int) ∧ over n s s0 t0 i j (x : Nat) = far n (cG s) s0 t0:=hm2.resolve_left (by omega)
        have hF0 : Dst (Far n s false s0 i x):=fq_dst (cD_good hg false) i x
        have hF1 : Dst (Far n s true t0 j x):=fq_dst (cD_good hg true) j x
        have x4 : two (Far n s false s0 i x) (Far n s true t0 j x) = far n (cG s) s0 t0:=by rw [← x3]; rfl
        have hm0 : Far n s false s0 i x ≤ 4611686018427387904:=by have:=le_two_left hF0 hF1; omega
        have hm1' : Far n s true t0 j x ≤ 4611686018427387904:=by have:=le_two_right hF0 hF1; omega
        rw [x2] at H
        refine O.ex (Ex.idxArr Try.runUnderlying82 Try.sizeOf81 rfl rfl) rfl ?_
        refine O.ex (by first|exact Ex.loadM Try.isAgg81 rfl|exact Ex.loadVc Try.isAgg81 rfl|exact Ex.loadP Try.isAgg81 rfl|exact Ex.loadInF Try.isAgg81 rfl (Holds.to (by assumption))|exact Ex.loadIn1 Try.isAgg81 rfl (Holds.to (by assumption))|exact Ex.loadMh Try.isAgg81 rfl|exact Ex.loadR Try.isAgg81 rfl|exact Ex.loadQ Try.isAgg81 rfl) rfl ?_
        refine O.ex (Ex.move rfl) rfl ?_
        refine O.ex (by first|exact Ex.field0 fld84_0 rfl|exact Ex.field fld84_0 rfl|exact Ex.fieldS fld84_0 rfl|exact Ex.fieldIn fld84_0 rfl) rfl ?_
        refine O.ex (by first|exact Ex.loadMh Try.isAgg3 rfl|exact Ex.loadInF Try.isAgg3 rfl (Holds.to (by assumption))|exact Ex.loadP Try.isAgg3 rfl|exact Ex.loadM Try.isAgg3 rfl|exact Ex.loadIn1 Try.isAgg3 rfl (Holds.to (by assumption))|exact Ex.loadVc Try.isAgg3 rfl|exact Ex.loadR Try.isAgg3 rfl|exact Ex.loadQ Try.isAgg3 rfl) rfl ?_
        refine O.callF Try.call55 rfl rfl (CT.mono (wayout_ct (p:=p0) (hh:=hh0) (fw:=fr0) (br:=br0) (g:=g) (s0:=s0) (j:=i) (x:=x) hg (by omega) x1 hm0 (Holds.to (M:=Sd p0 hh0 fr0 br0 n s false s0 i::Gh g n most s::_) (by assumption))) ?_)
        rintro _ w ⟨l0,ho0,hl0,hW0,H⟩
        rename_i ov0
        refine O.ex (Ex.assign rfl) rfl ?_
        refine O.nil ?_
        refine hK11 _ _ _ ?_
        refine W.seq (fun K12 hK12=>?_)
        refine W.region ?_
        refine O.ex (Ex.move rfl) rfl ?_
        refine O.callF Try.call41 rfl rfl (CT.mono (rev_ct (v:=ov0) (xs:=l0) (by omega) (Holds.to (by assumption))) ?_)
        rintro _ w H
        refine O.nil ?_
        refine hK12 _ _ _ ?_
        refine W.seq (fun K13 hK13=>?_)
        refine W.drawTo (pt b9 (.cells #[.pointer (some ⟨p0,0,none⟩),.pointer (some ⟨p1,0,none⟩)] 82 (0,0))::pt b10 (.cells #[.int .i64 (x : Int),.int .i64 m.2] 84 (0,0))::[]) (.take 0 (.take 1 (.take 2 (.take 3 (.take 4 (.take 5 (.take 8 (.take 9 (.one 6 (.one 7 (.take 10 (.take 11 (.take 12 .nil))))))))))))) (mixed) (fun _ _ _ _ h=>h) (by assumption) PP.auto (by decide +kernel) (fun w H=>?_)
        refine OQ.ex rfl (fun w H=>(Ex.move rfl)) rfl ?_
        refine OQ.ex rfl (fun w H=>(Ex.idxArr Try.runUnderlying82 Try.sizeOf81 rfl rfl)) rfl ?_
        refine OQ.ex rfl (fun w H=>(by first|exact Ex.loadM Try.isAgg81 rfl|exact Ex.loadVc Try.isAgg81 rfl|exact Ex.loadP Try.isAgg81 rfl|exact Ex.loadInF Try.isAgg81 rfl (Holds.to (by assumption))|exact Ex.loadIn1 Try.isAgg81 rfl (Holds.to (by assumption))|exact Ex.loadMh Try.isAgg81 rfl|exact Ex.loadR Try.isAgg81 rfl|exact Ex.loadQ Try.isAgg81 rfl)) rfl ?_
        refine OQ.ex rfl (fun w H=>(Ex.move rfl)) rfl ?_
        refine OQ.ex rfl (fun w H=>(by first|exact Ex.field0 fld84_0 rfl|exact Ex.field fld84_0 rfl|exact Ex.fieldS fld84_0 rfl|exact Ex.fieldIn fld84_0 rfl)) rfl ?_
        refine OQ.ex rfl (fun w H=>(by first|exact Ex.loadMh Try.isAgg3 rfl|exact Ex.loadInF Try.isAgg3 rfl (Holds.to (by assumption))|exact Ex.loadP Try.isAgg3 rfl|exact Ex.loadM Try.isAgg3 rfl|exact Ex.loadIn1 Try.isAgg3 rfl (Holds.to (by assumption))|exact Ex.loadVc Try.isAgg3 rfl|exact Ex.loadR Try.isAgg3 rfl|exact Ex.loadQ Try.isAgg3 rfl)) rfl ?_
        refine OQ.ex rfl (fun w H=>(by first|exact Ex.field0 fld84_1 rfl|exact Ex.field fld84_1 rfl|exact Ex.fieldS fld84_1 rfl|exact Ex.fieldIn fld84_1 rfl)) rfl ?_
        refine OQ.ex rfl (fun w H=>(by first|exact Ex.loadMh Try.isAgg3 rfl|exact Ex.loadInF Try.isAgg3 rfl (Holds.to (by assumption))|exact Ex.loadP Try.isAgg3 rfl|exact Ex.loadM Try.isAgg3 rfl|exact Ex.loadIn1 Try.isAgg3 rfl (Holds.to (by assumption))|exact Ex.loadVc Try.isAgg3 rfl|exact Ex.loadR Try.isAgg3 rfl|exact Ex.loadQ Try.isAgg3 rfl)) rfl ?_
        refine OQ.step rfl ?_
        refine O.callF Try.call55 rfl rfl (CT.mono (wayin_ct (p:=p1) (hh:=hh1) (fw:=fr1) (br:=br1) (g:=g) (s0:=t0) (j:=j) (x:=x) hg (by omega) x1 hm1' (Holds.to (M:=Sd p1 hh1 fr1 br1 n s true t0 j::Gh g n most s::_) (by assumption))) ?_)
        rintro _ w ⟨l1,ho1,hl1,hW1,H⟩
        rename_i ov1
        have hlr : l0.reverse.length = l0.length:=List.length_reverse
        refine O.thenNil ⟨(by first|exact Holds.to (by assumption)|assumption),?_⟩
        refine OQ.step rfl ?_
        refine O.appendR Try.runUnderlying28 Try.typeInfo3 (bt:=8) rfl Try.sizeOf3 Try.zeroValue3 rfl rfl (fun v45 w hv45 H=>?_)
        refine O.thenNil ⟨(by first|exact Holds.to (by assumption)|assumption),?_⟩
        refine OQ.ex rfl (fun w H=>(Ex.assign rfl)) rfl ?_
        refine OQ.ex rfl (fun w H=>(Ex.assign rfl)) rfl ?_
        refine OQ.ex rfl (fun w H=>(Ex.assign rfl)) rfl ?_
        refine OQ.done ?_
        refine hK13 _ _ _ ?_
        refine W.ret ?_
        try dsimp only [thenQ,blockQ,retQ]
        first|refine ⟨_,⟨_,_,rfl,rfl,_,_,rfl,rfl,_,_,rfl,rfl,rfl⟩,?_⟩|(refine retD_mark ?_; intro w H; refine ⟨_,⟨_,_,rfl,rfl,_,_,rfl,rfl,_,_,rfl,rfl,rfl⟩,?_⟩)|(refine retD_mark2 ?_; intro w H; refine ⟨_,⟨_,_,rfl,rfl,_,_,rfl,rfl,_,_,rfl,rfl,rfl⟩,?_⟩)
        first
        | (have hb : ¬ ((0 ≤ v ∧ v < n) ∧ (0 ≤ t ∧ t < n)):=by have h9:=hno; simp at h9; omega
           exact .inl ⟨hb,rfl,Holds.to (by assumption)⟩)
        | (have a1 : m.2 = 4611686018427387906:=hnone
           exact .inr (.inl ⟨hr,by omega,rfl,Holds.to (by assumption)⟩))
        | (have a1 : m.2 = 4611686018427387905:=hfar
           exact .inr (.inr (.inl ⟨hr,by omega,rfl,Holds.to (by assumption)⟩)))
        | (have hW:=Wl.app hg hW0 hW1
           rw [x4] at hW
           rw [hm1]
           have ho:=arr_one (Holds.to (M:=arr 3 (Value.int .i64) v45 (l0.reverse ++ l1)::[]) H)
           exact .inr (.inr (.inr ⟨hr,by omega,v45,l0.reverse ++ l1,hW,by rw [List.length_append,hlr]; omega,rfl,ho,Holds.to (by assumption)⟩)))
end Go.Proofs.Ytliofdfhimmjmaa
