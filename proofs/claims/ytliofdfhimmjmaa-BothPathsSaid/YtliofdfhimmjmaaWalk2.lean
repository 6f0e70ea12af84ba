import Derived.Test.YtliofdfhimmjmaaWalk
import Derived.Test.YtliofdfhimmjmaaRefAll
namespace Go.Proofs.Ytliofdfhimmjmaa
open Go.Rr Go Gr
set_option linter.unusedVariables false
theorem vbad {n v e : Int} {s : St} {xs : List Int} {i : Nat} (hv : vxW n v) (hi : i < xs.length) (hc : (wrun s v (xs.take i)).2.2 = 0) (hz : (nextW s (wrun s v (xs.take i)).2.1 (xs.getD i default)).2 = e) (he : ¬ e = 0) : vcode n s v xs = e ∧ vlist n s v xs = []:=by
  have ew:=(wstep (s:=s) (v:=v) hi).trans (wst_bad hc (by rw [hz]; exact he))
  have es:=wrun_stuck (s:=s) (v:=v) (i + 1) (by rw [ew]; show _ ≠ (0 : Int); rw [hz]; exact he)
  have e1 : vcode n s v xs = e:=(if_neg (fun hh=>hh hv)).trans (by rw [es,ew]; exact hz)
  exact ⟨e1,if_neg (by rw [e1]; exact he)⟩
theorem vgood {n v : Int} {s : St} {xs : List Int} (hv : vxW n v) (hc : (wrun s v xs).2.2 = 0) : vcode n s v xs = 0 ∧ vlist n s v xs = (wrun s v xs).1:=by
  have e1 : vcode n s v xs = 0:=(if_neg (fun hh=>hh hv)).trans hc
  exact ⟨e1,if_pos e1⟩
theorem vnone {n v : Int} {s : St} {xs : List Int} (hv : ¬ vxW n v) : vcode n s v xs = 1 ∧ vlist n s v xs = []:=by
  have e1 : vcode n s v xs = 1:=if_pos hv
  exact ⟨e1,if_neg (by rw [e1]; decide)⟩
theorem nextW_3 {s : St} {v id : Int} (h : ¬ thB s id = true) : nextW s v id = (0,3):=if_pos h
theorem nextW_5 {s : St} {v id : Int} (h : thB s id = true) (h2 : (arcQ s id).cl = true) : nextW s v id = (0,5):=by unfold nextW; rw [if_neg (fun hh=>hh h),if_pos h2]
theorem nextW_8 {s : St} {v id : Int} (h : thB s id = true) (h2 : ¬ (arcQ s id).cl = true) (h3 : ¬ (arcQ s id).t = v) : nextW s v id = (0,8):=by unfold nextW; rw [if_neg (fun hh=>hh h),if_neg h2,if_pos h3]
theorem nextW_0 {s : St} {v id : Int} (h : thB s id = true) (h2 : ¬ (arcQ s id).cl = true) (h3 : (arcQ s id).t = v) : nextW s v id = ((arcQ s id).h,0):=by unfold nextW; rw [if_neg (fun hh=>hh h),if_neg h2,if_neg (fun hh=>hh h3)]
set_option maxHeartbeats 1000000 in
theorem rvisits_ct {w : World} {r : Nat} {n most v : Int} {s : St} {iv : Value} {xs : List Int} {S : HProp} {L : List HProp} (hg : GOk n most s) (hR : Rd S iv xs) (hl : xs.length ≤ 200) (H : Holds w (Rg r n most s::S::L)) :
    CT Try.prog 42 [.pointer (some ⟨r,0,none⟩),.int .i64 v,iv] w fun u w'=>∃ x,u = .tuple #[x,.int .i64 (vcode n s v xs)] ∧ x.oneCell' = true ∧ Holds w' (arr 3 (Value.int .i64) x (vlist n s v xs)::Rg r n most s::S::L):=by
  obtain ⟨a,cap,rfl⟩:=hR.form H.swap
  refine CT.enter (N:=50) Try.func42 rfl rfl rfl rfl ?_
  refine W.seq (fun K0 hK0=>?_)
  refine W.region ?_
  refine O.ex (Ex.assign rfl) rfl ?_
  refine O.ex (Ex.assign rfl) rfl ?_
  refine O.nil ?_
  refine hK0 _ _ _ ?_
  refine W.seq (fun K1 hK1=>?_)
  refine W.seq (fun K2 hK2=>?_)
  refine W.region ?_
  refine O.ex (Ex.move rfl) rfl ?_
  refine O.ex (Ex.move rfl) rfl ?_
  refine O.callF Try.call13 rfl rfl (CT.mono (rvertex_ct (Holds.to (by assumption))) ?_)
  rintro _ w ⟨rfl,H⟩
  refine O.ex (by first|exact Ex.notD rfl|exact Ex.not rfl) rfl ?_
  refine O.nil ?_
  refine hK2 _ _ _ ?_
  first|refine W.cond_p rfl (fun hno=>?_) (fun hyes=>?_)|refine W.cond_b rfl (fun hno=>?_) (fun hyes=>?_)
  · refine W.seq (fun K3 hK3=>?_)
    refine W.region ?_
    refine O.ex (Ex.assign rfl) rfl ?_
    refine O.ex (Ex.assign rfl) rfl ?_
    refine O.nil ?_
    refine hK3 _ _ _ ?_
    refine W.ret ?_
    try dsimp only [thenQ,blockQ,retQ]
    first|refine ⟨_,⟨_,_,rfl,rfl,_,_,rfl,rfl,rfl⟩,?_⟩|(refine retD_mark ?_; intro w H; refine ⟨_,⟨_,_,rfl,rfl,_,_,rfl,rfl,rfl⟩,?_⟩)|(refine retD_mark2 ?_; intro w H; refine ⟨_,⟨_,_,rfl,rfl,_,_,rfl,rfl,rfl⟩,?_⟩)
    first
    | (obtain ⟨e1,e2⟩:=vnone (n:=n) (s:=s) (v:=v) (xs:=xs) hno
       rw [e1,e2]
       exact ⟨_,rfl,rfl,arr_nil (Holds.to (by assumption))⟩)
    | (have h1' : (!thB s (xs.getD i default)) = true:=h1
       have hz:=nextW_3 (s:=s) (v:=(wrun s v (xs.take i)).2.1) (id:=xs.getD i default) (by simpa using h1')
       obtain ⟨e1,e2⟩:=vbad (n:=n) (e:=3) hvx hil hc (by rw [hz]) (by decide)
       rw [e1,e2]
       exact ⟨_,rfl,rfl,arr_nil (Holds.to (by assumption))⟩)
    | (have h2' : (arcQ s (xs.getD i default)).cl = true:=h2
       have hz:=nextW_5 (s:=s) (v:=(wrun s v (xs.take i)).2.1) (id:=xs.getD i default) (by simpa using h1) h2'
       obtain ⟨e1,e2⟩:=vbad (n:=n) (e:=5) hvx hil hc (by rw [hz]) (by decide)
       rw [e1,e2]
       exact ⟨_,rfl,rfl,arr_nil (Holds.to (by assumption))⟩)
    | (have h3' : ¬ (arcQ s (xs.getD i default)).t = (wrun s v (xs.take i)).2.1:=by rw [← hlast]; exact h3
       have hz:=nextW_8 (s:=s) (v:=(wrun s v (xs.take i)).2.1) (id:=xs.getD i default) (by simpa using h1) (by simpa using h2) h3'
       obtain ⟨e1,e2⟩:=vbad (n:=n) (e:=8) hvx hil hc (by rw [hz]) (by decide)
       rw [e1,e2]
       exact ⟨_,rfl,rfl,arr_nil (Holds.to (by assumption))⟩)
    | (obtain rfl : i = xs.length:=by omega
       rw [List.take_length] at hc H
       obtain ⟨e1,e2⟩:=vgood (n:=n) hvx hc
       rw [e1,e2]
       exact ⟨_,rfl,hx1,Holds.to (by assumption)⟩)
  · refine W.skip ?_
    refine hK1 _ _ _ ?_
    refine W.seq (fun K4 hK4=>?_)
    refine W.region ?_
    refine O.ex (Ex.move rfl) rfl ?_
    refine O.buildK (e:=Value.int .i64) (vs:=[(0,.int .i64 v)]) [v] Try.runUnderlying28 Try.sizeOf3 Try.zeroValue3 rfl rfl rfl rfl rfl rfl (fun v17 w hv17 H=>?_)
    refine O.ex (Ex.assign rfl) rfl ?_
    refine O.nil ?_
    refine hK4 _ _ _ ?_
    refine W.seq (fun K5 hK5=>?_)
    refine W.seq (fun K6 hK6=>?_)
    refine W.region ?_
    refine O.ex (Ex.assign rfl) rfl ?_
    refine O.nil ?_
    refine hK6 _ _ _ ?_
    refine W.block ?_
    have hv0:=arr_one H
    have hvx : vxW n v:=Decidable.not_not.1 hyes
    refine W.loop (σ:=Nat × Value) (fun z=>[(0,.pointer (some ⟨r,0,none⟩)),(2,.slice a xs.length cap),(8,z.2),(9,.int .i64 (z.1 : Int))]) (fun z ds w=>ds = [] ∧ z.1 ≤ xs.length ∧ z.2.oneCell' = true ∧ (wrun s v (xs.take z.1)).2.2 = 0 ∧ Holds w (arr 3 (Value.int .i64) z.2 (wrun s v (xs.take z.1)).1::Rg r n most s::S::L)) (fun z=>xs.length - z.1) (0,v17) ⟨rfl,rfl,rfl,rfl,trivial⟩ ⟨rfl,by dsimp only; omega,hv0,rfl,Holds.to (by assumption)⟩ ?_
    clear H
    rintro ⟨i,x⟩ _ w ⟨rfl,hi,hx1,hc,H⟩
    dsimp only at hi hx1 hc H ⊢
    refine W.seq (fun K7 hK7=>?_)
    refine W.seq (fun K8 hK8=>?_)
    refine W.region ?_
    refine O.ex (Ex.move rfl) rfl ?_
    refine O.ex (Ex.move rfl) rfl ?_
    refine O.ex (by first|exact Ex.lenR Try.runUnderlying28 rfl|exact Ex.lenIn Try.runUnderlying28 rfl|exact Ex.lenL Try.runUnderlying28 rfl|exact Ex.len rfl Try.runUnderlying28 rfl) rfl ?_
    refine O.ex (Ex.lss rfl rfl) rfl ?_
    refine O.nil ?_
    refine hK8 _ _ _ ?_
    first|refine W.cond_p rfl (fun hlt=>?_) (fun hge=>?_)|refine W.cond_b rfl (fun hlt=>?_) (fun hge=>?_)
    · refine W.skip ?_
      refine hK7 _ _ _ ?_
      refine W.seq (fun K9 hK9=>?_)
      refine W.block ?_
      refine W.seq (fun K10 hK10=>?_)
      refine W.region ?_
      have hil : i < xs.length:=by omega
      have hgd:=wrun_good hg (v:=v) (l:=xs) i (by omega) hc
      have hlen:=hgd.len
      have hlast : (wrun s v (xs.take i)).1.getD i default = (wrun s v (xs.take i)).2.1:=hgd.last
      refine O.ex (Ex.move rfl) rfl ?_
      refine O.ex (Ex.move rfl) rfl ?_
      refine O.ex (Ex.move rfl) rfl ?_
      refine O.ex (Ex.idxRd hR Try.runUnderlying28 Try.sizeOf3 rfl rfl) rfl ?_
      refine O.ex (Ex.loadRd (i:=i) hR Try.isAgg3 rfl) rfl ?_
      refine O.callF Try.call22 rfl rfl (CT.mono (rarc_ct (id:=xs.getD i default) hg (Holds.to (by assumption))) ?_)
      rintro _ w ⟨rfl,H⟩
      refine O.ex (Ex.move rfl) rfl ?_
      refine O.ex (Ex.extract rfl rfl) rfl ?_
      refine O.ex (Ex.extract rfl rfl) rfl ?_
      refine O.allocP Try.zeroValue42 (fun b10 w H=>?_)
      first|refine O.storeAggP Try.sizeOf42 rfl rfl rfl rfl (fun w H=>?_)|refine O.storeAggN Try.sizeOf42 rfl rfl rfl (fun w H=>?_) rfl
      refine O.ex (Ex.assign rfl) rfl ?_
      refine O.nil ?_
      refine hK10 _ _ _ ?_
      refine W.seq (fun K11 hK11=>?_)
      refine W.seq (fun K12 hK12=>?_)
      refine W.region ?_
      refine O.ex (Ex.move rfl) rfl ?_
      refine O.ex (by first|exact Ex.notD rfl|exact Ex.not rfl) rfl ?_
      refine O.nil ?_
      refine hK12 _ _ _ ?_
      first|refine W.cond_p rfl (fun h1=>?_) (fun h1=>?_)|refine W.cond_b rfl (fun h1=>?_) (fun h1=>?_)
      · refine W.seq (fun K13 hK13=>?_)
        refine W.region ?_
        refine O.ex (Ex.assign rfl) rfl ?_
        refine O.ex (Ex.assign rfl) rfl ?_
        refine O.nil ?_
        refine hK13 _ _ _ ?_
        refine W.ret ?_
        try dsimp only [thenQ,blockQ,retQ]
        first|refine ⟨_,⟨_,_,rfl,rfl,_,_,rfl,rfl,rfl⟩,?_⟩|(refine retD_mark ?_; intro w H; refine ⟨_,⟨_,_,rfl,rfl,_,_,rfl,rfl,rfl⟩,?_⟩)|(refine retD_mark2 ?_; intro w H; refine ⟨_,⟨_,_,rfl,rfl,_,_,rfl,rfl,rfl⟩,?_⟩)
        first
        | (obtain ⟨e1,e2⟩:=vnone (n:=n) (s:=s) (v:=v) (xs:=xs) hno
           rw [e1,e2]
           exact ⟨_,rfl,rfl,arr_nil (Holds.to (by assumption))⟩)
        | (have h1' : (!thB s (xs.getD i default)) = true:=h1
           have hz:=nextW_3 (s:=s) (v:=(wrun s v (xs.take i)).2.1) (id:=xs.getD i default) (by simpa using h1')
           obtain ⟨e1,e2⟩:=vbad (n:=n) (e:=3) hvx hil hc (by rw [hz]) (by decide)
           rw [e1,e2]
           exact ⟨_,rfl,rfl,arr_nil (Holds.to (by assumption))⟩)
        | (have h2' : (arcQ s (xs.getD i default)).cl = true:=h2
           have hz:=nextW_5 (s:=s) (v:=(wrun s v (xs.take i)).2.1) (id:=xs.getD i default) (by simpa using h1) h2'
           obtain ⟨e1,e2⟩:=vbad (n:=n) (e:=5) hvx hil hc (by rw [hz]) (by decide)
           rw [e1,e2]
           exact ⟨_,rfl,rfl,arr_nil (Holds.to (by assumption))⟩)
        | (have h3' : ¬ (arcQ s (xs.getD i default)).t = (wrun s v (xs.take i)).2.1:=by rw [← hlast]; exact h3
           have hz:=nextW_8 (s:=s) (v:=(wrun s v (xs.take i)).2.1) (id:=xs.getD i default) (by simpa using h1) (by simpa using h2) h3'
           obtain ⟨e1,e2⟩:=vbad (n:=n) (e:=8) hvx hil hc (by rw [hz]) (by decide)
           rw [e1,e2]
           exact ⟨_,rfl,rfl,arr_nil (Holds.to (by assumption))⟩)
        | (obtain rfl : i = xs.length:=by omega
           rw [List.take_length] at hc H
           obtain ⟨e1,e2⟩:=vgood (n:=n) hvx hc
           rw [e1,e2]
           exact ⟨_,rfl,hx1,Holds.to (by assumption)⟩)
      · refine W.skip ?_
        refine hK11 _ _ _ ?_
        refine W.seq (fun K14 hK14=>?_)
        refine W.seq (fun K15 hK15=>?_)
        refine W.region ?_
        refine O.ex (by first|exact Ex.field0 fld42_3 rfl|exact Ex.field fld42_3 rfl|exact Ex.fieldS fld42_3 rfl) rfl ?_
        refine O.ex (by first|exact Ex.loadRT Try.isAgg4 rfl|exact Ex.loadRA Try.isAgg4 rfl|exact Ex.loadRN Try.isAgg4 rfl|exact Ex.loadRM Try.isAgg4 rfl|exact Ex.loadMh Try.isAgg4 rfl|exact Ex.loadP Try.isAgg4 rfl|exact Ex.loadM Try.isAgg4 rfl|exact Ex.loadIn1 Try.isAgg4 rfl (Holds.to (by assumption))|exact Ex.loadVc Try.isAgg4 rfl|exact Ex.loadR Try.isAgg4 rfl|exact Ex.loadQ Try.isAgg4 rfl) rfl ?_
        refine O.nil ?_
        refine hK15 _ _ _ ?_
        first|refine W.cond_p rfl (fun h2=>?_) (fun h2=>?_)|refine W.cond_b rfl (fun h2=>?_) (fun h2=>?_)
        · refine W.seq (fun K16 hK16=>?_)
          refine W.region ?_
          refine O.ex (Ex.assign rfl) rfl ?_
          refine O.ex (Ex.assign rfl) rfl ?_
          refine O.nil ?_
          refine hK16 _ _ _ ?_
          refine W.ret ?_
          try dsimp only [thenQ,blockQ,retQ]
          first|refine ⟨_,⟨_,_,rfl,rfl,_,_,rfl,rfl,rfl⟩,?_⟩|(refine retD_mark ?_; intro w H; refine ⟨_,⟨_,_,rfl,rfl,_,_,rfl,rfl,rfl⟩,?_⟩)|(refine retD_mark2 ?_; intro w H; refine ⟨_,⟨_,_,rfl,rfl,_,_,rfl,rfl,rfl⟩,?_⟩)
          first
          | (obtain ⟨e1,e2⟩:=vnone (n:=n) (s:=s) (v:=v) (xs:=xs) hno
             rw [e1,e2]
             exact ⟨_,rfl,rfl,arr_nil (Holds.to (by assumption))⟩)
          | (have h1' : (!thB s (xs.getD i default)) = true:=h1
             have hz:=nextW_3 (s:=s) (v:=(wrun s v (xs.take i)).2.1) (id:=xs.getD i default) (by simpa using h1')
             obtain ⟨e1,e2⟩:=vbad (n:=n) (e:=3) hvx hil hc (by rw [hz]) (by decide)
             rw [e1,e2]
             exact ⟨_,rfl,rfl,arr_nil (Holds.to (by assumption))⟩)
          | (have h2' : (arcQ s (xs.getD i default)).cl = true:=h2
             have hz:=nextW_5 (s:=s) (v:=(wrun s v (xs.take i)).2.1) (id:=xs.getD i default) (by simpa using h1) h2'
             obtain ⟨e1,e2⟩:=vbad (n:=n) (e:=5) hvx hil hc (by rw [hz]) (by decide)
             rw [e1,e2]
             exact ⟨_,rfl,rfl,arr_nil (Holds.to (by assumption))⟩)
          | (have h3' : ¬ (arcQ s (xs.getD i default)).t = (wrun s v (xs.take i)).2.1:=by rw [← hlast]; exact h3
             have hz:=nextW_8 (s:=s) (v:=(wrun s v (xs.take i)).2.1) (id:=xs.getD i default) (by simpa using h1) (by simpa using h2) h3'
             obtain ⟨e1,e2⟩:=vbad (n:=n) (e:=8) hvx hil hc (by rw [hz]) (by decide)
             rw [e1,e2]
             exact ⟨_,rfl,rfl,arr_nil (Holds.to (by assumption))⟩)
          | (obtain rfl : i = xs.length:=by omega
             rw [List.take_length] at hc H
             obtain ⟨e1,e2⟩:=vgood (n:=n) hvx hc
             rw [e1,e2]
             exact ⟨_,rfl,hx1,Holds.to (by assumption)⟩)
        · refine W.skip ?_
          refine hK14 _ _ _ ?_
          refine W.seq (fun K17 hK17=>?_)
          refine W.seq (fun K18 hK18=>?_)
          have hi0 : (0 : Int) ≤ (i : Int):=by omega
          have hi1 : (i : Int) < ((wrun s v (xs.take i)).1.length : Int):=by omega
          refine W.drawTo _ (.take 0 (.take 1 (.take 2 (.take 3 (.take 4 (.take 5 (.take 6 .nil))))))) (mixed) (fun _ _ _ _ h=>h) (by assumption) (PP.refl _) (by decide +kernel) (fun w H=>?_)
          refine OQ.ex rfl (fun w H=>(by first|exact Ex.field0 fld42_0 rfl|exact Ex.field fld42_0 rfl|exact Ex.fieldS fld42_0 rfl)) rfl ?_
          refine OQ.ex rfl (fun w H=>(by first|exact Ex.loadRT Try.isAgg3 rfl|exact Ex.loadRA Try.isAgg3 rfl|exact Ex.loadRN Try.isAgg3 rfl|exact Ex.loadRM Try.isAgg3 rfl|exact Ex.loadMh Try.isAgg3 rfl|exact Ex.loadP Try.isAgg3 rfl|exact Ex.loadM Try.isAgg3 rfl|exact Ex.loadIn1 Try.isAgg3 rfl (Holds.to (by assumption))|exact Ex.loadVc Try.isAgg3 rfl|exact Ex.loadR Try.isAgg3 rfl|exact Ex.loadQ Try.isAgg3 rfl)) rfl ?_
          refine OQ.ex rfl (fun w H=>(Ex.move rfl)) rfl ?_
          refine OQ.ex rfl (fun w H=>(Ex.move rfl)) rfl ?_
          refine OQ.ex rfl (fun w H=>(by first|exact Ex.idxR Try.runUnderlying28 Try.sizeOf3 rfl rfl|exact Ex.idxIn Try.runUnderlying28 Try.sizeOf3 rfl rfl|exact Ex.idxS Try.runUnderlying28 Try.sizeOf3 rfl rfl|exact Ex.idx Try.runUnderlying28 Try.sizeOf3 rfl rfl (by omega) (by omega))) rfl ?_
          refine OQ.ex rfl (fun w H=>(by first|exact Ex.loadRT Try.isAgg3 rfl|exact Ex.loadRA Try.isAgg3 rfl|exact Ex.loadRN Try.isAgg3 rfl|exact Ex.loadRM Try.isAgg3 rfl|exact Ex.loadR Try.isAgg3 rfl|exact Ex.loadIn1 Try.isAgg3 rfl (Holds.to (by assumption))|exact Ex.loadP Try.isAgg3 rfl|exact Ex.loadMh Try.isAgg3 rfl|exact Ex.loadM Try.isAgg3 rfl|exact Ex.loadVc Try.isAgg3 rfl|exact Ex.loadQ Try.isAgg3 rfl)) rfl ?_
          refine OQ.ex rfl (fun w H=>(Ex.neqI rfl rfl)) rfl ?_
          refine OQ.done ?_
          refine hK18 _ _ _ ?_
          first|refine W.cond_p rfl (fun h3=>?_) (fun h3=>?_)|refine W.cond_b rfl (fun h3=>?_) (fun h3=>?_)
          · refine W.seq (fun K19 hK19=>?_)
            refine W.region ?_
            refine O.ex (Ex.assign rfl) rfl ?_
            refine O.ex (Ex.assign rfl) rfl ?_
            refine O.nil ?_
            refine hK19 _ _ _ ?_
            refine W.ret ?_
            try dsimp only [thenQ,blockQ,retQ]
            first|refine ⟨_,⟨_,_,rfl,rfl,_,_,rfl,rfl,rfl⟩,?_⟩|(refine retD_mark ?_; intro w H; refine ⟨_,⟨_,_,rfl,rfl,_,_,rfl,rfl,rfl⟩,?_⟩)|(refine retD_mark2 ?_; intro w H; refine ⟨_,⟨_,_,rfl,rfl,_,_,rfl,rfl,rfl⟩,?_⟩)
            first
            | (obtain ⟨e1,e2⟩:=vnone (n:=n) (s:=s) (v:=v) (xs:=xs) hno
               rw [e1,e2]
               exact ⟨_,rfl,rfl,arr_nil (Holds.to (by assumption))⟩)
            | (have h1' : (!thB s (xs.getD i default)) = true:=h1
               have hz:=nextW_3 (s:=s) (v:=(wrun s v (xs.take i)).2.1) (id:=xs.getD i default) (by simpa using h1')
               obtain ⟨e1,e2⟩:=vbad (n:=n) (e:=3) hvx hil hc (by rw [hz]) (by decide)
               rw [e1,e2]
               exact ⟨_,rfl,rfl,arr_nil (Holds.to (by assumption))⟩)
            | (have h2' : (arcQ s (xs.getD i default)).cl = true:=h2
               have hz:=nextW_5 (s:=s) (v:=(wrun s v (xs.take i)).2.1) (id:=xs.getD i default) (by simpa using h1) h2'
               obtain ⟨e1,e2⟩:=vbad (n:=n) (e:=5) hvx hil hc (by rw [hz]) (by decide)
               rw [e1,e2]
               exact ⟨_,rfl,rfl,arr_nil (Holds.to (by assumption))⟩)
            | (have h3' : ¬ (arcQ s (xs.getD i default)).t = (wrun s v (xs.take i)).2.1:=by rw [← hlast]; exact h3
               have hz:=nextW_8 (s:=s) (v:=(wrun s v (xs.take i)).2.1) (id:=xs.getD i default) (by simpa using h1) (by simpa using h2) h3'
               obtain ⟨e1,e2⟩:=vbad (n:=n) (e:=8) hvx hil hc (by rw [hz]) (by decide)
               rw [e1,e2]
               exact ⟨_,rfl,rfl,arr_nil (Holds.to (by assumption))⟩)
            | (obtain rfl : i = xs.length:=by omega
               rw [List.take_length] at hc H
               obtain ⟨e1,e2⟩:=vgood (n:=n) hvx hc
               rw [e1,e2]
               exact ⟨_,rfl,hx1,Holds.to (by assumption)⟩)
          · refine W.skip ?_
            refine hK17 _ _ _ ?_
            refine W.region ?_
            refine O.ex (Ex.move rfl) rfl ?_
            refine O.ex (by first|exact Ex.field0 fld42_1 rfl|exact Ex.field fld42_1 rfl|exact Ex.fieldS fld42_1 rfl) rfl ?_
            refine O.ex (by first|exact Ex.loadRT Try.isAgg3 rfl|exact Ex.loadRA Try.isAgg3 rfl|exact Ex.loadRN Try.isAgg3 rfl|exact Ex.loadRM Try.isAgg3 rfl|exact Ex.loadMh Try.isAgg3 rfl|exact Ex.loadP Try.isAgg3 rfl|exact Ex.loadM Try.isAgg3 rfl|exact Ex.loadIn1 Try.isAgg3 rfl (Holds.to (by assumption))|exact Ex.loadVc Try.isAgg3 rfl|exact Ex.loadR Try.isAgg3 rfl|exact Ex.loadQ Try.isAgg3 rfl) rfl ?_
            refine O.build1 (e:=Value.int .i64) Try.runUnderlying28 Try.sizeOf3 Try.zeroValue3 rfl (fun v47 w hv47 H=>?_)
            refine O.appendR Try.runUnderlying28 Try.typeInfo3 (bt:=8) rfl Try.sizeOf3 Try.zeroValue3 rfl rfl (fun v48 w hv48 H=>?_)
            refine O.ex (Ex.assign rfl) rfl ?_
            refine O.nil ?_
            refine hK9 _ _ _ ?_
            refine W.region ?_
            refine O.ex (Ex.move rfl) rfl ?_
            refine O.ex (by first|exact Ex.addI rfl rfl|exact Ex.add rfl rfl rfl) rfl ?_
            refine O.ex (Ex.assign rfl) rfl ?_
            refine O.nil ?_
            have h3' : (arcQ s (xs.getD i default)).t = (wrun s v (xs.take i)).2.1:=by rw [← hlast]; exact Decidable.not_not.1 h3
            have hz:=nextW_0 (s:=s) (v:=(wrun s v (xs.take i)).2.1) (id:=xs.getD i default) (by simpa using h1) (by simpa using h2) h3'
            have esu:=(wstep (s:=s) (v:=v) hil).trans (wst_ok hc (by rw [hz]))
            rw [hz] at esu
            exact ⟨(i + 1,v48),⟨rfl,rfl,rfl,rfl,trivial⟩,⟨rfl,by dsimp only; omega,hv48,by dsimp only; rw [esu],by dsimp only; rw [esu]; exact Holds.to (by assumption)⟩,by dsimp only; omega⟩
    · refine W.exit ?_
      refine hK5 _ _ _ ?_
      refine W.seq (fun K20 hK20=>?_)
      refine W.region ?_
      refine O.ex (Ex.move rfl) rfl ?_
      refine O.ex (Ex.assign rfl) rfl ?_
      refine O.ex (Ex.assign rfl) rfl ?_
      refine O.nil ?_
      refine hK20 _ _ _ ?_
      refine W.ret ?_
      try dsimp only [thenQ,blockQ,retQ]
      first|refine ⟨_,⟨_,_,rfl,rfl,_,_,rfl,rfl,rfl⟩,?_⟩|(refine retD_mark ?_; intro w H; refine ⟨_,⟨_,_,rfl,rfl,_,_,rfl,rfl,rfl⟩,?_⟩)|(refine retD_mark2 ?_; intro w H; refine ⟨_,⟨_,_,rfl,rfl,_,_,rfl,rfl,rfl⟩,?_⟩)
      first
      | (obtain ⟨e1,e2⟩:=vnone (n:=n) (s:=s) (v:=v) (xs:=xs) hno
         rw [e1,e2]
         exact ⟨_,rfl,rfl,arr_nil (Holds.to (by assumption))⟩)
      | (have h1' : (!thB s (xs.getD i default)) = true:=h1
         have hz:=nextW_3 (s:=s) (v:=(wrun s v (xs.take i)).2.1) (id:=xs.getD i default) (by simpa using h1')
         obtain ⟨e1,e2⟩:=vbad (n:=n) (e:=3) hvx hil hc (by rw [hz]) (by decide)
         rw [e1,e2]
         exact ⟨_,rfl,rfl,arr_nil (Holds.to (by assumption))⟩)
      | (have h2' : (arcQ s (xs.getD i default)).cl = true:=h2
         have hz:=nextW_5 (s:=s) (v:=(wrun s v (xs.take i)).2.1) (id:=xs.getD i default) (by simpa using h1) h2'
         obtain ⟨e1,e2⟩:=vbad (n:=n) (e:=5) hvx hil hc (by rw [hz]) (by decide)
         rw [e1,e2]
         exact ⟨_,rfl,rfl,arr_nil (Holds.to (by assumption))⟩)
      | (have h3' : ¬ (arcQ s (xs.getD i default)).t = (wrun s v (xs.take i)).2.1:=by rw [← hlast]; exact h3
         have hz:=nextW_8 (s:=s) (v:=(wrun s v (xs.take i)).2.1) (id:=xs.getD i default) (by simpa using h1) (by simpa using h2) h3'
         obtain ⟨e1,e2⟩:=vbad (n:=n) (e:=8) hvx hil hc (by rw [hz]) (by decide)
         rw [e1,e2]
         exact ⟨_,rfl,rfl,arr_nil (Holds.to (by assumption))⟩)
      | (obtain rfl : i = xs.length:=by omega
         rw [List.take_length] at hc H
         obtain ⟨e1,e2⟩:=vgood (n:=n) hvx hc
         rw [e1,e2]
         exact ⟨_,rfl,hx1,Holds.to (by assumption)⟩)
set_option maxHeartbeats 1000000 in
theorem rcheck_ct {w : World} {r : Nat} {n most v u : Int} {s : St} {iv : Value} {xs : List Int} {S : HProp} {L : List HProp} (hg : GOk n most s) (hR : Rd S iv xs) (hl : xs.length ≤ 200) (H : Holds w (Rg r n most s::S::L)) :
    CT Try.prog 17 [.pointer (some ⟨r,0,none⟩),.int .i64 v,.int .i64 u,iv] w fun x w'=>x = .int .i64 (ccode n s v u xs) ∧ Holds w' (Rg r n most s::S::L):=by
  refine CT.enter (N:=39) Try.func17 rfl rfl rfl rfl ?_
  refine W.seq (fun K0 hK0=>?_)
  refine W.region ?_
  refine O.ex (Ex.assign rfl) rfl ?_
  refine O.nil ?_
  refine hK0 _ _ _ ?_
  refine W.seq (fun K1 hK1=>?_)
  refine W.seq (fun K2 hK2=>?_)
  refine W.region ?_
  refine O.ex (Ex.move rfl) rfl ?_
  refine O.ex (Ex.move rfl) rfl ?_
  refine O.callF Try.call13 rfl rfl (CT.mono (rvertex_ct (Holds.to (by assumption))) ?_)
  rintro _ w ⟨rfl,H⟩
  refine O.ex (by first|exact Ex.notD rfl|exact Ex.not rfl) rfl ?_
  refine O.ex (Ex.move rfl) rfl ?_
  first|refine O.split_p (t:=15) rfl (fun h0=>?_) (fun h0=>?_)|refine O.split (t:=15) rfl (fun h0=>?_) (fun h0=>?_)
  · refine O.guard_f rfl rfl rfl rfl ?_
    refine O.guard_f rfl rfl rfl rfl ?_
    refine O.guard_f rfl rfl rfl rfl ?_
    refine O.guard_f rfl rfl rfl rfl ?_
    refine O.ex (Ex.pick_t rfl rfl) rfl ?_
    refine O.nil ?_
    refine hK2 _ _ _ ?_
    refine W.cond_t rfl ?_
    refine W.seq (fun K3 hK3=>?_)
    refine W.region ?_
    refine O.ex (Ex.assign rfl) rfl ?_
    refine O.nil ?_
    refine hK3 _ _ _ ?_
    refine W.ret ?_
    try dsimp only [thenQ,blockQ,retQ]
    first|refine ⟨_,⟨_,_,rfl,rfl,rfl⟩,?_⟩|(refine retD_mark ?_; intro w H; refine ⟨_,⟨_,_,rfl,rfl,rfl⟩,?_⟩)|(refine retD_mark2 ?_; intro w H; refine ⟨_,⟨_,_,rfl,rfl,rfl⟩,?_⟩)
    refine ⟨congrArg (Value.int .i64) ?_,Holds.to (by assumption)⟩
    unfold ccode
    first
    | (rw [if_pos (fun hh=>h0 hh.1)]; done)
    | (rw [if_pos (fun hh=>h1 hh.2)]; done)
    | (have hv2 : vxW n v:=by simpa using h0
       have hu2 : vxW n u:=by simpa using h1
       rw [if_neg (fun hh=>hh ⟨hv2,hu2⟩)]
       have e : vcode n s v xs = (wrun s v xs).2.2:=if_neg (fun hh=>hh hv2)
       rw [e] at hbad
       rw [if_pos hbad,e]; done)
    | (have hu2 : vxW n u:=by simpa using h1
       rw [hlast] at h3
       rw [if_neg (fun hh=>hh ⟨hvx,hu2⟩),if_neg (fun hh=>hh hz2),if_pos h3]; done)
    | (have hu2 : vxW n u:=by simpa using h1
       rw [hlast] at h3
       rw [if_neg (fun hh=>hh ⟨hvx,hu2⟩),if_neg (fun hh=>hh hz2),if_neg h3]; done)
  · refine O.guard_t rfl rfl ?_
    refine O.ex (Ex.move rfl) rfl ?_
    refine O.guard_t rfl rfl ?_
    refine O.ex (Ex.move rfl) rfl ?_
    refine O.guard_t rfl rfl ?_
    refine O.callF Try.call13 rfl rfl (CT.mono (rvertex_ct (Holds.to (by assumption))) ?_)
    rintro _ w ⟨rfl,H⟩
    refine O.guard_t rfl rfl ?_
    refine O.ex (by first|exact Ex.notD rfl|exact Ex.not rfl) rfl ?_
    refine O.ex (Ex.pick_f rfl rfl) rfl ?_
    refine O.nil ?_
    refine hK2 _ _ _ ?_
    first|refine W.cond_p rfl (fun h1=>?_) (fun h1=>?_)|refine W.cond_b rfl (fun h1=>?_) (fun h1=>?_)
    · refine W.seq (fun K4 hK4=>?_)
      refine W.region ?_
      refine O.ex (Ex.assign rfl) rfl ?_
      refine O.nil ?_
      refine hK4 _ _ _ ?_
      refine W.ret ?_
      try dsimp only [thenQ,blockQ,retQ]
      first|refine ⟨_,⟨_,_,rfl,rfl,rfl⟩,?_⟩|(refine retD_mark ?_; intro w H; refine ⟨_,⟨_,_,rfl,rfl,rfl⟩,?_⟩)|(refine retD_mark2 ?_; intro w H; refine ⟨_,⟨_,_,rfl,rfl,rfl⟩,?_⟩)
      refine ⟨congrArg (Value.int .i64) ?_,Holds.to (by assumption)⟩
      unfold ccode
      first
      | (rw [if_pos (fun hh=>h0 hh.1)]; done)
      | (rw [if_pos (fun hh=>h1 hh.2)]; done)
      | (have hv2 : vxW n v:=by simpa using h0
         have hu2 : vxW n u:=by simpa using h1
         rw [if_neg (fun hh=>hh ⟨hv2,hu2⟩)]
         have e : vcode n s v xs = (wrun s v xs).2.2:=if_neg (fun hh=>hh hv2)
         rw [e] at hbad
         rw [if_pos hbad,e]; done)
      | (have hu2 : vxW n u:=by simpa using h1
         rw [hlast] at h3
         rw [if_neg (fun hh=>hh ⟨hvx,hu2⟩),if_neg (fun hh=>hh hz2),if_pos h3]; done)
      | (have hu2 : vxW n u:=by simpa using h1
         rw [hlast] at h3
         rw [if_neg (fun hh=>hh ⟨hvx,hu2⟩),if_neg (fun hh=>hh hz2),if_neg h3]; done)
    · refine W.skip ?_
      refine hK1 _ _ _ ?_
      refine W.seq (fun K5 hK5=>?_)
      refine W.region ?_
      refine O.ex (Ex.move rfl) rfl ?_
      refine O.ex (Ex.move rfl) rfl ?_
      refine O.ex (Ex.move rfl) rfl ?_
      refine O.callF Try.call42 rfl rfl (CT.mono (rvisits_ct hg hR hl (Holds.to (by assumption))) ?_)
      rintro _ w ⟨x,rfl,hx1,H⟩
      refine O.ex (Ex.move rfl) rfl ?_
      refine O.ex (Ex.extract rfl rfl) rfl ?_
      refine O.ex (Ex.extract rfl rfl) rfl ?_
      refine O.ex (Ex.assign rfl) rfl ?_
      refine O.ex (Ex.assign rfl) rfl ?_
      refine O.nil ?_
      refine hK5 _ _ _ ?_
      refine W.seq (fun K6 hK6=>?_)
      refine W.seq (fun K7 hK7=>?_)
      refine W.region ?_
      refine O.ex (Ex.move rfl) rfl ?_
      refine O.ex (Ex.neqI rfl rfl) rfl ?_
      refine O.nil ?_
      refine hK7 _ _ _ ?_
      first|refine W.cond_p rfl (fun hbad=>?_) (fun hok=>?_)|refine W.cond_b rfl (fun hbad=>?_) (fun hok=>?_)
      · refine W.seq (fun K8 hK8=>?_)
        refine W.region ?_
        refine O.ex (Ex.move rfl) rfl ?_
        refine O.ex (Ex.assign rfl) rfl ?_
        refine O.nil ?_
        refine hK8 _ _ _ ?_
        refine W.ret ?_
        try dsimp only [thenQ,blockQ,retQ]
        first|refine ⟨_,⟨_,_,rfl,rfl,rfl⟩,?_⟩|(refine retD_mark ?_; intro w H; refine ⟨_,⟨_,_,rfl,rfl,rfl⟩,?_⟩)|(refine retD_mark2 ?_; intro w H; refine ⟨_,⟨_,_,rfl,rfl,rfl⟩,?_⟩)
        refine ⟨congrArg (Value.int .i64) ?_,Holds.to (by assumption)⟩
        unfold ccode
        first
        | (rw [if_pos (fun hh=>h0 hh.1)]; done)
        | (rw [if_pos (fun hh=>h1 hh.2)]; done)
        | (have hv2 : vxW n v:=by simpa using h0
           have hu2 : vxW n u:=by simpa using h1
           rw [if_neg (fun hh=>hh ⟨hv2,hu2⟩)]
           have e : vcode n s v xs = (wrun s v xs).2.2:=if_neg (fun hh=>hh hv2)
           rw [e] at hbad
           rw [if_pos hbad,e]; done)
        | (have hu2 : vxW n u:=by simpa using h1
           rw [hlast] at h3
           rw [if_neg (fun hh=>hh ⟨hvx,hu2⟩),if_neg (fun hh=>hh hz2),if_pos h3]; done)
        | (have hu2 : vxW n u:=by simpa using h1
           rw [hlast] at h3
           rw [if_neg (fun hh=>hh ⟨hvx,hu2⟩),if_neg (fun hh=>hh hz2),if_neg h3]; done)
      · refine W.skip ?_
        refine hK6 _ _ _ ?_
        refine W.seq (fun K9 hK9=>?_)
        refine W.seq (fun K10 hK10=>?_)
        refine W.region ?_
        have hz:=Decidable.not_not.1 hok
        obtain ⟨hvx,hz2⟩:=vcode_ok hz
        have hgd:=wgood_all hg hz2
        have hll : (vlist n s v xs).length = xs.length + 1:=by rw [vlist_ok hz]; exact hgd.len
        have hlast : (vlist n s v xs).getD (((vlist n s v xs).length : Int) - 1).toNat default = (wrun s v xs).2.1:=by
          rw [hll,show ((((xs.length + 1 : Nat) : Int) - 1).toNat) = xs.length by omega,vlist_ok hz]; exact hgd.last
        refine O.ex (Ex.move rfl) rfl ?_
        refine O.ex (Ex.move rfl) rfl ?_
        refine O.ex (by first|exact Ex.lenR Try.runUnderlying28 rfl|exact Ex.lenIn Try.runUnderlying28 rfl|exact Ex.lenL Try.runUnderlying28 rfl|exact Ex.len rfl Try.runUnderlying28 rfl) rfl ?_
        refine O.ex (by first|exact Ex.subI rfl rfl|exact Ex.sub rfl rfl rfl) rfl ?_
        refine O.ex (by first|exact Ex.idxR Try.runUnderlying28 Try.sizeOf3 rfl rfl|exact Ex.idxIn Try.runUnderlying28 Try.sizeOf3 rfl rfl|exact Ex.idxS Try.runUnderlying28 Try.sizeOf3 rfl rfl|exact Ex.idx Try.runUnderlying28 Try.sizeOf3 rfl rfl (by omega) (by omega)) rfl ?_
        refine O.ex (by first|exact Ex.loadRT Try.isAgg3 rfl|exact Ex.loadRA Try.isAgg3 rfl|exact Ex.loadRN Try.isAgg3 rfl|exact Ex.loadRM Try.isAgg3 rfl|exact Ex.loadR Try.isAgg3 rfl|exact Ex.loadIn1 Try.isAgg3 rfl (Holds.to (by assumption))|exact Ex.loadP Try.isAgg3 rfl|exact Ex.loadMh Try.isAgg3 rfl|exact Ex.loadM Try.isAgg3 rfl|exact Ex.loadVc Try.isAgg3 rfl|exact Ex.loadQ Try.isAgg3 rfl) rfl ?_
        refine O.ex (Ex.move rfl) rfl ?_
        refine O.ex (Ex.neqI rfl rfl) rfl ?_
        refine O.nil ?_
        refine hK10 _ _ _ ?_
        first|refine W.cond_p rfl (fun h3=>?_) (fun h3=>?_)|refine W.cond_b rfl (fun h3=>?_) (fun h3=>?_)
        · refine W.seq (fun K11 hK11=>?_)
          refine W.region ?_
          refine O.ex (Ex.assign rfl) rfl ?_
          refine O.nil ?_
          refine hK11 _ _ _ ?_
          refine W.ret ?_
          try dsimp only [thenQ,blockQ,retQ]
          first|refine ⟨_,⟨_,_,rfl,rfl,rfl⟩,?_⟩|(refine retD_mark ?_; intro w H; refine ⟨_,⟨_,_,rfl,rfl,rfl⟩,?_⟩)|(refine retD_mark2 ?_; intro w H; refine ⟨_,⟨_,_,rfl,rfl,rfl⟩,?_⟩)
          refine ⟨congrArg (Value.int .i64) ?_,Holds.to (by assumption)⟩
          unfold ccode
          first
          | (rw [if_pos (fun hh=>h0 hh.1)]; done)
          | (rw [if_pos (fun hh=>h1 hh.2)]; done)
          | (have hv2 : vxW n v:=by simpa using h0
             have hu2 : vxW n u:=by simpa using h1
             rw [if_neg (fun hh=>hh ⟨hv2,hu2⟩)]
             have e : vcode n s v xs = (wrun s v xs).2.2:=if_neg (fun hh=>hh hv2)
             rw [e] at hbad
             rw [if_pos hbad,e]; done)
          | (have hu2 : vxW n u:=by simpa using h1
             rw [hlast] at h3
             rw [if_neg (fun hh=>hh ⟨hvx,hu2⟩),if_neg (fun hh=>hh hz2),if_pos h3]; done)
          | (have hu2 : vxW n u:=by simpa using h1
             rw [hlast] at h3
             rw [if_neg (fun hh=>hh ⟨hvx,hu2⟩),if_neg (fun hh=>hh hz2),if_neg h3]; done)
        · refine W.skip ?_
          refine hK9 _ _ _ ?_
          refine W.seq (fun K12 hK12=>?_)
          refine W.region ?_
          refine O.ex (Ex.assign rfl) rfl ?_
          refine O.nil ?_
          refine hK12 _ _ _ ?_
          refine W.ret ?_
          try dsimp only [thenQ,blockQ,retQ]
          first|refine ⟨_,⟨_,_,rfl,rfl,rfl⟩,?_⟩|(refine retD_mark ?_; intro w H; refine ⟨_,⟨_,_,rfl,rfl,rfl⟩,?_⟩)|(refine retD_mark2 ?_; intro w H; refine ⟨_,⟨_,_,rfl,rfl,rfl⟩,?_⟩)
          refine ⟨congrArg (Value.int .i64) ?_,Holds.to (by assumption)⟩
          unfold ccode
          first
          | (rw [if_pos (fun hh=>h0 hh.1)]; done)
          | (rw [if_pos (fun hh=>h1 hh.2)]; done)
          | (have hv2 : vxW n v:=by simpa using h0
             have hu2 : vxW n u:=by simpa using h1
             rw [if_neg (fun hh=>hh ⟨hv2,hu2⟩)]
             have e : vcode n s v xs = (wrun s v xs).2.2:=if_neg (fun hh=>hh hv2)
             rw [e] at hbad
             rw [if_pos hbad,e]; done)
          | (have hu2 : vxW n u:=by simpa using h1
             rw [hlast] at h3
             rw [if_neg (fun hh=>hh ⟨hvx,hu2⟩),if_neg (fun hh=>hh hz2),if_pos h3]; done)
          | (have hu2 : vxW n u:=by simpa using h1
             rw [hlast] at h3
             rw [if_neg (fun hh=>hh ⟨hvx,hu2⟩),if_neg (fun hh=>hh hz2),if_neg h3]; done)
set_option maxHeartbeats 1000000 in
theorem rsum_ct {w : World} {r : Nat} {n most : Int} {s : St} {iv : Value} {xs : List Int} {S : HProp} {L : List HProp} (hg : GOk n most s) (hR : Rd S iv xs) (hl : xs.length ≤ 200) (H : Holds w (Rg r n most s::S::L)) :
    CT Try.prog 18 [.pointer (some ⟨r,0,none⟩),iv] w fun x w'=>x = .int .i64 (srun s xs).1 ∧ Holds w' (Rg r n most s::S::L):=by
  obtain ⟨a,cap,rfl⟩:=hR.form H.swap
  refine CT.enter (N:=31) Try.func18 rfl rfl rfl rfl ?_
  refine W.seq (fun K0 hK0=>?_)
  refine W.region ?_
  refine O.ex (Ex.assign rfl) rfl ?_
  refine O.nil ?_
  refine hK0 _ _ _ ?_
  refine W.seq (fun K1 hK1=>?_)
  refine W.region ?_
  refine O.ex (Ex.assign rfl) rfl ?_
  refine O.nil ?_
  refine hK1 _ _ _ ?_
  refine W.seq (fun K2 hK2=>?_)
  refine W.seq (fun K3 hK3=>?_)
  refine W.region ?_
  refine O.ex (Ex.assign rfl) rfl ?_
  refine O.nil ?_
  refine hK3 _ _ _ ?_
  refine W.block ?_
  refine W.loop (σ:=Nat) (fun i=>[(0,.pointer (some ⟨r,0,none⟩)),(1,.slice a xs.length cap),(5,.int .i64 (srun s (xs.take i)).1),(6,.int .i64 (i : Int))]) (fun i ds w=>ds = [] ∧ i ≤ xs.length ∧ (srun s (xs.take i)).2 = true ∧ Holds w (Rg r n most s::S::L)) (fun i=>xs.length - i) 0 ⟨rfl,rfl,rfl,rfl,trivial⟩ ⟨rfl,by omega,rfl,Holds.to (by assumption)⟩ ?_
  clear H
  rintro i _ w ⟨rfl,hi,hc,H⟩
  refine W.seq (fun K4 hK4=>?_)
  refine W.seq (fun K5 hK5=>?_)
  refine W.region ?_
  refine O.ex (Ex.move rfl) rfl ?_
  refine O.ex (Ex.move rfl) rfl ?_
  refine O.ex (by first|exact Ex.lenR Try.runUnderlying28 rfl|exact Ex.lenIn Try.runUnderlying28 rfl|exact Ex.lenL Try.runUnderlying28 rfl|exact Ex.len rfl Try.runUnderlying28 rfl) rfl ?_
  refine O.ex (Ex.lss rfl rfl) rfl ?_
  refine O.nil ?_
  refine hK5 _ _ _ ?_
  first|refine W.cond_p rfl (fun hlt=>?_) (fun hge=>?_)|refine W.cond_b rfl (fun hlt=>?_) (fun hge=>?_)
  · refine W.skip ?_
    refine hK4 _ _ _ ?_
    refine W.seq (fun K6 hK6=>?_)
    refine W.block ?_
    refine W.seq (fun K7 hK7=>?_)
    refine W.region ?_
    have hil : i < xs.length:=by omega
    have esu : srun s (xs.take (i + 1)) = sst s (srun s (xs.take i)) (xs.getD i default):=by rw [take_getC _ hil,srun_snoc]
    have hdb : Dst (srun s (xs.take i)).1:=srun_dst hg (xs.take i) (0,true) ⟨by omega,by omega⟩
    refine O.ex (Ex.move rfl) rfl ?_
    refine O.ex (Ex.move rfl) rfl ?_
    refine O.ex (Ex.move rfl) rfl ?_
    refine O.ex (Ex.idxRd hR Try.runUnderlying28 Try.sizeOf3 rfl rfl) rfl ?_
    refine O.ex (Ex.loadRd (i:=i) hR Try.isAgg3 rfl) rfl ?_
    refine O.callF Try.call22 rfl rfl (CT.mono (rarc_ct (id:=xs.getD i default) hg (Holds.to (by assumption))) ?_)
    rintro _ w ⟨rfl,H⟩
    refine O.ex (Ex.move rfl) rfl ?_
    refine O.ex (Ex.extract rfl rfl) rfl ?_
    refine O.ex (Ex.extract rfl rfl) rfl ?_
    refine O.allocP Try.zeroValue42 (fun b7 w H=>?_)
    first|refine O.storeAggP Try.sizeOf42 rfl rfl rfl rfl (fun w H=>?_)|refine O.storeAggN Try.sizeOf42 rfl rfl rfl (fun w H=>?_) rfl
    refine O.ex (Ex.assign rfl) rfl ?_
    refine O.nil ?_
    refine hK7 _ _ _ ?_
    refine W.seq (fun K8 hK8=>?_)
    refine W.seq (fun K9 hK9=>?_)
    refine W.region ?_
    refine O.ex (Ex.move rfl) rfl ?_
    refine O.ex (by first|exact Ex.notD rfl|exact Ex.not rfl) rfl ?_
    refine O.nil ?_
    refine hK9 _ _ _ ?_
    first|refine W.cond_p rfl (fun hno=>?_) (fun hyes=>?_)|refine W.cond_b rfl (fun hno=>?_) (fun hyes=>?_)
    · refine W.seq (fun K10 hK10=>?_)
      refine W.region ?_
      refine O.ex (Ex.assign rfl) rfl ?_
      refine O.nil ?_
      refine hK10 _ _ _ ?_
      refine W.ret ?_
      try dsimp only [thenQ,blockQ,retQ]
      first|refine ⟨_,⟨_,_,rfl,rfl,rfl⟩,?_⟩|(refine retD_mark ?_; intro w H; refine ⟨_,⟨_,_,rfl,rfl,rfl⟩,?_⟩)|(refine retD_mark2 ?_; intro w H; refine ⟨_,⟨_,_,rfl,rfl,rfl⟩,?_⟩)
      first
      | (have e : sst s (srun s (xs.take i)) (xs.getD i default) = (4611686018427387906,false):=by unfold sst; rw [if_neg (by rw [hc]; decide),if_neg (by simpa using hno)]
         rw [e] at esu
         have es:=srun_stuck (s:=s) (l:=xs) (i + 1) (by rw [esu])
         rw [es,esu]
         exact ⟨rfl,Holds.to (by assumption)⟩)
      | (obtain rfl : i = xs.length:=by omega
         rw [List.take_length]
         exact ⟨rfl,Holds.to (by assumption)⟩)
    · refine W.skip ?_
      refine hK8 _ _ _ ?_
      refine W.region ?_
      refine O.ex (Ex.move rfl) rfl ?_
      refine O.ex (by first|exact Ex.field0 fld42_2 rfl|exact Ex.field fld42_2 rfl|exact Ex.fieldS fld42_2 rfl) rfl ?_
      refine O.ex (by first|exact Ex.loadRT Try.isAgg3 rfl|exact Ex.loadRA Try.isAgg3 rfl|exact Ex.loadRN Try.isAgg3 rfl|exact Ex.loadRM Try.isAgg3 rfl|exact Ex.loadMh Try.isAgg3 rfl|exact Ex.loadP Try.isAgg3 rfl|exact Ex.loadM Try.isAgg3 rfl|exact Ex.loadIn1 Try.isAgg3 rfl (Holds.to (by assumption))|exact Ex.loadVc Try.isAgg3 rfl|exact Ex.loadR Try.isAgg3 rfl|exact Ex.loadQ Try.isAgg3 rfl) rfl ?_
      refine O.callF Try.call21 rfl rfl (CT.mono (refTwo_ct (Holds.to (by assumption)) hdb (arcQ_dst hg _)) ?_)
      rintro _ w ⟨rfl,H⟩
      refine O.ex (Ex.assign rfl) rfl ?_
      refine O.nil ?_
      refine hK6 _ _ _ ?_
      refine W.region ?_
      refine O.ex (Ex.move rfl) rfl ?_
      refine O.ex (by first|exact Ex.addI rfl rfl|exact Ex.add rfl rfl rfl) rfl ?_
      refine O.ex (Ex.assign rfl) rfl ?_
      refine O.nil ?_
      have e : sst s (srun s (xs.take i)) (xs.getD i default) = (two (srun s (xs.take i)).1 (arcQ s (xs.getD i default)).w,true):=by unfold sst; rw [if_neg (by rw [hc]; decide),if_pos (by simpa using hyes)]
      rw [e] at esu
      exact ⟨i + 1,⟨rfl,rfl,by rw [esu]; rfl,rfl,trivial⟩,⟨rfl,by omega,by rw [esu],Holds.to (by assumption)⟩,by omega⟩
  · refine W.exit ?_
    refine hK2 _ _ _ ?_
    refine W.seq (fun K11 hK11=>?_)
    refine W.region ?_
    refine O.ex (Ex.move rfl) rfl ?_
    refine O.ex (Ex.assign rfl) rfl ?_
    refine O.nil ?_
    refine hK11 _ _ _ ?_
    refine W.ret ?_
    try dsimp only [thenQ,blockQ,retQ]
    first|refine ⟨_,⟨_,_,rfl,rfl,rfl⟩,?_⟩|(refine retD_mark ?_; intro w H; refine ⟨_,⟨_,_,rfl,rfl,rfl⟩,?_⟩)|(refine retD_mark2 ?_; intro w H; refine ⟨_,⟨_,_,rfl,rfl,rfl⟩,?_⟩)
    first
    | (have e : sst s (srun s (xs.take i)) (xs.getD i default) = (4611686018427387906,false):=by unfold sst; rw [if_neg (by rw [hc]; decide),if_neg (by simpa using hno)]
       rw [e] at esu
       have es:=srun_stuck (s:=s) (l:=xs) (i + 1) (by rw [esu])
       rw [es,esu]
       exact ⟨rfl,Holds.to (by assumption)⟩)
    | (obtain rfl : i = xs.length:=by omega
       rw [List.take_length]
       exact ⟨rfl,Holds.to (by assumption)⟩)
theorem nodup_getD {l : List Int} : l.Nodup ↔ ∀ a b,a < b → b < l.length → l.getD a default ≠ l.getD b default:=by
  unfold List.Nodup
  rw [List.pairwise_iff_getElem]
  constructor
  · intro h a b hab hb
    have:=h a b (by omega) hb hab
    rwa [List.getD_eq_getElem?_getD,List.getD_eq_getElem?_getD,List.getElem?_eq_getElem hb,List.getElem?_eq_getElem (show a < l.length by omega)]
  · intro h a b ha hb hab
    have:=h a b hab hb
    rwa [List.getD_eq_getElem?_getD,List.getD_eq_getElem?_getD,List.getElem?_eq_getElem hb,List.getElem?_eq_getElem ha] at this
set_option maxHeartbeats 1000000 in
theorem rsimple_ct {w : World} {r : Nat} {n most v : Int} {s : St} {iv : Value} {xs : List Int} {S : HProp} {L : List HProp} (hg : GOk n most s) (hR : Rd S iv xs) (hl : xs.length ≤ 200) (H : Holds w (Rg r n most s::S::L)) :
    CT Try.prog 19 [.pointer (some ⟨r,0,none⟩),.int .i64 v,iv] w fun x w'=>x = .bool (decide (vcode n s v xs = 0 ∧ (vlist n s v xs).Nodup)) ∧ Holds w' (Rg r n most s::S::L):=by
  have hvl:=vlist_len hg v xs
  refine CT.enter (N:=40) Try.func19 rfl rfl rfl rfl ?_
  refine W.seq (fun K0 hK0=>?_)
  refine W.region ?_
  refine O.ex (Ex.assign rfl) rfl ?_
  refine O.nil ?_
  refine hK0 _ _ _ ?_
  refine W.seq (fun K1 hK1=>?_)
  refine W.region ?_
  refine O.ex (Ex.move rfl) rfl ?_
  refine O.ex (Ex.move rfl) rfl ?_
  refine O.ex (Ex.move rfl) rfl ?_
  refine O.callF Try.call42 rfl rfl (CT.mono (rvisits_ct hg hR hl (Holds.to (by assumption))) ?_)
  rintro _ w ⟨x,rfl,hx1,H⟩
  refine O.ex (Ex.move rfl) rfl ?_
  refine O.ex (Ex.extract rfl rfl) rfl ?_
  refine O.ex (Ex.extract rfl rfl) rfl ?_
  refine O.ex (Ex.assign rfl) rfl ?_
  refine O.ex (Ex.assign rfl) rfl ?_
  refine O.nil ?_
  refine hK1 _ _ _ ?_
  refine W.seq (fun K2 hK2=>?_)
  refine W.seq (fun K3 hK3=>?_)
  refine W.region ?_
  refine O.ex (Ex.move rfl) rfl ?_
  refine O.ex (Ex.neqI rfl rfl) rfl ?_
  refine O.nil ?_
  refine hK3 _ _ _ ?_
  first|refine W.cond_p rfl (fun hbad=>?_) (fun hok=>?_)|refine W.cond_b rfl (fun hbad=>?_) (fun hok=>?_)
  · refine W.seq (fun K4 hK4=>?_)
    refine W.region ?_
    refine O.ex (Ex.assign rfl) rfl ?_
    refine O.nil ?_
    refine hK4 _ _ _ ?_
    refine W.ret ?_
    try dsimp only [thenQ,blockQ,retQ]
    first|refine ⟨_,⟨_,_,rfl,rfl,rfl⟩,?_⟩|(refine retD_mark ?_; intro w H; refine ⟨_,⟨_,_,rfl,rfl,rfl⟩,?_⟩)|(refine retD_mark2 ?_; intro w H; refine ⟨_,⟨_,_,rfl,rfl,rfl⟩,?_⟩)
    refine ⟨congrArg Value.bool ?_,Holds.to (by assumption)⟩
    first
    | exact (decide_eq_false (fun hh=>hbad hh.1)).symm
    | (have heq' : ys.getD k default = ys.getD i default:=heq
       exact (decide_eq_false (fun hh=>nodup_getD.1 (hys ▸ hh.2) k i (by omega) hil heq')).symm)
    | (refine (decide_eq_true ⟨Decidable.not_not.1 hok,?_⟩).symm
       rw [← hys]
       exact nodup_getD.2 fun a b h1 h2=>hd a b h1 (by omega))
  · refine W.skip ?_
    refine hK2 _ _ _ ?_
    refine W.seq (fun K5 hK5=>?_)
    refine W.seq (fun K6 hK6=>?_)
    refine W.region ?_
    refine O.ex (Ex.assign rfl) rfl ?_
    refine O.nil ?_
    refine hK6 _ _ _ ?_
    refine W.block ?_
    obtain ⟨ys,hys⟩ : ∃ ys,ys = vlist n s v xs:=⟨_,rfl⟩
    rw [← hys] at hvl H
    refine W.loop (σ:=Nat) (fun i=>[(7,x),(9,.int .i64 (i : Int))]) (fun i ds w=>ds = [] ∧ i ≤ ys.length ∧ (∀ a b,a < b → b < i → ys.getD a default ≠ ys.getD b default) ∧ Holds w (arr 3 (Value.int .i64) x ys::Rg r n most s::S::L)) (fun i=>ys.length - i) 0 ⟨rfl,rfl,trivial⟩ ⟨rfl,by omega,fun a b h1 h2=>by omega,Holds.to (by assumption)⟩ ?_
    clear H
    rintro i _ w ⟨rfl,hi,hd,H⟩
    refine W.seq (fun K7 hK7=>?_)
    refine W.seq (fun K8 hK8=>?_)
    refine W.region ?_
    refine O.ex (Ex.move rfl) rfl ?_
    refine O.ex (Ex.move rfl) rfl ?_
    refine O.ex (by first|exact Ex.lenR Try.runUnderlying28 rfl|exact Ex.lenIn Try.runUnderlying28 rfl|exact Ex.lenL Try.runUnderlying28 rfl|exact Ex.len rfl Try.runUnderlying28 rfl) rfl ?_
    refine O.ex (Ex.lss rfl rfl) rfl ?_
    refine O.nil ?_
    refine hK8 _ _ _ ?_
    first|refine W.cond_p rfl (fun hlt=>?_) (fun hge=>?_)|refine W.cond_b rfl (fun hlt=>?_) (fun hge=>?_)
    · refine W.skip ?_
      refine hK7 _ _ _ ?_
      refine W.seq (fun K9 hK9=>?_)
      refine W.block ?_
      refine W.seq (fun K10 hK10=>?_)
      refine W.region ?_
      refine O.ex (Ex.assign rfl) rfl ?_
      refine O.nil ?_
      refine hK10 _ _ _ ?_
      refine W.block ?_
      have hil : i < ys.length:=by omega
      refine W.loop (σ:=Nat) (fun k=>[(7,x),(9,.int .i64 (i : Int)),(10,.int .i64 (k : Int))]) (fun k ds w=>ds = [] ∧ k ≤ i ∧ (∀ a,a < k → ys.getD a default ≠ ys.getD i default) ∧ Holds w (arr 3 (Value.int .i64) x ys::Rg r n most s::S::L)) (fun k=>i - k) 0 ⟨rfl,rfl,rfl,trivial⟩ ⟨rfl,by omega,fun a h=>by omega,Holds.to (by assumption)⟩ ?_
      clear H
      rintro k _ w ⟨rfl,hk,he,H⟩
      refine W.seq (fun K11 hK11=>?_)
      refine W.seq (fun K12 hK12=>?_)
      refine W.region ?_
      refine O.ex (Ex.move rfl) rfl ?_
      refine O.ex (Ex.move rfl) rfl ?_
      refine O.ex (Ex.lss rfl rfl) rfl ?_
      refine O.nil ?_
      refine hK12 _ _ _ ?_
      first|refine W.cond_p rfl (fun klt=>?_) (fun kge=>?_)|refine W.cond_b rfl (fun klt=>?_) (fun kge=>?_)
      · refine W.skip ?_
        refine hK11 _ _ _ ?_
        refine W.seq (fun K13 hK13=>?_)
        refine W.block ?_
        refine W.seq (fun K14 hK14=>?_)
        have hk0 : (0 : Int) ≤ (k : Int):=by omega
        have hk1 : (k : Int) < (ys.length : Int):=by omega
        have hi0 : (0 : Int) ≤ (i : Int):=by omega
        have hi1 : (i : Int) < (ys.length : Int):=by omega
        refine W.drawTo _ (.take 0 (.take 1 (.take 2 (.take 3 (.take 4 (.take 5 (.take 6 (.take 7 (.take 8 .nil))))))))) (mixed) (fun _ _ _ _ h=>h) (by assumption) (PP.refl _) (by decide +kernel) (fun w H=>?_)
        refine OQ.ex rfl (fun w H=>(Ex.move rfl)) rfl ?_
        refine OQ.ex rfl (fun w H=>(Ex.move rfl)) rfl ?_
        refine OQ.ex rfl (fun w H=>(by first|exact Ex.idxR Try.runUnderlying28 Try.sizeOf3 rfl rfl|exact Ex.idxIn Try.runUnderlying28 Try.sizeOf3 rfl rfl|exact Ex.idxS Try.runUnderlying28 Try.sizeOf3 rfl rfl|exact Ex.idx Try.runUnderlying28 Try.sizeOf3 rfl rfl (by omega) (by omega))) rfl ?_
        refine OQ.ex rfl (fun w H=>(by first|exact Ex.loadRT Try.isAgg3 rfl|exact Ex.loadRA Try.isAgg3 rfl|exact Ex.loadRN Try.isAgg3 rfl|exact Ex.loadRM Try.isAgg3 rfl|exact Ex.loadR Try.isAgg3 rfl|exact Ex.loadIn1 Try.isAgg3 rfl (Holds.to (by assumption))|exact Ex.loadP Try.isAgg3 rfl|exact Ex.loadMh Try.isAgg3 rfl|exact Ex.loadM Try.isAgg3 rfl|exact Ex.loadVc Try.isAgg3 rfl|exact Ex.loadQ Try.isAgg3 rfl)) rfl ?_
        refine OQ.ex rfl (fun w H=>(Ex.move rfl)) rfl ?_
        refine OQ.ex rfl (fun w H=>(Ex.move rfl)) rfl ?_
        refine OQ.ex rfl (fun w H=>(by first|exact Ex.idxR Try.runUnderlying28 Try.sizeOf3 rfl rfl|exact Ex.idxIn Try.runUnderlying28 Try.sizeOf3 rfl rfl|exact Ex.idxS Try.runUnderlying28 Try.sizeOf3 rfl rfl|exact Ex.idx Try.runUnderlying28 Try.sizeOf3 rfl rfl (by omega) (by omega))) rfl ?_
        refine OQ.ex rfl (fun w H=>(by first|exact Ex.loadRT Try.isAgg3 rfl|exact Ex.loadRA Try.isAgg3 rfl|exact Ex.loadRN Try.isAgg3 rfl|exact Ex.loadRM Try.isAgg3 rfl|exact Ex.loadR Try.isAgg3 rfl|exact Ex.loadIn1 Try.isAgg3 rfl (Holds.to (by assumption))|exact Ex.loadP Try.isAgg3 rfl|exact Ex.loadMh Try.isAgg3 rfl|exact Ex.loadM Try.isAgg3 rfl|exact Ex.loadVc Try.isAgg3 rfl|exact Ex.loadQ Try.isAgg3 rfl)) rfl ?_
        refine OQ.ex rfl (fun w H=>(Ex.eqlI rfl rfl)) rfl ?_
        refine OQ.done ?_
        refine hK14 _ _ _ ?_
        first|refine W.cond_p rfl (fun heq=>?_) (fun hne=>?_)|refine W.cond_b rfl (fun heq=>?_) (fun hne=>?_)
        · refine W.seq (fun K15 hK15=>?_)
          refine W.region ?_
          refine O.ex (Ex.assign rfl) rfl ?_
          refine O.nil ?_
          refine hK15 _ _ _ ?_
          refine W.ret ?_
          try dsimp only [thenQ,blockQ,retQ]
          first|refine ⟨_,⟨_,_,rfl,rfl,rfl⟩,?_⟩|(refine retD_mark ?_; intro w H; refine ⟨_,⟨_,_,rfl,rfl,rfl⟩,?_⟩)|(refine retD_mark2 ?_; intro w H; refine ⟨_,⟨_,_,rfl,rfl,rfl⟩,?_⟩)
          refine ⟨congrArg Value.bool ?_,Holds.to (by assumption)⟩
          first
          | exact (decide_eq_false (fun hh=>hbad hh.1)).symm
          | (have heq' : ys.getD k default = ys.getD i default:=heq
             exact (decide_eq_false (fun hh=>nodup_getD.1 (hys ▸ hh.2) k i (by omega) hil heq')).symm)
          | (refine (decide_eq_true ⟨Decidable.not_not.1 hok,?_⟩).symm
             rw [← hys]
             exact nodup_getD.2 fun a b h1 h2=>hd a b h1 (by omega))
        · refine W.skip ?_
          refine hK13 _ _ _ ?_
          refine W.region ?_
          refine O.ex (Ex.move rfl) rfl ?_
          refine O.ex (by first|exact Ex.addI rfl rfl|exact Ex.add rfl rfl rfl) rfl ?_
          refine O.ex (Ex.assign rfl) rfl ?_
          refine O.nil ?_
          have hne' : ys.getD k default ≠ ys.getD i default:=hne
          exact ⟨k + 1,⟨rfl,rfl,rfl,trivial⟩,⟨rfl,by omega,fun a ha=>by
            rcases Nat.lt_or_ge a k with h|h
            · exact he a h
            · obtain rfl : a = k:=by omega
              exact hne',Holds.to (by assumption)⟩,by omega⟩
      · refine W.exit ?_
        refine hK9 _ _ _ ?_
        refine W.region ?_
        refine O.ex (Ex.move rfl) rfl ?_
        refine O.ex (by first|exact Ex.addI rfl rfl|exact Ex.add rfl rfl rfl) rfl ?_
        refine O.ex (Ex.assign rfl) rfl ?_
        refine O.nil ?_
        have hki : k = i:=by omega
        rw [hki] at he
        exact ⟨i + 1,⟨rfl,rfl,trivial⟩,⟨rfl,by omega,fun a b h1 h2=>by
          rcases Nat.lt_or_ge b i with h|h
          · exact hd a b h1 h
          · obtain rfl : b = i:=by omega
            exact he a h1,Holds.to (by assumption)⟩,by omega⟩
    · refine W.exit ?_
      refine hK5 _ _ _ ?_
      refine W.seq (fun K16 hK16=>?_)
      refine W.region ?_
      refine O.ex (Ex.assign rfl) rfl ?_
      refine O.nil ?_
      refine hK16 _ _ _ ?_
      refine W.ret ?_
      try dsimp only [thenQ,blockQ,retQ]
      first|refine ⟨_,⟨_,_,rfl,rfl,rfl⟩,?_⟩|(refine retD_mark ?_; intro w H; refine ⟨_,⟨_,_,rfl,rfl,rfl⟩,?_⟩)|(refine retD_mark2 ?_; intro w H; refine ⟨_,⟨_,_,rfl,rfl,rfl⟩,?_⟩)
      refine ⟨congrArg Value.bool ?_,Holds.to (by assumption)⟩
      first
      | exact (decide_eq_false (fun hh=>hbad hh.1)).symm
      | (have heq' : ys.getD k default = ys.getD i default:=heq
         exact (decide_eq_false (fun hh=>nodup_getD.1 (hys ▸ hh.2) k i (by omega) hil heq')).symm)
      | (refine (decide_eq_true ⟨Decidable.not_not.1 hok,?_⟩).symm
         rw [← hys]
         exact nodup_getD.2 fun a b h1 h2=>hd a b h1 (by omega))
end Go.Proofs.Ytliofdfhimmjmaa
