import Derived.Test.YtliofdfhimmjmaaBoth2
import Derived.Test.YtliofdfhimmjmaaBothLaw2
namespace Go.Proofs.Ytliofdfhimmjmaa
open Go.Rr Go Gr Hp
set_option linter.unusedVariables false
set_option linter.unusedSimpArgs false
set_option maxHeartbeats 4000000 in
theorem bsearch_ct {w : World} {g s0 t0 : Nat} {n most : Int} {s : St} {L : List HProp} (hg : GOk n most s) (h1 : s0 < n.toNat) (h2 : t0 < n.toNat) (H : Holds w (Gh g n most s::L)) :
    CT Try.prog 54 [.pointer (some ⟨g,0,none⟩),.int .i64 (s0 : Int),.int .i64 (t0 : Int)] w fun u w'=>∃ p0 hh0 fr0 br0 p1 hh1 fr1 br1 i j,∃ m : Int × Int,u = .tuple #[.agg #[.pointer (some ⟨p0,0,none⟩),.pointer (some ⟨p1,0,none⟩)],.agg #[.int .i64 m.1,.int .i64 m.2]] ∧
      (m.2 = far n (cG s) s0 t0 ∧ (m.2 = 4611686018427387906 ∨ ∃ x : Nat,x < n.toNat ∧ m.1 = (x : Int) ∧ over n s s0 t0 i j (x : Nat) = far n (cG s) s0 t0)) ∧ Holds w' (Sd p0 hh0 fr0 br0 n s false s0 i::Sd p1 hh1 fr1 br1 n s true t0 j::Gh g n most s::L):=by
  have n1:=hg.n1
  have n2:=hg.n2
  have hGf:=cD_good hg false
  have hGt:=cD_good hg true
  refine CT.enter (N:=78) Try.func54 rfl rfl rfl rfl ?_
  refine W.seq (fun K0 hK0=>?_)
  refine W.region ?_
  refine O.allocP Try.zeroValue82 (fun b6 w H=>?_)
  refine O.allocP Try.zeroValue84 (fun b7 w H=>?_)
  refine O.nil ?_
  refine hK0 _ _ _ ?_
  refine W.seq (fun K1 hK1=>?_)
  refine W.region ?_
  refine O.ex (Ex.move rfl) rfl ?_
  refine O.callF Try.call66 rfl rfl (CT.mono (gvertices_ct (g:=g) (n:=n) (most:=most) (s:=s) (by omega) (Holds.to (by assumption))) ?_)
  rintro _ w ⟨rfl,H⟩
  refine O.ex (Ex.move rfl) rfl ?_
  refine O.callF Try.call79 rfl rfl (CT.mono (newSide_ct (b:=false) (s:=s) (s0:=s0) hg h1 (by assumption)) ?_)
  rintro _ w ⟨p0,hh0,fr0,br0,rfl,H⟩
  refine O.ex (Ex.move rfl) rfl ?_
  refine O.callF Try.call66 rfl rfl (CT.mono (gvertices_ct (g:=g) (n:=n) (most:=most) (s:=s) (by omega) (Holds.to (by assumption))) ?_)
  rintro _ w ⟨rfl,H⟩
  refine O.ex (Ex.move rfl) rfl ?_
  refine O.callF Try.call79 rfl rfl (CT.mono (newSide_ct (b:=true) (s:=s) (s0:=t0) hg h2 (by assumption)) ?_)
  rintro _ w ⟨p1,hh1,fr1,br1,rfl,H⟩
  refine O.ex (Ex.build rfl (bld82_0_1 _ _ (by first|rfl|assumption) (by first|rfl|assumption))) rfl ?_
  refine O.allocP Try.zeroValue82 (fun b8 w H=>?_)
  first|refine O.storeAggP Try.sizeOf82 rfl rfl rfl rfl (fun w H=>?_)|refine O.storeAggN Try.sizeOf82 rfl rfl rfl (fun w H=>?_) rfl
  replace H : Holds w (pt b8 (.cells #[.pointer (some ⟨p0,0,none⟩),.pointer (some ⟨p1,0,none⟩)] 82 (0,0))::Sd p0 hh0 fr0 br0 n s false s0 0::Sd p1 hh1 fr1 br1 n s true t0 0::Gh g n most s::pt b6 (.cells #[.pointer none,.pointer none] 82 (0,0))::pt b7 (.cells #[.int .i64 0,.int .i64 0] 84 (0,0))::L):=Holds.to H
  refine O.nil ?_
  refine hK1 _ _ _ ?_
  refine W.seq (fun K2 hK2=>?_)
  refine W.region ?_
  refine O.ex (Ex.build rfl (bld84_0_1 _ _ (by first|rfl|assumption) (by first|rfl|assumption))) rfl ?_
  refine O.allocP Try.zeroValue84 (fun b9 w H=>?_)
  first|refine O.storeAggP Try.sizeOf84 rfl rfl rfl rfl (fun w H=>?_)|refine O.storeAggN Try.sizeOf84 rfl rfl rfl (fun w H=>?_) rfl
  replace H : Holds w (pt b8 (.cells #[.pointer (some ⟨p0,0,none⟩),.pointer (some ⟨p1,0,none⟩)] 82 (0,0))::pt b9 (.cells #[.int .i64 (-1),.int .i64 (4611686018427387906)] 84 (0,0))::Sd p0 hh0 fr0 br0 n s false s0 0::Sd p1 hh1 fr1 br1 n s true t0 0::Gh g n most s::pt b6 (.cells #[.pointer none,.pointer none] 82 (0,0))::pt b7 (.cells #[.int .i64 0,.int .i64 0] 84 (0,0))::L):=Holds.to H
  refine O.nil ?_
  refine hK2 _ _ _ ?_
  refine W.seq (fun K3 hK3=>?_)
  refine W.seq (fun K4 hK4=>?_)
  refine W.region ?_
  refine O.ex (Ex.assign rfl) rfl ?_
  refine O.nil ?_
  refine hK4 _ _ _ ?_
  refine W.block ?_
  refine W.loop (σ:=Nat × Int × Int) (fun z=>[(0,.pointer (some ⟨g,0,none⟩)),(6,.pointer (some ⟨b6,0,none⟩)),(7,.pointer (some ⟨b7,0,none⟩)),(8,.pointer (some ⟨b8,0,none⟩)),(9,.pointer (some ⟨b9,0,none⟩)),(10,.int .i64 (z.1 : Int))]) (fun z ds w=>ds = [] ∧ (z.1 = 0 → z.2.2 = 4611686018427387906) ∧ (stN n (cD s false) s0 ((z.1 + 1) / 2)).length = (z.1 + 1) / 2 ∧ (stN n (cD s true) t0 (z.1 / 2)).length = z.1 / 2 ∧ MeetB n s s0 t0 ((z.1 + 1) / 2) (z.1 / 2) z.2 ∧ Holds w (pt b8 (.cells #[.pointer (some ⟨p0,0,none⟩),.pointer (some ⟨p1,0,none⟩)] 82 (0,0))::pt b9 (.cells #[.int .i64 (z.2.1),.int .i64 (z.2.2)] 84 (0,0))::Sd p0 hh0 fr0 br0 n s false s0 ((z.1 + 1) / 2)::Sd p1 hh1 fr1 br1 n s true t0 (z.1 / 2)::Gh g n most s::pt b6 (.cells #[.pointer none,.pointer none] 82 (0,0))::pt b7 (.cells #[.int .i64 0,.int .i64 0] 84 (0,0))::L)) (fun z=>2 * n.toNat + 1 - z.1) (0,-1,4611686018427387906) ⟨rfl,rfl,rfl,rfl,rfl,rfl,trivial⟩ ⟨rfl,fun _=>rfl,rfl,rfl,meet_start hg h1,Holds.to (by assumption)⟩ ?_
  clear H
  rintro ⟨k,m⟩ _ w ⟨rfl,hk0,hl0,hl1,hM,H⟩
  dsimp only at hk0 hl0 hl1 hM H ⊢
  obtain ⟨i,hi⟩ : ∃ i,i = (k + 1) / 2:=⟨_,rfl⟩
  obtain ⟨j,hj⟩ : ∃ j,j = k / 2:=⟨_,rfl⟩
  rw [← hi] at hl0 hM H
  rw [← hj] at hl1 hM H
  have hd0:=nxT_dst (s0:=s0) hGf (stN n (cD s false) s0 i)
  have hd1:=nxT_dst (s0:=t0) hGt (stN n (cD s true) t0 j)
  have hmhi:=hM.hi
  refine W.seq (fun K5 hK5=>?_)
  refine W.seq (fun K6 hK6=>?_)
  refine W.drawTo (pt b8 (.cells #[.pointer (some ⟨p0,0,none⟩),.pointer (some ⟨p1,0,none⟩)] 82 (0,0))::pt b9 (.cells #[.int .i64 (m.1),.int .i64 (m.2)] 84 (0,0))::[]) (.take 0 (.take 1 (.take 3 (.take 4 (.take 8 (.take 9 (.one 2 (.one 5 (.one 6 (.one 7 (.take 10 .nil))))))))))) (mixed) (fun _ _ _ _ h=>h) (by assumption) PP.auto (by decide +kernel) (fun w H=>?_)
  refine OQ.ex rfl (fun w H=>(Ex.idxArr Try.runUnderlying82 Try.sizeOf81 rfl rfl)) rfl ?_
  refine OQ.ex rfl (fun w H=>(by first|exact Ex.loadM Try.isAgg81 rfl|exact Ex.loadVc Try.isAgg81 rfl|exact Ex.loadP Try.isAgg81 rfl|exact Ex.loadInF Try.isAgg81 rfl (Holds.to (by assumption))|exact Ex.loadIn1 Try.isAgg81 rfl (Holds.to (by assumption))|exact Ex.loadMh Try.isAgg81 rfl|exact Ex.loadR Try.isAgg81 rfl|exact Ex.loadQ Try.isAgg81 rfl)) rfl ?_
  refine OQ.ex rfl (fun w H=>(Ex.idxArr Try.runUnderlying82 Try.sizeOf81 rfl rfl)) rfl ?_
  refine OQ.ex rfl (fun w H=>(by first|exact Ex.loadM Try.isAgg81 rfl|exact Ex.loadVc Try.isAgg81 rfl|exact Ex.loadP Try.isAgg81 rfl|exact Ex.loadInF Try.isAgg81 rfl (Holds.to (by assumption))|exact Ex.loadIn1 Try.isAgg81 rfl (Holds.to (by assumption))|exact Ex.loadMh Try.isAgg81 rfl|exact Ex.loadR Try.isAgg81 rfl|exact Ex.loadQ Try.isAgg81 rfl)) rfl ?_
  refine OQ.ex rfl (fun w H=>(by first|exact Ex.field0 fld84_1 rfl|exact Ex.field fld84_1 rfl|exact Ex.fieldS fld84_1 rfl|exact Ex.fieldIn fld84_1 rfl)) rfl ?_
  refine OQ.ex rfl (fun w H=>(by first|exact Ex.loadMh Try.isAgg3 rfl|exact Ex.loadInF Try.isAgg3 rfl (Holds.to (by assumption))|exact Ex.loadP Try.isAgg3 rfl|exact Ex.loadM Try.isAgg3 rfl|exact Ex.loadIn1 Try.isAgg3 rfl (Holds.to (by assumption))|exact Ex.loadVc Try.isAgg3 rfl|exact Ex.loadR Try.isAgg3 rfl|exact Ex.loadQ Try.isAgg3 rfl)) rfl ?_
  refine OQ.step rfl ?_
  refine O.callF Try.call80 rfl rfl (CT.mono (snext_ct (p:=p0) (hh:=hh0) (fr:=fr0) (br:=br0) (b:=false) (s0:=s0) (j:=i) hg h1 (Holds.to (M:=Sd p0 hh0 fr0 br0 n s false s0 i::_) (by assumption))) ?_)
  rintro _ w ⟨rfl,H⟩
  refine O.thenNil ⟨(by first|exact Holds.to (by assumption)|assumption),?_⟩
  refine OQ.step rfl ?_
  refine O.callF Try.call80 rfl rfl (CT.mono (snext_ct (p:=p1) (hh:=hh1) (fr:=fr1) (br:=br1) (b:=true) (s0:=t0) (j:=j) hg h2 (Holds.to (M:=Sd p1 hh1 fr1 br1 n s true t0 j::_) (by assumption))) ?_)
  rintro _ w ⟨rfl,H⟩
  refine O.thenNil ⟨(by first|exact Holds.to (by assumption)|assumption),?_⟩
  refine OQ.step rfl ?_
  refine O.buildK (e:=Value.int .i64) (vs:=[(0,.int .i64 (nxT n (cD s false) s0 (stN n (cD s false) s0 i))),(1,.int .i64 (nxT n (cD s true) t0 (stN n (cD s true) t0 j)))]) [nxT n (cD s false) s0 (stN n (cD s false) s0 i),nxT n (cD s true) t0 (stN n (cD s true) t0 j)] Try.runUnderlying28 Try.sizeOf3 Try.zeroValue3 rfl rfl rfl rfl rfl rfl (fun v32 w hv32 H=>?_)
  refine O.thenNil ⟨(by first|exact Holds.to (by assumption)|assumption),?_⟩
  refine OQ.step rfl ?_
  refine O.callF Try.call72 rfl rfl (CT.mono (add_ct (Holds.to (by assumption)) hd0 hd1) ?_)
  rintro _ w ⟨rfl,H⟩
  refine O.thenNil ⟨(by first|exact Holds.to (by assumption)|assumption),?_⟩
  refine OQ.ex rfl (fun w H=>(Ex.lss rfl rfl)) rfl ?_
  refine OQ.done ?_
  refine hK6 _ _ _ ?_
  first|refine W.cond_p rfl (fun hlt=>?_) (fun hge=>?_)|refine W.cond_b rfl (fun hlt=>?_) (fun hge=>?_)
  · refine W.skip ?_
    refine hK5 _ _ _ ?_
    refine W.seq (fun K7 hK7=>?_)
    refine W.block ?_
    refine W.seq (fun K8 hK8=>?_)
    refine W.region ?_
    rcases Nat.mod_two_eq_zero_or_one k with hk2|hk2
    · have hlt' : two (nxT n (cD s false) s0 (stN n (cD s false) s0 i)) (nxT n (cD s true) t0 (stN n (cD s true) t0 j)) < m.2:=hlt
      obtain ⟨c0,hc0⟩:=nxT_lt hGf hd1 hmhi (.inl hlt')
      obtain ⟨c1,hc1⟩:=nxT_lt hGt hd0 hmhi (.inr hlt')
      have hb0N:=(Wt.nx_spec hc0).1
      have hb1N:=(Wt.nx_spec hc1).1
      have hle0:=len_le hGf hl0
      have hle1:=len_le hGt hl1
      replace H : Holds w (pt b8 (.cells #[.pointer (some ⟨p0,0,none⟩),.pointer (some ⟨p1,0,none⟩)] 82 (0,0))::pt b9 (.cells #[.int .i64 (m.1),.int .i64 (m.2)] 84 (0,0))::Sd p0 hh0 fr0 br0 n s false s0 i::Sd p1 hh1 fr1 br1 n s true t0 j::Gh g n most s::pt b6 (.cells #[.pointer none,.pointer none] 82 (0,0))::pt b7 (.cells #[.int .i64 0,.int .i64 0] 84 (0,0))::L):=Holds.to H
      refine O.ex (Ex.move rfl) rfl ?_
      refine O.ex (v:=.int .i64 ((k % 2 : Nat) : Int)) (Ex.rem rfl rfl (by omega) (show ((k : Nat) : Int).tmod (2 : Int) = ((k % 2 : Nat) : Int) from rfl)) rfl ?_
      rw [hk2]
      refine O.ex (Ex.idxArr Try.runUnderlying82 Try.sizeOf81 rfl rfl) rfl ?_
      refine O.ex (by first|exact Ex.loadM Try.isAgg81 rfl|exact Ex.loadVc Try.isAgg81 rfl|exact Ex.loadP Try.isAgg81 rfl|exact Ex.loadInF Try.isAgg81 rfl (Holds.to (by assumption))|exact Ex.loadIn1 Try.isAgg81 rfl (Holds.to (by assumption))|exact Ex.loadMh Try.isAgg81 rfl|exact Ex.loadR Try.isAgg81 rfl|exact Ex.loadQ Try.isAgg81 rfl) rfl ?_
      refine O.ex (Ex.assign rfl) rfl ?_
      refine O.nil ?_
      refine hK8 _ _ _ ?_
      refine W.seq (fun K9 hK9=>?_)
      refine W.region ?_
      refine O.ex (Ex.move rfl) rfl ?_
      refine O.ex (Ex.move rfl) rfl ?_
      refine O.callF Try.call81 rfl rfl (CT.mono (stepout_ct (p:=p0) (hh:=hh0) (fw:=fr0) (br:=br0) (g:=g) (s0:=s0) (j:=i) hg h1 hc0 (Holds.to (M:=Sd p0 hh0 fr0 br0 n s false s0 i::Gh g n most s::_) (by assumption))) ?_)
      rintro _ w ⟨rfl,H⟩
      have H:=sd_open.1 H
      refine O.ex (Ex.assign rfl) rfl ?_
      refine O.nil ?_
      refine hK9 _ _ _ ?_
      refine W.seq (fun K10 hK10=>?_)
      refine W.region ?_
      refine O.ex (Ex.move rfl) rfl ?_
      refine O.ex (Ex.move rfl) rfl ?_
      refine O.ex (Ex.move rfl) rfl ?_
      refine O.callF Try.call82 rfl rfl (CT.mono (endsout_ct (p:=p0) (hh:=hh0) (fw:=fr0) (br:=br0) (g:=g) (v:=(c0 : Int)) hg (Holds.to (M:=pcS p0 hh0 fr0 br0 false::Gh g n most s::_) (by assumption))) ?_)
      rintro _ w ⟨hev,H⟩
      rename_i ev
      obtain ⟨es,hes⟩ : ∃ es,es = (outI s (c0 : Int)).map fun id=>oth (arcQ s id) false:=⟨_,rfl⟩
      rw [← hes] at H
      have H : Holds w (Sd p0 hh0 fr0 br0 n s false s0 (i + 1)::Sd p1 hh1 fr1 br1 n s true t0 j::arr 3 (Value.int .i64) ev (es)::Gh g n most s::pt b8 (.cells #[.pointer (some ⟨p0,0,none⟩),.pointer (some ⟨p1,0,none⟩)] 82 (0,0))::pt b9 (.cells #[.int .i64 (m.1),.int .i64 (m.2)] 84 (0,0))::pt b6 (.cells #[.pointer none,.pointer none] 82 (0,0))::pt b7 (.cells #[.int .i64 0,.int .i64 0] 84 (0,0))::L):=sd_open.2 (Holds.to (by assumption))
      obtain ⟨xs,hxs⟩ : ∃ xs,xs = endL s false (c0 : Int):=⟨_,rfl⟩
      obtain ⟨c,hcc⟩ : ∃ c,c = c0:=⟨_,rfl⟩
      have hex : es ++ [(c : Int)] = xs:=by rw [hes,hxs,hcc]; rfl
      have hcN : c < n.toNat:=by rw [hcc]; exact hb0N
      have hxr : ∀ x ∈ xs,0 ≤ x ∧ x < n.toNat:=by rw [hxs]; exact endL_rng hg false (by omega)
      have hxl : xs.length ≤ 65:=by rw [hxs]; exact endL_len _ _ _
      have hel : es.length ≤ 65:=by rw [← hex,List.length_append] at hxl; omega
      have hM2:=meet_fwd hg h1 h2 hc0 hM
      rw [← hxs] at hM2
      have hln0:=len_next hGf h1 hl0 hc0
      have hln1:=hl1
      obtain ⟨i',hi'⟩ : ∃ i',i' = i + 1:=⟨_,rfl⟩
      obtain ⟨j',hj'⟩ : ∃ j',j' = j:=⟨_,rfl⟩
      have ei' : (k + 1 + 1) / 2 = i':=by omega
      have ej' : (k + 1) / 2 = j':=by omega
      rw [← hi'] at H hM2 hln0
      rw [← hj'] at H hM2 hln1
      rw [← hcc]
      refine O.ex (Ex.move rfl) rfl ?_
      refine O.build1 (e:=Value.int .i64) Try.runUnderlying28 Try.sizeOf3 Try.zeroValue3 rfl (fun v51 w hv51 H=>?_)
      refine O.appendR Try.runUnderlying28 Try.typeInfo3 (bt:=8) rfl Try.sizeOf3 Try.zeroValue3 rfl rfl (fun v52 w hv52 H=>?_)
      refine O.ex (by first|exact Ex.lenR Try.runUnderlying28 rfl|exact Ex.lenIn Try.runUnderlying28 rfl|exact Ex.lenL Try.runUnderlying28 rfl|exact Ex.len rfl Try.runUnderlying28 rfl) rfl ?_
      refine O.ex (Ex.move rfl) rfl ?_
      rw [hex] at H ⊢
      refine O.nil ?_
      refine hK10 _ _ _ ?_
      refine W.block ?_
      obtain ⟨F,hF⟩ : ∃ F,F = over n s s0 t0 i' j':=⟨_,rfl⟩
      rw [← hF] at hM2
      refine W.loop (σ:=Nat) (fun q=>[(0,.pointer (some ⟨g,0,none⟩)),(6,.pointer (some ⟨b6,0,none⟩)),(7,.pointer (some ⟨b7,0,none⟩)),(8,.pointer (some ⟨b8,0,none⟩)),(9,.pointer (some ⟨b9,0,none⟩)),(10,.int .i64 (k : Int)),(52,v52),(53,.int .i64 (xs.length : Int)),(54,.int .i64 (q : Int))]) (fun q ds w=>ds = [] ∧ q ≤ xs.length ∧ Holds w (arr 3 (Value.int .i64) v52 (xs)::pt b9 (.cells #[.int .i64 ((mtF F m (xs.take q)).1),.int .i64 ((mtF F m (xs.take q)).2)] 84 (0,0))::Sd p0 hh0 fr0 br0 n s false s0 i'::Sd p1 hh1 fr1 br1 n s true t0 j'::pt b8 (.cells #[.pointer (some ⟨p0,0,none⟩),.pointer (some ⟨p1,0,none⟩)] 82 (0,0))::Gh g n most s::pt b6 (.cells #[.pointer none,.pointer none] 82 (0,0))::pt b7 (.cells #[.int .i64 0,.int .i64 0] 84 (0,0))::L)) (fun q=>xs.length - q) 0 ⟨rfl,rfl,rfl,rfl,rfl,rfl,rfl,rfl,rfl,trivial⟩ ⟨rfl,by omega,Holds.to (by assumption)⟩ ?_
      clear H
      rintro q _ w ⟨rfl,hq,H⟩
      obtain ⟨mq,hmq⟩ : ∃ mq,mq = mtF F m (xs.take q):=⟨_,rfl⟩
      rw [← hmq] at H
      refine W.seq (fun K11 hK11=>?_)
      refine W.region ?_
      refine O.ex (Ex.lss rfl rfl) rfl ?_
      refine O.nil ?_
      refine hK11 _ _ _ ?_
      refine W.seq (fun K12 hK12=>?_)
      first|refine W.cond_p rfl (fun hltq=>?_) (fun hgeq=>?_)|refine W.cond_b rfl (fun hltq=>?_) (fun hgeq=>?_)
      · refine W.skip ?_
        refine hK12 _ _ _ ?_
        refine W.seq (fun K13 hK13=>?_)
        refine W.block ?_
        refine W.seq (fun K14 hK14=>?_)
        refine W.region ?_
        have hql : q < xs.length:=by omega
        have q0 : (0 : Int) ≤ (q : Int):=by omega
        have q1 : (q : Int) < (xs.length : Int):=by omega
        have qt : ((q : Nat) : Int).toNat = q:=Int.toNat_natCast q
        have hxm:=hxr _ (getI_mem hql)
        obtain ⟨x,hx⟩ : ∃ x : Nat,xs.getD q default = (x : Int):=⟨(xs.getD q default).toNat,by omega⟩
        have hxN : x < n.toNat:=by omega
        have hsn : mtF F m (xs.take (q + 1)) = mt1 F mq (x : Int):=by rw [take_getI hql,mtF_snoc,← hmq,hx]
        have hF0:=fq_dst (s0:=s0) hGf i' x
        have hF1:=fq_dst (s0:=t0) hGt j' x
        have hov : two (Far n s false s0 i' x) (Far n s true t0 j' x) = F (x : Int):=by rw [hF]; rfl
        refine O.ex (by first|exact Ex.idxR Try.runUnderlying28 Try.sizeOf3 rfl rfl|exact Ex.idxIn Try.runUnderlying28 Try.sizeOf3 rfl rfl|exact Ex.idxS Try.runUnderlying28 Try.sizeOf3 rfl rfl|exact Ex.idx Try.runUnderlying28 Try.sizeOf3 rfl rfl (by omega) (by omega)) rfl ?_
        refine O.ex (Ex.cast (v:=.int .i64 (x : Int)) (Ex.loadR (xs:=xs) Try.isAgg3 rfl) (by rw [qt,hx])) rfl ?_
        refine O.ex (Ex.assign rfl) rfl ?_
        refine O.nil ?_
        refine hK14 _ _ _ ?_
        refine W.seq (fun K15 hK15=>?_)
        replace H:=sd_open.1 (Holds.to (M:=Sd p1 hh1 fr1 br1 n s true t0 j'::Sd p0 hh0 fr0 br0 n s false s0 i'::pt b8 (.cells #[.pointer (some ⟨p0,0,none⟩),.pointer (some ⟨p1,0,none⟩)] 82 (0,0))::pt b9 (.cells #[.int .i64 (mq.1),.int .i64 (mq.2)] 84 (0,0))::arr 3 (Value.int .i64) v52 (xs)::Gh g n most s::pt b6 (.cells #[.pointer none,.pointer none] 82 (0,0))::pt b7 (.cells #[.int .i64 0,.int .i64 0] 84 (0,0))::L) H)
        replace H:=sd_open.1 (Holds.to (M:=Sd p0 hh0 fr0 br0 n s false s0 i'::pt b8 (.cells #[.pointer (some ⟨p0,0,none⟩),.pointer (some ⟨p1,0,none⟩)] 82 (0,0))::_) H)
        refine W.drawTo (pt b8 (.cells #[.pointer (some ⟨p0,0,none⟩),.pointer (some ⟨p1,0,none⟩)] 82 (0,0))::[]) (.take 0 (.take 1 (.take 2 (.take 4 (.take 5 (.take 6 (.one 3 (.one 7 (.one 8 (.one 9 (.take 10 .nil))))))))))) (mixed) (fun _ _ _ _ h=>h) (by assumption) PP.auto (by decide +kernel) (fun w H=>?_)
        refine OQ.ex rfl (fun w H=>(Ex.idxArr Try.runUnderlying82 Try.sizeOf81 rfl rfl)) rfl ?_
        refine OQ.ex rfl (fun w H=>(by first|exact Ex.loadM Try.isAgg81 rfl|exact Ex.loadVc Try.isAgg81 rfl|exact Ex.loadP Try.isAgg81 rfl|exact Ex.loadInF Try.isAgg81 rfl (Holds.to (by assumption))|exact Ex.loadIn1 Try.isAgg81 rfl (Holds.to (by assumption))|exact Ex.loadMh Try.isAgg81 rfl|exact Ex.loadR Try.isAgg81 rfl|exact Ex.loadQ Try.isAgg81 rfl)) rfl ?_
        refine OQ.ex rfl (fun w H=>(Ex.move rfl)) rfl ?_
        refine OQ.ex rfl (fun w H=>(Ex.idxArr Try.runUnderlying82 Try.sizeOf81 rfl rfl)) rfl ?_
        refine OQ.ex rfl (fun w H=>(by first|exact Ex.loadM Try.isAgg81 rfl|exact Ex.loadVc Try.isAgg81 rfl|exact Ex.loadP Try.isAgg81 rfl|exact Ex.loadInF Try.isAgg81 rfl (Holds.to (by assumption))|exact Ex.loadIn1 Try.isAgg81 rfl (Holds.to (by assumption))|exact Ex.loadMh Try.isAgg81 rfl|exact Ex.loadR Try.isAgg81 rfl|exact Ex.loadQ Try.isAgg81 rfl)) rfl ?_
        refine OQ.ex rfl (fun w H=>(Ex.move rfl)) rfl ?_
        refine OQ.step rfl ?_
        refine O.callF Try.call83 rfl rfl (CT.mono (sat_ct (p:=p0) (hh:=hh0) (fr:=fr0) (br:=br0) (b:=false) (N:=n.toNat) (v:=x) (F:=Far n s false s0 i') hxN hF0.2 (Holds.to (M:=pcS p0 hh0 fr0 br0 false::RowF fr0 n.toNat (fun w=>ov (Far n s false s0 i' w))::_) (by assumption))) ?_)
        rintro _ w ⟨rfl,H⟩
        refine O.thenNil ⟨(by first|exact Holds.to (by assumption)|assumption),?_⟩
        refine OQ.step rfl ?_
        refine O.callF Try.call83 rfl rfl (CT.mono (sat_ct (p:=p1) (hh:=hh1) (fr:=fr1) (br:=br1) (b:=true) (N:=n.toNat) (v:=x) (F:=Far n s true t0 j') hxN hF1.2 (Holds.to (M:=pcS p1 hh1 fr1 br1 true::RowF fr1 n.toNat (fun w=>ov (Far n s true t0 j' w))::_) (by assumption))) ?_)
        rintro _ w ⟨rfl,H⟩
        refine O.thenNil ⟨(by first|exact Holds.to (by assumption)|assumption),?_⟩
        refine OQ.step rfl ?_
        refine O.buildK (e:=Value.int .i64) (vs:=[(0,.int .i64 (Far n s false s0 i' x)),(1,.int .i64 (Far n s true t0 j' x))]) [Far n s false s0 i' x,Far n s true t0 j' x] Try.runUnderlying28 Try.sizeOf3 Try.zeroValue3 rfl rfl rfl rfl rfl rfl (fun v66 w hv66 H=>?_)
        refine O.thenNil ⟨(by first|exact Holds.to (by assumption)|assumption),?_⟩
        refine OQ.step rfl ?_
        refine O.callF Try.call72 rfl rfl (CT.mono (add_ct (Holds.to (by assumption)) hF0 hF1) ?_)
        rintro _ w ⟨rfl,H⟩
        rw [hov]
        refine O.thenNil ⟨(by first|exact Holds.to (by assumption)|assumption),?_⟩
        refine OQ.ex rfl (fun w H=>(Ex.assign rfl)) rfl ?_
        refine OQ.done ?_
        refine hK15 _ _ _ ?_
        refine W.seq (fun K16 hK16=>?_)
        refine W.region ?_
        have H2 : Holds w (Sd p0 hh0 fr0 br0 n s false s0 i'::pcS p1 hh1 fr1 br1 true::HqI hh1 (Wt.hpW n.toNat (cD s true) t0 0 (stN n (cD s true) t0 j'))::RowF fr1 n.toNat (fun w=>ov (Far n s true t0 j' w))::SdB br1 n.toNat (ByOk n s true t0 (Far n s true t0 j') (fun w=>Wt.isIn (stN n (cD s true) t0 j') w))::pt b8 (.cells #[.pointer (some ⟨p0,0,none⟩),.pointer (some ⟨p1,0,none⟩)] 82 (0,0))::pt b9 (.cells #[.int .i64 (mq.1),.int .i64 (mq.2)] 84 (0,0))::arr 3 (Value.int .i64) v52 (xs)::Gh g n most s::pt b6 (.cells #[.pointer none,.pointer none] 82 (0,0))::pt b7 (.cells #[.int .i64 0,.int .i64 0] 84 (0,0))::L):=sd_open.2 (Holds.to (by assumption))
        replace H : Holds w (Sd p1 hh1 fr1 br1 n s true t0 j'::pt b9 (.cells #[.int .i64 (mq.1),.int .i64 (mq.2)] 84 (0,0))::Sd p0 hh0 fr0 br0 n s false s0 i'::pt b8 (.cells #[.pointer (some ⟨p0,0,none⟩),.pointer (some ⟨p1,0,none⟩)] 82 (0,0))::arr 3 (Value.int .i64) v52 (xs)::Gh g n most s::pt b6 (.cells #[.pointer none,.pointer none] 82 (0,0))::pt b7 (.cells #[.int .i64 0,.int .i64 0] 84 (0,0))::L):=sd_open.2 (Holds.to H2)
        clear H2
        replace H : Holds w (pt b9 (.cells #[.int .i64 (mq.1),.int .i64 (mq.2)] 84 (0,0))::Sd p0 hh0 fr0 br0 n s false s0 i'::Sd p1 hh1 fr1 br1 n s true t0 j'::pt b8 (.cells #[.pointer (some ⟨p0,0,none⟩),.pointer (some ⟨p1,0,none⟩)] 82 (0,0))::arr 3 (Value.int .i64) v52 (xs)::Gh g n most s::pt b6 (.cells #[.pointer none,.pointer none] 82 (0,0))::pt b7 (.cells #[.int .i64 0,.int .i64 0] 84 (0,0))::L):=Holds.to H
        refine O.ex (Ex.move rfl) rfl ?_
        refine O.ex (by first|exact Ex.field0 fld84_1 rfl|exact Ex.field fld84_1 rfl|exact Ex.fieldS fld84_1 rfl|exact Ex.fieldIn fld84_1 rfl) rfl ?_
        refine O.ex (by first|exact Ex.loadMh Try.isAgg3 rfl|exact Ex.loadInF Try.isAgg3 rfl (Holds.to (by assumption))|exact Ex.loadP Try.isAgg3 rfl|exact Ex.loadM Try.isAgg3 rfl|exact Ex.loadIn1 Try.isAgg3 rfl (Holds.to (by assumption))|exact Ex.loadVc Try.isAgg3 rfl|exact Ex.loadR Try.isAgg3 rfl|exact Ex.loadQ Try.isAgg3 rfl) rfl ?_
        refine O.ex (Ex.lss rfl rfl) rfl ?_
        refine O.nil ?_
        refine hK16 _ _ _ ?_
        first|refine W.cond_p rfl (fun hlt2=>?_) (fun hge2=>?_)|refine W.cond_b rfl (fun hlt2=>?_) (fun hge2=>?_)
        · refine W.region ?_
          refine O.ex (Ex.move rfl) rfl ?_
          refine O.ex (Ex.move rfl) rfl ?_
          refine O.ex (Ex.build rfl (bld84_0_1 _ _ (by first|rfl|assumption) (by first|rfl|assumption))) rfl ?_
          first|refine O.storeAggP Try.sizeOf84 rfl rfl rfl rfl (fun w H=>?_)|refine O.storeAggN Try.sizeOf84 rfl rfl rfl (fun w H=>?_) rfl
          replace H : Holds w (pt b9 (.cells #[.int .i64 ((x : Int)),.int .i64 (F (x : Int))] 84 (0,0))::Sd p0 hh0 fr0 br0 n s false s0 i'::Sd p1 hh1 fr1 br1 n s true t0 j'::pt b8 (.cells #[.pointer (some ⟨p0,0,none⟩),.pointer (some ⟨p1,0,none⟩)] 82 (0,0))::arr 3 (Value.int .i64) v52 (xs)::Gh g n most s::pt b6 (.cells #[.pointer none,.pointer none] 82 (0,0))::pt b7 (.cells #[.int .i64 0,.int .i64 0] 84 (0,0))::L):=Holds.to H
          refine O.nil ?_
          refine hK13 _ _ _ ?_
          refine W.region ?_
          refine O.ex (by first|exact Ex.addI rfl rfl|exact Ex.add rfl rfl rfl) rfl ?_
          refine O.ex (Ex.move rfl) rfl ?_
          refine O.nil ?_
          first
          | (have hl2 : F (x : Int) < mq.2:=hlt2
             have e : mtF F m (xs.take (q + 1)) = ((x : Int),F (x : Int)):=by rw [hsn]; exact if_pos hl2
             exact ⟨q + 1,⟨rfl,rfl,rfl,rfl,rfl,rfl,rfl,rfl,rfl,trivial⟩,⟨rfl,by omega,by rw [e]; exact Holds.to (by assumption)⟩,by omega⟩)
          | (have hl2 : ¬ F (x : Int) < mq.2:=hge2
             have e : mtF F m (xs.take (q + 1)) = mq:=by rw [hsn]; exact if_neg hl2
             exact ⟨q + 1,⟨rfl,rfl,rfl,rfl,rfl,rfl,rfl,rfl,rfl,trivial⟩,⟨rfl,by omega,by rw [e]; exact Holds.to (by assumption)⟩,by omega⟩)
        · refine W.skip ?_
          refine hK13 _ _ _ ?_
          refine W.region ?_
          refine O.ex (by first|exact Ex.addI rfl rfl|exact Ex.add rfl rfl rfl) rfl ?_
          refine O.ex (Ex.move rfl) rfl ?_
          refine O.nil ?_
          first
          | (have hl2 : F (x : Int) < mq.2:=hlt2
             have e : mtF F m (xs.take (q + 1)) = ((x : Int),F (x : Int)):=by rw [hsn]; exact if_pos hl2
             exact ⟨q + 1,⟨rfl,rfl,rfl,rfl,rfl,rfl,rfl,rfl,rfl,trivial⟩,⟨rfl,by omega,by rw [e]; exact Holds.to (by assumption)⟩,by omega⟩)
          | (have hl2 : ¬ F (x : Int) < mq.2:=hge2
             have e : mtF F m (xs.take (q + 1)) = mq:=by rw [hsn]; exact if_neg hl2
             exact ⟨q + 1,⟨rfl,rfl,rfl,rfl,rfl,rfl,rfl,rfl,rfl,trivial⟩,⟨rfl,by omega,by rw [e]; exact Holds.to (by assumption)⟩,by omega⟩)
      · refine W.exit ?_
        refine hK7 _ _ _ ?_
        refine W.region ?_
        refine O.ex (Ex.move rfl) rfl ?_
        refine O.ex (by first|exact Ex.addI rfl rfl|exact Ex.add rfl rfl rfl) rfl ?_
        refine O.ex (Ex.assign rfl) rfl ?_
        refine O.nil ?_
        have hqq : q = xs.length:=by omega
        rw [hqq,List.take_length] at hmq
        rw [← hmq] at hM2
        have hk2n : k ≤ 2 * n.toNat:=by omega
        exact ⟨(k + 1,mq),⟨rfl,rfl,rfl,rfl,rfl,rfl,trivial⟩,⟨rfl,(fun h=>absurd h (by dsimp only; omega)),by dsimp only; rw [ei']; exact hln0,by dsimp only; rw [ej']; exact hln1,by dsimp only; rw [ei',ej']; exact hM2,by dsimp only; rw [ei',ej']; exact Holds.to (by assumption)⟩,by dsimp only; omega⟩
    · have hlt' : two (nxT n (cD s false) s0 (stN n (cD s false) s0 i)) (nxT n (cD s true) t0 (stN n (cD s true) t0 j)) < m.2:=hlt
      obtain ⟨c0,hc0⟩:=nxT_lt hGf hd1 hmhi (.inl hlt')
      obtain ⟨c1,hc1⟩:=nxT_lt hGt hd0 hmhi (.inr hlt')
      have hb0N:=(Wt.nx_spec hc0).1
      have hb1N:=(Wt.nx_spec hc1).1
      have hle0:=len_le hGf hl0
      have hle1:=len_le hGt hl1
      replace H : Holds w (pt b8 (.cells #[.pointer (some ⟨p0,0,none⟩),.pointer (some ⟨p1,0,none⟩)] 82 (0,0))::pt b9 (.cells #[.int .i64 (m.1),.int .i64 (m.2)] 84 (0,0))::Sd p0 hh0 fr0 br0 n s false s0 i::Sd p1 hh1 fr1 br1 n s true t0 j::Gh g n most s::pt b6 (.cells #[.pointer none,.pointer none] 82 (0,0))::pt b7 (.cells #[.int .i64 0,.int .i64 0] 84 (0,0))::L):=Holds.to H
      refine O.ex (Ex.move rfl) rfl ?_
      refine O.ex (v:=.int .i64 ((k % 2 : Nat) : Int)) (Ex.rem rfl rfl (by omega) (show ((k : Nat) : Int).tmod (2 : Int) = ((k % 2 : Nat) : Int) from rfl)) rfl ?_
      rw [hk2]
      refine O.ex (Ex.idxArr Try.runUnderlying82 Try.sizeOf81 rfl rfl) rfl ?_
      refine O.ex (by first|exact Ex.loadM Try.isAgg81 rfl|exact Ex.loadVc Try.isAgg81 rfl|exact Ex.loadP Try.isAgg81 rfl|exact Ex.loadInF Try.isAgg81 rfl (Holds.to (by assumption))|exact Ex.loadIn1 Try.isAgg81 rfl (Holds.to (by assumption))|exact Ex.loadMh Try.isAgg81 rfl|exact Ex.loadR Try.isAgg81 rfl|exact Ex.loadQ Try.isAgg81 rfl) rfl ?_
      refine O.ex (Ex.assign rfl) rfl ?_
      refine O.nil ?_
      refine hK8 _ _ _ ?_
      refine W.seq (fun K17 hK17=>?_)
      refine W.region ?_
      refine O.ex (Ex.move rfl) rfl ?_
      refine O.ex (Ex.move rfl) rfl ?_
      refine O.callF Try.call81 rfl rfl (CT.mono (stepin_ct (p:=p1) (hh:=hh1) (fw:=fr1) (br:=br1) (g:=g) (s0:=t0) (j:=j) hg h2 hc1 (Holds.to (M:=Sd p1 hh1 fr1 br1 n s true t0 j::Gh g n most s::_) (by assumption))) ?_)
      rintro _ w ⟨rfl,H⟩
      have H:=sd_open.1 H
      refine O.ex (Ex.assign rfl) rfl ?_
      refine O.nil ?_
      refine hK17 _ _ _ ?_
      refine W.seq (fun K18 hK18=>?_)
      refine W.region ?_
      refine O.ex (Ex.move rfl) rfl ?_
      refine O.ex (Ex.move rfl) rfl ?_
      refine O.ex (Ex.move rfl) rfl ?_
      refine O.callF Try.call82 rfl rfl (CT.mono (endsin_ct (p:=p1) (hh:=hh1) (fw:=fr1) (br:=br1) (g:=g) (v:=(c1 : Int)) hg (Holds.to (M:=pcS p1 hh1 fr1 br1 true::Gh g n most s::_) (by assumption))) ?_)
      rintro _ w ⟨hev,H⟩
      rename_i ev
      obtain ⟨es,hes⟩ : ∃ es,es = (inI s (c1 : Int)).map fun id=>oth (arcQ s id) true:=⟨_,rfl⟩
      rw [← hes] at H
      have H2 : Holds w (Sd p1 hh1 fr1 br1 n s true t0 (j + 1)::Sd p0 hh0 fr0 br0 n s false s0 i::arr 3 (Value.int .i64) ev (es)::Gh g n most s::pt b8 (.cells #[.pointer (some ⟨p0,0,none⟩),.pointer (some ⟨p1,0,none⟩)] 82 (0,0))::pt b9 (.cells #[.int .i64 (m.1),.int .i64 (m.2)] 84 (0,0))::pt b6 (.cells #[.pointer none,.pointer none] 82 (0,0))::pt b7 (.cells #[.int .i64 0,.int .i64 0] 84 (0,0))::L):=sd_open.2 (Holds.to (by assumption))
      have H : Holds w (Sd p0 hh0 fr0 br0 n s false s0 i::Sd p1 hh1 fr1 br1 n s true t0 (j + 1)::arr 3 (Value.int .i64) ev (es)::Gh g n most s::pt b8 (.cells #[.pointer (some ⟨p0,0,none⟩),.pointer (some ⟨p1,0,none⟩)] 82 (0,0))::pt b9 (.cells #[.int .i64 (m.1),.int .i64 (m.2)] 84 (0,0))::pt b6 (.cells #[.pointer none,.pointer none] 82 (0,0))::pt b7 (.cells #[.int .i64 0,.int .i64 0] 84 (0,0))::L):=H2.swap
      clear H2
      obtain ⟨xs,hxs⟩ : ∃ xs,xs = endL s true (c1 : Int):=⟨_,rfl⟩
      obtain ⟨c,hcc⟩ : ∃ c,c = c1:=⟨_,rfl⟩
      have hex : es ++ [(c : Int)] = xs:=by rw [hes,hxs,hcc]; rfl
      have hcN : c < n.toNat:=by rw [hcc]; exact hb1N
      have hxr : ∀ x ∈ xs,0 ≤ x ∧ x < n.toNat:=by rw [hxs]; exact endL_rng hg true (by omega)
      have hxl : xs.length ≤ 65:=by rw [hxs]; exact endL_len _ _ _
      have hel : es.length ≤ 65:=by rw [← hex,List.length_append] at hxl; omega
      have hM2:=meet_bwd hg h1 h2 hc1 hM
      rw [← hxs] at hM2
      have hln0:=hl0
      have hln1:=len_next hGt h2 hl1 hc1
      obtain ⟨i',hi'⟩ : ∃ i',i' = i:=⟨_,rfl⟩
      obtain ⟨j',hj'⟩ : ∃ j',j' = j + 1:=⟨_,rfl⟩
      have ei' : (k + 1 + 1) / 2 = i':=by omega
      have ej' : (k + 1) / 2 = j':=by omega
      rw [← hi'] at H hM2 hln0
      rw [← hj'] at H hM2 hln1
      rw [← hcc]
      refine O.ex (Ex.move rfl) rfl ?_
      refine O.build1 (e:=Value.int .i64) Try.runUnderlying28 Try.sizeOf3 Try.zeroValue3 rfl (fun v51 w hv51 H=>?_)
      refine O.appendR Try.runUnderlying28 Try.typeInfo3 (bt:=8) rfl Try.sizeOf3 Try.zeroValue3 rfl rfl (fun v52 w hv52 H=>?_)
      refine O.ex (by first|exact Ex.lenR Try.runUnderlying28 rfl|exact Ex.lenIn Try.runUnderlying28 rfl|exact Ex.lenL Try.runUnderlying28 rfl|exact Ex.len rfl Try.runUnderlying28 rfl) rfl ?_
      refine O.ex (Ex.move rfl) rfl ?_
      rw [hex] at H ⊢
      refine O.nil ?_
      refine hK18 _ _ _ ?_
      refine W.block ?_
      obtain ⟨F,hF⟩ : ∃ F,F = over n s s0 t0 i' j':=⟨_,rfl⟩
      rw [← hF] at hM2
      refine W.loop (σ:=Nat) (fun q=>[(0,.pointer (some ⟨g,0,none⟩)),(6,.pointer (some ⟨b6,0,none⟩)),(7,.pointer (some ⟨b7,0,none⟩)),(8,.pointer (some ⟨b8,0,none⟩)),(9,.pointer (some ⟨b9,0,none⟩)),(10,.int .i64 (k : Int)),(52,v52),(53,.int .i64 (xs.length : Int)),(54,.int .i64 (q : Int))]) (fun q ds w=>ds = [] ∧ q ≤ xs.length ∧ Holds w (arr 3 (Value.int .i64) v52 (xs)::pt b9 (.cells #[.int .i64 ((mtF F m (xs.take q)).1),.int .i64 ((mtF F m (xs.take q)).2)] 84 (0,0))::Sd p0 hh0 fr0 br0 n s false s0 i'::Sd p1 hh1 fr1 br1 n s true t0 j'::pt b8 (.cells #[.pointer (some ⟨p0,0,none⟩),.pointer (some ⟨p1,0,none⟩)] 82 (0,0))::Gh g n most s::pt b6 (.cells #[.pointer none,.pointer none] 82 (0,0))::pt b7 (.cells #[.int .i64 0,.int .i64 0] 84 (0,0))::L)) (fun q=>xs.length - q) 0 ⟨rfl,rfl,rfl,rfl,rfl,rfl,rfl,rfl,rfl,trivial⟩ ⟨rfl,by omega,Holds.to (by assumption)⟩ ?_
      clear H
      rintro q _ w ⟨rfl,hq,H⟩
      obtain ⟨mq,hmq⟩ : ∃ mq,mq = mtF F m (xs.take q):=⟨_,rfl⟩
      rw [← hmq] at H
      refine W.seq (fun K19 hK19=>?_)
      refine W.region ?_
      refine O.ex (Ex.lss rfl rfl) rfl ?_
      refine O.nil ?_
      refine hK19 _ _ _ ?_
      refine W.seq (fun K20 hK20=>?_)
      first|refine W.cond_p rfl (fun hltq=>?_) (fun hgeq=>?_)|refine W.cond_b rfl (fun hltq=>?_) (fun hgeq=>?_)
      · refine W.skip ?_
        refine hK20 _ _ _ ?_
        refine W.seq (fun K21 hK21=>?_)
        refine W.block ?_
        refine W.seq (fun K22 hK22=>?_)
        refine W.region ?_
        have hql : q < xs.length:=by omega
        have q0 : (0 : Int) ≤ (q : Int):=by omega
        have q1 : (q : Int) < (xs.length : Int):=by omega
        have qt : ((q : Nat) : Int).toNat = q:=Int.toNat_natCast q
        have hxm:=hxr _ (getI_mem hql)
        obtain ⟨x,hx⟩ : ∃ x : Nat,xs.getD q default = (x : Int):=⟨(xs.getD q default).toNat,by omega⟩
        have hxN : x < n.toNat:=by omega
        have hsn : mtF F m (xs.take (q + 1)) = mt1 F mq (x : Int):=by rw [take_getI hql,mtF_snoc,← hmq,hx]
        have hF0:=fq_dst (s0:=s0) hGf i' x
        have hF1:=fq_dst (s0:=t0) hGt j' x
        have hov : two (Far n s false s0 i' x) (Far n s true t0 j' x) = F (x : Int):=by rw [hF]; rfl
        refine O.ex (by first|exact Ex.idxR Try.runUnderlying28 Try.sizeOf3 rfl rfl|exact Ex.idxIn Try.runUnderlying28 Try.sizeOf3 rfl rfl|exact Ex.idxS Try.runUnderlying28 Try.sizeOf3 rfl rfl|exact Ex.idx Try.runUnderlying28 Try.sizeOf3 rfl rfl (by omega) (by omega)) rfl ?_
        refine O.ex (Ex.cast (v:=.int .i64 (x : Int)) (Ex.loadR (xs:=xs) Try.isAgg3 rfl) (by rw [qt,hx])) rfl ?_
        refine O.ex (Ex.assign rfl) rfl ?_
        refine O.nil ?_
        refine hK22 _ _ _ ?_
        refine W.seq (fun K23 hK23=>?_)
        replace H:=sd_open.1 (Holds.to (M:=Sd p1 hh1 fr1 br1 n s true t0 j'::Sd p0 hh0 fr0 br0 n s false s0 i'::pt b8 (.cells #[.pointer (some ⟨p0,0,none⟩),.pointer (some ⟨p1,0,none⟩)] 82 (0,0))::pt b9 (.cells #[.int .i64 (mq.1),.int .i64 (mq.2)] 84 (0,0))::arr 3 (Value.int .i64) v52 (xs)::Gh g n most s::pt b6 (.cells #[.pointer none,.pointer none] 82 (0,0))::pt b7 (.cells #[.int .i64 0,.int .i64 0] 84 (0,0))::L) H)
        replace H:=sd_open.1 (Holds.to (M:=Sd p0 hh0 fr0 br0 n s false s0 i'::pt b8 (.cells #[.pointer (some ⟨p0,0,none⟩),.pointer (some ⟨p1,0,none⟩)] 82 (0,0))::_) H)
        refine W.drawTo (pt b8 (.cells #[.pointer (some ⟨p0,0,none⟩),.pointer (some ⟨p1,0,none⟩)] 82 (0,0))::[]) (.take 0 (.take 1 (.take 2 (.take 4 (.take 5 (.take 6 (.one 3 (.one 7 (.one 8 (.one 9 (.take 10 .nil))))))))))) (mixed) (fun _ _ _ _ h=>h) (by assumption) PP.auto (by decide +kernel) (fun w H=>?_)
        refine OQ.ex rfl (fun w H=>(Ex.idxArr Try.runUnderlying82 Try.sizeOf81 rfl rfl)) rfl ?_
        refine OQ.ex rfl (fun w H=>(by first|exact Ex.loadM Try.isAgg81 rfl|exact Ex.loadVc Try.isAgg81 rfl|exact Ex.loadP Try.isAgg81 rfl|exact Ex.loadInF Try.isAgg81 rfl (Holds.to (by assumption))|exact Ex.loadIn1 Try.isAgg81 rfl (Holds.to (by assumption))|exact Ex.loadMh Try.isAgg81 rfl|exact Ex.loadR Try.isAgg81 rfl|exact Ex.loadQ Try.isAgg81 rfl)) rfl ?_
        refine OQ.ex rfl (fun w H=>(Ex.move rfl)) rfl ?_
        refine OQ.ex rfl (fun w H=>(Ex.idxArr Try.runUnderlying82 Try.sizeOf81 rfl rfl)) rfl ?_
        refine OQ.ex rfl (fun w H=>(by first|exact Ex.loadM Try.isAgg81 rfl|exact Ex.loadVc Try.isAgg81 rfl|exact Ex.loadP Try.isAgg81 rfl|exact Ex.loadInF Try.isAgg81 rfl (Holds.to (by assumption))|exact Ex.loadIn1 Try.isAgg81 rfl (Holds.to (by assumption))|exact Ex.loadMh Try.isAgg81 rfl|exact Ex.loadR Try.isAgg81 rfl|exact Ex.loadQ Try.isAgg81 rfl)) rfl ?_
        refine OQ.ex rfl (fun w H=>(Ex.move rfl)) rfl ?_
        refine OQ.step rfl ?_
        refine O.callF Try.call83 rfl rfl (CT.mono (sat_ct (p:=p0) (hh:=hh0) (fr:=fr0) (br:=br0) (b:=false) (N:=n.toNat) (v:=x) (F:=Far n s false s0 i') hxN hF0.2 (Holds.to (M:=pcS p0 hh0 fr0 br0 false::RowF fr0 n.toNat (fun w=>ov (Far n s false s0 i' w))::_) (by assumption))) ?_)
        rintro _ w ⟨rfl,H⟩
        refine O.thenNil ⟨(by first|exact Holds.to (by assumption)|assumption),?_⟩
        refine OQ.step rfl ?_
        refine O.callF Try.call83 rfl rfl (CT.mono (sat_ct (p:=p1) (hh:=hh1) (fr:=fr1) (br:=br1) (b:=true) (N:=n.toNat) (v:=x) (F:=Far n s true t0 j') hxN hF1.2 (Holds.to (M:=pcS p1 hh1 fr1 br1 true::RowF fr1 n.toNat (fun w=>ov (Far n s true t0 j' w))::_) (by assumption))) ?_)
        rintro _ w ⟨rfl,H⟩
        refine O.thenNil ⟨(by first|exact Holds.to (by assumption)|assumption),?_⟩
        refine OQ.step rfl ?_
        refine O.buildK (e:=Value.int .i64) (vs:=[(0,.int .i64 (Far n s false s0 i' x)),(1,.int .i64 (Far n s true t0 j' x))]) [Far n s false s0 i' x,Far n s true t0 j' x] Try.runUnderlying28 Try.sizeOf3 Try.zeroValue3 rfl rfl rfl rfl rfl rfl (fun v66 w hv66 H=>?_)
        refine O.thenNil ⟨(by first|exact Holds.to (by assumption)|assumption),?_⟩
        refine OQ.step rfl ?_
        refine O.callF Try.call72 rfl rfl (CT.mono (add_ct (Holds.to (by assumption)) hF0 hF1) ?_)
        rintro _ w ⟨rfl,H⟩
        rw [hov]
        refine O.thenNil ⟨(by first|exact Holds.to (by assumption)|assumption),?_⟩
        refine OQ.ex rfl (fun w H=>(Ex.assign rfl)) rfl ?_
        refine OQ.done ?_
        refine hK23 _ _ _ ?_
        refine W.seq (fun K24 hK24=>?_)
        refine W.region ?_
        have H2 : Holds w (Sd p0 hh0 fr0 br0 n s false s0 i'::pcS p1 hh1 fr1 br1 true::HqI hh1 (Wt.hpW n.toNat (cD s true) t0 0 (stN n (cD s true) t0 j'))::RowF fr1 n.toNat (fun w=>ov (Far n s true t0 j' w))::SdB br1 n.toNat (ByOk n s true t0 (Far n s true t0 j') (fun w=>Wt.isIn (stN n (cD s true) t0 j') w))::pt b8 (.cells #[.pointer (some ⟨p0,0,none⟩),.pointer (some ⟨p1,0,none⟩)] 82 (0,0))::pt b9 (.cells #[.int .i64 (mq.1),.int .i64 (mq.2)] 84 (0,0))::arr 3 (Value.int .i64) v52 (xs)::Gh g n most s::pt b6 (.cells #[.pointer none,.pointer none] 82 (0,0))::pt b7 (.cells #[.int .i64 0,.int .i64 0] 84 (0,0))::L):=sd_open.2 (Holds.to (by assumption))
        replace H : Holds w (Sd p1 hh1 fr1 br1 n s true t0 j'::pt b9 (.cells #[.int .i64 (mq.1),.int .i64 (mq.2)] 84 (0,0))::Sd p0 hh0 fr0 br0 n s false s0 i'::pt b8 (.cells #[.pointer (some ⟨p0,0,none⟩),.pointer (some ⟨p1,0,none⟩)] 82 (0,0))::arr 3 (Value.int .i64) v52 (xs)::Gh g n most s::pt b6 (.cells #[.pointer none,.pointer none] 82 (0,0))::pt b7 (.cells #[.int .i64 0,.int .i64 0] 84 (0,0))::L):=sd_open.2 (Holds.to H2)
        clear H2
        replace H : Holds w (pt b9 (.cells #[.int .i64 (mq.1),.int .i64 (mq.2)] 84 (0,0))::Sd p0 hh0 fr0 br0 n s false s0 i'::Sd p1 hh1 fr1 br1 n s true t0 j'::pt b8 (.cells #[.pointer (some ⟨p0,0,none⟩),.pointer (some ⟨p1,0,none⟩)] 82 (0,0))::arr 3 (Value.int .i64) v52 (xs)::Gh g n most s::pt b6 (.cells #[.pointer none,.pointer none] 82 (0,0))::pt b7 (.cells #[.int .i64 0,.int .i64 0] 84 (0,0))::L):=Holds.to H
        refine O.ex (Ex.move rfl) rfl ?_
        refine O.ex (by first|exact Ex.field0 fld84_1 rfl|exact Ex.field fld84_1 rfl|exact Ex.fieldS fld84_1 rfl|exact Ex.fieldIn fld84_1 rfl) rfl ?_
        refine O.ex (by first|exact Ex.loadMh Try.isAgg3 rfl|exact Ex.loadInF Try.isAgg3 rfl (Holds.to (by assumption))|exact Ex.loadP Try.isAgg3 rfl|exact Ex.loadM Try.isAgg3 rfl|exact Ex.loadIn1 Try.isAgg3 rfl (Holds.to (by assumption))|exact Ex.loadVc Try.isAgg3 rfl|exact Ex.loadR Try.isAgg3 rfl|exact Ex.loadQ Try.isAgg3 rfl) rfl ?_
        refine O.ex (Ex.lss rfl rfl) rfl ?_
        refine O.nil ?_
        refine hK24 _ _ _ ?_
        first|refine W.cond_p rfl (fun hlt2=>?_) (fun hge2=>?_)|refine W.cond_b rfl (fun hlt2=>?_) (fun hge2=>?_)
        · refine W.region ?_
          refine O.ex (Ex.move rfl) rfl ?_
          refine O.ex (Ex.move rfl) rfl ?_
          refine O.ex (Ex.build rfl (bld84_0_1 _ _ (by first|rfl|assumption) (by first|rfl|assumption))) rfl ?_
          first|refine O.storeAggP Try.sizeOf84 rfl rfl rfl rfl (fun w H=>?_)|refine O.storeAggN Try.sizeOf84 rfl rfl rfl (fun w H=>?_) rfl
          replace H : Holds w (pt b9 (.cells #[.int .i64 ((x : Int)),.int .i64 (F (x : Int))] 84 (0,0))::Sd p0 hh0 fr0 br0 n s false s0 i'::Sd p1 hh1 fr1 br1 n s true t0 j'::pt b8 (.cells #[.pointer (some ⟨p0,0,none⟩),.pointer (some ⟨p1,0,none⟩)] 82 (0,0))::arr 3 (Value.int .i64) v52 (xs)::Gh g n most s::pt b6 (.cells #[.pointer none,.pointer none] 82 (0,0))::pt b7 (.cells #[.int .i64 0,.int .i64 0] 84 (0,0))::L):=Holds.to H
          refine O.nil ?_
          refine hK21 _ _ _ ?_
          refine W.region ?_
          refine O.ex (by first|exact Ex.addI rfl rfl|exact Ex.add rfl rfl rfl) rfl ?_
          refine O.ex (Ex.move rfl) rfl ?_
          refine O.nil ?_
          first
          | (have hl2 : F (x : Int) < mq.2:=hlt2
             have e : mtF F m (xs.take (q + 1)) = ((x : Int),F (x : Int)):=by rw [hsn]; exact if_pos hl2
             exact ⟨q + 1,⟨rfl,rfl,rfl,rfl,rfl,rfl,rfl,rfl,rfl,trivial⟩,⟨rfl,by omega,by rw [e]; exact Holds.to (by assumption)⟩,by omega⟩)
          | (have hl2 : ¬ F (x : Int) < mq.2:=hge2
             have e : mtF F m (xs.take (q + 1)) = mq:=by rw [hsn]; exact if_neg hl2
             exact ⟨q + 1,⟨rfl,rfl,rfl,rfl,rfl,rfl,rfl,rfl,rfl,trivial⟩,⟨rfl,by omega,by rw [e]; exact Holds.to (by assumption)⟩,by omega⟩)
        · refine W.skip ?_
          refine hK21 _ _ _ ?_
          refine W.region ?_
          refine O.ex (by first|exact Ex.addI rfl rfl|exact Ex.add rfl rfl rfl) rfl ?_
          refine O.ex (Ex.move rfl) rfl ?_
          refine O.nil ?_
          first
          | (have hl2 : F (x : Int) < mq.2:=hlt2
             have e : mtF F m (xs.take (q + 1)) = ((x : Int),F (x : Int)):=by rw [hsn]; exact if_pos hl2
             exact ⟨q + 1,⟨rfl,rfl,rfl,rfl,rfl,rfl,rfl,rfl,rfl,trivial⟩,⟨rfl,by omega,by rw [e]; exact Holds.to (by assumption)⟩,by omega⟩)
          | (have hl2 : ¬ F (x : Int) < mq.2:=hge2
             have e : mtF F m (xs.take (q + 1)) = mq:=by rw [hsn]; exact if_neg hl2
             exact ⟨q + 1,⟨rfl,rfl,rfl,rfl,rfl,rfl,rfl,rfl,rfl,trivial⟩,⟨rfl,by omega,by rw [e]; exact Holds.to (by assumption)⟩,by omega⟩)
      · refine W.exit ?_
        refine hK7 _ _ _ ?_
        refine W.region ?_
        refine O.ex (Ex.move rfl) rfl ?_
        refine O.ex (by first|exact Ex.addI rfl rfl|exact Ex.add rfl rfl rfl) rfl ?_
        refine O.ex (Ex.assign rfl) rfl ?_
        refine O.nil ?_
        have hqq : q = xs.length:=by omega
        rw [hqq,List.take_length] at hmq
        rw [← hmq] at hM2
        have hk2n : k ≤ 2 * n.toNat:=by omega
        exact ⟨(k + 1,mq),⟨rfl,rfl,rfl,rfl,rfl,rfl,trivial⟩,⟨rfl,(fun h=>absurd h (by dsimp only; omega)),by dsimp only; rw [ei']; exact hln0,by dsimp only; rw [ej']; exact hln1,by dsimp only; rw [ei',ej']; exact hM2,by dsimp only; rw [ei',ej']; exact Holds.to (by assumption)⟩,by dsimp only; omega⟩
  · refine W.exit ?_
    refine hK3 _ _ _ ?_
    refine W.seq (fun K25 hK25=>?_)
    refine W.drawTo (pt b8 (.cells #[.pointer (some ⟨p0,0,none⟩),.pointer (some ⟨p1,0,none⟩)] 82 (0,0))::pt b9 (.cells #[.int .i64 (m.1),.int .i64 (m.2)] 84 (0,0))::[]) (.take 0 (.take 1 (.one 2 (.one 3 .nil)))) (mixed) (fun _ _ _ _ h=>h) (by assumption) PP.auto (by decide +kernel) (fun w H=>?_)
    refine OQ.ex rfl (fun w H=>(Ex.cast (v:=.agg #[.pointer (some ⟨p0,0,none⟩),.pointer (some ⟨p1,0,none⟩)]) (Ex.loadAggP (bl:=b8) (off:=0) Try.isAgg82 Try.sizeOf82 rfl) rfl)) rfl ?_
    refine OQ.ex rfl (fun w H=>(Ex.cast (v:=.agg #[.int .i64 m.1,.int .i64 m.2]) (Ex.loadAggP (bl:=b9) (off:=0) Try.isAgg84 Try.sizeOf84 rfl) rfl)) rfl ?_
    refine OQ.step rfl ?_
    first|refine O.storeAggP Try.sizeOf82 rfl rfl rfl rfl (fun w H=>?_)|refine O.storeAggN Try.sizeOf82 rfl rfl rfl (fun w H=>?_) rfl
    refine O.thenNil ⟨(by first|exact Holds.to (by assumption)|assumption),?_⟩
    refine OQ.last rfl (by decide +kernel) ?_
    first|refine O.storeAggP Try.sizeOf84 rfl rfl rfl rfl (fun w H=>?_)|refine O.storeAggN Try.sizeOf84 rfl rfl rfl (fun w H=>?_) rfl
    refine O.nil ?_
    refine hK25 _ _ _ ?_
    refine W.ret ?_
    try dsimp only [thenQ,blockQ,retQ]
    first|refine ⟨_,⟨_,_,_,rfl,rfl,(by first|exact loadVar_mtx Try.isAgg82 Try.sizeOf82|exact loadVar_agg Try.isAgg82 Try.sizeOf82),_,_,_,rfl,rfl,(by first|exact loadVar_mtx Try.isAgg84 Try.sizeOf84|exact loadVar_agg Try.isAgg84 Try.sizeOf84),rfl⟩,?_⟩|(refine retD_mark ?_; intro w H; refine ⟨_,⟨_,_,_,rfl,rfl,(by first|exact loadVar_mtx Try.isAgg82 Try.sizeOf82|exact loadVar_agg Try.isAgg82 Try.sizeOf82),_,_,_,rfl,rfl,(by first|exact loadVar_mtx Try.isAgg84 Try.sizeOf84|exact loadVar_agg Try.isAgg84 Try.sizeOf84),rfl⟩,?_⟩)|(refine retD_mark2 ?_; intro w H; refine ⟨_,⟨_,_,_,rfl,rfl,(by first|exact loadVar_mtx Try.isAgg82 Try.sizeOf82|exact loadVar_agg Try.isAgg82 Try.sizeOf82),_,_,_,rfl,rfl,(by first|exact loadVar_mtx Try.isAgg84 Try.sizeOf84|exact loadVar_agg Try.isAgg84 Try.sizeOf84),rfl⟩,?_⟩)
    have hi0 : 0 < i:=by
      rcases Nat.eq_zero_or_pos k with e|e
      · exfalso
        have e0:=hk0 e
        have hi00 : i = 0:=by omega
        have hj00 : j = 0:=by omega
        have t1 : nxT n (cD s false) s0 (stN n (cD s false) s0 i) = 0:=by
          rw [hi00]
          have hn0 : Wt.nx n.toNat (cD s false) s0 0 (stN n (cD s false) s0 0) = some s0:=Wt.nx_start h1 (inS0 _)
          rw [nxT_some hn0,far_self hGf]
        have t2 : nxT n (cD s true) t0 (stN n (cD s true) t0 j) = 0:=by
          rw [hj00]
          have hn0 : Wt.nx n.toNat (cD s true) t0 0 (stN n (cD s true) t0 0) = some t0:=Wt.nx_start h2 (inS0 _)
          rw [nxT_some hn0,far_self hGt]
        have hge' : ¬ two (nxT n (cD s false) s0 (stN n (cD s false) s0 i)) (nxT n (cD s true) t0 (stN n (cD s true) t0 j)) < m.2:=hge
        rw [t1,t2,two_zero ⟨by omega,by omega⟩] at hge'
        omega
      · omega
    exact ⟨p0,hh0,fr0,br0,p1,hh1,fr1,br1,i,j,m,rfl,meet_end hg h1 h2 hM hi0 hl0 hge,Holds.to (by assumption)⟩
end Go.Proofs.Ytliofdfhimmjmaa
