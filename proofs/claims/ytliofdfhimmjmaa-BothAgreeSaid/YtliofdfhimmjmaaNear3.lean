import Derived.Test.YtliofdfhimmjmaaNear
import Derived.Test.YtliofdfhimmjmaaNearLaw2
namespace Go.Proofs.Ytliofdfhimmjmaa
open Go.Rr Go Gr Hp
set_option linter.unusedVariables false
set_option linter.unusedSimpArgs false
theorem nfrom_ct {w : World} {g : Nat} {n most v : Int} {s : St} {L : List HProp} (hg : GOk n most s) (H : Holds w (Gh g n most s::L)) :
    CT Try.prog 20 [.pointer (some ⟨g,0,none⟩),.int .i64 v] w fun u w'=>(¬ (0 ≤ v ∧ v < n) ∧ u = .tuple #[.slice none 0 0,.int .i64 1] ∧ Holds w' (Gh g n most s::L)) ∨ ((0 ≤ v ∧ v < n) ∧ ∃ fv,u = .tuple #[fv,.int .i64 0] ∧ fv.oneCell' = true ∧ Holds w' (arr 3 (Value.int .i64) fv (farL n (cD s false) v.toNat)::Gh g n most s::L)):=by
  have n1:=hg.n1
  refine CT.enter (N:=15) Try.func20 rfl rfl rfl rfl ?_
  refine W.seq (fun K0 hK0=>?_)
  refine W.region ?_
  refine O.ex (Ex.assign rfl) rfl ?_
  refine O.ex (Ex.assign rfl) rfl ?_
  refine O.nil ?_
  refine hK0 _ _ _ ?_
  refine W.seq (fun K1 hK1=>?_)
  refine W.seq (fun K2 hK2=>?_)
  refine W.region ?_
  refine O.ex (Ex.move rfl) rfl ?_
  refine O.ex (Ex.move rfl) rfl ?_
  refine O.callF Try.call39 rfl rfl (CT.mono (nvertex_ct (g:=g) (n:=n) (most:=most) (s:=s) (by omega) (Holds.to (by assumption))) ?_)
  rintro _ w ⟨rfl,H⟩
  refine O.ex (by first|exact Ex.notD rfl|exact Ex.not rfl) rfl ?_
  refine O.nil ?_
  refine hK2 _ _ _ ?_
  first|refine W.cond_p rfl (fun hno=>?_) (fun hyes=>?_)|refine W.cond_b rfl (fun hno=>?_) (fun hyes=>?_)
  · refine W.seq (fun K3 hK3=>?_)
    refine W.region ?_
    refine O.ex (Ex.assign rfl) rfl ?_
    refine O.ex (Ex.assign rfl) rfl ?_
    refine O.nil ?_
    refine hK3 _ _ _ ?_
    refine W.ret ?_
    try dsimp only [thenQ,blockQ,retQ]
    first|refine ⟨_,⟨_,_,rfl,rfl,_,_,rfl,rfl,rfl⟩,?_⟩|(refine retD_mark ?_; intro w H; refine ⟨_,⟨_,_,rfl,rfl,_,_,rfl,rfl,rfl⟩,?_⟩)|(refine retD_mark2 ?_; intro w H; refine ⟨_,⟨_,_,rfl,rfl,_,_,rfl,rfl,rfl⟩,?_⟩)
    first
    | (have hno' : ¬ (0 ≤ v ∧ v < n):=by simpa using hno
       exact .inl ⟨hno',rfl,Holds.to (by assumption)⟩)
    | exact .inr ⟨hv,fv,rfl,hfv,Holds.to (by assumption)⟩
  · refine W.skip ?_
    refine hK1 _ _ _ ?_
    refine W.seq (fun K4 hK4=>?_)
    refine W.region ?_
    have hv : 0 ≤ v ∧ v < n:=by simpa using hyes
    obtain ⟨s0,rfl⟩ : ∃ s0 : Nat,v = (s0 : Int):=⟨v.toNat,by omega⟩
    refine O.ex (Ex.move rfl) rfl ?_
    refine O.ex (Ex.move rfl) rfl ?_
    refine O.ex (Ex.move rfl) rfl ?_
    refine O.ex (Ex.makeFunc rfl rfl) rfl ?_
    refine O.callF Try.call43 rfl rfl (CT.mono (spreadout_ct (g:=g) (s0:=s0) hg (by omega) (Holds.to (by assumption))) ?_)
    rintro _ w ⟨hfv,H⟩
    rename_i fv
    refine O.ex (Ex.assign rfl) rfl ?_
    refine O.ex (Ex.assign rfl) rfl ?_
    refine O.nil ?_
    refine hK4 _ _ _ ?_
    refine W.ret ?_
    try dsimp only [thenQ,blockQ,retQ]
    first|refine ⟨_,⟨_,_,rfl,rfl,_,_,rfl,rfl,rfl⟩,?_⟩|(refine retD_mark ?_; intro w H; refine ⟨_,⟨_,_,rfl,rfl,_,_,rfl,rfl,rfl⟩,?_⟩)|(refine retD_mark2 ?_; intro w H; refine ⟨_,⟨_,_,rfl,rfl,_,_,rfl,rfl,rfl⟩,?_⟩)
    first
    | (have hno' : ¬ (0 ≤ v ∧ v < n):=by simpa using hno
       exact .inl ⟨hno',rfl,Holds.to (by assumption)⟩)
    | exact .inr ⟨hv,fv,rfl,hfv,Holds.to (by assumption)⟩
theorem ntold_ct {w : World} {a : Int} {L : List HProp} (ha : Dst a) (H : Holds w L) : CT Try.prog 49 [.int .i64 a] w fun u w'=>u = .bool (decide (a ≤ 4611686018427387904)) ∧ Holds w' L:=by
  unfold Dst at ha
  refine CT.enter (N:=6) Try.func49 rfl rfl rfl rfl ?_
  refine W.seq (fun K0 hK0=>?_)
  refine W.region ?_
  refine O.ex (Ex.assign rfl) rfl ?_
  refine O.nil ?_
  refine hK0 _ _ _ ?_
  refine W.seq (fun K1 hK1=>?_)
  refine W.region ?_
  refine O.ex (Ex.move rfl) rfl ?_
  refine O.callF Try.call78 rfl rfl (CT.mono (norm_ct (Holds.to (by assumption)) ha) ?_)
  rintro _ w ⟨rfl,H⟩
  refine O.ex (Ex.leq rfl rfl) rfl ?_
  refine O.ex (Ex.assign rfl) rfl ?_
  refine O.nil ?_
  refine hK1 _ _ _ ?_
  refine W.ret ?_
  try dsimp only [thenQ,blockQ,retQ]
  first|refine ⟨_,⟨_,_,rfl,rfl,rfl⟩,?_⟩|(refine retD_mark ?_; intro w H; refine ⟨_,⟨_,_,rfl,rfl,rfl⟩,?_⟩)|(refine retD_mark2 ?_; intro w H; refine ⟨_,⟨_,_,rfl,rfl,rfl⟩,?_⟩)
  exact ⟨rfl,by first|assumption|exact Holds.to (by assumption)⟩
set_option maxHeartbeats 2000000 in
theorem by_ct {w : World} {g : Nat} {n most v : Int} {s : St} {fv : Value} {f : Int → Int} {F : List Int} {L : List HProp} (hg : GOk n most s) (h0 : 0 ≤ v) (h1 : v < n) (hF : F.length = n.toNat) (hf : ∀ x,0 ≤ x → x < n → F.getD x.toNat default = f x) (hd : ∀ x,Dst (f x)) (hfv : fv.oneCell' = true) (H : Holds w (Gh g n most s::arr 3 (Value.int .i64) fv F::L)) :
    CT Try.prog 50 [.pointer (some ⟨g,0,none⟩),fv,.int .i64 v] w fun u w'=>u = .int .i64 (byA s f v) ∧ Holds w' (Gh g n most s::arr 3 (Value.int .i64) fv F::L):=by
  refine CT.enter (N:=40) Try.func50 rfl rfl rfl rfl ?_
  refine W.seq (fun K0 hK0=>?_)
  refine W.region ?_
  refine O.boxP rfl (fun b3 w H=>?_)
  refine O.boxP rfl (fun b4 w H=>?_)
  rw [cells_one hfv] at H
  refine O.boxP rfl (fun b5 w H=>?_)
  refine O.allocP Try.zeroValue3 (fun b6 w H=>?_)
  refine O.nil ?_
  refine hK0 _ _ _ ?_
  refine W.seq (fun K1 hK1=>?_)
  refine W.seq (fun K2 hK2=>?_)
  refine W.region ?_
  refine O.ex (by first|exact Ex.loadP Try.isAgg24 rfl|exact Ex.loadQ Try.isAgg24 rfl|exact Ex.loadMh Try.isAgg24 rfl|exact Ex.loadR Try.isAgg24 rfl|exact Ex.loadInF Try.isAgg24 rfl (Holds.to (by assumption))|exact Ex.loadIn1 Try.isAgg24 rfl (Holds.to (by assumption))|exact Ex.loadM Try.isAgg24 rfl|exact Ex.loadVc Try.isAgg24 rfl) rfl ?_
  refine O.ex (by first|exact Ex.loadP Try.isAgg3 rfl|exact Ex.loadQ Try.isAgg3 rfl|exact Ex.loadMh Try.isAgg3 rfl|exact Ex.loadR Try.isAgg3 rfl|exact Ex.loadInF Try.isAgg3 rfl (Holds.to (by assumption))|exact Ex.loadIn1 Try.isAgg3 rfl (Holds.to (by assumption))|exact Ex.loadM Try.isAgg3 rfl|exact Ex.loadVc Try.isAgg3 rfl) rfl ?_
  refine O.callF Try.call48 rfl rfl (CT.mono (gin_ct (g:=g) (v:=v) (Holds.to (by assumption))) ?_)
  rintro _ w ⟨c2,c3,rfl,H⟩
  refine O.nil ?_
  refine hK2 _ _ _ ?_
  refine W.block ?_
  obtain ⟨ab,cap,es,HG⟩:=gh_open.1 (Holds.to (M:=Gh g n most s::capO c2 c3 g v::pt b3 (.cells #[.pointer (some ⟨g,0,none⟩)] 24 (0,0))::pt b4 (.cells #[fv] 28 (0,0))::pt b5 (.cells #[.int .i64 v] 3 (0,0))::pt b6 (.cells #[.int .i64 0] 3 (0,0))::arr 3 (Value.int .i64) fv F::L) H)
  clear H
  have H : Holds w (GO g ab cap es n most s::capO c2 c3 g v::(pt b3 (.cells #[.pointer (some ⟨g,0,none⟩)] 24 (0,0))::pt b4 (.cells #[fv] 28 (0,0))::pt b5 (.cells #[.int .i64 v] 3 (0,0))::pt b6 (.cells #[.int .i64 0] 3 (0,0))::arr 3 (Value.int .i64) fv F::L)):=HG
  clear HG
  refine W.rangeFunc rfl Try.call77 H ?_
  rintro LR kk D w hLR H
  refine CT.mono (gin1_ct (κ:=Int) (σ:=fun a=>byA s f v = a) (SL:=fun a=>LR .done (some .ret)::dblk D::GO g ab cap es n most s::pt b6 (.cells #[.int .i64 a] 3 (0,0))::arr 3 (Value.int .i64) fv F::L) (J:=fun i=>LR .ready none::dblk D::pt b3 (.cells #[.pointer (some ⟨g,0,none⟩)] 24 (0,0))::pt b4 (.cells #[fv] 28 (0,0))::pt b5 (.cells #[.int .i64 v] 3 (0,0))::pt b6 (.cells #[.int .i64 0] 3 (0,0))::arr 3 (Value.int .i64) fv F::L) (φ:=fun i=>∀ k,k < i → byP s f v ((inI s v).getD k default) = false) hg (fun k hk=>absurd hk (Nat.not_lt_zero _)) (Holds.to (by assumption)) ?_) ?_
  · intro Fr i w hi hφ H
    have hmem:=getI_mem hi
    obtain ⟨id,hid⟩ : ∃ id,id = (inI s v).getD i default:=⟨_,rfl⟩
    rw [← hid] at hmem ⊢
    obtain ⟨m1,m2,m3⟩:=(mem_arcsI (b:=true) (v:=v)).1 (show id ∈ arcsI s true v from hmem)
    obtain ⟨a,ha⟩ : ∃ a,a = (s id.toNat).a:=⟨_,rfl⟩
    have hqa : arcQ s id = a:=by rw [ha]; exact if_pos m1
    obtain ⟨⟨hot,hoh⟩,hwt⟩:=hg.arc _ m2
    rw [← ha] at hot hoh hwt
    have hwd : Dst a.w:=⟨by omega,by omega⟩
    have ht0:=hot.1
    have ht1 : a.t < (F.length : Int):=by rw [hF]; omega
    have hv1 : v < (F.length : Int):=by rw [hF]; omega
    have et:=hf a.t hot.1 hot.2
    have ev':=hf v h0 h1
    have hp : byP s f v id = (!a.cl && decide (two (f a.t) a.w = f v)):=by unfold byP; rw [← ha]
    refine VT.round hLR (Holds.to (by assumption)) rfl rfl ?_
    refine W.region ?_
    refine O.ex (Ex.assign rfl) rfl ?_
    refine O.nil ?_
    refine ⟨_,Holds.to (by assumption),fun w H=>?_⟩
    refine W.block ?_
    refine W.seq (fun K3 hK3=>?_)
    refine W.region ?_
    refine O.ex (by first|exact Ex.loadP Try.isAgg24 rfl|exact Ex.loadQ Try.isAgg24 rfl|exact Ex.loadMh Try.isAgg24 rfl|exact Ex.loadR Try.isAgg24 rfl|exact Ex.loadInF Try.isAgg24 rfl (Holds.to (by assumption))|exact Ex.loadIn1 Try.isAgg24 rfl (Holds.to (by assumption))|exact Ex.loadM Try.isAgg24 rfl|exact Ex.loadVc Try.isAgg24 rfl) rfl ?_
    refine O.ex (Ex.move rfl) rfl ?_
    refine O.callF Try.call40 rfl rfl (CT.mono (goarc_ct (g:=g) (ab:=ab) (cap:=cap) (es:=es) (Holds.to (by assumption))) ?_)
    rintro _ w ⟨rfl,H⟩
    rw [hqa]
    refine O.ex (Ex.move rfl) rfl ?_
    refine O.ex (Ex.extract rfl rfl) rfl ?_
    refine O.ex (Ex.extract rfl rfl) rfl ?_
    refine O.allocP Try.zeroValue42 (fun b8 w H=>?_)
    first|refine O.storeAggP Try.sizeOf42 rfl rfl rfl rfl (fun w H=>?_)|refine O.storeAggN Try.sizeOf42 rfl rfl rfl (fun w H=>?_) rfl
    have H:=Holds.to (M:=pt b8 (.cells #[.int .i64 a.t,.int .i64 a.h,.int .i64 a.w,.bool a.cl] 42 (0,0))::pt b4 (.cells #[fv] 28 (0,0))::pt b5 (.cells #[.int .i64 v] 3 (0,0))::arr 3 (Value.int .i64) fv F::_) H
    refine O.ex (Ex.assign rfl) rfl ?_
    refine O.nil ?_
    refine hK3 _ _ _ ?_
    refine W.seq (fun K4 hK4=>?_)
    refine W.drawTo (pt b8 (.cells #[.int .i64 a.t,.int .i64 a.h,.int .i64 a.w,.bool a.cl] 42 (0,0))::pt b4 (.cells #[fv] 28 (0,0))::pt b5 (.cells #[.int .i64 v] 3 (0,0))::arr 3 (Value.int .i64) fv F::[]) (.take 0 (.take 1 (.take 2 (.take 3 (.take 4 (.take 5 (.take 6 (.take 7 (.take 8 (.take 9 (.take 10 (.take 13 (.take 14 (.take 15 (.take 16 (.one 11 (.one 12 (.take 17 (.take 18 .nil))))))))))))))))))) (mixed) (fun _ _ _ _ h=>h) (by assumption) PP.auto (by decide +kernel) (fun w H=>?_)
    refine OQ.ex rfl (fun w H=>(by first|exact Ex.field0 fld42_3 rfl|exact Ex.field fld42_3 rfl|exact Ex.fieldS fld42_3 rfl|exact Ex.fieldIn fld42_3 rfl)) rfl ?_
    refine OQ.ex rfl (fun w H=>(by first|exact Ex.loadMh Try.isAgg4 rfl|exact Ex.loadInF Try.isAgg4 rfl (Holds.to (by assumption))|exact Ex.loadP Try.isAgg4 rfl|exact Ex.loadM Try.isAgg4 rfl|exact Ex.loadIn1 Try.isAgg4 rfl (Holds.to (by assumption))|exact Ex.loadVc Try.isAgg4 rfl|exact Ex.loadR Try.isAgg4 rfl|exact Ex.loadQ Try.isAgg4 rfl)) rfl ?_
    refine OQ.ex rfl (fun w H=>(by first|exact Ex.notD rfl|exact Ex.not rfl)) rfl ?_
    refine OQ.ex rfl (fun w H=>(Ex.move rfl)) rfl ?_
    first|refine OQ.split_p (t:=23) rfl (fun hop=>?_) (fun hcl=>?_)|refine OQ.split (t:=23) rfl (fun hop=>?_) (fun hcl=>?_)
    · refine OQ.exT rfl rfl rfl (fun w H=>(Ex.cast (v:=fv) (Ex.loadP Try.isAgg28 rfl) rfl)) rfl ?_
      refine OQ.exT rfl rfl rfl (fun w H=>(by first|exact Ex.field0 fld42_0 rfl|exact Ex.field fld42_0 rfl|exact Ex.fieldS fld42_0 rfl|exact Ex.fieldIn fld42_0 rfl)) rfl ?_
      refine OQ.exT rfl rfl rfl (fun w H=>(by first|exact Ex.loadMh Try.isAgg3 rfl|exact Ex.loadInF Try.isAgg3 rfl (Holds.to (by assumption))|exact Ex.loadP Try.isAgg3 rfl|exact Ex.loadM Try.isAgg3 rfl|exact Ex.loadIn1 Try.isAgg3 rfl (Holds.to (by assumption))|exact Ex.loadVc Try.isAgg3 rfl|exact Ex.loadR Try.isAgg3 rfl|exact Ex.loadQ Try.isAgg3 rfl)) rfl ?_
      refine OQ.exT rfl rfl rfl (fun w H=>(by first|exact Ex.idxR Try.runUnderlying28 Try.sizeOf3 rfl rfl|exact Ex.idxIn Try.runUnderlying28 Try.sizeOf3 rfl rfl|exact Ex.idxS Try.runUnderlying28 Try.sizeOf3 rfl rfl|exact Ex.idx Try.runUnderlying28 Try.sizeOf3 rfl rfl (by omega) (by omega))) rfl ?_
      refine OQ.exT rfl rfl rfl (fun w H=>(Ex.cast (v:=.int .i64 (f a.t)) (Ex.loadR Try.isAgg3 rfl) (by rw [et]))) rfl ?_
      refine OQ.exT rfl rfl rfl (fun w H=>(by first|exact Ex.field0 fld42_2 rfl|exact Ex.field fld42_2 rfl|exact Ex.fieldS fld42_2 rfl|exact Ex.fieldIn fld42_2 rfl)) rfl ?_
      refine OQ.exT rfl rfl rfl (fun w H=>(by first|exact Ex.loadMh Try.isAgg3 rfl|exact Ex.loadInF Try.isAgg3 rfl (Holds.to (by assumption))|exact Ex.loadP Try.isAgg3 rfl|exact Ex.loadM Try.isAgg3 rfl|exact Ex.loadIn1 Try.isAgg3 rfl (Holds.to (by assumption))|exact Ex.loadVc Try.isAgg3 rfl|exact Ex.loadR Try.isAgg3 rfl|exact Ex.loadQ Try.isAgg3 rfl)) rfl ?_
      refine OQ.exT rfl rfl rfl (fun w H=>(Ex.cast (v:=fv) (Ex.loadP Try.isAgg28 rfl) rfl)) rfl ?_
      refine OQ.exT rfl rfl rfl (fun w H=>(by first|exact Ex.loadP Try.isAgg3 rfl|exact Ex.loadQ Try.isAgg3 rfl|exact Ex.loadMh Try.isAgg3 rfl|exact Ex.loadR Try.isAgg3 rfl|exact Ex.loadInF Try.isAgg3 rfl (Holds.to (by assumption))|exact Ex.loadIn1 Try.isAgg3 rfl (Holds.to (by assumption))|exact Ex.loadM Try.isAgg3 rfl|exact Ex.loadVc Try.isAgg3 rfl)) rfl ?_
      refine OQ.exT rfl rfl rfl (fun w H=>(by first|exact Ex.idxR Try.runUnderlying28 Try.sizeOf3 rfl rfl|exact Ex.idxIn Try.runUnderlying28 Try.sizeOf3 rfl rfl|exact Ex.idxS Try.runUnderlying28 Try.sizeOf3 rfl rfl|exact Ex.idx Try.runUnderlying28 Try.sizeOf3 rfl rfl (by omega) (by omega))) rfl ?_
      refine OQ.exT rfl rfl rfl (fun w H=>(Ex.cast (v:=.int .i64 (f v)) (Ex.loadR Try.isAgg3 rfl) (by rw [ev']))) rfl ?_
      refine OQ.step rfl ?_
      refine O.guard_t rfl rfl ?_
      refine O.buildK (e:=Value.int .i64) (vs:=[(0,.int .i64 (f a.t)),(1,.int .i64 a.w)]) [f a.t,a.w] Try.runUnderlying28 Try.sizeOf3 Try.zeroValue3 rfl rfl rfl rfl rfl rfl (fun v31 w hv31 H=>?_)
      refine O.thenNil ⟨(by first|exact Holds.to (by assumption)|assumption),?_⟩
      refine OQ.step rfl ?_
      refine O.guard_t rfl rfl ?_
      refine O.callF Try.call72 rfl rfl (CT.mono (add_ct (Holds.to (by assumption)) (hd _) hwd) ?_)
      rintro _ w ⟨rfl,H⟩
      refine O.thenNil ⟨(by first|exact Holds.to (by assumption)|assumption),?_⟩
      refine OQ.exT rfl rfl rfl (fun w H=>(Ex.eqlI rfl rfl)) rfl ?_
      refine OQ.ex rfl (fun w H=>(Ex.pick_t rfl rfl)) rfl ?_
      refine OQ.done ?_
      refine hK4 _ _ _ ?_
      first|refine W.cond_p rfl (fun hyes=>?_) (fun hno=>?_)|refine W.cond_b rfl (fun hyes=>?_) (fun hno=>?_)
      · refine W.seq (fun K5 hK5=>?_)
        refine W.region ?_
        refine O.ex (Ex.move rfl) rfl ?_
        first|refine O.storeP Try.sizeOf3 rfl rfl (fun w H=>?_)|refine O.storeR Try.sizeOf3 rfl rfl (fun w H=>?_)|refine O.storeM Try.sizeOf3 rfl rfl (fun w H=>?_)|refine O.storeVc Try.sizeOf3 rfl rfl (fun w H=>?_)|refine O.storeQ Try.sizeOf3 rfl rfl (fun w H=>?_)
        refine O.nil ?_
        refine hK5 _ _ _ ?_
        refine W.ret ?_
        have hop' : a.cl = false:=by simpa using hop
        have hy' : two (f a.t) a.w = f v:=hyes
        have hpt : byP s f v id = true:=by rw [hp,hop',hy']; simp
        have hby : byA s f v = id:=by rw [hid]; exact byA_of rfl hi hφ (hid ▸ hpt)
        exact ⟨_,Holds.to (by assumption),fun w H=>.inr ⟨rfl,id,hby,Holds.to (by assumption)⟩⟩
      · refine W.skip ?_
        have hpf : byP s f v id = false:=by
          rw [hp]
          first
          | (have hcl' : a.cl = true:=by simpa using hcl
             rw [hcl']; rfl)
          | (have hno' : ¬ two (f a.t) a.w = f v:=hno
             rw [decide_eq_false hno',Bool.and_false])
        have hφ2 : ∀ k,k < i + 1 → byP s f v ((inI s v).getD k default) = false:=fun k hk=>by
          by_cases e : k = i
          · rw [e,← hid]; exact hpf
          · exact hφ k (by omega)
        exact ⟨_,Holds.to (by assumption),fun w H=>.inl ⟨rfl,hφ2,Holds.to (by assumption)⟩⟩
    · refine OQ.exF rfl rfl rfl rfl rfl ?_
      refine OQ.exF rfl rfl rfl rfl rfl ?_
      refine OQ.exF rfl rfl rfl rfl rfl ?_
      refine OQ.exF rfl rfl rfl rfl rfl ?_
      refine OQ.exF rfl rfl rfl rfl rfl ?_
      refine OQ.exF rfl rfl rfl rfl rfl ?_
      refine OQ.exF rfl rfl rfl rfl rfl ?_
      refine OQ.exF rfl rfl rfl rfl rfl ?_
      refine OQ.exF rfl rfl rfl rfl rfl ?_
      refine OQ.exF rfl rfl rfl rfl rfl ?_
      refine OQ.exF rfl rfl rfl rfl rfl ?_
      refine OQ.step rfl ?_
      refine O.guard_f rfl rfl rfl rfl ?_
      refine O.thenNil ⟨(by first|exact Holds.to (by assumption)|assumption),?_⟩
      refine OQ.step rfl ?_
      refine O.guard_f rfl rfl rfl rfl ?_
      refine O.thenNil ⟨(by first|exact Holds.to (by assumption)|assumption),?_⟩
      refine OQ.exF rfl rfl rfl rfl rfl ?_
      refine OQ.ex rfl (fun w H=>(Ex.pick_f rfl rfl)) rfl ?_
      refine OQ.done ?_
      refine hK4 _ _ _ ?_
      refine W.cond_f rfl ?_
      refine W.skip ?_
      have hpf : byP s f v id = false:=by
        rw [hp]
        first
        | (have hcl' : a.cl = true:=by simpa using hcl
           rw [hcl']; rfl)
        | (have hno' : ¬ two (f a.t) a.w = f v:=hno
           rw [decide_eq_false hno',Bool.and_false])
      have hφ2 : ∀ k,k < i + 1 → byP s f v ((inI s v).getD k default) = false:=fun k hk=>by
        by_cases e : k = i
        · rw [e,← hid]; exact hpf
        · exact hφ k (by omega)
      exact ⟨_,Holds.to (by assumption),fun w H=>.inl ⟨rfl,hφ2,Holds.to (by assumption)⟩⟩
  rintro _ w (⟨hφ,H⟩|⟨id,hby,H⟩)
  all_goals refine rangeEnd (Holds.to (by assumption)) (by nofun) (fun w H=>?_)
  · skip
    refine hK1 _ _ _ ?_
    refine W.seq (fun K6 hK6=>?_)
    refine W.region ?_
    first|refine O.storeP Try.sizeOf3 rfl rfl (fun w H=>?_)|refine O.storeR Try.sizeOf3 rfl rfl (fun w H=>?_)|refine O.storeM Try.sizeOf3 rfl rfl (fun w H=>?_)|refine O.storeVc Try.sizeOf3 rfl rfl (fun w H=>?_)|refine O.storeQ Try.sizeOf3 rfl rfl (fun w H=>?_)
    refine O.nil ?_
    refine hK6 _ _ _ ?_
    refine W.ret ?_
    try dsimp only [thenQ,blockQ,retQ]
    first|refine ⟨_,⟨_,_,_,rfl,rfl,loadVar_one Try.isAgg3,rfl⟩,?_⟩|(refine retD_mark ?_; intro w H; refine ⟨_,⟨_,_,_,rfl,rfl,loadVar_one Try.isAgg3,rfl⟩,?_⟩)|(refine retD_mark2 ?_; intro w H; refine ⟨_,⟨_,_,_,rfl,rfl,loadVar_one Try.isAgg3,rfl⟩,?_⟩)
    first
    | (have e:=byA_none rfl hφ
       rw [e]
       exact ⟨rfl,gh_open.2 ⟨ab,cap,es,Holds.to (by assumption)⟩⟩)
    | (rw [hby]
       exact ⟨rfl,gh_open.2 ⟨ab,cap,es,Holds.to (by assumption)⟩⟩)
  · skip
    refine W.ret ?_
    try dsimp only [thenQ,blockQ,retQ]
    first|refine ⟨_,⟨_,_,_,rfl,rfl,loadVar_one Try.isAgg3,rfl⟩,?_⟩|(refine retD_mark ?_; intro w H; refine ⟨_,⟨_,_,_,rfl,rfl,loadVar_one Try.isAgg3,rfl⟩,?_⟩)|(refine retD_mark2 ?_; intro w H; refine ⟨_,⟨_,_,_,rfl,rfl,loadVar_one Try.isAgg3,rfl⟩,?_⟩)
    first
    | (have e:=byA_none rfl hφ
       rw [e]
       exact ⟨rfl,gh_open.2 ⟨ab,cap,es,Holds.to (by assumption)⟩⟩)
    | (rw [hby]
       exact ⟨rfl,gh_open.2 ⟨ab,cap,es,Holds.to (by assumption)⟩⟩)
theorem trl_step {N i : Nat} {f g : Nat → Int} (hi : i < N) {z : Int} (hz : g i = z) (hg : ∀ x,x ≠ i → g x = f x) (y : Int) : (((List.range N).map f).set i y).set i z = (List.range N).map g:=by
  rw [List.set_set]; exact nrg_set hi hz fun x _ hx=>hg x hx
set_option maxHeartbeats 2000000 in
theorem ntree_ct {w : World} {g : Nat} {n most v : Int} {s : St} {L : List HProp} (hg : GOk n most s) (H : Holds w (Gh g n most s::L)) :
    CT Try.prog 26 [.pointer (some ⟨g,0,none⟩),.int .i64 v] w fun u w'=>(¬ (0 ≤ v ∧ v < n) ∧ u = .tuple #[.slice none 0 0,.int .i64 1] ∧ Holds w' (Gh g n most s::L)) ∨ ((0 ≤ v ∧ v < n) ∧ ∃ tv,u = .tuple #[tv,.int .i64 0] ∧ tv.oneCell' = true ∧ Holds w' (arr 3 (Value.int .i64) tv (trL n s (fG n s v.toNat) v)::Gh g n most s::L)):=by
  have n1:=hg.n1
  have n2:=hg.n2
  refine CT.enter (N:=49) Try.func26 rfl rfl rfl rfl ?_
  refine W.seq (fun K0 hK0=>?_)
  refine W.region ?_
  refine O.ex (Ex.assign rfl) rfl ?_
  refine O.ex (Ex.assign rfl) rfl ?_
  refine O.nil ?_
  refine hK0 _ _ _ ?_
  refine W.seq (fun K1 hK1=>?_)
  refine W.region ?_
  refine O.ex (Ex.move rfl) rfl ?_
  refine O.ex (Ex.move rfl) rfl ?_
  refine O.callF Try.call20 rfl rfl (CT.mono (nfrom_ct hg (Holds.to (by assumption))) ?_)
  rintro _ w hh
  rcases hh with ⟨hno,rfl,H⟩|⟨hv,fv,rfl,hfv,H⟩
  · refine O.ex (Ex.move rfl) rfl ?_
    refine O.ex (Ex.extract rfl rfl) rfl ?_
    refine O.ex (Ex.extract rfl rfl) rfl ?_
    refine O.ex (Ex.assign rfl) rfl ?_
    refine O.ex (Ex.assign rfl) rfl ?_
    refine O.nil ?_
    refine hK1 _ _ _ ?_
    refine W.seq (fun K2 hK2=>?_)
    refine W.seq (fun K3 hK3=>?_)
    refine W.region ?_
    refine O.ex (Ex.move rfl) rfl ?_
    refine O.ex (Ex.neqI rfl rfl) rfl ?_
    refine O.nil ?_
    refine hK3 _ _ _ ?_
    refine W.known_t rfl (by first|rfl|decide) ?_
    refine W.seq (fun K4 hK4=>?_)
    refine W.region ?_
    refine O.ex (Ex.move rfl) rfl ?_
    refine O.ex (Ex.assign rfl) rfl ?_
    refine O.ex (Ex.assign rfl) rfl ?_
    refine O.nil ?_
    refine hK4 _ _ _ ?_
    refine W.ret ?_
    try dsimp only [thenQ,blockQ,retQ]
    first|refine ⟨_,⟨_,_,rfl,rfl,_,_,rfl,rfl,rfl⟩,?_⟩|(refine retD_mark ?_; intro w H; refine ⟨_,⟨_,_,rfl,rfl,_,_,rfl,rfl,rfl⟩,?_⟩)|(refine retD_mark2 ?_; intro w H; refine ⟨_,⟨_,_,rfl,rfl,_,_,rfl,rfl,rfl⟩,?_⟩)
    first
    | exact .inl ⟨hno,rfl,Holds.to (by assumption)⟩
    | (have hin : i = n.toNat:=by omega
       have e : ((List.range n.toNat).map fun x=>if x < i then trV s (fG n s s0) s0 ((x : Nat) : Int) else 0) = trL n s (fG n s (s0 : Int).toNat) (s0 : Int):=by
         rw [Int.toNat_natCast]
         exact nrg_congr (fun x hx=>(if_pos (by omega)).symm)
       rw [e] at H
       have ho:=arr_one (Holds.to (M:=arr 3 (Value.int .i64) s21 _::[]) H)
       exact .inr ⟨hv,s21,rfl,ho,Holds.to (by assumption)⟩)
  · refine O.ex (Ex.move rfl) rfl ?_
    refine O.ex (Ex.extract rfl rfl) rfl ?_
    refine O.ex (Ex.extract rfl rfl) rfl ?_
    refine O.ex (Ex.assign rfl) rfl ?_
    refine O.ex (Ex.assign rfl) rfl ?_
    refine O.nil ?_
    refine hK1 _ _ _ ?_
    refine W.seq (fun K5 hK5=>?_)
    refine W.seq (fun K6 hK6=>?_)
    refine W.region ?_
    refine O.ex (Ex.move rfl) rfl ?_
    refine O.ex (Ex.neqI rfl rfl) rfl ?_
    refine O.nil ?_
    refine hK6 _ _ _ ?_
    refine W.known_f rfl (by first|rfl|decide) ?_
    refine W.skip ?_
    refine hK5 _ _ _ ?_
    refine W.seq (fun K7 hK7=>?_)
    refine W.region ?_
    obtain ⟨s0,rfl⟩ : ∃ s0 : Nat,v = (s0 : Int):=⟨v.toNat,by omega⟩
    have hFl:=farL_len n (cG s) s0
    have hfl2 : (farL n (cD s false) (s0 : Int).toNat).length = n.toNat:=hFl
    refine O.ex (Ex.move rfl) rfl ?_
    refine O.ex (by first|exact Ex.lenR Try.runUnderlying28 rfl|exact Ex.lenIn Try.runUnderlying28 rfl|exact Ex.lenL Try.runUnderlying28 rfl|exact Ex.len rfl Try.runUnderlying28 rfl) rfl ?_
    refine O.makeR (0 : Int) (e:=Value.int .i64) (bt:=8) Try.runUnderlying28 Try.sizeOf3 Try.zeroValue3 Try.typeInfo3 rfl rfl rfl (fun s21 w hs21 H=>?_)
    refine O.ex (Ex.assign rfl) rfl ?_
    refine O.nil ?_
    refine hK7 _ _ _ ?_
    refine W.seq (fun K8 hK8=>?_)
    refine W.seq (fun K9 hK9=>?_)
    refine W.region ?_
    have H : Holds w (arr 3 (Value.int .i64) s21 (List.replicate n.toNat 0)::arr 3 (Value.int .i64) fv (farL n (cG s) s0)::Gh g n most s::L):=by
      have e : (((farL n (cD s false) (s0 : Int).toNat).length : Nat) : Int).toNat = n.toNat:=by rw [hfl2]; omega
      rw [← e]; exact Holds.to H
    refine O.ex (Ex.move rfl) rfl ?_
    refine O.ex (by first|exact Ex.lenR Try.runUnderlying28 rfl|exact Ex.lenIn Try.runUnderlying28 rfl|exact Ex.lenL Try.runUnderlying28 rfl|exact Ex.len rfl Try.runUnderlying28 rfl) rfl ?_
    refine O.ex (Ex.move rfl) rfl ?_
    refine O.nil ?_
    refine hK9 _ _ _ ?_
    refine W.block ?_
    have H : Holds w (arr 3 (Value.int .i64) s21 ((List.range n.toNat).map fun x=>if x < 0 then trV s (fG n s s0) s0 ((x : Nat) : Int) else 0)::arr 3 (Value.int .i64) fv (farL n (cG s) s0)::Gh g n most s::L):=by
      have e : ((List.range n.toNat).map fun x=>if x < 0 then trV s (fG n s s0) s0 ((x : Nat) : Int) else 0) = List.replicate n.toNat 0:=by
        rw [← nrg_congr (f:=fun _=>(0 : Int)) (fun i _=>if_neg (Nat.not_lt_zero i)),List.map_const',List.length_range]
      rw [e]; exact Holds.to H
    refine W.loop (σ:=Nat) (fun i=>[(0,.pointer (some ⟨g,0,none⟩)),(1,.int .i64 (s0 : Int)),(6,fv),(8,s21),(23,.int .i64 ((farL n (cG s) s0).length : Int)),(24,.int .i64 (i : Int))]) (fun i ds w=>ds = [] ∧ i ≤ n.toNat ∧ Holds w (arr 3 (Value.int .i64) s21 ((List.range n.toNat).map fun x=>if x < i then trV s (fG n s s0) s0 ((x : Nat) : Int) else 0)::arr 3 (Value.int .i64) fv (farL n (cG s) s0)::Gh g n most s::L)) (fun i=>n.toNat - i) 0 ⟨rfl,rfl,rfl,rfl,rfl,rfl,trivial⟩ ⟨rfl,by omega,H⟩ ?_
    clear H
    rintro i _ w ⟨rfl,hi,H⟩
    refine W.seq (fun K10 hK10=>?_)
    refine W.region ?_
    refine O.ex (Ex.lss rfl rfl) rfl ?_
    refine O.nil ?_
    refine hK10 _ _ _ ?_
    refine W.seq (fun K11 hK11=>?_)
    first|refine W.cond_p rfl (fun hlt=>?_) (fun hge=>?_)|refine W.cond_b rfl (fun hlt=>?_) (fun hge=>?_)
    · refine W.skip ?_
      refine hK11 _ _ _ ?_
      refine W.seq (fun K12 hK12=>?_)
      refine W.block ?_
      refine W.seq (fun K13 hK13=>?_)
      refine W.region ?_
      have hiN : i < n.toNat:=by omega
      have hi0 : (0 : Int) ≤ (i : Int):=by omega
      have hit : ((i : Nat) : Int).toNat = i:=Int.toNat_natCast i
      have hil : (i : Int) < ((farL n (cG s) s0).length : Int):=by rw [hFl]; omega
      have efi : (farL n (cG s) s0).getD ((i : Nat) : Int).toNat default = fG n s s0 ((i : Nat) : Int):=farL_get (by omega) (by omega)
      obtain ⟨fo,hfo⟩ : ∃ fo : Nat → Int,fo = fun x=>if x < i then trV s (fG n s s0) s0 ((x : Nat) : Int) else 0:=⟨_,rfl⟩
      rw [← hfo] at H
      have hol : (((List.range n.toNat).map fo).length : Int) = n:=by simp; omega
      have hol2 : (i : Int) < (((List.range n.toNat).map fo).length : Int):=by rw [hol]; omega
      have hol3 : (i : Int) < ((((List.range n.toNat).map fo).set ((i : Nat) : Int).toNat (-1)).length : Int):=by rw [List.length_set]; exact hol2
      have hfd:=fw_dst (cG_good hg) n.toNat (s0 : Int) ((i : Nat) : Int)
      refine O.ex (Ex.move rfl) rfl ?_
      refine O.ex (Ex.assign rfl) rfl ?_
      refine O.nil ?_
      refine hK13 _ _ _ ?_
      refine W.seq (fun K14 hK14=>?_)
      refine W.region ?_
      refine O.ex (Ex.move rfl) rfl ?_
      refine O.ex (Ex.move rfl) rfl ?_
      refine O.ex (by first|exact Ex.idxR Try.runUnderlying28 Try.sizeOf3 rfl rfl|exact Ex.idxIn Try.runUnderlying28 Try.sizeOf3 rfl rfl|exact Ex.idxS Try.runUnderlying28 Try.sizeOf3 rfl rfl|exact Ex.idx Try.runUnderlying28 Try.sizeOf3 rfl rfl (by omega) (by omega)) rfl ?_
      first|refine O.storeP Try.sizeOf3 rfl rfl (fun w H=>?_)|refine O.storeR Try.sizeOf3 rfl rfl (fun w H=>?_)|refine O.storeM Try.sizeOf3 rfl rfl (fun w H=>?_)|refine O.storeVc Try.sizeOf3 rfl rfl (fun w H=>?_)|refine O.storeQ Try.sizeOf3 rfl rfl (fun w H=>?_)
      refine O.nil ?_
      refine hK14 _ _ _ ?_
      refine W.seq (fun K15 hK15=>?_)
      refine W.region ?_
      refine O.ex (Ex.move rfl) rfl ?_
      refine O.ex (Ex.move rfl) rfl ?_
      refine O.ex (Ex.neqI rfl rfl) rfl ?_
      refine O.ex (Ex.move rfl) rfl ?_
      first|refine O.split_p (t:=33) rfl (fun hne=>?_) (fun heq=>?_)|refine O.split (t:=33) rfl (fun hne=>?_) (fun heq=>?_)
      · refine O.guard_t rfl rfl ?_
        refine O.ex (Ex.move rfl) rfl ?_
        refine O.guard_t rfl rfl ?_
        refine O.ex (Ex.move rfl) rfl ?_
        refine O.guard_t rfl rfl ?_
        refine O.ex (by first|exact Ex.idxR Try.runUnderlying28 Try.sizeOf3 rfl rfl|exact Ex.idxIn Try.runUnderlying28 Try.sizeOf3 rfl rfl|exact Ex.idxS Try.runUnderlying28 Try.sizeOf3 rfl rfl|exact Ex.idx Try.runUnderlying28 Try.sizeOf3 rfl rfl (by omega) (by omega)) rfl ?_
        refine O.guard_t rfl rfl ?_
        refine O.ex (Ex.cast (v:=.int .i64 (fG n s s0 ((i : Nat) : Int))) (Ex.loadR (xs:=farL n (cG s) s0) Try.isAgg3 rfl) (by rw [efi])) rfl ?_
        refine O.guard_t rfl rfl ?_
        refine O.callF Try.call49 rfl rfl (CT.mono (ntold_ct hfd (Holds.to (by assumption))) ?_)
        rintro _ w ⟨rfl,H⟩
        refine O.ex (Ex.pick_t rfl rfl) rfl ?_
        refine O.nil ?_
        refine hK15 _ _ _ ?_
        first|refine W.cond_p rfl (fun hyes=>?_) (fun hnot=>?_)|refine W.cond_b rfl (fun hyes=>?_) (fun hnot=>?_)
        · refine W.region ?_
          refine O.ex (Ex.move rfl) rfl ?_
          refine O.ex (Ex.move rfl) rfl ?_
          refine O.ex (Ex.move rfl) rfl ?_
          refine O.ex (Ex.move rfl) rfl ?_
          refine O.ex (Ex.move rfl) rfl ?_
          refine O.callF Try.call50 rfl rfl (CT.mono (by_ct (f:=fG n s s0) (F:=farL n (cG s) s0) (v:=(i : Int)) hg (by omega) (by omega) hFl (fun x k0 k1=>farL_get k0 k1) (fun x=>fw_dst (cG_good hg) n.toNat (s0 : Int) x) hfv (Holds.to (by assumption))) ?_)
          rintro _ w ⟨rfl,H⟩
          refine O.ex (by first|exact Ex.idxR Try.runUnderlying28 Try.sizeOf3 rfl rfl|exact Ex.idxIn Try.runUnderlying28 Try.sizeOf3 rfl rfl|exact Ex.idxS Try.runUnderlying28 Try.sizeOf3 rfl rfl|exact Ex.idx Try.runUnderlying28 Try.sizeOf3 rfl rfl (by omega) (by omega)) rfl ?_
          first|refine O.storeP Try.sizeOf3 rfl rfl (fun w H=>?_)|refine O.storeR Try.sizeOf3 rfl rfl (fun w H=>?_)|refine O.storeM Try.sizeOf3 rfl rfl (fun w H=>?_)|refine O.storeVc Try.sizeOf3 rfl rfl (fun w H=>?_)|refine O.storeQ Try.sizeOf3 rfl rfl (fun w H=>?_)
          refine O.nil ?_
          refine hK12 _ _ _ ?_
          refine W.region ?_
          refine O.ex (by first|exact Ex.addI rfl rfl|exact Ex.add rfl rfl rfl) rfl ?_
          refine O.ex (Ex.move rfl) rfl ?_
          refine O.nil ?_
          have hgx : ∀ x,x ≠ i → (if x < i + 1 then trV s (fG n s s0) s0 ((x : Nat) : Int) else 0) = fo x:=fun x hx=>by
            rw [hfo]
            by_cases e : x < i
            · rw [if_pos (by omega)]; exact (if_pos e).symm
            · rw [if_neg (by omega)]; exact (if_neg e).symm
          have hgi : (if i < i + 1 then trV s (fG n s s0) s0 ((i : Nat) : Int) else 0) = trV s (fG n s s0) s0 ((i : Nat) : Int):=if_pos (by omega)
          rw [hit] at H
          first
          | (have hy : fG n s s0 ((i : Nat) : Int) ≤ 4611686018427387904:=by simpa using hyes
             have et : trV s (fG n s s0) s0 ((i : Nat) : Int) = byA s (fG n s s0) ((i : Nat) : Int):=if_pos ⟨hne,hy⟩
             rw [trl_step hiN (hgi.trans et) hgx] at H
             exact ⟨i + 1,⟨rfl,rfl,rfl,rfl,rfl,rfl,trivial⟩,⟨rfl,by omega,Holds.to (by assumption)⟩,by omega⟩)
          | (have et : trV s (fG n s s0) s0 ((i : Nat) : Int) = -1:=if_neg (fun hh=>by
               first
               | exact heq hh.1
               | exact absurd hh.2 (by simpa using hnot))
             rw [nrg_set hiN (hgi.trans et) (fun x _ hx=>hgx x hx)] at H
             exact ⟨i + 1,⟨rfl,rfl,rfl,rfl,rfl,rfl,trivial⟩,⟨rfl,by omega,Holds.to (by assumption)⟩,by omega⟩)
        · refine W.skip ?_
          refine hK12 _ _ _ ?_
          refine W.region ?_
          refine O.ex (by first|exact Ex.addI rfl rfl|exact Ex.add rfl rfl rfl) rfl ?_
          refine O.ex (Ex.move rfl) rfl ?_
          refine O.nil ?_
          have hgx : ∀ x,x ≠ i → (if x < i + 1 then trV s (fG n s s0) s0 ((x : Nat) : Int) else 0) = fo x:=fun x hx=>by
            rw [hfo]
            by_cases e : x < i
            · rw [if_pos (by omega)]; exact (if_pos e).symm
            · rw [if_neg (by omega)]; exact (if_neg e).symm
          have hgi : (if i < i + 1 then trV s (fG n s s0) s0 ((i : Nat) : Int) else 0) = trV s (fG n s s0) s0 ((i : Nat) : Int):=if_pos (by omega)
          rw [hit] at H
          first
          | (have hy : fG n s s0 ((i : Nat) : Int) ≤ 4611686018427387904:=by simpa using hyes
             have et : trV s (fG n s s0) s0 ((i : Nat) : Int) = byA s (fG n s s0) ((i : Nat) : Int):=if_pos ⟨hne,hy⟩
             rw [trl_step hiN (hgi.trans et) hgx] at H
             exact ⟨i + 1,⟨rfl,rfl,rfl,rfl,rfl,rfl,trivial⟩,⟨rfl,by omega,Holds.to (by assumption)⟩,by omega⟩)
          | (have et : trV s (fG n s s0) s0 ((i : Nat) : Int) = -1:=if_neg (fun hh=>by
               first
               | exact heq hh.1
               | exact absurd hh.2 (by simpa using hnot))
             rw [nrg_set hiN (hgi.trans et) (fun x _ hx=>hgx x hx)] at H
             exact ⟨i + 1,⟨rfl,rfl,rfl,rfl,rfl,rfl,trivial⟩,⟨rfl,by omega,Holds.to (by assumption)⟩,by omega⟩)
      · refine O.guard_f rfl rfl rfl rfl ?_
        refine O.guard_f rfl rfl rfl rfl ?_
        refine O.guard_f rfl rfl rfl rfl ?_
        refine O.guard_f rfl rfl rfl rfl ?_
        refine O.guard_f rfl rfl rfl rfl ?_
        refine O.ex (Ex.pick_f rfl rfl) rfl ?_
        refine O.nil ?_
        refine hK15 _ _ _ ?_
        refine W.cond_f rfl ?_
        refine W.skip ?_
        refine hK12 _ _ _ ?_
        refine W.region ?_
        refine O.ex (by first|exact Ex.addI rfl rfl|exact Ex.add rfl rfl rfl) rfl ?_
        refine O.ex (Ex.move rfl) rfl ?_
        refine O.nil ?_
        have hgx : ∀ x,x ≠ i → (if x < i + 1 then trV s (fG n s s0) s0 ((x : Nat) : Int) else 0) = fo x:=fun x hx=>by
          rw [hfo]
          by_cases e : x < i
          · rw [if_pos (by omega)]; exact (if_pos e).symm
          · rw [if_neg (by omega)]; exact (if_neg e).symm
        have hgi : (if i < i + 1 then trV s (fG n s s0) s0 ((i : Nat) : Int) else 0) = trV s (fG n s s0) s0 ((i : Nat) : Int):=if_pos (by omega)
        rw [hit] at H
        first
        | (have hy : fG n s s0 ((i : Nat) : Int) ≤ 4611686018427387904:=by simpa using hyes
           have et : trV s (fG n s s0) s0 ((i : Nat) : Int) = byA s (fG n s s0) ((i : Nat) : Int):=if_pos ⟨hne,hy⟩
           rw [trl_step hiN (hgi.trans et) hgx] at H
           exact ⟨i + 1,⟨rfl,rfl,rfl,rfl,rfl,rfl,trivial⟩,⟨rfl,by omega,Holds.to (by assumption)⟩,by omega⟩)
        | (have et : trV s (fG n s s0) s0 ((i : Nat) : Int) = -1:=if_neg (fun hh=>by
             first
             | exact heq hh.1
             | exact absurd hh.2 (by simpa using hnot))
           rw [nrg_set hiN (hgi.trans et) (fun x _ hx=>hgx x hx)] at H
           exact ⟨i + 1,⟨rfl,rfl,rfl,rfl,rfl,rfl,trivial⟩,⟨rfl,by omega,Holds.to (by assumption)⟩,by omega⟩)
    · refine W.exit ?_
      refine hK8 _ _ _ ?_
      refine W.seq (fun K16 hK16=>?_)
      refine W.region ?_
      refine O.ex (Ex.move rfl) rfl ?_
      refine O.ex (Ex.assign rfl) rfl ?_
      refine O.ex (Ex.assign rfl) rfl ?_
      refine O.nil ?_
      refine hK16 _ _ _ ?_
      refine W.ret ?_
      try dsimp only [thenQ,blockQ,retQ]
      first|refine ⟨_,⟨_,_,rfl,rfl,_,_,rfl,rfl,rfl⟩,?_⟩|(refine retD_mark ?_; intro w H; refine ⟨_,⟨_,_,rfl,rfl,_,_,rfl,rfl,rfl⟩,?_⟩)|(refine retD_mark2 ?_; intro w H; refine ⟨_,⟨_,_,rfl,rfl,_,_,rfl,rfl,rfl⟩,?_⟩)
      first
      | exact .inl ⟨hno,rfl,Holds.to (by assumption)⟩
      | (have hin : i = n.toNat:=by omega
         have e : ((List.range n.toNat).map fun x=>if x < i then trV s (fG n s s0) s0 ((x : Nat) : Int) else 0) = trL n s (fG n s (s0 : Int).toNat) (s0 : Int):=by
           rw [Int.toNat_natCast]
           exact nrg_congr (fun x hx=>(if_pos (by omega)).symm)
         rw [e] at H
         have ho:=arr_one (Holds.to (M:=arr 3 (Value.int .i64) s21 _::[]) H)
         exact .inr ⟨hv,s21,rfl,ho,Holds.to (by assumption)⟩)
end Go.Proofs.Ytliofdfhimmjmaa
namespace Go.Proofs.Ytliofdfhimmjmaa
open Go.Rr Go Gr Hp
set_option linter.unusedVariables false
set_option linter.unusedSimpArgs false
/-- The first k and the last k have changed places. -/
def rvF (xs : List Int) (k i : Nat) : Int:=if i < k ∨ xs.length ≤ i + k then xs.getD (xs.length - 1 - i) default else xs.getD i default
def rvL (xs : List Int) (k : Nat) : List Int:=(List.range xs.length).map (rvF xs k)
theorem rvL_len (xs : List Int) (k : Nat) : (rvL xs k).length = xs.length:=by simp [rvL]
theorem rvL_zero (xs : List Int) : rvL xs 0 = xs:=by
  refine List.ext_getElem? fun i=>?_
  unfold rvL
  rw [List.getElem?_map]
  by_cases h : i < xs.length
  · rw [List.getElem?_range h]
    simp only [Option.map_some]
    unfold rvF
    rw [if_neg (by omega),List.getD_eq_getElem?_getD,List.getElem?_eq_getElem h]; rfl
  · rw [List.getElem?_eq_none (by rw [List.length_range]; omega),List.getElem?_eq_none (by omega)]; rfl
theorem rvL_done (xs : List Int) {k : Nat} (hk : ¬ (k : Int) < (xs.length : Int) - 1 - k) : rvL xs k = xs.reverse:=by
  refine List.ext_getElem? fun i=>?_
  unfold rvL
  rw [List.getElem?_map]
  by_cases h : i < xs.length
  · rw [List.getElem?_range h,List.getElem?_reverse h]
    simp only [Option.map_some]
    unfold rvF
    by_cases e : i < k ∨ xs.length ≤ i + k
    · rw [if_pos e,List.getD_eq_getElem?_getD,List.getElem?_eq_getElem (by omega)]; rfl
    · rw [if_neg e,show xs.length - 1 - i = i by omega,List.getD_eq_getElem?_getD,List.getElem?_eq_getElem h]; rfl
  · rw [List.getElem?_eq_none (by rw [List.length_range]; omega),List.getElem?_eq_none (by rw [List.length_reverse]; omega)]; rfl
theorem rvL_step (xs : List Int) {k j : Nat} (hk : (k : Int) < (xs.length : Int) - 1 - k) (hj : j = xs.length - 1 - k) : ((rvL xs k).set k ((rvL xs k).getD j default)).set j ((rvL xs k).getD k default) = rvL xs (k + 1):=by
  have hkl : k < xs.length:=by omega
  have hjl : j < xs.length:=by omega
  have e1 : (rvL xs k).getD j default = xs.getD j default:=by
    unfold rvL; rw [nrg_get hjl]; unfold rvF; rw [if_neg (by omega)]
  have e2 : (rvL xs k).getD k default = xs.getD k default:=by
    unfold rvL; rw [nrg_get hkl]; unfold rvF; rw [if_neg (by omega)]
  rw [e1,e2]
  unfold rvL
  rw [nrg_set (g:=fun i=>if i = k then xs.getD j default else rvF xs k i) hkl (if_pos rfl) (fun i _ hi=>if_neg hi)]
  refine nrg_set hjl ?_ fun i hi hij=>?_
  · unfold rvF
    rw [if_pos (by omega),show xs.length - 1 - j = k by omega]
  · by_cases e : i = k
    · rw [if_pos e]; unfold rvF; rw [if_pos (by omega),e,hj]
    · rw [if_neg e]; unfold rvF
      by_cases e3 : i < k ∨ xs.length ≤ i + k
      · rw [if_pos e3,if_pos (by omega)]
      · rw [if_neg e3,if_neg (by omega)]
set_option maxHeartbeats 1000000 in
theorem rev_ct {w : World} {v : Value} {xs : List Int} {L : List HProp} (hl : xs.length ≤ 1000) (H : Holds w (arr 3 (Value.int .i64) v xs::L)) :
    CT Try.prog 41 [v] w fun _ w'=>Holds w' (arr 3 (Value.int .i64) v xs.reverse::L):=by
  refine CT.enter (N:=28) Try.func41 rfl rfl rfl rfl ?_
  refine W.seq (fun K0 hK0=>?_)
  refine W.region ?_
  refine O.ex (Ex.move rfl) rfl ?_
  refine O.ex (by first|exact Ex.lenR Try.runUnderlying28 rfl|exact Ex.lenIn Try.runUnderlying28 rfl|exact Ex.lenL Try.runUnderlying28 rfl|exact Ex.len rfl Try.runUnderlying28 rfl) rfl ?_
  refine O.ex (by first|exact Ex.subI rfl rfl|exact Ex.sub rfl rfl rfl) rfl ?_
  refine O.ex (Ex.assign rfl) rfl ?_
  refine O.ex (Ex.assign rfl) rfl ?_
  refine O.nil ?_
  refine hK0 _ _ _ ?_
  refine W.block ?_
  rw [← rvL_zero xs] at H
  rw [show (xs.length : Int) - 1 = (xs.length : Int) - 1 - ((0 : Nat) : Int) by omega]
  refine W.loop (σ:=Nat) (fun k=>[(0,v),(2,.int .i64 (k : Int)),(3,.int .i64 ((xs.length : Int) - 1 - k))]) (fun k ds w=>ds = [] ∧ k ≤ xs.length ∧ Holds w (arr 3 (Value.int .i64) v (rvL xs k)::L)) (fun k=>xs.length - k) 0 ⟨rfl,rfl,rfl,trivial⟩ ⟨rfl,by omega,Holds.to (by assumption)⟩ ?_
  clear H
  rintro k _ w ⟨rfl,hk,H⟩
  refine W.seq (fun K1 hK1=>?_)
  refine W.seq (fun K2 hK2=>?_)
  refine W.region ?_
  refine O.ex (Ex.move rfl) rfl ?_
  refine O.ex (Ex.move rfl) rfl ?_
  refine O.ex (Ex.lss rfl rfl) rfl ?_
  refine O.nil ?_
  refine hK2 _ _ _ ?_
  first|refine W.cond_p rfl (fun hlt=>?_) (fun hge=>?_)|refine W.cond_b rfl (fun hlt=>?_) (fun hge=>?_)
  · refine W.skip ?_
    refine hK1 _ _ _ ?_
    refine W.seq (fun K3 hK3=>?_)
    refine W.block ?_
    have hkk : (k : Int) < (xs.length : Int) - 1 - k:=hlt
    have hrl:=rvL_len xs k
    obtain ⟨j,hj⟩ : ∃ j,j = xs.length - 1 - k:=⟨_,rfl⟩
    have hjj : (xs.length : Int) - 1 - k = (j : Int):=by omega
    rw [hjj]
    have hsl:=arr_sl (T:=3) (e:=Value.int .i64) (v:=v) (xs:=rvL xs k) (Holds.to (by assumption)) (by omega)
    have k0 : (0 : Int) ≤ (k : Int):=by omega
    have k1 : (k : Int) < ((rvL xs k).length : Int):=by omega
    have j0 : (0 : Int) ≤ (j : Int):=by omega
    have j1 : (j : Int) < ((rvL xs k).length : Int):=by omega
    have j2 : ((j : Nat) : Int).toNat < ((rvL xs k).set ((k : Nat) : Int).toNat ((rvL xs k).getD ((j : Nat) : Int).toNat default)).length:=by rw [List.length_set]; omega
    refine W.drawTo (([] : List HProp)) (.take 0 (.take 1 (.take 2 (.take 3 (.take 4 (.take 5 (.take 6 (.take 8 (.take 9 (.take 10 (.two 7 11 (.one 11 (.take 12 (.one 13 (.take 14 (.one 15 .nil))))) (.one 7 (.take 12 (.one 13 (.take 14 (.one 15 .nil)))))))))))))))) (mixed) (fun _ _ _ _ h=>h) (by assumption) PP.auto (by decide +kernel) (fun w H=>?_)
    refine OQ.ex rfl (fun w H=>(Ex.move rfl)) rfl ?_
    refine OQ.ex rfl (fun w H=>(Ex.move rfl)) rfl ?_
    refine OQ.ex rfl (fun w H=>(Ex.move rfl)) rfl ?_
    refine OQ.ex rfl (fun w H=>(Ex.move rfl)) rfl ?_
    refine OQ.ex rfl (fun w H=>(Ex.move rfl)) rfl ?_
    refine OQ.ex rfl (fun w H=>(Ex.move rfl)) rfl ?_
    refine OQ.ex rfl (fun w H=>(by first|exact Ex.idxR Try.runUnderlying28 Try.sizeOf3 rfl rfl|exact Ex.idxIn Try.runUnderlying28 Try.sizeOf3 rfl rfl|exact Ex.idxS Try.runUnderlying28 Try.sizeOf3 rfl rfl|exact Ex.idx Try.runUnderlying28 Try.sizeOf3 rfl rfl (by omega) (by omega))) rfl ?_
    refine OQ.ex rfl (fun w H=>(Ex.move rfl)) rfl ?_
    refine OQ.ex rfl (fun w H=>(Ex.move rfl)) rfl ?_
    refine OQ.ex rfl (fun w H=>(by first|exact Ex.idxR Try.runUnderlying28 Try.sizeOf3 rfl rfl|exact Ex.idxIn Try.runUnderlying28 Try.sizeOf3 rfl rfl|exact Ex.idxS Try.runUnderlying28 Try.sizeOf3 rfl rfl|exact Ex.idx Try.runUnderlying28 Try.sizeOf3 rfl rfl (by omega) (by omega))) rfl ?_
    refine OQ.two rfl rfl ?_ ?_
    · refine O.ex (by first|exact Ex.loadR Try.isAgg3 rfl|exact Ex.loadIn1 Try.isAgg3 rfl (Holds.to (by assumption))|exact Ex.loadInF Try.isAgg3 rfl (Holds.to (by assumption))|exact Ex.loadP Try.isAgg3 rfl|exact Ex.loadMh Try.isAgg3 rfl|exact Ex.loadM Try.isAgg3 rfl|exact Ex.loadVc Try.isAgg3 rfl|exact Ex.loadQ Try.isAgg3 rfl) rfl ?_
      refine O.thenNil ⟨(by first|exact Holds.to (by assumption)|assumption),?_⟩
      refine OQ.step rfl ?_
      refine O.ex (by first|exact Ex.loadR Try.isAgg3 rfl|exact Ex.loadIn1 Try.isAgg3 rfl (Holds.to (by assumption))|exact Ex.loadInF Try.isAgg3 rfl (Holds.to (by assumption))|exact Ex.loadP Try.isAgg3 rfl|exact Ex.loadMh Try.isAgg3 rfl|exact Ex.loadM Try.isAgg3 rfl|exact Ex.loadVc Try.isAgg3 rfl|exact Ex.loadQ Try.isAgg3 rfl) rfl ?_
      refine O.thenNil ⟨(by first|exact Holds.to (by assumption)|assumption),?_⟩
      refine OQ.ex rfl (fun w H=>(by first|exact Ex.idxR Try.runUnderlying28 Try.sizeOf3 rfl rfl|exact Ex.idxIn Try.runUnderlying28 Try.sizeOf3 rfl rfl|exact Ex.idxS Try.runUnderlying28 Try.sizeOf3 rfl rfl|exact Ex.idx Try.runUnderlying28 Try.sizeOf3 rfl rfl (by omega) (by omega))) rfl ?_
      refine OQ.step rfl ?_
      first|refine O.storeP Try.sizeOf3 rfl rfl (fun w H=>?_)|refine O.storeR Try.sizeOf3 rfl rfl (fun w H=>?_)|refine O.storeM Try.sizeOf3 rfl rfl (fun w H=>?_)|refine O.storeVc Try.sizeOf3 rfl rfl (fun w H=>?_)|refine O.storeQ Try.sizeOf3 rfl rfl (fun w H=>?_)
      refine O.thenNil ⟨(by first|exact Holds.to (by assumption)|assumption),?_⟩
      refine OQ.ex rfl (fun w H=>(by first|exact Ex.idxR Try.runUnderlying28 Try.sizeOf3 rfl rfl|exact Ex.idxIn Try.runUnderlying28 Try.sizeOf3 rfl rfl|exact Ex.idxS Try.runUnderlying28 Try.sizeOf3 rfl rfl|exact Ex.idx Try.runUnderlying28 Try.sizeOf3 rfl rfl (by omega) (by omega))) rfl ?_
      refine OQ.last rfl (by decide +kernel) ?_
      first|refine O.storeP Try.sizeOf3 rfl rfl (fun w H=>?_)|refine O.storeR Try.sizeOf3 rfl rfl (fun w H=>?_)|refine O.storeM Try.sizeOf3 rfl rfl (fun w H=>?_)|refine O.storeVc Try.sizeOf3 rfl rfl (fun w H=>?_)|refine O.storeQ Try.sizeOf3 rfl rfl (fun w H=>?_)
      refine O.nil ?_
      refine hK3 _ _ _ ?_
      refine W.region ?_
      refine O.ex (Ex.move rfl) rfl ?_
      refine O.ex (by first|exact Ex.addI rfl rfl|exact Ex.add rfl rfl rfl) rfl ?_
      refine O.ex (Ex.move rfl) rfl ?_
      refine O.ex (by first|exact Ex.subI rfl rfl|exact Ex.sub rfl rfl rfl) rfl ?_
      refine O.ex (Ex.assign rfl) rfl ?_
      refine O.ex (Ex.assign rfl) rfl ?_
      refine O.nil ?_
      have hkt : ((k : Nat) : Int).toNat = k:=Int.toNat_natCast k
      have hjt : ((j : Nat) : Int).toNat = j:=Int.toNat_natCast j
      rw [hkt,hjt,rvL_step xs hkk hj] at H
      rw [show (j : Int) - 1 = (xs.length : Int) - 1 - ((k + 1 : Nat) : Int) by omega]
      exact ⟨k + 1,⟨rfl,rfl,rfl,trivial⟩,⟨rfl,by omega,H⟩,by omega⟩
    · refine O.ex (by first|exact Ex.loadR Try.isAgg3 rfl|exact Ex.loadIn1 Try.isAgg3 rfl (Holds.to (by assumption))|exact Ex.loadInF Try.isAgg3 rfl (Holds.to (by assumption))|exact Ex.loadP Try.isAgg3 rfl|exact Ex.loadMh Try.isAgg3 rfl|exact Ex.loadM Try.isAgg3 rfl|exact Ex.loadVc Try.isAgg3 rfl|exact Ex.loadQ Try.isAgg3 rfl) rfl ?_
      refine O.thenNil ⟨(by first|exact Holds.to (by assumption)|assumption),?_⟩
      refine OQ.step rfl ?_
      refine O.ex (by first|exact Ex.loadR Try.isAgg3 rfl|exact Ex.loadIn1 Try.isAgg3 rfl (Holds.to (by assumption))|exact Ex.loadInF Try.isAgg3 rfl (Holds.to (by assumption))|exact Ex.loadP Try.isAgg3 rfl|exact Ex.loadMh Try.isAgg3 rfl|exact Ex.loadM Try.isAgg3 rfl|exact Ex.loadVc Try.isAgg3 rfl|exact Ex.loadQ Try.isAgg3 rfl) rfl ?_
      refine O.thenNil ⟨(by first|exact Holds.to (by assumption)|assumption),?_⟩
      refine OQ.ex rfl (fun w H=>(by first|exact Ex.idxR Try.runUnderlying28 Try.sizeOf3 rfl rfl|exact Ex.idxIn Try.runUnderlying28 Try.sizeOf3 rfl rfl|exact Ex.idxS Try.runUnderlying28 Try.sizeOf3 rfl rfl|exact Ex.idx Try.runUnderlying28 Try.sizeOf3 rfl rfl (by omega) (by omega))) rfl ?_
      refine OQ.step rfl ?_
      first|refine O.storeP Try.sizeOf3 rfl rfl (fun w H=>?_)|refine O.storeR Try.sizeOf3 rfl rfl (fun w H=>?_)|refine O.storeM Try.sizeOf3 rfl rfl (fun w H=>?_)|refine O.storeVc Try.sizeOf3 rfl rfl (fun w H=>?_)|refine O.storeQ Try.sizeOf3 rfl rfl (fun w H=>?_)
      refine O.thenNil ⟨(by first|exact Holds.to (by assumption)|assumption),?_⟩
      refine OQ.ex rfl (fun w H=>(by first|exact Ex.idxR Try.runUnderlying28 Try.sizeOf3 rfl rfl|exact Ex.idxIn Try.runUnderlying28 Try.sizeOf3 rfl rfl|exact Ex.idxS Try.runUnderlying28 Try.sizeOf3 rfl rfl|exact Ex.idx Try.runUnderlying28 Try.sizeOf3 rfl rfl (by omega) (by omega))) rfl ?_
      refine OQ.last rfl (by decide +kernel) ?_
      first|refine O.storeP Try.sizeOf3 rfl rfl (fun w H=>?_)|refine O.storeR Try.sizeOf3 rfl rfl (fun w H=>?_)|refine O.storeM Try.sizeOf3 rfl rfl (fun w H=>?_)|refine O.storeVc Try.sizeOf3 rfl rfl (fun w H=>?_)|refine O.storeQ Try.sizeOf3 rfl rfl (fun w H=>?_)
      refine O.nil ?_
      refine hK3 _ _ _ ?_
      refine W.region ?_
      refine O.ex (Ex.move rfl) rfl ?_
      refine O.ex (by first|exact Ex.addI rfl rfl|exact Ex.add rfl rfl rfl) rfl ?_
      refine O.ex (Ex.move rfl) rfl ?_
      refine O.ex (by first|exact Ex.subI rfl rfl|exact Ex.sub rfl rfl rfl) rfl ?_
      refine O.ex (Ex.assign rfl) rfl ?_
      refine O.ex (Ex.assign rfl) rfl ?_
      refine O.nil ?_
      have hkt : ((k : Nat) : Int).toNat = k:=Int.toNat_natCast k
      have hjt : ((j : Nat) : Int).toNat = j:=Int.toNat_natCast j
      rw [hkt,hjt,rvL_step xs hkk hj] at H
      rw [show (j : Int) - 1 = (xs.length : Int) - 1 - ((k + 1 : Nat) : Int) by omega]
      exact ⟨k + 1,⟨rfl,rfl,rfl,trivial⟩,⟨rfl,by omega,H⟩,by omega⟩
  · refine W.exit ?_
    try dsimp only [thenQ,blockQ,retQ]
    first|refine ⟨_,rfl,?_⟩|(refine retD_mark ?_; intro w H; refine ⟨_,rfl,?_⟩)|(refine retD_mark2 ?_; intro w H; refine ⟨_,rfl,?_⟩)
    rw [rvL_done xs hge] at H
    exact H
set_option maxHeartbeats 2000000 in
theorem npath_ct {w : World} {g : Nat} {n most v t : Int} {s : St} {L : List HProp} (hg : GOk n most s) (H : Holds w (Gh g n most s::L)) :
    CT Try.prog 12 [.pointer (some ⟨g,0,none⟩),.int .i64 v,.int .i64 t] w fun u w' =>
      (¬ ((0 ≤ v ∧ v < n) ∧ (0 ≤ t ∧ t < n)) ∧ u = .tuple #[.slice none 0 0,.int .i64 0,.int .i64 1] ∧ Holds w' (Gh g n most s::L)) ∨
      (((0 ≤ v ∧ v < n) ∧ (0 ≤ t ∧ t < n)) ∧ fG n s v.toNat t = 4611686018427387906 ∧ u = .tuple #[.slice none 0 0,.int .i64 0,.int .i64 3] ∧ Holds w' (Gh g n most s::L)) ∨
      (((0 ≤ v ∧ v < n) ∧ (0 ≤ t ∧ t < n)) ∧ fG n s v.toNat t = 4611686018427387905 ∧ u = .tuple #[.slice none 0 0,.int .i64 0,.int .i64 9] ∧ Holds w' (Gh g n most s::L)) ∨
      (((0 ≤ v ∧ v < n) ∧ (0 ≤ t ∧ t < n)) ∧ fG n s v.toNat t ≤ 4611686018427387904 ∧ ∃ ov k,(∀ j,j < k → pv s (tG n s v.toNat) t j ≠ v) ∧ pv s (tG n s v.toNat) t k = v ∧ u = .tuple #[ov,.int .i64 (fG n s v.toNat t),.int .i64 0] ∧ ov.oneCell' = true ∧ Holds w' (arr 3 (Value.int .i64) ov (pid s (tG n s v.toNat) t k).reverse::Gh g n most s::L)):=by
  have n1:=hg.n1
  have n2:=hg.n2
  refine CT.enter (N:=74) Try.func12 rfl rfl rfl rfl ?_
  refine W.seq (fun K0 hK0=>?_)
  refine W.region ?_
  refine O.ex (Ex.assign rfl) rfl ?_
  refine O.ex (Ex.assign rfl) rfl ?_
  refine O.ex (Ex.assign rfl) rfl ?_
  refine O.nil ?_
  refine hK0 _ _ _ ?_
  refine W.seq (fun K1 hK1=>?_)
  refine W.region ?_
  refine O.ex (Ex.move rfl) rfl ?_
  refine O.ex (Ex.move rfl) rfl ?_
  refine O.callF Try.call26 rfl rfl (CT.mono (ntree_ct hg (Holds.to (by assumption))) ?_)
  rintro _ w hh
  rcases hh with ⟨hno,rfl,H⟩|⟨hv,tv,rfl,htv,H⟩
  · refine O.ex (Ex.move rfl) rfl ?_
    refine O.ex (Ex.extract rfl rfl) rfl ?_
    refine O.ex (Ex.extract rfl rfl) rfl ?_
    refine O.ex (Ex.assign rfl) rfl ?_
    refine O.ex (Ex.assign rfl) rfl ?_
    refine O.nil ?_
    refine hK1 _ _ _ ?_
    refine W.seq (fun K2 hK2=>?_)
    refine W.seq (fun K3 hK3=>?_)
    refine W.region ?_
    refine O.ex (Ex.move rfl) rfl ?_
    refine O.ex (Ex.neqI rfl rfl) rfl ?_
    refine O.ex (Ex.move rfl) rfl ?_
    refine O.known (t:=25) (c:=true) rfl (by first|rfl|decide) ?_
    refine O.guard_f rfl rfl rfl rfl ?_
    refine O.guard_f rfl rfl rfl rfl ?_
    refine O.guard_f rfl rfl rfl rfl ?_
    refine O.guard_f rfl rfl rfl rfl ?_
    refine O.ex (Ex.pick_t rfl rfl) rfl ?_
    refine O.nil ?_
    refine hK3 _ _ _ ?_
    refine W.cond_t rfl ?_
    refine W.seq (fun K4 hK4=>?_)
    refine W.region ?_
    refine O.ex (Ex.assign rfl) rfl ?_
    refine O.ex (Ex.assign rfl) rfl ?_
    refine O.ex (Ex.assign rfl) rfl ?_
    refine O.nil ?_
    refine hK4 _ _ _ ?_
    refine W.ret ?_
    try dsimp only [thenQ,blockQ,retQ]
    first|refine ⟨_,⟨_,_,rfl,rfl,_,_,rfl,rfl,_,_,rfl,rfl,rfl⟩,?_⟩|(refine retD_mark ?_; intro w H; refine ⟨_,⟨_,_,rfl,rfl,_,_,rfl,rfl,_,_,rfl,rfl,rfl⟩,?_⟩)|(refine retD_mark2 ?_; intro w H; refine ⟨_,⟨_,_,rfl,rfl,_,_,rfl,rfl,_,_,rfl,rfl,rfl⟩,?_⟩)
    first
    | exact .inl ⟨fun hh=>hno hh.1,rfl,Holds.to (by assumption)⟩
    | (have hb : ¬ (0 ≤ t ∧ t < n):=by simpa using hbad
       exact .inl ⟨fun hh=>hb hh.2,rfl,Holds.to (by assumption)⟩)
    | (have a1 : fG n s s0 t = 4611686018427387906:=hnone
       exact .inr (.inl ⟨⟨hv,ht⟩,a1,rfl,Holds.to (by assumption)⟩))
    | (have a1 : fG n s s0 t = 4611686018427387905:=hfar
       exact .inr (.inr (.inl ⟨⟨hv,ht⟩,a1,rfl,Holds.to (by assumption)⟩)))
    | (have hkk : pv s (tG n s s0) t k = (s0 : Int):=by simpa using heq
       exact .inr (.inr (.inr ⟨⟨hv,ht⟩,hm,ov,k,hk,hkk,rfl,hov,Holds.to (by assumption)⟩)))
  · refine O.ex (Ex.move rfl) rfl ?_
    refine O.ex (Ex.extract rfl rfl) rfl ?_
    refine O.ex (Ex.extract rfl rfl) rfl ?_
    refine O.ex (Ex.assign rfl) rfl ?_
    refine O.ex (Ex.assign rfl) rfl ?_
    refine O.nil ?_
    refine hK1 _ _ _ ?_
    refine W.seq (fun K5 hK5=>?_)
    refine W.seq (fun K6 hK6=>?_)
    refine W.region ?_
    refine O.ex (Ex.move rfl) rfl ?_
    refine O.ex (Ex.neqI rfl rfl) rfl ?_
    refine O.ex (Ex.move rfl) rfl ?_
    refine O.known (t:=25) (c:=false) rfl (by first|rfl|decide) ?_
    refine O.guard_t rfl rfl ?_
    refine O.ex (Ex.move rfl) rfl ?_
    refine O.guard_t rfl rfl ?_
    refine O.ex (Ex.move rfl) rfl ?_
    refine O.guard_t rfl rfl ?_
    refine O.callF Try.call39 rfl rfl (CT.mono (nvertex_ct (g:=g) (n:=n) (most:=most) (s:=s) (by omega) (Holds.to (by assumption))) ?_)
    rintro _ w ⟨rfl,H⟩
    refine O.guard_t rfl rfl ?_
    refine O.ex (by first|exact Ex.notD rfl|exact Ex.not rfl) rfl ?_
    refine O.ex (Ex.pick_f rfl rfl) rfl ?_
    refine O.nil ?_
    refine hK6 _ _ _ ?_
    first|refine W.cond_p rfl (fun hbad=>?_) (fun hok=>?_)|refine W.cond_b rfl (fun hbad=>?_) (fun hok=>?_)
    · refine W.seq (fun K7 hK7=>?_)
      refine W.region ?_
      refine O.ex (Ex.assign rfl) rfl ?_
      refine O.ex (Ex.assign rfl) rfl ?_
      refine O.ex (Ex.assign rfl) rfl ?_
      refine O.nil ?_
      refine hK7 _ _ _ ?_
      refine W.ret ?_
      try dsimp only [thenQ,blockQ,retQ]
      first|refine ⟨_,⟨_,_,rfl,rfl,_,_,rfl,rfl,_,_,rfl,rfl,rfl⟩,?_⟩|(refine retD_mark ?_; intro w H; refine ⟨_,⟨_,_,rfl,rfl,_,_,rfl,rfl,_,_,rfl,rfl,rfl⟩,?_⟩)|(refine retD_mark2 ?_; intro w H; refine ⟨_,⟨_,_,rfl,rfl,_,_,rfl,rfl,_,_,rfl,rfl,rfl⟩,?_⟩)
      first
      | exact .inl ⟨fun hh=>hno hh.1,rfl,Holds.to (by assumption)⟩
      | (have hb : ¬ (0 ≤ t ∧ t < n):=by simpa using hbad
         exact .inl ⟨fun hh=>hb hh.2,rfl,Holds.to (by assumption)⟩)
      | (have a1 : fG n s s0 t = 4611686018427387906:=hnone
         exact .inr (.inl ⟨⟨hv,ht⟩,a1,rfl,Holds.to (by assumption)⟩))
      | (have a1 : fG n s s0 t = 4611686018427387905:=hfar
         exact .inr (.inr (.inl ⟨⟨hv,ht⟩,a1,rfl,Holds.to (by assumption)⟩)))
      | (have hkk : pv s (tG n s s0) t k = (s0 : Int):=by simpa using heq
         exact .inr (.inr (.inr ⟨⟨hv,ht⟩,hm,ov,k,hk,hkk,rfl,hov,Holds.to (by assumption)⟩)))
    · refine W.skip ?_
      refine hK5 _ _ _ ?_
      refine W.seq (fun K8 hK8=>?_)
      refine W.region ?_
      have ht : 0 ≤ t ∧ t < n:=by simpa using hok
      obtain ⟨s0,rfl⟩ : ∃ s0 : Nat,v = (s0 : Int):=⟨v.toNat,by omega⟩
      have hs0 : ((s0 : Nat) : Int).toNat = s0:=Int.toNat_natCast s0
      rw [hs0] at H ⊢
      refine O.ex (Ex.move rfl) rfl ?_
      refine O.ex (Ex.move rfl) rfl ?_
      refine O.callF Try.call20 rfl rfl (CT.mono (nfrom_ct hg (Holds.to (by assumption))) ?_)
      rintro _ w (⟨hno,-⟩|⟨-,fv,rfl,hfv,H⟩)
      · exact absurd hv hno
      have H : Holds w (arr 3 (Value.int .i64) fv (farL n (cG s) s0)::arr 3 (Value.int .i64) tv (trL n s (fG n s s0) s0)::Gh g n most s::L):=Holds.to H
      have hFl:=farL_len n (cG s) s0
      have hTl:=trL_len n s (fG n s s0) s0
      have ht0:=ht.1
      have ht1 : t < ((farL n (cG s) s0).length : Int):=by rw [hFl]; omega
      have eft : (farL n (cG s) s0).getD t.toNat default = fG n s s0 t:=farL_get ht.1 ht.2
      have hfd:=fw_dst (cG_good hg) n.toNat (s0 : Int) t
      refine O.ex (Ex.move rfl) rfl ?_
      refine O.ex (Ex.extract rfl rfl) rfl ?_
      refine O.ex (Ex.extract rfl rfl) rfl ?_
      refine O.ex (Ex.assign rfl) rfl ?_
      refine O.ex (Ex.assign rfl) rfl ?_
      refine O.nil ?_
      refine hK8 _ _ _ ?_
      refine W.seq (fun K9 hK9=>?_)
      refine W.seq (fun K10 hK10=>?_)
      refine W.region ?_
      refine O.ex (Ex.move rfl) rfl ?_
      refine O.ex (Ex.move rfl) rfl ?_
      refine O.ex (by first|exact Ex.idxR Try.runUnderlying28 Try.sizeOf3 rfl rfl|exact Ex.idxIn Try.runUnderlying28 Try.sizeOf3 rfl rfl|exact Ex.idxS Try.runUnderlying28 Try.sizeOf3 rfl rfl|exact Ex.idx Try.runUnderlying28 Try.sizeOf3 rfl rfl (by omega) (by omega)) rfl ?_
      refine O.ex (Ex.cast (v:=.int .i64 (fG n s s0 t)) (Ex.loadR (xs:=farL n (cG s) s0) Try.isAgg3 rfl) (by rw [eft])) rfl ?_
      refine O.nil ?_
      refine hK10 _ _ _ ?_
      refine W.block ?_
      refine W.seq (fun K11 hK11=>?_)
      refine W.region ?_
      refine O.ex (Ex.eqlI rfl rfl) rfl ?_
      refine O.ex (Ex.assign rfl) rfl ?_
      refine O.nil ?_
      refine hK11 _ _ _ ?_
      first|refine W.cond_p rfl (fun hnone=>?_) (fun hn1=>?_)|refine W.cond_b rfl (fun hnone=>?_) (fun hn1=>?_)
      · refine W.seq (fun K12 hK12=>?_)
        refine W.region ?_
        refine O.ex (Ex.assign rfl) rfl ?_
        refine O.ex (Ex.assign rfl) rfl ?_
        refine O.ex (Ex.assign rfl) rfl ?_
        refine O.nil ?_
        refine hK12 _ _ _ ?_
        refine W.ret ?_
        try dsimp only [thenQ,blockQ,retQ]
        first|refine ⟨_,⟨_,_,rfl,rfl,_,_,rfl,rfl,_,_,rfl,rfl,rfl⟩,?_⟩|(refine retD_mark ?_; intro w H; refine ⟨_,⟨_,_,rfl,rfl,_,_,rfl,rfl,_,_,rfl,rfl,rfl⟩,?_⟩)|(refine retD_mark2 ?_; intro w H; refine ⟨_,⟨_,_,rfl,rfl,_,_,rfl,rfl,_,_,rfl,rfl,rfl⟩,?_⟩)
        first
        | exact .inl ⟨fun hh=>hno hh.1,rfl,Holds.to (by assumption)⟩
        | (have hb : ¬ (0 ≤ t ∧ t < n):=by simpa using hbad
           exact .inl ⟨fun hh=>hb hh.2,rfl,Holds.to (by assumption)⟩)
        | (have a1 : fG n s s0 t = 4611686018427387906:=hnone
           exact .inr (.inl ⟨⟨hv,ht⟩,a1,rfl,Holds.to (by assumption)⟩))
        | (have a1 : fG n s s0 t = 4611686018427387905:=hfar
           exact .inr (.inr (.inl ⟨⟨hv,ht⟩,a1,rfl,Holds.to (by assumption)⟩)))
        | (have hkk : pv s (tG n s s0) t k = (s0 : Int):=by simpa using heq
           exact .inr (.inr (.inr ⟨⟨hv,ht⟩,hm,ov,k,hk,hkk,rfl,hov,Holds.to (by assumption)⟩)))
      · refine W.seq (fun K13 hK13=>?_)
        refine W.region ?_
        refine O.ex (Ex.eqlI rfl rfl) rfl ?_
        refine O.ex (Ex.assign rfl) rfl ?_
        refine O.nil ?_
        refine hK13 _ _ _ ?_
        first|refine W.cond_p rfl (fun hfar=>?_) (fun hn2=>?_)|refine W.cond_b rfl (fun hfar=>?_) (fun hn2=>?_)
        · refine W.seq (fun K14 hK14=>?_)
          refine W.region ?_
          refine O.ex (Ex.assign rfl) rfl ?_
          refine O.ex (Ex.assign rfl) rfl ?_
          refine O.ex (Ex.assign rfl) rfl ?_
          refine O.nil ?_
          refine hK14 _ _ _ ?_
          refine W.ret ?_
          try dsimp only [thenQ,blockQ,retQ]
          first|refine ⟨_,⟨_,_,rfl,rfl,_,_,rfl,rfl,_,_,rfl,rfl,rfl⟩,?_⟩|(refine retD_mark ?_; intro w H; refine ⟨_,⟨_,_,rfl,rfl,_,_,rfl,rfl,_,_,rfl,rfl,rfl⟩,?_⟩)|(refine retD_mark2 ?_; intro w H; refine ⟨_,⟨_,_,rfl,rfl,_,_,rfl,rfl,_,_,rfl,rfl,rfl⟩,?_⟩)
          first
          | exact .inl ⟨fun hh=>hno hh.1,rfl,Holds.to (by assumption)⟩
          | (have hb : ¬ (0 ≤ t ∧ t < n):=by simpa using hbad
             exact .inl ⟨fun hh=>hb hh.2,rfl,Holds.to (by assumption)⟩)
          | (have a1 : fG n s s0 t = 4611686018427387906:=hnone
             exact .inr (.inl ⟨⟨hv,ht⟩,a1,rfl,Holds.to (by assumption)⟩))
          | (have a1 : fG n s s0 t = 4611686018427387905:=hfar
             exact .inr (.inr (.inl ⟨⟨hv,ht⟩,a1,rfl,Holds.to (by assumption)⟩)))
          | (have hkk : pv s (tG n s s0) t k = (s0 : Int):=by simpa using heq
             exact .inr (.inr (.inr ⟨⟨hv,ht⟩,hm,ov,k,hk,hkk,rfl,hov,Holds.to (by assumption)⟩)))
        · refine W.skip ?_
          refine hK9 _ _ _ ?_
          refine W.seq (fun K15 hK15=>?_)
          refine W.region ?_
          have hm : fG n s s0 t ≤ 4611686018427387904:=by
            have a1 : ¬ fG n s s0 t = 4611686018427387906:=by simpa using hn1
            have a2 : ¬ fG n s s0 t = 4611686018427387905:=by simpa using hn2
            have a3 : fG n s s0 t ≤ 4611686018427387906:=hfd.2
            omega
          refine O.ex (Ex.assign rfl) rfl ?_
          refine O.nil ?_
          refine hK15 _ _ _ ?_
          refine W.seq (fun K16 hK16=>?_)
          refine W.seq (fun K17 hK17=>?_)
          refine W.region ?_
          refine O.ex (Ex.move rfl) rfl ?_
          refine O.ex (Ex.assign rfl) rfl ?_
          refine O.nil ?_
          refine hK17 _ _ _ ?_
          refine W.block ?_
          have H:=arr_nil (T:=3) (e:=Value.int .i64) H
          refine W.loop (σ:=Nat × Value) (fun z=>[(0,.pointer (some ⟨g,0,none⟩)),(1,.int .i64 (s0 : Int)),(2,.int .i64 t),(9,tv),(11,fv),(13,z.2),(14,.int .i64 (pv s (tG n s s0) t z.1))]) (fun z ds w=>ds = [] ∧ z.2.oneCell' = true ∧ (∀ j,j < z.1 → pv s (tG n s s0) t j ≠ (s0 : Int)) ∧ Holds w (arr 3 (Value.int .i64) z.2 (pid s (tG n s s0) t z.1)::arr 3 (Value.int .i64) fv (farL n (cG s) s0)::arr 3 (Value.int .i64) tv (trL n s (fG n s s0) s0)::Gh g n most s::L)) (fun z=>n.toNat - z.1) (0,.slice none 0 0) ⟨rfl,rfl,rfl,rfl,rfl,rfl,rfl,trivial⟩ ⟨rfl,rfl,(fun j hj=>absurd hj (Nat.not_lt_zero _)),H⟩ ?_
          clear H
          rintro ⟨k,ov⟩ _ w ⟨rfl,hov,hk,H⟩
          dsimp only at hov hk H ⊢
          have hlen:=pv_len hg ht.1 ht.2 hm hk
          obtain ⟨⟨p0,p1⟩,-,-⟩:=pv_ok hg ht.1 ht.2 hm k hk
          refine W.seq (fun K18 hK18=>?_)
          refine W.seq (fun K19 hK19=>?_)
          refine W.region ?_
          refine O.ex (Ex.move rfl) rfl ?_
          refine O.ex (Ex.move rfl) rfl ?_
          refine O.ex (Ex.neqI rfl rfl) rfl ?_
          refine O.nil ?_
          refine hK19 _ _ _ ?_
          first|refine W.cond_p rfl (fun hne=>?_) (fun heq=>?_)|refine W.cond_b rfl (fun hne=>?_) (fun heq=>?_)
          · refine W.skip ?_
            refine hK18 _ _ _ ?_
            refine W.block ?_
            refine W.seq (fun K20 hK20=>?_)
            refine W.region ?_
            have hne' : ¬ pv s (tG n s s0) t k = (s0 : Int):=hne
            have hk' : ∀ j,j < k + 1 → pv s (tG n s s0) t j ≠ (s0 : Int):=fun j hj=>by
              by_cases e : j = k
              · rw [e]; exact hne'
              · exact hk j (by omega)
            obtain ⟨id,e1,q1,q2,q3,q4,q5⟩:=pid_step hg ht.1 ht.2 hm hk'
            have p2 : pv s (tG n s s0) t k < ((trL n s (fG n s s0) s0).length : Int):=by rw [hTl]; omega
            have etv : (trL n s (fG n s s0) s0).getD (pv s (tG n s s0) t k).toNat default = id:=by rw [trL_get p0 p1]; exact e1
            have hpl:=pid_len (s:=s) (t:=t) (tG n s s0) k
            refine O.ex (Ex.move rfl) rfl ?_
            refine O.ex (Ex.move rfl) rfl ?_
            refine O.ex (Ex.move rfl) rfl ?_
            refine O.ex (by first|exact Ex.idxR Try.runUnderlying28 Try.sizeOf3 rfl rfl|exact Ex.idxIn Try.runUnderlying28 Try.sizeOf3 rfl rfl|exact Ex.idxS Try.runUnderlying28 Try.sizeOf3 rfl rfl|exact Ex.idx Try.runUnderlying28 Try.sizeOf3 rfl rfl (by omega) (by omega)) rfl ?_
            refine O.ex (Ex.cast (v:=.int .i64 id) (Ex.loadR (xs:=trL n s (fG n s s0) s0) Try.isAgg3 rfl) (by rw [etv])) rfl ?_
            refine O.build1 (e:=Value.int .i64) Try.runUnderlying28 Try.sizeOf3 Try.zeroValue3 rfl (fun v54 w hv54 H=>?_)
            refine O.appendR Try.runUnderlying28 Try.typeInfo3 (bt:=8) rfl Try.sizeOf3 Try.zeroValue3 rfl rfl (fun v55 w hv55 H=>?_)
            refine O.ex (Ex.assign rfl) rfl ?_
            refine O.nil ?_
            refine hK20 _ _ _ ?_
            refine W.seq (fun K21 hK21=>?_)
            refine W.region ?_
            refine O.ex (Ex.move rfl) rfl ?_
            refine O.ex (Ex.move rfl) rfl ?_
            refine O.ex (Ex.move rfl) rfl ?_
            refine O.ex (by first|exact Ex.idxR Try.runUnderlying28 Try.sizeOf3 rfl rfl|exact Ex.idxIn Try.runUnderlying28 Try.sizeOf3 rfl rfl|exact Ex.idxS Try.runUnderlying28 Try.sizeOf3 rfl rfl|exact Ex.idx Try.runUnderlying28 Try.sizeOf3 rfl rfl (by omega) (by omega)) rfl ?_
            refine O.ex (Ex.cast (v:=.int .i64 id) (Ex.loadR (xs:=trL n s (fG n s s0) s0) Try.isAgg3 rfl) (by rw [etv])) rfl ?_
            refine O.callF Try.call40 rfl rfl (CT.mono (garc_ct (g:=g) (Holds.to (by assumption))) ?_)
            rintro _ w ⟨rfl,H⟩
            refine O.ex (Ex.move rfl) rfl ?_
            refine O.ex (Ex.extract rfl rfl) rfl ?_
            refine O.ex (Ex.extract rfl rfl) rfl ?_
            refine O.allocP Try.zeroValue42 (fun b15 w H=>?_)
            first|refine O.storeAggP Try.sizeOf42 rfl rfl rfl rfl (fun w H=>?_)|refine O.storeAggN Try.sizeOf42 rfl rfl rfl (fun w H=>?_) rfl
            have H:=Holds.to (M:=pt b15 (.cells #[.int .i64 (arcQ s id).t,.int .i64 (arcQ s id).h,.int .i64 (arcQ s id).w,.bool (arcQ s id).cl] 42 (0,0))::_) H
            refine O.ex (Ex.assign rfl) rfl ?_
            refine O.nil ?_
            refine hK21 _ _ _ ?_
            refine W.region ?_
            refine O.ex (by first|exact Ex.field0 fld42_0 rfl|exact Ex.field fld42_0 rfl|exact Ex.fieldS fld42_0 rfl|exact Ex.fieldIn fld42_0 rfl) rfl ?_
            refine O.ex (by first|exact Ex.loadMh Try.isAgg3 rfl|exact Ex.loadInF Try.isAgg3 rfl (Holds.to (by assumption))|exact Ex.loadP Try.isAgg3 rfl|exact Ex.loadM Try.isAgg3 rfl|exact Ex.loadIn1 Try.isAgg3 rfl (Holds.to (by assumption))|exact Ex.loadVc Try.isAgg3 rfl|exact Ex.loadR Try.isAgg3 rfl|exact Ex.loadQ Try.isAgg3 rfl) rfl ?_
            refine O.ex (Ex.assign rfl) rfl ?_
            refine O.nil ?_
            rw [q4]
            have ep : pid s (tG n s s0) t k ++ [id] = pid s (tG n s s0) t (k + 1):=by rw [pid_succ,e1]
            rw [ep] at H
            have ho2:=arr_one (Holds.to (M:=arr 3 (Value.int .i64) v55 (pid s (tG n s s0) t (k + 1))::[]) H)
            have hlen2:=pv_len hg ht.1 ht.2 hm hk'
            exact ⟨(k + 1,v55),⟨rfl,rfl,rfl,rfl,rfl,rfl,rfl,trivial⟩,⟨rfl,ho2,hk',Holds.to (by assumption)⟩,by dsimp only; omega⟩
          · refine W.exit ?_
            refine hK16 _ _ _ ?_
            refine W.seq (fun K22 hK22=>?_)
            refine W.region ?_
            refine O.ex (Ex.move rfl) rfl ?_
            refine O.callF Try.call41 rfl rfl (CT.mono (rev_ct (v:=ov) (xs:=pid s (tG n s s0) t k) (by rw [pid_len]; omega) (Holds.to (by assumption))) ?_)
            rintro _ w H
            refine O.nil ?_
            refine hK22 _ _ _ ?_
            refine W.seq (fun K23 hK23=>?_)
            refine W.drawTo _ (.take 0 (.take 1 (.take 2 (.take 3 (.take 4 (.take 5 (.take 6 (.take 7 .nil)))))))) (mixed) (fun _ _ _ _ h=>h) (by assumption) (PP.refl _) (by decide +kernel) (fun w H=>?_)
            refine OQ.ex rfl (fun w H=>(Ex.move rfl)) rfl ?_
            refine OQ.ex rfl (fun w H=>(Ex.move rfl)) rfl ?_
            refine OQ.ex rfl (fun w H=>(Ex.move rfl)) rfl ?_
            refine OQ.ex rfl (fun w H=>(by first|exact Ex.idxR Try.runUnderlying28 Try.sizeOf3 rfl rfl|exact Ex.idxIn Try.runUnderlying28 Try.sizeOf3 rfl rfl|exact Ex.idxS Try.runUnderlying28 Try.sizeOf3 rfl rfl|exact Ex.idx Try.runUnderlying28 Try.sizeOf3 rfl rfl (by omega) (by omega))) rfl ?_
            refine OQ.ex rfl (fun w H=>(Ex.cast (v:=.int .i64 (fG n s s0 t)) (Ex.loadR (xs:=farL n (cG s) s0) Try.isAgg3 rfl) (by rw [eft]))) rfl ?_
            refine OQ.ex rfl (fun w H=>(Ex.assign rfl)) rfl ?_
            refine OQ.ex rfl (fun w H=>(Ex.assign rfl)) rfl ?_
            refine OQ.ex rfl (fun w H=>(Ex.assign rfl)) rfl ?_
            refine OQ.done ?_
            refine hK23 _ _ _ ?_
            refine W.ret ?_
            try dsimp only [thenQ,blockQ,retQ]
            first|refine ⟨_,⟨_,_,rfl,rfl,_,_,rfl,rfl,_,_,rfl,rfl,rfl⟩,?_⟩|(refine retD_mark ?_; intro w H; refine ⟨_,⟨_,_,rfl,rfl,_,_,rfl,rfl,_,_,rfl,rfl,rfl⟩,?_⟩)|(refine retD_mark2 ?_; intro w H; refine ⟨_,⟨_,_,rfl,rfl,_,_,rfl,rfl,_,_,rfl,rfl,rfl⟩,?_⟩)
            first
            | exact .inl ⟨fun hh=>hno hh.1,rfl,Holds.to (by assumption)⟩
            | (have hb : ¬ (0 ≤ t ∧ t < n):=by simpa using hbad
               exact .inl ⟨fun hh=>hb hh.2,rfl,Holds.to (by assumption)⟩)
            | (have a1 : fG n s s0 t = 4611686018427387906:=hnone
               exact .inr (.inl ⟨⟨hv,ht⟩,a1,rfl,Holds.to (by assumption)⟩))
            | (have a1 : fG n s s0 t = 4611686018427387905:=hfar
               exact .inr (.inr (.inl ⟨⟨hv,ht⟩,a1,rfl,Holds.to (by assumption)⟩)))
            | (have hkk : pv s (tG n s s0) t k = (s0 : Int):=by simpa using heq
               exact .inr (.inr (.inr ⟨⟨hv,ht⟩,hm,ov,k,hk,hkk,rfl,hov,Holds.to (by assumption)⟩)))
end Go.Proofs.Ytliofdfhimmjmaa
