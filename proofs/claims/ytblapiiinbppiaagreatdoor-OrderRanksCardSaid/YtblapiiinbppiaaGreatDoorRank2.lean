import Derived.Test.YtblapiiinbppiaaGreatDoorRank
namespace Go.Proofs.YtblapiiinbppiaaGreatDoor
open Go.Rr Go Gr Hp Wt
set_option linter.unusedVariables false
set_option linter.unusedSimpArgs false
set_option maxHeartbeats 4000000 in
theorem rank_ct {w w0 : World} {g : Nat} {n most settles : Int} {s : St} {L : List HProp} (hT : TabAt w0) (hg : GOk n most s) (H : Holds w (base w0::Gh g n most s::L)) :
    CT Tryz.prog 7 [.pointer (some ⟨g,0,none⟩),.int .i64 settles] w fun u w'=>u.oneCell' = true ∧ Holds w' (arr 3 (Value.int .i64) u (rankF n settles (cG s))::base w0::Gh g n most s::L):=by
  have n1:=hg.n1
  have n2:=hg.n2
  have hG:=cG_good hg
  refine CT.enter (N:=65) Tryz.func7 rfl rfl rfl rfl ?_
  refine W.seq (fun K0 hK0=>?_)
  refine W.region ?_
  refine O.boxP rfl (fun b3 w H=>?_)
  refine O.ex (Ex.assign rfl) rfl ?_
  refine O.nil ?_
  refine hK0 _ _ _ ?_
  refine W.seq (fun K1 hK1=>?_)
  refine W.region ?_
  refine O.ex (Ex.move rfl) rfl ?_
  refine O.callF Tryz.call21 rfl rfl (CT.mono (mof_ct hg (Holds.to (M:=Gh g n most s::_) (by assumption))) ?_)
  rintro _ w ⟨m,rfl,H⟩
  refine O.allocP Tryz.zeroValue45 (fun b5 w H=>?_)
  first|refine O.storeP Tryz.sizeOf45 rfl rfl (fun w H=>?_)|refine O.storeR Tryz.sizeOf45 rfl rfl (fun w H=>?_)|refine O.storeM Tryz.sizeOf45 rfl rfl (fun w H=>?_)|refine O.storeVc Tryz.sizeOf45 rfl rfl (fun w H=>?_)|refine O.storeQ Tryz.sizeOf45 rfl rfl (fun w H=>?_)
  refine O.nil ?_
  refine hK1 _ _ _ ?_
  refine W.seq (fun K2 hK2=>?_)
  refine W.region ?_
  refine O.ex (by first|exact Ex.loadRN Tryz.isAgg45 rfl|exact Ex.loadP Tryz.isAgg45 rfl|exact Ex.loadQ Tryz.isAgg45 rfl|exact Ex.loadMh Tryz.isAgg45 rfl|exact Ex.loadR Tryz.isAgg45 rfl|exact Ex.loadInF Tryz.isAgg45 rfl (Holds.to (by assumption))|exact Ex.loadIn1 Tryz.isAgg45 rfl (Holds.to (by assumption))|exact Ex.loadM Tryz.isAgg45 rfl|exact Ex.loadVc Tryz.isAgg45 rfl) rfl ?_
  refine O.callF Tryz.call22 rfl rfl (CT.mono (vertices_ct (m:=m) (n:=n) (c:=cG s) (Holds.to (M:=Mh m n (cG s)::_) (by assumption))) ?_)
  rintro _ w ⟨rfl,H⟩
  refine O.makeR (0 : Int) (e:=Value.int .i64) (bt:=8) Tryz.runUnderlying28 Tryz.sizeOf3 Tryz.zeroValue3 Tryz.typeInfo3 rfl rfl rfl (fun s19 w hs19 H=>?_)
  refine O.ex (Ex.assign rfl) rfl ?_
  refine O.nil ?_
  refine hK2 _ _ _ ?_
  refine W.seq (fun K3 hK3=>?_)
  refine W.region ?_
  refine O.ex (by first|exact Ex.loadRN Tryz.isAgg45 rfl|exact Ex.loadP Tryz.isAgg45 rfl|exact Ex.loadQ Tryz.isAgg45 rfl|exact Ex.loadMh Tryz.isAgg45 rfl|exact Ex.loadR Tryz.isAgg45 rfl|exact Ex.loadInF Tryz.isAgg45 rfl (Holds.to (by assumption))|exact Ex.loadIn1 Tryz.isAgg45 rfl (Holds.to (by assumption))|exact Ex.loadM Tryz.isAgg45 rfl|exact Ex.loadVc Tryz.isAgg45 rfl) rfl ?_
  refine O.callF Tryz.call22 rfl rfl (CT.mono (vertices_ct (m:=m) (n:=n) (c:=cG s) (Holds.to (M:=Mh m n (cG s)::_) (by assumption))) ?_)
  rintro _ w ⟨rfl,H⟩
  refine O.makeR (0 : Int) (e:=Value.int .i64) (bt:=8) Tryz.runUnderlying28 Tryz.sizeOf3 Tryz.zeroValue3 Tryz.typeInfo3 rfl rfl rfl (fun s22 w hs22 H=>?_)
  refine O.allocP Tryz.zeroValue28 (fun b7 w H=>?_)
  first|refine O.storeP Tryz.sizeOf28 rfl rfl (fun w H=>?_)|refine O.storeR Tryz.sizeOf28 rfl rfl (fun w H=>?_)|refine O.storeM Tryz.sizeOf28 rfl rfl (fun w H=>?_)|refine O.storeVc Tryz.sizeOf28 rfl rfl (fun w H=>?_)|refine O.storeQ Tryz.sizeOf28 rfl rfl (fun w H=>?_)
  refine O.nil ?_
  refine hK3 _ _ _ ?_
  refine W.seq (fun K4 hK4=>?_)
  refine W.region ?_
  refine O.ex (by first|exact Ex.loadRN Tryz.isAgg45 rfl|exact Ex.loadP Tryz.isAgg45 rfl|exact Ex.loadQ Tryz.isAgg45 rfl|exact Ex.loadMh Tryz.isAgg45 rfl|exact Ex.loadR Tryz.isAgg45 rfl|exact Ex.loadInF Tryz.isAgg45 rfl (Holds.to (by assumption))|exact Ex.loadIn1 Tryz.isAgg45 rfl (Holds.to (by assumption))|exact Ex.loadM Tryz.isAgg45 rfl|exact Ex.loadVc Tryz.isAgg45 rfl) rfl ?_
  refine O.callF Tryz.call22 rfl rfl (CT.mono (vertices_ct (m:=m) (n:=n) (c:=cG s) (Holds.to (M:=Mh m n (cG s)::_) (by assumption))) ?_)
  rintro _ w ⟨rfl,H⟩
  refine O.callF Tryz.call23 rfl rfl (CT.mono (below_ct (n:=n) (Holds.to (by assumption))) ?_)
  rintro _ w ⟨rfl,H⟩
  refine O.ex (Ex.assign rfl) rfl ?_
  refine O.nil ?_
  refine hK4 _ _ _ ?_
  refine W.seq (fun K5 hK5=>?_)
  refine W.seq (fun K6 hK6=>?_)
  refine W.region ?_
  replace H : Holds w (arr 3 (Value.int .i64) s19 (List.replicate n.toNat 0)::arr 3 (Value.int .i64) s22 (List.replicate n.toNat 0)::base w0::Gh g n most s::pt b3 (.cells #[.int .i64 settles] 3 (0,0))::pt b5 (.cells #[.pointer (some ⟨m,0,none⟩)] 45 (0,0))::pt b7 (.cells #[s22] 28 (0,0))::Mh m n (cG s)::L):=Holds.to H
  refine O.ex (Ex.move rfl) rfl ?_
  refine O.ex (by first|exact Ex.lenR Tryz.runUnderlying28 rfl|exact Ex.lenIn Tryz.runUnderlying28 rfl|exact Ex.lenL Tryz.runUnderlying28 rfl|exact Ex.len rfl Tryz.runUnderlying28 rfl) rfl ?_
  refine O.ex (Ex.move rfl) rfl ?_
  refine O.nil ?_
  refine hK6 _ _ _ ?_
  refine W.block ?_
  obtain ⟨rr,hrr⟩ : ∃ rr : Nat → RkS,rr = rk n settles (cG s):=⟨_,rfl⟩
  have hok : ∀ r,RkOk n r (rr r):=fun r=>by rw [hrr]; exact rk_ok hG r
  have hl0 : (((List.replicate n.toNat (0 : Int)).length : Nat) : Int) = n:=by rw [List.length_replicate]; omega
  rw [hl0]
  have H0 : Holds w (marks []::base w0::Gh g n most s::pt b3 (.cells #[.int .i64 settles] 3 (0,0))::pt b5 (.cells #[.pointer (some ⟨m,0,none⟩)] 45 (0,0))::pt b7 (.cells #[s22] 28 (0,0))::Mh m n (rr 0).c::arr 3 (Value.int .i64) s22 (rr 0).gone::arr 3 (Value.int .i64) s19 (rr 0).out::L):=by
    rw [hrr]; exact marks_nil (Holds.to H)
  have hleft : (belN n : Nat) = (rr 0).left:=by rw [hrr]; rfl
  rw [hleft]
  refine W.loop (σ:=Nat) (fun r=>[(5,.pointer (some ⟨b5,0,none⟩)),(3,.pointer (some ⟨b3,0,none⟩)),(6,s19),(7,.pointer (some ⟨b7,0,none⟩)),(8,.int .u64 ((rr r).left : Nat)),(27,.int .i64 n),(28,.int .i64 (r : Int))]) (fun r ds w=>(r : Int) ≤ n ∧ Holds w (marks ds::base w0::Gh g n most s::pt b3 (.cells #[.int .i64 settles] 3 (0,0))::pt b5 (.cells #[.pointer (some ⟨m,0,none⟩)] 45 (0,0))::pt b7 (.cells #[s22] 28 (0,0))::Mh m n (rr r).c::arr 3 (Value.int .i64) s22 (rr r).gone::arr 3 (Value.int .i64) s19 (rr r).out::L)) (fun r=>n.toNat - r) 0 ⟨rfl,rfl,rfl,rfl,rfl,rfl,rfl,trivial⟩ ⟨by omega,H0⟩ ?_
  clear H H0
  rintro r ds w ⟨hr,H⟩
  refine W.seq (fun K7 hK7=>?_)
  refine W.region ?_
  refine O.ex (Ex.lss rfl rfl) rfl ?_
  refine O.nil ?_
  refine hK7 _ _ _ ?_
  refine W.seq (fun K8 hK8=>?_)
  first|refine W.cond_p rfl (fun hlt=>?_) (fun hge=>?_)|refine W.cond_b rfl (fun hlt=>?_) (fun hge=>?_)
  · refine W.skip ?_
    refine hK8 _ _ _ ?_
    refine W.seq (fun K9 hK9=>?_)
    refine W.block ?_
    refine W.seq (fun K10 hK10=>?_)
    refine W.region ?_
    have hrn : (r : Int) < n:=hlt
    obtain ⟨x,hx⟩ : ∃ x,x = rr r:=⟨_,rfl⟩
    have hx1 : rr (r + 1) = rkStep n settles r x:=by rw [hx,hrr]; rfl
    have ok : RkOk n r x:=hx ▸ hok r
    rw [← hx] at H ⊢
    obtain ⟨v,hv⟩ : ∃ v,v = pickR n settles x:=⟨_,rfl⟩
    have hvn : v < n.toNat:=hv ▸ pick_lt ok
    have hvV : lsV (ls (costR n settles x.c x.gone) (lst x.left)) = v:=hv.symm
    have v0 : (0 : Int) ≤ (v : Int):=by omega
    have vo : (v : Int) < ((x.out.length : Nat) : Int):=by rw [ok.ol]; omega
    have vt : ((v : Nat) : Int).toNat = v:=Int.toNat_natCast v
    have hSl:=arS_lt x.c (v : Int) n.toNat 2
    obtain ⟨S,hS⟩ : ∃ S,S = lst (arS x.c (v : Int) n.toNat 2):=⟨_,rfl⟩
    have hSn : S.Nodup:=hS ▸ lst_nodup _
    refine O.ex (Ex.move rfl) rfl ?_
    refine O.ex (Ex.assign rfl) rfl ?_
    refine O.nil ?_
    refine hK10 _ _ _ ?_
    refine W.seq (fun K11 hK11=>?_)
    refine W.region ?_
    refine O.ex (Ex.move rfl) rfl ?_
    refine O.callF Tryz.call25 rfl rfl (CT.mono (all_ct (s:=x.left) (Holds.to (by assumption))) ?_)
    rintro _ w ⟨cB,rfl,H⟩
    replace H : Holds w (base w0::capB cB x.left::pt b5 (.cells #[.pointer (some ⟨m,0,none⟩)] 45 (0,0))::pt b3 (.cells #[.int .i64 settles] 3 (0,0))::pt b7 (.cells #[s22] 28 (0,0))::Mh m n x.c::arr 3 (Value.int .i64) s22 x.gone::marks ds::Gh g n most s::arr 3 (Value.int .i64) s19 x.out::L):=Holds.to H
    refine O.ex (Ex.makeFunc rfl rfl) rfl ?_
    refine O.callF Tryz.call24 rfl rfl (CT.mono (least_ct (w0:=w0) (cB:=cB) (s:=x.left) (cost:=costR n settles x.c x.gone) hT ok.lt rfl (fun i w Y hi H=>VT.mono (VT.fn (p:=#[]) (q:=#[.pointer (some ⟨b5,0,none⟩),.pointer (some ⟨b3,0,none⟩),.pointer (some ⟨b7,0,none⟩)]) (args:=[.int .i64 (i : Int)]) Tryz.call26 (rank1_ct (b5:=b5) (b3:=b3) (b7:=b7) (m:=m) (settles:=settles) (gv:=s22) (v:=i) ok.good (ok.sub i hi) ok.gl (fun q=>by have:=ok.gb q; omega) (Holds.to (M:=pt b5 (.cells #[.pointer (some ⟨m,0,none⟩)] 45 (0,0))::pt b3 (.cells #[.int .i64 settles] 3 (0,0))::pt b7 (.cells #[s22] 28 (0,0))::Mh m n x.c::arr 3 (Value.int .i64) s22 x.gone::Y::marks ds::Gh g n most s::arr 3 (Value.int .i64) s19 x.out::L) H))) (fun u w' h=>⟨h.1,Holds.to h.2⟩)) H) ?_)
    rintro _ w ⟨rfl,H⟩
    rw [hvV]
    refine O.ex (Ex.move rfl) rfl ?_
    refine O.ex (Ex.extract rfl rfl) rfl ?_
    refine O.ex (Ex.extract rfl rfl) rfl ?_
    refine O.ex (Ex.assign rfl) rfl ?_
    refine O.ex (Ex.assign rfl) rfl ?_
    refine O.nil ?_
    refine hK11 _ _ _ ?_
    refine W.seq (fun K12 hK12=>?_)
    refine W.region ?_
    refine O.ex (Ex.move rfl) rfl ?_
    refine O.ex (Ex.move rfl) rfl ?_
    refine O.ex (Ex.move rfl) rfl ?_
    refine O.ex (by first|exact Ex.idxR Tryz.runUnderlying28 Tryz.sizeOf3 rfl rfl|exact Ex.idxIn Tryz.runUnderlying28 Tryz.sizeOf3 rfl rfl|exact Ex.idxS Tryz.runUnderlying28 Tryz.sizeOf3 rfl rfl|exact Ex.idx Tryz.runUnderlying28 Tryz.sizeOf3 rfl rfl (by omega) (by omega)) rfl ?_
    first|refine O.storeP Tryz.sizeOf3 rfl rfl (fun w H=>?_)|refine O.storeR Tryz.sizeOf3 rfl rfl (fun w H=>?_)|refine O.storeM Tryz.sizeOf3 rfl rfl (fun w H=>?_)|refine O.storeVc Tryz.sizeOf3 rfl rfl (fun w H=>?_)|refine O.storeQ Tryz.sizeOf3 rfl rfl (fun w H=>?_)
    rw [vt] at H
    refine O.nil ?_
    refine hK12 _ _ _ ?_
    refine W.seq (fun K13 hK13=>?_)
    refine W.region ?_
    refine O.ex (Ex.move rfl) rfl ?_
    refine O.ex (Ex.move rfl) rfl ?_
    refine O.callF Tryz.call27 rfl rfl (CT.mono (without_ct (s:=x.left) (x:=(v : Int)) (Holds.to (by assumption)) ok.lt) ?_)
    rintro _ w ⟨rfl,H⟩
    refine O.ex (Ex.assign rfl) rfl ?_
    refine O.nil ?_
    refine hK13 _ _ _ ?_
    refine W.seq (fun K14 hK14=>?_)
    refine W.region ?_
    refine O.ex (by first|exact Ex.loadRN Tryz.isAgg45 rfl|exact Ex.loadP Tryz.isAgg45 rfl|exact Ex.loadQ Tryz.isAgg45 rfl|exact Ex.loadMh Tryz.isAgg45 rfl|exact Ex.loadR Tryz.isAgg45 rfl|exact Ex.loadInF Tryz.isAgg45 rfl (Holds.to (by assumption))|exact Ex.loadIn1 Tryz.isAgg45 rfl (Holds.to (by assumption))|exact Ex.loadM Tryz.isAgg45 rfl|exact Ex.loadVc Tryz.isAgg45 rfl) rfl ?_
    refine O.ex (Ex.move rfl) rfl ?_
    refine O.callF Tryz.call28 rfl rfl (CT.mono (around_ct (v:=(v : Int)) ok.good (Holds.to (M:=Mh m n x.c::_) (by assumption))) ?_)
    rintro _ w ⟨rfl,H⟩
    refine O.ex (Ex.move rfl) rfl ?_
    refine O.ex (Ex.extract rfl rfl) rfl ?_
    refine O.ex (Ex.extract rfl rfl) rfl ?_
    refine O.ex (Ex.assign rfl) rfl ?_
    refine O.ex (Ex.assign rfl) rfl ?_
    refine O.nil ?_
    refine hK14 _ _ _ ?_
    refine W.seq (fun K15 hK15=>?_)
    refine W.seq (fun K16 hK16=>?_)
    refine W.region ?_
    refine O.ex (Ex.move rfl) rfl ?_
    refine O.callF Tryz.call25 rfl rfl (CT.mono (all_ct (s:=arS x.c (v : Int) n.toNat 2) (Holds.to (by assumption))) ?_)
    rintro _ w ⟨cC,rfl,H⟩
    refine O.nil ?_
    refine hK16 _ _ _ ?_
    refine W.block ?_
    have H1 : Holds w (base w0::capB cC (arS x.c (v : Int) n.toNat 2)::(marks ds::pt b5 (.cells #[.pointer (some ⟨m,0,none⟩)] 45 (0,0))::pt b3 (.cells #[.int .i64 settles] 3 (0,0))::pt b7 (.cells #[s22] 28 (0,0))::Mh m n x.c::arr 3 (Value.int .i64) s22 (bumpP S x.gone 0)::Gh g n most s::arr 3 (Value.int .i64) s19 (x.out.set v (r : Int))::L)):=by rw [bumpP_zero]; exact Holds.to H
    clear H
    refine W.rangeFunc rfl Tryz.call54 H1 ?_
    rintro LR kk D w hLR H
    refine CT.mono (all1_ct (w0:=w0) (c:=cC) (s:=arS x.c (v : Int) n.toNat 2) (φ:=fun _=>True) (S:=fun _=>False) (J:=fun j=>LR .ready none::dblk D::marks ds::pt b5 (.cells #[.pointer (some ⟨m,0,none⟩)] 45 (0,0))::pt b3 (.cells #[.int .i64 settles] 3 (0,0))::pt b7 (.cells #[s22] 28 (0,0))::Mh m n x.c::arr 3 (Value.int .i64) s22 (bumpP S x.gone j)::Gh g n most s::arr 3 (Value.int .i64) s19 (x.out.set v (r : Int))::L) hT hSl trivial (Holds.to (by assumption)) ?_) ?_
    · intro j w hj _ H
      rw [← hS] at hj ⊢
      obtain ⟨e,he⟩ : ∃ e,e = S.getD j default:=⟨_,rfl⟩
      have hem : e ∈ S:=by rw [he]; exact lst_getD_mem hj
      have hen : e < n.toNat:=ar_lt ok.good (by rw [← hS]; exact hem)
      have heg : e < x.gone.length:=by rw [ok.gl]; exact hen
      have hbl : (bumpP S x.gone j).length = x.gone.length:=bump_len _ _
      have e0 : (0 : Int) ≤ (e : Int):=by omega
      have e1 : (e : Int) < (((bumpP S x.gone j).length : Nat) : Int):=by rw [hbl]; omega
      have et : ((e : Nat) : Int).toNat = e:=Int.toNat_natCast e
      have hst:=bumpP_succ (gone:=x.gone) hSn hj (by rw [← he]; exact heg)
      rw [← he] at hst ⊢
      have hbv:=bumpP_get S x.gone j e heg
      have hgb:=ok.gb e
      refine VT.round hLR (Holds.to (by assumption)) rfl rfl ?_
      refine W.region ?_
      refine O.ex (Ex.assign rfl) rfl ?_
      refine O.nil ?_
      refine ⟨_,Holds.to (by assumption),fun w H=>?_⟩
      refine W.block ?_
      refine W.region ?_
      refine O.ex (v:=s22) (Ex.loadP Tryz.isAgg28 rfl (Holds.cell (Holds.to (M:=pt b7 (.cells #[s22] 28 (0,0))::[]) H) rfl)) rfl ?_
      refine O.ex (Ex.move rfl) rfl ?_
      replace H:=Holds.to (M:=arr 3 (Value.int .i64) s22 (bumpP S x.gone j)::_) H
      refine O.ex (by first|exact Ex.idxR Tryz.runUnderlying28 Tryz.sizeOf3 rfl rfl|exact Ex.idxIn Tryz.runUnderlying28 Tryz.sizeOf3 rfl rfl|exact Ex.idxS Tryz.runUnderlying28 Tryz.sizeOf3 rfl rfl|exact Ex.idx Tryz.runUnderlying28 Tryz.sizeOf3 rfl rfl (by omega) (by omega)) rfl ?_
      refine O.ex (Ex.cast (v:=.int .i64 ((bumpP S x.gone j).getD e default)) (Ex.loadR (xs:=bumpP S x.gone j) Tryz.isAgg3 rfl) (by rw [et])) rfl ?_
      refine O.ex (by first|exact Ex.addI rfl rfl|exact Ex.add rfl rfl rfl) rfl ?_
      refine O.ex (by first|exact Ex.idxR Tryz.runUnderlying28 Tryz.sizeOf3 rfl rfl|exact Ex.idxIn Tryz.runUnderlying28 Tryz.sizeOf3 rfl rfl|exact Ex.idxS Tryz.runUnderlying28 Tryz.sizeOf3 rfl rfl|exact Ex.idx Tryz.runUnderlying28 Tryz.sizeOf3 rfl rfl (by omega) (by omega)) rfl ?_
      first|refine O.storeP Tryz.sizeOf3 rfl rfl (fun w H=>?_)|refine O.storeR Tryz.sizeOf3 rfl rfl (fun w H=>?_)|refine O.storeM Tryz.sizeOf3 rfl rfl (fun w H=>?_)|refine O.storeVc Tryz.sizeOf3 rfl rfl (fun w H=>?_)|refine O.storeQ Tryz.sizeOf3 rfl rfl (fun w H=>?_)
      refine O.nil ?_
      rw [et,hst] at H
      exact ⟨_,Holds.to (by assumption),fun w H=>.inl ⟨rfl,trivial,Holds.to (by assumption)⟩⟩
    rintro _ w (⟨_,H⟩|hf)
    rotate_left
    · exact hf.elim
    rw [← hS,bumpP_all] at H
    refine rangeEnd (Holds.to (by assumption)) (by nofun) (fun w H=>?_)
    have H:=marks_push (Holds.to (M:=dblk D::marks ds::base w0::pt b5 (.cells #[.pointer (some ⟨m,0,none⟩)] 45 (0,0))::pt b3 (.cells #[.int .i64 settles] 3 (0,0))::pt b7 (.cells #[s22] 28 (0,0))::Mh m n x.c::arr 3 (Value.int .i64) s22 (bump S x.gone)::Gh g n most s::arr 3 (Value.int .i64) s19 (x.out.set v (r : Int))::L) (by assumption))
    refine hK15 _ _ _ ?_
    refine W.region ?_
    refine O.ex (by first|exact Ex.loadRN Tryz.isAgg45 rfl|exact Ex.loadP Tryz.isAgg45 rfl|exact Ex.loadQ Tryz.isAgg45 rfl|exact Ex.loadMh Tryz.isAgg45 rfl|exact Ex.loadR Tryz.isAgg45 rfl|exact Ex.loadInF Tryz.isAgg45 rfl (Holds.to (by assumption))|exact Ex.loadIn1 Tryz.isAgg45 rfl (Holds.to (by assumption))|exact Ex.loadM Tryz.isAgg45 rfl|exact Ex.loadVc Tryz.isAgg45 rfl) rfl ?_
    refine O.ex (Ex.move rfl) rfl ?_
    refine O.callF Tryz.call29 rfl rfl (CT.mono (contract_ct (m:=m) (v:=(v : Int)) ok.good (Holds.to (M:=Mh m n x.c::_) (by assumption))) ?_)
    rintro _ w (⟨-,rfl,H⟩|⟨hno,-⟩)
    rotate_left
    · exact absurd ⟨v0,by omega⟩ hno
    refine O.nil ?_
    refine hK9 _ _ _ ?_
    refine W.region ?_
    refine O.ex (by first|exact Ex.addI rfl rfl|exact Ex.add rfl rfl rfl) rfl ?_
    refine O.ex (Ex.move rfl) rfl ?_
    refine O.nil ?_
    have eS : rkStep n settles r x = ⟨contrC n x.c (v : Nat),x.left &&& (18446744073709551615 - bitN ((v : Nat) : Int)),bump S x.gone,x.out.set v (r : Int)⟩:=by unfold rkStep; rw [← hv,← hS]
    exact ⟨r + 1,⟨rfl,rfl,rfl,rfl,by rw [hx1,eS]; rfl,rfl,rfl,trivial⟩,⟨by omega,by rw [hx1,eS]; exact Holds.to (by assumption)⟩,by omega⟩
  · refine W.exit ?_
    refine hK5 _ _ _ ?_
    refine W.seq (fun K17 hK17=>?_)
    refine W.region ?_
    refine O.ex (Ex.move rfl) rfl ?_
    refine O.ex (Ex.assign rfl) rfl ?_
    refine O.nil ?_
    refine hK17 _ _ _ ?_
    refine W.ret ?_
    try dsimp only [thenQ,blockQ,retQ]
    have hrn : r = n.toNat:=by omega
    have e : (rr r).out = rankF n settles (cG s):=by rw [hrr,hrn]; rfl
    rw [e] at H
    have hv1:=arr_one (Holds.to (M:=arr 3 (Value.int .i64) s19 (rankF n settles (cG s))::[]) H)
    refine retD_gen (L:=arr 3 (Value.int .i64) s19 (rankF n settles (cG s))::base w0::Gh g n most s::L) (Holds.to (by assumption)) (fun w H=>?_)
    exact ⟨_,⟨_,_,rfl,rfl,rfl⟩,hv1,H⟩
end Go.Proofs.YtblapiiinbppiaaGreatDoor
