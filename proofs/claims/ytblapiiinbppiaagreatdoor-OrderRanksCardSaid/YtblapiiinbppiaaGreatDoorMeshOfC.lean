import Derived.Test.YtblapiiinbppiaaGreatDoorCostG
import Derived.Test.YtblapiiinbppiaaGreatDoorMeshAll
import Derived.Test.YtblapiiinbppiaaGreatDoorRefAll
namespace Go.Proofs.YtblapiiinbppiaaGreatDoor
open Go.Rr Go Gr
set_option linter.unusedVariables false
set_option linter.unusedSimpArgs false
set_option maxHeartbeats 1000000 in
theorem mof_ct {w : World} {g : Nat} {n most : Int} {s : St} {L : List HProp} (hg : GOk n most s) (H : Holds w (Gh g n most s::L)) :
    CT Tryz.prog 21 [.pointer (some ⟨g,0,none⟩)] w fun x w'=>∃ m,x = .pointer (some ⟨m,0,none⟩) ∧ Holds w' (Mh m n (cG s)::Gh g n most s::L):=by
  have n1:=hg.n1
  have n2:=hg.n2
  have hG:=cG_good hg
  refine CT.enter (N:=48) Tryz.func21 rfl rfl rfl rfl ?_
  refine W.seq (fun K0 hK0=>?_)
  refine W.region ?_
  refine O.ex (Ex.assign rfl) rfl ?_
  refine O.nil ?_
  refine hK0 _ _ _ ?_
  refine W.seq (fun K1 hK1=>?_)
  refine W.region ?_
  refine O.ex (Ex.move rfl) rfl ?_
  refine O.callF Tryz.call51 rfl rfl (CT.mono (gvertices_ct (g:=g) (n:=n) (most:=most) (s:=s) (by omega) (Holds.to (by assumption))) ?_)
  rintro _ w ⟨rfl,H⟩
  refine O.ex (Ex.buildM Tryz.runUnderlying93 zM (fun w=>by simp [Tryz.sizeOf3,Tryz.sizeOf91]) rfl rfl) rfl ?_
  refine O.boxM rfl (fun b11 w H=>?_)
  refine O.ex (Ex.assign rfl) rfl ?_
  refine O.nil ?_
  refine hK1 _ _ _ ?_
  refine W.seq (fun K2 hK2=>?_)
  refine W.seq (fun K3 hK3=>?_)
  refine W.region ?_
  refine O.ex (Ex.move rfl) rfl ?_
  refine O.ex (by first|exact Ex.nilPtr rfl|exact Ex.nilFunc rfl|exact Ex.nilYield rfl) rfl ?_
  refine O.ex (by first|exact Ex.field0 fld93_0 rfl|exact Ex.field fld93_0 rfl|exact Ex.fieldS fld93_0 rfl|exact Ex.fieldIn fld93_0 rfl) rfl ?_
  refine O.ex (by first|exact Ex.loadRN Tryz.isAgg3 rfl|exact Ex.loadMh Tryz.isAgg3 rfl|exact Ex.loadInF Tryz.isAgg3 rfl (Holds.to (by assumption))|exact Ex.loadP Tryz.isAgg3 rfl|exact Ex.loadM Tryz.isAgg3 rfl|exact Ex.loadIn1 Tryz.isAgg3 rfl (Holds.to (by assumption))|exact Ex.loadVc Tryz.isAgg3 rfl|exact Ex.loadR Tryz.isAgg3 rfl|exact Ex.loadQ Tryz.isAgg3 rfl) rfl ?_
  refine O.ex (Ex.move rfl) rfl ?_
  refine O.nil ?_
  refine hK3 _ _ _ ?_
  refine W.block ?_
  have H : Holds w (mtx b11 93 [.int .i64 n] (fun a b=>4611686018427387906 - ofM s ((0 : Nat) : Int) 0 a b)::Gh g n most s::L):=by
    rw [mtx_congr (D:=fun a b=>4611686018427387906 - ofM s ((0 : Nat) : Int) 0 a b) (D':=fun _ _=>0) (fun a b h0 _ h2 _=>by rw [show ((0 : Nat) : Int) = 0 from rfl,ofM_zero h0 h2]; rfl)]; exact Holds.to H
  refine W.loop (σ:=Nat) (fun u=>[(0,.pointer (some ⟨g,0,none⟩)),(3,.pointer (some ⟨b11,0,none⟩)),(15,.int .i64 n),(16,.int .i64 (u : Int))]) (fun u ds w=>ds = [] ∧ (u : Int) ≤ n ∧ Holds w (mtx b11 93 [.int .i64 n] (fun a b=>4611686018427387906 - ofM s (u : Int) 0 a b)::Gh g n most s::L)) (fun u=>n.toNat - u) 0 ⟨rfl,rfl,rfl,rfl,trivial⟩ ⟨rfl,by omega,H⟩ ?_
  clear H
  rintro u _ w ⟨rfl,hu,H⟩
  refine W.seq (fun K4 hK4=>?_)
  refine W.region ?_
  refine O.ex (Ex.lss rfl rfl) rfl ?_
  refine O.nil ?_
  refine hK4 _ _ _ ?_
  refine W.seq (fun K5 hK5=>?_)
  first|refine W.cond_p rfl (fun hlt=>?_) (fun hge=>?_)|refine W.cond_b rfl (fun hlt=>?_) (fun hge=>?_)
  · refine W.skip ?_
    refine hK5 _ _ _ ?_
    refine W.seq (fun K6 hK6=>?_)
    refine W.block ?_
    refine W.seq (fun K7 hK7=>?_)
    refine W.region ?_
    refine O.ex (Ex.move rfl) rfl ?_
    refine O.ex (Ex.assign rfl) rfl ?_
    refine O.nil ?_
    refine hK7 _ _ _ ?_
    refine W.seq (fun K8 hK8=>?_)
    refine W.region ?_
    refine O.ex (Ex.move rfl) rfl ?_
    refine O.ex (by first|exact Ex.nilPtr rfl|exact Ex.nilFunc rfl|exact Ex.nilYield rfl) rfl ?_
    refine O.ex (by first|exact Ex.field0 fld93_0 rfl|exact Ex.field fld93_0 rfl|exact Ex.fieldS fld93_0 rfl|exact Ex.fieldIn fld93_0 rfl) rfl ?_
    refine O.ex (by first|exact Ex.loadRN Tryz.isAgg3 rfl|exact Ex.loadMh Tryz.isAgg3 rfl|exact Ex.loadInF Tryz.isAgg3 rfl (Holds.to (by assumption))|exact Ex.loadP Tryz.isAgg3 rfl|exact Ex.loadM Tryz.isAgg3 rfl|exact Ex.loadIn1 Tryz.isAgg3 rfl (Holds.to (by assumption))|exact Ex.loadVc Tryz.isAgg3 rfl|exact Ex.loadR Tryz.isAgg3 rfl|exact Ex.loadQ Tryz.isAgg3 rfl) rfl ?_
    refine O.ex (Ex.move rfl) rfl ?_
    refine O.nil ?_
    refine hK8 _ _ _ ?_
    refine W.block ?_
    refine W.loop (σ:=Nat) (fun v=>[(0,.pointer (some ⟨g,0,none⟩)),(3,.pointer (some ⟨b11,0,none⟩)),(4,.int .i64 (u : Int)),(15,.int .i64 n),(16,.int .i64 (u : Int)),(22,.int .i64 n),(23,.int .i64 (v : Int))]) (fun v ds w=>ds = [] ∧ (v : Int) ≤ n ∧ Holds w (mtx b11 93 [.int .i64 n] (fun a b=>4611686018427387906 - ofM s (u : Int) (v : Int) a b)::Gh g n most s::L)) (fun v=>n.toNat - v) 0 ⟨rfl,rfl,rfl,rfl,rfl,rfl,rfl,trivial⟩ ⟨rfl,by omega,Holds.to (by assumption)⟩ ?_
    clear H
    rintro v _ w ⟨rfl,hv,H⟩
    refine W.seq (fun K9 hK9=>?_)
    refine W.region ?_
    refine O.ex (Ex.lss rfl rfl) rfl ?_
    refine O.nil ?_
    refine hK9 _ _ _ ?_
    refine W.seq (fun K10 hK10=>?_)
    first|refine W.cond_p rfl (fun hlt2=>?_) (fun hge2=>?_)|refine W.cond_b rfl (fun hlt2=>?_) (fun hge2=>?_)
    · refine W.skip ?_
      refine hK10 _ _ _ ?_
      refine W.seq (fun K11 hK11=>?_)
      refine W.block ?_
      refine W.seq (fun K12 hK12=>?_)
      refine W.region ?_
      have hun : (u : Int) < n:=hlt
      have hvn : (v : Int) < n:=hlt2
      have u0 : (0 : Int) ≤ (u : Int):=by omega
      have v0 : (0 : Int) ≤ (v : Int):=by omega
      have u24 : (u : Int) < 24:=by omega
      have v24 : (v : Int) < 24:=by omega
      refine O.ex (Ex.move rfl) rfl ?_
      refine O.ex (Ex.assign rfl) rfl ?_
      refine O.nil ?_
      refine hK12 _ _ _ ?_
      refine W.seq (fun K13 hK13=>?_)
      refine W.region ?_
      refine O.ex (Ex.move rfl) rfl ?_
      refine O.ex (Ex.move rfl) rfl ?_
      refine O.ex (Ex.neqI rfl rfl) rfl ?_
      refine O.nil ?_
      refine hK13 _ _ _ ?_
      first|refine W.cond_p rfl (fun hne=>?_) (fun heq=>?_)|refine W.cond_b rfl (fun hne=>?_) (fun heq=>?_)
      · refine W.seq (fun K14 hK14=>?_)
        refine W.region ?_
        refine O.ex (Ex.move rfl) rfl ?_
        refine O.ex (Ex.move rfl) rfl ?_
        refine O.ex (Ex.move rfl) rfl ?_
        refine O.callF Tryz.call52 rfl rfl (CT.mono (gbest_ct (g:=g) hg (Holds.to (M:=Gh g n most s::_) (by assumption))) ?_)
        rintro _ w ⟨rfl,H⟩
        have hne' : ¬ (u : Int) = (v : Int):=hne
        have hb : (best s (u : Int) (v : Int)).1 = cG s (u : Int) (v : Int):=(if_neg hne').symm
        rw [hb]
        have b1:=hG.lo (u : Int) (v : Int)
        have b2:=hG.hi (u : Int) (v : Int)
        replace H:=Holds.to (M:=mtx b11 93 [.int .i64 n] (fun a b=>4611686018427387906 - ofM s (u : Int) (v : Int) a b)::Gh g n most s::L) H
        refine O.ex (Ex.move rfl) rfl ?_
        refine O.ex (Ex.extract rfl rfl) rfl ?_
        refine O.ex (Ex.extract rfl rfl) rfl ?_
        refine O.ex (Ex.assign rfl) rfl ?_
        refine O.ex (Ex.assign rfl) rfl ?_
        refine O.nil ?_
        refine hK14 _ _ _ ?_
        refine W.region ?_
        refine O.ex (Ex.move rfl) rfl ?_
        refine O.ex (Ex.move rfl) rfl ?_
        refine O.ex (Ex.move rfl) rfl ?_
        refine O.ex (Ex.move rfl) rfl ?_
        refine O.ex (by first|exact Ex.subI rfl rfl|exact Ex.sub rfl rfl rfl) rfl ?_
        refine O.ex (by first|exact Ex.nilPtr rfl|exact Ex.nilFunc rfl|exact Ex.nilYield rfl) rfl ?_
        refine O.ex (by first|exact Ex.field0 fld93_1 rfl|exact Ex.field fld93_1 rfl|exact Ex.fieldS fld93_1 rfl|exact Ex.fieldIn fld93_1 rfl) rfl ?_
        refine O.ex (Ex.idxArr Tryz.runUnderlying91 Tryz.sizeOf89 rfl rfl) rfl ?_
        refine O.ex (Ex.idxArr Tryz.runUnderlying89 Tryz.sizeOf3 rfl rfl) rfl ?_
        first|refine O.storeP Tryz.sizeOf3 rfl rfl (fun w H=>?_)|refine O.storeR Tryz.sizeOf3 rfl rfl (fun w H=>?_)|refine O.storeM Tryz.sizeOf3 rfl rfl (fun w H=>?_)|refine O.storeVc Tryz.sizeOf3 rfl rfl (fun w H=>?_)|refine O.storeQ Tryz.sizeOf3 rfl rfl (fun w H=>?_)
        refine O.nil ?_
        refine hK11 _ _ _ ?_
        refine W.region ?_
        refine O.ex (by first|exact Ex.addI rfl rfl|exact Ex.add rfl rfl rfl) rfl ?_
        refine O.ex (Ex.move rfl) rfl ?_
        refine O.nil ?_
        first
        | (have hne2 : ¬ (u : Int) = (v : Int):=hne
           have H : Holds w (mtx b11 93 [.int .i64 n] (fun a b=>4611686018427387906 - ofM s (u : Int) ((v + 1 : Nat) : Int) a b)::Gh g n most s::L):=by
             rw [mtx_congr (D:=fun a b=>4611686018427387906 - ofM s (u : Int) ((v + 1 : Nat) : Int) a b) (D':=upd2 (fun a b=>4611686018427387906 - ofM s (u : Int) (v : Int) a b) (u : Int) (v : Int) (4611686018427387906 - cG s (u : Int) (v : Int))) (fun a b _ _ _ _=>by
               rw [upd_neg]; dsimp only; rw [ofM_put]; rfl)]
             exact Holds.to (by assumption)
           exact ⟨v + 1,⟨rfl,rfl,rfl,rfl,rfl,rfl,rfl,trivial⟩,⟨rfl,by omega,H⟩,by omega⟩)
        | (have heq2 : (u : Int) = (v : Int):=Decidable.not_not.1 heq
           have H : Holds w (mtx b11 93 [.int .i64 n] (fun a b=>4611686018427387906 - ofM s (u : Int) ((v + 1 : Nat) : Int) a b)::Gh g n most s::L):=by
             rw [mtx_congr (D:=fun a b=>4611686018427387906 - ofM s (u : Int) ((v + 1 : Nat) : Int) a b) (D':=fun a b=>4611686018427387906 - ofM s (u : Int) (v : Int) a b) (fun a b _ _ _ _=>by
               rw [← heq2,show ((v + 1 : Nat) : Int) = (u : Int) + 1 by omega,ofM_skip])]
             exact Holds.to (by assumption)
           exact ⟨v + 1,⟨rfl,rfl,rfl,rfl,rfl,rfl,rfl,trivial⟩,⟨rfl,by omega,H⟩,by omega⟩)
      · refine W.skip ?_
        refine hK11 _ _ _ ?_
        refine W.region ?_
        refine O.ex (by first|exact Ex.addI rfl rfl|exact Ex.add rfl rfl rfl) rfl ?_
        refine O.ex (Ex.move rfl) rfl ?_
        refine O.nil ?_
        first
        | (have hne2 : ¬ (u : Int) = (v : Int):=hne
           have H : Holds w (mtx b11 93 [.int .i64 n] (fun a b=>4611686018427387906 - ofM s (u : Int) ((v + 1 : Nat) : Int) a b)::Gh g n most s::L):=by
             rw [mtx_congr (D:=fun a b=>4611686018427387906 - ofM s (u : Int) ((v + 1 : Nat) : Int) a b) (D':=upd2 (fun a b=>4611686018427387906 - ofM s (u : Int) (v : Int) a b) (u : Int) (v : Int) (4611686018427387906 - cG s (u : Int) (v : Int))) (fun a b _ _ _ _=>by
               rw [upd_neg]; dsimp only; rw [ofM_put]; rfl)]
             exact Holds.to (by assumption)
           exact ⟨v + 1,⟨rfl,rfl,rfl,rfl,rfl,rfl,rfl,trivial⟩,⟨rfl,by omega,H⟩,by omega⟩)
        | (have heq2 : (u : Int) = (v : Int):=Decidable.not_not.1 heq
           have H : Holds w (mtx b11 93 [.int .i64 n] (fun a b=>4611686018427387906 - ofM s (u : Int) ((v + 1 : Nat) : Int) a b)::Gh g n most s::L):=by
             rw [mtx_congr (D:=fun a b=>4611686018427387906 - ofM s (u : Int) ((v + 1 : Nat) : Int) a b) (D':=fun a b=>4611686018427387906 - ofM s (u : Int) (v : Int) a b) (fun a b _ _ _ _=>by
               rw [← heq2,show ((v + 1 : Nat) : Int) = (u : Int) + 1 by omega,ofM_skip])]
             exact Holds.to (by assumption)
           exact ⟨v + 1,⟨rfl,rfl,rfl,rfl,rfl,rfl,rfl,trivial⟩,⟨rfl,by omega,H⟩,by omega⟩)
    · refine W.exit ?_
      refine hK6 _ _ _ ?_
      refine W.region ?_
      refine O.ex (by first|exact Ex.addI rfl rfl|exact Ex.add rfl rfl rfl) rfl ?_
      refine O.ex (Ex.move rfl) rfl ?_
      refine O.nil ?_
      have H : Holds w (mtx b11 93 [.int .i64 n] (fun a b=>4611686018427387906 - ofM s ((u + 1 : Nat) : Int) 0 a b)::Gh g n most s::L):=by
        have hvn : (v : Int) = n:=by omega
        rw [mtx_congr (D:=fun a b=>4611686018427387906 - ofM s ((u + 1 : Nat) : Int) 0 a b) (D':=fun a b=>4611686018427387906 - ofM s (u : Int) (v : Int) a b) (fun a b _ _ h2 _=>by
          rw [hvn,ofM_row hg h2]; rfl)]
        exact Holds.to (by assumption)
      exact ⟨u + 1,⟨rfl,rfl,rfl,rfl,trivial⟩,⟨rfl,by omega,H⟩,by omega⟩
  · refine W.exit ?_
    refine hK2 _ _ _ ?_
    refine W.seq (fun K15 hK15=>?_)
    refine W.region ?_
    refine O.ex (Ex.move rfl) rfl ?_
    refine O.ex (Ex.assign rfl) rfl ?_
    refine O.nil ?_
    refine hK15 _ _ _ ?_
    refine W.ret ?_
    try dsimp only [thenQ,blockQ,retQ]
    first|refine ⟨_,⟨_,_,rfl,rfl,rfl⟩,?_⟩|(refine retD_mark ?_; intro w H; refine ⟨_,⟨_,_,rfl,rfl,rfl⟩,?_⟩)|(refine retD_mark2 ?_; intro w H; refine ⟨_,⟨_,_,rfl,rfl,rfl⟩,?_⟩)
    have hun : (u : Int) = n:=by omega
    have H : Holds w (Mh b11 n (cG s)::Gh g n most s::L):=mh_open.2 (by
      rw [mtx_congr (D:=fun a b=>4611686018427387906 - cG s a b) (D':=fun a b=>4611686018427387906 - ofM s (u : Int) 0 a b) (fun a b _ _ h2 _=>by rw [hun,ofM_end hg h2])]
      exact Holds.to (by assumption))
    exact ⟨b11,rfl,H⟩
set_option maxHeartbeats 1000000 in
theorem rof_ct {w : World} {r : Nat} {n most : Int} {s : St} {L : List HProp} (hg : GOk n most s) (H : Holds w (Rg r n most s::L)) :
    CT Tryz.prog 30 [.pointer (some ⟨r,0,none⟩)] w fun x w'=>∃ m,x = .pointer (some ⟨m,0,none⟩) ∧ Holds w' (Rh m n (cG s)::Rg r n most s::L):=by
  have n1:=hg.n1
  have n2:=hg.n2
  have hG:=cG_good hg
  refine CT.enter (N:=45) Tryz.func30 rfl rfl rfl rfl ?_
  refine W.seq (fun K0 hK0=>?_)
  refine W.region ?_
  refine O.ex (Ex.assign rfl) rfl ?_
  refine O.nil ?_
  refine hK0 _ _ _ ?_
  refine W.seq (fun K1 hK1=>?_)
  refine W.region ?_
  refine O.ex (Ex.move rfl) rfl ?_
  refine O.ex (by first|exact Ex.nilPtr rfl|exact Ex.nilFunc rfl|exact Ex.nilYield rfl) rfl ?_
  refine O.ex (by first|exact Ex.field0 fld41_0 rfl|exact Ex.field fld41_0 rfl|exact Ex.fieldS fld41_0 rfl|exact Ex.fieldIn fld41_0 rfl) rfl ?_
  refine O.ex (by first|exact Ex.loadRN Tryz.isAgg3 rfl|exact Ex.loadMh Tryz.isAgg3 rfl|exact Ex.loadInF Tryz.isAgg3 rfl (Holds.to (by assumption))|exact Ex.loadP Tryz.isAgg3 rfl|exact Ex.loadM Tryz.isAgg3 rfl|exact Ex.loadIn1 Tryz.isAgg3 rfl (Holds.to (by assumption))|exact Ex.loadVc Tryz.isAgg3 rfl|exact Ex.loadR Tryz.isAgg3 rfl|exact Ex.loadQ Tryz.isAgg3 rfl) rfl ?_
  refine O.callF Tryz.call60 rfl rfl (CT.mono (refNew_ct (n:=n) (Holds.to (by assumption))) ?_)
  rintro _ w ⟨m,rfl,H⟩
  have H:=rh_open.1 H
  refine O.ex (Ex.assign rfl) rfl ?_
  refine O.nil ?_
  refine hK1 _ _ _ ?_
  refine W.seq (fun K2 hK2=>?_)
  refine W.seq (fun K3 hK3=>?_)
  refine W.region ?_
  refine O.ex (Ex.assign rfl) rfl ?_
  refine O.nil ?_
  refine hK3 _ _ _ ?_
  refine W.block ?_
  have H : Holds w (mtx m 114 [.int .i64 n] (ofM s ((0 : Nat) : Int) 0)::Rg r n most s::L):=by
    rw [mtx_congr (D:=ofM s ((0 : Nat) : Int) 0) (D':=noneM) (fun a b h0 _ h2 _=>by rw [show ((0 : Nat) : Int) = 0 from rfl,ofM_zero h0 h2]; rfl)]; exact Holds.to H
  refine W.loop (σ:=Nat) (fun u=>[(0,.pointer (some ⟨r,0,none⟩)),(3,.pointer (some ⟨m,0,none⟩)),(4,.int .i64 (u : Int))]) (fun u ds w=>ds = [] ∧ (u : Int) ≤ n ∧ Holds w (mtx m 114 [.int .i64 n] (ofM s (u : Int) 0)::Rg r n most s::L)) (fun u=>n.toNat - u) 0 ⟨rfl,rfl,rfl,trivial⟩ ⟨rfl,by omega,H⟩ ?_
  clear H
  rintro u _ w ⟨rfl,hu,H⟩
  refine W.seq (fun K4 hK4=>?_)
  refine W.seq (fun K5 hK5=>?_)
  refine W.region ?_
  refine O.ex (Ex.move rfl) rfl ?_
  refine O.ex (Ex.move rfl) rfl ?_
  refine O.ex (by first|exact Ex.nilPtr rfl|exact Ex.nilFunc rfl|exact Ex.nilYield rfl) rfl ?_
  refine O.ex (by first|exact Ex.field0 fld41_0 rfl|exact Ex.field fld41_0 rfl|exact Ex.fieldS fld41_0 rfl|exact Ex.fieldIn fld41_0 rfl) rfl ?_
  refine O.ex (Ex.loadRN Tryz.isAgg3 rfl (Holds.to (M:=Rg r n most s::[]) (by assumption))) rfl ?_
  refine O.ex (Ex.lss rfl rfl) rfl ?_
  refine O.nil ?_
  refine hK5 _ _ _ ?_
  first|refine W.cond_p rfl (fun hlt=>?_) (fun hge=>?_)|refine W.cond_b rfl (fun hlt=>?_) (fun hge=>?_)
  · refine W.skip ?_
    refine hK4 _ _ _ ?_
    refine W.seq (fun K6 hK6=>?_)
    refine W.block ?_
    refine W.seq (fun K7 hK7=>?_)
    refine W.region ?_
    refine O.ex (Ex.assign rfl) rfl ?_
    refine O.nil ?_
    refine hK7 _ _ _ ?_
    refine W.block ?_
    refine W.loop (σ:=Nat) (fun v=>[(0,.pointer (some ⟨r,0,none⟩)),(3,.pointer (some ⟨m,0,none⟩)),(4,.int .i64 (u : Int)),(5,.int .i64 (v : Int))]) (fun v ds w=>ds = [] ∧ (v : Int) ≤ n ∧ Holds w (mtx m 114 [.int .i64 n] (ofM s (u : Int) (v : Int))::Rg r n most s::L)) (fun v=>n.toNat - v) 0 ⟨rfl,rfl,rfl,rfl,trivial⟩ ⟨rfl,by omega,Holds.to (by assumption)⟩ ?_
    clear H
    rintro v _ w ⟨rfl,hv,H⟩
    refine W.seq (fun K8 hK8=>?_)
    refine W.seq (fun K9 hK9=>?_)
    refine W.region ?_
    refine O.ex (Ex.move rfl) rfl ?_
    refine O.ex (Ex.move rfl) rfl ?_
    refine O.ex (by first|exact Ex.nilPtr rfl|exact Ex.nilFunc rfl|exact Ex.nilYield rfl) rfl ?_
    refine O.ex (by first|exact Ex.field0 fld41_0 rfl|exact Ex.field fld41_0 rfl|exact Ex.fieldS fld41_0 rfl|exact Ex.fieldIn fld41_0 rfl) rfl ?_
    refine O.ex (Ex.loadRN Tryz.isAgg3 rfl (Holds.to (M:=Rg r n most s::[]) (by assumption))) rfl ?_
    refine O.ex (Ex.lss rfl rfl) rfl ?_
    refine O.nil ?_
    refine hK9 _ _ _ ?_
    first|refine W.cond_p rfl (fun hlt2=>?_) (fun hge2=>?_)|refine W.cond_b rfl (fun hlt2=>?_) (fun hge2=>?_)
    · refine W.skip ?_
      refine hK8 _ _ _ ?_
      refine W.seq (fun K10 hK10=>?_)
      refine W.block ?_
      refine W.seq (fun K11 hK11=>?_)
      refine W.region ?_
      have hun : (u : Int) < n:=hlt
      have hvn : (v : Int) < n:=hlt2
      have u0 : (0 : Int) ≤ (u : Int):=by omega
      have v0 : (0 : Int) ≤ (v : Int):=by omega
      have u24 : (u : Int) < 24:=by omega
      have v24 : (v : Int) < 24:=by omega
      refine O.ex (Ex.move rfl) rfl ?_
      refine O.ex (Ex.move rfl) rfl ?_
      refine O.ex (Ex.neqI rfl rfl) rfl ?_
      refine O.nil ?_
      refine hK11 _ _ _ ?_
      first|refine W.cond_p rfl (fun hne=>?_) (fun heq=>?_)|refine W.cond_b rfl (fun hne=>?_) (fun heq=>?_)
      · refine W.drawTo (([] : List HProp)) (.take 0 (.take 1 (.take 2 (.take 3 (.take 4 (.take 5 (.take 10 (.take 11 (.take 12 (.one 6 (.take 7 (.take 8 (.take 9 (.take 13 (.one 14 .nil))))))))))))))) (mixed) (fun _ _ _ _ h=>h) (by assumption) PP.auto (by decide +kernel) (fun w H=>?_)
        refine OQ.ex rfl (fun w H=>(Ex.move rfl)) rfl ?_
        refine OQ.ex rfl (fun w H=>(Ex.move rfl)) rfl ?_
        refine OQ.ex rfl (fun w H=>(Ex.move rfl)) rfl ?_
        refine OQ.ex rfl (fun w H=>(Ex.move rfl)) rfl ?_
        refine OQ.ex rfl (fun w H=>(Ex.move rfl)) rfl ?_
        refine OQ.ex rfl (fun w H=>(Ex.move rfl)) rfl ?_
        refine OQ.ex rfl (fun w H=>(by first|exact Ex.nilPtr rfl|exact Ex.nilFunc rfl|exact Ex.nilYield rfl)) rfl ?_
        refine OQ.ex rfl (fun w H=>(by first|exact Ex.field0 fld114_1 rfl|exact Ex.field fld114_1 rfl|exact Ex.fieldS fld114_1 rfl|exact Ex.fieldIn fld114_1 rfl)) rfl ?_
        refine OQ.ex rfl (fun w H=>(Ex.idxArr Tryz.runUnderlying90 Tryz.sizeOf89 rfl rfl)) rfl ?_
        refine OQ.step rfl ?_
        refine O.callF Tryz.call61 rfl rfl (CT.mono (rbest_ct (r:=r) (Holds.to (M:=Rg r n most s::_) (by assumption))) ?_)
        rintro _ w ⟨rfl,H⟩
        have hne' : ¬ (u : Int) = (v : Int):=hne
        have hb : (best s (u : Int) (v : Int)).1 = cG s (u : Int) (v : Int):=(if_neg hne').symm
        rw [hb]
        replace H:=Holds.to (M:=mtx m 114 [.int .i64 n] (ofM s (u : Int) (v : Int))::Rg r n most s::L) H
        refine O.thenNil ⟨(by first|exact Holds.to (by assumption)|assumption),?_⟩
        refine OQ.ex rfl (fun w H=>(Ex.move rfl)) rfl ?_
        refine OQ.ex rfl (fun w H=>(Ex.extract rfl rfl)) rfl ?_
        refine OQ.ex rfl (fun w H=>(Ex.extract rfl rfl)) rfl ?_
        refine OQ.ex rfl (fun w H=>(Ex.idxArr Tryz.runUnderlying89 Tryz.sizeOf3 rfl rfl)) rfl ?_
        refine OQ.step rfl ?_
        first|refine O.storeP Tryz.sizeOf3 rfl rfl (fun w H=>?_)|refine O.storeR Tryz.sizeOf3 rfl rfl (fun w H=>?_)|refine O.storeM Tryz.sizeOf3 rfl rfl (fun w H=>?_)|refine O.storeVc Tryz.sizeOf3 rfl rfl (fun w H=>?_)|refine O.storeQ Tryz.sizeOf3 rfl rfl (fun w H=>?_)
        refine O.thenNil ⟨(by first|exact Holds.to (by assumption)|assumption),?_⟩
        refine OQ.done ?_
        refine hK10 _ _ _ ?_
        refine W.region ?_
        refine O.ex (Ex.move rfl) rfl ?_
        refine O.ex (by first|exact Ex.addI rfl rfl|exact Ex.add rfl rfl rfl) rfl ?_
        refine O.ex (Ex.assign rfl) rfl ?_
        refine O.nil ?_
        first
        | (have hne2 : ¬ (u : Int) = (v : Int):=hne
           have H : Holds w (mtx m 114 [.int .i64 n] (ofM s (u : Int) ((v + 1 : Nat) : Int))::Rg r n most s::L):=by
             rw [mtx_congr (D:=ofM s (u : Int) ((v + 1 : Nat) : Int)) (D':=upd2 (ofM s (u : Int) (v : Int)) (u : Int) (v : Int) (cG s (u : Int) (v : Int))) (fun a b _ _ _ _=>by
               rw [ofM_put]; rfl)]
             exact Holds.to (by assumption)
           exact ⟨v + 1,⟨rfl,rfl,rfl,rfl,trivial⟩,⟨rfl,by omega,H⟩,by omega⟩)
        | (have heq2 : (u : Int) = (v : Int):=Decidable.not_not.1 heq
           have H : Holds w (mtx m 114 [.int .i64 n] (ofM s (u : Int) ((v + 1 : Nat) : Int))::Rg r n most s::L):=by
             rw [mtx_congr (D:=ofM s (u : Int) ((v + 1 : Nat) : Int)) (D':=ofM s (u : Int) (v : Int)) (fun a b _ _ _ _=>by
               rw [← heq2,show ((v + 1 : Nat) : Int) = (u : Int) + 1 by omega,ofM_skip])]
             exact Holds.to (by assumption)
           exact ⟨v + 1,⟨rfl,rfl,rfl,rfl,trivial⟩,⟨rfl,by omega,H⟩,by omega⟩)
      · refine W.skip ?_
        refine hK10 _ _ _ ?_
        refine W.region ?_
        refine O.ex (Ex.move rfl) rfl ?_
        refine O.ex (by first|exact Ex.addI rfl rfl|exact Ex.add rfl rfl rfl) rfl ?_
        refine O.ex (Ex.assign rfl) rfl ?_
        refine O.nil ?_
        first
        | (have hne2 : ¬ (u : Int) = (v : Int):=hne
           have H : Holds w (mtx m 114 [.int .i64 n] (ofM s (u : Int) ((v + 1 : Nat) : Int))::Rg r n most s::L):=by
             rw [mtx_congr (D:=ofM s (u : Int) ((v + 1 : Nat) : Int)) (D':=upd2 (ofM s (u : Int) (v : Int)) (u : Int) (v : Int) (cG s (u : Int) (v : Int))) (fun a b _ _ _ _=>by
               rw [ofM_put]; rfl)]
             exact Holds.to (by assumption)
           exact ⟨v + 1,⟨rfl,rfl,rfl,rfl,trivial⟩,⟨rfl,by omega,H⟩,by omega⟩)
        | (have heq2 : (u : Int) = (v : Int):=Decidable.not_not.1 heq
           have H : Holds w (mtx m 114 [.int .i64 n] (ofM s (u : Int) ((v + 1 : Nat) : Int))::Rg r n most s::L):=by
             rw [mtx_congr (D:=ofM s (u : Int) ((v + 1 : Nat) : Int)) (D':=ofM s (u : Int) (v : Int)) (fun a b _ _ _ _=>by
               rw [← heq2,show ((v + 1 : Nat) : Int) = (u : Int) + 1 by omega,ofM_skip])]
             exact Holds.to (by assumption)
           exact ⟨v + 1,⟨rfl,rfl,rfl,rfl,trivial⟩,⟨rfl,by omega,H⟩,by omega⟩)
    · refine W.exit ?_
      refine hK6 _ _ _ ?_
      refine W.region ?_
      refine O.ex (Ex.move rfl) rfl ?_
      refine O.ex (by first|exact Ex.addI rfl rfl|exact Ex.add rfl rfl rfl) rfl ?_
      refine O.ex (Ex.assign rfl) rfl ?_
      refine O.nil ?_
      have H : Holds w (mtx m 114 [.int .i64 n] (ofM s ((u + 1 : Nat) : Int) 0)::Rg r n most s::L):=by
        have hvn : (v : Int) = n:=by omega
        rw [mtx_congr (D:=ofM s ((u + 1 : Nat) : Int) 0) (D':=ofM s (u : Int) (v : Int)) (fun a b _ _ h2 _=>by
          rw [hvn,ofM_row hg h2]; rfl)]
        exact Holds.to (by assumption)
      exact ⟨u + 1,⟨rfl,rfl,rfl,trivial⟩,⟨rfl,by omega,H⟩,by omega⟩
  · refine W.exit ?_
    refine hK2 _ _ _ ?_
    refine W.seq (fun K12 hK12=>?_)
    refine W.region ?_
    refine O.ex (Ex.move rfl) rfl ?_
    refine O.ex (Ex.assign rfl) rfl ?_
    refine O.nil ?_
    refine hK12 _ _ _ ?_
    refine W.ret ?_
    try dsimp only [thenQ,blockQ,retQ]
    first|refine ⟨_,⟨_,_,rfl,rfl,rfl⟩,?_⟩|(refine retD_mark ?_; intro w H; refine ⟨_,⟨_,_,rfl,rfl,rfl⟩,?_⟩)|(refine retD_mark2 ?_; intro w H; refine ⟨_,⟨_,_,rfl,rfl,rfl⟩,?_⟩)
    have hun : (u : Int) = n:=by omega
    have H : Holds w (Rh m n (cG s)::Rg r n most s::L):=rh_open.2 (by
      rw [mtx_congr (D:=cG s) (D':=ofM s (u : Int) 0) (fun a b _ _ h2 _=>by rw [hun,ofM_end hg h2])]
      exact Holds.to (by assumption))
    exact ⟨m,rfl,H⟩
end Go.Proofs.YtblapiiinbppiaaGreatDoor
