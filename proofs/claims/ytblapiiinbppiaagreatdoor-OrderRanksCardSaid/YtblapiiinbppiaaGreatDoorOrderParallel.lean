import Derived.Test.YtblapiiinbppiaaGreatDoorRank2
namespace Go.Proofs.YtblapiiinbppiaaGreatDoor
open Go.Rr Go Gr Hp Wt
set_option linter.unusedVariables false
set_option linter.unusedSimpArgs false
theorem wf_r10 {q : Int} (hq : (Lit.int .u8 q).wf = true) : (Lit.int .u8 (q % 10)).wf = true:=by
  obtain ⟨q0,q1⟩:=bounds_u8 hq
  have h0 : 0 ≤ q % 10:=Int.emod_nonneg _ (by decide)
  have h1 : q % 10 < 10:=Int.emod_lt_of_pos _ (by decide)
  simp [Lit.wf,IntKind.min,IntKind.max,IntKind.bits,IntKind.signed]
  omega
theorem rankF_len {n settles : Int} {c : Int → Int → Int} (hg : Good n c) : (rankF n settles c).length = n.toNat:=(rk_ok (settles:=settles) hg n.toNat).ol
theorem zints_ct {w : World} {va vb : Value} {xs : List Int} {S1 S2 : HProp} {L : List HProp} (h1 : Rd S1 va xs) (h2 : Rd S2 vb xs) (hl : xs.length ≤ 1000) (H : Holds w (S1::S2::L)) :
    CT Tryz.prog 8 [va,vb] w fun u w'=>u = .bool true ∧ Holds w' (S1::S2::L):=by
  obtain ⟨a,ca,rfl⟩:=h1.form H
  obtain ⟨b,cb,rfl⟩:=h2.form H.swap
  refine CT.enter (N:=26) Tryz.func8 rfl rfl rfl rfl ?_
  refine W.seq (fun K0 hK0=>?_)
  refine W.region ?_
  refine O.ex (Ex.assign rfl) rfl ?_
  refine O.nil ?_
  refine hK0 _ _ _ ?_
  refine W.seq (fun K1 hK1=>?_)
  refine W.seq (fun K2 hK2=>?_)
  refine W.region ?_
  refine O.ex (Ex.move rfl) rfl ?_
  refine O.ex (by first|exact Ex.lenR Tryz.runUnderlying28 rfl|exact Ex.lenIn Tryz.runUnderlying28 rfl|exact Ex.lenL Tryz.runUnderlying28 rfl|exact Ex.len rfl Tryz.runUnderlying28 rfl) rfl ?_
  refine O.ex (Ex.move rfl) rfl ?_
  refine O.ex (by first|exact Ex.lenR Tryz.runUnderlying28 rfl|exact Ex.lenIn Tryz.runUnderlying28 rfl|exact Ex.lenL Tryz.runUnderlying28 rfl|exact Ex.len rfl Tryz.runUnderlying28 rfl) rfl ?_
  refine O.ex (Ex.neqI rfl rfl) rfl ?_
  refine O.nil ?_
  refine hK2 _ _ _ ?_
  refine W.known_f rfl (by first|rfl|decide|exact decide_eq_false (fun hh=>hh rfl)) ?_
  refine W.skip ?_
  refine hK1 _ _ _ ?_
  refine W.seq (fun K3 hK3=>?_)
  refine W.seq (fun K4 hK4=>?_)
  refine W.region ?_
  refine O.ex (Ex.assign rfl) rfl ?_
  refine O.nil ?_
  refine hK4 _ _ _ ?_
  refine W.block ?_
  refine W.loop (σ:=Nat) (fun i=>[(0,.slice a xs.length ca),(1,.slice b xs.length cb),(5,.int .i64 (i : Int))]) (fun i ds w=>ds = [] ∧ i ≤ xs.length ∧ Holds w (S1::S2::L)) (fun i=>xs.length - i) 0 ⟨rfl,rfl,rfl,trivial⟩ ⟨rfl,by omega,Holds.to (by assumption)⟩ ?_
  clear H
  rintro i _ w ⟨rfl,hi,H⟩
  refine W.seq (fun K5 hK5=>?_)
  refine W.seq (fun K6 hK6=>?_)
  refine W.region ?_
  refine O.ex (Ex.move rfl) rfl ?_
  refine O.ex (Ex.move rfl) rfl ?_
  refine O.ex (by first|exact Ex.lenR Tryz.runUnderlying28 rfl|exact Ex.lenIn Tryz.runUnderlying28 rfl|exact Ex.lenL Tryz.runUnderlying28 rfl|exact Ex.len rfl Tryz.runUnderlying28 rfl) rfl ?_
  refine O.ex (Ex.lss rfl rfl) rfl ?_
  refine O.nil ?_
  refine hK6 _ _ _ ?_
  first|refine W.cond_p rfl (fun hlt=>?_) (fun hge=>?_)|refine W.cond_b rfl (fun hlt=>?_) (fun hge=>?_)
  · refine W.skip ?_
    refine hK5 _ _ _ ?_
    refine W.seq (fun K7 hK7=>?_)
    refine W.block ?_
    refine W.seq (fun K8 hK8=>?_)
    have hil : i < xs.length:=by omega
    refine W.drawTo _ (.take 0 (.take 1 (.take 2 (.take 3 (.take 4 (.take 5 (.take 6 (.take 7 (.take 8 .nil))))))))) (mixed) (fun _ _ _ _ h=>h) (by assumption) (PP.refl _) (by decide +kernel) (fun w H=>?_)
    refine OQ.ex rfl (fun w H=>(Ex.move rfl)) rfl ?_
    refine OQ.ex rfl (fun w H=>(Ex.move rfl)) rfl ?_
    refine OQ.ex rfl (fun w H=>(Ex.idxRd h1 Tryz.runUnderlying28 Tryz.sizeOf3 rfl rfl)) rfl ?_
    refine OQ.ex rfl (fun w H=>(Ex.loadRd (i:=i) h1 Tryz.isAgg3 rfl)) rfl ?_
    refine OQ.ex rfl (fun w H=>(Ex.move rfl)) rfl ?_
    refine OQ.ex rfl (fun w H=>(Ex.move rfl)) rfl ?_
    refine OQ.ex rfl (fun w H=>(Ex.idxRd h2 Tryz.runUnderlying28 Tryz.sizeOf3 rfl rfl)) rfl ?_
    refine OQ.ex rfl (fun w H=>(Ex.loadRd (i:=i) h2 Tryz.isAgg3 rfl)) rfl ?_
    refine OQ.ex rfl (fun w H=>(Ex.neqI rfl rfl)) rfl ?_
    refine OQ.done ?_
    refine hK8 _ _ _ ?_
    refine W.known_f rfl (by first|rfl|decide|exact decide_eq_false (fun hh=>hh rfl)) ?_
    refine W.skip ?_
    refine hK7 _ _ _ ?_
    refine W.region ?_
    refine O.ex (Ex.move rfl) rfl ?_
    refine O.ex (by first|exact Ex.addI rfl rfl|exact Ex.add rfl rfl rfl) rfl ?_
    refine O.ex (Ex.assign rfl) rfl ?_
    refine O.nil ?_
    exact ⟨i + 1,⟨rfl,rfl,rfl,trivial⟩,⟨rfl,by omega,Holds.to (by assumption)⟩,by omega⟩
  · refine W.exit ?_
    refine hK3 _ _ _ ?_
    refine W.seq (fun K9 hK9=>?_)
    refine W.region ?_
    refine O.ex (Ex.assign rfl) rfl ?_
    refine O.nil ?_
    refine hK9 _ _ _ ?_
    refine W.ret ?_
    try dsimp only [thenQ,blockQ,retQ]
    first|refine ⟨_,⟨_,_,rfl,rfl,rfl⟩,?_⟩|(refine retD_mark ?_; intro w H; refine ⟨_,⟨_,_,rfl,rfl,rfl⟩,?_⟩)|(refine retD_mark2 ?_; intro w H; refine ⟨_,⟨_,_,rfl,rfl,rfl⟩,?_⟩)
    exact ⟨rfl,by first|assumption|exact Holds.to (by assumption)⟩
end Go.Proofs.YtblapiiinbppiaaGreatDoor
