import Derived.Test.YtliofdfhimmjmaaLaw11
namespace Go.Proofs.Ytliofdfhimmjmaa
open Go.Rr Go Gr Hp
set_option linter.unusedVariables false
set_option linter.unusedSimpArgs false
set_option maxHeartbeats 4000000 in
theorem bothDists_ct {w0 : World} {q : Int} {lv : Value} {l : List Chg} (hq : (Lit.int .u8 q).wf = true) (hx : SlIn w0 6 Chg.enc lv l) (hl : l.length ≤ 9223372036854775807) :
    CT Try.prog 7 [.int .u8 q,lv] w0 fun x w'=>x = .bool true ∧ RowKit.Below w0.heap.size w0 w':=by
  have H:=Holds.base_refl w0
  refine CT.enter (N:=58) Try.func7 rfl rfl rfl rfl ?_
  refine W.seq (fun K0 hK0=>?_)
  refine W.region ?_
  refine O.ex (Ex.assign rfl) rfl ?_
  refine O.nil ?_
  refine hK0 _ _ _ ?_
  refine W.seq (fun K1 hK1=>?_)
  refine W.seq (fun K2 hK2=>?_)
  refine W.region ?_
  refine O.callF Try.call29 rfl rfl (CT.mono (awake11_ct (Holds.to (by assumption))) ?_)
  rintro _ w ⟨rfl,H⟩
  refine O.ex (by first|exact Ex.notD rfl|exact Ex.not rfl) rfl ?_
  refine O.nil ?_
  refine hK2 _ _ _ ?_
  refine W.known_f rfl (by first|rfl|decide|exact decide_eq_false (fun hh=>hh rfl)) ?_
  refine W.skip ?_
  refine hK1 _ _ _ ?_
  refine W.seq (fun K3 hK3=>?_)
  refine W.region ?_
  refine O.ex (Ex.move rfl) rfl ?_
  refine O.ex (Ex.move rfl) rfl ?_
  refine O.callF Try.call11 rfl rfl (CT.mono (made08_ct hq hx hl (Holds.to (M:=base w0::_) (by assumption))) ?_)
  rintro _ w ⟨g,r,hg,rfl,H⟩
  refine O.ex (Ex.move rfl) rfl ?_
  refine O.ex (Ex.extract rfl rfl) rfl ?_
  refine O.ex (Ex.extract rfl rfl) rfl ?_
  refine O.ex (Ex.assign rfl) rfl ?_
  refine O.ex (Ex.assign rfl) rfl ?_
  refine O.nil ?_
  refine hK3 _ _ _ ?_
  refine W.seq (fun K4 hK4=>?_)
  refine W.seq (fun K5 hK5=>?_)
  refine W.region ?_
  refine O.ex (Ex.move rfl) rfl ?_
  refine O.ex (Ex.nilEq Try.runUnderlying24 rfl rfl) rfl ?_
  refine O.nil ?_
  refine hK5 _ _ _ ?_
  refine W.known_f rfl (by first|rfl|decide|exact decide_eq_false (fun hh=>hh rfl)) ?_
  refine W.skip ?_
  refine hK4 _ _ _ ?_
  refine W.seq (fun K6 hK6=>?_)
  refine W.region ?_
  obtain ⟨s,hs⟩ : ∃ s,s = doAll (1 + q % 24) 64 noS (l.take 150):=⟨_,rfl⟩
  rw [← hs] at hg H
  obtain ⟨n,hn⟩ : ∃ n,n = 1 + q % 24:=⟨_,rfl⟩
  rw [← hn] at hg H
  have n1:=hg.n1
  have n2:=hg.n2
  refine O.ex (Ex.move rfl) rfl ?_
  refine O.callF Try.call30 rfl rfl (CT.mono (rall_ct hg (Holds.to (M:=Rg r n 64 s::_) (by assumption))) ?_)
  rintro _ w ⟨rfl,H⟩
  refine O.allocM [] nzS (fun b7 w H=>?_)
  refine O.storeMall (hd:=[]) Try.sizeOf56 rfl rfl rfl rfl rfl (fun w H=>?_)
  refine O.nil ?_
  refine hK6 _ _ _ ?_
  refine W.seq (fun K7 hK7=>?_)
  refine W.seq (fun K8 hK8=>?_)
  refine W.region ?_
  refine O.ex (Ex.assign rfl) rfl ?_
  refine O.nil ?_
  refine hK8 _ _ _ ?_
  refine W.block ?_
  refine W.loop (σ:=Nat) (fun i=>[(5,.pointer (some ⟨g,0,none⟩)),(6,.pointer (some ⟨r,0,none⟩)),(7,.pointer (some ⟨b7,0,none⟩)),(8,.int .i64 (i : Int))]) (fun i ds w=>ds = [] ∧ (i : Int) ≤ n ∧ Holds w (mtx b7 56 [] (far n (cG s))::Rg r n 64 s::Gh g n 64 s::base w0::[])) (fun i=>n.toNat - i) 0 ⟨rfl,rfl,rfl,rfl,trivial⟩ ⟨rfl,by omega,Holds.to (by assumption)⟩ ?_
  clear H
  rintro i _ w ⟨rfl,hi,H⟩
  refine W.seq (fun K9 hK9=>?_)
  refine W.seq (fun K10 hK10=>?_)
  refine W.region ?_
  refine O.ex (Ex.move rfl) rfl ?_
  refine O.ex (Ex.move rfl) rfl ?_
  refine O.ex (by first|exact Ex.nilPtr rfl|exact Ex.nilFunc rfl|exact Ex.nilYield rfl) rfl ?_
  refine O.ex (by first|exact Ex.field0 fld45_0 rfl|exact Ex.field fld45_0 rfl|exact Ex.fieldS fld45_0 rfl|exact Ex.fieldIn fld45_0 rfl) rfl ?_
  refine O.ex (Ex.loadRN Try.isAgg3 rfl (Holds.to (M:=Rg r n 64 s::[]) (by assumption))) rfl ?_
  refine O.ex (Ex.lss rfl rfl) rfl ?_
  refine O.nil ?_
  refine hK10 _ _ _ ?_
  first|refine W.cond_p rfl (fun hlt=>?_) (fun hge=>?_)|refine W.cond_b rfl (fun hlt=>?_) (fun hge=>?_)
  · refine W.skip ?_
    refine hK9 _ _ _ ?_
    refine W.seq (fun K11 hK11=>?_)
    refine W.block ?_
    refine W.seq (fun K12 hK12=>?_)
    refine W.region ?_
    refine O.ex (Ex.assign rfl) rfl ?_
    refine O.nil ?_
    refine hK12 _ _ _ ?_
    refine W.block ?_
    refine W.loop (σ:=Nat) (fun j=>[(5,.pointer (some ⟨g,0,none⟩)),(6,.pointer (some ⟨r,0,none⟩)),(7,.pointer (some ⟨b7,0,none⟩)),(8,.int .i64 (i : Int)),(9,.int .i64 (j : Int))]) (fun j ds w=>ds = [] ∧ (j : Int) ≤ n ∧ Holds w (mtx b7 56 [] (far n (cG s))::Rg r n 64 s::Gh g n 64 s::base w0::[])) (fun j=>n.toNat - j) 0 ⟨rfl,rfl,rfl,rfl,rfl,trivial⟩ ⟨rfl,by omega,Holds.to (by assumption)⟩ ?_
    clear H
    rintro j _ w ⟨rfl,hj,H⟩
    refine W.seq (fun K13 hK13=>?_)
    refine W.seq (fun K14 hK14=>?_)
    refine W.region ?_
    refine O.ex (Ex.move rfl) rfl ?_
    refine O.ex (Ex.move rfl) rfl ?_
    refine O.ex (by first|exact Ex.nilPtr rfl|exact Ex.nilFunc rfl|exact Ex.nilYield rfl) rfl ?_
    refine O.ex (by first|exact Ex.field0 fld45_0 rfl|exact Ex.field fld45_0 rfl|exact Ex.fieldS fld45_0 rfl|exact Ex.fieldIn fld45_0 rfl) rfl ?_
    refine O.ex (Ex.loadRN Try.isAgg3 rfl (Holds.to (M:=Rg r n 64 s::[]) (by assumption))) rfl ?_
    refine O.ex (Ex.lss rfl rfl) rfl ?_
    refine O.nil ?_
    refine hK14 _ _ _ ?_
    first|refine W.cond_p rfl (fun jlt=>?_) (fun jge=>?_)|refine W.cond_b rfl (fun jlt=>?_) (fun jge=>?_)
    · refine W.skip ?_
      refine hK13 _ _ _ ?_
      refine W.seq (fun K15 hK15=>?_)
      refine W.block ?_
      refine W.seq (fun K16 hK16=>?_)
      refine W.region ?_
      have hin : (i : Int) < n:=hlt
      have hjn : (j : Int) < n:=jlt
      have i0 : (0 : Int) ≤ (i : Int):=by omega
      have j0 : (0 : Int) ≤ (j : Int):=by omega
      have i24 : (i : Int) < 24:=by omega
      have j24 : (j : Int) < 24:=by omega
      refine O.ex (Ex.move rfl) rfl ?_
      refine O.ex (Ex.move rfl) rfl ?_
      refine O.ex (Ex.move rfl) rfl ?_
      refine O.callF Try.call31 rfl rfl (CT.mono (bdist_ct (v:=(i : Int)) (t:=(j : Int)) hg (Holds.to (M:=Gh g n 64 s::_) (by assumption))) ?_)
      rintro _ w (⟨hno,-⟩|⟨-,rfl,H⟩)
      · exact absurd ⟨⟨i0,hin⟩,j0,hjn⟩ hno
      replace H : Holds w (mtx b7 56 [] (far n (cG s))::Rg r n 64 s::Gh g n 64 s::base w0::[]):=Holds.to H
      refine O.ex (Ex.move rfl) rfl ?_
      refine O.ex (Ex.extract rfl rfl) rfl ?_
      refine O.ex (Ex.extract rfl rfl) rfl ?_
      refine O.ex (Ex.assign rfl) rfl ?_
      refine O.ex (Ex.assign rfl) rfl ?_
      refine O.nil ?_
      refine hK16 _ _ _ ?_
      refine W.seq (fun K17 hK17=>?_)
      refine W.region ?_
      refine O.ex (Ex.move rfl) rfl ?_
      refine O.ex (Ex.move rfl) rfl ?_
      refine O.ex (Ex.move rfl) rfl ?_
      refine O.ex (Ex.idxArr Try.runUnderlying56 Try.sizeOf55 rfl rfl) rfl ?_
      refine O.ex (Ex.idxArr Try.runUnderlying55 Try.sizeOf3 rfl rfl) rfl ?_
      refine O.ex (by first|exact Ex.loadRN Try.isAgg3 rfl|exact Ex.loadM Try.isAgg3 rfl|exact Ex.loadVc Try.isAgg3 rfl|exact Ex.loadP Try.isAgg3 rfl|exact Ex.loadInF Try.isAgg3 rfl (Holds.to (by assumption))|exact Ex.loadIn1 Try.isAgg3 rfl (Holds.to (by assumption))|exact Ex.loadMh Try.isAgg3 rfl|exact Ex.loadR Try.isAgg3 rfl|exact Ex.loadQ Try.isAgg3 rfl) rfl ?_
      refine O.ex (Ex.neqI rfl rfl) rfl ?_
      refine O.ex (Ex.move rfl) rfl ?_
      refine O.known (t:=54) (c:=false) rfl (by first|rfl|decide|exact decide_eq_false (fun hh=>hh rfl)) ?_
      refine O.guard_t rfl rfl ?_
      refine O.ex (Ex.move rfl) rfl ?_
      refine O.guard_t rfl rfl ?_
      refine O.ex (Ex.neqI rfl rfl) rfl ?_
      refine O.ex (Ex.pick_f rfl rfl) rfl ?_
      refine O.nil ?_
      refine hK17 _ _ _ ?_
      refine W.known_f rfl (by first|rfl|decide|exact decide_eq_false (fun hh=>hh rfl)) ?_
      refine W.skip ?_
      refine hK15 _ _ _ ?_
      refine W.region ?_
      refine O.ex (Ex.move rfl) rfl ?_
      refine O.ex (by first|exact Ex.addI rfl rfl|exact Ex.add rfl rfl rfl) rfl ?_
      refine O.ex (Ex.assign rfl) rfl ?_
      refine O.nil ?_
      exact ⟨j + 1,⟨rfl,rfl,rfl,rfl,rfl,trivial⟩,⟨rfl,by omega,Holds.to (by assumption)⟩,by omega⟩
    · refine W.exit ?_
      refine hK11 _ _ _ ?_
      refine W.region ?_
      refine O.ex (Ex.move rfl) rfl ?_
      refine O.ex (by first|exact Ex.addI rfl rfl|exact Ex.add rfl rfl rfl) rfl ?_
      refine O.ex (Ex.assign rfl) rfl ?_
      refine O.nil ?_
      exact ⟨i + 1,⟨rfl,rfl,rfl,rfl,trivial⟩,⟨rfl,by omega,Holds.to (by assumption)⟩,by omega⟩
  · refine W.exit ?_
    refine hK7 _ _ _ ?_
    refine W.seq (fun K18 hK18=>?_)
    refine W.region ?_
    refine O.ex (Ex.assign rfl) rfl ?_
    refine O.nil ?_
    refine hK18 _ _ _ ?_
    refine W.ret ?_
    try dsimp only [thenQ,blockQ,retQ]
    first|refine ⟨_,⟨_,_,rfl,rfl,rfl⟩,?_⟩|(refine retD_mark ?_; intro w H; refine ⟨_,⟨_,_,rfl,rfl,rfl⟩,?_⟩)|(refine retD_mark2 ?_; intro w H; refine ⟨_,⟨_,_,rfl,rfl,rfl⟩,?_⟩)
    exact ⟨rfl,Holds.base_below (L:=[]) (Holds.to (by assumption))⟩
theorem bothDists_row {w0 : World} {q : Int} {lv : Value} {l : List Chg} (hq : (Lit.int .u8 q).wf = true) (hx : SlIn w0 6 Chg.enc lv l) (hg : ∀ x ∈ l,x.ok) (hl : l.length ≤ maxLen) :
    CT Try.prog 7 [.int .u8 q,lv] w0 fun x w'=>x = .bool true ∧ RowKit.Below w0.heap.size w0 w' :=
  bothDists_ct hq hx (by unfold maxLen at hl; omega)
end Go.Proofs.Ytliofdfhimmjmaa
