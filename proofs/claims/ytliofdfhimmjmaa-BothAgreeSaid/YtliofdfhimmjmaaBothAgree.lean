import Derived.Test.YtliofdfhimmjmaaLaw11
namespace Go.Proofs.Ytliofdfhimmjmaa
open Go.Rr Go Gr Hp
set_option linter.unusedVariables false
set_option linter.unusedSimpArgs false
set_option maxHeartbeats 4000000 in
theorem bothAgree_ct {w0 : World} {q v t : Int} {lv : Value} {l : List Chg} (hq : (Lit.int .u8 q).wf = true) (hx : SlIn w0 6 Chg.enc lv l) (hl : l.length ≤ 9223372036854775807) :
    CT Try.prog 9 [.int .u8 q,lv,.int .i64 v,.int .i64 t] w0 fun x w'=>x = .bool true ∧ RowKit.Below w0.heap.size w0 w':=by
  have H:=Holds.base_refl w0
  refine CT.enter (N:=96) Try.func9 rfl rfl rfl rfl ?_
  refine W.seq (fun K0 hK0=>?_)
  refine W.region ?_
  refine O.ex (Ex.assign rfl) rfl ?_
  refine O.nil ?_
  refine hK0 _ _ _ ?_
  refine W.seq (fun K1 hK1=>?_)
  refine W.seq (fun K2 hK2=>?_)
  refine W.region ?_
  refine O.callF Try.call29 rfl rfl (CT.mono (awake11_ct (Holds.to (by assumption))) ?_)
  rintro _ w ⟨rfl,H⟩
  refine O.ex (by first|exact Ex.notD rfl|exact Ex.not rfl) rfl ?_
  refine O.nil ?_
  refine hK2 _ _ _ ?_
  refine W.known_f rfl (by first|rfl|decide|exact decide_eq_true rfl|exact decide_eq_false (fun hh=>hh rfl)|exact decide_eq_true hr.2.1|exact decide_eq_true t1) ?_
  refine W.skip ?_
  refine hK1 _ _ _ ?_
  refine W.seq (fun K3 hK3=>?_)
  refine W.region ?_
  refine O.ex (Ex.move rfl) rfl ?_
  refine O.ex (Ex.move rfl) rfl ?_
  refine O.callF Try.call11 rfl rfl (CT.mono (made08_ct hq hx hl (Holds.to (M:=base w0::_) (by assumption))) ?_)
  rintro _ w ⟨g,r,hg,rfl,H⟩
  refine O.ex (Ex.move rfl) rfl ?_
  refine O.ex (Ex.extract rfl rfl) rfl ?_
  refine O.ex (Ex.extract rfl rfl) rfl ?_
  refine O.ex (Ex.assign rfl) rfl ?_
  refine O.ex (Ex.assign rfl) rfl ?_
  refine O.nil ?_
  refine hK3 _ _ _ ?_
  refine W.seq (fun K4 hK4=>?_)
  refine W.seq (fun K5 hK5=>?_)
  refine W.region ?_
  refine O.ex (Ex.move rfl) rfl ?_
  refine O.ex (Ex.nilEq Try.runUnderlying24 rfl rfl) rfl ?_
  refine O.nil ?_
  refine hK5 _ _ _ ?_
  refine W.known_f rfl (by first|rfl|decide|exact decide_eq_true rfl|exact decide_eq_false (fun hh=>hh rfl)|exact decide_eq_true hr.2.1|exact decide_eq_true t1) ?_
  refine W.skip ?_
  refine hK4 _ _ _ ?_
  refine W.seq (fun K6 hK6=>?_)
  refine W.region ?_
  obtain ⟨s,hs⟩ : ∃ s,s = doAll (1 + q % 24) 64 noS (l.take 150):=⟨_,rfl⟩
  rw [← hs] at hg H
  obtain ⟨n,hn⟩ : ∃ n,n = 1 + q % 24:=⟨_,rfl⟩
  rw [← hn] at hg H
  have n1:=hg.n1
  have n2:=hg.n2
  have vT : 0 ≤ v → fG n s v.toNat t = far n (cG s) v t:=fun h=>by show far n (cG s) ((v.toNat : Nat) : Int) t = _; rw [Int.toNat_of_nonneg h]
  refine O.ex (Ex.move rfl) rfl ?_
  refine O.ex (Ex.move rfl) rfl ?_
  refine O.ex (Ex.move rfl) rfl ?_
  refine O.callF Try.call32 rfl rfl (CT.mono (bpath_ct hg (Holds.to (by assumption))) ?_)
  rintro _ w hh
  rcases hh with ⟨hno,rfl,H⟩|⟨hr,hF,rfl,H⟩|⟨hr,hF,rfl,H⟩|⟨hr,hm,pv,pl_,hW,hpl,rfl,hpv,H⟩
  · refine O.ex (Ex.move rfl) rfl ?_
    refine O.ex (Ex.extract rfl rfl) rfl ?_
    refine O.ex (Ex.extract rfl rfl) rfl ?_
    refine O.ex (Ex.extract rfl rfl) rfl ?_
    refine O.ex (Ex.assign rfl) rfl ?_
    refine O.ex (Ex.assign rfl) rfl ?_
    refine O.ex (Ex.assign rfl) rfl ?_
    refine O.nil ?_
    refine hK6 _ _ _ ?_
    refine W.seq (fun K7 hK7=>?_)
    refine W.region ?_
    refine O.ex (Ex.move rfl) rfl ?_
    refine O.ex (Ex.move rfl) rfl ?_
    refine O.ex (Ex.move rfl) rfl ?_
    refine O.callF Try.call12 rfl rfl (CT.mono (npath_ct hg (Holds.to (M:=Gh g n 64 s::_) (by assumption))) ?_)
    rintro _ w (⟨-,rfl,H⟩|⟨hr,-⟩|⟨hr,-⟩|⟨hr,-⟩)
    rotate_left
    · exact absurd hr hno
    · exact absurd hr hno
    · exact absurd hr hno
    refine O.ex (Ex.move rfl) rfl ?_
    refine O.ex (Ex.extract rfl rfl) rfl ?_
    refine O.ex (Ex.extract rfl rfl) rfl ?_
    refine O.ex (Ex.extract rfl rfl) rfl ?_
    refine O.ex (Ex.assign rfl) rfl ?_
    refine O.ex (Ex.assign rfl) rfl ?_
    refine O.ex (Ex.assign rfl) rfl ?_
    refine O.nil ?_
    refine hK7 _ _ _ ?_
    refine W.seq (fun K8 hK8=>?_)
    refine W.seq (fun K9 hK9=>?_)
    refine W.region ?_
    refine O.ex (Ex.move rfl) rfl ?_
    refine O.ex (Ex.move rfl) rfl ?_
    refine O.ex (Ex.neqI rfl rfl) rfl ?_
    refine O.ex (Ex.move rfl) rfl ?_
    refine O.known (t:=50) (c:=false) rfl (by first|rfl|decide|exact decide_eq_true rfl|exact decide_eq_false (fun hh=>hh rfl)|exact decide_eq_true hr.2.1|exact decide_eq_true t1) ?_
    refine O.guard_t rfl rfl ?_
    refine O.ex (Ex.move rfl) rfl ?_
    refine O.guard_t rfl rfl ?_
    refine O.ex (Ex.move rfl) rfl ?_
    refine O.guard_t rfl rfl ?_
    refine O.ex (Ex.neqI rfl rfl) rfl ?_
    refine O.ex (Ex.pick_f rfl rfl) rfl ?_
    refine O.nil ?_
    refine hK9 _ _ _ ?_
    refine W.known_f rfl (by first|rfl|decide|exact decide_eq_true rfl|exact decide_eq_false (fun hh=>hh rfl)|exact decide_eq_true hr.2.1|exact decide_eq_true t1) ?_
    refine W.skip ?_
    refine hK8 _ _ _ ?_
    refine W.seq (fun K10 hK10=>?_)
    refine W.region ?_
    refine O.ex (Ex.move rfl) rfl ?_
    refine O.ex (Ex.move rfl) rfl ?_
    refine O.ex (Ex.move rfl) rfl ?_
    refine O.callF Try.call31 rfl rfl (CT.mono (bdist_ct hg (Holds.to (M:=Gh g n 64 s::_) (by assumption))) ?_)
    rintro _ w (⟨-,rfl,H⟩|⟨hr,-⟩)
    rotate_left
    · exact absurd hr hno
    refine O.ex (Ex.move rfl) rfl ?_
    refine O.ex (Ex.extract rfl rfl) rfl ?_
    refine O.ex (Ex.extract rfl rfl) rfl ?_
    refine O.ex (Ex.assign rfl) rfl ?_
    refine O.ex (Ex.assign rfl) rfl ?_
    refine O.nil ?_
    refine hK10 _ _ _ ?_
    refine W.seq (fun K11 hK11=>?_)
    refine W.region ?_
    refine O.ex (Ex.move rfl) rfl ?_
    refine O.ex (Ex.move rfl) rfl ?_
    refine O.callF Try.call20 rfl rfl (CT.mono (nfromX_ct hg (Holds.to (M:=Gh g n 64 s::_) (by assumption))) ?_)
    rintro _ w ⟨fv,fe,S,rfl,hfv,H⟩
    refine O.ex (Ex.move rfl) rfl ?_
    refine O.ex (Ex.extract rfl rfl) rfl ?_
    refine O.ex (Ex.extract rfl rfl) rfl ?_
    refine O.ex (Ex.assign rfl) rfl ?_
    refine O.ex (Ex.assign rfl) rfl ?_
    refine O.nil ?_
    refine hK11 _ _ _ ?_
    refine W.seq (fun K12 hK12=>?_)
    refine W.seq (fun K13 hK13=>?_)
    refine W.region ?_
    refine O.ex (Ex.move rfl) rfl ?_
    refine O.ex (Ex.neqI rfl rfl) rfl ?_
    refine O.nil ?_
    refine hK13 _ _ _ ?_
    refine W.known_t rfl (by first|rfl|decide|exact decide_eq_true rfl|exact decide_eq_false (fun hh=>hh rfl)|exact decide_eq_true hr.2.1|exact decide_eq_true t1) ?_
    refine W.seq (fun K14 hK14=>?_)
    refine W.region ?_
    refine O.ex (Ex.move rfl) rfl ?_
    refine O.ex (Ex.move rfl) rfl ?_
    refine O.callF Try.call13 rfl rfl (CT.mono (rvertex_ct (Holds.to (M:=Rg r n 64 s::_) (by assumption))) ?_)
    rintro _ w ⟨rfl,H⟩
    refine O.ex (by first|exact Ex.notD rfl|exact Ex.not rfl) rfl ?_
    refine O.ex (Ex.move rfl) rfl ?_
    first|refine O.split_p (t:=74) rfl (fun ha=>?_) (fun hb=>?_)|refine O.split (t:=74) rfl (fun ha=>?_) (fun hb=>?_)
    · refine O.guard_f rfl rfl rfl rfl ?_
      refine O.guard_f rfl rfl rfl rfl ?_
      refine O.guard_f rfl rfl rfl rfl ?_
      refine O.guard_f rfl rfl rfl rfl ?_
      refine O.ex (Ex.pick_t rfl rfl) rfl ?_
      refine O.ex (Ex.assign rfl) rfl ?_
      refine O.nil ?_
      refine hK14 _ _ _ ?_
      refine W.ret ?_
      try dsimp only [thenQ,blockQ,retQ]
      first|refine ⟨_,⟨_,_,rfl,rfl,rfl⟩,?_⟩|(refine retD_mark ?_; intro w H; refine ⟨_,⟨_,_,rfl,rfl,rfl⟩,?_⟩)|(refine retD_mark2 ?_; intro w H; refine ⟨_,⟨_,_,rfl,rfl,rfl⟩,?_⟩)
      first
      | exact ⟨rfl,Holds.base_below (L:=[]) (Holds.to (by assumption))⟩
      | (have hb2 : ¬ (0 ≤ t ∧ t < n):=fun h=>hno ⟨by simpa using hb,h⟩
         exact ⟨congrArg Value.bool (decide_eq_true hb2),Holds.base_below (L:=[]) (Holds.to (by assumption))⟩)
      | exact ⟨congrArg Value.bool (decide_eq_true rfl),Holds.base_below (L:=[]) (Holds.to (by assumption))⟩
    · refine O.guard_t rfl rfl ?_
      refine O.ex (Ex.move rfl) rfl ?_
      refine O.guard_t rfl rfl ?_
      refine O.ex (Ex.move rfl) rfl ?_
      refine O.guard_t rfl rfl ?_
      refine O.callF Try.call13 rfl rfl (CT.mono (rvertex_ct (Holds.to (M:=Rg r n 64 s::_) (by assumption))) ?_)
      rintro _ w ⟨rfl,H⟩
      refine O.guard_t rfl rfl ?_
      refine O.ex (by first|exact Ex.notD rfl|exact Ex.not rfl) rfl ?_
      refine O.ex (Ex.pick_f rfl rfl) rfl ?_
      refine O.ex (Ex.assign rfl) rfl ?_
      refine O.nil ?_
      refine hK14 _ _ _ ?_
      refine W.ret ?_
      try dsimp only [thenQ,blockQ,retQ]
      first|refine ⟨_,⟨_,_,rfl,rfl,rfl⟩,?_⟩|(refine retD_mark ?_; intro w H; refine ⟨_,⟨_,_,rfl,rfl,rfl⟩,?_⟩)|(refine retD_mark2 ?_; intro w H; refine ⟨_,⟨_,_,rfl,rfl,rfl⟩,?_⟩)
      first
      | exact ⟨rfl,Holds.base_below (L:=[]) (Holds.to (by assumption))⟩
      | (have hb2 : ¬ (0 ≤ t ∧ t < n):=fun h=>hno ⟨by simpa using hb,h⟩
         exact ⟨congrArg Value.bool (decide_eq_true hb2),Holds.base_below (L:=[]) (Holds.to (by assumption))⟩)
      | exact ⟨congrArg Value.bool (decide_eq_true rfl),Holds.base_below (L:=[]) (Holds.to (by assumption))⟩
  · refine O.ex (Ex.move rfl) rfl ?_
    refine O.ex (Ex.extract rfl rfl) rfl ?_
    refine O.ex (Ex.extract rfl rfl) rfl ?_
    refine O.ex (Ex.extract rfl rfl) rfl ?_
    refine O.ex (Ex.assign rfl) rfl ?_
    refine O.ex (Ex.assign rfl) rfl ?_
    refine O.ex (Ex.assign rfl) rfl ?_
    refine O.nil ?_
    refine hK6 _ _ _ ?_
    refine W.seq (fun K15 hK15=>?_)
    refine W.region ?_
    refine O.ex (Ex.move rfl) rfl ?_
    refine O.ex (Ex.move rfl) rfl ?_
    refine O.ex (Ex.move rfl) rfl ?_
    refine O.callF Try.call12 rfl rfl (CT.mono (npath_ct hg (Holds.to (M:=Gh g n 64 s::_) (by assumption))) ?_)
    rintro _ w (⟨hno,-⟩|⟨-,-,rfl,H⟩|⟨-,hF2,-⟩|⟨-,hm2,-⟩)
    · exact absurd hr hno
    rotate_left
    · rw [vT hr.1.1] at hF2; omega
    · rw [vT hr.1.1] at hm2; omega
    refine O.ex (Ex.move rfl) rfl ?_
    refine O.ex (Ex.extract rfl rfl) rfl ?_
    refine O.ex (Ex.extract rfl rfl) rfl ?_
    refine O.ex (Ex.extract rfl rfl) rfl ?_
    refine O.ex (Ex.assign rfl) rfl ?_
    refine O.ex (Ex.assign rfl) rfl ?_
    refine O.ex (Ex.assign rfl) rfl ?_
    refine O.nil ?_
    refine hK15 _ _ _ ?_
    refine W.seq (fun K16 hK16=>?_)
    refine W.seq (fun K17 hK17=>?_)
    refine W.region ?_
    refine O.ex (Ex.move rfl) rfl ?_
    refine O.ex (Ex.move rfl) rfl ?_
    refine O.ex (Ex.neqI rfl rfl) rfl ?_
    refine O.ex (Ex.move rfl) rfl ?_
    refine O.known (t:=50) (c:=false) rfl (by first|rfl|decide|exact decide_eq_true rfl|exact decide_eq_false (fun hh=>hh rfl)|exact decide_eq_true hr.2.1|exact decide_eq_true t1) ?_
    refine O.guard_t rfl rfl ?_
    refine O.ex (Ex.move rfl) rfl ?_
    refine O.guard_t rfl rfl ?_
    refine O.ex (Ex.move rfl) rfl ?_
    refine O.guard_t rfl rfl ?_
    refine O.ex (Ex.neqI rfl rfl) rfl ?_
    refine O.ex (Ex.pick_f rfl rfl) rfl ?_
    refine O.nil ?_
    refine hK17 _ _ _ ?_
    refine W.known_f rfl (by first|rfl|decide|exact decide_eq_true rfl|exact decide_eq_false (fun hh=>hh rfl)|exact decide_eq_true hr.2.1|exact decide_eq_true t1) ?_
    refine W.skip ?_
    refine hK16 _ _ _ ?_
    refine W.seq (fun K18 hK18=>?_)
    refine W.region ?_
    refine O.ex (Ex.move rfl) rfl ?_
    refine O.ex (Ex.move rfl) rfl ?_
    refine O.ex (Ex.move rfl) rfl ?_
    refine O.callF Try.call31 rfl rfl (CT.mono (bdist_ct hg (Holds.to (M:=Gh g n 64 s::_) (by assumption))) ?_)
    rintro _ w (⟨hno,-⟩|⟨-,rfl,H⟩)
    · exact absurd hr hno
    refine O.ex (Ex.move rfl) rfl ?_
    refine O.ex (Ex.extract rfl rfl) rfl ?_
    refine O.ex (Ex.extract rfl rfl) rfl ?_
    refine O.ex (Ex.assign rfl) rfl ?_
    refine O.ex (Ex.assign rfl) rfl ?_
    refine O.nil ?_
    refine hK18 _ _ _ ?_
    refine W.seq (fun K19 hK19=>?_)
    refine W.region ?_
    refine O.ex (Ex.move rfl) rfl ?_
    refine O.ex (Ex.move rfl) rfl ?_
    refine O.callF Try.call20 rfl rfl (CT.mono (nfromG_ct hg hr.1.1 hr.1.2 (Holds.to (M:=Gh g n 64 s::_) (by assumption))) ?_)
    rintro _ w ⟨fv,rfl,hfv,H⟩
    have hFl:=farL_len n (cG s) v.toNat
    have t0:=hr.2.1
    have vT2 : ((v.toNat : Nat) : Int) = v:=by omega
    have t1 : t < ((farL n (cG s) v.toNat).length : Int):=by rw [hFl]; omega
    have eft : (farL n (cG s) v.toNat).getD t.toNat default = far n (cG s) v t:=by rw [farL_get hr.2.1 hr.2.2,vT2]
    replace H:=Holds.to (M:=arr 3 (Value.int .i64) fv (farL n (cG s) v.toNat)::_) H
    refine O.ex (Ex.move rfl) rfl ?_
    refine O.ex (Ex.extract rfl rfl) rfl ?_
    refine O.ex (Ex.extract rfl rfl) rfl ?_
    refine O.ex (Ex.assign rfl) rfl ?_
    refine O.ex (Ex.assign rfl) rfl ?_
    refine O.nil ?_
    refine hK19 _ _ _ ?_
    refine W.seq (fun K20 hK20=>?_)
    refine W.seq (fun K21 hK21=>?_)
    refine W.region ?_
    refine O.ex (Ex.move rfl) rfl ?_
    refine O.ex (Ex.neqI rfl rfl) rfl ?_
    refine O.nil ?_
    refine hK21 _ _ _ ?_
    refine W.known_f rfl (by first|rfl|decide|exact decide_eq_true rfl|exact decide_eq_false (fun hh=>hh rfl)|exact decide_eq_true hr.2.1|exact decide_eq_true t1) ?_
    refine W.skip ?_
    refine hK20 _ _ _ ?_
    refine W.seq (fun K22 hK22=>?_)
    refine W.region ?_
    refine O.ex (Ex.move rfl) rfl ?_
    refine O.ex (Ex.geq rfl rfl) rfl ?_
    refine O.ex (Ex.move rfl) rfl ?_
    refine O.known (t:=82) (c:=true) rfl (by first|rfl|decide|exact decide_eq_true rfl|exact decide_eq_false (fun hh=>hh rfl)|exact decide_eq_true hr.2.1|exact decide_eq_true t1) ?_
    refine O.guard_t rfl rfl ?_
    refine O.ex (Ex.move rfl) rfl ?_
    refine O.guard_t rfl rfl ?_
    refine O.ex (Ex.move rfl) rfl ?_
    refine O.guard_t rfl rfl ?_
    refine O.ex (by first|exact Ex.lenR Try.runUnderlying28 rfl|exact Ex.lenIn Try.runUnderlying28 rfl|exact Ex.lenL Try.runUnderlying28 rfl|exact Ex.len rfl Try.runUnderlying28 rfl) rfl ?_
    refine O.guard_t rfl rfl ?_
    refine O.ex (Ex.lss rfl rfl) rfl ?_
    refine O.ex (Ex.pick_t rfl rfl) rfl ?_
    refine O.ex (Ex.move rfl) rfl ?_
    refine O.known (t:=88) (c:=true) rfl (by first|rfl|decide|exact decide_eq_true rfl|exact decide_eq_false (fun hh=>hh rfl)|exact decide_eq_true hr.2.1|exact decide_eq_true t1) ?_
    refine O.guard_t rfl rfl ?_
    refine O.ex (Ex.move rfl) rfl ?_
    refine O.guard_t rfl rfl ?_
    refine O.ex (Ex.move rfl) rfl ?_
    refine O.guard_t rfl rfl ?_
    refine O.ex (by first|exact Ex.idxR Try.runUnderlying28 Try.sizeOf3 rfl rfl|exact Ex.idxIn Try.runUnderlying28 Try.sizeOf3 rfl rfl|exact Ex.idxS Try.runUnderlying28 Try.sizeOf3 rfl rfl|exact Ex.idx Try.runUnderlying28 Try.sizeOf3 rfl rfl (by omega) (by omega)) rfl ?_
    refine O.guard_t rfl rfl ?_
    refine O.ex (Ex.cast (v:=.int .i64 (far n (cG s) v t)) (Ex.loadR (xs:=farL n (cG s) v.toNat) Try.isAgg3 rfl) (by rw [eft])) rfl ?_
    refine O.guard_t rfl rfl ?_
    refine O.ex (Ex.move rfl) rfl ?_
    refine O.guard_t rfl rfl ?_
    refine O.ex (Ex.eqlI rfl rfl) rfl ?_
    refine O.ex (Ex.pick_t rfl rfl) rfl ?_
    refine O.ex (Ex.assign rfl) rfl ?_
    refine O.nil ?_
    refine hK22 _ _ _ ?_
    refine W.ret ?_
    try dsimp only [thenQ,blockQ,retQ]
    first|refine ⟨_,⟨_,_,rfl,rfl,rfl⟩,?_⟩|(refine retD_mark ?_; intro w H; refine ⟨_,⟨_,_,rfl,rfl,rfl⟩,?_⟩)|(refine retD_mark2 ?_; intro w H; refine ⟨_,⟨_,_,rfl,rfl,rfl⟩,?_⟩)
    first
    | exact ⟨rfl,Holds.base_below (L:=[]) (Holds.to (by assumption))⟩
    | (have hb2 : ¬ (0 ≤ t ∧ t < n):=fun h=>hno ⟨by simpa using hb,h⟩
       exact ⟨congrArg Value.bool (decide_eq_true hb2),Holds.base_below (L:=[]) (Holds.to (by assumption))⟩)
    | exact ⟨congrArg Value.bool (decide_eq_true rfl),Holds.base_below (L:=[]) (Holds.to (by assumption))⟩
  · refine O.ex (Ex.move rfl) rfl ?_
    refine O.ex (Ex.extract rfl rfl) rfl ?_
    refine O.ex (Ex.extract rfl rfl) rfl ?_
    refine O.ex (Ex.extract rfl rfl) rfl ?_
    refine O.ex (Ex.assign rfl) rfl ?_
    refine O.ex (Ex.assign rfl) rfl ?_
    refine O.ex (Ex.assign rfl) rfl ?_
    refine O.nil ?_
    refine hK6 _ _ _ ?_
    refine W.seq (fun K23 hK23=>?_)
    refine W.region ?_
    refine O.ex (Ex.move rfl) rfl ?_
    refine O.ex (Ex.move rfl) rfl ?_
    refine O.ex (Ex.move rfl) rfl ?_
    refine O.callF Try.call12 rfl rfl (CT.mono (npath_ct hg (Holds.to (M:=Gh g n 64 s::_) (by assumption))) ?_)
    rintro _ w (⟨hno,-⟩|⟨-,hF2,-⟩|⟨-,-,rfl,H⟩|⟨-,hm2,-⟩)
    · exact absurd hr hno
    · rw [vT hr.1.1] at hF2; omega
    rotate_left
    · rw [vT hr.1.1] at hm2; omega
    refine O.ex (Ex.move rfl) rfl ?_
    refine O.ex (Ex.extract rfl rfl) rfl ?_
    refine O.ex (Ex.extract rfl rfl) rfl ?_
    refine O.ex (Ex.extract rfl rfl) rfl ?_
    refine O.ex (Ex.assign rfl) rfl ?_
    refine O.ex (Ex.assign rfl) rfl ?_
    refine O.ex (Ex.assign rfl) rfl ?_
    refine O.nil ?_
    refine hK23 _ _ _ ?_
    refine W.seq (fun K24 hK24=>?_)
    refine W.seq (fun K25 hK25=>?_)
    refine W.region ?_
    refine O.ex (Ex.move rfl) rfl ?_
    refine O.ex (Ex.move rfl) rfl ?_
    refine O.ex (Ex.neqI rfl rfl) rfl ?_
    refine O.ex (Ex.move rfl) rfl ?_
    refine O.known (t:=50) (c:=false) rfl (by first|rfl|decide|exact decide_eq_true rfl|exact decide_eq_false (fun hh=>hh rfl)|exact decide_eq_true hr.2.1|exact decide_eq_true t1) ?_
    refine O.guard_t rfl rfl ?_
    refine O.ex (Ex.move rfl) rfl ?_
    refine O.guard_t rfl rfl ?_
    refine O.ex (Ex.move rfl) rfl ?_
    refine O.guard_t rfl rfl ?_
    refine O.ex (Ex.neqI rfl rfl) rfl ?_
    refine O.ex (Ex.pick_f rfl rfl) rfl ?_
    refine O.nil ?_
    refine hK25 _ _ _ ?_
    refine W.known_f rfl (by first|rfl|decide|exact decide_eq_true rfl|exact decide_eq_false (fun hh=>hh rfl)|exact decide_eq_true hr.2.1|exact decide_eq_true t1) ?_
    refine W.skip ?_
    refine hK24 _ _ _ ?_
    refine W.seq (fun K26 hK26=>?_)
    refine W.region ?_
    refine O.ex (Ex.move rfl) rfl ?_
    refine O.ex (Ex.move rfl) rfl ?_
    refine O.ex (Ex.move rfl) rfl ?_
    refine O.callF Try.call31 rfl rfl (CT.mono (bdist_ct hg (Holds.to (M:=Gh g n 64 s::_) (by assumption))) ?_)
    rintro _ w (⟨hno,-⟩|⟨-,rfl,H⟩)
    · exact absurd hr hno
    refine O.ex (Ex.move rfl) rfl ?_
    refine O.ex (Ex.extract rfl rfl) rfl ?_
    refine O.ex (Ex.extract rfl rfl) rfl ?_
    refine O.ex (Ex.assign rfl) rfl ?_
    refine O.ex (Ex.assign rfl) rfl ?_
    refine O.nil ?_
    refine hK26 _ _ _ ?_
    refine W.seq (fun K27 hK27=>?_)
    refine W.region ?_
    refine O.ex (Ex.move rfl) rfl ?_
    refine O.ex (Ex.move rfl) rfl ?_
    refine O.callF Try.call20 rfl rfl (CT.mono (nfromG_ct hg hr.1.1 hr.1.2 (Holds.to (M:=Gh g n 64 s::_) (by assumption))) ?_)
    rintro _ w ⟨fv,rfl,hfv,H⟩
    have hFl:=farL_len n (cG s) v.toNat
    have t0:=hr.2.1
    have vT2 : ((v.toNat : Nat) : Int) = v:=by omega
    have t1 : t < ((farL n (cG s) v.toNat).length : Int):=by rw [hFl]; omega
    have eft : (farL n (cG s) v.toNat).getD t.toNat default = far n (cG s) v t:=by rw [farL_get hr.2.1 hr.2.2,vT2]
    replace H:=Holds.to (M:=arr 3 (Value.int .i64) fv (farL n (cG s) v.toNat)::_) H
    refine O.ex (Ex.move rfl) rfl ?_
    refine O.ex (Ex.extract rfl rfl) rfl ?_
    refine O.ex (Ex.extract rfl rfl) rfl ?_
    refine O.ex (Ex.assign rfl) rfl ?_
    refine O.ex (Ex.assign rfl) rfl ?_
    refine O.nil ?_
    refine hK27 _ _ _ ?_
    refine W.seq (fun K28 hK28=>?_)
    refine W.seq (fun K29 hK29=>?_)
    refine W.region ?_
    refine O.ex (Ex.move rfl) rfl ?_
    refine O.ex (Ex.neqI rfl rfl) rfl ?_
    refine O.nil ?_
    refine hK29 _ _ _ ?_
    refine W.known_f rfl (by first|rfl|decide|exact decide_eq_true rfl|exact decide_eq_false (fun hh=>hh rfl)|exact decide_eq_true hr.2.1|exact decide_eq_true t1) ?_
    refine W.skip ?_
    refine hK28 _ _ _ ?_
    refine W.seq (fun K30 hK30=>?_)
    refine W.region ?_
    refine O.ex (Ex.move rfl) rfl ?_
    refine O.ex (Ex.geq rfl rfl) rfl ?_
    refine O.ex (Ex.move rfl) rfl ?_
    refine O.known (t:=82) (c:=true) rfl (by first|rfl|decide|exact decide_eq_true rfl|exact decide_eq_false (fun hh=>hh rfl)|exact decide_eq_true hr.2.1|exact decide_eq_true t1) ?_
    refine O.guard_t rfl rfl ?_
    refine O.ex (Ex.move rfl) rfl ?_
    refine O.guard_t rfl rfl ?_
    refine O.ex (Ex.move rfl) rfl ?_
    refine O.guard_t rfl rfl ?_
    refine O.ex (by first|exact Ex.lenR Try.runUnderlying28 rfl|exact Ex.lenIn Try.runUnderlying28 rfl|exact Ex.lenL Try.runUnderlying28 rfl|exact Ex.len rfl Try.runUnderlying28 rfl) rfl ?_
    refine O.guard_t rfl rfl ?_
    refine O.ex (Ex.lss rfl rfl) rfl ?_
    refine O.ex (Ex.pick_t rfl rfl) rfl ?_
    refine O.ex (Ex.move rfl) rfl ?_
    refine O.known (t:=88) (c:=true) rfl (by first|rfl|decide|exact decide_eq_true rfl|exact decide_eq_false (fun hh=>hh rfl)|exact decide_eq_true hr.2.1|exact decide_eq_true t1) ?_
    refine O.guard_t rfl rfl ?_
    refine O.ex (Ex.move rfl) rfl ?_
    refine O.guard_t rfl rfl ?_
    refine O.ex (Ex.move rfl) rfl ?_
    refine O.guard_t rfl rfl ?_
    refine O.ex (by first|exact Ex.idxR Try.runUnderlying28 Try.sizeOf3 rfl rfl|exact Ex.idxIn Try.runUnderlying28 Try.sizeOf3 rfl rfl|exact Ex.idxS Try.runUnderlying28 Try.sizeOf3 rfl rfl|exact Ex.idx Try.runUnderlying28 Try.sizeOf3 rfl rfl (by omega) (by omega)) rfl ?_
    refine O.guard_t rfl rfl ?_
    refine O.ex (Ex.cast (v:=.int .i64 (far n (cG s) v t)) (Ex.loadR (xs:=farL n (cG s) v.toNat) Try.isAgg3 rfl) (by rw [eft])) rfl ?_
    refine O.guard_t rfl rfl ?_
    refine O.ex (Ex.move rfl) rfl ?_
    refine O.guard_t rfl rfl ?_
    refine O.ex (Ex.eqlI rfl rfl) rfl ?_
    refine O.ex (Ex.pick_t rfl rfl) rfl ?_
    refine O.ex (Ex.assign rfl) rfl ?_
    refine O.nil ?_
    refine hK30 _ _ _ ?_
    refine W.ret ?_
    try dsimp only [thenQ,blockQ,retQ]
    first|refine ⟨_,⟨_,_,rfl,rfl,rfl⟩,?_⟩|(refine retD_mark ?_; intro w H; refine ⟨_,⟨_,_,rfl,rfl,rfl⟩,?_⟩)|(refine retD_mark2 ?_; intro w H; refine ⟨_,⟨_,_,rfl,rfl,rfl⟩,?_⟩)
    first
    | exact ⟨rfl,Holds.base_below (L:=[]) (Holds.to (by assumption))⟩
    | (have hb2 : ¬ (0 ≤ t ∧ t < n):=fun h=>hno ⟨by simpa using hb,h⟩
       exact ⟨congrArg Value.bool (decide_eq_true hb2),Holds.base_below (L:=[]) (Holds.to (by assumption))⟩)
    | exact ⟨congrArg Value.bool (decide_eq_true rfl),Holds.base_below (L:=[]) (Holds.to (by assumption))⟩
  · refine O.ex (Ex.move rfl) rfl ?_
    refine O.ex (Ex.extract rfl rfl) rfl ?_
    refine O.ex (Ex.extract rfl rfl) rfl ?_
    refine O.ex (Ex.extract rfl rfl) rfl ?_
    refine O.ex (Ex.assign rfl) rfl ?_
    refine O.ex (Ex.assign rfl) rfl ?_
    refine O.ex (Ex.assign rfl) rfl ?_
    refine O.nil ?_
    refine hK6 _ _ _ ?_
    refine W.seq (fun K31 hK31=>?_)
    refine W.region ?_
    refine O.ex (Ex.move rfl) rfl ?_
    refine O.ex (Ex.move rfl) rfl ?_
    refine O.ex (Ex.move rfl) rfl ?_
    refine O.callF Try.call12 rfl rfl (CT.mono (npath_ct hg (Holds.to (M:=Gh g n 64 s::_) (by assumption))) ?_)
    rintro _ w (⟨hno,-⟩|⟨-,hF2,-⟩|⟨-,hF2,-⟩|⟨-,-,qv,k,-,-,rfl,hqv,H⟩)
    · exact absurd hr hno
    · rw [vT hr.1.1] at hF2; omega
    · rw [vT hr.1.1] at hF2; omega
    rw [vT hr.1.1]
    refine O.ex (Ex.move rfl) rfl ?_
    refine O.ex (Ex.extract rfl rfl) rfl ?_
    refine O.ex (Ex.extract rfl rfl) rfl ?_
    refine O.ex (Ex.extract rfl rfl) rfl ?_
    refine O.ex (Ex.assign rfl) rfl ?_
    refine O.ex (Ex.assign rfl) rfl ?_
    refine O.ex (Ex.assign rfl) rfl ?_
    refine O.nil ?_
    refine hK31 _ _ _ ?_
    refine W.seq (fun K32 hK32=>?_)
    refine W.seq (fun K33 hK33=>?_)
    refine W.region ?_
    refine O.ex (Ex.move rfl) rfl ?_
    refine O.ex (Ex.move rfl) rfl ?_
    refine O.ex (Ex.neqI rfl rfl) rfl ?_
    refine O.ex (Ex.move rfl) rfl ?_
    refine O.known (t:=50) (c:=false) rfl (by first|rfl|decide|exact decide_eq_true rfl|exact decide_eq_false (fun hh=>hh rfl)|exact decide_eq_true hr.2.1|exact decide_eq_true t1) ?_
    refine O.guard_t rfl rfl ?_
    refine O.ex (Ex.move rfl) rfl ?_
    refine O.guard_t rfl rfl ?_
    refine O.ex (Ex.move rfl) rfl ?_
    refine O.guard_t rfl rfl ?_
    refine O.ex (Ex.neqI rfl rfl) rfl ?_
    refine O.ex (Ex.pick_f rfl rfl) rfl ?_
    refine O.nil ?_
    refine hK33 _ _ _ ?_
    refine W.known_f rfl (by first|rfl|decide|exact decide_eq_true rfl|exact decide_eq_false (fun hh=>hh rfl)|exact decide_eq_true hr.2.1|exact decide_eq_true t1) ?_
    refine W.skip ?_
    refine hK32 _ _ _ ?_
    refine W.seq (fun K34 hK34=>?_)
    refine W.region ?_
    refine O.ex (Ex.move rfl) rfl ?_
    refine O.ex (Ex.move rfl) rfl ?_
    refine O.ex (Ex.move rfl) rfl ?_
    refine O.callF Try.call31 rfl rfl (CT.mono (bdist_ct hg (Holds.to (M:=Gh g n 64 s::_) (by assumption))) ?_)
    rintro _ w (⟨hno,-⟩|⟨-,rfl,H⟩)
    · exact absurd hr hno
    refine O.ex (Ex.move rfl) rfl ?_
    refine O.ex (Ex.extract rfl rfl) rfl ?_
    refine O.ex (Ex.extract rfl rfl) rfl ?_
    refine O.ex (Ex.assign rfl) rfl ?_
    refine O.ex (Ex.assign rfl) rfl ?_
    refine O.nil ?_
    refine hK34 _ _ _ ?_
    refine W.seq (fun K35 hK35=>?_)
    refine W.region ?_
    refine O.ex (Ex.move rfl) rfl ?_
    refine O.ex (Ex.move rfl) rfl ?_
    refine O.callF Try.call20 rfl rfl (CT.mono (nfromG_ct hg hr.1.1 hr.1.2 (Holds.to (M:=Gh g n 64 s::_) (by assumption))) ?_)
    rintro _ w ⟨fv,rfl,hfv,H⟩
    have hFl:=farL_len n (cG s) v.toNat
    have t0:=hr.2.1
    have vT2 : ((v.toNat : Nat) : Int) = v:=by omega
    have t1 : t < ((farL n (cG s) v.toNat).length : Int):=by rw [hFl]; omega
    have eft : (farL n (cG s) v.toNat).getD t.toNat default = far n (cG s) v t:=by rw [farL_get hr.2.1 hr.2.2,vT2]
    replace H:=Holds.to (M:=arr 3 (Value.int .i64) fv (farL n (cG s) v.toNat)::_) H
    refine O.ex (Ex.move rfl) rfl ?_
    refine O.ex (Ex.extract rfl rfl) rfl ?_
    refine O.ex (Ex.extract rfl rfl) rfl ?_
    refine O.ex (Ex.assign rfl) rfl ?_
    refine O.ex (Ex.assign rfl) rfl ?_
    refine O.nil ?_
    refine hK35 _ _ _ ?_
    refine W.seq (fun K36 hK36=>?_)
    refine W.seq (fun K37 hK37=>?_)
    refine W.region ?_
    refine O.ex (Ex.move rfl) rfl ?_
    refine O.ex (Ex.neqI rfl rfl) rfl ?_
    refine O.nil ?_
    refine hK37 _ _ _ ?_
    refine W.known_f rfl (by first|rfl|decide|exact decide_eq_true rfl|exact decide_eq_false (fun hh=>hh rfl)|exact decide_eq_true hr.2.1|exact decide_eq_true t1) ?_
    refine W.skip ?_
    refine hK36 _ _ _ ?_
    refine W.seq (fun K38 hK38=>?_)
    refine W.region ?_
    refine O.ex (Ex.move rfl) rfl ?_
    refine O.ex (Ex.geq rfl rfl) rfl ?_
    refine O.ex (Ex.move rfl) rfl ?_
    refine O.known (t:=82) (c:=true) rfl (by first|rfl|decide|exact decide_eq_true rfl|exact decide_eq_false (fun hh=>hh rfl)|exact decide_eq_true hr.2.1|exact decide_eq_true t1) ?_
    refine O.guard_t rfl rfl ?_
    refine O.ex (Ex.move rfl) rfl ?_
    refine O.guard_t rfl rfl ?_
    refine O.ex (Ex.move rfl) rfl ?_
    refine O.guard_t rfl rfl ?_
    refine O.ex (by first|exact Ex.lenR Try.runUnderlying28 rfl|exact Ex.lenIn Try.runUnderlying28 rfl|exact Ex.lenL Try.runUnderlying28 rfl|exact Ex.len rfl Try.runUnderlying28 rfl) rfl ?_
    refine O.guard_t rfl rfl ?_
    refine O.ex (Ex.lss rfl rfl) rfl ?_
    refine O.ex (Ex.pick_t rfl rfl) rfl ?_
    refine O.ex (Ex.move rfl) rfl ?_
    refine O.known (t:=88) (c:=true) rfl (by first|rfl|decide|exact decide_eq_true rfl|exact decide_eq_false (fun hh=>hh rfl)|exact decide_eq_true hr.2.1|exact decide_eq_true t1) ?_
    refine O.guard_t rfl rfl ?_
    refine O.ex (Ex.move rfl) rfl ?_
    refine O.guard_t rfl rfl ?_
    refine O.ex (Ex.move rfl) rfl ?_
    refine O.guard_t rfl rfl ?_
    refine O.ex (by first|exact Ex.idxR Try.runUnderlying28 Try.sizeOf3 rfl rfl|exact Ex.idxIn Try.runUnderlying28 Try.sizeOf3 rfl rfl|exact Ex.idxS Try.runUnderlying28 Try.sizeOf3 rfl rfl|exact Ex.idx Try.runUnderlying28 Try.sizeOf3 rfl rfl (by omega) (by omega)) rfl ?_
    refine O.guard_t rfl rfl ?_
    refine O.ex (Ex.cast (v:=.int .i64 (far n (cG s) v t)) (Ex.loadR (xs:=farL n (cG s) v.toNat) Try.isAgg3 rfl) (by rw [eft])) rfl ?_
    refine O.guard_t rfl rfl ?_
    refine O.ex (Ex.move rfl) rfl ?_
    refine O.guard_t rfl rfl ?_
    refine O.ex (Ex.eqlI rfl rfl) rfl ?_
    refine O.ex (Ex.pick_t rfl rfl) rfl ?_
    refine O.ex (Ex.assign rfl) rfl ?_
    refine O.nil ?_
    refine hK38 _ _ _ ?_
    refine W.ret ?_
    try dsimp only [thenQ,blockQ,retQ]
    first|refine ⟨_,⟨_,_,rfl,rfl,rfl⟩,?_⟩|(refine retD_mark ?_; intro w H; refine ⟨_,⟨_,_,rfl,rfl,rfl⟩,?_⟩)|(refine retD_mark2 ?_; intro w H; refine ⟨_,⟨_,_,rfl,rfl,rfl⟩,?_⟩)
    first
    | exact ⟨rfl,Holds.base_below (L:=[]) (Holds.to (by assumption))⟩
    | (have hb2 : ¬ (0 ≤ t ∧ t < n):=fun h=>hno ⟨by simpa using hb,h⟩
       exact ⟨congrArg Value.bool (decide_eq_true hb2),Holds.base_below (L:=[]) (Holds.to (by assumption))⟩)
    | exact ⟨congrArg Value.bool (decide_eq_true rfl),Holds.base_below (L:=[]) (Holds.to (by assumption))⟩
theorem bothAgree_row {w0 : World} {q v t : Int} {lv : Value} {l : List Chg} (hq : (Lit.int .u8 q).wf = true) (hx : SlIn w0 6 Chg.enc lv l) (hg : ∀ x ∈ l,x.ok) (hl : l.length ≤ maxLen) (hv : (Lit.int .i64 v).wf = true) (ht : (Lit.int .i64 t).wf = true) :
    CT Try.prog 9 [.int .u8 q,lv,.int .i64 v,.int .i64 t] w0 fun x w'=>x = .bool true ∧ RowKit.Below w0.heap.size w0 w' :=
  bothAgree_ct hq hx (by unfold maxLen at hl; omega)
end Go.Proofs.Ytliofdfhimmjmaa
