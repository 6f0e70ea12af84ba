import Derived.Test.YtliofdfhimmjmaaLaw11
namespace Go.Proofs.Ytliofdfhimmjmaa
open Go.Rr Go Gr Hp
set_option linter.unusedVariables false
set_option linter.unusedSimpArgs false
set_option maxHeartbeats 4000000 in
theorem bothPaths_ct {w0 : World} {q v t : Int} {lv : Value} {l : List Chg} (hq : (Lit.int .u8 q).wf = true) (hx : SlIn w0 6 Chg.enc lv l) (hl : l.length ≤ 9223372036854775807) :
    CT Try.prog 8 [.int .u8 q,lv,.int .i64 v,.int .i64 t] w0 fun x w'=>x = .bool true ∧ RowKit.Below w0.heap.size w0 w':=by
  have H:=Holds.base_refl w0
  refine CT.enter (N:=87) Try.func8 rfl rfl rfl rfl ?_
  refine W.seq (fun K0 hK0=>?_)
  refine W.region ?_
  refine O.ex (Ex.assign rfl) rfl ?_
  refine O.nil ?_
  refine hK0 _ _ _ ?_
  refine W.seq (fun K1 hK1=>?_)
  refine W.seq (fun K2 hK2=>?_)
  refine W.region ?_
  refine O.callF Try.call29 rfl rfl (CT.mono (awake11_ct (Holds.to (by assumption))) ?_)
  rintro _ w ⟨rfl,H⟩
  refine O.ex (by first|exact Ex.notD rfl|exact Ex.not rfl) rfl ?_
  refine O.nil ?_
  refine hK2 _ _ _ ?_
  refine W.known_f rfl (by first|rfl|decide|exact decide_eq_true rfl|exact decide_eq_false (fun hh=>hh hr.1)|exact decide_eq_false (fun hh=>hh hr.2)|exact decide_eq_true hb2) ?_
  refine W.skip ?_
  refine hK1 _ _ _ ?_
  refine W.seq (fun K3 hK3=>?_)
  refine W.region ?_
  refine O.ex (Ex.move rfl) rfl ?_
  refine O.ex (Ex.move rfl) rfl ?_
  refine O.callF Try.call11 rfl rfl (CT.mono (made08_ct hq hx hl (Holds.to (M:=base w0::_) (by assumption))) ?_)
  rintro _ w ⟨g,r,hg,rfl,H⟩
  refine O.ex (Ex.move rfl) rfl ?_
  refine O.ex (Ex.extract rfl rfl) rfl ?_
  refine O.ex (Ex.extract rfl rfl) rfl ?_
  refine O.ex (Ex.assign rfl) rfl ?_
  refine O.ex (Ex.assign rfl) rfl ?_
  refine O.nil ?_
  refine hK3 _ _ _ ?_
  refine W.seq (fun K4 hK4=>?_)
  refine W.seq (fun K5 hK5=>?_)
  refine W.region ?_
  refine O.ex (Ex.move rfl) rfl ?_
  refine O.ex (Ex.nilEq Try.runUnderlying24 rfl rfl) rfl ?_
  refine O.nil ?_
  refine hK5 _ _ _ ?_
  refine W.known_f rfl (by first|rfl|decide|exact decide_eq_true rfl|exact decide_eq_false (fun hh=>hh hr.1)|exact decide_eq_false (fun hh=>hh hr.2)|exact decide_eq_true hb2) ?_
  refine W.skip ?_
  refine hK4 _ _ _ ?_
  refine W.seq (fun K6 hK6=>?_)
  refine W.region ?_
  obtain ⟨s,hs⟩ : ∃ s,s = doAll (1 + q % 24) 64 noS (l.take 150):=⟨_,rfl⟩
  rw [← hs] at hg H
  obtain ⟨n,hn⟩ : ∃ n,n = 1 + q % 24:=⟨_,rfl⟩
  rw [← hn] at hg H
  have n1:=hg.n1
  have n2:=hg.n2
  refine O.ex (Ex.move rfl) rfl ?_
  refine O.ex (Ex.move rfl) rfl ?_
  refine O.ex (Ex.move rfl) rfl ?_
  refine O.callF Try.call32 rfl rfl (CT.mono (bpath_ct hg (Holds.to (by assumption))) ?_)
  rintro _ w hh
  rcases hh with ⟨hno,rfl,H⟩|⟨hr,hF,rfl,H⟩|⟨hr,hF,rfl,H⟩|⟨hr,hm,pv,pl_,hW,hpl,rfl,hpv,H⟩
  · refine O.ex (Ex.move rfl) rfl ?_
    refine O.ex (Ex.extract rfl rfl) rfl ?_
    refine O.ex (Ex.extract rfl rfl) rfl ?_
    refine O.ex (Ex.extract rfl rfl) rfl ?_
    refine O.ex (Ex.assign rfl) rfl ?_
    refine O.ex (Ex.assign rfl) rfl ?_
    refine O.ex (Ex.assign rfl) rfl ?_
    refine O.nil ?_
    refine hK6 _ _ _ ?_
    refine W.seq (fun K7 hK7=>?_)
    refine W.region ?_
    refine O.ex (Ex.move rfl) rfl ?_
    refine O.ex (Ex.move rfl) rfl ?_
    refine O.ex (Ex.move rfl) rfl ?_
    refine O.callF Try.call31 rfl rfl (CT.mono (bdist_ct hg (Holds.to (M:=Gh g n 64 s::_) (by assumption))) ?_)
    rintro _ w (⟨-,rfl,H⟩|⟨hr,-⟩)
    rotate_left
    · exact absurd hr hno
    refine O.ex (Ex.move rfl) rfl ?_
    refine O.ex (Ex.extract rfl rfl) rfl ?_
    refine O.ex (Ex.extract rfl rfl) rfl ?_
    refine O.ex (Ex.assign rfl) rfl ?_
    refine O.ex (Ex.assign rfl) rfl ?_
    refine O.nil ?_
    refine hK7 _ _ _ ?_
    refine W.seq (fun K8 hK8=>?_)
    refine W.seq (fun K9 hK9=>?_)
    refine W.region ?_
    refine O.ex (Ex.move rfl) rfl ?_
    refine O.ex (Ex.move rfl) rfl ?_
    refine O.callF Try.call13 rfl rfl (CT.mono (rvertex_ct (Holds.to (M:=Rg r n 64 s::_) (by assumption))) ?_)
    rintro _ w ⟨rfl,H⟩
    refine O.ex (by first|exact Ex.notD rfl|exact Ex.not rfl) rfl ?_
    refine O.ex (Ex.move rfl) rfl ?_
    first|refine O.split_p (t:=45) rfl (fun ha=>?_) (fun hb=>?_)|refine O.split (t:=45) rfl (fun ha=>?_) (fun hb=>?_)
    · refine O.guard_f rfl rfl rfl rfl ?_
      refine O.guard_f rfl rfl rfl rfl ?_
      refine O.guard_f rfl rfl rfl rfl ?_
      refine O.guard_f rfl rfl rfl rfl ?_
      try (have hb2 : ¬ (0 ≤ t ∧ t < n):=fun h=>hno ⟨by simpa using hb,h⟩)
      refine O.ex (Ex.pick_t rfl rfl) rfl ?_
      refine O.nil ?_
      refine hK9 _ _ _ ?_
      refine W.cond_t rfl ?_
      refine W.seq (fun K10 hK10=>?_)
      refine W.region ?_
      refine O.ex (Ex.move rfl) rfl ?_
      refine O.ex (Ex.eqlI rfl rfl) rfl ?_
      refine O.ex (Ex.move rfl) rfl ?_
      refine O.known (t:=53) (c:=true) rfl (by first|rfl|decide|exact decide_eq_true rfl|exact decide_eq_false (fun hh=>hh hr.1)|exact decide_eq_false (fun hh=>hh hr.2)|exact decide_eq_true hb2) ?_
      refine O.guard_t rfl rfl ?_
      refine O.ex (Ex.move rfl) rfl ?_
      refine O.guard_t rfl rfl ?_
      refine O.ex (Ex.eqlI rfl rfl) rfl ?_
      refine O.ex (Ex.pick_t rfl rfl) rfl ?_
      refine O.ex (Ex.move rfl) rfl ?_
      refine O.known (t:=57) (c:=true) rfl (by first|rfl|decide|exact decide_eq_true rfl|exact decide_eq_false (fun hh=>hh hr.1)|exact decide_eq_false (fun hh=>hh hr.2)|exact decide_eq_true hb2) ?_
      refine O.guard_t rfl rfl ?_
      refine O.ex (Ex.move rfl) rfl ?_
      refine O.guard_t rfl rfl ?_
      refine O.ex (Ex.move rfl) rfl ?_
      refine O.guard_t rfl rfl ?_
      refine O.ex (Ex.move rfl) rfl ?_
      refine O.guard_t rfl rfl ?_
      refine O.ex (Ex.move rfl) rfl ?_
      refine O.guard_t rfl rfl ?_
      refine O.ex (Ex.move rfl) rfl ?_
      refine O.guard_t rfl rfl ?_
      refine O.ex (Ex.move rfl) rfl ?_
      refine O.guard_t rfl rfl ?_
      refine O.callF Try.call33 rfl rfl (CT.mono (lpathN_ct (r:=r) (s:=s) (n:=n) (most:=64) hg (.inl ⟨hno,rfl,rfl⟩) (Holds.to (M:=Rg r n 64 s::_) (by assumption))) ?_)
      rintro _ w ⟨rfl,H⟩
      refine O.ex (Ex.pick_t rfl rfl) rfl ?_
      refine O.ex (Ex.assign rfl) rfl ?_
      refine O.nil ?_
      refine hK10 _ _ _ ?_
      refine W.ret ?_
      try dsimp only [thenQ,blockQ,retQ]
      first|refine ⟨_,⟨_,_,rfl,rfl,rfl⟩,?_⟩|(refine retD_mark ?_; intro w H; refine ⟨_,⟨_,_,rfl,rfl,rfl⟩,?_⟩)|(refine retD_mark2 ?_; intro w H; refine ⟨_,⟨_,_,rfl,rfl,rfl⟩,?_⟩)
      exact ⟨rfl,Holds.base_below (L:=[]) (Holds.to (by assumption))⟩
    · refine O.guard_t rfl rfl ?_
      refine O.ex (Ex.move rfl) rfl ?_
      refine O.guard_t rfl rfl ?_
      refine O.ex (Ex.move rfl) rfl ?_
      refine O.guard_t rfl rfl ?_
      refine O.callF Try.call13 rfl rfl (CT.mono (rvertex_ct (Holds.to (M:=Rg r n 64 s::_) (by assumption))) ?_)
      rintro _ w ⟨rfl,H⟩
      refine O.guard_t rfl rfl ?_
      refine O.ex (by first|exact Ex.notD rfl|exact Ex.not rfl) rfl ?_
      try (have hb2 : ¬ (0 ≤ t ∧ t < n):=fun h=>hno ⟨by simpa using hb,h⟩)
      refine O.ex (Ex.pick_f rfl rfl) rfl ?_
      refine O.nil ?_
      refine hK9 _ _ _ ?_
      refine W.known_t rfl (by first|rfl|decide|exact decide_eq_true rfl|exact decide_eq_false (fun hh=>hh hr.1)|exact decide_eq_false (fun hh=>hh hr.2)|exact decide_eq_true hb2) ?_
      refine W.seq (fun K11 hK11=>?_)
      refine W.region ?_
      refine O.ex (Ex.move rfl) rfl ?_
      refine O.ex (Ex.eqlI rfl rfl) rfl ?_
      refine O.ex (Ex.move rfl) rfl ?_
      refine O.known (t:=53) (c:=true) rfl (by first|rfl|decide|exact decide_eq_true rfl|exact decide_eq_false (fun hh=>hh hr.1)|exact decide_eq_false (fun hh=>hh hr.2)|exact decide_eq_true hb2) ?_
      refine O.guard_t rfl rfl ?_
      refine O.ex (Ex.move rfl) rfl ?_
      refine O.guard_t rfl rfl ?_
      refine O.ex (Ex.eqlI rfl rfl) rfl ?_
      refine O.ex (Ex.pick_t rfl rfl) rfl ?_
      refine O.ex (Ex.move rfl) rfl ?_
      refine O.known (t:=57) (c:=true) rfl (by first|rfl|decide|exact decide_eq_true rfl|exact decide_eq_false (fun hh=>hh hr.1)|exact decide_eq_false (fun hh=>hh hr.2)|exact decide_eq_true hb2) ?_
      refine O.guard_t rfl rfl ?_
      refine O.ex (Ex.move rfl) rfl ?_
      refine O.guard_t rfl rfl ?_
      refine O.ex (Ex.move rfl) rfl ?_
      refine O.guard_t rfl rfl ?_
      refine O.ex (Ex.move rfl) rfl ?_
      refine O.guard_t rfl rfl ?_
      refine O.ex (Ex.move rfl) rfl ?_
      refine O.guard_t rfl rfl ?_
      refine O.ex (Ex.move rfl) rfl ?_
      refine O.guard_t rfl rfl ?_
      refine O.ex (Ex.move rfl) rfl ?_
      refine O.guard_t rfl rfl ?_
      refine O.callF Try.call33 rfl rfl (CT.mono (lpathN_ct (r:=r) (s:=s) (n:=n) (most:=64) hg (.inl ⟨hno,rfl,rfl⟩) (Holds.to (M:=Rg r n 64 s::_) (by assumption))) ?_)
      rintro _ w ⟨rfl,H⟩
      refine O.ex (Ex.pick_t rfl rfl) rfl ?_
      refine O.ex (Ex.assign rfl) rfl ?_
      refine O.nil ?_
      refine hK11 _ _ _ ?_
      refine W.ret ?_
      try dsimp only [thenQ,blockQ,retQ]
      first|refine ⟨_,⟨_,_,rfl,rfl,rfl⟩,?_⟩|(refine retD_mark ?_; intro w H; refine ⟨_,⟨_,_,rfl,rfl,rfl⟩,?_⟩)|(refine retD_mark2 ?_; intro w H; refine ⟨_,⟨_,_,rfl,rfl,rfl⟩,?_⟩)
      exact ⟨rfl,Holds.base_below (L:=[]) (Holds.to (by assumption))⟩
  · refine O.ex (Ex.move rfl) rfl ?_
    refine O.ex (Ex.extract rfl rfl) rfl ?_
    refine O.ex (Ex.extract rfl rfl) rfl ?_
    refine O.ex (Ex.extract rfl rfl) rfl ?_
    refine O.ex (Ex.assign rfl) rfl ?_
    refine O.ex (Ex.assign rfl) rfl ?_
    refine O.ex (Ex.assign rfl) rfl ?_
    refine O.nil ?_
    refine hK6 _ _ _ ?_
    refine W.seq (fun K12 hK12=>?_)
    refine W.region ?_
    refine O.ex (Ex.move rfl) rfl ?_
    refine O.ex (Ex.move rfl) rfl ?_
    refine O.ex (Ex.move rfl) rfl ?_
    refine O.callF Try.call31 rfl rfl (CT.mono (bdist_ct hg (Holds.to (M:=Gh g n 64 s::_) (by assumption))) ?_)
    rintro _ w (⟨hno,-⟩|⟨-,rfl,H⟩)
    · exact absurd hr hno
    refine O.ex (Ex.move rfl) rfl ?_
    refine O.ex (Ex.extract rfl rfl) rfl ?_
    refine O.ex (Ex.extract rfl rfl) rfl ?_
    refine O.ex (Ex.assign rfl) rfl ?_
    refine O.ex (Ex.assign rfl) rfl ?_
    refine O.nil ?_
    refine hK12 _ _ _ ?_
    refine W.seq (fun K13 hK13=>?_)
    refine W.seq (fun K14 hK14=>?_)
    refine W.region ?_
    refine O.ex (Ex.move rfl) rfl ?_
    refine O.ex (Ex.move rfl) rfl ?_
    refine O.callF Try.call13 rfl rfl (CT.mono (rvertex_ct (Holds.to (M:=Rg r n 64 s::_) (by assumption))) ?_)
    rintro _ w ⟨rfl,H⟩
    refine O.ex (by first|exact Ex.notD rfl|exact Ex.not rfl) rfl ?_
    refine O.ex (Ex.move rfl) rfl ?_
    refine O.known (t:=45) (c:=false) rfl (by first|rfl|decide|exact decide_eq_true rfl|exact decide_eq_false (fun hh=>hh hr.1)|exact decide_eq_false (fun hh=>hh hr.2)|exact decide_eq_true hb2) ?_
    refine O.guard_t rfl rfl ?_
    refine O.ex (Ex.move rfl) rfl ?_
    refine O.guard_t rfl rfl ?_
    refine O.ex (Ex.move rfl) rfl ?_
    refine O.guard_t rfl rfl ?_
    refine O.callF Try.call13 rfl rfl (CT.mono (rvertex_ct (Holds.to (M:=Rg r n 64 s::_) (by assumption))) ?_)
    rintro _ w ⟨rfl,H⟩
    refine O.guard_t rfl rfl ?_
    refine O.ex (by first|exact Ex.notD rfl|exact Ex.not rfl) rfl ?_
    refine O.ex (Ex.pick_f rfl rfl) rfl ?_
    refine O.nil ?_
    refine hK14 _ _ _ ?_
    refine W.known_f rfl (by first|rfl|decide|exact decide_eq_true rfl|exact decide_eq_false (fun hh=>hh hr.1)|exact decide_eq_false (fun hh=>hh hr.2)|exact decide_eq_true hb2) ?_
    refine W.skip ?_
    refine hK13 _ _ _ ?_
    refine W.seq (fun K15 hK15=>?_)
    refine W.region ?_
    refine O.ex (Ex.move rfl) rfl ?_
    refine O.ex (Ex.eqlI rfl rfl) rfl ?_
    refine O.ex (Ex.move rfl) rfl ?_
    refine O.known (t:=68) (c:=true) rfl (by first|rfl|decide|exact decide_eq_true rfl|exact decide_eq_false (fun hh=>hh hr.1)|exact decide_eq_false (fun hh=>hh hr.2)|exact decide_eq_true hb2) ?_
    refine O.guard_t rfl rfl ?_
    refine O.ex (Ex.move rfl) rfl ?_
    refine O.guard_t rfl rfl ?_
    refine O.ex (Ex.move rfl) rfl ?_
    refine O.guard_t rfl rfl ?_
    refine O.ex (Ex.move rfl) rfl ?_
    refine O.guard_t rfl rfl ?_
    refine O.callF Try.call14 rfl rfl (CT.mono (rfrom_ct hg hr.1.1 hr.1.2 (Holds.to (M:=Rg r n 64 s::_) (by assumption))) ?_)
    rintro _ w ⟨hu1,H⟩
    rename_i u1
    have hFl:=farL_len n (cG s) v.toNat
    have t0:=hr.2.1
    have vT : ((v.toNat : Nat) : Int) = v:=by omega
    have t1 : t < ((farL n (cG s) v.toNat).length : Int):=by rw [hFl]; omega
    have eft : (farL n (cG s) v.toNat).getD t.toNat default = far n (cG s) v t:=by rw [farL_get hr.2.1 hr.2.2,vT]
    replace H:=Holds.to (M:=arr 3 (Value.int .i64) u1 (farL n (cG s) v.toNat)::_) H
    refine O.guard_t rfl rfl ?_
    refine O.ex (Ex.move rfl) rfl ?_
    refine O.guard_t rfl rfl ?_
    refine O.ex (by first|exact Ex.idxR Try.runUnderlying28 Try.sizeOf3 rfl rfl|exact Ex.idxIn Try.runUnderlying28 Try.sizeOf3 rfl rfl|exact Ex.idxS Try.runUnderlying28 Try.sizeOf3 rfl rfl|exact Ex.idx Try.runUnderlying28 Try.sizeOf3 rfl rfl (by omega) (by omega)) rfl ?_
    refine O.guard_t rfl rfl ?_
    refine O.ex (Ex.cast (v:=.int .i64 (far n (cG s) v t)) (Ex.loadR (xs:=farL n (cG s) v.toNat) Try.isAgg3 rfl) (by rw [eft])) rfl ?_
    refine O.guard_t rfl rfl ?_
    refine O.ex (Ex.eqlI rfl rfl) rfl ?_
    refine O.ex (Ex.pick_t rfl rfl) rfl ?_
    refine O.ex (Ex.move rfl) rfl ?_
    refine O.known (t:=78) (c:=true) rfl (by first|rfl|decide|exact decide_eq_true rfl|exact decide_eq_false (fun hh=>hh hr.1)|exact decide_eq_false (fun hh=>hh hr.2)|exact decide_eq_true hb2) ?_
    refine O.guard_t rfl rfl ?_
    refine O.ex (Ex.move rfl) rfl ?_
    refine O.guard_t rfl rfl ?_
    refine O.ex (Ex.move rfl) rfl ?_
    refine O.guard_t rfl rfl ?_
    refine O.ex (Ex.move rfl) rfl ?_
    refine O.guard_t rfl rfl ?_
    refine O.ex (Ex.move rfl) rfl ?_
    refine O.guard_t rfl rfl ?_
    refine O.ex (Ex.move rfl) rfl ?_
    refine O.guard_t rfl rfl ?_
    refine O.ex (Ex.move rfl) rfl ?_
    refine O.guard_t rfl rfl ?_
    refine O.callF Try.call33 rfl rfl (CT.mono (lpathN_ct (r:=r) (s:=s) (n:=n) (most:=64) hg (.inr (.inl ⟨hr,hF,rfl,rfl⟩)) (Holds.to (M:=Rg r n 64 s::_) (by assumption))) ?_)
    rintro _ w ⟨rfl,H⟩
    refine O.ex (Ex.pick_t rfl rfl) rfl ?_
    refine O.ex (Ex.assign rfl) rfl ?_
    refine O.nil ?_
    refine hK15 _ _ _ ?_
    refine W.ret ?_
    try dsimp only [thenQ,blockQ,retQ]
    first|refine ⟨_,⟨_,_,rfl,rfl,rfl⟩,?_⟩|(refine retD_mark ?_; intro w H; refine ⟨_,⟨_,_,rfl,rfl,rfl⟩,?_⟩)|(refine retD_mark2 ?_; intro w H; refine ⟨_,⟨_,_,rfl,rfl,rfl⟩,?_⟩)
    exact ⟨rfl,Holds.base_below (L:=[]) (Holds.to (by assumption))⟩
  · refine O.ex (Ex.move rfl) rfl ?_
    refine O.ex (Ex.extract rfl rfl) rfl ?_
    refine O.ex (Ex.extract rfl rfl) rfl ?_
    refine O.ex (Ex.extract rfl rfl) rfl ?_
    refine O.ex (Ex.assign rfl) rfl ?_
    refine O.ex (Ex.assign rfl) rfl ?_
    refine O.ex (Ex.assign rfl) rfl ?_
    refine O.nil ?_
    refine hK6 _ _ _ ?_
    refine W.seq (fun K16 hK16=>?_)
    refine W.region ?_
    refine O.ex (Ex.move rfl) rfl ?_
    refine O.ex (Ex.move rfl) rfl ?_
    refine O.ex (Ex.move rfl) rfl ?_
    refine O.callF Try.call31 rfl rfl (CT.mono (bdist_ct hg (Holds.to (M:=Gh g n 64 s::_) (by assumption))) ?_)
    rintro _ w (⟨hno,-⟩|⟨-,rfl,H⟩)
    · exact absurd hr hno
    refine O.ex (Ex.move rfl) rfl ?_
    refine O.ex (Ex.extract rfl rfl) rfl ?_
    refine O.ex (Ex.extract rfl rfl) rfl ?_
    refine O.ex (Ex.assign rfl) rfl ?_
    refine O.ex (Ex.assign rfl) rfl ?_
    refine O.nil ?_
    refine hK16 _ _ _ ?_
    refine W.seq (fun K17 hK17=>?_)
    refine W.seq (fun K18 hK18=>?_)
    refine W.region ?_
    refine O.ex (Ex.move rfl) rfl ?_
    refine O.ex (Ex.move rfl) rfl ?_
    refine O.callF Try.call13 rfl rfl (CT.mono (rvertex_ct (Holds.to (M:=Rg r n 64 s::_) (by assumption))) ?_)
    rintro _ w ⟨rfl,H⟩
    refine O.ex (by first|exact Ex.notD rfl|exact Ex.not rfl) rfl ?_
    refine O.ex (Ex.move rfl) rfl ?_
    refine O.known (t:=45) (c:=false) rfl (by first|rfl|decide|exact decide_eq_true rfl|exact decide_eq_false (fun hh=>hh hr.1)|exact decide_eq_false (fun hh=>hh hr.2)|exact decide_eq_true hb2) ?_
    refine O.guard_t rfl rfl ?_
    refine O.ex (Ex.move rfl) rfl ?_
    refine O.guard_t rfl rfl ?_
    refine O.ex (Ex.move rfl) rfl ?_
    refine O.guard_t rfl rfl ?_
    refine O.callF Try.call13 rfl rfl (CT.mono (rvertex_ct (Holds.to (M:=Rg r n 64 s::_) (by assumption))) ?_)
    rintro _ w ⟨rfl,H⟩
    refine O.guard_t rfl rfl ?_
    refine O.ex (by first|exact Ex.notD rfl|exact Ex.not rfl) rfl ?_
    refine O.ex (Ex.pick_f rfl rfl) rfl ?_
    refine O.nil ?_
    refine hK18 _ _ _ ?_
    refine W.known_f rfl (by first|rfl|decide|exact decide_eq_true rfl|exact decide_eq_false (fun hh=>hh hr.1)|exact decide_eq_false (fun hh=>hh hr.2)|exact decide_eq_true hb2) ?_
    refine W.skip ?_
    refine hK17 _ _ _ ?_
    refine W.seq (fun K19 hK19=>?_)
    refine W.region ?_
    refine O.ex (Ex.move rfl) rfl ?_
    refine O.ex (Ex.eqlI rfl rfl) rfl ?_
    refine O.ex (Ex.move rfl) rfl ?_
    refine O.known (t:=68) (c:=true) rfl (by first|rfl|decide|exact decide_eq_true rfl|exact decide_eq_false (fun hh=>hh hr.1)|exact decide_eq_false (fun hh=>hh hr.2)|exact decide_eq_true hb2) ?_
    refine O.guard_t rfl rfl ?_
    refine O.ex (Ex.move rfl) rfl ?_
    refine O.guard_t rfl rfl ?_
    refine O.ex (Ex.move rfl) rfl ?_
    refine O.guard_t rfl rfl ?_
    refine O.ex (Ex.move rfl) rfl ?_
    refine O.guard_t rfl rfl ?_
    refine O.callF Try.call14 rfl rfl (CT.mono (rfrom_ct hg hr.1.1 hr.1.2 (Holds.to (M:=Rg r n 64 s::_) (by assumption))) ?_)
    rintro _ w ⟨hu1,H⟩
    rename_i u1
    have hFl:=farL_len n (cG s) v.toNat
    have t0:=hr.2.1
    have vT : ((v.toNat : Nat) : Int) = v:=by omega
    have t1 : t < ((farL n (cG s) v.toNat).length : Int):=by rw [hFl]; omega
    have eft : (farL n (cG s) v.toNat).getD t.toNat default = far n (cG s) v t:=by rw [farL_get hr.2.1 hr.2.2,vT]
    replace H:=Holds.to (M:=arr 3 (Value.int .i64) u1 (farL n (cG s) v.toNat)::_) H
    refine O.guard_t rfl rfl ?_
    refine O.ex (Ex.move rfl) rfl ?_
    refine O.guard_t rfl rfl ?_
    refine O.ex (by first|exact Ex.idxR Try.runUnderlying28 Try.sizeOf3 rfl rfl|exact Ex.idxIn Try.runUnderlying28 Try.sizeOf3 rfl rfl|exact Ex.idxS Try.runUnderlying28 Try.sizeOf3 rfl rfl|exact Ex.idx Try.runUnderlying28 Try.sizeOf3 rfl rfl (by omega) (by omega)) rfl ?_
    refine O.guard_t rfl rfl ?_
    refine O.ex (Ex.cast (v:=.int .i64 (far n (cG s) v t)) (Ex.loadR (xs:=farL n (cG s) v.toNat) Try.isAgg3 rfl) (by rw [eft])) rfl ?_
    refine O.guard_t rfl rfl ?_
    refine O.ex (Ex.eqlI rfl rfl) rfl ?_
    refine O.ex (Ex.pick_t rfl rfl) rfl ?_
    refine O.ex (Ex.move rfl) rfl ?_
    refine O.known (t:=78) (c:=true) rfl (by first|rfl|decide|exact decide_eq_true rfl|exact decide_eq_false (fun hh=>hh hr.1)|exact decide_eq_false (fun hh=>hh hr.2)|exact decide_eq_true hb2) ?_
    refine O.guard_t rfl rfl ?_
    refine O.ex (Ex.move rfl) rfl ?_
    refine O.guard_t rfl rfl ?_
    refine O.ex (Ex.move rfl) rfl ?_
    refine O.guard_t rfl rfl ?_
    refine O.ex (Ex.move rfl) rfl ?_
    refine O.guard_t rfl rfl ?_
    refine O.ex (Ex.move rfl) rfl ?_
    refine O.guard_t rfl rfl ?_
    refine O.ex (Ex.move rfl) rfl ?_
    refine O.guard_t rfl rfl ?_
    refine O.ex (Ex.move rfl) rfl ?_
    refine O.guard_t rfl rfl ?_
    refine O.callF Try.call33 rfl rfl (CT.mono (lpathN_ct (r:=r) (s:=s) (n:=n) (most:=64) hg (.inr (.inr ⟨hr,hF,rfl,rfl⟩)) (Holds.to (M:=Rg r n 64 s::_) (by assumption))) ?_)
    rintro _ w ⟨rfl,H⟩
    refine O.ex (Ex.pick_t rfl rfl) rfl ?_
    refine O.ex (Ex.assign rfl) rfl ?_
    refine O.nil ?_
    refine hK19 _ _ _ ?_
    refine W.ret ?_
    try dsimp only [thenQ,blockQ,retQ]
    first|refine ⟨_,⟨_,_,rfl,rfl,rfl⟩,?_⟩|(refine retD_mark ?_; intro w H; refine ⟨_,⟨_,_,rfl,rfl,rfl⟩,?_⟩)|(refine retD_mark2 ?_; intro w H; refine ⟨_,⟨_,_,rfl,rfl,rfl⟩,?_⟩)
    exact ⟨rfl,Holds.base_below (L:=[]) (Holds.to (by assumption))⟩
  · refine O.ex (Ex.move rfl) rfl ?_
    refine O.ex (Ex.extract rfl rfl) rfl ?_
    refine O.ex (Ex.extract rfl rfl) rfl ?_
    refine O.ex (Ex.extract rfl rfl) rfl ?_
    refine O.ex (Ex.assign rfl) rfl ?_
    refine O.ex (Ex.assign rfl) rfl ?_
    refine O.ex (Ex.assign rfl) rfl ?_
    refine O.nil ?_
    refine hK6 _ _ _ ?_
    refine W.seq (fun K20 hK20=>?_)
    refine W.region ?_
    refine O.ex (Ex.move rfl) rfl ?_
    refine O.ex (Ex.move rfl) rfl ?_
    refine O.ex (Ex.move rfl) rfl ?_
    refine O.callF Try.call31 rfl rfl (CT.mono (bdist_ct hg (Holds.to (M:=Gh g n 64 s::_) (by assumption))) ?_)
    rintro _ w (⟨hno,-⟩|⟨-,rfl,H⟩)
    · exact absurd hr hno
    refine O.ex (Ex.move rfl) rfl ?_
    refine O.ex (Ex.extract rfl rfl) rfl ?_
    refine O.ex (Ex.extract rfl rfl) rfl ?_
    refine O.ex (Ex.assign rfl) rfl ?_
    refine O.ex (Ex.assign rfl) rfl ?_
    refine O.nil ?_
    refine hK20 _ _ _ ?_
    refine W.seq (fun K21 hK21=>?_)
    refine W.seq (fun K22 hK22=>?_)
    refine W.region ?_
    refine O.ex (Ex.move rfl) rfl ?_
    refine O.ex (Ex.move rfl) rfl ?_
    refine O.callF Try.call13 rfl rfl (CT.mono (rvertex_ct (Holds.to (M:=Rg r n 64 s::_) (by assumption))) ?_)
    rintro _ w ⟨rfl,H⟩
    refine O.ex (by first|exact Ex.notD rfl|exact Ex.not rfl) rfl ?_
    refine O.ex (Ex.move rfl) rfl ?_
    refine O.known (t:=45) (c:=false) rfl (by first|rfl|decide|exact decide_eq_true rfl|exact decide_eq_false (fun hh=>hh hr.1)|exact decide_eq_false (fun hh=>hh hr.2)|exact decide_eq_true hb2) ?_
    refine O.guard_t rfl rfl ?_
    refine O.ex (Ex.move rfl) rfl ?_
    refine O.guard_t rfl rfl ?_
    refine O.ex (Ex.move rfl) rfl ?_
    refine O.guard_t rfl rfl ?_
    refine O.callF Try.call13 rfl rfl (CT.mono (rvertex_ct (Holds.to (M:=Rg r n 64 s::_) (by assumption))) ?_)
    rintro _ w ⟨rfl,H⟩
    refine O.guard_t rfl rfl ?_
    refine O.ex (by first|exact Ex.notD rfl|exact Ex.not rfl) rfl ?_
    refine O.ex (Ex.pick_f rfl rfl) rfl ?_
    refine O.nil ?_
    refine hK22 _ _ _ ?_
    refine W.known_f rfl (by first|rfl|decide|exact decide_eq_true rfl|exact decide_eq_false (fun hh=>hh hr.1)|exact decide_eq_false (fun hh=>hh hr.2)|exact decide_eq_true hb2) ?_
    refine W.skip ?_
    refine hK21 _ _ _ ?_
    refine W.seq (fun K23 hK23=>?_)
    refine W.region ?_
    refine O.ex (Ex.move rfl) rfl ?_
    refine O.ex (Ex.eqlI rfl rfl) rfl ?_
    refine O.ex (Ex.move rfl) rfl ?_
    refine O.known (t:=68) (c:=true) rfl (by first|rfl|decide|exact decide_eq_true rfl|exact decide_eq_false (fun hh=>hh hr.1)|exact decide_eq_false (fun hh=>hh hr.2)|exact decide_eq_true hb2) ?_
    refine O.guard_t rfl rfl ?_
    refine O.ex (Ex.move rfl) rfl ?_
    refine O.guard_t rfl rfl ?_
    refine O.ex (Ex.move rfl) rfl ?_
    refine O.guard_t rfl rfl ?_
    refine O.ex (Ex.move rfl) rfl ?_
    refine O.guard_t rfl rfl ?_
    refine O.callF Try.call14 rfl rfl (CT.mono (rfrom_ct hg hr.1.1 hr.1.2 (Holds.to (M:=Rg r n 64 s::_) (by assumption))) ?_)
    rintro _ w ⟨hu1,H⟩
    rename_i u1
    have hFl:=farL_len n (cG s) v.toNat
    have t0:=hr.2.1
    have vT : ((v.toNat : Nat) : Int) = v:=by omega
    have t1 : t < ((farL n (cG s) v.toNat).length : Int):=by rw [hFl]; omega
    have eft : (farL n (cG s) v.toNat).getD t.toNat default = far n (cG s) v t:=by rw [farL_get hr.2.1 hr.2.2,vT]
    replace H:=Holds.to (M:=arr 3 (Value.int .i64) u1 (farL n (cG s) v.toNat)::_) H
    refine O.guard_t rfl rfl ?_
    refine O.ex (Ex.move rfl) rfl ?_
    refine O.guard_t rfl rfl ?_
    refine O.ex (by first|exact Ex.idxR Try.runUnderlying28 Try.sizeOf3 rfl rfl|exact Ex.idxIn Try.runUnderlying28 Try.sizeOf3 rfl rfl|exact Ex.idxS Try.runUnderlying28 Try.sizeOf3 rfl rfl|exact Ex.idx Try.runUnderlying28 Try.sizeOf3 rfl rfl (by omega) (by omega)) rfl ?_
    refine O.guard_t rfl rfl ?_
    refine O.ex (Ex.cast (v:=.int .i64 (far n (cG s) v t)) (Ex.loadR (xs:=farL n (cG s) v.toNat) Try.isAgg3 rfl) (by rw [eft])) rfl ?_
    refine O.guard_t rfl rfl ?_
    refine O.ex (Ex.eqlI rfl rfl) rfl ?_
    refine O.ex (Ex.pick_t rfl rfl) rfl ?_
    refine O.ex (Ex.move rfl) rfl ?_
    refine O.known (t:=78) (c:=true) rfl (by first|rfl|decide|exact decide_eq_true rfl|exact decide_eq_false (fun hh=>hh hr.1)|exact decide_eq_false (fun hh=>hh hr.2)|exact decide_eq_true hb2) ?_
    refine O.guard_t rfl rfl ?_
    refine O.ex (Ex.move rfl) rfl ?_
    refine O.guard_t rfl rfl ?_
    refine O.ex (Ex.move rfl) rfl ?_
    refine O.guard_t rfl rfl ?_
    refine O.ex (Ex.move rfl) rfl ?_
    refine O.guard_t rfl rfl ?_
    refine O.ex (Ex.move rfl) rfl ?_
    refine O.guard_t rfl rfl ?_
    refine O.ex (Ex.move rfl) rfl ?_
    refine O.guard_t rfl rfl ?_
    refine O.ex (Ex.move rfl) rfl ?_
    refine O.guard_t rfl rfl ?_
    refine O.callF Try.call33 rfl rfl (CT.mono (lpathW_ct (r:=r) (s:=s) (n:=n) (most:=64) (pv:=pv) (l:=pl_) hg hr hm hW hpl (Holds.to (M:=Rg r n 64 s::arr 3 (Value.int .i64) pv pl_::base w0::[]) (by assumption))) ?_)
    rintro _ w ⟨rfl,H⟩
    refine O.ex (Ex.pick_t rfl rfl) rfl ?_
    refine O.ex (Ex.assign rfl) rfl ?_
    refine O.nil ?_
    refine hK23 _ _ _ ?_
    refine W.ret ?_
    try dsimp only [thenQ,blockQ,retQ]
    first|refine ⟨_,⟨_,_,rfl,rfl,rfl⟩,?_⟩|(refine retD_mark ?_; intro w H; refine ⟨_,⟨_,_,rfl,rfl,rfl⟩,?_⟩)|(refine retD_mark2 ?_; intro w H; refine ⟨_,⟨_,_,rfl,rfl,rfl⟩,?_⟩)
    exact ⟨rfl,Holds.base_below (L:=[]) (Holds.to (by assumption))⟩
theorem bothPaths_row {w0 : World} {q v t : Int} {lv : Value} {l : List Chg} (hq : (Lit.int .u8 q).wf = true) (hx : SlIn w0 6 Chg.enc lv l) (hg : ∀ x ∈ l,x.ok) (hl : l.length ≤ maxLen) (hv : (Lit.int .i64 v).wf = true) (ht : (Lit.int .i64 t).wf = true) :
    CT Try.prog 8 [.int .u8 q,lv,.int .i64 v,.int .i64 t] w0 fun x w'=>x = .bool true ∧ RowKit.Below w0.heap.size w0 w' :=
  bothPaths_ct hq hx (by unfold maxLen at hl; omega)
end Go.Proofs.Ytliofdfhimmjmaa
