import Derived.Test.YtliofdfhimmjmaaBoth4
import Derived.Test.YtliofdfhimmjmaaLaw10
namespace Go.Proofs.Ytliofdfhimmjmaa
open Go.Rr Go Gr Hp
set_option linter.unusedVariables false
set_option linter.unusedSimpArgs false
theorem nfromX_ct {w : World} {g : Nat} {n most v : Int} {s : St} {L : List HProp} (hg : GOk n most s) (H : Holds w (Gh g n most s::L)) :
    CT Try.prog 20 [.pointer (some ⟨g,0,none⟩),.int .i64 v] w fun u w'=>∃ fv e S,u = .tuple #[fv,.int .i64 e] ∧ fv.oneCell' = true ∧ Holds w' (S::Gh g n most s::L) :=
  (nfrom_ct hg H).mono fun u w' hh=>by
    rcases hh with ⟨_,e,H⟩|⟨_,fv,e,ho,H⟩
    · exact ⟨_,_,star [],e,rfl,Holds.star.2 H⟩
    · exact ⟨fv,_,_,e,ho,H⟩
theorem nw_th : ∀ i : Nat,i < 64 → thB nw3 (i : Int) = true → i = 1 ∨ i = 2 ∨ i = 4:=by decide +kernel
theorem nw_a1 : (arcQ nw3 1).t = 0 ∧ (arcQ nw3 1).w = 11:=by decide +kernel
theorem nw_a2 : (arcQ nw3 2).t = 1 ∧ (arcQ nw3 2).h = 2 ∧ (arcQ nw3 2).w = 5:=by decide +kernel
theorem nw_a4 : (arcQ nw3 4).t = 0 ∧ (arcQ nw3 4).h = 1 ∧ (arcQ nw3 4).w = 5:=by decide +kernel
theorem nw_id {id : Int} (h : thB nw3 id = true) : id = 1 ∨ id = 2 ∨ id = 4:=by
  have hp : pl id:=by
    unfold thB at h
    simp only [Bool.and_eq_true,decide_eq_true_eq] at h
    exact h.1
  have:=nw_th id.toNat (by omega) (by rw [Int.toNat_of_nonneg hp.1]; exact h)
  omega
theorem nw_path {l : List Int} (hg : GOk 3 4 nw3) (h : Wl nw3 0 l 2 10) : l = [4,2]:=by
  cases l with
  | nil=>exact absurd h.1 (by decide)
  | cons a l =>
    obtain ⟨k1,_,k3,t',k4,k5⟩:=h
    have hd:=Wl.dst hg k4
    rcases nw_id k1 with rfl|rfl|rfl
    · have:=le_two_left (a:=(arcQ nw3 1).w) (b:=t') (by rw [nw_a1.2]; exact ⟨by omega,by omega⟩) hd
      rw [nw_a1.2] at this k5
      omega
    · rw [nw_a2.1] at k3; exact absurd k3 (by decide)
    · rw [nw_a4.2.1] at k4
      cases l with
      | nil=>exact absurd k4.1 (by decide)
      | cons b l =>
        obtain ⟨q1,_,q3,t2,q4,q5⟩:=k4
        rcases nw_id q1 with rfl|rfl|rfl
        · rw [nw_a1.1] at q3; exact absurd q3 (by decide)
        · rw [nw_a2.2.1] at q4
          cases l with
          | nil=>rfl
          | cons c l =>
            obtain ⟨r1,_,r3,_⟩:=q4
            rcases nw_id r1 with rfl|rfl|rfl
            · rw [nw_a1.1] at r3; exact absurd r3 (by decide)
            · rw [nw_a2.1] at r3; exact absurd r3 (by decide)
            · rw [nw_a4.1] at r3; exact absurd r3 (by decide)
        · rw [nw_a4.1] at q3; exact absurd q3 (by decide)
set_option maxHeartbeats 2000000 in
theorem awake11_ct {w : World} {L : List HProp} (H : Holds w L) : CT Try.prog 29 [] w fun u w'=>u = .bool true ∧ Holds w' L:=by
  have g0 : GOk 3 4 noS:=ok_none (by omega) (by omega) (by omega) (by omega)
  have g1 : GOk 3 4 nw1:=ok_ins g0 _ _
  have g2 : GOk 3 4 nw2:=ok_ins g1 _ _
  have g3 : GOk 3 4 nw3:=ok_ins g2 _ _
  have hf : far 3 (cG nw3) 0 2 = 10:=nw_f
  refine CT.enter (N:=64) Try.func29 rfl rfl rfl rfl ?_
  refine W.seq (fun K0 hK0=>?_)
  refine W.region ?_
  refine O.ex (Ex.assign rfl) rfl ?_
  refine O.nil ?_
  refine hK0 _ _ _ ?_
  refine W.seq (fun K1 hK1=>?_)
  refine W.region ?_
  refine O.callF Try.call34 rfl rfl (CT.mono (gnew_ct (n:=3) (most:=4) (by assumption)) ?_)
  rintro _ w (⟨hno,-⟩|⟨-,g,rfl,H⟩)
  · exact absurd ⟨⟨by omega,by omega⟩,by omega,by omega⟩ hno
  refine O.ex (Ex.move rfl) rfl ?_
  refine O.ex (Ex.extract rfl rfl) rfl ?_
  refine O.ex (Ex.extract rfl rfl) rfl ?_
  refine O.ex (Ex.assign rfl) rfl ?_
  refine O.ex (Ex.assign rfl) rfl ?_
  refine O.nil ?_
  refine hK1 _ _ _ ?_
  refine W.seq (fun K2 hK2=>?_)
  refine W.seq (fun K3 hK3=>?_)
  refine W.region ?_
  refine O.ex (Ex.move rfl) rfl ?_
  refine O.ex (Ex.nilEq Try.runUnderlying24 rfl rfl) rfl ?_
  refine O.nil ?_
  refine hK3 _ _ _ ?_
  refine W.known_f rfl (by first|rfl|decide|exact decide_eq_true rfl) ?_
  refine W.skip ?_
  refine hK2 _ _ _ ?_
  refine W.seq (fun K4 hK4=>?_)
  refine W.region ?_
  refine O.ex (Ex.move rfl) rfl ?_
  refine O.ex (Ex.build rfl (bld42_0_1_2 _ _ _ (by first|rfl|assumption) (by first|rfl|assumption) (by first|rfl|assumption))) rfl ?_
  refine O.callF Try.call35 rfl rfl (CT.mono (ginsert_ct (a:=⟨0,1,5,false⟩) g0 (Holds.to (by assumption))) ?_)
  rintro _ w ⟨-,H⟩
  have H : Holds w (Gh g 3 4 nw1::L):=Holds.to H
  refine O.nil ?_
  refine hK4 _ _ _ ?_
  refine W.seq (fun K5 hK5=>?_)
  refine W.region ?_
  refine O.ex (Ex.move rfl) rfl ?_
  refine O.ex (Ex.build rfl (bld42_0_1_2 _ _ _ (by first|rfl|assumption) (by first|rfl|assumption) (by first|rfl|assumption))) rfl ?_
  refine O.callF Try.call35 rfl rfl (CT.mono (ginsert_ct (a:=⟨1,2,5,false⟩) g1 (Holds.to (by assumption))) ?_)
  rintro _ w ⟨-,H⟩
  have H : Holds w (Gh g 3 4 nw2::L):=Holds.to H
  refine O.nil ?_
  refine hK5 _ _ _ ?_
  refine W.seq (fun K6 hK6=>?_)
  refine W.region ?_
  refine O.ex (Ex.move rfl) rfl ?_
  refine O.ex (Ex.build rfl (bld42_0_1_2 _ _ _ (by first|rfl|assumption) (by first|rfl|assumption) (by first|rfl|assumption))) rfl ?_
  refine O.callF Try.call35 rfl rfl (CT.mono (ginsert_ct (a:=⟨0,2,11,false⟩) g2 (Holds.to (by assumption))) ?_)
  rintro _ w ⟨-,H⟩
  have H : Holds w (Gh g 3 4 nw3::L):=Holds.to H
  refine O.nil ?_
  refine hK6 _ _ _ ?_
  refine W.seq (fun K7 hK7=>?_)
  refine W.region ?_
  refine O.ex (Ex.move rfl) rfl ?_
  refine O.callF Try.call31 rfl rfl (CT.mono (bdist_ct (v:=0) (t:=2) g3 (Holds.to (M:=Gh g 3 4 nw3::_) (by assumption))) ?_)
  rintro _ w (⟨hno,-⟩|⟨-,rfl,H⟩)
  · exact absurd ⟨⟨by omega,by omega⟩,by omega,by omega⟩ hno
  rw [hf]
  refine O.ex (Ex.move rfl) rfl ?_
  refine O.ex (Ex.extract rfl rfl) rfl ?_
  refine O.ex (Ex.extract rfl rfl) rfl ?_
  refine O.ex (Ex.assign rfl) rfl ?_
  refine O.ex (Ex.assign rfl) rfl ?_
  refine O.nil ?_
  refine hK7 _ _ _ ?_
  refine W.seq (fun K8 hK8=>?_)
  refine W.region ?_
  refine O.ex (Ex.move rfl) rfl ?_
  refine O.callF Try.call32 rfl rfl (CT.mono (bpath_ct (v:=0) (t:=2) g3 (Holds.to (M:=Gh g 3 4 nw3::_) (by assumption))) ?_)
  rintro _ w (⟨hno,-⟩|⟨-,hN,-⟩|⟨-,hF,-⟩|⟨-,-,pv,l,hW,hll,rfl,hpv,H⟩)
  · exact absurd ⟨⟨by omega,by omega⟩,by omega,by omega⟩ hno
  · rw [hf] at hN; exact absurd hN (by decide)
  · rw [hf] at hF; exact absurd hF (by decide)
  rw [hf] at hW ⊢
  obtain rfl:=nw_path g3 hW
  refine O.ex (Ex.move rfl) rfl ?_
  refine O.ex (Ex.extract rfl rfl) rfl ?_
  refine O.ex (Ex.extract rfl rfl) rfl ?_
  refine O.ex (Ex.extract rfl rfl) rfl ?_
  refine O.ex (Ex.assign rfl) rfl ?_
  refine O.ex (Ex.assign rfl) rfl ?_
  refine O.ex (Ex.assign rfl) rfl ?_
  refine O.nil ?_
  refine hK8 _ _ _ ?_
  refine W.seq (fun K9 hK9=>?_)
  refine W.region ?_
  refine O.ex (Ex.move rfl) rfl ?_
  refine O.callF Try.call31 rfl rfl (CT.mono (bdist_ct (v:=0) (t:=3) g3 (Holds.to (M:=Gh g 3 4 nw3::_) (by assumption))) ?_)
  rintro _ w (⟨-,rfl,H⟩|⟨hr,-⟩)
  rotate_left
  · exact absurd hr.2.2 (by decide)
  refine O.ex (Ex.move rfl) rfl ?_
  refine O.ex (Ex.extract rfl rfl) rfl ?_
  refine O.ex (Ex.extract rfl rfl) rfl ?_
  refine O.ex (Ex.assign rfl) rfl ?_
  refine O.ex (Ex.assign rfl) rfl ?_
  refine O.nil ?_
  refine hK9 _ _ _ ?_
  refine W.seq (fun K10 hK10=>?_)
  refine W.region ?_
  refine O.ex (Ex.move rfl) rfl ?_
  refine O.ex (Ex.eqlI rfl rfl) rfl ?_
  refine O.ex (Ex.move rfl) rfl ?_
  refine O.known (t:=43) (c:=true) rfl (by first|rfl|decide|exact decide_eq_true rfl) ?_
  refine O.guard_t rfl rfl ?_
  refine O.ex (Ex.move rfl) rfl ?_
  refine O.guard_t rfl rfl ?_
  refine O.ex (Ex.eqlI rfl rfl) rfl ?_
  refine O.ex (Ex.pick_t rfl rfl) rfl ?_
  refine O.ex (Ex.move rfl) rfl ?_
  refine O.known (t:=47) (c:=true) rfl (by first|rfl|decide|exact decide_eq_true rfl) ?_
  refine O.guard_t rfl rfl ?_
  refine O.ex (Ex.move rfl) rfl ?_
  refine O.guard_t rfl rfl ?_
  refine O.buildK (e:=Value.int .i64) (vs:=[(0,.int .i64 4),(1,.int .i64 2)]) [4,2] Try.runUnderlying28 Try.sizeOf3 Try.zeroValue3 rfl rfl rfl rfl rfl rfl (fun v49 w hv49 H=>?_)
  refine O.guard_t rfl rfl ?_
  refine O.callF Try.call15 rfl rfl (CT.mono (nints_ct (xs:=[4,2]) (S1:=arr 3 (Value.int .i64) pv [4,2]) (S2:=arr 3 (Value.int .i64) v49 [4,2]) Rd.ofArr Rd.ofArr (by decide) (Holds.to (by assumption))) ?_)
  rintro _ w ⟨rfl,H⟩
  refine O.ex (Ex.pick_t rfl rfl) rfl ?_
  refine O.ex (Ex.move rfl) rfl ?_
  refine O.known (t:=52) (c:=true) rfl (by first|rfl|decide|exact decide_eq_true rfl) ?_
  refine O.guard_t rfl rfl ?_
  refine O.ex (Ex.move rfl) rfl ?_
  refine O.guard_t rfl rfl ?_
  refine O.ex (Ex.eqlI rfl rfl) rfl ?_
  refine O.ex (Ex.pick_t rfl rfl) rfl ?_
  refine O.ex (Ex.move rfl) rfl ?_
  refine O.known (t:=56) (c:=true) rfl (by first|rfl|decide|exact decide_eq_true rfl) ?_
  refine O.guard_t rfl rfl ?_
  refine O.ex (Ex.move rfl) rfl ?_
  refine O.guard_t rfl rfl ?_
  refine O.ex (Ex.eqlI rfl rfl) rfl ?_
  refine O.ex (Ex.pick_t rfl rfl) rfl ?_
  refine O.ex (Ex.move rfl) rfl ?_
  refine O.known (t:=60) (c:=true) rfl (by first|rfl|decide|exact decide_eq_true rfl) ?_
  refine O.guard_t rfl rfl ?_
  refine O.ex (Ex.move rfl) rfl ?_
  refine O.guard_t rfl rfl ?_
  refine O.ex (Ex.eqlI rfl rfl) rfl ?_
  refine O.ex (Ex.pick_t rfl rfl) rfl ?_
  refine O.ex (Ex.assign rfl) rfl ?_
  refine O.nil ?_
  refine hK10 _ _ _ ?_
  refine W.ret ?_
  try dsimp only [thenQ,blockQ,retQ]
  first|refine ⟨_,⟨_,_,rfl,rfl,rfl⟩,?_⟩|(refine retD_mark ?_; intro w H; refine ⟨_,⟨_,_,rfl,rfl,rfl⟩,?_⟩)|(refine retD_mark2 ?_; intro w H; refine ⟨_,⟨_,_,rfl,rfl,rfl⟩,?_⟩)
  exact ⟨rfl,Holds.to (by assumption)⟩
set_option maxHeartbeats 1000000 in
theorem lpathN_ct {w : World} {r : Nat} {n most v t d e : Int} {s : St} {L : List HProp} (hg : GOk n most s) (hh : (¬ ((0 ≤ v ∧ v < n) ∧ (0 ≤ t ∧ t < n)) ∧ d = 0 ∧ e = 1) ∨ (((0 ≤ v ∧ v < n) ∧ (0 ≤ t ∧ t < n)) ∧ far n (cG s) v t = 4611686018427387906 ∧ d = 0 ∧ e = 3) ∨ (((0 ≤ v ∧ v < n) ∧ (0 ≤ t ∧ t < n)) ∧ far n (cG s) v t = 4611686018427387905 ∧ d = 0 ∧ e = 9)) (H : Holds w (Rg r n most s::L)) :
    CT Try.prog 33 [.pointer (some ⟨r,0,none⟩),.int .i64 v,.int .i64 t,.slice none 0 0,.int .i64 d,.int .i64 e] w fun u w'=>u = .bool true ∧ Holds w' (Rg r n most s::L):=by
  have n1:=hg.n1
  have n2:=hg.n2
  refine CT.enter (N:=95) Try.func33 rfl rfl rfl rfl ?_
  refine W.seq (fun K0 hK0=>?_)
  refine W.region ?_
  refine O.ex (Ex.assign rfl) rfl ?_
  refine O.nil ?_
  refine hK0 _ _ _ ?_
  refine W.seq (fun K1 hK1=>?_)
  refine W.seq (fun K2 hK2=>?_)
  refine W.region ?_
  rcases hh with ⟨hno,rfl,rfl⟩|⟨hr,hF,rfl,rfl⟩|⟨hr,hF,rfl,rfl⟩
  · refine O.ex (Ex.move rfl) rfl ?_
    refine O.ex (Ex.move rfl) rfl ?_
    refine O.callF Try.call13 rfl rfl (CT.mono (rvertex_ct (Holds.to (M:=Rg r n most s::_) (by assumption))) ?_)
    rintro _ w ⟨rfl,H⟩
    refine O.ex (by first|exact Ex.notD rfl|exact Ex.not rfl) rfl ?_
    refine O.ex (Ex.move rfl) rfl ?_
    first|refine O.split_p (t:=18) rfl (fun ha=>?_) (fun hb=>?_)|refine O.split (t:=18) rfl (fun ha=>?_) (fun hb=>?_)
    · refine O.guard_f rfl rfl rfl rfl ?_
      refine O.guard_f rfl rfl rfl rfl ?_
      refine O.guard_f rfl rfl rfl rfl ?_
      refine O.guard_f rfl rfl rfl rfl ?_
      try (have hb2 : ¬ (0 ≤ t ∧ t < n):=fun h=>hno ⟨by simpa using hb,h⟩)
      refine O.ex (Ex.pick_t rfl rfl) rfl ?_
      refine O.nil ?_
      refine hK2 _ _ _ ?_
      refine W.cond_t rfl ?_
      refine W.seq (fun K3 hK3=>?_)
      refine W.region ?_
      refine O.ex (Ex.move rfl) rfl ?_
      refine O.ex (by first|exact Ex.lenR Try.runUnderlying28 rfl|exact Ex.lenIn Try.runUnderlying28 rfl|exact Ex.lenL Try.runUnderlying28 rfl|exact Ex.len rfl Try.runUnderlying28 rfl) rfl ?_
      refine O.ex (Ex.eqlI rfl rfl) rfl ?_
      refine O.ex (Ex.move rfl) rfl ?_
      refine O.known (t:=27) (c:=true) rfl (by first|rfl|decide|exact decide_eq_true rfl|exact decide_eq_true hF|exact decide_eq_false (fun hh=>hh hr.1)|exact decide_eq_false (fun hh=>hh hr.2)|exact decide_eq_false hFn|exact decide_eq_true hb2) ?_
      refine O.guard_t rfl rfl ?_
      refine O.ex (Ex.move rfl) rfl ?_
      refine O.guard_t rfl rfl ?_
      refine O.ex (Ex.eqlI rfl rfl) rfl ?_
      refine O.ex (Ex.pick_t rfl rfl) rfl ?_
      refine O.ex (Ex.move rfl) rfl ?_
      refine O.known (t:=31) (c:=true) rfl (by first|rfl|decide|exact decide_eq_true rfl|exact decide_eq_true hF|exact decide_eq_false (fun hh=>hh hr.1)|exact decide_eq_false (fun hh=>hh hr.2)|exact decide_eq_false hFn|exact decide_eq_true hb2) ?_
      refine O.guard_t rfl rfl ?_
      refine O.ex (Ex.move rfl) rfl ?_
      refine O.guard_t rfl rfl ?_
      refine O.ex (Ex.eqlI rfl rfl) rfl ?_
      refine O.ex (Ex.pick_t rfl rfl) rfl ?_
      refine O.ex (Ex.assign rfl) rfl ?_
      refine O.nil ?_
      refine hK3 _ _ _ ?_
      refine W.ret ?_
      try dsimp only [thenQ,blockQ,retQ]
      first|refine ⟨_,⟨_,_,rfl,rfl,rfl⟩,?_⟩|(refine retD_mark ?_; intro w H; refine ⟨_,⟨_,_,rfl,rfl,rfl⟩,?_⟩)|(refine retD_mark2 ?_; intro w H; refine ⟨_,⟨_,_,rfl,rfl,rfl⟩,?_⟩)
      exact ⟨rfl,Holds.to (by assumption)⟩
    · refine O.guard_t rfl rfl ?_
      refine O.ex (Ex.move rfl) rfl ?_
      refine O.guard_t rfl rfl ?_
      refine O.ex (Ex.move rfl) rfl ?_
      refine O.guard_t rfl rfl ?_
      refine O.callF Try.call13 rfl rfl (CT.mono (rvertex_ct (Holds.to (M:=Rg r n most s::_) (by assumption))) ?_)
      rintro _ w ⟨rfl,H⟩
      refine O.guard_t rfl rfl ?_
      refine O.ex (by first|exact Ex.notD rfl|exact Ex.not rfl) rfl ?_
      try (have hb2 : ¬ (0 ≤ t ∧ t < n):=fun h=>hno ⟨by simpa using hb,h⟩)
      refine O.ex (Ex.pick_f rfl rfl) rfl ?_
      refine O.nil ?_
      refine hK2 _ _ _ ?_
      refine W.known_t rfl (by first|rfl|decide|exact decide_eq_true rfl|exact decide_eq_true hF|exact decide_eq_false (fun hh=>hh hr.1)|exact decide_eq_false (fun hh=>hh hr.2)|exact decide_eq_false hFn|exact decide_eq_true hb2) ?_
      refine W.seq (fun K4 hK4=>?_)
      refine W.region ?_
      refine O.ex (Ex.move rfl) rfl ?_
      refine O.ex (by first|exact Ex.lenR Try.runUnderlying28 rfl|exact Ex.lenIn Try.runUnderlying28 rfl|exact Ex.lenL Try.runUnderlying28 rfl|exact Ex.len rfl Try.runUnderlying28 rfl) rfl ?_
      refine O.ex (Ex.eqlI rfl rfl) rfl ?_
      refine O.ex (Ex.move rfl) rfl ?_
      refine O.known (t:=27) (c:=true) rfl (by first|rfl|decide|exact decide_eq_true rfl|exact decide_eq_true hF|exact decide_eq_false (fun hh=>hh hr.1)|exact decide_eq_false (fun hh=>hh hr.2)|exact decide_eq_false hFn|exact decide_eq_true hb2) ?_
      refine O.guard_t rfl rfl ?_
      refine O.ex (Ex.move rfl) rfl ?_
      refine O.guard_t rfl rfl ?_
      refine O.ex (Ex.eqlI rfl rfl) rfl ?_
      refine O.ex (Ex.pick_t rfl rfl) rfl ?_
      refine O.ex (Ex.move rfl) rfl ?_
      refine O.known (t:=31) (c:=true) rfl (by first|rfl|decide|exact decide_eq_true rfl|exact decide_eq_true hF|exact decide_eq_false (fun hh=>hh hr.1)|exact decide_eq_false (fun hh=>hh hr.2)|exact decide_eq_false hFn|exact decide_eq_true hb2) ?_
      refine O.guard_t rfl rfl ?_
      refine O.ex (Ex.move rfl) rfl ?_
      refine O.guard_t rfl rfl ?_
      refine O.ex (Ex.eqlI rfl rfl) rfl ?_
      refine O.ex (Ex.pick_t rfl rfl) rfl ?_
      refine O.ex (Ex.assign rfl) rfl ?_
      refine O.nil ?_
      refine hK4 _ _ _ ?_
      refine W.ret ?_
      try dsimp only [thenQ,blockQ,retQ]
      first|refine ⟨_,⟨_,_,rfl,rfl,rfl⟩,?_⟩|(refine retD_mark ?_; intro w H; refine ⟨_,⟨_,_,rfl,rfl,rfl⟩,?_⟩)|(refine retD_mark2 ?_; intro w H; refine ⟨_,⟨_,_,rfl,rfl,rfl⟩,?_⟩)
      exact ⟨rfl,Holds.to (by assumption)⟩
  · refine O.ex (Ex.move rfl) rfl ?_
    refine O.ex (Ex.move rfl) rfl ?_
    refine O.callF Try.call13 rfl rfl (CT.mono (rvertex_ct (Holds.to (M:=Rg r n most s::_) (by assumption))) ?_)
    rintro _ w ⟨rfl,H⟩
    refine O.ex (by first|exact Ex.notD rfl|exact Ex.not rfl) rfl ?_
    refine O.ex (Ex.move rfl) rfl ?_
    refine O.known (t:=18) (c:=false) rfl (by first|rfl|decide|exact decide_eq_true rfl|exact decide_eq_true hF|exact decide_eq_false (fun hh=>hh hr.1)|exact decide_eq_false (fun hh=>hh hr.2)|exact decide_eq_false hFn|exact decide_eq_true hb2) ?_
    refine O.guard_t rfl rfl ?_
    refine O.ex (Ex.move rfl) rfl ?_
    refine O.guard_t rfl rfl ?_
    refine O.ex (Ex.move rfl) rfl ?_
    refine O.guard_t rfl rfl ?_
    refine O.callF Try.call13 rfl rfl (CT.mono (rvertex_ct (Holds.to (M:=Rg r n most s::_) (by assumption))) ?_)
    rintro _ w ⟨rfl,H⟩
    refine O.guard_t rfl rfl ?_
    refine O.ex (by first|exact Ex.notD rfl|exact Ex.not rfl) rfl ?_
    refine O.ex (Ex.pick_f rfl rfl) rfl ?_
    refine O.nil ?_
    refine hK2 _ _ _ ?_
    refine W.known_f rfl (by first|rfl|decide|exact decide_eq_true rfl|exact decide_eq_true hF|exact decide_eq_false (fun hh=>hh hr.1)|exact decide_eq_false (fun hh=>hh hr.2)|exact decide_eq_false hFn|exact decide_eq_true hb2) ?_
    refine W.skip ?_
    refine hK1 _ _ _ ?_
    refine W.seq (fun K5 hK5=>?_)
    refine W.region ?_
    refine O.ex (Ex.move rfl) rfl ?_
    refine O.ex (Ex.move rfl) rfl ?_
    refine O.callF Try.call14 rfl rfl (CT.mono (rfrom_ct hg hr.1.1 hr.1.2 (Holds.to (M:=Rg r n most s::_) (by assumption))) ?_)
    rintro _ w ⟨hu1,H⟩
    rename_i u1
    have hFl:=farL_len n (cG s) v.toNat
    have t0:=hr.2.1
    have vT : ((v.toNat : Nat) : Int) = v:=by omega
    have t1 : t < ((farL n (cG s) v.toNat).length : Int):=by rw [hFl]; omega
    have eft : (farL n (cG s) v.toNat).getD t.toNat default = far n (cG s) v t:=by rw [farL_get hr.2.1 hr.2.2,vT]
    replace H:=Holds.to (M:=arr 3 (Value.int .i64) u1 (farL n (cG s) v.toNat)::_) H
    refine O.ex (Ex.move rfl) rfl ?_
    refine O.ex (by first|exact Ex.idxR Try.runUnderlying28 Try.sizeOf3 rfl rfl|exact Ex.idxIn Try.runUnderlying28 Try.sizeOf3 rfl rfl|exact Ex.idxS Try.runUnderlying28 Try.sizeOf3 rfl rfl|exact Ex.idx Try.runUnderlying28 Try.sizeOf3 rfl rfl (by omega) (by omega)) rfl ?_
    refine O.ex (Ex.cast (v:=.int .i64 (far n (cG s) v t)) (Ex.loadR (xs:=farL n (cG s) v.toNat) Try.isAgg3 rfl) (by rw [eft])) rfl ?_
    refine O.ex (Ex.assign rfl) rfl ?_
    refine O.nil ?_
    refine hK5 _ _ _ ?_
    refine W.seq (fun K6 hK6=>?_)
    refine W.seq (fun K7 hK7=>?_)
    refine W.region ?_
    refine O.ex (Ex.move rfl) rfl ?_
    refine O.ex (Ex.eqlI rfl rfl) rfl ?_
    refine O.nil ?_
    refine hK7 _ _ _ ?_
    refine W.known_t rfl (by first|rfl|decide|exact decide_eq_true rfl|exact decide_eq_true hF|exact decide_eq_false (fun hh=>hh hr.1)|exact decide_eq_false (fun hh=>hh hr.2)|exact decide_eq_false hFn|exact decide_eq_true hb2) ?_
    refine W.seq (fun K8 hK8=>?_)
    refine W.region ?_
    refine O.ex (Ex.move rfl) rfl ?_
    refine O.ex (by first|exact Ex.lenR Try.runUnderlying28 rfl|exact Ex.lenIn Try.runUnderlying28 rfl|exact Ex.lenL Try.runUnderlying28 rfl|exact Ex.len rfl Try.runUnderlying28 rfl) rfl ?_
    refine O.ex (Ex.eqlI rfl rfl) rfl ?_
    refine O.ex (Ex.move rfl) rfl ?_
    refine O.known (t:=46) (c:=true) rfl (by first|rfl|decide|exact decide_eq_true rfl|exact decide_eq_true hF|exact decide_eq_false (fun hh=>hh hr.1)|exact decide_eq_false (fun hh=>hh hr.2)|exact decide_eq_false hFn|exact decide_eq_true hb2) ?_
    refine O.guard_t rfl rfl ?_
    refine O.ex (Ex.move rfl) rfl ?_
    refine O.guard_t rfl rfl ?_
    refine O.ex (Ex.eqlI rfl rfl) rfl ?_
    refine O.ex (Ex.pick_t rfl rfl) rfl ?_
    refine O.ex (Ex.move rfl) rfl ?_
    refine O.known (t:=50) (c:=true) rfl (by first|rfl|decide|exact decide_eq_true rfl|exact decide_eq_true hF|exact decide_eq_false (fun hh=>hh hr.1)|exact decide_eq_false (fun hh=>hh hr.2)|exact decide_eq_false hFn|exact decide_eq_true hb2) ?_
    refine O.guard_t rfl rfl ?_
    refine O.ex (Ex.move rfl) rfl ?_
    refine O.guard_t rfl rfl ?_
    refine O.ex (Ex.eqlI rfl rfl) rfl ?_
    refine O.ex (Ex.pick_t rfl rfl) rfl ?_
    refine O.ex (Ex.assign rfl) rfl ?_
    refine O.nil ?_
    refine hK8 _ _ _ ?_
    refine W.ret ?_
    try dsimp only [thenQ,blockQ,retQ]
    first|refine ⟨_,⟨_,_,rfl,rfl,rfl⟩,?_⟩|(refine retD_mark ?_; intro w H; refine ⟨_,⟨_,_,rfl,rfl,rfl⟩,?_⟩)|(refine retD_mark2 ?_; intro w H; refine ⟨_,⟨_,_,rfl,rfl,rfl⟩,?_⟩)
    exact ⟨rfl,Holds.to (by assumption)⟩
  · refine O.ex (Ex.move rfl) rfl ?_
    refine O.ex (Ex.move rfl) rfl ?_
    refine O.callF Try.call13 rfl rfl (CT.mono (rvertex_ct (Holds.to (M:=Rg r n most s::_) (by assumption))) ?_)
    rintro _ w ⟨rfl,H⟩
    refine O.ex (by first|exact Ex.notD rfl|exact Ex.not rfl) rfl ?_
    refine O.ex (Ex.move rfl) rfl ?_
    refine O.known (t:=18) (c:=false) rfl (by first|rfl|decide|exact decide_eq_true rfl|exact decide_eq_true hF|exact decide_eq_false (fun hh=>hh hr.1)|exact decide_eq_false (fun hh=>hh hr.2)|exact decide_eq_false hFn|exact decide_eq_true hb2) ?_
    refine O.guard_t rfl rfl ?_
    refine O.ex (Ex.move rfl) rfl ?_
    refine O.guard_t rfl rfl ?_
    refine O.ex (Ex.move rfl) rfl ?_
    refine O.guard_t rfl rfl ?_
    refine O.callF Try.call13 rfl rfl (CT.mono (rvertex_ct (Holds.to (M:=Rg r n most s::_) (by assumption))) ?_)
    rintro _ w ⟨rfl,H⟩
    refine O.guard_t rfl rfl ?_
    refine O.ex (by first|exact Ex.notD rfl|exact Ex.not rfl) rfl ?_
    refine O.ex (Ex.pick_f rfl rfl) rfl ?_
    refine O.nil ?_
    refine hK2 _ _ _ ?_
    refine W.known_f rfl (by first|rfl|decide|exact decide_eq_true rfl|exact decide_eq_true hF|exact decide_eq_false (fun hh=>hh hr.1)|exact decide_eq_false (fun hh=>hh hr.2)|exact decide_eq_false hFn|exact decide_eq_true hb2) ?_
    refine W.skip ?_
    refine hK1 _ _ _ ?_
    refine W.seq (fun K9 hK9=>?_)
    refine W.region ?_
    refine O.ex (Ex.move rfl) rfl ?_
    refine O.ex (Ex.move rfl) rfl ?_
    refine O.callF Try.call14 rfl rfl (CT.mono (rfrom_ct hg hr.1.1 hr.1.2 (Holds.to (M:=Rg r n most s::_) (by assumption))) ?_)
    rintro _ w ⟨hu1,H⟩
    rename_i u1
    have hFl:=farL_len n (cG s) v.toNat
    have t0:=hr.2.1
    have vT : ((v.toNat : Nat) : Int) = v:=by omega
    have t1 : t < ((farL n (cG s) v.toNat).length : Int):=by rw [hFl]; omega
    have eft : (farL n (cG s) v.toNat).getD t.toNat default = far n (cG s) v t:=by rw [farL_get hr.2.1 hr.2.2,vT]
    replace H:=Holds.to (M:=arr 3 (Value.int .i64) u1 (farL n (cG s) v.toNat)::_) H
    refine O.ex (Ex.move rfl) rfl ?_
    refine O.ex (by first|exact Ex.idxR Try.runUnderlying28 Try.sizeOf3 rfl rfl|exact Ex.idxIn Try.runUnderlying28 Try.sizeOf3 rfl rfl|exact Ex.idxS Try.runUnderlying28 Try.sizeOf3 rfl rfl|exact Ex.idx Try.runUnderlying28 Try.sizeOf3 rfl rfl (by omega) (by omega)) rfl ?_
    refine O.ex (Ex.cast (v:=.int .i64 (far n (cG s) v t)) (Ex.loadR (xs:=farL n (cG s) v.toNat) Try.isAgg3 rfl) (by rw [eft])) rfl ?_
    refine O.ex (Ex.assign rfl) rfl ?_
    refine O.nil ?_
    refine hK9 _ _ _ ?_
    refine W.seq (fun K10 hK10=>?_)
    refine W.seq (fun K11 hK11=>?_)
    refine W.region ?_
    have hFn : ¬ far n (cG s) v t = 4611686018427387906:=by rw [hF]; decide
    refine O.ex (Ex.move rfl) rfl ?_
    refine O.ex (Ex.eqlI rfl rfl) rfl ?_
    refine O.nil ?_
    refine hK11 _ _ _ ?_
    refine W.known_f rfl (by first|rfl|decide|exact decide_eq_true rfl|exact decide_eq_true hF|exact decide_eq_false (fun hh=>hh hr.1)|exact decide_eq_false (fun hh=>hh hr.2)|exact decide_eq_false hFn|exact decide_eq_true hb2) ?_
    refine W.skip ?_
    refine hK10 _ _ _ ?_
    refine W.seq (fun K12 hK12=>?_)
    refine W.seq (fun K13 hK13=>?_)
    refine W.region ?_
    refine O.ex (Ex.move rfl) rfl ?_
    refine O.ex (Ex.eqlI rfl rfl) rfl ?_
    refine O.nil ?_
    refine hK13 _ _ _ ?_
    refine W.known_t rfl (by first|rfl|decide|exact decide_eq_true rfl|exact decide_eq_true hF|exact decide_eq_false (fun hh=>hh hr.1)|exact decide_eq_false (fun hh=>hh hr.2)|exact decide_eq_false hFn|exact decide_eq_true hb2) ?_
    refine W.seq (fun K14 hK14=>?_)
    refine W.region ?_
    refine O.ex (Ex.move rfl) rfl ?_
    refine O.ex (by first|exact Ex.lenR Try.runUnderlying28 rfl|exact Ex.lenIn Try.runUnderlying28 rfl|exact Ex.lenL Try.runUnderlying28 rfl|exact Ex.len rfl Try.runUnderlying28 rfl) rfl ?_
    refine O.ex (Ex.eqlI rfl rfl) rfl ?_
    refine O.ex (Ex.move rfl) rfl ?_
    refine O.known (t:=59) (c:=true) rfl (by first|rfl|decide|exact decide_eq_true rfl|exact decide_eq_true hF|exact decide_eq_false (fun hh=>hh hr.1)|exact decide_eq_false (fun hh=>hh hr.2)|exact decide_eq_false hFn|exact decide_eq_true hb2) ?_
    refine O.guard_t rfl rfl ?_
    refine O.ex (Ex.move rfl) rfl ?_
    refine O.guard_t rfl rfl ?_
    refine O.ex (Ex.eqlI rfl rfl) rfl ?_
    refine O.ex (Ex.pick_t rfl rfl) rfl ?_
    refine O.ex (Ex.move rfl) rfl ?_
    refine O.known (t:=63) (c:=true) rfl (by first|rfl|decide|exact decide_eq_true rfl|exact decide_eq_true hF|exact decide_eq_false (fun hh=>hh hr.1)|exact decide_eq_false (fun hh=>hh hr.2)|exact decide_eq_false hFn|exact decide_eq_true hb2) ?_
    refine O.guard_t rfl rfl ?_
    refine O.ex (Ex.move rfl) rfl ?_
    refine O.guard_t rfl rfl ?_
    refine O.ex (Ex.eqlI rfl rfl) rfl ?_
    refine O.ex (Ex.pick_t rfl rfl) rfl ?_
    refine O.ex (Ex.assign rfl) rfl ?_
    refine O.nil ?_
    refine hK14 _ _ _ ?_
    refine W.ret ?_
    try dsimp only [thenQ,blockQ,retQ]
    first|refine ⟨_,⟨_,_,rfl,rfl,rfl⟩,?_⟩|(refine retD_mark ?_; intro w H; refine ⟨_,⟨_,_,rfl,rfl,rfl⟩,?_⟩)|(refine retD_mark2 ?_; intro w H; refine ⟨_,⟨_,_,rfl,rfl,rfl⟩,?_⟩)
    exact ⟨rfl,Holds.to (by assumption)⟩
set_option maxHeartbeats 1000000 in
theorem lpathW_ct {w : World} {r : Nat} {n most v t : Int} {s : St} {pv : Value} {l : List Int} {L : List HProp} (hg : GOk n most s) (hr : (0 ≤ v ∧ v < n) ∧ (0 ≤ t ∧ t < n)) (hm : far n (cG s) v t ≤ 4611686018427387904) (hW : Wl s v l t (far n (cG s) v t)) (hl : l.length ≤ 48) (H : Holds w (Rg r n most s::arr 3 (Value.int .i64) pv l::L)) :
    CT Try.prog 33 [.pointer (some ⟨r,0,none⟩),.int .i64 v,.int .i64 t,pv,.int .i64 (far n (cG s) v t),.int .i64 0] w fun u w'=>u = .bool true ∧ Holds w' (Rg r n most s::arr 3 (Value.int .i64) pv l::L):=by
  have n1:=hg.n1
  have n2:=hg.n2
  obtain ⟨w1,w2,w3⟩:=Wl.law hg hr.1 hr.2 hW rfl hm
  have hFn : ¬ far n (cG s) v t = 4611686018427387906:=by omega
  have hFf : ¬ far n (cG s) v t = 4611686018427387905:=by omega
  refine CT.enter (N:=95) Try.func33 rfl rfl rfl rfl ?_
  refine W.seq (fun K0 hK0=>?_)
  refine W.region ?_
  refine O.ex (Ex.assign rfl) rfl ?_
  refine O.nil ?_
  refine hK0 _ _ _ ?_
  refine W.seq (fun K1 hK1=>?_)
  refine W.seq (fun K2 hK2=>?_)
  refine W.region ?_
  refine O.ex (Ex.move rfl) rfl ?_
  refine O.ex (Ex.move rfl) rfl ?_
  refine O.callF Try.call13 rfl rfl (CT.mono (rvertex_ct (Holds.to (M:=Rg r n most s::_) (by assumption))) ?_)
  rintro _ w ⟨rfl,H⟩
  refine O.ex (by first|exact Ex.notD rfl|exact Ex.not rfl) rfl ?_
  refine O.ex (Ex.move rfl) rfl ?_
  refine O.known (t:=18) (c:=false) rfl (by first|rfl|decide|exact decide_eq_true rfl|exact decide_eq_false (fun hh=>hh hr.1)|exact decide_eq_false (fun hh=>hh hr.2)|exact decide_eq_false hFn|exact decide_eq_false hFf) ?_
  refine O.guard_t rfl rfl ?_
  refine O.ex (Ex.move rfl) rfl ?_
  refine O.guard_t rfl rfl ?_
  refine O.ex (Ex.move rfl) rfl ?_
  refine O.guard_t rfl rfl ?_
  refine O.callF Try.call13 rfl rfl (CT.mono (rvertex_ct (Holds.to (M:=Rg r n most s::_) (by assumption))) ?_)
  rintro _ w ⟨rfl,H⟩
  refine O.guard_t rfl rfl ?_
  refine O.ex (by first|exact Ex.notD rfl|exact Ex.not rfl) rfl ?_
  refine O.ex (Ex.pick_f rfl rfl) rfl ?_
  refine O.nil ?_
  refine hK2 _ _ _ ?_
  refine W.known_f rfl (by first|rfl|decide|exact decide_eq_true rfl|exact decide_eq_false (fun hh=>hh hr.1)|exact decide_eq_false (fun hh=>hh hr.2)|exact decide_eq_false hFn|exact decide_eq_false hFf) ?_
  refine W.skip ?_
  refine hK1 _ _ _ ?_
  refine W.seq (fun K3 hK3=>?_)
  refine W.region ?_
  refine O.ex (Ex.move rfl) rfl ?_
  refine O.ex (Ex.move rfl) rfl ?_
  refine O.callF Try.call14 rfl rfl (CT.mono (rfrom_ct hg hr.1.1 hr.1.2 (Holds.to (M:=Rg r n most s::_) (by assumption))) ?_)
  rintro _ w ⟨hu1,H⟩
  rename_i u1
  have hFl:=farL_len n (cG s) v.toNat
  have t0:=hr.2.1
  have vT : ((v.toNat : Nat) : Int) = v:=by omega
  have t1 : t < ((farL n (cG s) v.toNat).length : Int):=by rw [hFl]; omega
  have eft : (farL n (cG s) v.toNat).getD t.toNat default = far n (cG s) v t:=by rw [farL_get hr.2.1 hr.2.2,vT]
  replace H:=Holds.to (M:=arr 3 (Value.int .i64) u1 (farL n (cG s) v.toNat)::_) H
  refine O.ex (Ex.move rfl) rfl ?_
  refine O.ex (by first|exact Ex.idxR Try.runUnderlying28 Try.sizeOf3 rfl rfl|exact Ex.idxIn Try.runUnderlying28 Try.sizeOf3 rfl rfl|exact Ex.idxS Try.runUnderlying28 Try.sizeOf3 rfl rfl|exact Ex.idx Try.runUnderlying28 Try.sizeOf3 rfl rfl (by omega) (by omega)) rfl ?_
  refine O.ex (Ex.cast (v:=.int .i64 (far n (cG s) v t)) (Ex.loadR (xs:=farL n (cG s) v.toNat) Try.isAgg3 rfl) (by rw [eft])) rfl ?_
  refine O.ex (Ex.assign rfl) rfl ?_
  refine O.nil ?_
  refine hK3 _ _ _ ?_
  refine W.seq (fun K4 hK4=>?_)
  refine W.seq (fun K5 hK5=>?_)
  refine W.region ?_
  refine O.ex (Ex.move rfl) rfl ?_
  refine O.ex (Ex.eqlI rfl rfl) rfl ?_
  refine O.nil ?_
  refine hK5 _ _ _ ?_
  refine W.known_f rfl (by first|rfl|decide|exact decide_eq_true rfl|exact decide_eq_false (fun hh=>hh hr.1)|exact decide_eq_false (fun hh=>hh hr.2)|exact decide_eq_false hFn|exact decide_eq_false hFf) ?_
  refine W.skip ?_
  refine hK4 _ _ _ ?_
  refine W.seq (fun K6 hK6=>?_)
  refine W.seq (fun K7 hK7=>?_)
  refine W.region ?_
  refine O.ex (Ex.move rfl) rfl ?_
  refine O.ex (Ex.eqlI rfl rfl) rfl ?_
  refine O.nil ?_
  refine hK7 _ _ _ ?_
  refine W.known_f rfl (by first|rfl|decide|exact decide_eq_true rfl|exact decide_eq_false (fun hh=>hh hr.1)|exact decide_eq_false (fun hh=>hh hr.2)|exact decide_eq_false hFn|exact decide_eq_false hFf) ?_
  refine W.skip ?_
  refine hK6 _ _ _ ?_
  refine W.seq (fun K8 hK8=>?_)
  refine W.region ?_
  refine O.ex (Ex.move rfl) rfl ?_
  refine O.ex (Ex.eqlI rfl rfl) rfl ?_
  refine O.ex (Ex.move rfl) rfl ?_
  refine O.known (t:=69) (c:=true) rfl (by first|rfl|decide|exact decide_eq_true rfl|exact decide_eq_false (fun hh=>hh hr.1)|exact decide_eq_false (fun hh=>hh hr.2)|exact decide_eq_false hFn|exact decide_eq_false hFf) ?_
  refine O.guard_t rfl rfl ?_
  refine O.ex (Ex.move rfl) rfl ?_
  refine O.guard_t rfl rfl ?_
  refine O.ex (Ex.move rfl) rfl ?_
  refine O.guard_t rfl rfl ?_
  refine O.ex (Ex.eqlI rfl rfl) rfl ?_
  refine O.ex (Ex.pick_t rfl rfl) rfl ?_
  refine O.ex (Ex.move rfl) rfl ?_
  refine O.known (t:=74) (c:=true) rfl (by first|rfl|decide|exact decide_eq_true rfl|exact decide_eq_false (fun hh=>hh hr.1)|exact decide_eq_false (fun hh=>hh hr.2)|exact decide_eq_false hFn|exact decide_eq_false hFf) ?_
  refine O.guard_t rfl rfl ?_
  refine O.ex (Ex.move rfl) rfl ?_
  refine O.guard_t rfl rfl ?_
  refine O.ex (Ex.move rfl) rfl ?_
  refine O.guard_t rfl rfl ?_
  refine O.ex (Ex.move rfl) rfl ?_
  refine O.guard_t rfl rfl ?_
  refine O.ex (Ex.move rfl) rfl ?_
  refine O.guard_t rfl rfl ?_
  refine O.callF Try.call17 rfl rfl (CT.mono (rcheck_ct (S:=arr 3 (Value.int .i64) pv l) hg Rd.ofArr (by omega) (Holds.to (by assumption))) ?_)
  rintro _ w ⟨rfl,H⟩
  rw [w1]
  refine O.guard_t rfl rfl ?_
  refine O.ex (Ex.eqlI rfl rfl) rfl ?_
  refine O.ex (Ex.pick_t rfl rfl) rfl ?_
  refine O.ex (Ex.move rfl) rfl ?_
  refine O.known (t:=82) (c:=true) rfl (by first|rfl|decide|exact decide_eq_true rfl|exact decide_eq_false (fun hh=>hh hr.1)|exact decide_eq_false (fun hh=>hh hr.2)|exact decide_eq_false hFn|exact decide_eq_false hFf) ?_
  refine O.guard_t rfl rfl ?_
  refine O.ex (Ex.move rfl) rfl ?_
  refine O.guard_t rfl rfl ?_
  refine O.ex (Ex.move rfl) rfl ?_
  refine O.guard_t rfl rfl ?_
  refine O.callF Try.call18 rfl rfl (CT.mono (rsum_ct (S:=arr 3 (Value.int .i64) pv l) hg Rd.ofArr (by omega) (Holds.to (by assumption))) ?_)
  rintro _ w ⟨rfl,H⟩
  rw [w2]
  refine O.guard_t rfl rfl ?_
  refine O.ex (Ex.move rfl) rfl ?_
  refine O.guard_t rfl rfl ?_
  refine O.ex (Ex.eqlI rfl rfl) rfl ?_
  refine O.ex (Ex.pick_t rfl rfl) rfl ?_
  refine O.ex (Ex.move rfl) rfl ?_
  refine O.known (t:=89) (c:=true) rfl (by first|rfl|decide|exact decide_eq_true rfl|exact decide_eq_false (fun hh=>hh hr.1)|exact decide_eq_false (fun hh=>hh hr.2)|exact decide_eq_false hFn|exact decide_eq_false hFf) ?_
  refine O.guard_t rfl rfl ?_
  refine O.ex (Ex.move rfl) rfl ?_
  refine O.guard_t rfl rfl ?_
  refine O.ex (Ex.move rfl) rfl ?_
  refine O.guard_t rfl rfl ?_
  refine O.ex (Ex.move rfl) rfl ?_
  refine O.guard_t rfl rfl ?_
  refine O.callF Try.call19 rfl rfl (CT.mono (rsimple_ct (S:=arr 3 (Value.int .i64) pv l) hg Rd.ofArr (by omega) (Holds.to (by assumption))) ?_)
  rintro _ w ⟨rfl,H⟩
  refine O.ex (Ex.pick_t rfl rfl) rfl ?_
  refine O.ex (Ex.assign rfl) rfl ?_
  refine O.nil ?_
  refine hK8 _ _ _ ?_
  refine W.ret ?_
  try dsimp only [thenQ,blockQ,retQ]
  first|refine ⟨_,⟨_,_,rfl,rfl,rfl⟩,?_⟩|(refine retD_mark ?_; intro w H; refine ⟨_,⟨_,_,rfl,rfl,rfl⟩,?_⟩)|(refine retD_mark2 ?_; intro w H; refine ⟨_,⟨_,_,rfl,rfl,rfl⟩,?_⟩)
  exact ⟨congrArg Value.bool (decide_eq_true w3),Holds.to (by assumption)⟩
end Go.Proofs.Ytliofdfhimmjmaa
