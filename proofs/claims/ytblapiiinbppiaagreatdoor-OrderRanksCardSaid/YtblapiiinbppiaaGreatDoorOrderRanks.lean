import Derived.Test.YtblapiiinbppiaaGreatDoorRank3
import Derived.Test.YtblapiiinbppiaaGreatDoorOrderParallel
import Derived.Test.YtblapiiinbppiaaGreatDoorPerm2
namespace Go.Proofs.YtblapiiinbppiaaGreatDoor
open Go.Rr Go Gr Hp Wt
set_option linter.unusedVariables false
set_option linter.unusedSimpArgs false
set_option maxHeartbeats 4000000 in
theorem orderRanks_ct {w0 : World} {q z : Int} {lv : Value} {l : List Chg} (hT : TabAt w0) (hq : (Lit.int .u8 q).wf = true) (hx : SlIn w0 6 Chg.enc lv l) (hl : l.length ≤ 9223372036854775807) :
    CT Tryz.prog 3 [.int .u8 q,lv,.int .i64 z] w0 fun x w'=>x = .bool true ∧ RowKit.Below w0.heap.size w0 w':=by
  obtain ⟨q0,q1⟩:=bounds_u8 hq
  have hq10:=wf_r10 hq
  have H:=Holds.base_refl w0
  refine CT.enter (N:=33) Tryz.func3 rfl rfl rfl rfl ?_
  refine W.seq (fun K0 hK0=>?_)
  refine W.region ?_
  refine O.ex (Ex.assign rfl) rfl ?_
  refine O.nil ?_
  refine hK0 _ _ _ ?_
  refine W.seq (fun K1 hK1=>?_)
  refine W.seq (fun K2 hK2=>?_)
  refine W.region ?_
  refine O.callF Tryz.call5 rfl rfl (CT.mono (awake14_ct (Holds.to (by assumption))) ?_)
  rintro _ w ⟨rfl,H⟩
  refine O.ex (by first|exact Ex.notD rfl|exact Ex.not rfl) rfl ?_
  refine O.nil ?_
  refine hK2 _ _ _ ?_
  refine W.known_f rfl (by first|rfl|decide|exact decide_eq_false (fun hh=>by cases hh)) ?_
  refine W.skip ?_
  refine hK1 _ _ _ ?_
  refine W.seq (fun K3 hK3=>?_)
  refine W.region ?_
  refine O.ex (Ex.move rfl) rfl ?_
  refine O.ex (by first|exact Ex.remI rfl rfl|exact Ex.rem rfl rfl (by omega) rfl) rfl ?_
  refine O.ex (Ex.move rfl) rfl ?_
  refine O.callF Tryz.call6 rfl rfl (CT.mono (made08_ct hq10 hx hl (Holds.to (M:=base w0::_) (by assumption))) ?_)
  rintro _ w ⟨g,r,hg,rfl,H⟩
  refine O.ex (Ex.move rfl) rfl ?_
  refine O.ex (Ex.extract rfl rfl) rfl ?_
  refine O.ex (Ex.extract rfl rfl) rfl ?_
  refine O.ex (Ex.assign rfl) rfl ?_
  refine O.ex (Ex.assign rfl) rfl ?_
  refine O.nil ?_
  refine hK3 _ _ _ ?_
  refine W.seq (fun K4 hK4=>?_)
  refine W.seq (fun K5 hK5=>?_)
  refine W.region ?_
  refine O.ex (Ex.move rfl) rfl ?_
  refine O.ex (Ex.nilEq Tryz.runUnderlying24 rfl rfl) rfl ?_
  refine O.nil ?_
  refine hK5 _ _ _ ?_
  refine W.known_f rfl (by first|rfl|decide|exact decide_eq_false (fun hh=>by cases hh)) ?_
  refine W.skip ?_
  refine hK4 _ _ _ ?_
  refine W.seq (fun K6 hK6=>?_)
  refine W.region ?_
  obtain ⟨s,hs⟩ : ∃ s,s = doAll (1 + q % 10 % 24) 64 noS (l.take 150):=⟨_,rfl⟩
  rw [← hs] at hg H
  obtain ⟨n,hn⟩ : ∃ n,n = 1 + q % 10 % 24:=⟨_,rfl⟩
  rw [← hn] at hg H
  have n1:=hg.n1
  have n2:=hg.n2
  have hG:=cG_good hg
  refine O.ex (Ex.move rfl) rfl ?_
  refine O.ex (Ex.move rfl) rfl ?_
  refine O.callF Tryz.call7 rfl rfl (CT.mono (rank_ct (g:=g) (settles:=z) hT hg (Holds.to (M:=base w0::Gh g n 64 s::_) (by assumption))) ?_)
  rintro _ w ⟨hav,H⟩
  rename_i av
  have hRl:=rankF_len (settles:=z) hG
  refine O.ex (Ex.assign rfl) rfl ?_
  refine O.nil ?_
  refine hK6 _ _ _ ?_
  refine W.seq (fun K7 hK7=>?_)
  refine W.region ?_
  refine O.ex (Ex.move rfl) rfl ?_
  refine O.ex (Ex.move rfl) rfl ?_
  refine O.ex (Ex.move rfl) rfl ?_
  refine O.callF Tryz.call9 rfl rfl (CT.mono (refRank_ct (r:=r) (settles:=z) hg (Holds.to (M:=base w0::Rg r n 64 s::_) (by assumption))) ?_)
  rintro _ w ⟨hbv,H⟩
  rename_i bv
  refine O.callF Tryz.call8 rfl rfl (CT.mono (zints_ct (S1:=arr 3 (Value.int .i64) av (rankF n z (cG s))) (S2:=arr 3 (Value.int .i64) bv (rankF n z (cG s))) Rd.ofArr Rd.ofArr (by rw [hRl]; omega) (Holds.to (by assumption))) ?_)
  rintro _ w ⟨rfl,H⟩
  refine O.ex (Ex.move rfl) rfl ?_
  refine O.known (t:=29) (c:=true) rfl (by first|rfl|decide|exact decide_eq_false (fun hh=>by cases hh)) ?_
  refine O.guard_t rfl rfl ?_
  refine O.ex (Ex.move rfl) rfl ?_
  refine O.guard_t rfl rfl ?_
  refine O.callF Tryz.call10 rfl rfl (CT.mono (refRightA_ct (v:=av) (l:=rankF n z (cG s)) (Holds.to (M:=arr 3 (Value.int .i64) av (rankF n z (cG s))::base w0::[]) (by assumption)) (by rw [hRl]; omega)) ?_)
  rintro _ w ⟨rfl,H⟩
  refine O.ex (Ex.pick_t rfl rfl) rfl ?_
  refine O.ex (Ex.assign rfl) rfl ?_
  refine O.nil ?_
  refine hK7 _ _ _ ?_
  refine W.ret ?_
  try dsimp only [thenQ,blockQ,retQ]
  first|refine ⟨_,⟨_,_,rfl,rfl,rfl⟩,?_⟩|(refine retD_mark ?_; intro w H; refine ⟨_,⟨_,_,rfl,rfl,rfl⟩,?_⟩)|(refine retD_mark2 ?_; intro w H; refine ⟨_,⟨_,_,rfl,rfl,rfl⟩,?_⟩)
  exact ⟨congrArg Value.bool (decide_eq_true (rankF_right hG)),Holds.base_below (L:=[]) (Holds.to (by assumption))⟩
theorem orderRanks_row {w0 : World} {q z : Int} {lv : Value} {l : List Chg} (hT : TabAt w0) (hq : (Lit.int .u8 q).wf = true) (hx : SlIn w0 6 Chg.enc lv l) (hg : ∀ x ∈ l,x.ok) (hl : l.length ≤ maxLen) (hz : (Lit.int .i64 z).wf = true) :
    CT Tryz.prog 3 [.int .u8 q,lv,.int .i64 z] w0 fun x w'=>x = .bool true ∧ RowKit.Below w0.heap.size w0 w' :=
  orderRanks_ct hT hq hx (by unfold maxLen at hl; omega)
end Go.Proofs.YtblapiiinbppiaaGreatDoor
