import Derived.Test.YtblapiiinbppiaaGreatDoorMeshAll
import Derived.Test.YtblapiiinbppiaaGreatDoorRrBase
namespace Go.Proofs.YtblapiiinbppiaaGreatDoor
open Go.Rr Go
set_option linter.unusedVariables false
/-- The vertices below k to which (or from which) a step leads. -/
def sl (g : Int → Int) : Nat → List Int
  | 0=>[]
  | k + 1=>if g (k : Nat) ≠ 4611686018427387906 then sl g k ++ [(k : Int)] else sl g k
theorem sl_le (g : Int → Int) : ∀ k,(sl g k).length ≤ k
  | 0=>by simp [sl]
  | k + 1=>by have:=sl_le g k; unfold sl; split <;> simp <;> omega
theorem sl_t {g : Int → Int} {i : Nat} (hb : g (i : Nat) ≠ 4611686018427387906) : sl g (i + 1) = sl g i ++ [(i : Int)]:=if_pos hb
theorem sl_f {g : Int → Int} {i : Nat} (hb : ¬ g (i : Nat) ≠ 4611686018427387906) : sl g (i + 1) = sl g i:=if_neg hb
theorem refStepsf_ct {w : World} {r : Nat} {n v : Int} {c : Int → Int → Int} {L : List HProp} (hg : Good n c) (H : Holds w (Rh r n c::L)) :
    CT Tryz.prog 33 [.pointer (some ⟨r,0,none⟩),.int .i64 v,.bool false] w fun x w'=>x.oneCell' = true ∧ Holds w' (arr 3 (Value.int .i64) x (sl (fun x=>c v x) n.toNat)::Rh r n c::L):=by
  have n1:=hg.n1
  have n2:=hg.n2
  refine CT.enter (N:=34) Tryz.func33 rfl rfl rfl rfl ?_
  refine W.seq (fun K0 hK0=>?_)
  refine W.region ?_
  refine O.ex (Ex.assign rfl) rfl ?_
  refine O.nil ?_
  refine hK0 _ _ _ ?_
  refine W.seq (fun K1 hK1=>?_)
  refine W.region ?_
  refine O.ex (Ex.assign rfl) rfl ?_
  refine O.nil ?_
  refine hK1 _ _ _ ?_
  refine W.seq (fun K2 hK2=>?_)
  refine W.seq (fun K3 hK3=>?_)
  refine W.region ?_
  refine O.ex (Ex.assign rfl) rfl ?_
  refine O.nil ?_
  refine hK3 _ _ _ ?_
  refine W.block ?_
  have H:=arr_nil (T:=3) (e:=Value.int .i64) H
  refine W.loop (σ:=Nat × Value) (fun i=>[(0,.pointer (some ⟨r,0,none⟩)),(1,.int .i64 v),(2,.bool false),(7,i.2),(8,.int .i64 (i.1 : Int))]) (fun i ds w=>ds = [] ∧ (i.1 : Int) ≤ n ∧ i.2.oneCell' = true ∧ Holds w (arr 3 (Value.int .i64) i.2 (sl (fun x=>c v x) i.1)::Rh r n c::L)) (fun i=>n.toNat - i.1) (0,.slice none 0 0) ⟨rfl,rfl,rfl,rfl,rfl,trivial⟩ ⟨rfl,by dsimp only; omega,rfl,Holds.to (by assumption)⟩ ?_
  clear H
  rintro ⟨i,va⟩ _ w ⟨rfl,hi,hva,H⟩
  dsimp only at hi hva H
  dsimp only
  have hsl:=sl_le (fun x=>c v x) i
  have hlo:=hg.hi v (i : Nat)
  have hlo2:=hg.hi (i : Nat) v
  refine W.seq (fun K4 hK4=>?_)
  refine W.seq (fun K5 hK5=>?_)
  refine W.region ?_
  refine O.ex (Ex.move rfl) rfl ?_
  have H:=(rh_open (m:=r) (n:=n) (c:=c)).1 (Holds.to (by assumption))
  refine O.ex (Ex.move rfl) rfl ?_
  refine O.ex (by first|exact Ex.nilPtr rfl|exact Ex.nilFunc rfl|exact Ex.nilYield rfl) rfl ?_
  refine O.ex (by first|exact Ex.field0 fld114_0 rfl|exact Ex.field fld114_0 rfl|exact Ex.fieldS fld114_0 rfl|exact Ex.fieldIn fld114_0 rfl) rfl ?_
  refine O.ex (by first|exact Ex.loadMh Tryz.isAgg3 rfl|exact Ex.loadInF Tryz.isAgg3 rfl (Holds.to (by assumption))|exact Ex.loadP Tryz.isAgg3 rfl|exact Ex.loadM Tryz.isAgg3 rfl|exact Ex.loadIn1 Tryz.isAgg3 rfl (Holds.to (by assumption))|exact Ex.loadVc Tryz.isAgg3 rfl|exact Ex.loadR Tryz.isAgg3 rfl|exact Ex.loadQ Tryz.isAgg3 rfl) rfl ?_
  refine O.ex (Ex.lss rfl rfl) rfl ?_
  refine O.nil ?_
  refine hK5 _ _ _ ?_
  first|refine W.cond_p rfl (fun hlt=>?_) (fun hge=>?_)|refine W.cond_b rfl (fun hlt=>?_) (fun hge=>?_)
  · refine W.skip ?_
    refine hK4 _ _ _ ?_
    refine W.seq (fun K6 hK6=>?_)
    refine W.block ?_
    refine W.seq (fun K7 hK7=>?_)
    refine W.region ?_
    have H:=(rh_open (m:=r) (n:=n) (c:=c)).2 (Holds.to (by assumption))
    refine O.ex (Ex.move rfl) rfl ?_
    refine O.ex (Ex.move rfl) rfl ?_
    refine O.ex (Ex.move rfl) rfl ?_
    refine O.callF Tryz.call63 rfl rfl (CT.mono (refAt_ct hg (Holds.to (by assumption))) ?_)
    rintro _ w ⟨rfl,H⟩
    refine O.ex (Ex.assign rfl) rfl ?_
    refine O.nil ?_
    refine hK7 _ _ _ ?_
    refine W.seq (fun K8 hK8=>?_)
    refine W.seq (fun K9 hK9=>?_)
    refine W.region ?_
    refine O.ex (Ex.move rfl) rfl ?_
    refine O.nil ?_
    refine hK9 _ _ _ ?_
    refine W.known_f rfl (by first|rfl|decide) ?_
    refine W.skip ?_
    refine hK8 _ _ _ ?_
    refine W.seq (fun K10 hK10=>?_)
    refine W.region ?_
    refine O.ex (Ex.move rfl) rfl ?_
    refine O.ex (Ex.lss rfl rfl) rfl ?_
    refine O.nil ?_
    refine hK10 _ _ _ ?_
    first|refine W.cond_p rfl (fun hin=>?_) (fun hout=>?_)|refine W.cond_b rfl (fun hin=>?_) (fun hout=>?_)
    · refine W.region ?_
      refine O.ex (Ex.move rfl) rfl ?_
      refine O.ex (Ex.move rfl) rfl ?_
      refine O.build1 (e:=Value.int .i64) Tryz.runUnderlying28 Tryz.sizeOf3 Tryz.zeroValue3 rfl (fun v31 w hv31 H=>?_)
      refine O.appendR Tryz.runUnderlying28 Tryz.typeInfo3 (bt:=8) rfl Tryz.sizeOf3 Tryz.zeroValue3 rfl rfl (fun v32 w hv32 H=>?_)
      refine O.ex (Ex.assign rfl) rfl ?_
      refine O.nil ?_
      refine hK6 _ _ _ ?_
      refine W.region ?_
      refine O.ex (Ex.move rfl) rfl ?_
      refine O.ex (by first|exact Ex.addI rfl rfl|exact Ex.add rfl rfl rfl) rfl ?_
      refine O.ex (Ex.assign rfl) rfl ?_
      refine O.nil ?_
      first
      | exact ⟨(i + 1,_),⟨rfl,rfl,rfl,rfl,rfl,trivial⟩,⟨rfl,by dsimp only; omega,by assumption,by rw [sl_t (g:=(fun x=>c v x)) (show c v (i : Nat) ≠ 4611686018427387906 by omega)]; exact Holds.to (by assumption)⟩,by dsimp only; omega⟩
      | exact ⟨(i + 1,_),⟨rfl,rfl,rfl,rfl,rfl,trivial⟩,⟨rfl,by dsimp only; omega,by assumption,by rw [sl_f (g:=(fun x=>c v x)) (show ¬ c v (i : Nat) ≠ 4611686018427387906 by omega)]; exact Holds.to (by assumption)⟩,by dsimp only; omega⟩
    · refine W.skip ?_
      refine hK6 _ _ _ ?_
      refine W.region ?_
      refine O.ex (Ex.move rfl) rfl ?_
      refine O.ex (by first|exact Ex.addI rfl rfl|exact Ex.add rfl rfl rfl) rfl ?_
      refine O.ex (Ex.assign rfl) rfl ?_
      refine O.nil ?_
      first
      | exact ⟨(i + 1,_),⟨rfl,rfl,rfl,rfl,rfl,trivial⟩,⟨rfl,by dsimp only; omega,by assumption,by rw [sl_t (g:=(fun x=>c v x)) (show c v (i : Nat) ≠ 4611686018427387906 by omega)]; exact Holds.to (by assumption)⟩,by dsimp only; omega⟩
      | exact ⟨(i + 1,_),⟨rfl,rfl,rfl,rfl,rfl,trivial⟩,⟨rfl,by dsimp only; omega,by assumption,by rw [sl_f (g:=(fun x=>c v x)) (show ¬ c v (i : Nat) ≠ 4611686018427387906 by omega)]; exact Holds.to (by assumption)⟩,by dsimp only; omega⟩
  · refine W.exit ?_
    refine hK2 _ _ _ ?_
    refine W.seq (fun K11 hK11=>?_)
    refine W.region ?_
    refine O.ex (Ex.move rfl) rfl ?_
    refine O.ex (Ex.assign rfl) rfl ?_
    refine O.nil ?_
    refine hK11 _ _ _ ?_
    refine W.ret ?_
    try dsimp only [thenQ,blockQ,retQ]
    first|refine ⟨_,⟨_,_,rfl,rfl,rfl⟩,?_⟩|(refine retD_mark ?_; intro w H; refine ⟨_,⟨_,_,rfl,rfl,rfl⟩,?_⟩)|(refine retD_mark2 ?_; intro w H; refine ⟨_,⟨_,_,rfl,rfl,rfl⟩,?_⟩)
    obtain rfl : i = n.toNat:=by omega
    exact ⟨by assumption,Holds.to ((rh_open (m:=r) (n:=n) (c:=c)).2 (Holds.to (by assumption)))⟩
theorem refStepst_ct {w : World} {r : Nat} {n v : Int} {c : Int → Int → Int} {L : List HProp} (hg : Good n c) (H : Holds w (Rh r n c::L)) :
    CT Tryz.prog 33 [.pointer (some ⟨r,0,none⟩),.int .i64 v,.bool true] w fun x w'=>x.oneCell' = true ∧ Holds w' (arr 3 (Value.int .i64) x (sl (fun x=>c x v) n.toNat)::Rh r n c::L):=by
  have n1:=hg.n1
  have n2:=hg.n2
  refine CT.enter (N:=34) Tryz.func33 rfl rfl rfl rfl ?_
  refine W.seq (fun K0 hK0=>?_)
  refine W.region ?_
  refine O.ex (Ex.assign rfl) rfl ?_
  refine O.nil ?_
  refine hK0 _ _ _ ?_
  refine W.seq (fun K1 hK1=>?_)
  refine W.region ?_
  refine O.ex (Ex.assign rfl) rfl ?_
  refine O.nil ?_
  refine hK1 _ _ _ ?_
  refine W.seq (fun K2 hK2=>?_)
  refine W.seq (fun K3 hK3=>?_)
  refine W.region ?_
  refine O.ex (Ex.assign rfl) rfl ?_
  refine O.nil ?_
  refine hK3 _ _ _ ?_
  refine W.block ?_
  have H:=arr_nil (T:=3) (e:=Value.int .i64) H
  refine W.loop (σ:=Nat × Value) (fun i=>[(0,.pointer (some ⟨r,0,none⟩)),(1,.int .i64 v),(2,.bool true),(7,i.2),(8,.int .i64 (i.1 : Int))]) (fun i ds w=>ds = [] ∧ (i.1 : Int) ≤ n ∧ i.2.oneCell' = true ∧ Holds w (arr 3 (Value.int .i64) i.2 (sl (fun x=>c x v) i.1)::Rh r n c::L)) (fun i=>n.toNat - i.1) (0,.slice none 0 0) ⟨rfl,rfl,rfl,rfl,rfl,trivial⟩ ⟨rfl,by dsimp only; omega,rfl,Holds.to (by assumption)⟩ ?_
  clear H
  rintro ⟨i,va⟩ _ w ⟨rfl,hi,hva,H⟩
  dsimp only at hi hva H
  dsimp only
  have hsl:=sl_le (fun x=>c x v) i
  have hlo:=hg.hi v (i : Nat)
  have hlo2:=hg.hi (i : Nat) v
  refine W.seq (fun K4 hK4=>?_)
  refine W.seq (fun K5 hK5=>?_)
  refine W.region ?_
  refine O.ex (Ex.move rfl) rfl ?_
  have H:=(rh_open (m:=r) (n:=n) (c:=c)).1 (Holds.to (by assumption))
  refine O.ex (Ex.move rfl) rfl ?_
  refine O.ex (by first|exact Ex.nilPtr rfl|exact Ex.nilFunc rfl|exact Ex.nilYield rfl) rfl ?_
  refine O.ex (by first|exact Ex.field0 fld114_0 rfl|exact Ex.field fld114_0 rfl|exact Ex.fieldS fld114_0 rfl|exact Ex.fieldIn fld114_0 rfl) rfl ?_
  refine O.ex (by first|exact Ex.loadMh Tryz.isAgg3 rfl|exact Ex.loadInF Tryz.isAgg3 rfl (Holds.to (by assumption))|exact Ex.loadP Tryz.isAgg3 rfl|exact Ex.loadM Tryz.isAgg3 rfl|exact Ex.loadIn1 Tryz.isAgg3 rfl (Holds.to (by assumption))|exact Ex.loadVc Tryz.isAgg3 rfl|exact Ex.loadR Tryz.isAgg3 rfl|exact Ex.loadQ Tryz.isAgg3 rfl) rfl ?_
  refine O.ex (Ex.lss rfl rfl) rfl ?_
  refine O.nil ?_
  refine hK5 _ _ _ ?_
  first|refine W.cond_p rfl (fun hlt=>?_) (fun hge=>?_)|refine W.cond_b rfl (fun hlt=>?_) (fun hge=>?_)
  · refine W.skip ?_
    refine hK4 _ _ _ ?_
    refine W.seq (fun K6 hK6=>?_)
    refine W.block ?_
    refine W.seq (fun K7 hK7=>?_)
    refine W.region ?_
    have H:=(rh_open (m:=r) (n:=n) (c:=c)).2 (Holds.to (by assumption))
    refine O.ex (Ex.move rfl) rfl ?_
    refine O.ex (Ex.move rfl) rfl ?_
    refine O.ex (Ex.move rfl) rfl ?_
    refine O.callF Tryz.call63 rfl rfl (CT.mono (refAt_ct hg (Holds.to (by assumption))) ?_)
    rintro _ w ⟨rfl,H⟩
    refine O.ex (Ex.assign rfl) rfl ?_
    refine O.nil ?_
    refine hK7 _ _ _ ?_
    refine W.seq (fun K8 hK8=>?_)
    refine W.seq (fun K9 hK9=>?_)
    refine W.region ?_
    refine O.ex (Ex.move rfl) rfl ?_
    refine O.nil ?_
    refine hK9 _ _ _ ?_
    refine W.known_t rfl (by first|rfl|decide) ?_
    refine W.region ?_
    refine O.ex (Ex.move rfl) rfl ?_
    refine O.ex (Ex.move rfl) rfl ?_
    refine O.ex (Ex.move rfl) rfl ?_
    refine O.callF Tryz.call63 rfl rfl (CT.mono (refAt_ct hg (Holds.to (by assumption))) ?_)
    rintro _ w ⟨rfl,H⟩
    refine O.ex (Ex.assign rfl) rfl ?_
    refine O.nil ?_
    refine hK8 _ _ _ ?_
    refine W.seq (fun K10 hK10=>?_)
    refine W.region ?_
    refine O.ex (Ex.move rfl) rfl ?_
    refine O.ex (Ex.lss rfl rfl) rfl ?_
    refine O.nil ?_
    refine hK10 _ _ _ ?_
    first|refine W.cond_p rfl (fun hin=>?_) (fun hout=>?_)|refine W.cond_b rfl (fun hin=>?_) (fun hout=>?_)
    · refine W.region ?_
      refine O.ex (Ex.move rfl) rfl ?_
      refine O.ex (Ex.move rfl) rfl ?_
      refine O.build1 (e:=Value.int .i64) Tryz.runUnderlying28 Tryz.sizeOf3 Tryz.zeroValue3 rfl (fun v31 w hv31 H=>?_)
      refine O.appendR Tryz.runUnderlying28 Tryz.typeInfo3 (bt:=8) rfl Tryz.sizeOf3 Tryz.zeroValue3 rfl rfl (fun v32 w hv32 H=>?_)
      refine O.ex (Ex.assign rfl) rfl ?_
      refine O.nil ?_
      refine hK6 _ _ _ ?_
      refine W.region ?_
      refine O.ex (Ex.move rfl) rfl ?_
      refine O.ex (by first|exact Ex.addI rfl rfl|exact Ex.add rfl rfl rfl) rfl ?_
      refine O.ex (Ex.assign rfl) rfl ?_
      refine O.nil ?_
      first
      | exact ⟨(i + 1,_),⟨rfl,rfl,rfl,rfl,rfl,trivial⟩,⟨rfl,by dsimp only; omega,by assumption,by rw [sl_t (g:=(fun x=>c x v)) (show c (i : Nat) v ≠ 4611686018427387906 by omega)]; exact Holds.to (by assumption)⟩,by dsimp only; omega⟩
      | exact ⟨(i + 1,_),⟨rfl,rfl,rfl,rfl,rfl,trivial⟩,⟨rfl,by dsimp only; omega,by assumption,by rw [sl_f (g:=(fun x=>c x v)) (show ¬ c (i : Nat) v ≠ 4611686018427387906 by omega)]; exact Holds.to (by assumption)⟩,by dsimp only; omega⟩
    · refine W.skip ?_
      refine hK6 _ _ _ ?_
      refine W.region ?_
      refine O.ex (Ex.move rfl) rfl ?_
      refine O.ex (by first|exact Ex.addI rfl rfl|exact Ex.add rfl rfl rfl) rfl ?_
      refine O.ex (Ex.assign rfl) rfl ?_
      refine O.nil ?_
      first
      | exact ⟨(i + 1,_),⟨rfl,rfl,rfl,rfl,rfl,trivial⟩,⟨rfl,by dsimp only; omega,by assumption,by rw [sl_t (g:=(fun x=>c x v)) (show c (i : Nat) v ≠ 4611686018427387906 by omega)]; exact Holds.to (by assumption)⟩,by dsimp only; omega⟩
      | exact ⟨(i + 1,_),⟨rfl,rfl,rfl,rfl,rfl,trivial⟩,⟨rfl,by dsimp only; omega,by assumption,by rw [sl_f (g:=(fun x=>c x v)) (show ¬ c (i : Nat) v ≠ 4611686018427387906 by omega)]; exact Holds.to (by assumption)⟩,by dsimp only; omega⟩
  · refine W.exit ?_
    refine hK2 _ _ _ ?_
    refine W.seq (fun K11 hK11=>?_)
    refine W.region ?_
    refine O.ex (Ex.move rfl) rfl ?_
    refine O.ex (Ex.assign rfl) rfl ?_
    refine O.nil ?_
    refine hK11 _ _ _ ?_
    refine W.ret ?_
    try dsimp only [thenQ,blockQ,retQ]
    first|refine ⟨_,⟨_,_,rfl,rfl,rfl⟩,?_⟩|(refine retD_mark ?_; intro w H; refine ⟨_,⟨_,_,rfl,rfl,rfl⟩,?_⟩)|(refine retD_mark2 ?_; intro w H; refine ⟨_,⟨_,_,rfl,rfl,rfl⟩,?_⟩)
    obtain rfl : i = n.toNat:=by omega
    exact ⟨by assumption,Holds.to ((rh_open (m:=r) (n:=n) (c:=c)).2 (Holds.to (by assumption)))⟩
end Go.Proofs.YtblapiiinbppiaaGreatDoor
