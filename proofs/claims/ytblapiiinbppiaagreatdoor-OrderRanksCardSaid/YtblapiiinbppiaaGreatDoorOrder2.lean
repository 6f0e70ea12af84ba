import Derived.Test.YtblapiiinbppiaaGreatDoorOrder
import Derived.Test.YtblapiiinbppiaaGreatDoorRrBase
namespace Go.Proofs.YtblapiiinbppiaaGreatDoor
open Go.Rr Go Hp Wt
set_option linter.unusedVariables false
def arB (g : Int → Int) (s : Nat) (k : Nat) : Nat:=(sl g k).foldl (fun s x=>s ||| bitN x) s
theorem arB_t {g : Int → Int} {s k : Nat} (h : g (k : Nat) ≠ 4611686018427387906) : arB g s (k + 1) = arB g s k ||| bitN (k : Int):=by
  unfold arB; rw [sl_t h,List.foldl_append]; rfl
theorem arB_f {g : Int → Int} {s k : Nat} (h : ¬ g (k : Nat) ≠ 4611686018427387906) : arB g s (k + 1) = arB g s k:=by
  unfold arB; rw [sl_f h]
theorem arB_lt (g : Int → Int) {s : Nat} (hs : s < 18446744073709551616) (k : Nat) : arB g s k < 18446744073709551616:=(orL_aux (sl g k) s hs).1
theorem mem_sl {g : Int → Int} {i : Nat} : ∀ {k : Nat},(i : Int) ∈ sl g k ↔ i < k ∧ g (i : Nat) ≠ 4611686018427387906
  | 0=>⟨fun h=>(by cases h),fun h=>absurd h.1 (Nat.not_lt_zero _)⟩
  | k + 1 => by
    by_cases hk : g (k : Nat) ≠ 4611686018427387906
    · rw [sl_t hk,List.mem_append,mem_sl,List.mem_singleton]
      constructor
      · rintro (⟨h1,h2⟩|h)
        · exact ⟨by omega,h2⟩
        · obtain rfl : i = k:=by omega
          exact ⟨by omega,hk⟩
      · rintro ⟨h1,h2⟩
        by_cases e : i = k
        · exact .inr (by omega)
        · exact .inl ⟨by omega,h2⟩
    · rw [sl_f hk,mem_sl]
      refine ⟨fun h=>⟨by omega,h.2⟩,fun h=>⟨?_,h.2⟩⟩
      have : i ≠ k:=fun e=>hk (e ▸ h.2)
      omega
theorem arB_bit (g : Int → Int) {s : Nat} (hs : s < 18446744073709551616) (k : Nat) {i : Nat} (hi : i < 64) : (arB g s k).testBit i = (s.testBit i || decide (i < k ∧ g (i : Nat) ≠ 4611686018427387906)):=by
  have:=(orL_aux (sl g k) s hs).2 i hi
  unfold arB
  rw [this]
  congr 1
  exact decide_eq_decide.2 mem_sl
/-- The set and the number behind none, one, and both lists. -/
def arS (c : Int → Int → Int) (v : Int) (N : Nat) : Nat → Nat
  | 0=>0
  | 1=>arB (fun x=>c v x) 0 N
  | _=>arB (fun x=>c x v) (arB (fun x=>c v x) 0 N) N
def arC (c : Int → Int → Int) (v : Int) (N : Nat) : Nat → Nat
  | 0=>0
  | 1=>(sl (fun x=>c v x) N).length
  | _=>(sl (fun x=>c v x) N).length + (sl (fun x=>c x v) N).length
theorem arS_lt (c : Int → Int → Int) (v : Int) (N i : Nat) : arS c v N i < 18446744073709551616:=by
  unfold arS
  split
  · decide
  · exact arB_lt _ (by decide) _
  · exact arB_lt _ (arB_lt _ (by decide) _) _
theorem arC_le (c : Int → Int → Int) (v : Int) (N i : Nat) : arC c v N i ≤ N + N:=by
  have h1:=sl_le (fun x=>c v x) N
  have h2:=sl_le (fun x=>c x v) N
  unfold arC; split <;> omega
abbrev fS (b3 b5 b4 : Nat) : Value:=.func (.func 100) #[] #[.pointer (some ⟨b3,0,none⟩),.pointer (some ⟨b5,0,none⟩),.pointer (some ⟨b4,0,none⟩)]
theorem one_case {m c2 c3 c5 c4 d3 d5 d4 i : Nat} {n v : Int} {c : Int → Int → Int} (hg : Good n c) (hi : i < 2) :
    ∃ b3 b5 b4 lv,∃ g1 : Int → Int,∃ Oo : HProp,cond (([false,true] : List Bool).getD i default) (fS c3 c5 c4) (fS d3 d5 d4) = fS b3 b5 b4 ∧
      (∀ w L,Holds w (capsS d3 d5 d4 m (atV m) v::capsS c3 c5 c4 m (inV c2) v::L) ↔ Holds w (capsS b3 b5 b4 m lv v::Oo::L)) ∧
      (∀ (j : Nat) w L,Holds w (capsS b3 b5 b4 m lv v::Mh m n c::cap2 c2 m::L) → VT Tryz.prog lv [.int .i64 v,.int .i64 (j : Int)] w fun u w'=>u = .int .i64 (g1 j) ∧ Holds w' (capsS b3 b5 b4 m lv v::Mh m n c::cap2 c2 m::L)) ∧
      arS c v n.toNat (i + 1) = arB g1 (arS c v n.toNat i) n.toNat ∧ arC c v n.toNat (i + 1) = arC c v n.toNat i + (sl g1 n.toNat).length:=by
  have : i = 0 ∨ i = 1:=by omega
  rcases this with rfl|rfl
  · refine ⟨d3,d5,d4,atV m,fun x=>c v x,capsS c3 c5 c4 m (inV c2) v,rfl,fun w L=>Iff.rfl,fun j w L H=>?_,rfl,by unfold arC; simp⟩
    refine (vtAt (m:=m) (u:=v) (v:=(j : Int)) hg (Holds.to (by assumption))).mono ?_
    rintro u w' ⟨e,H⟩
    exact ⟨e,Holds.to (by assumption)⟩
  · refine ⟨c3,c5,c4,inV c2,fun x=>c x v,capsS d3 d5 d4 m (atV m) v,rfl,fun w L=>⟨Holds.swap,Holds.swap⟩,fun j w L H=>?_,rfl,rfl⟩
    refine (vtIn (b:=c2) (m:=m) (u:=v) (v:=(j : Int)) hg (Holds.to (by assumption))).mono ?_
    rintro u w' ⟨e,H⟩
    exact ⟨e,Holds.to (by assumption)⟩
set_option maxHeartbeats 2000000 in
theorem around_ct {w : World} {m : Nat} {n v : Int} {c : Int → Int → Int} {L : List HProp} (hg : Good n c) (H : Holds w (Mh m n c::L)) :
    CT Tryz.prog 28 [.pointer (some ⟨m,0,none⟩),.int .i64 v] w fun y w'=>y = .tuple #[.int .u64 ((arS c v n.toNat 2 : Nat) : Int),.int .i64 ((arC c v n.toNat 2 : Nat) : Int)] ∧ Holds w' (Mh m n c::L):=by
  have n1:=hg.n1
  have n2:=hg.n2
  have hN : ((n.toNat : Nat) : Int) = n:=by omega
  refine CT.enter (N:=34) Tryz.func28 rfl rfl rfl rfl ?_
  refine W.seq (fun K0 hK0=>?_)
  refine W.region ?_
  refine O.ex (Ex.assign rfl) rfl ?_
  refine O.ex (Ex.assign rfl) rfl ?_
  refine O.nil ?_
  refine hK0 _ _ _ ?_
  refine W.seq (fun K1 hK1=>?_)
  refine W.region ?_
  refine O.allocP Tryz.zeroValue61 (fun b6 w H=>?_)
  refine O.nil ?_
  refine hK1 _ _ _ ?_
  refine W.seq (fun K2 hK2=>?_)
  refine W.region ?_
  refine O.allocP Tryz.zeroValue3 (fun b7 w H=>?_)
  first|refine O.storeP Tryz.sizeOf3 rfl rfl (fun w H=>?_)|refine O.storeR Tryz.sizeOf3 rfl rfl (fun w H=>?_)|refine O.storeM Tryz.sizeOf3 rfl rfl (fun w H=>?_)|refine O.storeVc Tryz.sizeOf3 rfl rfl (fun w H=>?_)
  refine O.nil ?_
  refine hK2 _ _ _ ?_
  refine W.seq (fun K3 hK3=>?_)
  refine W.seq (fun K4 hK4=>?_)
  refine W.region ?_
  refine O.ex (Ex.move rfl) rfl ?_
  refine O.ex (Ex.move rfl) rfl ?_
  refine O.callF Tryz.call56 rfl rfl (CT.mono (out_ct (Holds.to (by assumption))) ?_)
  rintro _ w ⟨d3,d5,d4,rfl,H⟩
  refine O.ex (Ex.move rfl) rfl ?_
  refine O.ex (Ex.move rfl) rfl ?_
  refine O.callF Tryz.call57 rfl rfl (CT.mono (in_ct (Holds.to (by assumption))) ?_)
  rintro _ w ⟨c2,c3,c5,c4,rfl,H⟩
  refine O.buildK (e:=fun b : Bool=>cond b (fS c3 c5 c4) (fS d3 d5 d4)) (vs:=[(0,fS d3 d5 d4),(1,fS c3 c5 c4)]) [false,true] Tryz.runUnderlying110 Tryz.sizeOf108 Tryz.zeroValue108 rfl rfl rfl rfl rfl rfl (fun v17 w hv17 H=>?_)
  refine O.ex (by first|exact Ex.lenR Tryz.runUnderlying110 rfl|exact Ex.lenIn Tryz.runUnderlying110 rfl|exact Ex.lenL Tryz.runUnderlying110 rfl|exact Ex.len rfl Tryz.runUnderlying110 rfl) rfl ?_
  refine O.ex (Ex.move rfl) rfl ?_
  refine O.nil ?_
  refine hK4 _ _ _ ?_
  refine W.block ?_
  have H0 : Holds w (marks []::capsS d3 d5 d4 m (atV m) v::capsS c3 c5 c4 m (inV c2) v::cap2 c2 m::Mh m n c::pt b6 (.cells #[.int .u64 ((arS c v n.toNat 0 : Nat) : Int)] 61 (0,0))::pt b7 (.cells #[.int .i64 ((arC c v n.toNat 0 : Nat) : Int)] 3 (0,0))::arr 108 (fun b : Bool=>cond b (fS c3 c5 c4) (fS d3 d5 d4)) v17 [false,true]::L):=marks_nil (Holds.to H)
  refine W.loop (σ:=Nat) (fun i=>[(6,.pointer (some ⟨b6,0,none⟩)),(7,.pointer (some ⟨b7,0,none⟩)),(17,v17),(18,.int .i64 2),(19,.int .i64 (i : Int))]) (fun i ds w=>i ≤ 2 ∧ Holds w (marks ds::capsS d3 d5 d4 m (atV m) v::capsS c3 c5 c4 m (inV c2) v::cap2 c2 m::Mh m n c::pt b6 (.cells #[.int .u64 ((arS c v n.toNat i : Nat) : Int)] 61 (0,0))::pt b7 (.cells #[.int .i64 ((arC c v n.toNat i : Nat) : Int)] 3 (0,0))::arr 108 (fun b : Bool=>cond b (fS c3 c5 c4) (fS d3 d5 d4)) v17 [false,true]::L)) (fun i=>2 - i) 0 ⟨rfl,rfl,rfl,rfl,rfl,trivial⟩ ⟨by omega,H0⟩ ?_
  clear H H0
  rintro i ds w ⟨hi,H⟩
  refine W.seq (fun K5 hK5=>?_)
  refine W.region ?_
  refine O.ex (Ex.lss rfl rfl) rfl ?_
  refine O.nil ?_
  refine hK5 _ _ _ ?_
  refine W.seq (fun K6 hK6=>?_)
  first|refine W.cond_p rfl (fun hlt=>?_) (fun hge=>?_)|refine W.cond_b rfl (fun hlt=>?_) (fun hge=>?_)
  · refine W.skip ?_
    refine hK6 _ _ _ ?_
    refine W.seq (fun K7 hK7=>?_)
    refine W.block ?_
    refine W.seq (fun K8 hK8=>?_)
    refine W.region ?_
    have hil : i < 2:=by omega
    have hi0 : (0 : Int) ≤ (i : Int):=by omega
    have hi1 : (i : Int) < ((([false,true] : List Bool).length : Nat) : Int):=by show (i : Int) < 2; omega
    have hi2 : ((i : Nat) : Int).toNat < ([false,true] : List Bool).length:=hil
    refine O.ex (by first|exact Ex.idxR Tryz.runUnderlying110 Tryz.sizeOf108 rfl rfl|exact Ex.idxIn Tryz.runUnderlying110 Tryz.sizeOf108 rfl rfl|exact Ex.idxS Tryz.runUnderlying110 Tryz.sizeOf108 rfl rfl|exact Ex.idx Tryz.runUnderlying110 Tryz.sizeOf108 rfl rfl (by omega) (by omega)) rfl ?_
    refine O.ex (by first|exact Ex.loadN Tryz.isAgg108 rfl|exact Ex.loadR Tryz.isAgg108 rfl|exact Ex.loadIn1 Tryz.isAgg108 rfl (Holds.to (by assumption))|exact Ex.loadP Tryz.isAgg108 rfl|exact Ex.loadMh Tryz.isAgg108 rfl|exact Ex.loadM Tryz.isAgg108 rfl|exact Ex.loadVc Tryz.isAgg108 rfl|exact Ex.loadQ Tryz.isAgg108 rfl) rfl ?_
    refine O.ex (Ex.assign rfl) rfl ?_
    refine O.nil ?_
    refine hK8 _ _ _ ?_
    refine W.seq (fun K9 hK9=>?_)
    refine W.region ?_
    refine O.ex (Ex.move rfl) rfl ?_
    refine O.nil ?_
    refine hK9 _ _ _ ?_
    refine W.block ?_
    obtain ⟨b3,b5,b4,lv,g1,Oo,hfun,hiff,hlv,hS,hC⟩:=one_case (m:=m) (c2:=c2) (c3:=c3) (c5:=c5) (c4:=c4) (d3:=d3) (d5:=d5) (d4:=d4) (v:=v) hg hil
    have hSl:=arS_lt c v n.toNat i
    have hCl:=arC_le c v n.toNat i
    have H:=(hiff _ _).1 (Holds.to (M:=capsS d3 d5 d4 m (atV m) v::capsS c3 c5 c4 m (inV c2) v::marks ds::cap2 c2 m::Mh m n c::pt b6 (.cells #[.int .u64 ((arB g1 (arS c v n.toNat i) 0 : Nat) : Int)] 61 (0,0))::pt b7 (.cells #[.int .i64 ((arC c v n.toNat i + (sl g1 0).length : Nat) : Int)] 3 (0,0))::arr 108 (fun b : Bool=>cond b (fS c3 c5 c4) (fS d3 d5 d4)) v17 [false,true]::L) H)
    refine W.rangeFunc (congrArg some hfun) Tryz.call100 H ?_
    rintro LR kk D w hLR H
    refine CT.mono (steps1_ct (g:=g1) (J:=fun j=>LR .ready none::dblk D::marks ds::Oo::cap2 c2 m::pt b6 (.cells #[.int .u64 ((arB g1 (arS c v n.toNat i) j : Nat) : Int)] 61 (0,0))::pt b7 (.cells #[.int .i64 ((arC c v n.toNat i + (sl g1 j).length : Nat) : Int)] 3 (0,0))::arr 108 (fun b : Bool=>cond b (fS c3 c5 c4) (fS d3 d5 d4)) v17 [false,true]::L) (φ:=fun _=>True) (S:=fun _=>False) n2 n1 trivial (Holds.to (by assumption)) (fun j w H=>?_) ?_ ?_) ?_
    · refine (hlv j w _ (Holds.to (M:=capsS b3 b5 b4 m lv v::Mh m n c::cap2 c2 m::LR .ready none::dblk D::marks ds::Oo::pt b6 (.cells #[.int .u64 ((arB g1 (arS c v n.toNat i) j : Nat) : Int)] 61 (0,0))::pt b7 (.cells #[.int .i64 ((arC c v n.toNat i + (sl g1 j).length : Nat) : Int)] 3 (0,0))::arr 108 (fun b : Bool=>cond b (fS c3 c5 c4) (fS d3 d5 d4)) v17 [false,true]::L) H)).mono ?_
      rintro u w' ⟨e,H⟩
      exact ⟨e,Holds.to (by assumption)⟩
    · intro j w hj hne _ H
      have hjl:=sl_le g1 j
      have hbl:=arB_lt g1 hSl j
      refine VT.round hLR (Holds.to (by assumption)) rfl rfl ?_
      refine W.region ?_
      refine O.ex (Ex.assign rfl) rfl ?_
      refine O.nil ?_
      refine ⟨_,Holds.to (by assumption),fun w H=>?_⟩
      refine W.block ?_
      refine W.seq (fun K10 hK10=>?_)
      refine W.region ?_
      refine O.ex (by first|exact Ex.loadN Tryz.isAgg61 rfl|exact Ex.loadP Tryz.isAgg61 rfl|exact Ex.loadQ Tryz.isAgg61 rfl|exact Ex.loadMh Tryz.isAgg61 rfl|exact Ex.loadR Tryz.isAgg61 rfl|exact Ex.loadIn1 Tryz.isAgg61 rfl (Holds.to (by assumption))|exact Ex.loadM Tryz.isAgg61 rfl|exact Ex.loadVc Tryz.isAgg61 rfl) rfl ?_
      refine O.ex (Ex.move rfl) rfl ?_
      refine O.callF Tryz.call58 rfl rfl (CT.mono (with_ct (Holds.to (by assumption)) hbl) ?_)
      rintro _ w ⟨rfl,H⟩
      first|refine O.storeP Tryz.sizeOf61 rfl rfl (fun w H=>?_)|refine O.storeR Tryz.sizeOf61 rfl rfl (fun w H=>?_)|refine O.storeM Tryz.sizeOf61 rfl rfl (fun w H=>?_)|refine O.storeVc Tryz.sizeOf61 rfl rfl (fun w H=>?_)
      refine O.nil ?_
      refine hK10 _ _ _ ?_
      refine W.region ?_
      refine O.ex (by first|exact Ex.loadN Tryz.isAgg3 rfl|exact Ex.loadP Tryz.isAgg3 rfl|exact Ex.loadQ Tryz.isAgg3 rfl|exact Ex.loadMh Tryz.isAgg3 rfl|exact Ex.loadR Tryz.isAgg3 rfl|exact Ex.loadIn1 Tryz.isAgg3 rfl (Holds.to (by assumption))|exact Ex.loadM Tryz.isAgg3 rfl|exact Ex.loadVc Tryz.isAgg3 rfl) rfl ?_
      refine O.ex (by first|exact Ex.addI rfl rfl|exact Ex.add rfl rfl rfl) rfl ?_
      first|refine O.storeP Tryz.sizeOf3 rfl rfl (fun w H=>?_)|refine O.storeR Tryz.sizeOf3 rfl rfl (fun w H=>?_)|refine O.storeM Tryz.sizeOf3 rfl rfl (fun w H=>?_)|refine O.storeVc Tryz.sizeOf3 rfl rfl (fun w H=>?_)
      refine O.nil ?_
      rw [← arB_t hne] at H
      have hl1 : (((arC c v n.toNat i + (sl g1 j).length : Nat) : Int) + 1) = ((arC c v n.toNat i + (sl g1 (j + 1)).length : Nat) : Int):=by rw [sl_t hne,List.length_append]; simp; omega
      rw [hl1] at H
      exact ⟨_,Holds.to (by assumption),fun w H=>.inl ⟨rfl,trivial,Holds.to (by assumption)⟩⟩
    · intro j w hj hnn _ H
      refine ⟨trivial,?_⟩
      rw [arB_f hnn,sl_f hnn]; exact H
    rintro _ w (⟨_,H⟩|hf)
    rotate_left
    · exact hf.elim
    refine rangeEnd (Holds.to (by assumption)) (by nofun) (fun w H=>?_)
    rw [← hS,← hC] at H
    have H:=(hiff _ _).2 (Holds.to (M:=capsS b3 b5 b4 m lv v::Oo::dblk D::marks ds::cap2 c2 m::Mh m n c::pt b6 (.cells #[.int .u64 ((arS c v n.toNat (i + 1) : Nat) : Int)] 61 (0,0))::pt b7 (.cells #[.int .i64 ((arC c v n.toNat (i + 1) : Nat) : Int)] 3 (0,0))::arr 108 (fun b : Bool=>cond b (fS c3 c5 c4) (fS d3 d5 d4)) v17 [false,true]::L) H)
    have H:=marks_push (Holds.to (M:=dblk D::marks ds::capsS d3 d5 d4 m (atV m) v::capsS c3 c5 c4 m (inV c2) v::cap2 c2 m::Mh m n c::pt b6 (.cells #[.int .u64 ((arS c v n.toNat (i + 1) : Nat) : Int)] 61 (0,0))::pt b7 (.cells #[.int .i64 ((arC c v n.toNat (i + 1) : Nat) : Int)] 3 (0,0))::arr 108 (fun b : Bool=>cond b (fS c3 c5 c4) (fS d3 d5 d4)) v17 [false,true]::L) H)
    refine hK7 _ _ _ ?_
    refine W.region ?_
    refine O.ex (by first|exact Ex.addI rfl rfl|exact Ex.add rfl rfl rfl) rfl ?_
    refine O.ex (Ex.move rfl) rfl ?_
    refine O.nil ?_
    exact ⟨i + 1,⟨rfl,rfl,rfl,rfl,rfl,trivial⟩,⟨by omega,Holds.to (by assumption)⟩,by omega⟩
  · refine W.exit ?_
    refine hK3 _ _ _ ?_
    refine W.seq (fun K11 hK11=>?_)
    refine W.drawTo _ (.take 0 (.take 1 (.take 2 (.take 3 .nil)))) (mixed) (fun _ _ _ _ h=>h) (by assumption) (PP.refl _) (by decide +kernel) (fun w H=>?_)
    refine OQ.ex rfl (fun w H=>(by first|exact Ex.loadN Tryz.isAgg61 rfl|exact Ex.loadP Tryz.isAgg61 rfl|exact Ex.loadQ Tryz.isAgg61 rfl|exact Ex.loadMh Tryz.isAgg61 rfl|exact Ex.loadR Tryz.isAgg61 rfl|exact Ex.loadIn1 Tryz.isAgg61 rfl (Holds.to (by assumption))|exact Ex.loadM Tryz.isAgg61 rfl|exact Ex.loadVc Tryz.isAgg61 rfl)) rfl ?_
    refine OQ.ex rfl (fun w H=>(by first|exact Ex.loadN Tryz.isAgg3 rfl|exact Ex.loadP Tryz.isAgg3 rfl|exact Ex.loadQ Tryz.isAgg3 rfl|exact Ex.loadMh Tryz.isAgg3 rfl|exact Ex.loadR Tryz.isAgg3 rfl|exact Ex.loadIn1 Tryz.isAgg3 rfl (Holds.to (by assumption))|exact Ex.loadM Tryz.isAgg3 rfl|exact Ex.loadVc Tryz.isAgg3 rfl)) rfl ?_
    refine OQ.ex rfl (fun w H=>(Ex.assign rfl)) rfl ?_
    refine OQ.ex rfl (fun w H=>(Ex.assign rfl)) rfl ?_
    refine OQ.done ?_
    refine hK11 _ _ _ ?_
    refine W.ret ?_
    try dsimp only [thenQ,blockQ,retQ]
    obtain rfl : i = 2:=by omega
    refine retD_gen (L:=Mh m n c::L) (Holds.to (by assumption)) (fun w H=>?_)
    exact ⟨_,⟨_,_,rfl,rfl,_,_,rfl,rfl,rfl⟩,rfl,H⟩
end Go.Proofs.YtblapiiinbppiaaGreatDoor
