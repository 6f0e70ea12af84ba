import Derived.Test.YtblapiiinbppiaaGreatDoorRankLaw
import Derived.Test.YtblapiiinbppiaaGreatDoorMeshOfC
namespace Go.Proofs.YtblapiiinbppiaaGreatDoor
open Go.Rr Go Gr Hp Wt
set_option linter.unusedVariables false
set_option linter.unusedSimpArgs false
theorem Ex.cast {P : Program} {N : Nat} {l : Regs} {op : Op} {ty : TypeId} {w w' : World} {u v : Value} (h : Ex P N l op ty w u w') (e : u = v) : Ex P N l op ty w v w':=e ▸ h
theorem take_lst (xs : List Nat) {i : Nat} (h : i < xs.length) : xs.take (i + 1) = xs.take i ++ [xs.getD i default]:=by
  rw [List.take_succ_eq_append_getElem h]; simp [List.getD_eq_getElem?_getD,h]
theorem lst_getD_mem {xs : List Nat} {i : Nat} (h : i < xs.length) : xs.getD i default ∈ xs:=by
  rw [List.getD_eq_getElem?_getD,List.getElem?_eq_getElem h]; exact List.getElem_mem h
set_option maxHeartbeats 2000000 in
theorem least_ct {w w0 : World} {cB s : Nat} {cv : Value} {cost : Nat → Int} {R : List HProp} (hT : TabAt w0) (hs : s < 18446744073709551616) (hcv : cv.oneCell' = true)
    (hc : ∀ (i : Nat) w Y,i ∈ lst s → Holds w (Y::R) → VT Tryz.prog cv [.int .i64 (i : Int)] w fun u w'=>u = .int .i64 (cost i) ∧ Holds w' (Y::R)) (H : Holds w (base w0::capB cB s::R)) :
    CT Tryz.prog 24 [.func (.func 54) #[] #[.pointer (some ⟨cB,0,none⟩)],cv] w fun u w'=>u = .tuple #[.int .i64 (lsV (ls cost (lst s)) : Nat),.bool (ls cost (lst s)).isSome] ∧ Holds w' (base w0::R):=by
  refine CT.enter (N:=27) Tryz.func24 rfl rfl rfl rfl ?_
  refine W.seq (fun K0 hK0=>?_)
  refine W.region ?_
  refine O.boxP rfl (fun b3 w H=>?_)
  rw [cells_one hcv] at H
  refine O.ex (Ex.assign rfl) rfl ?_
  refine O.ex (Ex.assign rfl) rfl ?_
  refine O.nil ?_
  refine hK0 _ _ _ ?_
  refine W.seq (fun K1 hK1=>?_)
  refine W.region ?_
  refine O.allocP Tryz.zeroValue3 (fun b6 w H=>?_)
  refine O.nil ?_
  refine hK1 _ _ _ ?_
  refine W.seq (fun K2 hK2=>?_)
  refine W.region ?_
  refine O.allocP Tryz.zeroValue4 (fun b7 w H=>?_)
  refine O.allocP Tryz.zeroValue3 (fun b8 w H=>?_)
  first|refine O.storeP Tryz.sizeOf4 rfl rfl (fun w H=>?_)|refine O.storeR Tryz.sizeOf4 rfl rfl (fun w H=>?_)|refine O.storeM Tryz.sizeOf4 rfl rfl (fun w H=>?_)|refine O.storeVc Tryz.sizeOf4 rfl rfl (fun w H=>?_)|refine O.storeQ Tryz.sizeOf4 rfl rfl (fun w H=>?_)
  first|refine O.storeP Tryz.sizeOf3 rfl rfl (fun w H=>?_)|refine O.storeR Tryz.sizeOf3 rfl rfl (fun w H=>?_)|refine O.storeM Tryz.sizeOf3 rfl rfl (fun w H=>?_)|refine O.storeVc Tryz.sizeOf3 rfl rfl (fun w H=>?_)|refine O.storeQ Tryz.sizeOf3 rfl rfl (fun w H=>?_)
  refine O.nil ?_
  refine hK2 _ _ _ ?_
  refine W.seq (fun K3 hK3=>?_)
  refine W.seq (fun K4 hK4=>?_)
  refine W.region ?_
  refine O.ex (Ex.move rfl) rfl ?_
  refine O.nil ?_
  refine hK4 _ _ _ ?_
  refine W.block ?_
  have H0 : Holds w (base w0::capB cB s::(pt b3 (.cells #[cv] 68 (0,0))::pt b6 (.cells #[.int .i64 (lsV (ls cost ((lst s).take 0)) : Nat)] 3 (0,0))::pt b7 (.cells #[.bool (ls cost ((lst s).take 0)).isSome] 4 (0,0))::pt b8 (.cells #[.int .i64 (lsL (ls cost ((lst s).take 0)))] 3 (0,0))::R)):=Holds.to H
  refine W.rangeFunc rfl Tryz.call54 H0 ?_
  rintro LR kk D w hLR H
  refine CT.mono (all1_ct (w0:=w0) (c:=cB) (s:=s) (φ:=fun _=>True) (S:=fun _=>False) (J:=fun j=>LR .ready none::dblk D::pt b3 (.cells #[cv] 68 (0,0))::pt b6 (.cells #[.int .i64 (lsV (ls cost ((lst s).take j)) : Nat)] 3 (0,0))::pt b7 (.cells #[.bool (ls cost ((lst s).take j)).isSome] 4 (0,0))::pt b8 (.cells #[.int .i64 (lsL (ls cost ((lst s).take j)))] 3 (0,0))::R) hT hs trivial (Holds.to (by assumption)) ?_) ?_
  · intro j w hj _ H
    obtain ⟨v,hv⟩ : ∃ v,v = (lst s).getD j default:=⟨_,rfl⟩
    have hvm : v ∈ lst s:=by rw [hv]; exact lst_getD_mem hj
    have hsn : ls cost ((lst s).take (j + 1)) = lsS cost (ls cost ((lst s).take j)) v:=by rw [take_lst _ hj,ls_snoc,← hv]
    obtain ⟨b,hb⟩ : ∃ b,b = ls cost ((lst s).take j):=⟨_,rfl⟩
    rw [← hb] at H hsn
    rw [hsn,← hv]
    refine VT.round hLR (Holds.to (by assumption)) rfl rfl ?_
    refine W.region ?_
    refine O.ex (Ex.assign rfl) rfl ?_
    refine O.nil ?_
    refine ⟨_,Holds.to (by assumption),fun w H=>?_⟩
    refine W.block ?_
    refine W.seq (fun K5 hK5=>?_)
    refine W.region ?_
    refine O.ex (v:=cv) (Ex.loadP Tryz.isAgg68 rfl (Holds.cell (Holds.to (M:=pt b3 (.cells #[cv] 68 (0,0))::[]) H) rfl)) rfl ?_
    refine O.ex (Ex.move rfl) rfl ?_
    replace H : Holds w (star [LR .busy none,base w0,capB cB s,dblk D,pt b3 (.cells #[cv] 68 (0,0)),pt b6 (.cells #[.int .i64 (lsV b : Nat)] 3 (0,0)),pt b7 (.cells #[.bool b.isSome] 4 (0,0)),pt b8 (.cells #[.int .i64 (lsL b)] 3 (0,0))]::R):=Holds.star.2 (show Holds w (LR .busy none::base w0::capB cB s::dblk D::pt b3 (.cells #[cv] 68 (0,0))::pt b6 (.cells #[.int .i64 (lsV b : Nat)] 3 (0,0))::pt b7 (.cells #[.bool b.isSome] 4 (0,0))::pt b8 (.cells #[.int .i64 (lsL b)] 3 (0,0))::R) from Holds.to H)
    refine O.callVT rfl rfl rfl (VT.mono (hc v w _ hvm H) ?_)
    rintro _ w ⟨rfl,H⟩
    replace H : Holds w (pt b7 (.cells #[.bool b.isSome] 4 (0,0))::pt b8 (.cells #[.int .i64 (lsL b)] 3 (0,0))::pt b6 (.cells #[.int .i64 (lsV b : Nat)] 3 (0,0))::LR .busy none::base w0::capB cB s::dblk D::pt b3 (.cells #[cv] 68 (0,0))::R):=Holds.to (Holds.star.1 H)
    refine O.ex (Ex.assign rfl) rfl ?_
    refine O.nil ?_
    refine hK5 _ _ _ ?_
    refine W.seq (fun K6 hK6=>?_)
    refine W.region ?_
    refine O.ex (by first|exact Ex.loadRN Tryz.isAgg4 rfl|exact Ex.loadP Tryz.isAgg4 rfl|exact Ex.loadQ Tryz.isAgg4 rfl|exact Ex.loadMh Tryz.isAgg4 rfl|exact Ex.loadR Tryz.isAgg4 rfl|exact Ex.loadInF Tryz.isAgg4 rfl (Holds.to (by assumption))|exact Ex.loadIn1 Tryz.isAgg4 rfl (Holds.to (by assumption))|exact Ex.loadM Tryz.isAgg4 rfl|exact Ex.loadVc Tryz.isAgg4 rfl) rfl ?_
    refine O.ex (by first|exact Ex.notD rfl|exact Ex.not rfl) rfl ?_
    refine O.ex (Ex.move rfl) rfl ?_
    first|refine O.split_p (t:=18) rfl (fun hno=>?_) (fun hyes=>?_)|refine O.split (t:=18) rfl (fun hno=>?_) (fun hyes=>?_)
    · refine O.guard_f rfl rfl rfl rfl ?_
      refine O.guard_f rfl rfl rfl rfl ?_
      refine O.guard_f rfl rfl rfl rfl ?_
      refine O.ex (Ex.pick_t rfl rfl) rfl ?_
      refine O.nil ?_
      refine hK6 _ _ _ ?_
      refine W.cond_t rfl ?_
      refine W.region ?_
      refine O.ex (Ex.move rfl) rfl ?_
      refine O.ex (Ex.move rfl) rfl ?_
      first|refine O.storeP Tryz.sizeOf3 rfl rfl (fun w H=>?_)|refine O.storeR Tryz.sizeOf3 rfl rfl (fun w H=>?_)|refine O.storeM Tryz.sizeOf3 rfl rfl (fun w H=>?_)|refine O.storeVc Tryz.sizeOf3 rfl rfl (fun w H=>?_)|refine O.storeQ Tryz.sizeOf3 rfl rfl (fun w H=>?_)
      first|refine O.storeP Tryz.sizeOf4 rfl rfl (fun w H=>?_)|refine O.storeR Tryz.sizeOf4 rfl rfl (fun w H=>?_)|refine O.storeM Tryz.sizeOf4 rfl rfl (fun w H=>?_)|refine O.storeVc Tryz.sizeOf4 rfl rfl (fun w H=>?_)|refine O.storeQ Tryz.sizeOf4 rfl rfl (fun w H=>?_)
      first|refine O.storeP Tryz.sizeOf3 rfl rfl (fun w H=>?_)|refine O.storeR Tryz.sizeOf3 rfl rfl (fun w H=>?_)|refine O.storeM Tryz.sizeOf3 rfl rfl (fun w H=>?_)|refine O.storeVc Tryz.sizeOf3 rfl rfl (fun w H=>?_)|refine O.storeQ Tryz.sizeOf3 rfl rfl (fun w H=>?_)
      refine O.nil ?_
      have key : ∀ b',b' = lsS cost b v → lsV b' = lsV (lsS cost b v) ∧ b'.isSome = (lsS cost b v).isSome ∧ lsL b' = lsL (lsS cost b v):=fun b' e=>by rw [e]; exact ⟨rfl,rfl,rfl⟩
      first
      | (have hn : b = none:=by
           cases b with
           | none=>rfl
           | some y=>simp at hno
         have e : lsS cost b v = some (v,cost v):=by rw [hn]; rfl
         rw [e]
         exact ⟨_,Holds.to (by assumption),fun w H=>.inl ⟨rfl,trivial,Holds.to (by assumption)⟩⟩)
      | (obtain ⟨x,lo,hn⟩ : ∃ x lo,b = some (x,lo):=by
           cases b with
           | none=>simp at hyes
           | some y=>exact ⟨y.1,y.2,rfl⟩
         have hl : cost v < lo:=by have h:=hlt; rw [hn] at h; exact h
         have e : lsS cost b v = some (v,cost v):=by rw [hn]; exact if_pos hl
         rw [e]
         exact ⟨_,Holds.to (by assumption),fun w H=>.inl ⟨rfl,trivial,Holds.to (by assumption)⟩⟩)
      | (obtain ⟨x,lo,hn⟩ : ∃ x lo,b = some (x,lo):=by
           cases b with
           | none=>simp at hyes
           | some y=>exact ⟨y.1,y.2,rfl⟩
         have hl : ¬ cost v < lo:=by have h:=hge; rw [hn] at h; exact h
         have e : lsS cost b v = b:=by rw [hn]; exact if_neg hl
         rw [e]
         exact ⟨_,Holds.to (by assumption),fun w H=>.inl ⟨rfl,trivial,Holds.to (by assumption)⟩⟩)
    · refine O.guard_t rfl rfl ?_
      refine O.ex (Ex.move rfl) rfl ?_
      refine O.guard_t rfl rfl ?_
      refine O.ex (by first|exact Ex.loadRN Tryz.isAgg3 rfl|exact Ex.loadP Tryz.isAgg3 rfl|exact Ex.loadQ Tryz.isAgg3 rfl|exact Ex.loadMh Tryz.isAgg3 rfl|exact Ex.loadR Tryz.isAgg3 rfl|exact Ex.loadInF Tryz.isAgg3 rfl (Holds.to (by assumption))|exact Ex.loadIn1 Tryz.isAgg3 rfl (Holds.to (by assumption))|exact Ex.loadM Tryz.isAgg3 rfl|exact Ex.loadVc Tryz.isAgg3 rfl) rfl ?_
      refine O.guard_t rfl rfl ?_
      refine O.ex (Ex.lss rfl rfl) rfl ?_
      refine O.ex (Ex.pick_f rfl rfl) rfl ?_
      refine O.nil ?_
      refine hK6 _ _ _ ?_
      first|refine W.cond_p rfl (fun hlt=>?_) (fun hge=>?_)|refine W.cond_b rfl (fun hlt=>?_) (fun hge=>?_)
      · refine W.region ?_
        refine O.ex (Ex.move rfl) rfl ?_
        refine O.ex (Ex.move rfl) rfl ?_
        first|refine O.storeP Tryz.sizeOf3 rfl rfl (fun w H=>?_)|refine O.storeR Tryz.sizeOf3 rfl rfl (fun w H=>?_)|refine O.storeM Tryz.sizeOf3 rfl rfl (fun w H=>?_)|refine O.storeVc Tryz.sizeOf3 rfl rfl (fun w H=>?_)|refine O.storeQ Tryz.sizeOf3 rfl rfl (fun w H=>?_)
        first|refine O.storeP Tryz.sizeOf4 rfl rfl (fun w H=>?_)|refine O.storeR Tryz.sizeOf4 rfl rfl (fun w H=>?_)|refine O.storeM Tryz.sizeOf4 rfl rfl (fun w H=>?_)|refine O.storeVc Tryz.sizeOf4 rfl rfl (fun w H=>?_)|refine O.storeQ Tryz.sizeOf4 rfl rfl (fun w H=>?_)
        first|refine O.storeP Tryz.sizeOf3 rfl rfl (fun w H=>?_)|refine O.storeR Tryz.sizeOf3 rfl rfl (fun w H=>?_)|refine O.storeM Tryz.sizeOf3 rfl rfl (fun w H=>?_)|refine O.storeVc Tryz.sizeOf3 rfl rfl (fun w H=>?_)|refine O.storeQ Tryz.sizeOf3 rfl rfl (fun w H=>?_)
        refine O.nil ?_
        have key : ∀ b',b' = lsS cost b v → lsV b' = lsV (lsS cost b v) ∧ b'.isSome = (lsS cost b v).isSome ∧ lsL b' = lsL (lsS cost b v):=fun b' e=>by rw [e]; exact ⟨rfl,rfl,rfl⟩
        first
        | (have hn : b = none:=by
             cases b with
             | none=>rfl
             | some y=>simp at hno
           have e : lsS cost b v = some (v,cost v):=by rw [hn]; rfl
           rw [e]
           exact ⟨_,Holds.to (by assumption),fun w H=>.inl ⟨rfl,trivial,Holds.to (by assumption)⟩⟩)
        | (obtain ⟨x,lo,hn⟩ : ∃ x lo,b = some (x,lo):=by
             cases b with
             | none=>simp at hyes
             | some y=>exact ⟨y.1,y.2,rfl⟩
           have hl : cost v < lo:=by have h:=hlt; rw [hn] at h; exact h
           have e : lsS cost b v = some (v,cost v):=by rw [hn]; exact if_pos hl
           rw [e]
           exact ⟨_,Holds.to (by assumption),fun w H=>.inl ⟨rfl,trivial,Holds.to (by assumption)⟩⟩)
        | (obtain ⟨x,lo,hn⟩ : ∃ x lo,b = some (x,lo):=by
             cases b with
             | none=>simp at hyes
             | some y=>exact ⟨y.1,y.2,rfl⟩
           have hl : ¬ cost v < lo:=by have h:=hge; rw [hn] at h; exact h
           have e : lsS cost b v = b:=by rw [hn]; exact if_neg hl
           rw [e]
           exact ⟨_,Holds.to (by assumption),fun w H=>.inl ⟨rfl,trivial,Holds.to (by assumption)⟩⟩)
      · refine W.skip ?_
        have key : ∀ b',b' = lsS cost b v → lsV b' = lsV (lsS cost b v) ∧ b'.isSome = (lsS cost b v).isSome ∧ lsL b' = lsL (lsS cost b v):=fun b' e=>by rw [e]; exact ⟨rfl,rfl,rfl⟩
        first
        | (have hn : b = none:=by
             cases b with
             | none=>rfl
             | some y=>simp at hno
           have e : lsS cost b v = some (v,cost v):=by rw [hn]; rfl
           rw [e]
           exact ⟨_,Holds.to (by assumption),fun w H=>.inl ⟨rfl,trivial,Holds.to (by assumption)⟩⟩)
        | (obtain ⟨x,lo,hn⟩ : ∃ x lo,b = some (x,lo):=by
             cases b with
             | none=>simp at hyes
             | some y=>exact ⟨y.1,y.2,rfl⟩
           have hl : cost v < lo:=by have h:=hlt; rw [hn] at h; exact h
           have e : lsS cost b v = some (v,cost v):=by rw [hn]; exact if_pos hl
           rw [e]
           exact ⟨_,Holds.to (by assumption),fun w H=>.inl ⟨rfl,trivial,Holds.to (by assumption)⟩⟩)
        | (obtain ⟨x,lo,hn⟩ : ∃ x lo,b = some (x,lo):=by
             cases b with
             | none=>simp at hyes
             | some y=>exact ⟨y.1,y.2,rfl⟩
           have hl : ¬ cost v < lo:=by have h:=hge; rw [hn] at h; exact h
           have e : lsS cost b v = b:=by rw [hn]; exact if_neg hl
           rw [e]
           exact ⟨_,Holds.to (by assumption),fun w H=>.inl ⟨rfl,trivial,Holds.to (by assumption)⟩⟩)
  rintro _ w (⟨_,H⟩|hf)
  rotate_left
  · exact hf.elim
  rw [List.take_length] at H
  refine rangeEnd (Holds.to (by assumption)) (by nofun) (fun w H=>?_)
  refine hK3 _ _ _ ?_
  refine W.seq (fun K7 hK7=>?_)
  refine W.drawTo (pt b6 (.cells #[.int .i64 (lsV (ls cost (lst s)) : Nat)] 3 (0,0))::pt b7 (.cells #[.bool (ls cost (lst s)).isSome] 4 (0,0))::[]) (.take 0 (.take 1 (.take 2 (.take 3 .nil)))) (mixed) (fun _ _ _ _ h=>h) (by assumption) PP.auto (by decide +kernel) (fun w H=>?_)
  refine OQ.ex rfl (fun w H=>(by first|exact Ex.loadRN Tryz.isAgg3 rfl|exact Ex.loadP Tryz.isAgg3 rfl|exact Ex.loadQ Tryz.isAgg3 rfl|exact Ex.loadMh Tryz.isAgg3 rfl|exact Ex.loadR Tryz.isAgg3 rfl|exact Ex.loadInF Tryz.isAgg3 rfl (Holds.to (by assumption))|exact Ex.loadIn1 Tryz.isAgg3 rfl (Holds.to (by assumption))|exact Ex.loadM Tryz.isAgg3 rfl|exact Ex.loadVc Tryz.isAgg3 rfl)) rfl ?_
  refine OQ.ex rfl (fun w H=>(by first|exact Ex.loadRN Tryz.isAgg4 rfl|exact Ex.loadP Tryz.isAgg4 rfl|exact Ex.loadQ Tryz.isAgg4 rfl|exact Ex.loadMh Tryz.isAgg4 rfl|exact Ex.loadR Tryz.isAgg4 rfl|exact Ex.loadInF Tryz.isAgg4 rfl (Holds.to (by assumption))|exact Ex.loadIn1 Tryz.isAgg4 rfl (Holds.to (by assumption))|exact Ex.loadM Tryz.isAgg4 rfl|exact Ex.loadVc Tryz.isAgg4 rfl)) rfl ?_
  refine OQ.ex rfl (fun w H=>(Ex.assign rfl)) rfl ?_
  refine OQ.ex rfl (fun w H=>(Ex.assign rfl)) rfl ?_
  refine OQ.done ?_
  refine hK7 _ _ _ ?_
  refine W.ret ?_
  try dsimp only [thenQ,blockQ,retQ]
  first|refine ⟨_,⟨_,_,rfl,rfl,_,_,rfl,rfl,rfl⟩,?_⟩|(refine retD_mark ?_; intro w H; refine ⟨_,⟨_,_,rfl,rfl,_,_,rfl,rfl,rfl⟩,?_⟩)|(refine retD_mark2 ?_; intro w H; refine ⟨_,⟨_,_,rfl,rfl,_,_,rfl,rfl,rfl⟩,?_⟩)
  exact ⟨rfl,by first|assumption|exact Holds.to (by assumption)⟩
theorem rank1_ct {w : World} {b5 b3 b7 m : Nat} {n settles : Int} {c : Int → Int → Int} {gv : Value} {gone : List Int} {v : Nat} {L : List HProp} (hg : Good n c) (hv : v < n.toNat) (hgl : gone.length = n.toNat) (hgb : ∀ i,0 ≤ gone.getD i default ∧ gone.getD i default ≤ 1000)
    (H : Holds w (pt b5 (.cells #[.pointer (some ⟨m,0,none⟩)] 45 (0,0))::pt b3 (.cells #[.int .i64 settles] 3 (0,0))::pt b7 (.cells #[gv] 28 (0,0))::Mh m n c::arr 3 (Value.int .i64) gv gone::L)) :
    CT Tryz.prog 26 [.int .i64 (v : Int),.pointer (some ⟨b5,0,none⟩),.pointer (some ⟨b3,0,none⟩),.pointer (some ⟨b7,0,none⟩)] w fun u w'=>u = .int .i64 (costR n settles c gone v) ∧
      Holds w' (pt b5 (.cells #[.pointer (some ⟨m,0,none⟩)] 45 (0,0))::pt b3 (.cells #[.int .i64 settles] 3 (0,0))::pt b7 (.cells #[gv] 28 (0,0))::Mh m n c::arr 3 (Value.int .i64) gv gone::L):=by
  have n2:=hg.n2
  have hn:=needN_le (v:=(v : Int)) (settles:=settles) hg
  have ha:=arC_le c (v : Int) n.toNat 2
  have hb:=hgb v
  have v0 : (0 : Int) ≤ (v : Int):=by omega
  have v1 : (v : Int) < (gone.length : Int):=by omega
  have vt : ((v : Nat) : Int).toNat = v:=Int.toNat_natCast v
  refine CT.enter (N:=21) Tryz.func26 rfl rfl rfl rfl ?_
  refine W.seq (fun K0 hK0=>?_)
  refine W.region ?_
  refine O.ex (Ex.assign rfl) rfl ?_
  refine O.nil ?_
  refine hK0 _ _ _ ?_
  refine W.seq (fun K1 hK1=>?_)
  refine W.region ?_
  refine O.ex (by first|exact Ex.loadRN Tryz.isAgg45 rfl|exact Ex.loadP Tryz.isAgg45 rfl|exact Ex.loadQ Tryz.isAgg45 rfl|exact Ex.loadMh Tryz.isAgg45 rfl|exact Ex.loadR Tryz.isAgg45 rfl|exact Ex.loadInF Tryz.isAgg45 rfl (Holds.to (by assumption))|exact Ex.loadIn1 Tryz.isAgg45 rfl (Holds.to (by assumption))|exact Ex.loadM Tryz.isAgg45 rfl|exact Ex.loadVc Tryz.isAgg45 rfl) rfl ?_
  refine O.ex (Ex.move rfl) rfl ?_
  refine O.ex (by first|exact Ex.loadRN Tryz.isAgg3 rfl|exact Ex.loadP Tryz.isAgg3 rfl|exact Ex.loadQ Tryz.isAgg3 rfl|exact Ex.loadMh Tryz.isAgg3 rfl|exact Ex.loadR Tryz.isAgg3 rfl|exact Ex.loadInF Tryz.isAgg3 rfl (Holds.to (by assumption))|exact Ex.loadIn1 Tryz.isAgg3 rfl (Holds.to (by assumption))|exact Ex.loadM Tryz.isAgg3 rfl|exact Ex.loadVc Tryz.isAgg3 rfl) rfl ?_
  refine O.callF Tryz.call16 rfl rfl (CT.mono (diffV_ct (v:=(v : Int)) (settles:=settles) hg (by omega) (Holds.to (by assumption))) ?_)
  rintro _ w ⟨rfl,H⟩
  refine O.ex (Ex.move rfl) rfl ?_
  refine O.ex (Ex.extract rfl rfl) rfl ?_
  refine O.ex (Ex.extract rfl rfl) rfl ?_
  refine O.ex (Ex.assign rfl) rfl ?_
  refine O.ex (Ex.assign rfl) rfl ?_
  refine O.nil ?_
  refine hK1 _ _ _ ?_
  refine W.seq (fun K2 hK2=>?_)
  refine W.region ?_
  refine O.ex (Ex.move rfl) rfl ?_
  refine O.ex (v:=gv) (Ex.loadP Tryz.isAgg28 rfl (Holds.cell (Holds.to (M:=pt b7 (.cells #[gv] 28 (0,0))::[]) H) rfl)) rfl ?_
  refine O.ex (Ex.move rfl) rfl ?_
  refine O.ex (by first|exact Ex.idxR Tryz.runUnderlying28 Tryz.sizeOf3 rfl rfl|exact Ex.idxIn Tryz.runUnderlying28 Tryz.sizeOf3 rfl rfl|exact Ex.idxS Tryz.runUnderlying28 Tryz.sizeOf3 rfl rfl|exact Ex.idx Tryz.runUnderlying28 Tryz.sizeOf3 rfl rfl (by omega) (by omega)) rfl ?_
  refine O.ex (Ex.cast (v:=.int .i64 (gone.getD v default)) (Ex.loadR (xs:=gone) Tryz.isAgg3 rfl) (by rw [vt])) rfl ?_
  refine O.ex (by first|exact Ex.addI rfl rfl|exact Ex.add rfl rfl rfl) rfl ?_
  refine O.ex (Ex.assign rfl) rfl ?_
  refine O.nil ?_
  refine hK2 _ _ _ ?_
  refine W.ret ?_
  try dsimp only [thenQ,blockQ,retQ]
  first|refine ⟨_,⟨_,_,rfl,rfl,rfl⟩,?_⟩|(refine retD_mark ?_; intro w H; refine ⟨_,⟨_,_,rfl,rfl,rfl⟩,?_⟩)|(refine retD_mark2 ?_; intro w H; refine ⟨_,⟨_,_,rfl,rfl,rfl⟩,?_⟩)
  exact ⟨rfl,by first|assumption|exact Holds.to (by assumption)⟩
end Go.Proofs.YtblapiiinbppiaaGreatDoor
