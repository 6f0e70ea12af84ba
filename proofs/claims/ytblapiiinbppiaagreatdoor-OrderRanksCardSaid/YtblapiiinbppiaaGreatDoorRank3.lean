import Derived.Test.YtblapiiinbppiaaGreatDoorRank2
import Derived.Test.YtblapiiinbppiaaGreatDoorRankLaw2
namespace Go.Proofs.YtblapiiinbppiaaGreatDoor
open Go.Rr Go Gr Hp Wt
set_option linter.unusedVariables false
set_option linter.unusedSimpArgs false
theorem has14_ct {w : World} {v : Value} {xs : List Int} {x : Int} {L : List HProp} (hl : xs.length ≤ 1000) (H : Holds w (arr 3 (Value.int .i64) v xs::L)) :
    CT Tryz.prog 32 [v,.int .i64 x] w fun u w'=>u = .bool (decide (x ∈ xs)) ∧ Holds w' (arr 3 (Value.int .i64) v xs::L):=by
  refine CT.enter (N:=18) Tryz.func32 rfl rfl rfl rfl ?_
  refine W.seq (fun K0 hK0=>?_)
  refine W.region ?_
  refine O.ex (Ex.assign rfl) rfl ?_
  refine O.nil ?_
  refine hK0 _ _ _ ?_
  refine W.seq (fun K1 hK1=>?_)
  refine W.seq (fun K2 hK2=>?_)
  refine W.region ?_
  refine O.ex (Ex.assign rfl) rfl ?_
  refine O.nil ?_
  refine hK2 _ _ _ ?_
  refine W.block ?_
  refine W.loop (σ:=Nat) (fun i=>[(0,v),(1,.int .i64 x),(5,.int .i64 (i : Int))]) (fun i ds w=>ds = [] ∧ i ≤ xs.length ∧ x ∉ xs.take i ∧ Holds w (arr 3 (Value.int .i64) v xs::L)) (fun i=>xs.length - i) 0 ⟨rfl,rfl,rfl,trivial⟩ ⟨rfl,by omega,by simp,Holds.to (by assumption)⟩ ?_
  clear H
  rintro i _ w ⟨rfl,hi,hno,H⟩
  refine W.seq (fun K3 hK3=>?_)
  refine W.seq (fun K4 hK4=>?_)
  refine W.region ?_
  refine O.ex (Ex.move rfl) rfl ?_
  refine O.ex (Ex.move rfl) rfl ?_
  refine O.ex (by first|exact Ex.lenR Tryz.runUnderlying28 rfl|exact Ex.lenIn Tryz.runUnderlying28 rfl|exact Ex.lenL Tryz.runUnderlying28 rfl|exact Ex.len rfl Tryz.runUnderlying28 rfl) rfl ?_
  refine O.ex (Ex.lss rfl rfl) rfl ?_
  refine O.nil ?_
  refine hK4 _ _ _ ?_
  first|refine W.cond_p rfl (fun hlt=>?_) (fun hge=>?_)|refine W.cond_b rfl (fun hlt=>?_) (fun hge=>?_)
  · refine W.skip ?_
    refine hK3 _ _ _ ?_
    refine W.seq (fun K5 hK5=>?_)
    refine W.block ?_
    refine W.seq (fun K6 hK6=>?_)
    refine W.region ?_
    refine O.ex (Ex.move rfl) rfl ?_
    refine O.ex (Ex.move rfl) rfl ?_
    refine O.ex (by first|exact Ex.idxR Tryz.runUnderlying28 Tryz.sizeOf3 rfl rfl|exact Ex.idxIn Tryz.runUnderlying28 Tryz.sizeOf3 rfl rfl|exact Ex.idxS Tryz.runUnderlying28 Tryz.sizeOf3 rfl rfl|exact Ex.idx Tryz.runUnderlying28 Tryz.sizeOf3 rfl rfl (by omega) (by omega)) rfl ?_
    refine O.ex (by first|exact Ex.loadRN Tryz.isAgg3 rfl|exact Ex.loadRT Tryz.isAgg3 rfl|exact Ex.loadR Tryz.isAgg3 rfl|exact Ex.loadIn1 Tryz.isAgg3 rfl (Holds.to (by assumption))|exact Ex.loadInF Tryz.isAgg3 rfl (Holds.to (by assumption))|exact Ex.loadP Tryz.isAgg3 rfl|exact Ex.loadMh Tryz.isAgg3 rfl|exact Ex.loadM Tryz.isAgg3 rfl|exact Ex.loadVc Tryz.isAgg3 rfl|exact Ex.loadQ Tryz.isAgg3 rfl) rfl ?_
    refine O.ex (Ex.move rfl) rfl ?_
    refine O.ex (Ex.eqlI rfl rfl) rfl ?_
    refine O.nil ?_
    refine hK6 _ _ _ ?_
    first|refine W.cond_p rfl (fun heq=>?_) (fun hne=>?_)|refine W.cond_b rfl (fun heq=>?_) (fun hne=>?_)
    · refine W.seq (fun K7 hK7=>?_)
      refine W.region ?_
      refine O.ex (Ex.assign rfl) rfl ?_
      refine O.nil ?_
      refine hK7 _ _ _ ?_
      refine W.ret ?_
      try dsimp only [thenQ,blockQ,retQ]
      first|refine ⟨_,⟨_,_,rfl,rfl,rfl⟩,?_⟩|(refine retD_mark ?_; intro w H; refine ⟨_,⟨_,_,rfl,rfl,rfl⟩,?_⟩)|(refine retD_mark2 ?_; intro w H; refine ⟨_,⟨_,_,rfl,rfl,rfl⟩,?_⟩)
      first
      | (have hm : x ∈ xs:=List.mem_of_mem_take ((mem_take xs x i (by omega)).2 (.inr heq))
         exact ⟨congrArg Value.bool (decide_eq_true hm).symm,Holds.to (by assumption)⟩)
      | (obtain rfl : i = xs.length:=by omega
         rw [List.take_length] at hno
         exact ⟨congrArg Value.bool (decide_eq_false hno).symm,Holds.to (by assumption)⟩)
    · refine W.skip ?_
      refine hK5 _ _ _ ?_
      refine W.region ?_
      refine O.ex (Ex.move rfl) rfl ?_
      refine O.ex (by first|exact Ex.addI rfl rfl|exact Ex.add rfl rfl rfl) rfl ?_
      refine O.ex (Ex.assign rfl) rfl ?_
      refine O.nil ?_
      exact ⟨i + 1,⟨rfl,rfl,rfl,trivial⟩,⟨rfl,by omega,fun hm=>((mem_take xs x i (by omega)).1 hm).elim hno hne,Holds.to (by assumption)⟩,by omega⟩
  · refine W.exit ?_
    refine hK1 _ _ _ ?_
    refine W.seq (fun K8 hK8=>?_)
    refine W.region ?_
    refine O.ex (Ex.assign rfl) rfl ?_
    refine O.nil ?_
    refine hK8 _ _ _ ?_
    refine W.ret ?_
    try dsimp only [thenQ,blockQ,retQ]
    first|refine ⟨_,⟨_,_,rfl,rfl,rfl⟩,?_⟩|(refine retD_mark ?_; intro w H; refine ⟨_,⟨_,_,rfl,rfl,rfl⟩,?_⟩)|(refine retD_mark2 ?_; intro w H; refine ⟨_,⟨_,_,rfl,rfl,rfl⟩,?_⟩)
    first
    | (have hm : x ∈ xs:=List.mem_of_mem_take ((mem_take xs x i (by omega)).2 (.inr heq))
       exact ⟨congrArg Value.bool (decide_eq_true hm).symm,Holds.to (by assumption)⟩)
    | (obtain rfl : i = xs.length:=by omega
       rw [List.take_length] at hno
       exact ⟨congrArg Value.bool (decide_eq_false hno).symm,Holds.to (by assumption)⟩)
theorem lsS_a {cost : Nat → Int} {b : Option (Nat × Int)} {v : Nat} (h : lsI b < 0) : lsS cost b v = some (v,cost v):=by
  cases b with
  | none=>rfl
  | some y=>exact absurd h (by show ¬ ((y.1 : Nat) : Int) < 0; omega)
theorem lsS_b {cost : Nat → Int} {b : Option (Nat × Int)} {v : Nat} (h : ¬ lsI b < 0) (hc : cost v < lsL b) : lsS cost b v = some (v,cost v):=by
  cases b with
  | none=>exact absurd (show (-1 : Int) < 0 by decide) h
  | some y=>exact if_pos hc
theorem lsS_c {cost : Nat → Int} {b : Option (Nat × Int)} {v : Nat} (h : ¬ lsI b < 0) (hc : ¬ cost v < lsL b) : lsS cost b v = b:=by
  cases b with
  | none=>exact absurd (show (-1 : Int) < 0 by decide) h
  | some y=>exact if_neg hc
theorem left_f (n : Int) : (List.range n.toNat).map (fun j=>decide (j < 0)) = List.replicate n.toNat false:=by
  refine List.ext_getElem? fun i=>?_
  rw [List.getElem?_map,List.getElem?_replicate]
  by_cases h : i < n.toNat
  · rw [List.getElem?_range h,if_pos h]; simp
  · rw [List.getElem?_eq_none (by rw [List.length_range]; omega),if_neg h]; rfl
theorem left_set {N i : Nat} (h : i < N) : ((List.range N).map (fun j=>decide (j < i))).set i true = (List.range N).map (fun j=>decide (j < i + 1)):=by
  refine zrg_set h (decide_eq_true (by omega)) fun j _ hj=>?_
  exact decide_eq_decide.2 (by omega)
theorem left_all {n : Int} (h2 : n ≤ 24) {i : Nat} (hi : i = n.toNat) : (List.range n.toNat).map (fun j=>decide (j < i)) = (List.range n.toNat).map (belN n).testBit:=by
  refine zrg_congr fun j hj=>?_
  rw [belN_bit n j (by omega)]
  exact decide_eq_decide.2 (by omega)
theorem left_out {N s v : Nat} (hN : N ≤ 64) (hv : v < N) : ((List.range N).map s.testBit).set v false = (List.range N).map (s &&& (18446744073709551615 - bitN ((v : Nat) : Int))).testBit:=by
  refine zrg_set hv ?_ fun j hj hjv=>?_
  · rw [without_bit _ _ _ (by omega)]; simp
  · rw [without_bit _ _ _ (by omega)]; rw [show decide ((j : Int) = ((v : Nat) : Int)) = false from decide_eq_false (by omega)]; simp
set_option maxHeartbeats 4000000 in
theorem refRank_ct {w w0 : World} {r : Nat} {n most settles : Int} {s : St} {L : List HProp} (hg : GOk n most s) (H : Holds w (base w0::Rg r n most s::L)) :
    CT Tryz.prog 9 [.pointer (some ⟨r,0,none⟩),.int .i64 settles] w fun u w'=>u.oneCell' = true ∧ Holds w' (arr 3 (Value.int .i64) u (rankF n settles (cG s))::base w0::Rg r n most s::L):=by
  have n1:=hg.n1
  have n2:=hg.n2
  have hG:=cG_good hg
  have hnn : ((n.toNat : Nat) : Int) = n:=by omega
  refine CT.enter (N:=120) Tryz.func9 rfl rfl rfl rfl ?_
  refine W.seq (fun K0 hK0=>?_)
  refine W.region ?_
  refine O.ex (Ex.assign rfl) rfl ?_
  refine O.nil ?_
  refine hK0 _ _ _ ?_
  refine W.seq (fun K1 hK1=>?_)
  refine W.region ?_
  refine O.ex (Ex.move rfl) rfl ?_
  refine O.callF Tryz.call30 rfl rfl (CT.mono (rof_ct hg (Holds.to (M:=Rg r n most s::_) (by assumption))) ?_)
  rintro _ w ⟨m,rfl,H⟩
  refine O.ex (Ex.assign rfl) rfl ?_
  refine O.nil ?_
  refine hK1 _ _ _ ?_
  refine W.seq (fun K2 hK2=>?_)
  refine W.region ?_
  refine O.ex (Ex.move rfl) rfl ?_
  refine O.ex (by first|exact Ex.nilPtr rfl|exact Ex.nilFunc rfl|exact Ex.nilYield rfl) rfl ?_
  refine O.ex (by first|exact Ex.field0 fld41_0 rfl|exact Ex.field fld41_0 rfl|exact Ex.fieldS fld41_0 rfl|exact Ex.fieldIn fld41_0 rfl) rfl ?_
  refine O.ex (Ex.loadRN Tryz.isAgg3 rfl (Holds.to (M:=Rg r n most s::[]) (by assumption))) rfl ?_
  refine O.makeR (0 : Int) (e:=Value.int .i64) (bt:=8) Tryz.runUnderlying28 Tryz.sizeOf3 Tryz.zeroValue3 Tryz.typeInfo3 rfl rfl rfl (fun s22 w hs22 H=>?_)
  refine O.ex (Ex.assign rfl) rfl ?_
  refine O.nil ?_
  refine hK2 _ _ _ ?_
  refine W.seq (fun K3 hK3=>?_)
  refine W.region ?_
  refine O.ex (Ex.move rfl) rfl ?_
  refine O.ex (by first|exact Ex.nilPtr rfl|exact Ex.nilFunc rfl|exact Ex.nilYield rfl) rfl ?_
  refine O.ex (by first|exact Ex.field0 fld41_0 rfl|exact Ex.field fld41_0 rfl|exact Ex.fieldS fld41_0 rfl|exact Ex.fieldIn fld41_0 rfl) rfl ?_
  refine O.ex (Ex.loadRN Tryz.isAgg3 rfl (Holds.to (M:=Rg r n most s::[]) (by assumption))) rfl ?_
  refine O.makeR (false : Bool) (e:=Value.bool) (bt:=1) Tryz.runUnderlying74 Tryz.sizeOf4 Tryz.zeroValue4 Tryz.typeInfo4 rfl rfl rfl (fun s27 w hs27 H=>?_)
  refine O.ex (Ex.assign rfl) rfl ?_
  refine O.nil ?_
  refine hK3 _ _ _ ?_
  refine W.seq (fun K4 hK4=>?_)
  refine W.region ?_
  refine O.ex (Ex.move rfl) rfl ?_
  refine O.ex (by first|exact Ex.nilPtr rfl|exact Ex.nilFunc rfl|exact Ex.nilYield rfl) rfl ?_
  refine O.ex (by first|exact Ex.field0 fld41_0 rfl|exact Ex.field fld41_0 rfl|exact Ex.fieldS fld41_0 rfl|exact Ex.fieldIn fld41_0 rfl) rfl ?_
  refine O.ex (Ex.loadRN Tryz.isAgg3 rfl (Holds.to (M:=Rg r n most s::[]) (by assumption))) rfl ?_
  refine O.makeR (0 : Int) (e:=Value.int .i64) (bt:=8) Tryz.runUnderlying28 Tryz.sizeOf3 Tryz.zeroValue3 Tryz.typeInfo3 rfl rfl rfl (fun s32 w hs32 H=>?_)
  refine O.ex (Ex.assign rfl) rfl ?_
  refine O.nil ?_
  refine hK4 _ _ _ ?_
  refine W.seq (fun K5 hK5=>?_)
  refine W.seq (fun K6 hK6=>?_)
  refine W.region ?_
  refine O.ex (Ex.assign rfl) rfl ?_
  refine O.nil ?_
  refine hK6 _ _ _ ?_
  refine W.block ?_
  obtain ⟨rr,hrr⟩ : ∃ rr : Nat → RkS,rr = rk n settles (cG s):=⟨_,rfl⟩
  have hok : ∀ k,RkOk n k (rr k):=fun k=>by rw [hrr]; exact rk_ok hG k
  have H0 : Holds w (Rh m n (rr 0).c::arr 3 (Value.int .i64) s22 (rr 0).out::arr 4 Value.bool s27 ((List.range n.toNat).map (fun j=>decide (j < 0)))::arr 3 (Value.int .i64) s32 (rr 0).gone::base w0::Rg r n most s::L):=by
    rw [hrr,left_f]; exact Holds.to H
  refine W.loop (σ:=Nat) (fun i=>[(0,.pointer (some ⟨r,0,none⟩)),(1,.int .i64 settles),(5,.pointer (some ⟨m,0,none⟩)),(6,s22),(7,s27),(8,s32),(9,.int .i64 (i : Int))]) (fun i ds w=>ds = [] ∧ (i : Int) ≤ n ∧ Holds w (Rh m n (rr 0).c::arr 3 (Value.int .i64) s22 (rr 0).out::arr 4 Value.bool s27 ((List.range n.toNat).map (fun j=>decide (j < i)))::arr 3 (Value.int .i64) s32 (rr 0).gone::base w0::Rg r n most s::L)) (fun i=>n.toNat - i) 0 ⟨rfl,rfl,rfl,rfl,rfl,rfl,rfl,trivial⟩ ⟨rfl,by omega,H0⟩ ?_
  clear H H0
  rintro i _ w ⟨rfl,hi,H⟩
  refine W.seq (fun K7 hK7=>?_)
  refine W.seq (fun K8 hK8=>?_)
  refine W.region ?_
  refine O.ex (Ex.move rfl) rfl ?_
  refine O.ex (Ex.move rfl) rfl ?_
  refine O.ex (by first|exact Ex.nilPtr rfl|exact Ex.nilFunc rfl|exact Ex.nilYield rfl) rfl ?_
  refine O.ex (by first|exact Ex.field0 fld41_0 rfl|exact Ex.field fld41_0 rfl|exact Ex.fieldS fld41_0 rfl|exact Ex.fieldIn fld41_0 rfl) rfl ?_
  refine O.ex (Ex.loadRN Tryz.isAgg3 rfl (Holds.to (M:=Rg r n most s::[]) (by assumption))) rfl ?_
  refine O.ex (Ex.lss rfl rfl) rfl ?_
  refine O.nil ?_
  refine hK8 _ _ _ ?_
  first|refine W.cond_p rfl (fun hlt=>?_) (fun hge=>?_)|refine W.cond_b rfl (fun hlt=>?_) (fun hge=>?_)
  · refine W.skip ?_
    refine hK7 _ _ _ ?_
    refine W.seq (fun K9 hK9=>?_)
    refine W.block ?_
    refine W.region ?_
    have hin : (i : Int) < n:=hlt
    have hiN : i < n.toNat:=by omega
    have i0 : (0 : Int) ≤ (i : Int):=by omega
    have it : ((i : Nat) : Int).toNat = i:=Int.toNat_natCast i
    have hll : ((List.range n.toNat).map (fun j=>decide (j < i))).length = n.toNat:=by rw [List.length_map,List.length_range]
    have i1 : (i : Int) < ((((List.range n.toNat).map (fun j=>decide (j < i))).length : Nat) : Int):=by rw [hll]; omega
    refine O.ex (Ex.move rfl) rfl ?_
    refine O.ex (Ex.move rfl) rfl ?_
    refine O.ex (by first|exact Ex.idxR Tryz.runUnderlying74 Tryz.sizeOf4 rfl rfl|exact Ex.idxIn Tryz.runUnderlying74 Tryz.sizeOf4 rfl rfl|exact Ex.idxS Tryz.runUnderlying74 Tryz.sizeOf4 rfl rfl|exact Ex.idx Tryz.runUnderlying74 Tryz.sizeOf4 rfl rfl (by omega) (by omega)) rfl ?_
    first|refine O.storeP Tryz.sizeOf4 rfl rfl (fun w H=>?_)|refine O.storeR Tryz.sizeOf4 rfl rfl (fun w H=>?_)|refine O.storeM Tryz.sizeOf4 rfl rfl (fun w H=>?_)|refine O.storeVc Tryz.sizeOf4 rfl rfl (fun w H=>?_)|refine O.storeQ Tryz.sizeOf4 rfl rfl (fun w H=>?_)
    refine O.nil ?_
    refine hK9 _ _ _ ?_
    refine W.region ?_
    refine O.ex (Ex.move rfl) rfl ?_
    refine O.ex (by first|exact Ex.addI rfl rfl|exact Ex.add rfl rfl rfl) rfl ?_
    refine O.ex (Ex.assign rfl) rfl ?_
    refine O.nil ?_
    rw [it,left_set hiN] at H
    exact ⟨i + 1,⟨rfl,rfl,rfl,rfl,rfl,rfl,rfl,trivial⟩,⟨rfl,by omega,Holds.to (by assumption)⟩,by omega⟩
  · refine W.exit ?_
    refine hK5 _ _ _ ?_
    refine W.seq (fun K10 hK10=>?_)
    refine W.seq (fun K11 hK11=>?_)
    refine W.region ?_
    refine O.ex (Ex.assign rfl) rfl ?_
    refine O.nil ?_
    refine hK11 _ _ _ ?_
    refine W.block ?_
    have H1 : Holds w (Rh m n (rr 0).c::arr 3 (Value.int .i64) s22 (rr 0).out::arr 4 Value.bool s27 ((List.range n.toNat).map (rr 0).left.testBit)::arr 3 (Value.int .i64) s32 (rr 0).gone::base w0::Rg r n most s::L):=by
      rw [show (rr 0).left = belN n from by rw [hrr]; rfl,← left_all n2 (i:=i) (by omega)]; exact Holds.to H
    refine W.loop (σ:=Nat) (fun k=>[(0,.pointer (some ⟨r,0,none⟩)),(1,.int .i64 settles),(5,.pointer (some ⟨m,0,none⟩)),(6,s22),(7,s27),(8,s32),(10,.int .i64 (k : Int))]) (fun k ds w=>ds = [] ∧ (k : Int) ≤ n ∧ Holds w (Rh m n (rr k).c::arr 3 (Value.int .i64) s22 (rr k).out::arr 4 Value.bool s27 ((List.range n.toNat).map (rr k).left.testBit)::arr 3 (Value.int .i64) s32 (rr k).gone::base w0::Rg r n most s::L)) (fun k=>n.toNat - k) 0 ⟨rfl,rfl,rfl,rfl,rfl,rfl,rfl,trivial⟩ ⟨rfl,by omega,H1⟩ ?_
    clear H H1
    rintro k _ w ⟨rfl,hk,H⟩
    refine W.seq (fun K12 hK12=>?_)
    refine W.seq (fun K13 hK13=>?_)
    refine W.region ?_
    refine O.ex (Ex.move rfl) rfl ?_
    refine O.ex (Ex.move rfl) rfl ?_
    refine O.ex (by first|exact Ex.nilPtr rfl|exact Ex.nilFunc rfl|exact Ex.nilYield rfl) rfl ?_
    refine O.ex (by first|exact Ex.field0 fld41_0 rfl|exact Ex.field fld41_0 rfl|exact Ex.fieldS fld41_0 rfl|exact Ex.fieldIn fld41_0 rfl) rfl ?_
    refine O.ex (Ex.loadRN Tryz.isAgg3 rfl (Holds.to (M:=Rg r n most s::[]) (by assumption))) rfl ?_
    refine O.ex (Ex.lss rfl rfl) rfl ?_
    refine O.nil ?_
    refine hK13 _ _ _ ?_
    first|refine W.cond_p rfl (fun hltk=>?_) (fun hgek=>?_)|refine W.cond_b rfl (fun hltk=>?_) (fun hgek=>?_)
    · refine W.skip ?_
      refine hK12 _ _ _ ?_
      refine W.seq (fun K14 hK14=>?_)
      refine W.block ?_
      refine W.seq (fun K15 hK15=>?_)
      refine W.region ?_
      have hkn : (k : Int) < n:=hltk
      have hkN : k < n.toNat:=by omega
      obtain ⟨x,hx⟩ : ∃ x,x = rr k:=⟨_,rfl⟩
      have hx1 : rr (k + 1) = rkStep n settles k x:=by rw [hx,hrr]; rfl
      have ok : RkOk n k x:=hx ▸ hok k
      have hne : lst x.left ≠ []:=by rw [hx,hrr]; exact rk_ne hG hkN
      rw [← hx] at H
      have hlr:=lst_range (N:=n.toNat) (by omega) ok.sub
      obtain ⟨cst,hcst⟩ : ∃ cst,cst = costR n settles x.c x.gone:=⟨_,rfl⟩
      obtain ⟨p,hp⟩ : ∃ p,p = pickR n settles x:=⟨_,rfl⟩
      have hpn : p < n.toNat:=hp ▸ pick_lt ok
      obtain ⟨lo,hlo⟩:=(pick_mem (n:=n) (settles:=settles) hne).2
      rw [← hp,← hcst] at hlo
      have hll : ((List.range n.toNat).map x.left.testBit).length = n.toNat:=by rw [List.length_map,List.length_range]
      refine O.ex (Ex.assign rfl) rfl ?_
      refine O.nil ?_
      refine hK15 _ _ _ ?_
      refine W.seq (fun K16 hK16=>?_)
      refine W.region ?_
      refine O.ex (Ex.assign rfl) rfl ?_
      refine O.nil ?_
      refine hK16 _ _ _ ?_
      refine W.seq (fun K17 hK17=>?_)
      refine W.seq (fun K18 hK18=>?_)
      refine W.region ?_
      refine O.ex (Ex.assign rfl) rfl ?_
      refine O.nil ?_
      refine hK18 _ _ _ ?_
      refine W.block ?_
      refine W.loop (σ:=Nat) (fun v=>[(0,.pointer (some ⟨r,0,none⟩)),(1,.int .i64 settles),(5,.pointer (some ⟨m,0,none⟩)),(6,s22),(7,s27),(8,s32),(10,.int .i64 (k : Int)),(11,.int .i64 (lsI (ls cst ((List.range v).filter x.left.testBit)))),(12,.int .i64 (lsL (ls cst ((List.range v).filter x.left.testBit)))),(13,.int .i64 (v : Int))]) (fun v ds w=>ds = [] ∧ (v : Int) ≤ n ∧ Holds w (Rh m n x.c::arr 3 (Value.int .i64) s22 x.out::arr 4 Value.bool s27 ((List.range n.toNat).map x.left.testBit)::arr 3 (Value.int .i64) s32 x.gone::base w0::Rg r n most s::L)) (fun v=>n.toNat - v) 0 ⟨rfl,rfl,rfl,rfl,rfl,rfl,rfl,rfl,rfl,rfl,trivial⟩ ⟨rfl,by omega,Holds.to (by assumption)⟩ ?_
      clear H
      rintro v _ w ⟨rfl,hv,H⟩
      obtain ⟨b,hb⟩ : ∃ b,b = ls cst ((List.range v).filter x.left.testBit):=⟨_,rfl⟩
      rw [← hb]
      refine W.seq (fun K19 hK19=>?_)
      refine W.seq (fun K20 hK20=>?_)
      refine W.region ?_
      refine O.ex (Ex.move rfl) rfl ?_
      refine O.ex (Ex.move rfl) rfl ?_
      refine O.ex (by first|exact Ex.nilPtr rfl|exact Ex.nilFunc rfl|exact Ex.nilYield rfl) rfl ?_
      refine O.ex (by first|exact Ex.field0 fld41_0 rfl|exact Ex.field fld41_0 rfl|exact Ex.fieldS fld41_0 rfl|exact Ex.fieldIn fld41_0 rfl) rfl ?_
      refine O.ex (Ex.loadRN Tryz.isAgg3 rfl (Holds.to (M:=Rg r n most s::[]) (by assumption))) rfl ?_
      refine O.ex (Ex.lss rfl rfl) rfl ?_
      refine O.nil ?_
      refine hK20 _ _ _ ?_
      first|refine W.cond_p rfl (fun hltv=>?_) (fun hgev=>?_)|refine W.cond_b rfl (fun hltv=>?_) (fun hgev=>?_)
      · refine W.skip ?_
        refine hK19 _ _ _ ?_
        refine W.seq (fun K21 hK21=>?_)
        refine W.block ?_
        refine W.seq (fun K22 hK22=>?_)
        refine W.seq (fun K23 hK23=>?_)
        refine W.region ?_
        have hvn : (v : Int) < n:=hltv
        have hvN : v < n.toNat:=by omega
        have v0 : (0 : Int) ≤ (v : Int):=by omega
        have vt : ((v : Nat) : Int).toNat = v:=Int.toNat_natCast v
        have v1 : (v : Int) < ((((List.range n.toNat).map x.left.testBit).length : Nat) : Int):=by rw [hll]; omega
        have v2 : (v : Int) < ((x.gone.length : Nat) : Int):=by rw [ok.gl]; omega
        have hnd:=needN_le (v:=(v : Int)) (settles:=settles) ok.good
        have har:=arC_le x.c (v : Int) n.toNat 2
        have hgb:=ok.gb v
        refine O.ex (Ex.move rfl) rfl ?_
        refine O.ex (Ex.move rfl) rfl ?_
        refine O.ex (by first|exact Ex.idxR Tryz.runUnderlying74 Tryz.sizeOf4 rfl rfl|exact Ex.idxIn Tryz.runUnderlying74 Tryz.sizeOf4 rfl rfl|exact Ex.idxS Tryz.runUnderlying74 Tryz.sizeOf4 rfl rfl|exact Ex.idx Tryz.runUnderlying74 Tryz.sizeOf4 rfl rfl (by omega) (by omega)) rfl ?_
        refine O.ex (Ex.cast (v:=.bool (x.left.testBit v)) (Ex.loadR (xs:=(List.range n.toNat).map x.left.testBit) Tryz.isAgg4 rfl) (by rw [vt,zrg_get hvN])) rfl ?_
        refine O.ex (by first|exact Ex.notD rfl|exact Ex.not rfl) rfl ?_
        refine O.nil ?_
        refine hK23 _ _ _ ?_
        first|refine W.cond_p rfl (fun hnl=>?_) (fun hyl=>?_)|refine W.cond_b rfl (fun hnl=>?_) (fun hyl=>?_)
        · refine W.exit ?_
          refine hK21 _ _ _ ?_
          refine W.region ?_
          refine O.ex (Ex.move rfl) rfl ?_
          refine O.ex (by first|exact Ex.addI rfl rfl|exact Ex.add rfl rfl rfl) rfl ?_
          refine O.ex (Ex.assign rfl) rfl ?_
          refine O.nil ?_
          have hcv : ((needN n x.c (v : Int) settles : Nat) : Int) - ((arC x.c (v : Int) n.toNat 2 : Nat) : Int) + x.gone.getD v default = cst v:=by rw [hcst]; rfl
          first
          | (have hf : x.left.testBit v = false:=by simpa using hnl
             have e:=fil_f hf
             exact ⟨v + 1,⟨rfl,rfl,rfl,rfl,rfl,rfl,rfl,by rw [e,← hb]; rfl,by rw [e,← hb]; rfl,rfl,trivial⟩,⟨rfl,by omega,Holds.to (by assumption)⟩,by omega⟩)
          | (have ht : x.left.testBit v = true:=by simpa using hyl
             have e : ls cst ((List.range (v + 1)).filter x.left.testBit) = some (v,cst v):=by rw [fil_t ht,ls_snoc,← hb]; exact lsS_a hneg
             exact ⟨v + 1,⟨rfl,rfl,rfl,rfl,rfl,rfl,rfl,by rw [e]; rfl,by rw [e,← hcv]; rfl,rfl,trivial⟩,⟨rfl,by omega,Holds.to (by assumption)⟩,by omega⟩)
          | (have ht : x.left.testBit v = true:=by simpa using hyl
             have e : ls cst ((List.range (v + 1)).filter x.left.testBit) = some (v,cst v):=by rw [fil_t ht,ls_snoc,← hb]; exact lsS_b hpos (by rw [← hcv]; exact hlow)
             exact ⟨v + 1,⟨rfl,rfl,rfl,rfl,rfl,rfl,rfl,by rw [e]; rfl,by rw [e,← hcv]; rfl,rfl,trivial⟩,⟨rfl,by omega,Holds.to (by assumption)⟩,by omega⟩)
          | (have ht : x.left.testBit v = true:=by simpa using hyl
             have e : ls cst ((List.range (v + 1)).filter x.left.testBit) = b:=by rw [fil_t ht,ls_snoc,← hb]; exact lsS_c hpos (by rw [← hcv]; exact hnlow)
             exact ⟨v + 1,⟨rfl,rfl,rfl,rfl,rfl,rfl,rfl,by rw [e]; rfl,by rw [e]; rfl,rfl,trivial⟩,⟨rfl,by omega,Holds.to (by assumption)⟩,by omega⟩)
        · refine W.skip ?_
          refine hK22 _ _ _ ?_
          refine W.seq (fun K24 hK24=>?_)
          refine W.drawTo (arr 3 (Value.int .i64) s32 x.gone::[]) (.take 0 (.take 1 (.take 2 (.take 4 (.take 5 (.take 6 (.take 7 (.one 3 (.take 8 (.take 9 .nil)))))))))) (mixed) (fun _ _ _ _ h=>h) (by assumption) PP.auto (by decide +kernel) (fun w H=>?_)
          refine OQ.ex rfl (fun w H=>(Ex.move rfl)) rfl ?_
          refine OQ.ex rfl (fun w H=>(Ex.move rfl)) rfl ?_
          refine OQ.ex rfl (fun w H=>(Ex.move rfl)) rfl ?_
          refine OQ.ex rfl (fun w H=>(Ex.move rfl)) rfl ?_
          refine OQ.ex rfl (fun w H=>(Ex.move rfl)) rfl ?_
          refine OQ.ex rfl (fun w H=>(by first|exact Ex.idxR Tryz.runUnderlying28 Tryz.sizeOf3 rfl rfl|exact Ex.idxIn Tryz.runUnderlying28 Tryz.sizeOf3 rfl rfl|exact Ex.idxS Tryz.runUnderlying28 Tryz.sizeOf3 rfl rfl|exact Ex.idx Tryz.runUnderlying28 Tryz.sizeOf3 rfl rfl (by omega) (by omega))) rfl ?_
          refine OQ.ex rfl (fun w H=>(Ex.cast (v:=.int .i64 (x.gone.getD v default)) (Ex.loadR (xs:=x.gone) Tryz.isAgg3 rfl) (by rw [vt]))) rfl ?_
          refine OQ.step rfl ?_
          refine O.callF Tryz.call31 rfl rfl (CT.mono (refDiff_ct (r:=m) (v:=(v : Int)) (settles:=settles) ok.good (Holds.to (M:=Rh m n x.c::_) (by assumption))) ?_)
          rintro _ w ⟨rfl,H⟩
          refine O.thenNil ⟨(by first|exact Holds.to (by assumption)|assumption),?_⟩
          refine OQ.ex rfl (fun w H=>(by first|exact Ex.addI rfl rfl|exact Ex.add rfl rfl rfl)) rfl ?_
          refine OQ.ex rfl (fun w H=>(Ex.assign rfl)) rfl ?_
          refine OQ.done ?_
          refine hK24 _ _ _ ?_
          refine W.seq (fun K25 hK25=>?_)
          refine W.region ?_
          refine O.ex (Ex.move rfl) rfl ?_
          refine O.ex (Ex.lss rfl rfl) rfl ?_
          refine O.ex (Ex.move rfl) rfl ?_
          first|refine O.split_p (t:=76) rfl (fun hneg=>?_) (fun hpos=>?_)|refine O.split (t:=76) rfl (fun hneg=>?_) (fun hpos=>?_)
          · refine O.guard_f rfl rfl rfl rfl ?_
            refine O.guard_f rfl rfl rfl rfl ?_
            refine O.guard_f rfl rfl rfl rfl ?_
            refine O.ex (Ex.pick_t rfl rfl) rfl ?_
            refine O.nil ?_
            refine hK25 _ _ _ ?_
            refine W.cond_t rfl ?_
            refine W.seq (fun K26 hK26=>?_)
            refine W.region ?_
            refine O.ex (Ex.move rfl) rfl ?_
            refine O.ex (Ex.assign rfl) rfl ?_
            refine O.nil ?_
            refine hK26 _ _ _ ?_
            refine W.region ?_
            refine O.ex (Ex.move rfl) rfl ?_
            refine O.ex (Ex.assign rfl) rfl ?_
            refine O.nil ?_
            refine hK21 _ _ _ ?_
            refine W.region ?_
            refine O.ex (Ex.move rfl) rfl ?_
            refine O.ex (by first|exact Ex.addI rfl rfl|exact Ex.add rfl rfl rfl) rfl ?_
            refine O.ex (Ex.assign rfl) rfl ?_
            refine O.nil ?_
            have hcv : ((needN n x.c (v : Int) settles : Nat) : Int) - ((arC x.c (v : Int) n.toNat 2 : Nat) : Int) + x.gone.getD v default = cst v:=by rw [hcst]; rfl
            first
            | (have hf : x.left.testBit v = false:=by simpa using hnl
               have e:=fil_f hf
               exact ⟨v + 1,⟨rfl,rfl,rfl,rfl,rfl,rfl,rfl,by rw [e,← hb]; rfl,by rw [e,← hb]; rfl,rfl,trivial⟩,⟨rfl,by omega,Holds.to (by assumption)⟩,by omega⟩)
            | (have ht : x.left.testBit v = true:=by simpa using hyl
               have e : ls cst ((List.range (v + 1)).filter x.left.testBit) = some (v,cst v):=by rw [fil_t ht,ls_snoc,← hb]; exact lsS_a hneg
               exact ⟨v + 1,⟨rfl,rfl,rfl,rfl,rfl,rfl,rfl,by rw [e]; rfl,by rw [e,← hcv]; rfl,rfl,trivial⟩,⟨rfl,by omega,Holds.to (by assumption)⟩,by omega⟩)
            | (have ht : x.left.testBit v = true:=by simpa using hyl
               have e : ls cst ((List.range (v + 1)).filter x.left.testBit) = some (v,cst v):=by rw [fil_t ht,ls_snoc,← hb]; exact lsS_b hpos (by rw [← hcv]; exact hlow)
               exact ⟨v + 1,⟨rfl,rfl,rfl,rfl,rfl,rfl,rfl,by rw [e]; rfl,by rw [e,← hcv]; rfl,rfl,trivial⟩,⟨rfl,by omega,Holds.to (by assumption)⟩,by omega⟩)
            | (have ht : x.left.testBit v = true:=by simpa using hyl
               have e : ls cst ((List.range (v + 1)).filter x.left.testBit) = b:=by rw [fil_t ht,ls_snoc,← hb]; exact lsS_c hpos (by rw [← hcv]; exact hnlow)
               exact ⟨v + 1,⟨rfl,rfl,rfl,rfl,rfl,rfl,rfl,by rw [e]; rfl,by rw [e]; rfl,rfl,trivial⟩,⟨rfl,by omega,Holds.to (by assumption)⟩,by omega⟩)
          · refine O.guard_t rfl rfl ?_
            refine O.ex (Ex.move rfl) rfl ?_
            refine O.guard_t rfl rfl ?_
            refine O.ex (Ex.move rfl) rfl ?_
            refine O.guard_t rfl rfl ?_
            refine O.ex (Ex.lss rfl rfl) rfl ?_
            refine O.ex (Ex.pick_f rfl rfl) rfl ?_
            refine O.nil ?_
            refine hK25 _ _ _ ?_
            first|refine W.cond_p rfl (fun hlow=>?_) (fun hnlow=>?_)|refine W.cond_b rfl (fun hlow=>?_) (fun hnlow=>?_)
            · refine W.seq (fun K27 hK27=>?_)
              refine W.region ?_
              refine O.ex (Ex.move rfl) rfl ?_
              refine O.ex (Ex.assign rfl) rfl ?_
              refine O.nil ?_
              refine hK27 _ _ _ ?_
              refine W.region ?_
              refine O.ex (Ex.move rfl) rfl ?_
              refine O.ex (Ex.assign rfl) rfl ?_
              refine O.nil ?_
              refine hK21 _ _ _ ?_
              refine W.region ?_
              refine O.ex (Ex.move rfl) rfl ?_
              refine O.ex (by first|exact Ex.addI rfl rfl|exact Ex.add rfl rfl rfl) rfl ?_
              refine O.ex (Ex.assign rfl) rfl ?_
              refine O.nil ?_
              have hcv : ((needN n x.c (v : Int) settles : Nat) : Int) - ((arC x.c (v : Int) n.toNat 2 : Nat) : Int) + x.gone.getD v default = cst v:=by rw [hcst]; rfl
              first
              | (have hf : x.left.testBit v = false:=by simpa using hnl
                 have e:=fil_f hf
                 exact ⟨v + 1,⟨rfl,rfl,rfl,rfl,rfl,rfl,rfl,by rw [e,← hb]; rfl,by rw [e,← hb]; rfl,rfl,trivial⟩,⟨rfl,by omega,Holds.to (by assumption)⟩,by omega⟩)
              | (have ht : x.left.testBit v = true:=by simpa using hyl
                 have e : ls cst ((List.range (v + 1)).filter x.left.testBit) = some (v,cst v):=by rw [fil_t ht,ls_snoc,← hb]; exact lsS_a hneg
                 exact ⟨v + 1,⟨rfl,rfl,rfl,rfl,rfl,rfl,rfl,by rw [e]; rfl,by rw [e,← hcv]; rfl,rfl,trivial⟩,⟨rfl,by omega,Holds.to (by assumption)⟩,by omega⟩)
              | (have ht : x.left.testBit v = true:=by simpa using hyl
                 have e : ls cst ((List.range (v + 1)).filter x.left.testBit) = some (v,cst v):=by rw [fil_t ht,ls_snoc,← hb]; exact lsS_b hpos (by rw [← hcv]; exact hlow)
                 exact ⟨v + 1,⟨rfl,rfl,rfl,rfl,rfl,rfl,rfl,by rw [e]; rfl,by rw [e,← hcv]; rfl,rfl,trivial⟩,⟨rfl,by omega,Holds.to (by assumption)⟩,by omega⟩)
              | (have ht : x.left.testBit v = true:=by simpa using hyl
                 have e : ls cst ((List.range (v + 1)).filter x.left.testBit) = b:=by rw [fil_t ht,ls_snoc,← hb]; exact lsS_c hpos (by rw [← hcv]; exact hnlow)
                 exact ⟨v + 1,⟨rfl,rfl,rfl,rfl,rfl,rfl,rfl,by rw [e]; rfl,by rw [e]; rfl,rfl,trivial⟩,⟨rfl,by omega,Holds.to (by assumption)⟩,by omega⟩)
            · refine W.skip ?_
              refine hK21 _ _ _ ?_
              refine W.region ?_
              refine O.ex (Ex.move rfl) rfl ?_
              refine O.ex (by first|exact Ex.addI rfl rfl|exact Ex.add rfl rfl rfl) rfl ?_
              refine O.ex (Ex.assign rfl) rfl ?_
              refine O.nil ?_
              have hcv : ((needN n x.c (v : Int) settles : Nat) : Int) - ((arC x.c (v : Int) n.toNat 2 : Nat) : Int) + x.gone.getD v default = cst v:=by rw [hcst]; rfl
              first
              | (have hf : x.left.testBit v = false:=by simpa using hnl
                 have e:=fil_f hf
                 exact ⟨v + 1,⟨rfl,rfl,rfl,rfl,rfl,rfl,rfl,by rw [e,← hb]; rfl,by rw [e,← hb]; rfl,rfl,trivial⟩,⟨rfl,by omega,Holds.to (by assumption)⟩,by omega⟩)
              | (have ht : x.left.testBit v = true:=by simpa using hyl
                 have e : ls cst ((List.range (v + 1)).filter x.left.testBit) = some (v,cst v):=by rw [fil_t ht,ls_snoc,← hb]; exact lsS_a hneg
                 exact ⟨v + 1,⟨rfl,rfl,rfl,rfl,rfl,rfl,rfl,by rw [e]; rfl,by rw [e,← hcv]; rfl,rfl,trivial⟩,⟨rfl,by omega,Holds.to (by assumption)⟩,by omega⟩)
              | (have ht : x.left.testBit v = true:=by simpa using hyl
                 have e : ls cst ((List.range (v + 1)).filter x.left.testBit) = some (v,cst v):=by rw [fil_t ht,ls_snoc,← hb]; exact lsS_b hpos (by rw [← hcv]; exact hlow)
                 exact ⟨v + 1,⟨rfl,rfl,rfl,rfl,rfl,rfl,rfl,by rw [e]; rfl,by rw [e,← hcv]; rfl,rfl,trivial⟩,⟨rfl,by omega,Holds.to (by assumption)⟩,by omega⟩)
              | (have ht : x.left.testBit v = true:=by simpa using hyl
                 have e : ls cst ((List.range (v + 1)).filter x.left.testBit) = b:=by rw [fil_t ht,ls_snoc,← hb]; exact lsS_c hpos (by rw [← hcv]; exact hnlow)
                 exact ⟨v + 1,⟨rfl,rfl,rfl,rfl,rfl,rfl,rfl,by rw [e]; rfl,by rw [e]; rfl,rfl,trivial⟩,⟨rfl,by omega,Holds.to (by assumption)⟩,by omega⟩)
      · refine W.exit ?_
        refine hK17 _ _ _ ?_
        refine W.seq (fun K28 hK28=>?_)
        refine W.region ?_
        have hvv : v = n.toNat:=by omega
        have hbe : lsI b = (p : Int):=by rw [hb,hvv,← hlr,hlo]; rfl
        rw [hbe]
        have p0 : (0 : Int) ≤ (p : Int):=by omega
        have pt_ : ((p : Nat) : Int).toNat = p:=Int.toNat_natCast p
        have p1 : (p : Int) < ((x.out.length : Nat) : Int):=by rw [ok.ol]; omega
        have p2 : (p : Int) < ((((List.range n.toNat).map x.left.testBit).length : Nat) : Int):=by rw [hll]; omega
        refine O.ex (Ex.move rfl) rfl ?_
        refine O.ex (Ex.move rfl) rfl ?_
        refine O.ex (Ex.move rfl) rfl ?_
        refine O.ex (by first|exact Ex.idxR Tryz.runUnderlying28 Tryz.sizeOf3 rfl rfl|exact Ex.idxIn Tryz.runUnderlying28 Tryz.sizeOf3 rfl rfl|exact Ex.idxS Tryz.runUnderlying28 Tryz.sizeOf3 rfl rfl|exact Ex.idx Tryz.runUnderlying28 Tryz.sizeOf3 rfl rfl (by omega) (by omega)) rfl ?_
        first|refine O.storeP Tryz.sizeOf3 rfl rfl (fun w H=>?_)|refine O.storeR Tryz.sizeOf3 rfl rfl (fun w H=>?_)|refine O.storeM Tryz.sizeOf3 rfl rfl (fun w H=>?_)|refine O.storeVc Tryz.sizeOf3 rfl rfl (fun w H=>?_)|refine O.storeQ Tryz.sizeOf3 rfl rfl (fun w H=>?_)
        refine O.nil ?_
        refine hK28 _ _ _ ?_
        refine W.seq (fun K29 hK29=>?_)
        refine W.region ?_
        refine O.ex (Ex.move rfl) rfl ?_
        refine O.ex (Ex.move rfl) rfl ?_
        refine O.ex (by first|exact Ex.idxR Tryz.runUnderlying74 Tryz.sizeOf4 rfl rfl|exact Ex.idxIn Tryz.runUnderlying74 Tryz.sizeOf4 rfl rfl|exact Ex.idxS Tryz.runUnderlying74 Tryz.sizeOf4 rfl rfl|exact Ex.idx Tryz.runUnderlying74 Tryz.sizeOf4 rfl rfl (by omega) (by omega)) rfl ?_
        first|refine O.storeP Tryz.sizeOf4 rfl rfl (fun w H=>?_)|refine O.storeR Tryz.sizeOf4 rfl rfl (fun w H=>?_)|refine O.storeM Tryz.sizeOf4 rfl rfl (fun w H=>?_)|refine O.storeVc Tryz.sizeOf4 rfl rfl (fun w H=>?_)|refine O.storeQ Tryz.sizeOf4 rfl rfl (fun w H=>?_)
        rw [pt_,left_out (by omega) hpn] at H
        refine O.nil ?_
        refine hK29 _ _ _ ?_
        refine W.seq (fun K30 hK30=>?_)
        refine W.seq (fun K31 hK31=>?_)
        refine W.region ?_
        refine O.ex (Ex.assign rfl) rfl ?_
        refine O.nil ?_
        refine hK31 _ _ _ ?_
        refine W.block ?_
        obtain ⟨S,hS⟩ : ∃ S,S = lst (arS x.c (p : Int) n.toNat 2):=⟨_,rfl⟩
        have H3 : Holds w (Rh m n x.c::arr 3 (Value.int .i64) s22 (x.out.set p (k : Int))::arr 4 Value.bool s27 ((List.range n.toNat).map (x.left &&& (18446744073709551615 - bitN ((p : Nat) : Int))).testBit)::arr 3 (Value.int .i64) s32 (bumpN S x.gone 0)::base w0::Rg r n most s::L):=by
          rw [bumpN_zero]; exact Holds.to H
        refine W.loop (σ:=Nat) (fun q=>[(0,.pointer (some ⟨r,0,none⟩)),(1,.int .i64 settles),(5,.pointer (some ⟨m,0,none⟩)),(6,s22),(7,s27),(8,s32),(10,.int .i64 (k : Int)),(11,.int .i64 (p : Int)),(15,.int .i64 (q : Int))]) (fun q ds w=>ds = [] ∧ (q : Int) ≤ n ∧ Holds w (Rh m n x.c::arr 3 (Value.int .i64) s22 (x.out.set p (k : Int))::arr 4 Value.bool s27 ((List.range n.toNat).map (x.left &&& (18446744073709551615 - bitN ((p : Nat) : Int))).testBit)::arr 3 (Value.int .i64) s32 (bumpN S x.gone q)::base w0::Rg r n most s::L)) (fun q=>n.toNat - q) 0 ⟨rfl,rfl,rfl,rfl,rfl,rfl,rfl,rfl,rfl,trivial⟩ ⟨rfl,by omega,H3⟩ ?_
        clear H H3
        rintro q _ w ⟨rfl,hq,H⟩
        refine W.seq (fun K32 hK32=>?_)
        refine W.seq (fun K33 hK33=>?_)
        refine W.region ?_
        refine O.ex (Ex.move rfl) rfl ?_
        refine O.ex (Ex.move rfl) rfl ?_
        refine O.ex (by first|exact Ex.nilPtr rfl|exact Ex.nilFunc rfl|exact Ex.nilYield rfl) rfl ?_
        refine O.ex (by first|exact Ex.field0 fld41_0 rfl|exact Ex.field fld41_0 rfl|exact Ex.fieldS fld41_0 rfl|exact Ex.fieldIn fld41_0 rfl) rfl ?_
        refine O.ex (Ex.loadRN Tryz.isAgg3 rfl (Holds.to (M:=Rg r n most s::[]) (by assumption))) rfl ?_
        refine O.ex (Ex.lss rfl rfl) rfl ?_
        refine O.nil ?_
        refine hK33 _ _ _ ?_
        first|refine W.cond_p rfl (fun hltq=>?_) (fun hgeq=>?_)|refine W.cond_b rfl (fun hltq=>?_) (fun hgeq=>?_)
        · refine W.skip ?_
          refine hK32 _ _ _ ?_
          refine W.seq (fun K34 hK34=>?_)
          refine W.block ?_
          refine W.seq (fun K35 hK35=>?_)
          refine W.region ?_
          have hqn : (q : Int) < n:=hltq
          have hqN : q < n.toNat:=by omega
          have q0 : (0 : Int) ≤ (q : Int):=by omega
          have qt : ((q : Nat) : Int).toNat = q:=Int.toNat_natCast q
          have hqg : q < x.gone.length:=by rw [ok.gl]; exact hqN
          have hbl : (bumpN S x.gone q).length = x.gone.length:=bumpN_len _ _ _
          have q1 : (q : Int) < (((bumpN S x.gone q).length : Nat) : Int):=by rw [hbl]; omega
          have hgq:=ok.gb q
          have hbg:=bumpN_get S x.gone hqg
          have hl1:=sl_le (fun y=>x.c (p : Int) y) n.toNat
          have hl2:=sl_le (fun y=>x.c y (p : Int)) n.toNat
          have hSm : q ∈ S ↔ (x.c (p : Int) (q : Int) ≠ 4611686018427387906 ∨ x.c (q : Int) (p : Int) ≠ 4611686018427387906):=by rw [hS]; exact ar_mem x.c (by omega) hqN
          refine O.ex (Ex.move rfl) rfl ?_
          refine O.ex (Ex.move rfl) rfl ?_
          refine O.callF Tryz.call33 rfl rfl (CT.mono (refStepsf_ct (r:=m) (v:=(p : Int)) ok.good (Holds.to (M:=Rh m n x.c::_) (by assumption))) ?_)
          rintro _ w ⟨hx1_,H⟩
          refine O.ex (Ex.move rfl) rfl ?_
          refine O.callF Tryz.call32 rfl rfl (CT.mono (has14_ct (xs:=sl (fun y=>x.c (p : Int) y) n.toNat) (x:=(q : Int)) (by omega) (Holds.to (by assumption))) ?_)
          rintro _ w ⟨rfl,H⟩
          refine O.ex (Ex.move rfl) rfl ?_
          first|refine O.split_p (t:=103) rfl (fun hin1=>?_) (fun hout1=>?_)|refine O.split (t:=103) rfl (fun hin1=>?_) (fun hout1=>?_)
          · refine O.guard_f rfl rfl rfl rfl ?_
            refine O.guard_f rfl rfl rfl rfl ?_
            refine O.guard_f rfl rfl rfl rfl ?_
            refine O.guard_f rfl rfl rfl rfl ?_
            refine O.guard_f rfl rfl rfl rfl ?_
            refine O.ex (Ex.pick_t rfl rfl) rfl ?_
            refine O.nil ?_
            refine hK35 _ _ _ ?_
            refine W.cond_t rfl ?_
            refine W.region ?_
            refine O.ex (Ex.move rfl) rfl ?_
            refine O.ex (Ex.move rfl) rfl ?_
            refine O.ex (by first|exact Ex.idxR Tryz.runUnderlying28 Tryz.sizeOf3 rfl rfl|exact Ex.idxIn Tryz.runUnderlying28 Tryz.sizeOf3 rfl rfl|exact Ex.idxS Tryz.runUnderlying28 Tryz.sizeOf3 rfl rfl|exact Ex.idx Tryz.runUnderlying28 Tryz.sizeOf3 rfl rfl (by omega) (by omega)) rfl ?_
            refine O.ex (Ex.cast (v:=.int .i64 (x.gone.getD q default)) (Ex.loadR (xs:=bumpN S x.gone q) Tryz.isAgg3 rfl) (by rw [qt,hbg])) rfl ?_
            refine O.ex (by first|exact Ex.addI rfl rfl|exact Ex.add rfl rfl rfl) rfl ?_
            refine O.ex (by first|exact Ex.idxR Tryz.runUnderlying28 Tryz.sizeOf3 rfl rfl|exact Ex.idxIn Tryz.runUnderlying28 Tryz.sizeOf3 rfl rfl|exact Ex.idxS Tryz.runUnderlying28 Tryz.sizeOf3 rfl rfl|exact Ex.idx Tryz.runUnderlying28 Tryz.sizeOf3 rfl rfl (by omega) (by omega)) rfl ?_
            first|refine O.storeP Tryz.sizeOf3 rfl rfl (fun w H=>?_)|refine O.storeR Tryz.sizeOf3 rfl rfl (fun w H=>?_)|refine O.storeM Tryz.sizeOf3 rfl rfl (fun w H=>?_)|refine O.storeVc Tryz.sizeOf3 rfl rfl (fun w H=>?_)|refine O.storeQ Tryz.sizeOf3 rfl rfl (fun w H=>?_)
            refine O.nil ?_
            refine hK34 _ _ _ ?_
            refine W.region ?_
            refine O.ex (Ex.move rfl) rfl ?_
            refine O.ex (by first|exact Ex.addI rfl rfl|exact Ex.add rfl rfl rfl) rfl ?_
            refine O.ex (Ex.assign rfl) rfl ?_
            refine O.nil ?_
            first
            | (have hm : q ∈ S:=hSm.2 (by
                 first
                 | exact .inl ((mem_sl (g:=fun y=>x.c (p : Int) y)).1 hin1).2
                 | exact .inr ((mem_sl (g:=fun y=>x.c y (p : Int))).1 hin2).2)
               rw [qt,bumpN_in hqg hm] at H
               exact ⟨q + 1,⟨rfl,rfl,rfl,rfl,rfl,rfl,rfl,rfl,rfl,trivial⟩,⟨rfl,by omega,Holds.to (by assumption)⟩,by omega⟩)
            | (have hm : q ∉ S:=fun h=>by
                 rcases hSm.1 h with h|h
                 · exact hout1 ((mem_sl (g:=fun y=>x.c (p : Int) y)).2 ⟨hqN,h⟩)
                 · exact hout2 ((mem_sl (g:=fun y=>x.c y (p : Int))).2 ⟨hqN,h⟩)
               rw [bumpN_out hm] at H
               exact ⟨q + 1,⟨rfl,rfl,rfl,rfl,rfl,rfl,rfl,rfl,rfl,trivial⟩,⟨rfl,by omega,Holds.to (by assumption)⟩,by omega⟩)
          · refine O.guard_t rfl rfl ?_
            refine O.ex (Ex.move rfl) rfl ?_
            refine O.guard_t rfl rfl ?_
            refine O.ex (Ex.move rfl) rfl ?_
            refine O.guard_t rfl rfl ?_
            refine O.callF Tryz.call33 rfl rfl (CT.mono (refStepst_ct (r:=m) (v:=(p : Int)) ok.good (Holds.to (M:=Rh m n x.c::_) (by assumption))) ?_)
            rintro _ w ⟨hx2_,H⟩
            refine O.guard_t rfl rfl ?_
            refine O.ex (Ex.move rfl) rfl ?_
            refine O.guard_t rfl rfl ?_
            refine O.callF Tryz.call32 rfl rfl (CT.mono (has14_ct (xs:=sl (fun y=>x.c y (p : Int)) n.toNat) (x:=(q : Int)) (by omega) (Holds.to (by assumption))) ?_)
            rintro _ w ⟨rfl,H⟩
            refine O.ex (Ex.pick_f rfl rfl) rfl ?_
            refine O.nil ?_
            refine hK35 _ _ _ ?_
            first|refine W.cond_p rfl (fun hin2=>?_) (fun hout2=>?_)|refine W.cond_b rfl (fun hin2=>?_) (fun hout2=>?_)
            · refine W.region ?_
              refine O.ex (Ex.move rfl) rfl ?_
              refine O.ex (Ex.move rfl) rfl ?_
              refine O.ex (by first|exact Ex.idxR Tryz.runUnderlying28 Tryz.sizeOf3 rfl rfl|exact Ex.idxIn Tryz.runUnderlying28 Tryz.sizeOf3 rfl rfl|exact Ex.idxS Tryz.runUnderlying28 Tryz.sizeOf3 rfl rfl|exact Ex.idx Tryz.runUnderlying28 Tryz.sizeOf3 rfl rfl (by omega) (by omega)) rfl ?_
              refine O.ex (Ex.cast (v:=.int .i64 (x.gone.getD q default)) (Ex.loadR (xs:=bumpN S x.gone q) Tryz.isAgg3 rfl) (by rw [qt,hbg])) rfl ?_
              refine O.ex (by first|exact Ex.addI rfl rfl|exact Ex.add rfl rfl rfl) rfl ?_
              refine O.ex (by first|exact Ex.idxR Tryz.runUnderlying28 Tryz.sizeOf3 rfl rfl|exact Ex.idxIn Tryz.runUnderlying28 Tryz.sizeOf3 rfl rfl|exact Ex.idxS Tryz.runUnderlying28 Tryz.sizeOf3 rfl rfl|exact Ex.idx Tryz.runUnderlying28 Tryz.sizeOf3 rfl rfl (by omega) (by omega)) rfl ?_
              first|refine O.storeP Tryz.sizeOf3 rfl rfl (fun w H=>?_)|refine O.storeR Tryz.sizeOf3 rfl rfl (fun w H=>?_)|refine O.storeM Tryz.sizeOf3 rfl rfl (fun w H=>?_)|refine O.storeVc Tryz.sizeOf3 rfl rfl (fun w H=>?_)|refine O.storeQ Tryz.sizeOf3 rfl rfl (fun w H=>?_)
              refine O.nil ?_
              refine hK34 _ _ _ ?_
              refine W.region ?_
              refine O.ex (Ex.move rfl) rfl ?_
              refine O.ex (by first|exact Ex.addI rfl rfl|exact Ex.add rfl rfl rfl) rfl ?_
              refine O.ex (Ex.assign rfl) rfl ?_
              refine O.nil ?_
              first
              | (have hm : q ∈ S:=hSm.2 (by
                   first
                   | exact .inl ((mem_sl (g:=fun y=>x.c (p : Int) y)).1 hin1).2
                   | exact .inr ((mem_sl (g:=fun y=>x.c y (p : Int))).1 hin2).2)
                 rw [qt,bumpN_in hqg hm] at H
                 exact ⟨q + 1,⟨rfl,rfl,rfl,rfl,rfl,rfl,rfl,rfl,rfl,trivial⟩,⟨rfl,by omega,Holds.to (by assumption)⟩,by omega⟩)
              | (have hm : q ∉ S:=fun h=>by
                   rcases hSm.1 h with h|h
                   · exact hout1 ((mem_sl (g:=fun y=>x.c (p : Int) y)).2 ⟨hqN,h⟩)
                   · exact hout2 ((mem_sl (g:=fun y=>x.c y (p : Int))).2 ⟨hqN,h⟩)
                 rw [bumpN_out hm] at H
                 exact ⟨q + 1,⟨rfl,rfl,rfl,rfl,rfl,rfl,rfl,rfl,rfl,trivial⟩,⟨rfl,by omega,Holds.to (by assumption)⟩,by omega⟩)
            · refine W.skip ?_
              refine hK34 _ _ _ ?_
              refine W.region ?_
              refine O.ex (Ex.move rfl) rfl ?_
              refine O.ex (by first|exact Ex.addI rfl rfl|exact Ex.add rfl rfl rfl) rfl ?_
              refine O.ex (Ex.assign rfl) rfl ?_
              refine O.nil ?_
              first
              | (have hm : q ∈ S:=hSm.2 (by
                   first
                   | exact .inl ((mem_sl (g:=fun y=>x.c (p : Int) y)).1 hin1).2
                   | exact .inr ((mem_sl (g:=fun y=>x.c y (p : Int))).1 hin2).2)
                 rw [qt,bumpN_in hqg hm] at H
                 exact ⟨q + 1,⟨rfl,rfl,rfl,rfl,rfl,rfl,rfl,rfl,rfl,trivial⟩,⟨rfl,by omega,Holds.to (by assumption)⟩,by omega⟩)
              | (have hm : q ∉ S:=fun h=>by
                   rcases hSm.1 h with h|h
                   · exact hout1 ((mem_sl (g:=fun y=>x.c (p : Int) y)).2 ⟨hqN,h⟩)
                   · exact hout2 ((mem_sl (g:=fun y=>x.c y (p : Int))).2 ⟨hqN,h⟩)
                 rw [bumpN_out hm] at H
                 exact ⟨q + 1,⟨rfl,rfl,rfl,rfl,rfl,rfl,rfl,rfl,rfl,trivial⟩,⟨rfl,by omega,Holds.to (by assumption)⟩,by omega⟩)
        · refine W.exit ?_
          refine hK30 _ _ _ ?_
          refine W.region ?_
          have hqq : q = x.gone.length:=by rw [ok.gl]; omega
          rw [hqq,bumpN_all] at H
          refine O.ex (Ex.move rfl) rfl ?_
          refine O.ex (Ex.move rfl) rfl ?_
          refine O.callF Tryz.call34 rfl rfl (CT.mono (refContract_ct (m:=m) (v:=(p : Int)) ok.good (by omega) (by omega) (Holds.to (M:=Rh m n x.c::_) (by assumption))) ?_)
          rintro _ w ⟨rfl,H⟩
          refine O.nil ?_
          refine hK14 _ _ _ ?_
          refine W.region ?_
          refine O.ex (Ex.move rfl) rfl ?_
          refine O.ex (by first|exact Ex.addI rfl rfl|exact Ex.add rfl rfl rfl) rfl ?_
          refine O.ex (Ex.assign rfl) rfl ?_
          refine O.nil ?_
          have eS : rkStep n settles k x = ⟨contrC n x.c (p : Nat),x.left &&& (18446744073709551615 - bitN ((p : Nat) : Int)),bump S x.gone,x.out.set p (k : Int)⟩:=by unfold rkStep; rw [← hp,← hS]
          exact ⟨k + 1,⟨rfl,rfl,rfl,rfl,rfl,rfl,rfl,trivial⟩,⟨rfl,by omega,by rw [hx1,eS]; exact Holds.to (by assumption)⟩,by omega⟩
    · refine W.exit ?_
      refine hK10 _ _ _ ?_
      refine W.seq (fun K36 hK36=>?_)
      refine W.region ?_
      refine O.ex (Ex.move rfl) rfl ?_
      refine O.ex (Ex.assign rfl) rfl ?_
      refine O.nil ?_
      refine hK36 _ _ _ ?_
      refine W.ret ?_
      try dsimp only [thenQ,blockQ,retQ]
      first|refine ⟨_,⟨_,_,rfl,rfl,rfl⟩,?_⟩|(refine retD_mark ?_; intro w H; refine ⟨_,⟨_,_,rfl,rfl,rfl⟩,?_⟩)|(refine retD_mark2 ?_; intro w H; refine ⟨_,⟨_,_,rfl,rfl,rfl⟩,?_⟩)
      have hkn : k = n.toNat:=by omega
      have e : (rr k).out = rankF n settles (cG s):=by rw [hrr,hkn]; rfl
      rw [e] at H
      exact ⟨arr_one (e:=Value.int .i64) (Holds.to (M:=arr 3 (Value.int .i64) s22 (rankF n settles (cG s))::[]) H),Holds.to (by assumption)⟩
end Go.Proofs.YtblapiiinbppiaaGreatDoor
