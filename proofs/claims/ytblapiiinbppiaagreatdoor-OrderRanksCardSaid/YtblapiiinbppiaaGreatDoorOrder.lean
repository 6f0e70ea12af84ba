import Derived.Test.YtblapiiinbppiaaGreatDoorWitB
import Derived.Test.YtblapiiinbppiaaGreatDoorMeshPuts
namespace Go.Proofs.YtblapiiinbppiaaGreatDoor
open Go.Rr Go Hp Wt
set_option linter.unusedVariables false
/-- A detour is spared. -/
def sp (n : Int) (c : Int → Int → Int) (u v x settles : Int) : Prop:=∃ j,to n.toNat c u.toNat (bitN v) settles (two (c u v) (c v x)) j ∧ stopP n.toNat c u.toNat (bitN v) settles (two (c u v) (c v x)) j ∧ x ∈ (st n.toNat c u.toNat (bitN v) j).map Prod.fst
noncomputable def spB (n : Int) (c : Int → Int → Int) (u v x settles : Int) : Bool:=@decide (sp n c u v x settles) (Classical.propDecidable _)
theorem spB_eq {n : Int} {c : Int → Int → Int} {u v x settles : Int} {j : Nat} (h1 : to n.toNat c u.toNat (bitN v) settles (two (c u v) (c v x)) j) (h2 : stopP n.toNat c u.toNat (bitN v) settles (two (c u v) (c v x)) j) :
    decide (x ∈ (st n.toNat c u.toNat (bitN v) j).map Prod.fst) = spB n c u v x settles:=by
  unfold spB
  refine decide_eq_decide.2 ⟨fun h=>⟨j,h1,h2,h⟩,fun ⟨i,a,b,h⟩=>?_⟩
  rw [to_uniq h1 h2 a b]; exact h
theorem memInn {c : Int → Int → Int} {v u a : Int} {x : LinkM} : ∀ {k : Nat},x ∈ inn c v u a k → ∃ j : Nat,j < k ∧ (x.t = u ∧ x.h = (j : Int)) ∧ c v (j : Int) ≠ 4611686018427387906 ∧ u ≠ (j : Int)
  | 0,h=>by cases h
  | k + 1,h=>by
    unfold inn at h
    split at h
    · rename_i hc
      rcases List.mem_append.1 h with h|h
      · obtain ⟨j,h1,h2⟩:=memInn h; exact ⟨j,by omega,h2⟩
      · rw [List.mem_singleton.1 h]; exact ⟨k,by omega,⟨rfl,rfl⟩,hc⟩
    · obtain ⟨j,h1,h2⟩:=memInn h; exact ⟨j,by omega,h2⟩
theorem memOutL {n : Nat} {c : Int → Int → Int} {v : Int} {x : LinkM} : ∀ {k : Nat},x ∈ outL n c v k → ∃ i : Nat,i < k ∧ c (i : Int) v ≠ 4611686018427387906 ∧ x ∈ inn c v (i : Int) (c (i : Int) v) n
  | 0,h=>by cases h
  | k + 1,h=>by
    unfold outL at h
    split at h
    · rename_i hc
      rcases List.mem_append.1 h with h|h
      · obtain ⟨j,h1,h2⟩:=memOutL h; exact ⟨j,by omega,h2⟩
      · exact ⟨k,by omega,hc,h⟩
    · obtain ⟨j,h1,h2⟩:=memOutL h; exact ⟨j,by omega,h2⟩
theorem det_three {n : Int} {c : Int → Int → Int} {v : Int} {x : LinkM} (hg : Good n c) (h : x ∈ detL n c v) : three n x.t v x.h:=by
  have n1:=hg.n1
  obtain ⟨i,hi,hci,h⟩:=memOutL h
  obtain ⟨j,hj,⟨e1,e2⟩,hcj,hne⟩:=memInn h
  have hv : 0 ≤ v ∧ v < n:=by
    by_cases hv : 0 ≤ v ∧ v < n
    · exact hv
    · exact absurd (hg.out (i : Int) v (by omega)) hci
  rw [e1,e2]
  refine ⟨⟨⟨by omega,by omega⟩,hv,by omega,by omega⟩,fun e=>?_,fun e=>?_,fun e=>hne e.symm⟩
  · rw [e,hg.dg] at hci; exact hci rfl
  · rw [e,hg.dg] at hcj; exact hcj rfl
/-- How many detours aren't spared, of the first i. -/
noncomputable def needT (n : Int) (c : Int → Int → Int) (v settles : Int) (i : Nat) : Nat:=(((detL n c v).take i).filter fun d=>!spB n c d.t v d.h settles).length
noncomputable def needN (n : Int) (c : Int → Int → Int) (v settles : Int) : Nat:=((detL n c v).filter fun d=>!spB n c d.t v d.h settles).length
theorem needT_all (n : Int) (c : Int → Int → Int) (v settles : Int) : needT n c v settles (detL n c v).length = needN n c v settles:=by unfold needT needN; rw [List.take_length]
theorem take_getK (xs : List LinkM) {i : Nat} (h : i < xs.length) : xs.take (i + 1) = xs.take i ++ [xs.getD i default]:=by
  rw [List.take_succ_eq_append_getElem h]; simp [List.getD_eq_getElem?_getD,h]
theorem needT_succ {n : Int} {c : Int → Int → Int} {v settles : Int} {i : Nat} (h : i < (detL n c v).length) : needT n c v settles (i + 1) = needT n c v settles i + if spB n c ((detL n c v).getD i default).t v ((detL n c v).getD i default).h settles = true then 0 else 1:=by
  unfold needT
  rw [take_getK _ h,List.filter_append,List.length_append]
  congr 1
  by_cases e : spB n c ((detL n c v).getD i default).t v ((detL n c v).getD i default).h settles = true
  · rw [if_pos e,List.filter_cons_of_neg (by simp only [e]; decide)]; rfl
  · rw [if_neg e,List.filter_cons_of_pos (by simpa using e)]; rfl
theorem needT_le (n : Int) (c : Int → Int → Int) (v settles : Int) (i : Nat) : needT n c v settles i ≤ i:=by
  unfold needT
  have h1:=List.length_filter_le (fun d : LinkM=>!spB n c d.t v d.h settles) ((detL n c v).take i)
  rw [List.length_take] at h1
  omega
theorem det_len {n : Int} {c : Int → Int → Int} (hg : Good n c) (v : Int) : (detL n c v).length ≤ 576:=by
  have h1:=outL_len n.toNat c v n.toNat
  have h2 : n.toNat * n.toNat ≤ 24 * 24:=Nat.mul_le_mul (by have:=hg.n2; omega) (by have:=hg.n2; omega)
  unfold detL; omega
theorem mem_getK {l : List LinkM} {i : Nat} (h : i < l.length) : l.getD i default ∈ l:=by
  rw [List.getD_eq_getElem?_getD,List.getElem?_eq_getElem h]; exact List.getElem_mem h
theorem spareB_ct {w : World} {m : Nat} {n u v x settles : Int} {c : Int → Int → Int} {L : List HProp} (hg : Good n c) (h3 : three n u v x) (H : Holds w (Mh m n c::L)) :
    CT Tryz.prog 42 [.pointer (some ⟨m,0,none⟩),.int .i64 u,.int .i64 v,.int .i64 x,.int .i64 settles] w fun y w'=>y = .tuple #[.bool (spB n c u v x settles),.int .i64 0] ∧ Holds w' (Mh m n c::L) :=
  CT.mono (spared_ct hg H) fun y w' hh=>by
    rcases hh with ⟨hno,-⟩|⟨-,j,h1,h2,rfl,H⟩
    · exact absurd h3 hno
    · rw [spB_eq h1 h2]; exact ⟨rfl,H⟩
theorem refSpareB_ct {w : World} {r : Nat} {n u v x settles : Int} {c : Int → Int → Int} {L : List HProp} (hg : Good n c) (h3 : three n u v x) (H : Holds w (Rh r n c::L)) :
    CT Tryz.prog 84 [.pointer (some ⟨r,0,none⟩),.int .i64 u,.int .i64 v,.int .i64 x,.int .i64 settles] w fun y w'=>y = .bool (spB n c u v x settles) ∧ Holds w' (Rh r n c::L) :=
  CT.mono (refSpared_ct hg h3 H) fun y w' hh=>by
    obtain ⟨j,h1,h2,rfl,H⟩:=hh
    rw [spB_eq h1 h2]; exact ⟨rfl,H⟩
set_option maxHeartbeats 1000000 in
theorem need_ct {w : World} {m : Nat} {n v settles : Int} {c : Int → Int → Int} {L : List HProp} (hg : Good n c) (H : Holds w (Mh m n c::L)) :
    CT Tryz.prog 15 [.pointer (some ⟨m,0,none⟩),.int .i64 v,.int .i64 settles] w fun y w'=>y = (if 0 ≤ v ∧ v < n then .tuple #[.int .i64 (needN n c v settles : Nat),.int .i64 0] else .tuple #[.int .i64 0,.int .i64 1]) ∧ Holds w' (Mh m n c::L):=by
  have n1:=hg.n1
  have hdl:=det_len hg v
  refine CT.enter (N:=46) Tryz.func15 rfl rfl rfl rfl ?_
  refine W.seq (fun K0 hK0=>?_)
  refine W.region ?_
  refine O.ex (Ex.assign rfl) rfl ?_
  refine O.ex (Ex.assign rfl) rfl ?_
  refine O.nil ?_
  refine hK0 _ _ _ ?_
  refine W.seq (fun K1 hK1=>?_)
  refine W.seq (fun K2 hK2=>?_)
  refine W.region ?_
  refine O.ex (Ex.move rfl) rfl ?_
  refine O.ex (Ex.lss rfl rfl) rfl ?_
  refine O.ex (Ex.move rfl) rfl ?_
  first|refine O.split_p (t:=15) rfl (fun h0=>?_) (fun h0=>?_)|refine O.split (t:=15) rfl (fun h0=>?_) (fun h0=>?_)
  · refine O.guard_f rfl rfl rfl rfl ?_
    refine O.guard_f rfl rfl rfl rfl ?_
    refine O.guard_f rfl rfl rfl rfl ?_
    refine O.guard_f rfl rfl rfl rfl ?_
    refine O.ex (Ex.pick_t rfl rfl) rfl ?_
    refine O.nil ?_
    refine hK2 _ _ _ ?_
    refine W.cond_t rfl ?_
    refine W.seq (fun K3 hK3=>?_)
    refine W.region ?_
    refine O.ex (Ex.assign rfl) rfl ?_
    refine O.ex (Ex.assign rfl) rfl ?_
    refine O.nil ?_
    refine hK3 _ _ _ ?_
    refine W.ret ?_
    try dsimp only [thenQ,blockQ,retQ]
    first|refine ⟨_,⟨_,_,rfl,rfl,_,_,rfl,rfl,rfl⟩,?_⟩|(refine retD_mark ?_; intro w H; refine ⟨_,⟨_,_,rfl,rfl,_,_,rfl,rfl,rfl⟩,?_⟩)|(refine retD_mark2 ?_; intro w H; refine ⟨_,⟨_,_,rfl,rfl,_,_,rfl,rfl,rfl⟩,?_⟩)
    first
    | (rw [if_neg (fun hh=>by omega)]; exact ⟨rfl,Holds.to (by assumption)⟩)
    | (obtain rfl : i = (detL n c v).length:=by omega
       rw [if_pos ⟨by omega,by omega⟩,← needT_all]
       exact ⟨rfl,Holds.to (by assumption)⟩)
  · refine O.guard_t rfl rfl ?_
    refine O.ex (Ex.move rfl) rfl ?_
    refine O.guard_t rfl rfl ?_
    refine O.ex (Ex.move rfl) rfl ?_
    refine O.guard_t rfl rfl ?_
    refine O.callF Tryz.call22 rfl rfl (CT.mono (vertices_ct (Holds.to (by assumption))) ?_)
    rintro _ w ⟨rfl,H⟩
    refine O.guard_t rfl rfl ?_
    refine O.ex (Ex.geq rfl rfl) rfl ?_
    refine O.ex (Ex.pick_f rfl rfl) rfl ?_
    refine O.nil ?_
    refine hK2 _ _ _ ?_
    first|refine W.cond_p rfl (fun h1=>?_) (fun h1=>?_)|refine W.cond_b rfl (fun h1=>?_) (fun h1=>?_)
    · refine W.seq (fun K4 hK4=>?_)
      refine W.region ?_
      refine O.ex (Ex.assign rfl) rfl ?_
      refine O.ex (Ex.assign rfl) rfl ?_
      refine O.nil ?_
      refine hK4 _ _ _ ?_
      refine W.ret ?_
      try dsimp only [thenQ,blockQ,retQ]
      first|refine ⟨_,⟨_,_,rfl,rfl,_,_,rfl,rfl,rfl⟩,?_⟩|(refine retD_mark ?_; intro w H; refine ⟨_,⟨_,_,rfl,rfl,_,_,rfl,rfl,rfl⟩,?_⟩)|(refine retD_mark2 ?_; intro w H; refine ⟨_,⟨_,_,rfl,rfl,_,_,rfl,rfl,rfl⟩,?_⟩)
      first
      | (rw [if_neg (fun hh=>by omega)]; exact ⟨rfl,Holds.to (by assumption)⟩)
      | (obtain rfl : i = (detL n c v).length:=by omega
         rw [if_pos ⟨by omega,by omega⟩,← needT_all]
         exact ⟨rfl,Holds.to (by assumption)⟩)
    · refine W.skip ?_
      refine hK1 _ _ _ ?_
      refine W.seq (fun K5 hK5=>?_)
      refine W.region ?_
      refine O.ex (Ex.assign rfl) rfl ?_
      refine O.nil ?_
      refine hK5 _ _ _ ?_
      refine W.seq (fun K6 hK6=>?_)
      refine W.seq (fun K7 hK7=>?_)
      refine W.region ?_
      refine O.ex (Ex.move rfl) rfl ?_
      refine O.ex (Ex.move rfl) rfl ?_
      refine O.callF Tryz.call41 rfl rfl (CT.mono (detours_ct hg (Holds.to (by assumption))) ?_)
      rintro _ w ⟨hx1,H⟩
      rename_i x
      refine O.ex (by first|exact Ex.lenN Tryz.runUnderlying94 rfl|exact Ex.lenIn Tryz.runUnderlying94 rfl|exact Ex.lenL Tryz.runUnderlying94 rfl|exact Ex.len rfl Tryz.runUnderlying94 rfl) rfl ?_
      refine O.ex (Ex.move rfl) rfl ?_
      refine O.nil ?_
      refine hK7 _ _ _ ?_
      refine W.block ?_
      refine W.loop (σ:=Nat) (fun i=>[(0,.pointer (some ⟨m,0,none⟩)),(1,.int .i64 v),(2,.int .i64 settles),(8,.int .i64 (needT n c v settles i : Nat)),(23,x),(24,.int .i64 ((detL n c v).length : Int)),(25,.int .i64 (i : Int))]) (fun i ds w=>ds = [] ∧ i ≤ (detL n c v).length ∧ Holds w (lks x (detL n c v)::Mh m n c::L)) (fun i=>(detL n c v).length - i) 0 ⟨rfl,rfl,rfl,rfl,rfl,rfl,rfl,trivial⟩ ⟨rfl,by omega,Holds.to (by assumption)⟩ ?_
      clear H
      rintro i _ w ⟨rfl,hi,H⟩
      refine W.seq (fun K8 hK8=>?_)
      refine W.region ?_
      refine O.ex (Ex.lss rfl rfl) rfl ?_
      refine O.nil ?_
      refine hK8 _ _ _ ?_
      refine W.seq (fun K9 hK9=>?_)
      first|refine W.cond_p rfl (fun hlt=>?_) (fun hge=>?_)|refine W.cond_b rfl (fun hlt=>?_) (fun hge=>?_)
      · refine W.skip ?_
        refine hK9 _ _ _ ?_
        refine W.seq (fun K10 hK10=>?_)
        refine W.block ?_
        refine W.seq (fun K11 hK11=>?_)
        refine W.region ?_
        have hil : i < (detL n c v).length:=by omega
        have hth:=det_three hg (mem_getK hil)
        have hns:=needT_succ (settles:=settles) hil
        have hnl:=needT_le n c v settles i
        refine O.ex (by first|exact Ex.idxN Tryz.runUnderlying94 Tryz.sizeOf99 rfl rfl|exact Ex.idxSN Tryz.runUnderlying94 Tryz.sizeOf99 rfl rfl|exact Ex.idxIn Tryz.runUnderlying94 Tryz.sizeOf99 rfl rfl|exact Ex.idx Tryz.runUnderlying94 Tryz.sizeOf99 rfl rfl (by omega) (by omega)) rfl ?_
        refine O.ex (by first|exact Ex.loadAggP Tryz.isAgg99 Tryz.sizeOf99 rfl|exact Ex.loadAggN Tryz.isAgg99 Tryz.sizeOf99 rfl|exact Ex.loadIn Tryz.isAgg99 Tryz.sizeOf99 rfl (Holds.to (by assumption))) rfl ?_
        refine O.allocP Tryz.zeroValue99 (fun b10 w H=>?_)
        first|refine O.storeAggP Tryz.sizeOf99 rfl rfl rfl rfl (fun w H=>?_)|refine O.storeAggN Tryz.sizeOf99 rfl rfl rfl (fun w H=>?_) rfl
        refine O.nil ?_
        refine hK11 _ _ _ ?_
        refine W.seq (fun K12 hK12=>?_)
        refine W.region ?_
        refine O.ex (Ex.move rfl) rfl ?_
        refine O.ex (by first|exact Ex.field0 fld99_0 rfl|exact Ex.field fld99_0 rfl|exact Ex.fieldS fld99_0 rfl) rfl ?_
        refine O.ex (by first|exact Ex.loadN Tryz.isAgg3 rfl|exact Ex.loadMh Tryz.isAgg3 rfl|exact Ex.loadP Tryz.isAgg3 rfl|exact Ex.loadM Tryz.isAgg3 rfl|exact Ex.loadIn1 Tryz.isAgg3 rfl (Holds.to (by assumption))|exact Ex.loadVc Tryz.isAgg3 rfl|exact Ex.loadR Tryz.isAgg3 rfl|exact Ex.loadQ Tryz.isAgg3 rfl) rfl ?_
        refine O.ex (Ex.move rfl) rfl ?_
        refine O.ex (by first|exact Ex.field0 fld99_1 rfl|exact Ex.field fld99_1 rfl|exact Ex.fieldS fld99_1 rfl) rfl ?_
        refine O.ex (by first|exact Ex.loadN Tryz.isAgg3 rfl|exact Ex.loadMh Tryz.isAgg3 rfl|exact Ex.loadP Tryz.isAgg3 rfl|exact Ex.loadM Tryz.isAgg3 rfl|exact Ex.loadIn1 Tryz.isAgg3 rfl (Holds.to (by assumption))|exact Ex.loadVc Tryz.isAgg3 rfl|exact Ex.loadR Tryz.isAgg3 rfl|exact Ex.loadQ Tryz.isAgg3 rfl) rfl ?_
        refine O.ex (Ex.move rfl) rfl ?_
        refine O.callF Tryz.call42 rfl rfl (CT.mono (spareB_ct hg hth (Holds.to (by assumption))) ?_)
        rintro _ w ⟨rfl,H⟩
        refine O.ex (Ex.move rfl) rfl ?_
        refine O.ex (Ex.extract rfl rfl) rfl ?_
        refine O.ex (Ex.extract rfl rfl) rfl ?_
        refine O.ex (Ex.assign rfl) rfl ?_
        refine O.ex (Ex.assign rfl) rfl ?_
        refine O.nil ?_
        refine hK12 _ _ _ ?_
        refine W.seq (fun K13 hK13=>?_)
        refine W.region ?_
        refine O.ex (Ex.move rfl) rfl ?_
        refine O.ex (by first|exact Ex.notD rfl|exact Ex.not rfl) rfl ?_
        refine O.nil ?_
        refine hK13 _ _ _ ?_
        first|refine W.cond_p rfl (fun hs=>?_) (fun hs=>?_)|refine W.cond_b rfl (fun hs=>?_) (fun hs=>?_)
        · refine W.region ?_
          refine O.ex (Ex.move rfl) rfl ?_
          refine O.ex (by first|exact Ex.addI rfl rfl|exact Ex.add rfl rfl rfl) rfl ?_
          refine O.ex (Ex.assign rfl) rfl ?_
          refine O.nil ?_
          refine hK10 _ _ _ ?_
          refine W.region ?_
          refine O.ex (by first|exact Ex.addI rfl rfl|exact Ex.add rfl rfl rfl) rfl ?_
          refine O.ex (Ex.move rfl) rfl ?_
          refine O.nil ?_
          first
          | (have hs' : ¬ spB n c ((detL n c v).getD i default).t v ((detL n c v).getD i default).h settles = true:=by simpa using hs
             rw [if_neg hs'] at hns
             exact ⟨i + 1,⟨rfl,rfl,rfl,by rw [hns]; rfl,rfl,rfl,rfl,trivial⟩,⟨rfl,by omega,Holds.to (by assumption)⟩,by omega⟩)
          | (have hs' : spB n c ((detL n c v).getD i default).t v ((detL n c v).getD i default).h settles = true:=by simpa using hs
             rw [if_pos hs'] at hns
             exact ⟨i + 1,⟨rfl,rfl,rfl,by rw [hns]; rfl,rfl,rfl,rfl,trivial⟩,⟨rfl,by omega,Holds.to (by assumption)⟩,by omega⟩)
        · refine W.skip ?_
          refine hK10 _ _ _ ?_
          refine W.region ?_
          refine O.ex (by first|exact Ex.addI rfl rfl|exact Ex.add rfl rfl rfl) rfl ?_
          refine O.ex (Ex.move rfl) rfl ?_
          refine O.nil ?_
          first
          | (have hs' : ¬ spB n c ((detL n c v).getD i default).t v ((detL n c v).getD i default).h settles = true:=by simpa using hs
             rw [if_neg hs'] at hns
             exact ⟨i + 1,⟨rfl,rfl,rfl,by rw [hns]; rfl,rfl,rfl,rfl,trivial⟩,⟨rfl,by omega,Holds.to (by assumption)⟩,by omega⟩)
          | (have hs' : spB n c ((detL n c v).getD i default).t v ((detL n c v).getD i default).h settles = true:=by simpa using hs
             rw [if_pos hs'] at hns
             exact ⟨i + 1,⟨rfl,rfl,rfl,by rw [hns]; rfl,rfl,rfl,rfl,trivial⟩,⟨rfl,by omega,Holds.to (by assumption)⟩,by omega⟩)
      · refine W.exit ?_
        refine hK6 _ _ _ ?_
        refine W.seq (fun K14 hK14=>?_)
        refine W.region ?_
        refine O.ex (Ex.move rfl) rfl ?_
        refine O.ex (Ex.assign rfl) rfl ?_
        refine O.ex (Ex.assign rfl) rfl ?_
        refine O.nil ?_
        refine hK14 _ _ _ ?_
        refine W.ret ?_
        try dsimp only [thenQ,blockQ,retQ]
        first|refine ⟨_,⟨_,_,rfl,rfl,_,_,rfl,rfl,rfl⟩,?_⟩|(refine retD_mark ?_; intro w H; refine ⟨_,⟨_,_,rfl,rfl,_,_,rfl,rfl,rfl⟩,?_⟩)|(refine retD_mark2 ?_; intro w H; refine ⟨_,⟨_,_,rfl,rfl,_,_,rfl,rfl,rfl⟩,?_⟩)
        first
        | (rw [if_neg (fun hh=>by omega)]; exact ⟨rfl,Holds.to (by assumption)⟩)
        | (obtain rfl : i = (detL n c v).length:=by omega
           rw [if_pos ⟨by omega,by omega⟩,← needT_all]
           exact ⟨rfl,Holds.to (by assumption)⟩)
set_option maxHeartbeats 1000000 in
theorem refNeed_ct {w : World} {r : Nat} {n v settles : Int} {c : Int → Int → Int} {L : List HProp} (hg : Good n c) (H : Holds w (Rh r n c::L)) :
    CT Tryz.prog 62 [.pointer (some ⟨r,0,none⟩),.int .i64 v,.int .i64 settles] w fun y w'=>y = .int .i64 (needN n c v settles : Nat) ∧ Holds w' (Rh r n c::L):=by
  have hdl:=det_len hg v
  refine CT.enter (N:=37) Tryz.func62 rfl rfl rfl rfl ?_
  refine W.seq (fun K0 hK0=>?_)
  refine W.region ?_
  refine O.ex (Ex.assign rfl) rfl ?_
  refine O.nil ?_
  refine hK0 _ _ _ ?_
  refine W.seq (fun K1 hK1=>?_)
  refine W.region ?_
  refine O.ex (Ex.assign rfl) rfl ?_
  refine O.nil ?_
  refine hK1 _ _ _ ?_
  refine W.seq (fun K2 hK2=>?_)
  refine W.region ?_
  refine O.ex (Ex.move rfl) rfl ?_
  refine O.ex (Ex.move rfl) rfl ?_
  refine O.callF Tryz.call64 rfl rfl (CT.mono (refDetours_ct hg (Holds.to (by assumption))) ?_)
  rintro _ w ⟨hx1,H⟩
  rename_i x
  refine O.ex (Ex.assign rfl) rfl ?_
  refine O.nil ?_
  refine hK2 _ _ _ ?_
  refine W.seq (fun K3 hK3=>?_)
  refine W.seq (fun K4 hK4=>?_)
  refine W.region ?_
  refine O.ex (Ex.assign rfl) rfl ?_
  refine O.nil ?_
  refine hK4 _ _ _ ?_
  refine W.block ?_
  refine W.loop (σ:=Nat) (fun i=>[(0,.pointer (some ⟨r,0,none⟩)),(1,.int .i64 v),(2,.int .i64 settles),(7,.int .i64 (needT n c v settles i : Nat)),(8,x),(9,.int .i64 (i : Int))]) (fun i ds w=>ds = [] ∧ i ≤ (detL n c v).length ∧ Holds w (lks x (detL n c v)::Rh r n c::L)) (fun i=>(detL n c v).length - i) 0 ⟨rfl,rfl,rfl,rfl,rfl,rfl,trivial⟩ ⟨rfl,by omega,Holds.to (by assumption)⟩ ?_
  clear H
  rintro i _ w ⟨rfl,hi,H⟩
  refine W.seq (fun K5 hK5=>?_)
  refine W.seq (fun K6 hK6=>?_)
  refine W.region ?_
  refine O.ex (Ex.move rfl) rfl ?_
  refine O.ex (Ex.move rfl) rfl ?_
  refine O.ex (by first|exact Ex.lenN Tryz.runUnderlying94 rfl|exact Ex.lenIn Tryz.runUnderlying94 rfl|exact Ex.lenL Tryz.runUnderlying94 rfl|exact Ex.len rfl Tryz.runUnderlying94 rfl) rfl ?_
  refine O.ex (Ex.lss rfl rfl) rfl ?_
  refine O.nil ?_
  refine hK6 _ _ _ ?_
  first|refine W.cond_p rfl (fun hlt=>?_) (fun hge=>?_)|refine W.cond_b rfl (fun hlt=>?_) (fun hge=>?_)
  · refine W.skip ?_
    refine hK5 _ _ _ ?_
    refine W.seq (fun K7 hK7=>?_)
    refine W.block ?_
    refine W.seq (fun K8 hK8=>?_)
    have hil : i < (detL n c v).length:=by omega
    have hth:=det_three hg (mem_getK hil)
    have hns:=needT_succ (settles:=settles) hil
    have hnl:=needT_le n c v settles i
    have hxs:=arrN_sl H (by omega)
    refine W.drawTo (lks x (detL n c v)::[]) (.take 0 (.take 1 (.take 2 (.take 3 (.take 4 (.take 5 (.take 6 (.take 7 (.take 8 (.take 9 (.take 10 (.take 11 (.take 12 (.one 13 (.take 14 .nil))))))))))))))) (mixed) (fun _ _ _ _ h=>h) (by assumption) PP.auto (by decide +kernel) (fun w H=>?_)
    refine OQ.ex rfl (fun w H=>(Ex.move rfl)) rfl ?_
    refine OQ.ex rfl (fun w H=>(Ex.move rfl)) rfl ?_
    refine OQ.ex rfl (fun w H=>(Ex.move rfl)) rfl ?_
    refine OQ.ex rfl (fun w H=>(by first|exact Ex.idxN Tryz.runUnderlying94 Tryz.sizeOf99 rfl rfl|exact Ex.idxSN Tryz.runUnderlying94 Tryz.sizeOf99 rfl rfl|exact Ex.idxIn Tryz.runUnderlying94 Tryz.sizeOf99 rfl rfl|exact Ex.idx Tryz.runUnderlying94 Tryz.sizeOf99 rfl rfl (by omega) (by omega))) rfl ?_
    refine OQ.ex rfl (fun w H=>(by first|exact Ex.field0 fld99_0 rfl|exact Ex.field fld99_0 rfl|exact Ex.fieldS fld99_0 rfl)) rfl ?_
    refine OQ.ex rfl (fun w H=>(by first|exact Ex.loadN Tryz.isAgg3 rfl|exact Ex.loadMh Tryz.isAgg3 rfl|exact Ex.loadP Tryz.isAgg3 rfl|exact Ex.loadM Tryz.isAgg3 rfl|exact Ex.loadIn1 Tryz.isAgg3 rfl (Holds.to (by assumption))|exact Ex.loadVc Tryz.isAgg3 rfl|exact Ex.loadR Tryz.isAgg3 rfl|exact Ex.loadQ Tryz.isAgg3 rfl)) rfl ?_
    refine OQ.ex rfl (fun w H=>(Ex.move rfl)) rfl ?_
    refine OQ.ex rfl (fun w H=>(Ex.move rfl)) rfl ?_
    refine OQ.ex rfl (fun w H=>(Ex.move rfl)) rfl ?_
    refine OQ.ex rfl (fun w H=>(by first|exact Ex.idxN Tryz.runUnderlying94 Tryz.sizeOf99 rfl rfl|exact Ex.idxSN Tryz.runUnderlying94 Tryz.sizeOf99 rfl rfl|exact Ex.idxIn Tryz.runUnderlying94 Tryz.sizeOf99 rfl rfl|exact Ex.idx Tryz.runUnderlying94 Tryz.sizeOf99 rfl rfl (by omega) (by omega))) rfl ?_
    refine OQ.ex rfl (fun w H=>(by first|exact Ex.field0 fld99_1 rfl|exact Ex.field fld99_1 rfl|exact Ex.fieldS fld99_1 rfl)) rfl ?_
    refine OQ.ex rfl (fun w H=>(by first|exact Ex.loadN Tryz.isAgg3 rfl|exact Ex.loadMh Tryz.isAgg3 rfl|exact Ex.loadP Tryz.isAgg3 rfl|exact Ex.loadM Tryz.isAgg3 rfl|exact Ex.loadIn1 Tryz.isAgg3 rfl (Holds.to (by assumption))|exact Ex.loadVc Tryz.isAgg3 rfl|exact Ex.loadR Tryz.isAgg3 rfl|exact Ex.loadQ Tryz.isAgg3 rfl)) rfl ?_
    refine OQ.ex rfl (fun w H=>(Ex.move rfl)) rfl ?_
    refine OQ.step rfl ?_
    refine O.callF Tryz.call84 rfl rfl (CT.mono (refSpareB_ct hg hth (Holds.to (by assumption))) ?_)
    rintro _ w ⟨rfl,H⟩
    refine O.thenNil ⟨(by first|exact Holds.to (by assumption)|assumption),?_⟩
    refine OQ.ex rfl (fun w H=>(by first|exact Ex.notD rfl|exact Ex.not rfl)) rfl ?_
    refine OQ.done ?_
    refine hK8 _ _ _ ?_
    first|refine W.cond_p rfl (fun hs=>?_) (fun hs=>?_)|refine W.cond_b rfl (fun hs=>?_) (fun hs=>?_)
    · refine W.region ?_
      refine O.ex (Ex.move rfl) rfl ?_
      refine O.ex (by first|exact Ex.addI rfl rfl|exact Ex.add rfl rfl rfl) rfl ?_
      refine O.ex (Ex.assign rfl) rfl ?_
      refine O.nil ?_
      refine hK7 _ _ _ ?_
      refine W.region ?_
      refine O.ex (Ex.move rfl) rfl ?_
      refine O.ex (by first|exact Ex.addI rfl rfl|exact Ex.add rfl rfl rfl) rfl ?_
      refine O.ex (Ex.assign rfl) rfl ?_
      refine O.nil ?_
      first
      | (have hs' : ¬ spB n c ((detL n c v).getD i default).t v ((detL n c v).getD i default).h settles = true:=by simpa using hs
         rw [if_neg hs'] at hns
         exact ⟨i + 1,⟨rfl,rfl,rfl,by rw [hns]; rfl,rfl,rfl,trivial⟩,⟨rfl,by omega,Holds.to (by assumption)⟩,by omega⟩)
      | (have hs' : spB n c ((detL n c v).getD i default).t v ((detL n c v).getD i default).h settles = true:=by simpa using hs
         rw [if_pos hs'] at hns
         exact ⟨i + 1,⟨rfl,rfl,rfl,by rw [hns]; rfl,rfl,rfl,trivial⟩,⟨rfl,by omega,Holds.to (by assumption)⟩,by omega⟩)
    · refine W.skip ?_
      refine hK7 _ _ _ ?_
      refine W.region ?_
      refine O.ex (Ex.move rfl) rfl ?_
      refine O.ex (by first|exact Ex.addI rfl rfl|exact Ex.add rfl rfl rfl) rfl ?_
      refine O.ex (Ex.assign rfl) rfl ?_
      refine O.nil ?_
      first
      | (have hs' : ¬ spB n c ((detL n c v).getD i default).t v ((detL n c v).getD i default).h settles = true:=by simpa using hs
         rw [if_neg hs'] at hns
         exact ⟨i + 1,⟨rfl,rfl,rfl,by rw [hns]; rfl,rfl,rfl,trivial⟩,⟨rfl,by omega,Holds.to (by assumption)⟩,by omega⟩)
      | (have hs' : spB n c ((detL n c v).getD i default).t v ((detL n c v).getD i default).h settles = true:=by simpa using hs
         rw [if_pos hs'] at hns
         exact ⟨i + 1,⟨rfl,rfl,rfl,by rw [hns]; rfl,rfl,rfl,trivial⟩,⟨rfl,by omega,Holds.to (by assumption)⟩,by omega⟩)
  · refine W.exit ?_
    refine hK3 _ _ _ ?_
    refine W.seq (fun K9 hK9=>?_)
    refine W.region ?_
    refine O.ex (Ex.move rfl) rfl ?_
    refine O.ex (Ex.assign rfl) rfl ?_
    refine O.nil ?_
    refine hK9 _ _ _ ?_
    refine W.ret ?_
    try dsimp only [thenQ,blockQ,retQ]
    first|refine ⟨_,⟨_,_,rfl,rfl,rfl⟩,?_⟩|(refine retD_mark ?_; intro w H; refine ⟨_,⟨_,_,rfl,rfl,rfl⟩,?_⟩)|(refine retD_mark2 ?_; intro w H; refine ⟨_,⟨_,_,rfl,rfl,rfl⟩,?_⟩)
    obtain rfl : i = (detL n c v).length:=by omega
    rw [← needT_all]
    exact ⟨rfl,Holds.to (by assumption)⟩
end Go.Proofs.YtblapiiinbppiaaGreatDoor
