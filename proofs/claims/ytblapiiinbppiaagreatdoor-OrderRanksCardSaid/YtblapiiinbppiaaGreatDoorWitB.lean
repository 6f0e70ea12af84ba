/- Several texts as one: Wit4 Wit5 Wit6. -/
import Derived.Test.YtblapiiinbppiaaGreatDoorWitA
import Derived.Test.YtblapiiinbppiaaGreatDoorRrBase
namespace Go.Proofs.YtblapiiinbppiaaGreatDoor
open Go.Rr Go Hp Wt
set_option linter.unusedVariables false
/-- What the document's search found, so far. -/
def FR (bf : Nat) (P : List (Int × Int)) (tv : Value) : HProp:=hex fun sv=>hex fun dv=>star [pt bf (.cells #[sv,dv,tv] 141 (0,0)),arr 3 (Value.int .i64) sv (P.map Prod.fst),arr 3 (Value.int .i64) dv (P.map Prod.snd)]
theorem fr_open {w : World} {bf : Nat} {P : List (Int × Int)} {tv : Value} {L : List HProp} : Holds w (FR bf P tv::L) ↔ ∃ sv dv,Holds w (pt bf (.cells #[sv,dv,tv] 141 (0,0))::arr 3 (Value.int .i64) sv (P.map Prod.fst)::arr 3 (Value.int .i64) dv (P.map Prod.snd)::L):=by
  unfold FR
  simp only [Holds.hex,Holds.star,List.cons_append,List.nil_append]
def tlo (N : Nat) (c : Int → Int → Int) (wo : Nat) (P : List (Int × Int)) (i : Nat) : Nat → Bool:=fun x=>if x < i then decide (TQ N c wo P x) else false
def tli (N : Nat) (c : Int → Int → Int) (wo : Nat) (P : List (Int × Int)) (i k : Nat) : Nat → Bool:=fun x=>if x = i then tqi c wo P i k else tlo N c wo P i x
theorem tlo_end {N : Nat} (c : Int → Int → Int) (wo : Nat) (P : List (Int × Int)) : tl N (tlo N c wo P N) = tl N fun x=>decide (TQ N c wo P x):=tl_congr fun i hi=>if_pos hi
theorem tlo_zero {N : Nat} (c : Int → Int → Int) (wo : Nat) (P : List (Int × Int)) : tl N (tlo N c wo P 0) = List.replicate N false:=by
  rw [← tl_false]; exact tl_congr fun i hi=>if_neg (by omega)
theorem tli_all {N : Nat} (c : Int → Int → Int) (wo : Nat) (P : List (Int × Int)) {i : Nat} (hi : i < N) : tl N (tli N c wo P i P.length) = tl N (tlo N c wo P (i + 1)):=tl_congr fun x hx=>by
  unfold tli tlo
  by_cases e : x = i
  · subst e; rw [if_pos rfl,if_pos (by omega),tqi_all P hi]
  · rw [if_neg e]
    by_cases e2 : x < i
    · rw [if_pos e2,if_pos (by omega)]
    · rw [if_neg e2,if_neg (by omega)]
set_option maxHeartbeats 4000000 in
theorem refSearch_ct {w : World} {r wo : Nat} {n s most settles : Int} {c : Int → Int → Int} {L : List HProp} (hg : Good n c) (hw : wo < 18446744073709551616) (hs0 : 0 ≤ s) (hs1 : s < n) (H : Holds w (Rh r n c::L)) :
    CT Tryz.prog 102 [.pointer (some ⟨r,0,none⟩),.int .i64 s,.int .u64 (wo : Int),.int .i64 most,.int .i64 settles] w fun u w' =>
      ∃ j sv dv tv,to n.toNat c s.toNat wo settles most j ∧ stopP n.toNat c s.toNat wo settles most j ∧ u = .agg #[sv,dv,tv] ∧ (sv.oneCell' = true ∧ dv.oneCell' = true ∧ tv.oneCell' = true) ∧
        Holds w' (arr 3 (Value.int .i64) sv ((st n.toNat c s.toNat wo j).map Prod.fst)::arr 3 (Value.int .i64) dv ((st n.toNat c s.toNat wo j).map Prod.snd)::arr 4 Value.bool tv (tl n.toNat fun x=>decide (TQ n.toNat c wo (st n.toNat c s.toNat wo j) x))::Rh r n c::L):=by
  have n1:=hg.n1
  have n2:=hg.n2
  obtain ⟨N,hN⟩ : ∃ N,N = n.toNat:=⟨_,rfl⟩
  have hNn : (N : Int) = n:=by omega
  obtain ⟨s0,hs⟩ : ∃ s0,s0 = s.toNat:=⟨_,rfl⟩
  have hss : (s0 : Int) = s:=by omega
  have hgN : ∀ j,Ok N c wo (st N c s0 wo j):=fun j=>by rw [hN]; exact st_ok hg j
  refine CT.enter (N:=127) Tryz.func102 rfl rfl rfl rfl ?_
  refine W.seq (fun K0 hK0=>?_)
  refine W.region ?_
  refine O.allocP Tryz.zeroValue141 (fun b10 w H=>?_)
  refine O.nil ?_
  refine hK0 _ _ _ ?_
  refine W.seq (fun K1 hK1=>?_)
  refine W.region ?_
  refine O.ex (Ex.move rfl) rfl ?_
  refine O.ex (by first|exact Ex.nilPtr rfl|exact Ex.nilFunc rfl|exact Ex.nilYield rfl) rfl ?_
  have H:=rh_open.1 (Holds.to (by assumption))
  refine O.ex (by first|exact Ex.field0 fld114_0 rfl|exact Ex.field fld114_0 rfl|exact Ex.fieldS fld114_0 rfl) rfl ?_
  refine O.ex (by first|exact Ex.loadMh Tryz.isAgg3 rfl|exact Ex.loadP Tryz.isAgg3 rfl|exact Ex.loadM Tryz.isAgg3 rfl|exact Ex.loadIn1 Tryz.isAgg3 rfl (Holds.to (by assumption))|exact Ex.loadVc Tryz.isAgg3 rfl|exact Ex.loadR Tryz.isAgg3 rfl|exact Ex.loadQ Tryz.isAgg3 rfl) rfl ?_
  refine O.makeR (false : Bool) (e:=Value.bool) (bt:=1) Tryz.runUnderlying74 Tryz.sizeOf4 Tryz.zeroValue4 Tryz.typeInfo4 rfl rfl rfl (fun s22 w hs22 H=>?_)
  have ht1 : s22.oneCell' = true:=arr_one (T:=4) (e:=Value.bool) (xs:=List.replicate n.toNat false) (Holds.to (by assumption))
  refine O.ex (Ex.build rfl (bld141_2 _ (by first|rfl|assumption))) rfl ?_
  refine O.allocP Tryz.zeroValue141 (fun b11 w H=>?_)
  refine O.storeAggP Tryz.sizeOf141 rfl rfl rfl (by show (_ && (_ && (s22.oneCell' && _))) = true; rw [ht1]; rfl) (fun w H=>?_)
  refine O.nil ?_
  refine hK1 _ _ _ ?_
  refine W.seq (fun K2 hK2=>?_)
  refine W.block ?_
  rw [← hN,← hs]
  have H:=arr_nil (T:=3) (e:=Value.int .i64) (arr_nil (T:=3) (e:=Value.int .i64) H)
  rw [show List.replicate n.toNat false = List.replicate N false from by rw [hN]] at H
  have H2 : Holds w (FR b11 (st N c s0 wo 0) s22::arr 4 Value.bool s22 (List.replicate N false)::pt b10 (.cells #[.slice none 0 0,.slice none 0 0,.slice none 0 0] 141 (0,0))::Rh r n c::L):=fr_open.2 ⟨_,_,Holds.to (M:=pt b11 (.cells #[.slice none 0 0,.slice none 0 0,s22] 141 (0,0))::arr 3 (Value.int .i64) (.slice none 0 0) (([] : List (Int × Int)).map Prod.fst)::arr 3 (Value.int .i64) (.slice none 0 0) (([] : List (Int × Int)).map Prod.snd)::arr 4 Value.bool s22 (List.replicate N false)::pt b10 (.cells #[.slice none 0 0,.slice none 0 0,.slice none 0 0] 141 (0,0))::Rh r n c::L) H⟩
  refine W.loop (σ:=Nat) (fun j=>[(0,.pointer (some ⟨r,0,none⟩)),(1,.int .i64 s),(2,.int .u64 (wo : Int)),(3,.int .i64 most),(4,.int .i64 settles),(10,.pointer (some ⟨b10,0,none⟩)),(11,.pointer (some ⟨b11,0,none⟩))])
    (fun j ds w=>ds = [] ∧ to N c s0 wo settles most j ∧ Holds w (FR b11 (st N c s0 wo j) s22::arr 4 Value.bool s22 (List.replicate N false)::pt b10 (.cells #[.slice none 0 0,.slice none 0 0,.slice none 0 0] 141 (0,0))::Rh r n c::L)) (fun j=>N - j) 0 ⟨rfl,rfl,rfl,rfl,rfl,rfl,rfl,trivial⟩ ⟨rfl,to_zero _ _,H2⟩ ?_
  clear H H2
  rintro j _ w ⟨rfl,hto,H⟩
  obtain ⟨P,hP⟩ : ∃ P,P = st N c s0 wo j:=⟨_,rfl⟩
  rw [← hP] at H
  have hok : Ok N c wo P:=hP ▸ hgN j
  have hPl : P.length = j:=by rw [hP]; exact to_len hto
  have hjN : j ≤ N:=by have:=hok.len; omega
  obtain ⟨sv,dv,H⟩:=fr_open.1 H
  have l1 : (P.map Prod.fst).length = P.length:=List.length_map _
  have l2 : (P.map Prod.snd).length = P.length:=List.length_map _
  refine W.seq (fun K3 hK3=>?_)
  refine W.seq (fun K4 hK4=>?_)
  refine W.region ?_
  refine O.ex (by first|exact Ex.field0 fld141_0 rfl|exact Ex.field fld141_0 rfl|exact Ex.fieldS fld141_0 rfl) rfl ?_
  refine O.ex (by first|exact Ex.loadMh Tryz.isAgg28 rfl|exact Ex.loadP Tryz.isAgg28 rfl|exact Ex.loadM Tryz.isAgg28 rfl|exact Ex.loadIn1 Tryz.isAgg28 rfl (Holds.to (by assumption))|exact Ex.loadVc Tryz.isAgg28 rfl|exact Ex.loadR Tryz.isAgg28 rfl|exact Ex.loadQ Tryz.isAgg28 rfl) rfl ?_
  refine O.ex (by first|exact Ex.lenR Tryz.runUnderlying28 rfl|exact Ex.lenIn Tryz.runUnderlying28 rfl|exact Ex.lenL Tryz.runUnderlying28 rfl|exact Ex.len rfl Tryz.runUnderlying28 rfl) rfl ?_
  refine O.ex (Ex.move rfl) rfl ?_
  refine O.ex (Ex.lss rfl rfl) rfl ?_
  refine O.nil ?_
  refine hK4 _ _ _ ?_
  first|refine W.cond_p rfl (fun hA=>?_) (fun hB=>?_)|refine W.cond_b rfl (fun hA=>?_) (fun hB=>?_)
  · refine W.skip ?_
    refine hK3 _ _ _ ?_
    refine W.block ?_
    refine W.seq (fun K5 hK5=>?_)
    refine W.region ?_
    refine O.ex (Ex.assign rfl) rfl ?_
    refine O.nil ?_
    refine hK5 _ _ _ ?_
    refine W.seq (fun K6 hK6=>?_)
    refine W.region ?_
    refine O.ex (Ex.assign rfl) rfl ?_
    refine O.nil ?_
    refine hK6 _ _ _ ?_
    refine W.seq (fun K7 hK7=>?_)
    refine W.seq (fun K8 hK8=>?_)
    refine W.region ?_
    refine O.ex (Ex.assign rfl) rfl ?_
    refine O.nil ?_
    refine hK8 _ _ _ ?_
    refine W.block ?_
    refine W.loop (σ:=Nat) (fun i=>[(0,.pointer (some ⟨r,0,none⟩)),(1,.int .i64 s),(2,.int .u64 (wo : Int)),(3,.int .i64 most),(4,.int .i64 settles),(10,.pointer (some ⟨b10,0,none⟩)),(11,.pointer (some ⟨b11,0,none⟩)),(12,.int .i64 (nI (bst RI (hpW N c s0 wo P) i))),(13,.int .i64 (fI c s0 P (bst RI (hpW N c s0 wo P) i))),(14,.int .i64 (i : Int))])
      (fun i ds w=>ds = [] ∧ i ≤ N ∧ Holds w (pt b11 (.cells #[sv,dv,s22] 141 (0,0))::arr 3 (Value.int .i64) sv (P.map Prod.fst)::arr 3 (Value.int .i64) dv (P.map Prod.snd)::Rh r n c::arr 4 Value.bool s22 (List.replicate N false)::pt b10 (.cells #[.slice none 0 0,.slice none 0 0,.slice none 0 0] 141 (0,0))::L)) (fun i=>N - i) 0 ⟨rfl,rfl,rfl,rfl,rfl,rfl,rfl,rfl,rfl,rfl,trivial⟩ ⟨rfl,by omega,Holds.to (by assumption)⟩ ?_
    clear H
    rintro i _ w ⟨rfl,hi,H⟩
    refine W.seq (fun K9 hK9=>?_)
    refine W.seq (fun K10 hK10=>?_)
    refine W.region ?_
    refine O.ex (Ex.move rfl) rfl ?_
    refine O.ex (Ex.move rfl) rfl ?_
    refine O.ex (by first|exact Ex.nilPtr rfl|exact Ex.nilFunc rfl|exact Ex.nilYield rfl) rfl ?_
    have H:=rh_open.1 (Holds.to (M:=Rh r n c::pt b11 (.cells #[sv,dv,s22] 141 (0,0))::arr 3 (Value.int .i64) sv (P.map Prod.fst)::arr 3 (Value.int .i64) dv (P.map Prod.snd)::arr 4 Value.bool s22 (List.replicate N false)::pt b10 (.cells #[.slice none 0 0,.slice none 0 0,.slice none 0 0] 141 (0,0))::L) (by assumption))
    refine O.ex (by first|exact Ex.field0 fld114_0 rfl|exact Ex.field fld114_0 rfl|exact Ex.fieldS fld114_0 rfl) rfl ?_
    refine O.ex (by first|exact Ex.loadMh Tryz.isAgg3 rfl|exact Ex.loadP Tryz.isAgg3 rfl|exact Ex.loadM Tryz.isAgg3 rfl|exact Ex.loadIn1 Tryz.isAgg3 rfl (Holds.to (by assumption))|exact Ex.loadVc Tryz.isAgg3 rfl|exact Ex.loadR Tryz.isAgg3 rfl|exact Ex.loadQ Tryz.isAgg3 rfl) rfl ?_
    refine O.ex (Ex.lss rfl rfl) rfl ?_
    refine O.nil ?_
    refine hK10 _ _ _ ?_
    first|refine W.cond_p rfl (fun hlt=>?_) (fun hge=>?_)|refine W.cond_b rfl (fun hlt=>?_) (fun hge=>?_)
    · refine W.skip ?_
      refine hK9 _ _ _ ?_
      refine W.seq (fun K11 hK11=>?_)
      refine W.block ?_
      refine W.seq (fun K12 hK12=>?_)
      refine W.seq (fun K13 hK13=>?_)
      refine W.region ?_
      refine O.ex (by first|exact Ex.field0 fld141_0 rfl|exact Ex.field fld141_0 rfl|exact Ex.fieldS fld141_0 rfl) rfl ?_
      refine O.ex (by first|exact Ex.loadMh Tryz.isAgg28 rfl|exact Ex.loadP Tryz.isAgg28 rfl|exact Ex.loadM Tryz.isAgg28 rfl|exact Ex.loadIn1 Tryz.isAgg28 rfl (Holds.to (by assumption))|exact Ex.loadVc Tryz.isAgg28 rfl|exact Ex.loadR Tryz.isAgg28 rfl|exact Ex.loadQ Tryz.isAgg28 rfl) rfl ?_
      refine O.ex (Ex.move rfl) rfl ?_
      refine O.callF Tryz.call101 rfl rfl (CT.mono (hasL_ct (xs:=P.map Prod.fst) (by omega) (Holds.to (by assumption))) ?_)
      rintro _ w ⟨rfl,H⟩
      refine O.ex (Ex.move rfl) rfl ?_
      first|refine O.split_p (t:=41) rfl (fun hin=>?_) (fun hnin=>?_)|refine O.split (t:=41) rfl (fun hin=>?_) (fun hnin=>?_)
      · refine O.guard_f rfl rfl rfl rfl ?_
        refine O.guard_f rfl rfl rfl rfl ?_
        refine O.guard_f rfl rfl rfl rfl ?_
        refine O.ex (Ex.pick_t rfl rfl) rfl ?_
        refine O.nil ?_
        refine hK13 _ _ _ ?_
        refine W.cond_t rfl ?_
        refine W.exit ?_
        refine hK11 _ _ _ ?_
        refine W.region ?_
        refine O.ex (Ex.move rfl) rfl ?_
        refine O.ex (by first|exact Ex.addI rfl rfl|exact Ex.add rfl rfl rfl) rfl ?_
        refine O.ex (Ex.assign rfl) rfl ?_
        refine O.nil ?_
        first
        | (have e1:=bst_out (N:=N) (c:=c) (s0:=s0) (wo:=wo) (P:=P) (i:=i) (by omega) (.inl hin)
           exact ⟨i + 1,⟨rfl,rfl,rfl,rfl,rfl,rfl,rfl,by rw [e1]; rfl,by rw [e1]; rfl,rfl,trivial⟩,⟨rfl,by omega,Holds.to (by assumption)⟩,by omega⟩)
        | (have e1:=bst_out (N:=N) (c:=c) (s0:=s0) (wo:=wo) (P:=P) (i:=i) (by omega) (.inr hwo)
           exact ⟨i + 1,⟨rfl,rfl,rfl,rfl,rfl,rfl,rfl,by rw [e1]; rfl,by rw [e1]; rfl,rfl,trivial⟩,⟨rfl,by omega,Holds.to (by assumption)⟩,by omega⟩)
        | (have hno : ¬ (isIn P i ∨ inS wo (i : Int) = true):=fun h=>h.elim (fun h=>hnin h) (fun h=>by rw [h] at hnwo; cases hnwo)
           have esm : smF c s0 P i = sm c P (i : Int):=if_neg (fun h=>by first|exact hnz (by rw [h.1]; rfl)|exact hnst (by have:=h.2; omega))
           first
           | (have e1:=bst_nearer (N:=N) (c:=c) (s0:=s0) (wo:=wo) (P:=P) (i:=i) (by omega) hno (by rw [esm]; exact hnear)
              exact ⟨i + 1,⟨rfl,rfl,rfl,rfl,rfl,rfl,rfl,by rw [e1]; rfl,by rw [e1,← esm]; rfl,rfl,trivial⟩,⟨rfl,by omega,Holds.to (by assumption)⟩,by omega⟩)
           | (have e1:=bst_farther (N:=N) (c:=c) (s0:=s0) (wo:=wo) (P:=P) (i:=i) (by omega) hno (by rw [esm]; exact hfar)
              exact ⟨i + 1,⟨rfl,rfl,rfl,rfl,rfl,rfl,rfl,by rw [e1]; rfl,by rw [e1]; rfl,rfl,trivial⟩,⟨rfl,by omega,Holds.to (by assumption)⟩,by omega⟩))
        | (have hno : ¬ (isIn P i ∨ inS wo (i : Int) = true):=fun h=>h.elim (fun h=>hnin h) (fun h=>by rw [h] at hnwo; cases hnwo)
           have esm : smF c s0 P i = 0:=if_pos ⟨List.length_eq_zero_iff.1 (by omega),by omega⟩
           first
           | (have e1:=bst_nearer (N:=N) (c:=c) (s0:=s0) (wo:=wo) (P:=P) (i:=i) (by omega) hno (by rw [esm]; exact hnear)
              exact ⟨i + 1,⟨rfl,rfl,rfl,rfl,rfl,rfl,rfl,by rw [e1]; rfl,by rw [e1,← esm]; rfl,rfl,trivial⟩,⟨rfl,by omega,Holds.to (by assumption)⟩,by omega⟩)
           | (have e1:=bst_farther (N:=N) (c:=c) (s0:=s0) (wo:=wo) (P:=P) (i:=i) (by omega) hno (by rw [esm]; exact hfar)
              exact ⟨i + 1,⟨rfl,rfl,rfl,rfl,rfl,rfl,rfl,by rw [e1]; rfl,by rw [e1]; rfl,rfl,trivial⟩,⟨rfl,by omega,Holds.to (by assumption)⟩,by omega⟩))
      · refine O.guard_t rfl rfl ?_
        refine O.ex (Ex.move rfl) rfl ?_
        refine O.guard_t rfl rfl ?_
        refine O.ex (Ex.move rfl) rfl ?_
        refine O.guard_t rfl rfl ?_
        refine O.callF Tryz.call114 rfl rfl (CT.mono (refHas_ct (Holds.to (by assumption)) hw) ?_)
        rintro _ w ⟨rfl,H⟩
        refine O.ex (Ex.pick_f rfl rfl) rfl ?_
        refine O.nil ?_
        refine hK13 _ _ _ ?_
        first|refine W.cond_p rfl (fun hwo=>?_) (fun hnwo=>?_)|refine W.cond_b rfl (fun hwo=>?_) (fun hnwo=>?_)
        · refine W.exit ?_
          refine hK11 _ _ _ ?_
          refine W.region ?_
          refine O.ex (Ex.move rfl) rfl ?_
          refine O.ex (by first|exact Ex.addI rfl rfl|exact Ex.add rfl rfl rfl) rfl ?_
          refine O.ex (Ex.assign rfl) rfl ?_
          refine O.nil ?_
          first
          | (have e1:=bst_out (N:=N) (c:=c) (s0:=s0) (wo:=wo) (P:=P) (i:=i) (by omega) (.inl hin)
             exact ⟨i + 1,⟨rfl,rfl,rfl,rfl,rfl,rfl,rfl,by rw [e1]; rfl,by rw [e1]; rfl,rfl,trivial⟩,⟨rfl,by omega,Holds.to (by assumption)⟩,by omega⟩)
          | (have e1:=bst_out (N:=N) (c:=c) (s0:=s0) (wo:=wo) (P:=P) (i:=i) (by omega) (.inr hwo)
             exact ⟨i + 1,⟨rfl,rfl,rfl,rfl,rfl,rfl,rfl,by rw [e1]; rfl,by rw [e1]; rfl,rfl,trivial⟩,⟨rfl,by omega,Holds.to (by assumption)⟩,by omega⟩)
          | (have hno : ¬ (isIn P i ∨ inS wo (i : Int) = true):=fun h=>h.elim (fun h=>hnin h) (fun h=>by rw [h] at hnwo; cases hnwo)
             have esm : smF c s0 P i = sm c P (i : Int):=if_neg (fun h=>by first|exact hnz (by rw [h.1]; rfl)|exact hnst (by have:=h.2; omega))
             first
             | (have e1:=bst_nearer (N:=N) (c:=c) (s0:=s0) (wo:=wo) (P:=P) (i:=i) (by omega) hno (by rw [esm]; exact hnear)
                exact ⟨i + 1,⟨rfl,rfl,rfl,rfl,rfl,rfl,rfl,by rw [e1]; rfl,by rw [e1,← esm]; rfl,rfl,trivial⟩,⟨rfl,by omega,Holds.to (by assumption)⟩,by omega⟩)
             | (have e1:=bst_farther (N:=N) (c:=c) (s0:=s0) (wo:=wo) (P:=P) (i:=i) (by omega) hno (by rw [esm]; exact hfar)
                exact ⟨i + 1,⟨rfl,rfl,rfl,rfl,rfl,rfl,rfl,by rw [e1]; rfl,by rw [e1]; rfl,rfl,trivial⟩,⟨rfl,by omega,Holds.to (by assumption)⟩,by omega⟩))
          | (have hno : ¬ (isIn P i ∨ inS wo (i : Int) = true):=fun h=>h.elim (fun h=>hnin h) (fun h=>by rw [h] at hnwo; cases hnwo)
             have esm : smF c s0 P i = 0:=if_pos ⟨List.length_eq_zero_iff.1 (by omega),by omega⟩
             first
             | (have e1:=bst_nearer (N:=N) (c:=c) (s0:=s0) (wo:=wo) (P:=P) (i:=i) (by omega) hno (by rw [esm]; exact hnear)
                exact ⟨i + 1,⟨rfl,rfl,rfl,rfl,rfl,rfl,rfl,by rw [e1]; rfl,by rw [e1,← esm]; rfl,rfl,trivial⟩,⟨rfl,by omega,Holds.to (by assumption)⟩,by omega⟩)
             | (have e1:=bst_farther (N:=N) (c:=c) (s0:=s0) (wo:=wo) (P:=P) (i:=i) (by omega) hno (by rw [esm]; exact hfar)
                exact ⟨i + 1,⟨rfl,rfl,rfl,rfl,rfl,rfl,rfl,by rw [e1]; rfl,by rw [e1]; rfl,rfl,trivial⟩,⟨rfl,by omega,Holds.to (by assumption)⟩,by omega⟩))
        · refine W.skip ?_
          refine hK12 _ _ _ ?_
          refine W.seq (fun K14 hK14=>?_)
          refine W.region ?_
          refine O.ex (Ex.move rfl) rfl ?_
          refine O.ex (by first|exact Ex.loadAggP Tryz.isAgg141 Tryz.sizeOf141 rfl|exact Ex.loadAggN Tryz.isAgg141 Tryz.sizeOf141 rfl|exact Ex.loadIn Tryz.isAgg141 Tryz.sizeOf141 rfl (Holds.to (by assumption))) rfl ?_
          refine O.ex (Ex.move rfl) rfl ?_
          refine O.callF Tryz.call115 rfl rfl (CT.mono (refSum_ct (P:=P) hg (hN ▸ hok) (Holds.to (M:=arr 3 (Value.int .i64) sv (P.map Prod.fst)::arr 3 (Value.int .i64) dv (P.map Prod.snd)::Rh r n c::pt b11 (.cells #[sv,dv,s22] 141 (0,0))::arr 4 Value.bool s22 (List.replicate N false)::pt b10 (.cells #[.slice none 0 0,.slice none 0 0,.slice none 0 0] 141 (0,0))::L) (by assumption))) ?_)
          rintro _ w ⟨rfl,H⟩
          refine O.ex (Ex.assign rfl) rfl ?_
          refine O.nil ?_
          refine hK14 _ _ _ ?_
          refine W.seq (fun K15 hK15=>?_)
          refine W.seq (fun K16 hK16=>?_)
          refine W.region ?_
          refine O.ex (by first|exact Ex.field0 fld141_0 rfl|exact Ex.field fld141_0 rfl|exact Ex.fieldS fld141_0 rfl) rfl ?_
          refine O.ex (by first|exact Ex.loadMh Tryz.isAgg28 rfl|exact Ex.loadP Tryz.isAgg28 rfl|exact Ex.loadM Tryz.isAgg28 rfl|exact Ex.loadIn1 Tryz.isAgg28 rfl (Holds.to (by assumption))|exact Ex.loadVc Tryz.isAgg28 rfl|exact Ex.loadR Tryz.isAgg28 rfl|exact Ex.loadQ Tryz.isAgg28 rfl) rfl ?_
          refine O.ex (by first|exact Ex.lenR Tryz.runUnderlying28 rfl|exact Ex.lenIn Tryz.runUnderlying28 rfl|exact Ex.lenL Tryz.runUnderlying28 rfl|exact Ex.len rfl Tryz.runUnderlying28 rfl) rfl ?_
          refine O.ex (Ex.eqlI rfl rfl) rfl ?_
          refine O.ex (Ex.move rfl) rfl ?_
          first|refine O.split_p (t:=54) rfl (fun hz=>?_) (fun hnz=>?_)|refine O.split (t:=54) rfl (fun hz=>?_) (fun hnz=>?_)
          · refine O.guard_t rfl rfl ?_
            refine O.ex (Ex.move rfl) rfl ?_
            refine O.guard_t rfl rfl ?_
            refine O.ex (Ex.move rfl) rfl ?_
            refine O.guard_t rfl rfl ?_
            refine O.ex (Ex.eqlI rfl rfl) rfl ?_
            refine O.ex (Ex.pick_t rfl rfl) rfl ?_
            refine O.nil ?_
            refine hK16 _ _ _ ?_
            first|refine W.cond_p rfl (fun hst=>?_) (fun hnst=>?_)|refine W.cond_b rfl (fun hst=>?_) (fun hnst=>?_)
            · refine W.region ?_
              refine O.ex (Ex.assign rfl) rfl ?_
              refine O.nil ?_
              refine hK15 _ _ _ ?_
              refine W.seq (fun K17 hK17=>?_)
              refine W.region ?_
              refine O.ex (Ex.move rfl) rfl ?_
              refine O.ex (Ex.move rfl) rfl ?_
              refine O.ex (Ex.lss rfl rfl) rfl ?_
              refine O.nil ?_
              refine hK17 _ _ _ ?_
              first|refine W.cond_p rfl (fun hnear=>?_) (fun hfar=>?_)|refine W.cond_b rfl (fun hnear=>?_) (fun hfar=>?_)
              · refine W.seq (fun K18 hK18=>?_)
                refine W.region ?_
                refine O.ex (Ex.move rfl) rfl ?_
                refine O.ex (Ex.assign rfl) rfl ?_
                refine O.nil ?_
                refine hK18 _ _ _ ?_
                refine W.region ?_
                refine O.ex (Ex.move rfl) rfl ?_
                refine O.ex (Ex.assign rfl) rfl ?_
                refine O.nil ?_
                refine hK11 _ _ _ ?_
                refine W.region ?_
                refine O.ex (Ex.move rfl) rfl ?_
                refine O.ex (by first|exact Ex.addI rfl rfl|exact Ex.add rfl rfl rfl) rfl ?_
                refine O.ex (Ex.assign rfl) rfl ?_
                refine O.nil ?_
                first
                | (have e1:=bst_out (N:=N) (c:=c) (s0:=s0) (wo:=wo) (P:=P) (i:=i) (by omega) (.inl hin)
                   exact ⟨i + 1,⟨rfl,rfl,rfl,rfl,rfl,rfl,rfl,by rw [e1]; rfl,by rw [e1]; rfl,rfl,trivial⟩,⟨rfl,by omega,Holds.to (by assumption)⟩,by omega⟩)
                | (have e1:=bst_out (N:=N) (c:=c) (s0:=s0) (wo:=wo) (P:=P) (i:=i) (by omega) (.inr hwo)
                   exact ⟨i + 1,⟨rfl,rfl,rfl,rfl,rfl,rfl,rfl,by rw [e1]; rfl,by rw [e1]; rfl,rfl,trivial⟩,⟨rfl,by omega,Holds.to (by assumption)⟩,by omega⟩)
                | (have hno : ¬ (isIn P i ∨ inS wo (i : Int) = true):=fun h=>h.elim (fun h=>hnin h) (fun h=>by rw [h] at hnwo; cases hnwo)
                   have esm : smF c s0 P i = sm c P (i : Int):=if_neg (fun h=>by first|exact hnz (by rw [h.1]; rfl)|exact hnst (by have:=h.2; omega))
                   first
                   | (have e1:=bst_nearer (N:=N) (c:=c) (s0:=s0) (wo:=wo) (P:=P) (i:=i) (by omega) hno (by rw [esm]; exact hnear)
                      exact ⟨i + 1,⟨rfl,rfl,rfl,rfl,rfl,rfl,rfl,by rw [e1]; rfl,by rw [e1,← esm]; rfl,rfl,trivial⟩,⟨rfl,by omega,Holds.to (by assumption)⟩,by omega⟩)
                   | (have e1:=bst_farther (N:=N) (c:=c) (s0:=s0) (wo:=wo) (P:=P) (i:=i) (by omega) hno (by rw [esm]; exact hfar)
                      exact ⟨i + 1,⟨rfl,rfl,rfl,rfl,rfl,rfl,rfl,by rw [e1]; rfl,by rw [e1]; rfl,rfl,trivial⟩,⟨rfl,by omega,Holds.to (by assumption)⟩,by omega⟩))
                | (have hno : ¬ (isIn P i ∨ inS wo (i : Int) = true):=fun h=>h.elim (fun h=>hnin h) (fun h=>by rw [h] at hnwo; cases hnwo)
                   have esm : smF c s0 P i = 0:=if_pos ⟨List.length_eq_zero_iff.1 (by omega),by omega⟩
                   first
                   | (have e1:=bst_nearer (N:=N) (c:=c) (s0:=s0) (wo:=wo) (P:=P) (i:=i) (by omega) hno (by rw [esm]; exact hnear)
                      exact ⟨i + 1,⟨rfl,rfl,rfl,rfl,rfl,rfl,rfl,by rw [e1]; rfl,by rw [e1,← esm]; rfl,rfl,trivial⟩,⟨rfl,by omega,Holds.to (by assumption)⟩,by omega⟩)
                   | (have e1:=bst_farther (N:=N) (c:=c) (s0:=s0) (wo:=wo) (P:=P) (i:=i) (by omega) hno (by rw [esm]; exact hfar)
                      exact ⟨i + 1,⟨rfl,rfl,rfl,rfl,rfl,rfl,rfl,by rw [e1]; rfl,by rw [e1]; rfl,rfl,trivial⟩,⟨rfl,by omega,Holds.to (by assumption)⟩,by omega⟩))
              · refine W.skip ?_
                refine hK11 _ _ _ ?_
                refine W.region ?_
                refine O.ex (Ex.move rfl) rfl ?_
                refine O.ex (by first|exact Ex.addI rfl rfl|exact Ex.add rfl rfl rfl) rfl ?_
                refine O.ex (Ex.assign rfl) rfl ?_
                refine O.nil ?_
                first
                | (have e1:=bst_out (N:=N) (c:=c) (s0:=s0) (wo:=wo) (P:=P) (i:=i) (by omega) (.inl hin)
                   exact ⟨i + 1,⟨rfl,rfl,rfl,rfl,rfl,rfl,rfl,by rw [e1]; rfl,by rw [e1]; rfl,rfl,trivial⟩,⟨rfl,by omega,Holds.to (by assumption)⟩,by omega⟩)
                | (have e1:=bst_out (N:=N) (c:=c) (s0:=s0) (wo:=wo) (P:=P) (i:=i) (by omega) (.inr hwo)
                   exact ⟨i + 1,⟨rfl,rfl,rfl,rfl,rfl,rfl,rfl,by rw [e1]; rfl,by rw [e1]; rfl,rfl,trivial⟩,⟨rfl,by omega,Holds.to (by assumption)⟩,by omega⟩)
                | (have hno : ¬ (isIn P i ∨ inS wo (i : Int) = true):=fun h=>h.elim (fun h=>hnin h) (fun h=>by rw [h] at hnwo; cases hnwo)
                   have esm : smF c s0 P i = sm c P (i : Int):=if_neg (fun h=>by first|exact hnz (by rw [h.1]; rfl)|exact hnst (by have:=h.2; omega))
                   first
                   | (have e1:=bst_nearer (N:=N) (c:=c) (s0:=s0) (wo:=wo) (P:=P) (i:=i) (by omega) hno (by rw [esm]; exact hnear)
                      exact ⟨i + 1,⟨rfl,rfl,rfl,rfl,rfl,rfl,rfl,by rw [e1]; rfl,by rw [e1,← esm]; rfl,rfl,trivial⟩,⟨rfl,by omega,Holds.to (by assumption)⟩,by omega⟩)
                   | (have e1:=bst_farther (N:=N) (c:=c) (s0:=s0) (wo:=wo) (P:=P) (i:=i) (by omega) hno (by rw [esm]; exact hfar)
                      exact ⟨i + 1,⟨rfl,rfl,rfl,rfl,rfl,rfl,rfl,by rw [e1]; rfl,by rw [e1]; rfl,rfl,trivial⟩,⟨rfl,by omega,Holds.to (by assumption)⟩,by omega⟩))
                | (have hno : ¬ (isIn P i ∨ inS wo (i : Int) = true):=fun h=>h.elim (fun h=>hnin h) (fun h=>by rw [h] at hnwo; cases hnwo)
                   have esm : smF c s0 P i = 0:=if_pos ⟨List.length_eq_zero_iff.1 (by omega),by omega⟩
                   first
                   | (have e1:=bst_nearer (N:=N) (c:=c) (s0:=s0) (wo:=wo) (P:=P) (i:=i) (by omega) hno (by rw [esm]; exact hnear)
                      exact ⟨i + 1,⟨rfl,rfl,rfl,rfl,rfl,rfl,rfl,by rw [e1]; rfl,by rw [e1,← esm]; rfl,rfl,trivial⟩,⟨rfl,by omega,Holds.to (by assumption)⟩,by omega⟩)
                   | (have e1:=bst_farther (N:=N) (c:=c) (s0:=s0) (wo:=wo) (P:=P) (i:=i) (by omega) hno (by rw [esm]; exact hfar)
                      exact ⟨i + 1,⟨rfl,rfl,rfl,rfl,rfl,rfl,rfl,by rw [e1]; rfl,by rw [e1]; rfl,rfl,trivial⟩,⟨rfl,by omega,Holds.to (by assumption)⟩,by omega⟩))
            · refine W.skip ?_
              refine hK15 _ _ _ ?_
              refine W.seq (fun K19 hK19=>?_)
              refine W.region ?_
              refine O.ex (Ex.move rfl) rfl ?_
              refine O.ex (Ex.move rfl) rfl ?_
              refine O.ex (Ex.lss rfl rfl) rfl ?_
              refine O.nil ?_
              refine hK19 _ _ _ ?_
              first|refine W.cond_p rfl (fun hnear=>?_) (fun hfar=>?_)|refine W.cond_b rfl (fun hnear=>?_) (fun hfar=>?_)
              · refine W.seq (fun K20 hK20=>?_)
                refine W.region ?_
                refine O.ex (Ex.move rfl) rfl ?_
                refine O.ex (Ex.assign rfl) rfl ?_
                refine O.nil ?_
                refine hK20 _ _ _ ?_
                refine W.region ?_
                refine O.ex (Ex.move rfl) rfl ?_
                refine O.ex (Ex.assign rfl) rfl ?_
                refine O.nil ?_
                refine hK11 _ _ _ ?_
                refine W.region ?_
                refine O.ex (Ex.move rfl) rfl ?_
                refine O.ex (by first|exact Ex.addI rfl rfl|exact Ex.add rfl rfl rfl) rfl ?_
                refine O.ex (Ex.assign rfl) rfl ?_
                refine O.nil ?_
                first
                | (have e1:=bst_out (N:=N) (c:=c) (s0:=s0) (wo:=wo) (P:=P) (i:=i) (by omega) (.inl hin)
                   exact ⟨i + 1,⟨rfl,rfl,rfl,rfl,rfl,rfl,rfl,by rw [e1]; rfl,by rw [e1]; rfl,rfl,trivial⟩,⟨rfl,by omega,Holds.to (by assumption)⟩,by omega⟩)
                | (have e1:=bst_out (N:=N) (c:=c) (s0:=s0) (wo:=wo) (P:=P) (i:=i) (by omega) (.inr hwo)
                   exact ⟨i + 1,⟨rfl,rfl,rfl,rfl,rfl,rfl,rfl,by rw [e1]; rfl,by rw [e1]; rfl,rfl,trivial⟩,⟨rfl,by omega,Holds.to (by assumption)⟩,by omega⟩)
                | (have hno : ¬ (isIn P i ∨ inS wo (i : Int) = true):=fun h=>h.elim (fun h=>hnin h) (fun h=>by rw [h] at hnwo; cases hnwo)
                   have esm : smF c s0 P i = sm c P (i : Int):=if_neg (fun h=>by first|exact hnz (by rw [h.1]; rfl)|exact hnst (by have:=h.2; omega))
                   first
                   | (have e1:=bst_nearer (N:=N) (c:=c) (s0:=s0) (wo:=wo) (P:=P) (i:=i) (by omega) hno (by rw [esm]; exact hnear)
                      exact ⟨i + 1,⟨rfl,rfl,rfl,rfl,rfl,rfl,rfl,by rw [e1]; rfl,by rw [e1,← esm]; rfl,rfl,trivial⟩,⟨rfl,by omega,Holds.to (by assumption)⟩,by omega⟩)
                   | (have e1:=bst_farther (N:=N) (c:=c) (s0:=s0) (wo:=wo) (P:=P) (i:=i) (by omega) hno (by rw [esm]; exact hfar)
                      exact ⟨i + 1,⟨rfl,rfl,rfl,rfl,rfl,rfl,rfl,by rw [e1]; rfl,by rw [e1]; rfl,rfl,trivial⟩,⟨rfl,by omega,Holds.to (by assumption)⟩,by omega⟩))
                | (have hno : ¬ (isIn P i ∨ inS wo (i : Int) = true):=fun h=>h.elim (fun h=>hnin h) (fun h=>by rw [h] at hnwo; cases hnwo)
                   have esm : smF c s0 P i = 0:=if_pos ⟨List.length_eq_zero_iff.1 (by omega),by omega⟩
                   first
                   | (have e1:=bst_nearer (N:=N) (c:=c) (s0:=s0) (wo:=wo) (P:=P) (i:=i) (by omega) hno (by rw [esm]; exact hnear)
                      exact ⟨i + 1,⟨rfl,rfl,rfl,rfl,rfl,rfl,rfl,by rw [e1]; rfl,by rw [e1,← esm]; rfl,rfl,trivial⟩,⟨rfl,by omega,Holds.to (by assumption)⟩,by omega⟩)
                   | (have e1:=bst_farther (N:=N) (c:=c) (s0:=s0) (wo:=wo) (P:=P) (i:=i) (by omega) hno (by rw [esm]; exact hfar)
                      exact ⟨i + 1,⟨rfl,rfl,rfl,rfl,rfl,rfl,rfl,by rw [e1]; rfl,by rw [e1]; rfl,rfl,trivial⟩,⟨rfl,by omega,Holds.to (by assumption)⟩,by omega⟩))
              · refine W.skip ?_
                refine hK11 _ _ _ ?_
                refine W.region ?_
                refine O.ex (Ex.move rfl) rfl ?_
                refine O.ex (by first|exact Ex.addI rfl rfl|exact Ex.add rfl rfl rfl) rfl ?_
                refine O.ex (Ex.assign rfl) rfl ?_
                refine O.nil ?_
                first
                | (have e1:=bst_out (N:=N) (c:=c) (s0:=s0) (wo:=wo) (P:=P) (i:=i) (by omega) (.inl hin)
                   exact ⟨i + 1,⟨rfl,rfl,rfl,rfl,rfl,rfl,rfl,by rw [e1]; rfl,by rw [e1]; rfl,rfl,trivial⟩,⟨rfl,by omega,Holds.to (by assumption)⟩,by omega⟩)
                | (have e1:=bst_out (N:=N) (c:=c) (s0:=s0) (wo:=wo) (P:=P) (i:=i) (by omega) (.inr hwo)
                   exact ⟨i + 1,⟨rfl,rfl,rfl,rfl,rfl,rfl,rfl,by rw [e1]; rfl,by rw [e1]; rfl,rfl,trivial⟩,⟨rfl,by omega,Holds.to (by assumption)⟩,by omega⟩)
                | (have hno : ¬ (isIn P i ∨ inS wo (i : Int) = true):=fun h=>h.elim (fun h=>hnin h) (fun h=>by rw [h] at hnwo; cases hnwo)
                   have esm : smF c s0 P i = sm c P (i : Int):=if_neg (fun h=>by first|exact hnz (by rw [h.1]; rfl)|exact hnst (by have:=h.2; omega))
                   first
                   | (have e1:=bst_nearer (N:=N) (c:=c) (s0:=s0) (wo:=wo) (P:=P) (i:=i) (by omega) hno (by rw [esm]; exact hnear)
                      exact ⟨i + 1,⟨rfl,rfl,rfl,rfl,rfl,rfl,rfl,by rw [e1]; rfl,by rw [e1,← esm]; rfl,rfl,trivial⟩,⟨rfl,by omega,Holds.to (by assumption)⟩,by omega⟩)
                   | (have e1:=bst_farther (N:=N) (c:=c) (s0:=s0) (wo:=wo) (P:=P) (i:=i) (by omega) hno (by rw [esm]; exact hfar)
                      exact ⟨i + 1,⟨rfl,rfl,rfl,rfl,rfl,rfl,rfl,by rw [e1]; rfl,by rw [e1]; rfl,rfl,trivial⟩,⟨rfl,by omega,Holds.to (by assumption)⟩,by omega⟩))
                | (have hno : ¬ (isIn P i ∨ inS wo (i : Int) = true):=fun h=>h.elim (fun h=>hnin h) (fun h=>by rw [h] at hnwo; cases hnwo)
                   have esm : smF c s0 P i = 0:=if_pos ⟨List.length_eq_zero_iff.1 (by omega),by omega⟩
                   first
                   | (have e1:=bst_nearer (N:=N) (c:=c) (s0:=s0) (wo:=wo) (P:=P) (i:=i) (by omega) hno (by rw [esm]; exact hnear)
                      exact ⟨i + 1,⟨rfl,rfl,rfl,rfl,rfl,rfl,rfl,by rw [e1]; rfl,by rw [e1,← esm]; rfl,rfl,trivial⟩,⟨rfl,by omega,Holds.to (by assumption)⟩,by omega⟩)
                   | (have e1:=bst_farther (N:=N) (c:=c) (s0:=s0) (wo:=wo) (P:=P) (i:=i) (by omega) hno (by rw [esm]; exact hfar)
                      exact ⟨i + 1,⟨rfl,rfl,rfl,rfl,rfl,rfl,rfl,by rw [e1]; rfl,by rw [e1]; rfl,rfl,trivial⟩,⟨rfl,by omega,Holds.to (by assumption)⟩,by omega⟩))
          · refine O.guard_f rfl rfl rfl rfl ?_
            refine O.guard_f rfl rfl rfl rfl ?_
            refine O.guard_f rfl rfl rfl rfl ?_
            refine O.ex (Ex.pick_f rfl rfl) rfl ?_
            refine O.nil ?_
            refine hK16 _ _ _ ?_
            refine W.cond_f rfl ?_
            refine W.skip ?_
            refine hK15 _ _ _ ?_
            refine W.seq (fun K21 hK21=>?_)
            refine W.region ?_
            refine O.ex (Ex.move rfl) rfl ?_
            refine O.ex (Ex.move rfl) rfl ?_
            refine O.ex (Ex.lss rfl rfl) rfl ?_
            refine O.nil ?_
            refine hK21 _ _ _ ?_
            first|refine W.cond_p rfl (fun hnear=>?_) (fun hfar=>?_)|refine W.cond_b rfl (fun hnear=>?_) (fun hfar=>?_)
            · refine W.seq (fun K22 hK22=>?_)
              refine W.region ?_
              refine O.ex (Ex.move rfl) rfl ?_
              refine O.ex (Ex.assign rfl) rfl ?_
              refine O.nil ?_
              refine hK22 _ _ _ ?_
              refine W.region ?_
              refine O.ex (Ex.move rfl) rfl ?_
              refine O.ex (Ex.assign rfl) rfl ?_
              refine O.nil ?_
              refine hK11 _ _ _ ?_
              refine W.region ?_
              refine O.ex (Ex.move rfl) rfl ?_
              refine O.ex (by first|exact Ex.addI rfl rfl|exact Ex.add rfl rfl rfl) rfl ?_
              refine O.ex (Ex.assign rfl) rfl ?_
              refine O.nil ?_
              first
              | (have e1:=bst_out (N:=N) (c:=c) (s0:=s0) (wo:=wo) (P:=P) (i:=i) (by omega) (.inl hin)
                 exact ⟨i + 1,⟨rfl,rfl,rfl,rfl,rfl,rfl,rfl,by rw [e1]; rfl,by rw [e1]; rfl,rfl,trivial⟩,⟨rfl,by omega,Holds.to (by assumption)⟩,by omega⟩)
              | (have e1:=bst_out (N:=N) (c:=c) (s0:=s0) (wo:=wo) (P:=P) (i:=i) (by omega) (.inr hwo)
                 exact ⟨i + 1,⟨rfl,rfl,rfl,rfl,rfl,rfl,rfl,by rw [e1]; rfl,by rw [e1]; rfl,rfl,trivial⟩,⟨rfl,by omega,Holds.to (by assumption)⟩,by omega⟩)
              | (have hno : ¬ (isIn P i ∨ inS wo (i : Int) = true):=fun h=>h.elim (fun h=>hnin h) (fun h=>by rw [h] at hnwo; cases hnwo)
                 have esm : smF c s0 P i = sm c P (i : Int):=if_neg (fun h=>by first|exact hnz (by rw [h.1]; rfl)|exact hnst (by have:=h.2; omega))
                 first
                 | (have e1:=bst_nearer (N:=N) (c:=c) (s0:=s0) (wo:=wo) (P:=P) (i:=i) (by omega) hno (by rw [esm]; exact hnear)
                    exact ⟨i + 1,⟨rfl,rfl,rfl,rfl,rfl,rfl,rfl,by rw [e1]; rfl,by rw [e1,← esm]; rfl,rfl,trivial⟩,⟨rfl,by omega,Holds.to (by assumption)⟩,by omega⟩)
                 | (have e1:=bst_farther (N:=N) (c:=c) (s0:=s0) (wo:=wo) (P:=P) (i:=i) (by omega) hno (by rw [esm]; exact hfar)
                    exact ⟨i + 1,⟨rfl,rfl,rfl,rfl,rfl,rfl,rfl,by rw [e1]; rfl,by rw [e1]; rfl,rfl,trivial⟩,⟨rfl,by omega,Holds.to (by assumption)⟩,by omega⟩))
              | (have hno : ¬ (isIn P i ∨ inS wo (i : Int) = true):=fun h=>h.elim (fun h=>hnin h) (fun h=>by rw [h] at hnwo; cases hnwo)
                 have esm : smF c s0 P i = 0:=if_pos ⟨List.length_eq_zero_iff.1 (by omega),by omega⟩
                 first
                 | (have e1:=bst_nearer (N:=N) (c:=c) (s0:=s0) (wo:=wo) (P:=P) (i:=i) (by omega) hno (by rw [esm]; exact hnear)
                    exact ⟨i + 1,⟨rfl,rfl,rfl,rfl,rfl,rfl,rfl,by rw [e1]; rfl,by rw [e1,← esm]; rfl,rfl,trivial⟩,⟨rfl,by omega,Holds.to (by assumption)⟩,by omega⟩)
                 | (have e1:=bst_farther (N:=N) (c:=c) (s0:=s0) (wo:=wo) (P:=P) (i:=i) (by omega) hno (by rw [esm]; exact hfar)
                    exact ⟨i + 1,⟨rfl,rfl,rfl,rfl,rfl,rfl,rfl,by rw [e1]; rfl,by rw [e1]; rfl,rfl,trivial⟩,⟨rfl,by omega,Holds.to (by assumption)⟩,by omega⟩))
            · refine W.skip ?_
              refine hK11 _ _ _ ?_
              refine W.region ?_
              refine O.ex (Ex.move rfl) rfl ?_
              refine O.ex (by first|exact Ex.addI rfl rfl|exact Ex.add rfl rfl rfl) rfl ?_
              refine O.ex (Ex.assign rfl) rfl ?_
              refine O.nil ?_
              first
              | (have e1:=bst_out (N:=N) (c:=c) (s0:=s0) (wo:=wo) (P:=P) (i:=i) (by omega) (.inl hin)
                 exact ⟨i + 1,⟨rfl,rfl,rfl,rfl,rfl,rfl,rfl,by rw [e1]; rfl,by rw [e1]; rfl,rfl,trivial⟩,⟨rfl,by omega,Holds.to (by assumption)⟩,by omega⟩)
              | (have e1:=bst_out (N:=N) (c:=c) (s0:=s0) (wo:=wo) (P:=P) (i:=i) (by omega) (.inr hwo)
                 exact ⟨i + 1,⟨rfl,rfl,rfl,rfl,rfl,rfl,rfl,by rw [e1]; rfl,by rw [e1]; rfl,rfl,trivial⟩,⟨rfl,by omega,Holds.to (by assumption)⟩,by omega⟩)
              | (have hno : ¬ (isIn P i ∨ inS wo (i : Int) = true):=fun h=>h.elim (fun h=>hnin h) (fun h=>by rw [h] at hnwo; cases hnwo)
                 have esm : smF c s0 P i = sm c P (i : Int):=if_neg (fun h=>by first|exact hnz (by rw [h.1]; rfl)|exact hnst (by have:=h.2; omega))
                 first
                 | (have e1:=bst_nearer (N:=N) (c:=c) (s0:=s0) (wo:=wo) (P:=P) (i:=i) (by omega) hno (by rw [esm]; exact hnear)
                    exact ⟨i + 1,⟨rfl,rfl,rfl,rfl,rfl,rfl,rfl,by rw [e1]; rfl,by rw [e1,← esm]; rfl,rfl,trivial⟩,⟨rfl,by omega,Holds.to (by assumption)⟩,by omega⟩)
                 | (have e1:=bst_farther (N:=N) (c:=c) (s0:=s0) (wo:=wo) (P:=P) (i:=i) (by omega) hno (by rw [esm]; exact hfar)
                    exact ⟨i + 1,⟨rfl,rfl,rfl,rfl,rfl,rfl,rfl,by rw [e1]; rfl,by rw [e1]; rfl,rfl,trivial⟩,⟨rfl,by omega,Holds.to (by assumption)⟩,by omega⟩))
              | (have hno : ¬ (isIn P i ∨ inS wo (i : Int) = true):=fun h=>h.elim (fun h=>hnin h) (fun h=>by rw [h] at hnwo; cases hnwo)
                 have esm : smF c s0 P i = 0:=if_pos ⟨List.length_eq_zero_iff.1 (by omega),by omega⟩
                 first
                 | (have e1:=bst_nearer (N:=N) (c:=c) (s0:=s0) (wo:=wo) (P:=P) (i:=i) (by omega) hno (by rw [esm]; exact hnear)
                    exact ⟨i + 1,⟨rfl,rfl,rfl,rfl,rfl,rfl,rfl,by rw [e1]; rfl,by rw [e1,← esm]; rfl,rfl,trivial⟩,⟨rfl,by omega,Holds.to (by assumption)⟩,by omega⟩)
                 | (have e1:=bst_farther (N:=N) (c:=c) (s0:=s0) (wo:=wo) (P:=P) (i:=i) (by omega) hno (by rw [esm]; exact hfar)
                    exact ⟨i + 1,⟨rfl,rfl,rfl,rfl,rfl,rfl,rfl,by rw [e1]; rfl,by rw [e1]; rfl,rfl,trivial⟩,⟨rfl,by omega,Holds.to (by assumption)⟩,by omega⟩))
    · refine W.exit ?_
      refine hK7 _ _ _ ?_
      refine W.seq (fun K23 hK23=>?_)
      refine W.seq (fun K24 hK24=>?_)
      refine W.region ?_
      rw [show i = N by omega,bst_all]
      refine O.ex (Ex.move rfl) rfl ?_
      refine O.ex (Ex.lss rfl rfl) rfl ?_
      refine O.ex (Ex.move rfl) rfl ?_
      first|refine O.split_p (t:=66) rfl (fun hnone=>?_) (fun hsome=>?_)|refine O.split (t:=66) rfl (fun hnone=>?_) (fun hsome=>?_)
      · refine O.guard_f rfl rfl rfl rfl ?_
        refine O.guard_f rfl rfl rfl rfl ?_
        refine O.guard_f rfl rfl rfl rfl ?_
        refine O.guard_f rfl rfl rfl rfl ?_
        refine O.ex (Ex.pick_t rfl rfl) rfl ?_
        refine O.nil ?_
        refine hK24 _ _ _ ?_
        refine W.cond_t rfl ?_
        refine W.exit ?_
        refine hK2 _ _ _ ?_
        refine W.seq (fun K25 hK25=>?_)
        refine W.seq (fun K26 hK26=>?_)
        refine W.region ?_
        refine O.ex (Ex.assign rfl) rfl ?_
        refine O.nil ?_
        refine hK26 _ _ _ ?_
        refine W.block ?_
        have hst : stopP N c s0 wo settles most j:=by
          rw [stopP,← hP]
          first
          | exact .inl (by omega)
          | (refine .inr fun b hb=>?_
             rw [hb] at hnone; unfold nI at hnone; dsimp only at hnone; omega)
          | (refine .inr fun b hb=>?_
             rw [hb] at hfarther; exact hfarther)
        have H : Holds w (pt b11 (.cells #[sv,dv,s22] 141 (0,0))::arr 3 (Value.int .i64) sv (P.map Prod.fst)::arr 3 (Value.int .i64) dv (P.map Prod.snd)::arr 4 Value.bool s22 (tl N (tlo N c wo P 0))::pt b10 (.cells #[.slice none 0 0,.slice none 0 0,.slice none 0 0] 141 (0,0))::Rh r n c::L):=by
          rw [tlo_zero]; exact Holds.to (by assumption)
        refine W.loop (σ:=Nat) (fun i=>[(0,.pointer (some ⟨r,0,none⟩)),(2,.int .u64 (wo : Int)),(10,.pointer (some ⟨b10,0,none⟩)),(11,.pointer (some ⟨b11,0,none⟩)),(16,.int .i64 (i : Int))])
          (fun i ds w=>ds = [] ∧ i ≤ N ∧ Holds w (pt b11 (.cells #[sv,dv,s22] 141 (0,0))::arr 3 (Value.int .i64) sv (P.map Prod.fst)::arr 3 (Value.int .i64) dv (P.map Prod.snd)::arr 4 Value.bool s22 (tl N (tlo N c wo P i))::pt b10 (.cells #[.slice none 0 0,.slice none 0 0,.slice none 0 0] 141 (0,0))::Rh r n c::L)) (fun i=>N - i) 0 ⟨rfl,rfl,rfl,rfl,rfl,trivial⟩ ⟨rfl,by omega,H⟩ ?_
        clear H
        rintro i _ w ⟨rfl,hi,H⟩
        have l3 : (tl N (tlo N c wo P i)).length = N:=tl_len _
        refine W.seq (fun K27 hK27=>?_)
        refine W.seq (fun K28 hK28=>?_)
        refine W.region ?_
        refine O.ex (Ex.move rfl) rfl ?_
        refine O.ex (Ex.move rfl) rfl ?_
        refine O.ex (by first|exact Ex.nilPtr rfl|exact Ex.nilFunc rfl|exact Ex.nilYield rfl) rfl ?_
        have H:=rh_open.1 (Holds.to (M:=Rh r n c::pt b11 (.cells #[sv,dv,s22] 141 (0,0))::arr 3 (Value.int .i64) sv (P.map Prod.fst)::arr 3 (Value.int .i64) dv (P.map Prod.snd)::arr 4 Value.bool s22 (tl N (tlo N c wo P i))::pt b10 (.cells #[.slice none 0 0,.slice none 0 0,.slice none 0 0] 141 (0,0))::L) (by assumption))
        refine O.ex (by first|exact Ex.field0 fld114_0 rfl|exact Ex.field fld114_0 rfl|exact Ex.fieldS fld114_0 rfl) rfl ?_
        refine O.ex (by first|exact Ex.loadMh Tryz.isAgg3 rfl|exact Ex.loadP Tryz.isAgg3 rfl|exact Ex.loadM Tryz.isAgg3 rfl|exact Ex.loadIn1 Tryz.isAgg3 rfl (Holds.to (by assumption))|exact Ex.loadVc Tryz.isAgg3 rfl|exact Ex.loadR Tryz.isAgg3 rfl|exact Ex.loadQ Tryz.isAgg3 rfl) rfl ?_
        refine O.ex (Ex.lss rfl rfl) rfl ?_
        refine O.nil ?_
        refine hK28 _ _ _ ?_
        first|refine W.cond_p rfl (fun hltC=>?_) (fun hgeC=>?_)|refine W.cond_b rfl (fun hltC=>?_) (fun hgeC=>?_)
        · refine W.skip ?_
          refine hK27 _ _ _ ?_
          refine W.seq (fun K29 hK29=>?_)
          refine W.block ?_
          refine W.seq (fun K30 hK30=>?_)
          have s3:=arr_sl (T:=4) (e:=Value.bool) (v:=s22) (xs:=tl N (tlo N c wo P i)) (Holds.to (by assumption)) (by omega)
          rw [l3] at s3
          refine W.drawTo _ (.take 0 (.take 1 (.take 2 (.take 3 (.take 4 (.take 5 (.one 6 (.take 7 (.one 8 .nil))))))))) (mixed) (fun _ _ _ _ h=>h) (by assumption) (PP.refl _) (by decide +kernel) (fun w H=>?_)
          refine OQ.ex rfl (fun w H=>(by first|exact Ex.field0 fld141_2 rfl|exact Ex.field fld141_2 rfl|exact Ex.fieldS fld141_2 rfl)) rfl ?_
          refine OQ.ex rfl (fun w H=>(by first|exact Ex.loadMh Tryz.isAgg74 rfl|exact Ex.loadP Tryz.isAgg74 rfl|exact Ex.loadM Tryz.isAgg74 rfl|exact Ex.loadIn1 Tryz.isAgg74 rfl (Holds.to (by assumption))|exact Ex.loadVc Tryz.isAgg74 rfl|exact Ex.loadR Tryz.isAgg74 rfl|exact Ex.loadQ Tryz.isAgg74 rfl)) rfl ?_
          refine OQ.ex rfl (fun w H=>(Ex.move rfl)) rfl ?_
          refine OQ.ex rfl (fun w H=>(by first|exact Ex.field0 fld141_0 rfl|exact Ex.field fld141_0 rfl|exact Ex.fieldS fld141_0 rfl)) rfl ?_
          refine OQ.ex rfl (fun w H=>(by first|exact Ex.loadMh Tryz.isAgg28 rfl|exact Ex.loadP Tryz.isAgg28 rfl|exact Ex.loadM Tryz.isAgg28 rfl|exact Ex.loadIn1 Tryz.isAgg28 rfl (Holds.to (by assumption))|exact Ex.loadVc Tryz.isAgg28 rfl|exact Ex.loadR Tryz.isAgg28 rfl|exact Ex.loadQ Tryz.isAgg28 rfl)) rfl ?_
          refine OQ.ex rfl (fun w H=>(Ex.move rfl)) rfl ?_
          refine OQ.step rfl ?_
          refine O.callF Tryz.call101 rfl rfl (CT.mono (hasL_ct (xs:=P.map Prod.fst) (by omega) (Holds.to (by assumption))) ?_)
          rintro _ w ⟨rfl,H⟩
          refine O.thenNil ⟨(by first|exact Holds.to (by assumption)|assumption),?_⟩
          refine OQ.ex rfl (fun w H=>(by first|exact Ex.idxR Tryz.runUnderlying74 Tryz.sizeOf4 rfl rfl|exact Ex.idxIn Tryz.runUnderlying74 Tryz.sizeOf4 rfl rfl|exact Ex.idxS Tryz.runUnderlying74 Tryz.sizeOf4 rfl rfl|exact Ex.idx Tryz.runUnderlying74 Tryz.sizeOf4 rfl rfl (by omega) (by omega))) rfl ?_
          refine OQ.last rfl (by decide +kernel) ?_
          first|refine O.storeP Tryz.sizeOf4 rfl rfl (fun w H=>?_)|refine O.storeR Tryz.sizeOf4 rfl rfl (fun w H=>?_)|refine O.storeM Tryz.sizeOf4 rfl rfl (fun w H=>?_)|refine O.storeVc Tryz.sizeOf4 rfl rfl (fun w H=>?_)
          refine O.nil ?_
          refine hK30 _ _ _ ?_
          refine W.seq (fun K31 hK31=>?_)
          refine W.region ?_
          refine O.ex (Ex.assign rfl) rfl ?_
          refine O.nil ?_
          refine hK31 _ _ _ ?_
          refine W.block ?_
          have hiN : i < N:=by omega
          have H : Holds w (pt b11 (.cells #[sv,dv,s22] 141 (0,0))::arr 3 (Value.int .i64) sv (P.map Prod.fst)::arr 3 (Value.int .i64) dv (P.map Prod.snd)::arr 4 Value.bool s22 (tl N (tli N c wo P i 0))::pt b10 (.cells #[.slice none 0 0,.slice none 0 0,.slice none 0 0] 141 (0,0))::Rh r n c::L):=by
            have e2:=tl_set (tlo N c wo P i) hiN (decide (isIn P i))
            rw [show (tl N (tli N c wo P i 0)) = (tl N (tlo N c wo P i)).set i (decide (isIn P i)) from by rw [e2]; exact tl_congr fun x hx=>by unfold tli; rw [tqi_zero]]
            exact Holds.to (by assumption)
          refine W.loop (σ:=Nat) (fun k=>[(0,.pointer (some ⟨r,0,none⟩)),(2,.int .u64 (wo : Int)),(10,.pointer (some ⟨b10,0,none⟩)),(11,.pointer (some ⟨b11,0,none⟩)),(16,.int .i64 (i : Int)),(17,.int .i64 (k : Int))])
            (fun k ds w=>ds = [] ∧ k ≤ P.length ∧ Holds w (pt b11 (.cells #[sv,dv,s22] 141 (0,0))::arr 3 (Value.int .i64) sv (P.map Prod.fst)::arr 3 (Value.int .i64) dv (P.map Prod.snd)::arr 4 Value.bool s22 (tl N (tli N c wo P i k))::pt b10 (.cells #[.slice none 0 0,.slice none 0 0,.slice none 0 0] 141 (0,0))::Rh r n c::L)) (fun k=>P.length - k) 0 ⟨rfl,rfl,rfl,rfl,rfl,rfl,trivial⟩ ⟨rfl,by omega,H⟩ ?_
          clear H
          rintro k _ w ⟨rfl,hk,H⟩
          have l4 : (tl N (tli N c wo P i k)).length = N:=tl_len _
          refine W.seq (fun K32 hK32=>?_)
          refine W.seq (fun K33 hK33=>?_)
          refine W.region ?_
          refine O.ex (Ex.move rfl) rfl ?_
          refine O.ex (by first|exact Ex.field0 fld141_0 rfl|exact Ex.field fld141_0 rfl|exact Ex.fieldS fld141_0 rfl) rfl ?_
          refine O.ex (by first|exact Ex.loadMh Tryz.isAgg28 rfl|exact Ex.loadP Tryz.isAgg28 rfl|exact Ex.loadM Tryz.isAgg28 rfl|exact Ex.loadIn1 Tryz.isAgg28 rfl (Holds.to (by assumption))|exact Ex.loadVc Tryz.isAgg28 rfl|exact Ex.loadR Tryz.isAgg28 rfl|exact Ex.loadQ Tryz.isAgg28 rfl) rfl ?_
          refine O.ex (by first|exact Ex.lenR Tryz.runUnderlying28 rfl|exact Ex.lenIn Tryz.runUnderlying28 rfl|exact Ex.lenL Tryz.runUnderlying28 rfl|exact Ex.len rfl Tryz.runUnderlying28 rfl) rfl ?_
          refine O.ex (Ex.lss rfl rfl) rfl ?_
          refine O.nil ?_
          refine hK33 _ _ _ ?_
          first|refine W.cond_p rfl (fun hltD=>?_) (fun hgeD=>?_)|refine W.cond_b rfl (fun hltD=>?_) (fun hgeD=>?_)
          · refine W.skip ?_
            refine hK32 _ _ _ ?_
            refine W.seq (fun K34 hK34=>?_)
            refine W.block ?_
            refine W.seq (fun K35 hK35=>?_)
            refine W.region ?_
            refine O.ex (Ex.move rfl) rfl ?_
            refine O.ex (Ex.move rfl) rfl ?_
            refine O.callF Tryz.call114 rfl rfl (CT.mono (refHas_ct (Holds.to (by assumption)) hw) ?_)
            rintro _ w ⟨rfl,H⟩
            refine O.ex (by first|exact Ex.notD rfl|exact Ex.not rfl) rfl ?_
            refine O.ex (Ex.move rfl) rfl ?_
            first|refine O.split_p (t:=111) rfl (fun hin1=>?_) (fun hin2=>?_)|refine O.split (t:=111) rfl (fun hin1=>?_) (fun hin2=>?_)
            · refine O.guard_t rfl rfl ?_
              refine O.ex (Ex.move rfl) rfl ?_
              refine O.guard_t rfl rfl ?_
              refine O.ex (by first|exact Ex.field0 fld141_0 rfl|exact Ex.field fld141_0 rfl|exact Ex.fieldS fld141_0 rfl) rfl ?_
              refine O.guard_t rfl rfl ?_
              refine O.ex (by first|exact Ex.loadMh Tryz.isAgg28 rfl|exact Ex.loadP Tryz.isAgg28 rfl|exact Ex.loadM Tryz.isAgg28 rfl|exact Ex.loadIn1 Tryz.isAgg28 rfl (Holds.to (by assumption))|exact Ex.loadVc Tryz.isAgg28 rfl|exact Ex.loadR Tryz.isAgg28 rfl|exact Ex.loadQ Tryz.isAgg28 rfl) rfl ?_
              refine O.guard_t rfl rfl ?_
              refine O.ex (Ex.move rfl) rfl ?_
              refine O.guard_t rfl rfl ?_
              refine O.ex (by first|exact Ex.idxR Tryz.runUnderlying28 Tryz.sizeOf3 rfl rfl|exact Ex.idxIn Tryz.runUnderlying28 Tryz.sizeOf3 rfl rfl|exact Ex.idxS Tryz.runUnderlying28 Tryz.sizeOf3 rfl rfl|exact Ex.idx Tryz.runUnderlying28 Tryz.sizeOf3 rfl rfl (by omega) (by omega)) rfl ?_
              refine O.guard_t rfl rfl ?_
              refine O.ex (by first|exact Ex.loadR Tryz.isAgg3 rfl|exact Ex.loadIn1 Tryz.isAgg3 rfl (Holds.to (by assumption))|exact Ex.loadP Tryz.isAgg3 rfl|exact Ex.loadMh Tryz.isAgg3 rfl|exact Ex.loadM Tryz.isAgg3 rfl|exact Ex.loadVc Tryz.isAgg3 rfl|exact Ex.loadQ Tryz.isAgg3 rfl) rfl ?_
              refine O.guard_t rfl rfl ?_
              refine O.ex (Ex.move rfl) rfl ?_
              refine O.guard_t rfl rfl ?_
              refine O.callF Tryz.call63 rfl rfl (CT.mono (refAt_ct hg (Holds.to (by assumption))) ?_)
              rintro _ w ⟨rfl,H⟩
              refine O.guard_t rfl rfl ?_
              refine O.ex (Ex.lss rfl rfl) rfl ?_
              refine O.ex (Ex.pick_t rfl rfl) rfl ?_
              refine O.nil ?_
              refine hK35 _ _ _ ?_
              first|refine W.cond_p rfl (fun hyes=>?_) (fun hno=>?_)|refine W.cond_b rfl (fun hyes=>?_) (fun hno=>?_)
              · refine W.region ?_
                refine O.ex (by first|exact Ex.field0 fld141_2 rfl|exact Ex.field fld141_2 rfl|exact Ex.fieldS fld141_2 rfl) rfl ?_
                refine O.ex (by first|exact Ex.loadMh Tryz.isAgg74 rfl|exact Ex.loadP Tryz.isAgg74 rfl|exact Ex.loadM Tryz.isAgg74 rfl|exact Ex.loadIn1 Tryz.isAgg74 rfl (Holds.to (by assumption))|exact Ex.loadVc Tryz.isAgg74 rfl|exact Ex.loadR Tryz.isAgg74 rfl|exact Ex.loadQ Tryz.isAgg74 rfl) rfl ?_
                refine O.ex (Ex.move rfl) rfl ?_
                refine O.ex (by first|exact Ex.idxR Tryz.runUnderlying74 Tryz.sizeOf4 rfl rfl|exact Ex.idxIn Tryz.runUnderlying74 Tryz.sizeOf4 rfl rfl|exact Ex.idxS Tryz.runUnderlying74 Tryz.sizeOf4 rfl rfl|exact Ex.idx Tryz.runUnderlying74 Tryz.sizeOf4 rfl rfl (by omega) (by omega)) rfl ?_
                first|refine O.storeP Tryz.sizeOf4 rfl rfl (fun w H=>?_)|refine O.storeR Tryz.sizeOf4 rfl rfl (fun w H=>?_)|refine O.storeM Tryz.sizeOf4 rfl rfl (fun w H=>?_)|refine O.storeVc Tryz.sizeOf4 rfl rfl (fun w H=>?_)
                refine O.nil ?_
                refine hK34 _ _ _ ?_
                refine W.region ?_
                refine O.ex (Ex.move rfl) rfl ?_
                refine O.ex (by first|exact Ex.addI rfl rfl|exact Ex.add rfl rfl rfl) rfl ?_
                refine O.ex (Ex.assign rfl) rfl ?_
                refine O.nil ?_
                have hkP : k < P.length:=by omega
                have e3:=tqi_succ (c:=c) (wo:=wo) P i k hkP
                first
                | (have e4 : tqi c wo P i (k + 1) = true:=by
                     rw [e3,show inS wo (i : Int) = false from by simpa using hin1,decide_eq_true (by rw [Int.toNat_natCast,map_getD P _ hkP] at hyes; omega)]; simp
                   have H : Holds w (pt b11 (.cells #[sv,dv,s22] 141 (0,0))::arr 3 (Value.int .i64) sv (P.map Prod.fst)::arr 3 (Value.int .i64) dv (P.map Prod.snd)::arr 4 Value.bool s22 (tl N (tli N c wo P i (k + 1)))::pt b10 (.cells #[.slice none 0 0,.slice none 0 0,.slice none 0 0] 141 (0,0))::Rh r n c::L):=by
                     rw [show (tl N (tli N c wo P i (k + 1))) = (tl N (tli N c wo P i k)).set i true from by
                       rw [tl_set _ hiN]; exact tl_congr fun x hx=>by
                         unfold tli
                         by_cases e : x = i
                         · rw [if_pos e,if_pos e,e4]
                         · rw [if_neg e,if_neg e,if_neg e]]
                     exact Holds.to (by assumption)
                   exact ⟨k + 1,⟨rfl,rfl,rfl,rfl,rfl,rfl,trivial⟩,⟨rfl,by omega,H⟩,by omega⟩)
                | (have e4 : tqi c wo P i (k + 1) = tqi c wo P i k:=by
                     rw [e3]
                     first
                     | (rw [show inS wo (i : Int) = true from by simpa using hin2]; simp)
                     | (rw [decide_eq_false (by rw [Int.toNat_natCast,map_getD P _ hkP] at hno; have:=(hg.dst (P[k]'hkP).1 i).2; omega)]; simp)
                   have e5 : tl N (tli N c wo P i (k + 1)) = tl N (tli N c wo P i k):=tl_congr fun x hx=>by unfold tli; rw [e4]
                   exact ⟨k + 1,⟨rfl,rfl,rfl,rfl,rfl,rfl,trivial⟩,⟨rfl,by omega,e5 ▸ Holds.to (by assumption)⟩,by omega⟩)
              · refine W.skip ?_
                refine hK34 _ _ _ ?_
                refine W.region ?_
                refine O.ex (Ex.move rfl) rfl ?_
                refine O.ex (by first|exact Ex.addI rfl rfl|exact Ex.add rfl rfl rfl) rfl ?_
                refine O.ex (Ex.assign rfl) rfl ?_
                refine O.nil ?_
                have hkP : k < P.length:=by omega
                have e3:=tqi_succ (c:=c) (wo:=wo) P i k hkP
                first
                | (have e4 : tqi c wo P i (k + 1) = true:=by
                     rw [e3,show inS wo (i : Int) = false from by simpa using hin1,decide_eq_true (by rw [Int.toNat_natCast,map_getD P _ hkP] at hyes; omega)]; simp
                   have H : Holds w (pt b11 (.cells #[sv,dv,s22] 141 (0,0))::arr 3 (Value.int .i64) sv (P.map Prod.fst)::arr 3 (Value.int .i64) dv (P.map Prod.snd)::arr 4 Value.bool s22 (tl N (tli N c wo P i (k + 1)))::pt b10 (.cells #[.slice none 0 0,.slice none 0 0,.slice none 0 0] 141 (0,0))::Rh r n c::L):=by
                     rw [show (tl N (tli N c wo P i (k + 1))) = (tl N (tli N c wo P i k)).set i true from by
                       rw [tl_set _ hiN]; exact tl_congr fun x hx=>by
                         unfold tli
                         by_cases e : x = i
                         · rw [if_pos e,if_pos e,e4]
                         · rw [if_neg e,if_neg e,if_neg e]]
                     exact Holds.to (by assumption)
                   exact ⟨k + 1,⟨rfl,rfl,rfl,rfl,rfl,rfl,trivial⟩,⟨rfl,by omega,H⟩,by omega⟩)
                | (have e4 : tqi c wo P i (k + 1) = tqi c wo P i k:=by
                     rw [e3]
                     first
                     | (rw [show inS wo (i : Int) = true from by simpa using hin2]; simp)
                     | (rw [decide_eq_false (by rw [Int.toNat_natCast,map_getD P _ hkP] at hno; have:=(hg.dst (P[k]'hkP).1 i).2; omega)]; simp)
                   have e5 : tl N (tli N c wo P i (k + 1)) = tl N (tli N c wo P i k):=tl_congr fun x hx=>by unfold tli; rw [e4]
                   exact ⟨k + 1,⟨rfl,rfl,rfl,rfl,rfl,rfl,trivial⟩,⟨rfl,by omega,e5 ▸ Holds.to (by assumption)⟩,by omega⟩)
            · refine O.guard_f rfl rfl rfl rfl ?_
              refine O.guard_f rfl rfl rfl rfl ?_
              refine O.guard_f rfl rfl rfl rfl ?_
              refine O.guard_f rfl rfl rfl rfl ?_
              refine O.guard_f rfl rfl rfl rfl ?_
              refine O.guard_f rfl rfl rfl rfl ?_
              refine O.guard_f rfl rfl rfl rfl ?_
              refine O.guard_f rfl rfl rfl rfl ?_
              refine O.guard_f rfl rfl rfl rfl ?_
              refine O.ex (Ex.pick_f rfl rfl) rfl ?_
              refine O.nil ?_
              refine hK35 _ _ _ ?_
              refine W.cond_f rfl ?_
              refine W.skip ?_
              refine hK34 _ _ _ ?_
              refine W.region ?_
              refine O.ex (Ex.move rfl) rfl ?_
              refine O.ex (by first|exact Ex.addI rfl rfl|exact Ex.add rfl rfl rfl) rfl ?_
              refine O.ex (Ex.assign rfl) rfl ?_
              refine O.nil ?_
              have hkP : k < P.length:=by omega
              have e3:=tqi_succ (c:=c) (wo:=wo) P i k hkP
              first
              | (have e4 : tqi c wo P i (k + 1) = true:=by
                   rw [e3,show inS wo (i : Int) = false from by simpa using hin1,decide_eq_true (by rw [Int.toNat_natCast,map_getD P _ hkP] at hyes; omega)]; simp
                 have H : Holds w (pt b11 (.cells #[sv,dv,s22] 141 (0,0))::arr 3 (Value.int .i64) sv (P.map Prod.fst)::arr 3 (Value.int .i64) dv (P.map Prod.snd)::arr 4 Value.bool s22 (tl N (tli N c wo P i (k + 1)))::pt b10 (.cells #[.slice none 0 0,.slice none 0 0,.slice none 0 0] 141 (0,0))::Rh r n c::L):=by
                   rw [show (tl N (tli N c wo P i (k + 1))) = (tl N (tli N c wo P i k)).set i true from by
                     rw [tl_set _ hiN]; exact tl_congr fun x hx=>by
                       unfold tli
                       by_cases e : x = i
                       · rw [if_pos e,if_pos e,e4]
                       · rw [if_neg e,if_neg e,if_neg e]]
                   exact Holds.to (by assumption)
                 exact ⟨k + 1,⟨rfl,rfl,rfl,rfl,rfl,rfl,trivial⟩,⟨rfl,by omega,H⟩,by omega⟩)
              | (have e4 : tqi c wo P i (k + 1) = tqi c wo P i k:=by
                   rw [e3]
                   first
                   | (rw [show inS wo (i : Int) = true from by simpa using hin2]; simp)
                   | (rw [decide_eq_false (by rw [Int.toNat_natCast,map_getD P _ hkP] at hno; have:=(hg.dst (P[k]'hkP).1 i).2; omega)]; simp)
                 have e5 : tl N (tli N c wo P i (k + 1)) = tl N (tli N c wo P i k):=tl_congr fun x hx=>by unfold tli; rw [e4]
                 exact ⟨k + 1,⟨rfl,rfl,rfl,rfl,rfl,rfl,trivial⟩,⟨rfl,by omega,e5 ▸ Holds.to (by assumption)⟩,by omega⟩)
          · refine W.exit ?_
            refine hK29 _ _ _ ?_
            refine W.region ?_
            refine O.ex (Ex.move rfl) rfl ?_
            refine O.ex (by first|exact Ex.addI rfl rfl|exact Ex.add rfl rfl rfl) rfl ?_
            refine O.ex (Ex.assign rfl) rfl ?_
            refine O.nil ?_
            obtain rfl : k = P.length:=by omega
            rw [tli_all c wo P hiN] at H
            exact ⟨i + 1,⟨rfl,rfl,rfl,rfl,rfl,trivial⟩,⟨rfl,by omega,Holds.to (by assumption)⟩,by omega⟩
        · refine W.exit ?_
          refine hK25 _ _ _ ?_
          refine W.seq (fun K36 hK36=>?_)
          refine W.region ?_
          have e9 : tl N (tlo N c wo P i) = tl N fun x=>decide (TQ N c wo P x):=by rw [show i = N by omega,tlo_end]
          have hs1 : sv.oneCell' = true:=arr_one (T:=3) (e:=Value.int .i64) (xs:=P.map Prod.fst) (Holds.to (by assumption))
          have hd1 : dv.oneCell' = true:=arr_one (T:=3) (e:=Value.int .i64) (xs:=P.map Prod.snd) (Holds.to (by assumption))
          refine O.ex (by first|exact Ex.loadAggP Tryz.isAgg141 Tryz.sizeOf141 rfl|exact Ex.loadAggN Tryz.isAgg141 Tryz.sizeOf141 rfl|exact Ex.loadIn Tryz.isAgg141 Tryz.sizeOf141 rfl (Holds.to (by assumption))) rfl ?_
          refine O.storeAggP Tryz.sizeOf141 rfl rfl rfl (by show (sv.oneCell' && (dv.oneCell' && (s22.oneCell' && _))) = true; rw [hs1,hd1,ht1]; rfl) (fun w H=>?_)
          refine O.nil ?_
          refine hK36 _ _ _ ?_
          refine W.ret ?_
          try dsimp only [thenQ,blockQ,retQ]
          first|refine ⟨_,⟨_,_,_,rfl,rfl,(by first|exact loadVar_mtx Tryz.isAgg141 Tryz.sizeOf141|exact loadVar_agg Tryz.isAgg141 Tryz.sizeOf141),rfl⟩,?_⟩|(refine retD_mark ?_; intro w H; refine ⟨_,⟨_,_,_,rfl,rfl,(by first|exact loadVar_mtx Tryz.isAgg141 Tryz.sizeOf141|exact loadVar_agg Tryz.isAgg141 Tryz.sizeOf141),rfl⟩,?_⟩)|(refine retD_mark2 ?_; intro w H; refine ⟨_,⟨_,_,_,rfl,rfl,(by first|exact loadVar_mtx Tryz.isAgg141 Tryz.sizeOf141|exact loadVar_agg Tryz.isAgg141 Tryz.sizeOf141),rfl⟩,?_⟩)
          rw [← hN,← hs]
          refine ⟨j,sv,dv,s22,hto,hst,rfl,⟨hs1,hd1,ht1⟩,?_⟩
          rw [← hP,← e9]
          exact Holds.to (by assumption)
      · refine O.guard_t rfl rfl ?_
        refine O.ex (Ex.move rfl) rfl ?_
        refine O.guard_t rfl rfl ?_
        refine O.ex (Ex.move rfl) rfl ?_
        refine O.guard_t rfl rfl ?_
        refine O.callF Tryz.call103 rfl rfl (CT.mono (refNormG_ct (Holds.to (by assumption))) ?_)
        rintro _ w ⟨rfl,H⟩
        refine O.guard_t rfl rfl ?_
        refine O.ex (Ex.gtr rfl rfl) rfl ?_
        refine O.ex (Ex.pick_f rfl rfl) rfl ?_
        refine O.nil ?_
        refine hK24 _ _ _ ?_
        first|refine W.cond_p rfl (fun hfarther=>?_) (fun hok2=>?_)|refine W.cond_b rfl (fun hfarther=>?_) (fun hok2=>?_)
        · refine W.exit ?_
          refine hK2 _ _ _ ?_
          refine W.seq (fun K37 hK37=>?_)
          refine W.seq (fun K38 hK38=>?_)
          refine W.region ?_
          refine O.ex (Ex.assign rfl) rfl ?_
          refine O.nil ?_
          refine hK38 _ _ _ ?_
          refine W.block ?_
          have hst : stopP N c s0 wo settles most j:=by
            rw [stopP,← hP]
            first
            | exact .inl (by omega)
            | (refine .inr fun b hb=>?_
               rw [hb] at hnone; unfold nI at hnone; dsimp only at hnone; omega)
            | (refine .inr fun b hb=>?_
               rw [hb] at hfarther; exact hfarther)
          have H : Holds w (pt b11 (.cells #[sv,dv,s22] 141 (0,0))::arr 3 (Value.int .i64) sv (P.map Prod.fst)::arr 3 (Value.int .i64) dv (P.map Prod.snd)::arr 4 Value.bool s22 (tl N (tlo N c wo P 0))::pt b10 (.cells #[.slice none 0 0,.slice none 0 0,.slice none 0 0] 141 (0,0))::Rh r n c::L):=by
            rw [tlo_zero]; exact Holds.to (by assumption)
          refine W.loop (σ:=Nat) (fun i=>[(0,.pointer (some ⟨r,0,none⟩)),(2,.int .u64 (wo : Int)),(10,.pointer (some ⟨b10,0,none⟩)),(11,.pointer (some ⟨b11,0,none⟩)),(16,.int .i64 (i : Int))])
            (fun i ds w=>ds = [] ∧ i ≤ N ∧ Holds w (pt b11 (.cells #[sv,dv,s22] 141 (0,0))::arr 3 (Value.int .i64) sv (P.map Prod.fst)::arr 3 (Value.int .i64) dv (P.map Prod.snd)::arr 4 Value.bool s22 (tl N (tlo N c wo P i))::pt b10 (.cells #[.slice none 0 0,.slice none 0 0,.slice none 0 0] 141 (0,0))::Rh r n c::L)) (fun i=>N - i) 0 ⟨rfl,rfl,rfl,rfl,rfl,trivial⟩ ⟨rfl,by omega,H⟩ ?_
          clear H
          rintro i _ w ⟨rfl,hi,H⟩
          have l3 : (tl N (tlo N c wo P i)).length = N:=tl_len _
          refine W.seq (fun K39 hK39=>?_)
          refine W.seq (fun K40 hK40=>?_)
          refine W.region ?_
          refine O.ex (Ex.move rfl) rfl ?_
          refine O.ex (Ex.move rfl) rfl ?_
          refine O.ex (by first|exact Ex.nilPtr rfl|exact Ex.nilFunc rfl|exact Ex.nilYield rfl) rfl ?_
          have H:=rh_open.1 (Holds.to (M:=Rh r n c::pt b11 (.cells #[sv,dv,s22] 141 (0,0))::arr 3 (Value.int .i64) sv (P.map Prod.fst)::arr 3 (Value.int .i64) dv (P.map Prod.snd)::arr 4 Value.bool s22 (tl N (tlo N c wo P i))::pt b10 (.cells #[.slice none 0 0,.slice none 0 0,.slice none 0 0] 141 (0,0))::L) (by assumption))
          refine O.ex (by first|exact Ex.field0 fld114_0 rfl|exact Ex.field fld114_0 rfl|exact Ex.fieldS fld114_0 rfl) rfl ?_
          refine O.ex (by first|exact Ex.loadMh Tryz.isAgg3 rfl|exact Ex.loadP Tryz.isAgg3 rfl|exact Ex.loadM Tryz.isAgg3 rfl|exact Ex.loadIn1 Tryz.isAgg3 rfl (Holds.to (by assumption))|exact Ex.loadVc Tryz.isAgg3 rfl|exact Ex.loadR Tryz.isAgg3 rfl|exact Ex.loadQ Tryz.isAgg3 rfl) rfl ?_
          refine O.ex (Ex.lss rfl rfl) rfl ?_
          refine O.nil ?_
          refine hK40 _ _ _ ?_
          first|refine W.cond_p rfl (fun hltC=>?_) (fun hgeC=>?_)|refine W.cond_b rfl (fun hltC=>?_) (fun hgeC=>?_)
          · refine W.skip ?_
            refine hK39 _ _ _ ?_
            refine W.seq (fun K41 hK41=>?_)
            refine W.block ?_
            refine W.seq (fun K42 hK42=>?_)
            have s3:=arr_sl (T:=4) (e:=Value.bool) (v:=s22) (xs:=tl N (tlo N c wo P i)) (Holds.to (by assumption)) (by omega)
            rw [l3] at s3
            refine W.drawTo _ (.take 0 (.take 1 (.take 2 (.take 3 (.take 4 (.take 5 (.one 6 (.take 7 (.one 8 .nil))))))))) (mixed) (fun _ _ _ _ h=>h) (by assumption) (PP.refl _) (by decide +kernel) (fun w H=>?_)
            refine OQ.ex rfl (fun w H=>(by first|exact Ex.field0 fld141_2 rfl|exact Ex.field fld141_2 rfl|exact Ex.fieldS fld141_2 rfl)) rfl ?_
            refine OQ.ex rfl (fun w H=>(by first|exact Ex.loadMh Tryz.isAgg74 rfl|exact Ex.loadP Tryz.isAgg74 rfl|exact Ex.loadM Tryz.isAgg74 rfl|exact Ex.loadIn1 Tryz.isAgg74 rfl (Holds.to (by assumption))|exact Ex.loadVc Tryz.isAgg74 rfl|exact Ex.loadR Tryz.isAgg74 rfl|exact Ex.loadQ Tryz.isAgg74 rfl)) rfl ?_
            refine OQ.ex rfl (fun w H=>(Ex.move rfl)) rfl ?_
            refine OQ.ex rfl (fun w H=>(by first|exact Ex.field0 fld141_0 rfl|exact Ex.field fld141_0 rfl|exact Ex.fieldS fld141_0 rfl)) rfl ?_
            refine OQ.ex rfl (fun w H=>(by first|exact Ex.loadMh Tryz.isAgg28 rfl|exact Ex.loadP Tryz.isAgg28 rfl|exact Ex.loadM Tryz.isAgg28 rfl|exact Ex.loadIn1 Tryz.isAgg28 rfl (Holds.to (by assumption))|exact Ex.loadVc Tryz.isAgg28 rfl|exact Ex.loadR Tryz.isAgg28 rfl|exact Ex.loadQ Tryz.isAgg28 rfl)) rfl ?_
            refine OQ.ex rfl (fun w H=>(Ex.move rfl)) rfl ?_
            refine OQ.step rfl ?_
            refine O.callF Tryz.call101 rfl rfl (CT.mono (hasL_ct (xs:=P.map Prod.fst) (by omega) (Holds.to (by assumption))) ?_)
            rintro _ w ⟨rfl,H⟩
            refine O.thenNil ⟨(by first|exact Holds.to (by assumption)|assumption),?_⟩
            refine OQ.ex rfl (fun w H=>(by first|exact Ex.idxR Tryz.runUnderlying74 Tryz.sizeOf4 rfl rfl|exact Ex.idxIn Tryz.runUnderlying74 Tryz.sizeOf4 rfl rfl|exact Ex.idxS Tryz.runUnderlying74 Tryz.sizeOf4 rfl rfl|exact Ex.idx Tryz.runUnderlying74 Tryz.sizeOf4 rfl rfl (by omega) (by omega))) rfl ?_
            refine OQ.last rfl (by decide +kernel) ?_
            first|refine O.storeP Tryz.sizeOf4 rfl rfl (fun w H=>?_)|refine O.storeR Tryz.sizeOf4 rfl rfl (fun w H=>?_)|refine O.storeM Tryz.sizeOf4 rfl rfl (fun w H=>?_)|refine O.storeVc Tryz.sizeOf4 rfl rfl (fun w H=>?_)
            refine O.nil ?_
            refine hK42 _ _ _ ?_
            refine W.seq (fun K43 hK43=>?_)
            refine W.region ?_
            refine O.ex (Ex.assign rfl) rfl ?_
            refine O.nil ?_
            refine hK43 _ _ _ ?_
            refine W.block ?_
            have hiN : i < N:=by omega
            have H : Holds w (pt b11 (.cells #[sv,dv,s22] 141 (0,0))::arr 3 (Value.int .i64) sv (P.map Prod.fst)::arr 3 (Value.int .i64) dv (P.map Prod.snd)::arr 4 Value.bool s22 (tl N (tli N c wo P i 0))::pt b10 (.cells #[.slice none 0 0,.slice none 0 0,.slice none 0 0] 141 (0,0))::Rh r n c::L):=by
              have e2:=tl_set (tlo N c wo P i) hiN (decide (isIn P i))
              rw [show (tl N (tli N c wo P i 0)) = (tl N (tlo N c wo P i)).set i (decide (isIn P i)) from by rw [e2]; exact tl_congr fun x hx=>by unfold tli; rw [tqi_zero]]
              exact Holds.to (by assumption)
            refine W.loop (σ:=Nat) (fun k=>[(0,.pointer (some ⟨r,0,none⟩)),(2,.int .u64 (wo : Int)),(10,.pointer (some ⟨b10,0,none⟩)),(11,.pointer (some ⟨b11,0,none⟩)),(16,.int .i64 (i : Int)),(17,.int .i64 (k : Int))])
              (fun k ds w=>ds = [] ∧ k ≤ P.length ∧ Holds w (pt b11 (.cells #[sv,dv,s22] 141 (0,0))::arr 3 (Value.int .i64) sv (P.map Prod.fst)::arr 3 (Value.int .i64) dv (P.map Prod.snd)::arr 4 Value.bool s22 (tl N (tli N c wo P i k))::pt b10 (.cells #[.slice none 0 0,.slice none 0 0,.slice none 0 0] 141 (0,0))::Rh r n c::L)) (fun k=>P.length - k) 0 ⟨rfl,rfl,rfl,rfl,rfl,rfl,trivial⟩ ⟨rfl,by omega,H⟩ ?_
            clear H
            rintro k _ w ⟨rfl,hk,H⟩
            have l4 : (tl N (tli N c wo P i k)).length = N:=tl_len _
            refine W.seq (fun K44 hK44=>?_)
            refine W.seq (fun K45 hK45=>?_)
            refine W.region ?_
            refine O.ex (Ex.move rfl) rfl ?_
            refine O.ex (by first|exact Ex.field0 fld141_0 rfl|exact Ex.field fld141_0 rfl|exact Ex.fieldS fld141_0 rfl) rfl ?_
            refine O.ex (by first|exact Ex.loadMh Tryz.isAgg28 rfl|exact Ex.loadP Tryz.isAgg28 rfl|exact Ex.loadM Tryz.isAgg28 rfl|exact Ex.loadIn1 Tryz.isAgg28 rfl (Holds.to (by assumption))|exact Ex.loadVc Tryz.isAgg28 rfl|exact Ex.loadR Tryz.isAgg28 rfl|exact Ex.loadQ Tryz.isAgg28 rfl) rfl ?_
            refine O.ex (by first|exact Ex.lenR Tryz.runUnderlying28 rfl|exact Ex.lenIn Tryz.runUnderlying28 rfl|exact Ex.lenL Tryz.runUnderlying28 rfl|exact Ex.len rfl Tryz.runUnderlying28 rfl) rfl ?_
            refine O.ex (Ex.lss rfl rfl) rfl ?_
            refine O.nil ?_
            refine hK45 _ _ _ ?_
            first|refine W.cond_p rfl (fun hltD=>?_) (fun hgeD=>?_)|refine W.cond_b rfl (fun hltD=>?_) (fun hgeD=>?_)
            · refine W.skip ?_
              refine hK44 _ _ _ ?_
              refine W.seq (fun K46 hK46=>?_)
              refine W.block ?_
              refine W.seq (fun K47 hK47=>?_)
              refine W.region ?_
              refine O.ex (Ex.move rfl) rfl ?_
              refine O.ex (Ex.move rfl) rfl ?_
              refine O.callF Tryz.call114 rfl rfl (CT.mono (refHas_ct (Holds.to (by assumption)) hw) ?_)
              rintro _ w ⟨rfl,H⟩
              refine O.ex (by first|exact Ex.notD rfl|exact Ex.not rfl) rfl ?_
              refine O.ex (Ex.move rfl) rfl ?_
              first|refine O.split_p (t:=111) rfl (fun hin1=>?_) (fun hin2=>?_)|refine O.split (t:=111) rfl (fun hin1=>?_) (fun hin2=>?_)
              · refine O.guard_t rfl rfl ?_
                refine O.ex (Ex.move rfl) rfl ?_
                refine O.guard_t rfl rfl ?_
                refine O.ex (by first|exact Ex.field0 fld141_0 rfl|exact Ex.field fld141_0 rfl|exact Ex.fieldS fld141_0 rfl) rfl ?_
                refine O.guard_t rfl rfl ?_
                refine O.ex (by first|exact Ex.loadMh Tryz.isAgg28 rfl|exact Ex.loadP Tryz.isAgg28 rfl|exact Ex.loadM Tryz.isAgg28 rfl|exact Ex.loadIn1 Tryz.isAgg28 rfl (Holds.to (by assumption))|exact Ex.loadVc Tryz.isAgg28 rfl|exact Ex.loadR Tryz.isAgg28 rfl|exact Ex.loadQ Tryz.isAgg28 rfl) rfl ?_
                refine O.guard_t rfl rfl ?_
                refine O.ex (Ex.move rfl) rfl ?_
                refine O.guard_t rfl rfl ?_
                refine O.ex (by first|exact Ex.idxR Tryz.runUnderlying28 Tryz.sizeOf3 rfl rfl|exact Ex.idxIn Tryz.runUnderlying28 Tryz.sizeOf3 rfl rfl|exact Ex.idxS Tryz.runUnderlying28 Tryz.sizeOf3 rfl rfl|exact Ex.idx Tryz.runUnderlying28 Tryz.sizeOf3 rfl rfl (by omega) (by omega)) rfl ?_
                refine O.guard_t rfl rfl ?_
                refine O.ex (by first|exact Ex.loadR Tryz.isAgg3 rfl|exact Ex.loadIn1 Tryz.isAgg3 rfl (Holds.to (by assumption))|exact Ex.loadP Tryz.isAgg3 rfl|exact Ex.loadMh Tryz.isAgg3 rfl|exact Ex.loadM Tryz.isAgg3 rfl|exact Ex.loadVc Tryz.isAgg3 rfl|exact Ex.loadQ Tryz.isAgg3 rfl) rfl ?_
                refine O.guard_t rfl rfl ?_
                refine O.ex (Ex.move rfl) rfl ?_
                refine O.guard_t rfl rfl ?_
                refine O.callF Tryz.call63 rfl rfl (CT.mono (refAt_ct hg (Holds.to (by assumption))) ?_)
                rintro _ w ⟨rfl,H⟩
                refine O.guard_t rfl rfl ?_
                refine O.ex (Ex.lss rfl rfl) rfl ?_
                refine O.ex (Ex.pick_t rfl rfl) rfl ?_
                refine O.nil ?_
                refine hK47 _ _ _ ?_
                first|refine W.cond_p rfl (fun hyes=>?_) (fun hno=>?_)|refine W.cond_b rfl (fun hyes=>?_) (fun hno=>?_)
                · refine W.region ?_
                  refine O.ex (by first|exact Ex.field0 fld141_2 rfl|exact Ex.field fld141_2 rfl|exact Ex.fieldS fld141_2 rfl) rfl ?_
                  refine O.ex (by first|exact Ex.loadMh Tryz.isAgg74 rfl|exact Ex.loadP Tryz.isAgg74 rfl|exact Ex.loadM Tryz.isAgg74 rfl|exact Ex.loadIn1 Tryz.isAgg74 rfl (Holds.to (by assumption))|exact Ex.loadVc Tryz.isAgg74 rfl|exact Ex.loadR Tryz.isAgg74 rfl|exact Ex.loadQ Tryz.isAgg74 rfl) rfl ?_
                  refine O.ex (Ex.move rfl) rfl ?_
                  refine O.ex (by first|exact Ex.idxR Tryz.runUnderlying74 Tryz.sizeOf4 rfl rfl|exact Ex.idxIn Tryz.runUnderlying74 Tryz.sizeOf4 rfl rfl|exact Ex.idxS Tryz.runUnderlying74 Tryz.sizeOf4 rfl rfl|exact Ex.idx Tryz.runUnderlying74 Tryz.sizeOf4 rfl rfl (by omega) (by omega)) rfl ?_
                  first|refine O.storeP Tryz.sizeOf4 rfl rfl (fun w H=>?_)|refine O.storeR Tryz.sizeOf4 rfl rfl (fun w H=>?_)|refine O.storeM Tryz.sizeOf4 rfl rfl (fun w H=>?_)|refine O.storeVc Tryz.sizeOf4 rfl rfl (fun w H=>?_)
                  refine O.nil ?_
                  refine hK46 _ _ _ ?_
                  refine W.region ?_
                  refine O.ex (Ex.move rfl) rfl ?_
                  refine O.ex (by first|exact Ex.addI rfl rfl|exact Ex.add rfl rfl rfl) rfl ?_
                  refine O.ex (Ex.assign rfl) rfl ?_
                  refine O.nil ?_
                  have hkP : k < P.length:=by omega
                  have e3:=tqi_succ (c:=c) (wo:=wo) P i k hkP
                  first
                  | (have e4 : tqi c wo P i (k + 1) = true:=by
                       rw [e3,show inS wo (i : Int) = false from by simpa using hin1,decide_eq_true (by rw [Int.toNat_natCast,map_getD P _ hkP] at hyes; omega)]; simp
                     have H : Holds w (pt b11 (.cells #[sv,dv,s22] 141 (0,0))::arr 3 (Value.int .i64) sv (P.map Prod.fst)::arr 3 (Value.int .i64) dv (P.map Prod.snd)::arr 4 Value.bool s22 (tl N (tli N c wo P i (k + 1)))::pt b10 (.cells #[.slice none 0 0,.slice none 0 0,.slice none 0 0] 141 (0,0))::Rh r n c::L):=by
                       rw [show (tl N (tli N c wo P i (k + 1))) = (tl N (tli N c wo P i k)).set i true from by
                         rw [tl_set _ hiN]; exact tl_congr fun x hx=>by
                           unfold tli
                           by_cases e : x = i
                           · rw [if_pos e,if_pos e,e4]
                           · rw [if_neg e,if_neg e,if_neg e]]
                       exact Holds.to (by assumption)
                     exact ⟨k + 1,⟨rfl,rfl,rfl,rfl,rfl,rfl,trivial⟩,⟨rfl,by omega,H⟩,by omega⟩)
                  | (have e4 : tqi c wo P i (k + 1) = tqi c wo P i k:=by
                       rw [e3]
                       first
                       | (rw [show inS wo (i : Int) = true from by simpa using hin2]; simp)
                       | (rw [decide_eq_false (by rw [Int.toNat_natCast,map_getD P _ hkP] at hno; have:=(hg.dst (P[k]'hkP).1 i).2; omega)]; simp)
                     have e5 : tl N (tli N c wo P i (k + 1)) = tl N (tli N c wo P i k):=tl_congr fun x hx=>by unfold tli; rw [e4]
                     exact ⟨k + 1,⟨rfl,rfl,rfl,rfl,rfl,rfl,trivial⟩,⟨rfl,by omega,e5 ▸ Holds.to (by assumption)⟩,by omega⟩)
                · refine W.skip ?_
                  refine hK46 _ _ _ ?_
                  refine W.region ?_
                  refine O.ex (Ex.move rfl) rfl ?_
                  refine O.ex (by first|exact Ex.addI rfl rfl|exact Ex.add rfl rfl rfl) rfl ?_
                  refine O.ex (Ex.assign rfl) rfl ?_
                  refine O.nil ?_
                  have hkP : k < P.length:=by omega
                  have e3:=tqi_succ (c:=c) (wo:=wo) P i k hkP
                  first
                  | (have e4 : tqi c wo P i (k + 1) = true:=by
                       rw [e3,show inS wo (i : Int) = false from by simpa using hin1,decide_eq_true (by rw [Int.toNat_natCast,map_getD P _ hkP] at hyes; omega)]; simp
                     have H : Holds w (pt b11 (.cells #[sv,dv,s22] 141 (0,0))::arr 3 (Value.int .i64) sv (P.map Prod.fst)::arr 3 (Value.int .i64) dv (P.map Prod.snd)::arr 4 Value.bool s22 (tl N (tli N c wo P i (k + 1)))::pt b10 (.cells #[.slice none 0 0,.slice none 0 0,.slice none 0 0] 141 (0,0))::Rh r n c::L):=by
                       rw [show (tl N (tli N c wo P i (k + 1))) = (tl N (tli N c wo P i k)).set i true from by
                         rw [tl_set _ hiN]; exact tl_congr fun x hx=>by
                           unfold tli
                           by_cases e : x = i
                           · rw [if_pos e,if_pos e,e4]
                           · rw [if_neg e,if_neg e,if_neg e]]
                       exact Holds.to (by assumption)
                     exact ⟨k + 1,⟨rfl,rfl,rfl,rfl,rfl,rfl,trivial⟩,⟨rfl,by omega,H⟩,by omega⟩)
                  | (have e4 : tqi c wo P i (k + 1) = tqi c wo P i k:=by
                       rw [e3]
                       first
                       | (rw [show inS wo (i : Int) = true from by simpa using hin2]; simp)
                       | (rw [decide_eq_false (by rw [Int.toNat_natCast,map_getD P _ hkP] at hno; have:=(hg.dst (P[k]'hkP).1 i).2; omega)]; simp)
                     have e5 : tl N (tli N c wo P i (k + 1)) = tl N (tli N c wo P i k):=tl_congr fun x hx=>by unfold tli; rw [e4]
                     exact ⟨k + 1,⟨rfl,rfl,rfl,rfl,rfl,rfl,trivial⟩,⟨rfl,by omega,e5 ▸ Holds.to (by assumption)⟩,by omega⟩)
              · refine O.guard_f rfl rfl rfl rfl ?_
                refine O.guard_f rfl rfl rfl rfl ?_
                refine O.guard_f rfl rfl rfl rfl ?_
                refine O.guard_f rfl rfl rfl rfl ?_
                refine O.guard_f rfl rfl rfl rfl ?_
                refine O.guard_f rfl rfl rfl rfl ?_
                refine O.guard_f rfl rfl rfl rfl ?_
                refine O.guard_f rfl rfl rfl rfl ?_
                refine O.guard_f rfl rfl rfl rfl ?_
                refine O.ex (Ex.pick_f rfl rfl) rfl ?_
                refine O.nil ?_
                refine hK47 _ _ _ ?_
                refine W.cond_f rfl ?_
                refine W.skip ?_
                refine hK46 _ _ _ ?_
                refine W.region ?_
                refine O.ex (Ex.move rfl) rfl ?_
                refine O.ex (by first|exact Ex.addI rfl rfl|exact Ex.add rfl rfl rfl) rfl ?_
                refine O.ex (Ex.assign rfl) rfl ?_
                refine O.nil ?_
                have hkP : k < P.length:=by omega
                have e3:=tqi_succ (c:=c) (wo:=wo) P i k hkP
                first
                | (have e4 : tqi c wo P i (k + 1) = true:=by
                     rw [e3,show inS wo (i : Int) = false from by simpa using hin1,decide_eq_true (by rw [Int.toNat_natCast,map_getD P _ hkP] at hyes; omega)]; simp
                   have H : Holds w (pt b11 (.cells #[sv,dv,s22] 141 (0,0))::arr 3 (Value.int .i64) sv (P.map Prod.fst)::arr 3 (Value.int .i64) dv (P.map Prod.snd)::arr 4 Value.bool s22 (tl N (tli N c wo P i (k + 1)))::pt b10 (.cells #[.slice none 0 0,.slice none 0 0,.slice none 0 0] 141 (0,0))::Rh r n c::L):=by
                     rw [show (tl N (tli N c wo P i (k + 1))) = (tl N (tli N c wo P i k)).set i true from by
                       rw [tl_set _ hiN]; exact tl_congr fun x hx=>by
                         unfold tli
                         by_cases e : x = i
                         · rw [if_pos e,if_pos e,e4]
                         · rw [if_neg e,if_neg e,if_neg e]]
                     exact Holds.to (by assumption)
                   exact ⟨k + 1,⟨rfl,rfl,rfl,rfl,rfl,rfl,trivial⟩,⟨rfl,by omega,H⟩,by omega⟩)
                | (have e4 : tqi c wo P i (k + 1) = tqi c wo P i k:=by
                     rw [e3]
                     first
                     | (rw [show inS wo (i : Int) = true from by simpa using hin2]; simp)
                     | (rw [decide_eq_false (by rw [Int.toNat_natCast,map_getD P _ hkP] at hno; have:=(hg.dst (P[k]'hkP).1 i).2; omega)]; simp)
                   have e5 : tl N (tli N c wo P i (k + 1)) = tl N (tli N c wo P i k):=tl_congr fun x hx=>by unfold tli; rw [e4]
                   exact ⟨k + 1,⟨rfl,rfl,rfl,rfl,rfl,rfl,trivial⟩,⟨rfl,by omega,e5 ▸ Holds.to (by assumption)⟩,by omega⟩)
            · refine W.exit ?_
              refine hK41 _ _ _ ?_
              refine W.region ?_
              refine O.ex (Ex.move rfl) rfl ?_
              refine O.ex (by first|exact Ex.addI rfl rfl|exact Ex.add rfl rfl rfl) rfl ?_
              refine O.ex (Ex.assign rfl) rfl ?_
              refine O.nil ?_
              obtain rfl : k = P.length:=by omega
              rw [tli_all c wo P hiN] at H
              exact ⟨i + 1,⟨rfl,rfl,rfl,rfl,rfl,trivial⟩,⟨rfl,by omega,Holds.to (by assumption)⟩,by omega⟩
          · refine W.exit ?_
            refine hK37 _ _ _ ?_
            refine W.seq (fun K48 hK48=>?_)
            refine W.region ?_
            have e9 : tl N (tlo N c wo P i) = tl N fun x=>decide (TQ N c wo P x):=by rw [show i = N by omega,tlo_end]
            have hs1 : sv.oneCell' = true:=arr_one (T:=3) (e:=Value.int .i64) (xs:=P.map Prod.fst) (Holds.to (by assumption))
            have hd1 : dv.oneCell' = true:=arr_one (T:=3) (e:=Value.int .i64) (xs:=P.map Prod.snd) (Holds.to (by assumption))
            refine O.ex (by first|exact Ex.loadAggP Tryz.isAgg141 Tryz.sizeOf141 rfl|exact Ex.loadAggN Tryz.isAgg141 Tryz.sizeOf141 rfl|exact Ex.loadIn Tryz.isAgg141 Tryz.sizeOf141 rfl (Holds.to (by assumption))) rfl ?_
            refine O.storeAggP Tryz.sizeOf141 rfl rfl rfl (by show (sv.oneCell' && (dv.oneCell' && (s22.oneCell' && _))) = true; rw [hs1,hd1,ht1]; rfl) (fun w H=>?_)
            refine O.nil ?_
            refine hK48 _ _ _ ?_
            refine W.ret ?_
            try dsimp only [thenQ,blockQ,retQ]
            first|refine ⟨_,⟨_,_,_,rfl,rfl,(by first|exact loadVar_mtx Tryz.isAgg141 Tryz.sizeOf141|exact loadVar_agg Tryz.isAgg141 Tryz.sizeOf141),rfl⟩,?_⟩|(refine retD_mark ?_; intro w H; refine ⟨_,⟨_,_,_,rfl,rfl,(by first|exact loadVar_mtx Tryz.isAgg141 Tryz.sizeOf141|exact loadVar_agg Tryz.isAgg141 Tryz.sizeOf141),rfl⟩,?_⟩)|(refine retD_mark2 ?_; intro w H; refine ⟨_,⟨_,_,_,rfl,rfl,(by first|exact loadVar_mtx Tryz.isAgg141 Tryz.sizeOf141|exact loadVar_agg Tryz.isAgg141 Tryz.sizeOf141),rfl⟩,?_⟩)
            rw [← hN,← hs]
            refine ⟨j,sv,dv,s22,hto,hst,rfl,⟨hs1,hd1,ht1⟩,?_⟩
            rw [← hP,← e9]
            exact Holds.to (by assumption)
        · refine W.skip ?_
          refine hK23 _ _ _ ?_
          refine W.seq (fun K49 hK49=>?_)
          refine W.region ?_
          obtain ⟨b,eb⟩ : ∃ b,nx N c s0 wo P = some b:=by
            cases e : nx N c s0 wo P with
            | none=>rw [e] at hsome; exact absurd (by decide) hsome
            | some b=>exact ⟨b,rfl⟩
          have e1:=st_some (show nx N c s0 wo (st N c s0 wo j) = some b by rw [← hP]; exact eb)
          rw [← hP] at e1
          rw [eb] at hok2 ⊢
          have hnst : ¬ stopP N c s0 wo settles most j:=by
            rw [stopP,← hP]
            rintro (h|h)
            · omega
            · exact hok2 (h b eb)
          have hto2:=to_succ hto hnst
          have hlen2:=to_len hto2
          have hle2:=(hgN (j + 1)).len
          refine O.ex (by first|exact Ex.field0 fld141_0 rfl|exact Ex.field fld141_0 rfl|exact Ex.fieldS fld141_0 rfl) rfl ?_
          refine O.ex (by first|exact Ex.loadMh Tryz.isAgg28 rfl|exact Ex.loadP Tryz.isAgg28 rfl|exact Ex.loadM Tryz.isAgg28 rfl|exact Ex.loadIn1 Tryz.isAgg28 rfl (Holds.to (by assumption))|exact Ex.loadVc Tryz.isAgg28 rfl|exact Ex.loadR Tryz.isAgg28 rfl|exact Ex.loadQ Tryz.isAgg28 rfl) rfl ?_
          refine O.ex (Ex.move rfl) rfl ?_
          refine O.build1 (e:=Value.int .i64) Tryz.runUnderlying28 Tryz.sizeOf3 Tryz.zeroValue3 rfl (fun v75 w hv75 H=>?_)
          refine O.appendR Tryz.runUnderlying28 Tryz.typeInfo3 (bt:=8) rfl Tryz.sizeOf3 Tryz.zeroValue3 rfl rfl (fun v76 w hv76 H=>?_)
          refine O.ex (by first|exact Ex.field0 fld141_0 rfl|exact Ex.field fld141_0 rfl|exact Ex.fieldS fld141_0 rfl) rfl ?_
          first|refine O.storeP Tryz.sizeOf28 rfl rfl (fun w H=>?_)|refine O.storeR Tryz.sizeOf28 rfl rfl (fun w H=>?_)|refine O.storeM Tryz.sizeOf28 rfl rfl (fun w H=>?_)|refine O.storeVc Tryz.sizeOf28 rfl rfl (fun w H=>?_)
          refine O.nil ?_
          refine hK49 _ _ _ ?_
          refine W.region ?_
          refine O.ex (by first|exact Ex.field0 fld141_1 rfl|exact Ex.field fld141_1 rfl|exact Ex.fieldS fld141_1 rfl) rfl ?_
          refine O.ex (by first|exact Ex.loadMh Tryz.isAgg28 rfl|exact Ex.loadP Tryz.isAgg28 rfl|exact Ex.loadM Tryz.isAgg28 rfl|exact Ex.loadIn1 Tryz.isAgg28 rfl (Holds.to (by assumption))|exact Ex.loadVc Tryz.isAgg28 rfl|exact Ex.loadR Tryz.isAgg28 rfl|exact Ex.loadQ Tryz.isAgg28 rfl) rfl ?_
          refine O.ex (Ex.move rfl) rfl ?_
          refine O.build1 (e:=Value.int .i64) Tryz.runUnderlying28 Tryz.sizeOf3 Tryz.zeroValue3 rfl (fun v81 w hv81 H=>?_)
          refine O.appendR Tryz.runUnderlying28 Tryz.typeInfo3 (bt:=8) rfl Tryz.sizeOf3 Tryz.zeroValue3 rfl rfl (fun v82 w hv82 H=>?_)
          refine O.ex (by first|exact Ex.field0 fld141_1 rfl|exact Ex.field fld141_1 rfl|exact Ex.fieldS fld141_1 rfl) rfl ?_
          first|refine O.storeP Tryz.sizeOf28 rfl rfl (fun w H=>?_)|refine O.storeR Tryz.sizeOf28 rfl rfl (fun w H=>?_)|refine O.storeM Tryz.sizeOf28 rfl rfl (fun w H=>?_)|refine O.storeVc Tryz.sizeOf28 rfl rfl (fun w H=>?_)
          refine O.nil ?_
          have H : Holds w (FR b11 (st N c s0 wo (j + 1)) s22::arr 4 Value.bool s22 (List.replicate N false)::pt b10 (.cells #[.slice none 0 0,.slice none 0 0,.slice none 0 0] 141 (0,0))::Rh r n c::L):=by
            rw [e1]
            refine fr_open.2 ⟨v76,v82,?_⟩
            rw [List.map_append,List.map_append]
            exact Holds.to (by assumption)
          exact ⟨j + 1,⟨rfl,rfl,rfl,rfl,rfl,rfl,rfl,trivial⟩,⟨rfl,hto2,H⟩,by omega⟩
  · refine W.exit ?_
    refine hK2 _ _ _ ?_
    refine W.seq (fun K50 hK50=>?_)
    refine W.seq (fun K51 hK51=>?_)
    refine W.region ?_
    refine O.ex (Ex.assign rfl) rfl ?_
    refine O.nil ?_
    refine hK51 _ _ _ ?_
    refine W.block ?_
    have hst : stopP N c s0 wo settles most j:=by
      rw [stopP,← hP]
      first
      | exact .inl (by omega)
      | (refine .inr fun b hb=>?_
         rw [hb] at hnone; unfold nI at hnone; dsimp only at hnone; omega)
      | (refine .inr fun b hb=>?_
         rw [hb] at hfarther; exact hfarther)
    have H : Holds w (pt b11 (.cells #[sv,dv,s22] 141 (0,0))::arr 3 (Value.int .i64) sv (P.map Prod.fst)::arr 3 (Value.int .i64) dv (P.map Prod.snd)::arr 4 Value.bool s22 (tl N (tlo N c wo P 0))::pt b10 (.cells #[.slice none 0 0,.slice none 0 0,.slice none 0 0] 141 (0,0))::Rh r n c::L):=by
      rw [tlo_zero]; exact Holds.to (by assumption)
    refine W.loop (σ:=Nat) (fun i=>[(0,.pointer (some ⟨r,0,none⟩)),(2,.int .u64 (wo : Int)),(10,.pointer (some ⟨b10,0,none⟩)),(11,.pointer (some ⟨b11,0,none⟩)),(16,.int .i64 (i : Int))])
      (fun i ds w=>ds = [] ∧ i ≤ N ∧ Holds w (pt b11 (.cells #[sv,dv,s22] 141 (0,0))::arr 3 (Value.int .i64) sv (P.map Prod.fst)::arr 3 (Value.int .i64) dv (P.map Prod.snd)::arr 4 Value.bool s22 (tl N (tlo N c wo P i))::pt b10 (.cells #[.slice none 0 0,.slice none 0 0,.slice none 0 0] 141 (0,0))::Rh r n c::L)) (fun i=>N - i) 0 ⟨rfl,rfl,rfl,rfl,rfl,trivial⟩ ⟨rfl,by omega,H⟩ ?_
    clear H
    rintro i _ w ⟨rfl,hi,H⟩
    have l3 : (tl N (tlo N c wo P i)).length = N:=tl_len _
    refine W.seq (fun K52 hK52=>?_)
    refine W.seq (fun K53 hK53=>?_)
    refine W.region ?_
    refine O.ex (Ex.move rfl) rfl ?_
    refine O.ex (Ex.move rfl) rfl ?_
    refine O.ex (by first|exact Ex.nilPtr rfl|exact Ex.nilFunc rfl|exact Ex.nilYield rfl) rfl ?_
    have H:=rh_open.1 (Holds.to (M:=Rh r n c::pt b11 (.cells #[sv,dv,s22] 141 (0,0))::arr 3 (Value.int .i64) sv (P.map Prod.fst)::arr 3 (Value.int .i64) dv (P.map Prod.snd)::arr 4 Value.bool s22 (tl N (tlo N c wo P i))::pt b10 (.cells #[.slice none 0 0,.slice none 0 0,.slice none 0 0] 141 (0,0))::L) (by assumption))
    refine O.ex (by first|exact Ex.field0 fld114_0 rfl|exact Ex.field fld114_0 rfl|exact Ex.fieldS fld114_0 rfl) rfl ?_
    refine O.ex (by first|exact Ex.loadMh Tryz.isAgg3 rfl|exact Ex.loadP Tryz.isAgg3 rfl|exact Ex.loadM Tryz.isAgg3 rfl|exact Ex.loadIn1 Tryz.isAgg3 rfl (Holds.to (by assumption))|exact Ex.loadVc Tryz.isAgg3 rfl|exact Ex.loadR Tryz.isAgg3 rfl|exact Ex.loadQ Tryz.isAgg3 rfl) rfl ?_
    refine O.ex (Ex.lss rfl rfl) rfl ?_
    refine O.nil ?_
    refine hK53 _ _ _ ?_
    first|refine W.cond_p rfl (fun hltC=>?_) (fun hgeC=>?_)|refine W.cond_b rfl (fun hltC=>?_) (fun hgeC=>?_)
    · refine W.skip ?_
      refine hK52 _ _ _ ?_
      refine W.seq (fun K54 hK54=>?_)
      refine W.block ?_
      refine W.seq (fun K55 hK55=>?_)
      have s3:=arr_sl (T:=4) (e:=Value.bool) (v:=s22) (xs:=tl N (tlo N c wo P i)) (Holds.to (by assumption)) (by omega)
      rw [l3] at s3
      refine W.drawTo _ (.take 0 (.take 1 (.take 2 (.take 3 (.take 4 (.take 5 (.one 6 (.take 7 (.one 8 .nil))))))))) (mixed) (fun _ _ _ _ h=>h) (by assumption) (PP.refl _) (by decide +kernel) (fun w H=>?_)
      refine OQ.ex rfl (fun w H=>(by first|exact Ex.field0 fld141_2 rfl|exact Ex.field fld141_2 rfl|exact Ex.fieldS fld141_2 rfl)) rfl ?_
      refine OQ.ex rfl (fun w H=>(by first|exact Ex.loadMh Tryz.isAgg74 rfl|exact Ex.loadP Tryz.isAgg74 rfl|exact Ex.loadM Tryz.isAgg74 rfl|exact Ex.loadIn1 Tryz.isAgg74 rfl (Holds.to (by assumption))|exact Ex.loadVc Tryz.isAgg74 rfl|exact Ex.loadR Tryz.isAgg74 rfl|exact Ex.loadQ Tryz.isAgg74 rfl)) rfl ?_
      refine OQ.ex rfl (fun w H=>(Ex.move rfl)) rfl ?_
      refine OQ.ex rfl (fun w H=>(by first|exact Ex.field0 fld141_0 rfl|exact Ex.field fld141_0 rfl|exact Ex.fieldS fld141_0 rfl)) rfl ?_
      refine OQ.ex rfl (fun w H=>(by first|exact Ex.loadMh Tryz.isAgg28 rfl|exact Ex.loadP Tryz.isAgg28 rfl|exact Ex.loadM Tryz.isAgg28 rfl|exact Ex.loadIn1 Tryz.isAgg28 rfl (Holds.to (by assumption))|exact Ex.loadVc Tryz.isAgg28 rfl|exact Ex.loadR Tryz.isAgg28 rfl|exact Ex.loadQ Tryz.isAgg28 rfl)) rfl ?_
      refine OQ.ex rfl (fun w H=>(Ex.move rfl)) rfl ?_
      refine OQ.step rfl ?_
      refine O.callF Tryz.call101 rfl rfl (CT.mono (hasL_ct (xs:=P.map Prod.fst) (by omega) (Holds.to (by assumption))) ?_)
      rintro _ w ⟨rfl,H⟩
      refine O.thenNil ⟨(by first|exact Holds.to (by assumption)|assumption),?_⟩
      refine OQ.ex rfl (fun w H=>(by first|exact Ex.idxR Tryz.runUnderlying74 Tryz.sizeOf4 rfl rfl|exact Ex.idxIn Tryz.runUnderlying74 Tryz.sizeOf4 rfl rfl|exact Ex.idxS Tryz.runUnderlying74 Tryz.sizeOf4 rfl rfl|exact Ex.idx Tryz.runUnderlying74 Tryz.sizeOf4 rfl rfl (by omega) (by omega))) rfl ?_
      refine OQ.last rfl (by decide +kernel) ?_
      first|refine O.storeP Tryz.sizeOf4 rfl rfl (fun w H=>?_)|refine O.storeR Tryz.sizeOf4 rfl rfl (fun w H=>?_)|refine O.storeM Tryz.sizeOf4 rfl rfl (fun w H=>?_)|refine O.storeVc Tryz.sizeOf4 rfl rfl (fun w H=>?_)
      refine O.nil ?_
      refine hK55 _ _ _ ?_
      refine W.seq (fun K56 hK56=>?_)
      refine W.region ?_
      refine O.ex (Ex.assign rfl) rfl ?_
      refine O.nil ?_
      refine hK56 _ _ _ ?_
      refine W.block ?_
      have hiN : i < N:=by omega
      have H : Holds w (pt b11 (.cells #[sv,dv,s22] 141 (0,0))::arr 3 (Value.int .i64) sv (P.map Prod.fst)::arr 3 (Value.int .i64) dv (P.map Prod.snd)::arr 4 Value.bool s22 (tl N (tli N c wo P i 0))::pt b10 (.cells #[.slice none 0 0,.slice none 0 0,.slice none 0 0] 141 (0,0))::Rh r n c::L):=by
        have e2:=tl_set (tlo N c wo P i) hiN (decide (isIn P i))
        rw [show (tl N (tli N c wo P i 0)) = (tl N (tlo N c wo P i)).set i (decide (isIn P i)) from by rw [e2]; exact tl_congr fun x hx=>by unfold tli; rw [tqi_zero]]
        exact Holds.to (by assumption)
      refine W.loop (σ:=Nat) (fun k=>[(0,.pointer (some ⟨r,0,none⟩)),(2,.int .u64 (wo : Int)),(10,.pointer (some ⟨b10,0,none⟩)),(11,.pointer (some ⟨b11,0,none⟩)),(16,.int .i64 (i : Int)),(17,.int .i64 (k : Int))])
        (fun k ds w=>ds = [] ∧ k ≤ P.length ∧ Holds w (pt b11 (.cells #[sv,dv,s22] 141 (0,0))::arr 3 (Value.int .i64) sv (P.map Prod.fst)::arr 3 (Value.int .i64) dv (P.map Prod.snd)::arr 4 Value.bool s22 (tl N (tli N c wo P i k))::pt b10 (.cells #[.slice none 0 0,.slice none 0 0,.slice none 0 0] 141 (0,0))::Rh r n c::L)) (fun k=>P.length - k) 0 ⟨rfl,rfl,rfl,rfl,rfl,rfl,trivial⟩ ⟨rfl,by omega,H⟩ ?_
      clear H
      rintro k _ w ⟨rfl,hk,H⟩
      have l4 : (tl N (tli N c wo P i k)).length = N:=tl_len _
      refine W.seq (fun K57 hK57=>?_)
      refine W.seq (fun K58 hK58=>?_)
      refine W.region ?_
      refine O.ex (Ex.move rfl) rfl ?_
      refine O.ex (by first|exact Ex.field0 fld141_0 rfl|exact Ex.field fld141_0 rfl|exact Ex.fieldS fld141_0 rfl) rfl ?_
      refine O.ex (by first|exact Ex.loadMh Tryz.isAgg28 rfl|exact Ex.loadP Tryz.isAgg28 rfl|exact Ex.loadM Tryz.isAgg28 rfl|exact Ex.loadIn1 Tryz.isAgg28 rfl (Holds.to (by assumption))|exact Ex.loadVc Tryz.isAgg28 rfl|exact Ex.loadR Tryz.isAgg28 rfl|exact Ex.loadQ Tryz.isAgg28 rfl) rfl ?_
      refine O.ex (by first|exact Ex.lenR Tryz.runUnderlying28 rfl|exact Ex.lenIn Tryz.runUnderlying28 rfl|exact Ex.lenL Tryz.runUnderlying28 rfl|exact Ex.len rfl Tryz.runUnderlying28 rfl) rfl ?_
      refine O.ex (Ex.lss rfl rfl) rfl ?_
      refine O.nil ?_
      refine hK58 _ _ _ ?_
      first|refine W.cond_p rfl (fun hltD=>?_) (fun hgeD=>?_)|refine W.cond_b rfl (fun hltD=>?_) (fun hgeD=>?_)
      · refine W.skip ?_
        refine hK57 _ _ _ ?_
        refine W.seq (fun K59 hK59=>?_)
        refine W.block ?_
        refine W.seq (fun K60 hK60=>?_)
        refine W.region ?_
        refine O.ex (Ex.move rfl) rfl ?_
        refine O.ex (Ex.move rfl) rfl ?_
        refine O.callF Tryz.call114 rfl rfl (CT.mono (refHas_ct (Holds.to (by assumption)) hw) ?_)
        rintro _ w ⟨rfl,H⟩
        refine O.ex (by first|exact Ex.notD rfl|exact Ex.not rfl) rfl ?_
        refine O.ex (Ex.move rfl) rfl ?_
        first|refine O.split_p (t:=111) rfl (fun hin1=>?_) (fun hin2=>?_)|refine O.split (t:=111) rfl (fun hin1=>?_) (fun hin2=>?_)
        · refine O.guard_t rfl rfl ?_
          refine O.ex (Ex.move rfl) rfl ?_
          refine O.guard_t rfl rfl ?_
          refine O.ex (by first|exact Ex.field0 fld141_0 rfl|exact Ex.field fld141_0 rfl|exact Ex.fieldS fld141_0 rfl) rfl ?_
          refine O.guard_t rfl rfl ?_
          refine O.ex (by first|exact Ex.loadMh Tryz.isAgg28 rfl|exact Ex.loadP Tryz.isAgg28 rfl|exact Ex.loadM Tryz.isAgg28 rfl|exact Ex.loadIn1 Tryz.isAgg28 rfl (Holds.to (by assumption))|exact Ex.loadVc Tryz.isAgg28 rfl|exact Ex.loadR Tryz.isAgg28 rfl|exact Ex.loadQ Tryz.isAgg28 rfl) rfl ?_
          refine O.guard_t rfl rfl ?_
          refine O.ex (Ex.move rfl) rfl ?_
          refine O.guard_t rfl rfl ?_
          refine O.ex (by first|exact Ex.idxR Tryz.runUnderlying28 Tryz.sizeOf3 rfl rfl|exact Ex.idxIn Tryz.runUnderlying28 Tryz.sizeOf3 rfl rfl|exact Ex.idxS Tryz.runUnderlying28 Tryz.sizeOf3 rfl rfl|exact Ex.idx Tryz.runUnderlying28 Tryz.sizeOf3 rfl rfl (by omega) (by omega)) rfl ?_
          refine O.guard_t rfl rfl ?_
          refine O.ex (by first|exact Ex.loadR Tryz.isAgg3 rfl|exact Ex.loadIn1 Tryz.isAgg3 rfl (Holds.to (by assumption))|exact Ex.loadP Tryz.isAgg3 rfl|exact Ex.loadMh Tryz.isAgg3 rfl|exact Ex.loadM Tryz.isAgg3 rfl|exact Ex.loadVc Tryz.isAgg3 rfl|exact Ex.loadQ Tryz.isAgg3 rfl) rfl ?_
          refine O.guard_t rfl rfl ?_
          refine O.ex (Ex.move rfl) rfl ?_
          refine O.guard_t rfl rfl ?_
          refine O.callF Tryz.call63 rfl rfl (CT.mono (refAt_ct hg (Holds.to (by assumption))) ?_)
          rintro _ w ⟨rfl,H⟩
          refine O.guard_t rfl rfl ?_
          refine O.ex (Ex.lss rfl rfl) rfl ?_
          refine O.ex (Ex.pick_t rfl rfl) rfl ?_
          refine O.nil ?_
          refine hK60 _ _ _ ?_
          first|refine W.cond_p rfl (fun hyes=>?_) (fun hno=>?_)|refine W.cond_b rfl (fun hyes=>?_) (fun hno=>?_)
          · refine W.region ?_
            refine O.ex (by first|exact Ex.field0 fld141_2 rfl|exact Ex.field fld141_2 rfl|exact Ex.fieldS fld141_2 rfl) rfl ?_
            refine O.ex (by first|exact Ex.loadMh Tryz.isAgg74 rfl|exact Ex.loadP Tryz.isAgg74 rfl|exact Ex.loadM Tryz.isAgg74 rfl|exact Ex.loadIn1 Tryz.isAgg74 rfl (Holds.to (by assumption))|exact Ex.loadVc Tryz.isAgg74 rfl|exact Ex.loadR Tryz.isAgg74 rfl|exact Ex.loadQ Tryz.isAgg74 rfl) rfl ?_
            refine O.ex (Ex.move rfl) rfl ?_
            refine O.ex (by first|exact Ex.idxR Tryz.runUnderlying74 Tryz.sizeOf4 rfl rfl|exact Ex.idxIn Tryz.runUnderlying74 Tryz.sizeOf4 rfl rfl|exact Ex.idxS Tryz.runUnderlying74 Tryz.sizeOf4 rfl rfl|exact Ex.idx Tryz.runUnderlying74 Tryz.sizeOf4 rfl rfl (by omega) (by omega)) rfl ?_
            first|refine O.storeP Tryz.sizeOf4 rfl rfl (fun w H=>?_)|refine O.storeR Tryz.sizeOf4 rfl rfl (fun w H=>?_)|refine O.storeM Tryz.sizeOf4 rfl rfl (fun w H=>?_)|refine O.storeVc Tryz.sizeOf4 rfl rfl (fun w H=>?_)
            refine O.nil ?_
            refine hK59 _ _ _ ?_
            refine W.region ?_
            refine O.ex (Ex.move rfl) rfl ?_
            refine O.ex (by first|exact Ex.addI rfl rfl|exact Ex.add rfl rfl rfl) rfl ?_
            refine O.ex (Ex.assign rfl) rfl ?_
            refine O.nil ?_
            have hkP : k < P.length:=by omega
            have e3:=tqi_succ (c:=c) (wo:=wo) P i k hkP
            first
            | (have e4 : tqi c wo P i (k + 1) = true:=by
                 rw [e3,show inS wo (i : Int) = false from by simpa using hin1,decide_eq_true (by rw [Int.toNat_natCast,map_getD P _ hkP] at hyes; omega)]; simp
               have H : Holds w (pt b11 (.cells #[sv,dv,s22] 141 (0,0))::arr 3 (Value.int .i64) sv (P.map Prod.fst)::arr 3 (Value.int .i64) dv (P.map Prod.snd)::arr 4 Value.bool s22 (tl N (tli N c wo P i (k + 1)))::pt b10 (.cells #[.slice none 0 0,.slice none 0 0,.slice none 0 0] 141 (0,0))::Rh r n c::L):=by
                 rw [show (tl N (tli N c wo P i (k + 1))) = (tl N (tli N c wo P i k)).set i true from by
                   rw [tl_set _ hiN]; exact tl_congr fun x hx=>by
                     unfold tli
                     by_cases e : x = i
                     · rw [if_pos e,if_pos e,e4]
                     · rw [if_neg e,if_neg e,if_neg e]]
                 exact Holds.to (by assumption)
               exact ⟨k + 1,⟨rfl,rfl,rfl,rfl,rfl,rfl,trivial⟩,⟨rfl,by omega,H⟩,by omega⟩)
            | (have e4 : tqi c wo P i (k + 1) = tqi c wo P i k:=by
                 rw [e3]
                 first
                 | (rw [show inS wo (i : Int) = true from by simpa using hin2]; simp)
                 | (rw [decide_eq_false (by rw [Int.toNat_natCast,map_getD P _ hkP] at hno; have:=(hg.dst (P[k]'hkP).1 i).2; omega)]; simp)
               have e5 : tl N (tli N c wo P i (k + 1)) = tl N (tli N c wo P i k):=tl_congr fun x hx=>by unfold tli; rw [e4]
               exact ⟨k + 1,⟨rfl,rfl,rfl,rfl,rfl,rfl,trivial⟩,⟨rfl,by omega,e5 ▸ Holds.to (by assumption)⟩,by omega⟩)
          · refine W.skip ?_
            refine hK59 _ _ _ ?_
            refine W.region ?_
            refine O.ex (Ex.move rfl) rfl ?_
            refine O.ex (by first|exact Ex.addI rfl rfl|exact Ex.add rfl rfl rfl) rfl ?_
            refine O.ex (Ex.assign rfl) rfl ?_
            refine O.nil ?_
            have hkP : k < P.length:=by omega
            have e3:=tqi_succ (c:=c) (wo:=wo) P i k hkP
            first
            | (have e4 : tqi c wo P i (k + 1) = true:=by
                 rw [e3,show inS wo (i : Int) = false from by simpa using hin1,decide_eq_true (by rw [Int.toNat_natCast,map_getD P _ hkP] at hyes; omega)]; simp
               have H : Holds w (pt b11 (.cells #[sv,dv,s22] 141 (0,0))::arr 3 (Value.int .i64) sv (P.map Prod.fst)::arr 3 (Value.int .i64) dv (P.map Prod.snd)::arr 4 Value.bool s22 (tl N (tli N c wo P i (k + 1)))::pt b10 (.cells #[.slice none 0 0,.slice none 0 0,.slice none 0 0] 141 (0,0))::Rh r n c::L):=by
                 rw [show (tl N (tli N c wo P i (k + 1))) = (tl N (tli N c wo P i k)).set i true from by
                   rw [tl_set _ hiN]; exact tl_congr fun x hx=>by
                     unfold tli
                     by_cases e : x = i
                     · rw [if_pos e,if_pos e,e4]
                     · rw [if_neg e,if_neg e,if_neg e]]
                 exact Holds.to (by assumption)
               exact ⟨k + 1,⟨rfl,rfl,rfl,rfl,rfl,rfl,trivial⟩,⟨rfl,by omega,H⟩,by omega⟩)
            | (have e4 : tqi c wo P i (k + 1) = tqi c wo P i k:=by
                 rw [e3]
                 first
                 | (rw [show inS wo (i : Int) = true from by simpa using hin2]; simp)
                 | (rw [decide_eq_false (by rw [Int.toNat_natCast,map_getD P _ hkP] at hno; have:=(hg.dst (P[k]'hkP).1 i).2; omega)]; simp)
               have e5 : tl N (tli N c wo P i (k + 1)) = tl N (tli N c wo P i k):=tl_congr fun x hx=>by unfold tli; rw [e4]
               exact ⟨k + 1,⟨rfl,rfl,rfl,rfl,rfl,rfl,trivial⟩,⟨rfl,by omega,e5 ▸ Holds.to (by assumption)⟩,by omega⟩)
        · refine O.guard_f rfl rfl rfl rfl ?_
          refine O.guard_f rfl rfl rfl rfl ?_
          refine O.guard_f rfl rfl rfl rfl ?_
          refine O.guard_f rfl rfl rfl rfl ?_
          refine O.guard_f rfl rfl rfl rfl ?_
          refine O.guard_f rfl rfl rfl rfl ?_
          refine O.guard_f rfl rfl rfl rfl ?_
          refine O.guard_f rfl rfl rfl rfl ?_
          refine O.guard_f rfl rfl rfl rfl ?_
          refine O.ex (Ex.pick_f rfl rfl) rfl ?_
          refine O.nil ?_
          refine hK60 _ _ _ ?_
          refine W.cond_f rfl ?_
          refine W.skip ?_
          refine hK59 _ _ _ ?_
          refine W.region ?_
          refine O.ex (Ex.move rfl) rfl ?_
          refine O.ex (by first|exact Ex.addI rfl rfl|exact Ex.add rfl rfl rfl) rfl ?_
          refine O.ex (Ex.assign rfl) rfl ?_
          refine O.nil ?_
          have hkP : k < P.length:=by omega
          have e3:=tqi_succ (c:=c) (wo:=wo) P i k hkP
          first
          | (have e4 : tqi c wo P i (k + 1) = true:=by
               rw [e3,show inS wo (i : Int) = false from by simpa using hin1,decide_eq_true (by rw [Int.toNat_natCast,map_getD P _ hkP] at hyes; omega)]; simp
             have H : Holds w (pt b11 (.cells #[sv,dv,s22] 141 (0,0))::arr 3 (Value.int .i64) sv (P.map Prod.fst)::arr 3 (Value.int .i64) dv (P.map Prod.snd)::arr 4 Value.bool s22 (tl N (tli N c wo P i (k + 1)))::pt b10 (.cells #[.slice none 0 0,.slice none 0 0,.slice none 0 0] 141 (0,0))::Rh r n c::L):=by
               rw [show (tl N (tli N c wo P i (k + 1))) = (tl N (tli N c wo P i k)).set i true from by
                 rw [tl_set _ hiN]; exact tl_congr fun x hx=>by
                   unfold tli
                   by_cases e : x = i
                   · rw [if_pos e,if_pos e,e4]
                   · rw [if_neg e,if_neg e,if_neg e]]
               exact Holds.to (by assumption)
             exact ⟨k + 1,⟨rfl,rfl,rfl,rfl,rfl,rfl,trivial⟩,⟨rfl,by omega,H⟩,by omega⟩)
          | (have e4 : tqi c wo P i (k + 1) = tqi c wo P i k:=by
               rw [e3]
               first
               | (rw [show inS wo (i : Int) = true from by simpa using hin2]; simp)
               | (rw [decide_eq_false (by rw [Int.toNat_natCast,map_getD P _ hkP] at hno; have:=(hg.dst (P[k]'hkP).1 i).2; omega)]; simp)
             have e5 : tl N (tli N c wo P i (k + 1)) = tl N (tli N c wo P i k):=tl_congr fun x hx=>by unfold tli; rw [e4]
             exact ⟨k + 1,⟨rfl,rfl,rfl,rfl,rfl,rfl,trivial⟩,⟨rfl,by omega,e5 ▸ Holds.to (by assumption)⟩,by omega⟩)
      · refine W.exit ?_
        refine hK54 _ _ _ ?_
        refine W.region ?_
        refine O.ex (Ex.move rfl) rfl ?_
        refine O.ex (by first|exact Ex.addI rfl rfl|exact Ex.add rfl rfl rfl) rfl ?_
        refine O.ex (Ex.assign rfl) rfl ?_
        refine O.nil ?_
        obtain rfl : k = P.length:=by omega
        rw [tli_all c wo P hiN] at H
        exact ⟨i + 1,⟨rfl,rfl,rfl,rfl,rfl,trivial⟩,⟨rfl,by omega,Holds.to (by assumption)⟩,by omega⟩
    · refine W.exit ?_
      refine hK50 _ _ _ ?_
      refine W.seq (fun K61 hK61=>?_)
      refine W.region ?_
      have e9 : tl N (tlo N c wo P i) = tl N fun x=>decide (TQ N c wo P x):=by rw [show i = N by omega,tlo_end]
      have hs1 : sv.oneCell' = true:=arr_one (T:=3) (e:=Value.int .i64) (xs:=P.map Prod.fst) (Holds.to (by assumption))
      have hd1 : dv.oneCell' = true:=arr_one (T:=3) (e:=Value.int .i64) (xs:=P.map Prod.snd) (Holds.to (by assumption))
      refine O.ex (by first|exact Ex.loadAggP Tryz.isAgg141 Tryz.sizeOf141 rfl|exact Ex.loadAggN Tryz.isAgg141 Tryz.sizeOf141 rfl|exact Ex.loadIn Tryz.isAgg141 Tryz.sizeOf141 rfl (Holds.to (by assumption))) rfl ?_
      refine O.storeAggP Tryz.sizeOf141 rfl rfl rfl (by show (sv.oneCell' && (dv.oneCell' && (s22.oneCell' && _))) = true; rw [hs1,hd1,ht1]; rfl) (fun w H=>?_)
      refine O.nil ?_
      refine hK61 _ _ _ ?_
      refine W.ret ?_
      try dsimp only [thenQ,blockQ,retQ]
      first|refine ⟨_,⟨_,_,_,rfl,rfl,(by first|exact loadVar_mtx Tryz.isAgg141 Tryz.sizeOf141|exact loadVar_agg Tryz.isAgg141 Tryz.sizeOf141),rfl⟩,?_⟩|(refine retD_mark ?_; intro w H; refine ⟨_,⟨_,_,_,rfl,rfl,(by first|exact loadVar_mtx Tryz.isAgg141 Tryz.sizeOf141|exact loadVar_agg Tryz.isAgg141 Tryz.sizeOf141),rfl⟩,?_⟩)|(refine retD_mark2 ?_; intro w H; refine ⟨_,⟨_,_,_,rfl,rfl,(by first|exact loadVar_mtx Tryz.isAgg141 Tryz.sizeOf141|exact loadVar_agg Tryz.isAgg141 Tryz.sizeOf141),rfl⟩,?_⟩)
      rw [← hN,← hs]
      refine ⟨j,sv,dv,s22,hto,hst,rfl,⟨hs1,hd1,ht1⟩,?_⟩
      rw [← hP,← e9]
      exact Holds.to (by assumption)
end Go.Proofs.YtblapiiinbppiaaGreatDoor
namespace Go.Proofs.YtblapiiinbppiaaGreatDoor
open Go.Rr Go Hp Wt
set_option linter.unusedVariables false
def three (n u v w : Int) : Prop:=((0 ≤ u ∧ u < n) ∧ (0 ≤ v ∧ v < n) ∧ (0 ≤ w ∧ w < n)) ∧ u ≠ v ∧ v ≠ w ∧ w ≠ u
instance (n u v w : Int) : Decidable (three n u v w):=by unfold three; infer_instance
theorem orL_one (v : Int) : orL [v] = bitN v:=by simp [orL]
theorem inS_bitN {v x : Int} (hx0 : 0 ≤ x) (hx1 : x < 64) : inS (bitN v) x = decide (x = v):=by
  unfold inS
  rw [decide_eq_true ⟨hx0,hx1⟩,Bool.true_and,bitN_bit v _ (by omega),Int.toNat_of_nonneg hx0]
theorem inS_orL {xs : List Int} {x : Int} (hx0 : 0 ≤ x) (hx1 : x < 64) : inS (orL xs) x = decide (x ∈ xs):=by
  unfold inS
  rw [decide_eq_true ⟨hx0,hx1⟩,Bool.true_and,orL_bit xs _ (by omega),Int.toNat_of_nonneg hx0]
set_option maxHeartbeats 2000000 in
theorem spared_ct {w : World} {m : Nat} {n u v x settles : Int} {c : Int → Int → Int} {L : List HProp} (hg : Good n c) (H : Holds w (Mh m n c::L)) :
    CT Tryz.prog 42 [.pointer (some ⟨m,0,none⟩),.int .i64 u,.int .i64 v,.int .i64 x,.int .i64 settles] w fun y w' =>
      (¬ three n u v x ∧ y = .tuple #[.bool false,.int .i64 1] ∧ Holds w' (Mh m n c::L)) ∨
      (three n u v x ∧ ∃ j,to n.toNat c u.toNat (bitN v) settles (two (c u v) (c v x)) j ∧ stopP n.toNat c u.toNat (bitN v) settles (two (c u v) (c v x)) j ∧ y = .tuple #[.bool (decide (x ∈ (st n.toNat c u.toNat (bitN v) j).map Prod.fst)),.int .i64 0] ∧ Holds w' (Mh m n c::L)):=by
  have n1:=hg.n1
  have n2:=hg.n2
  refine CT.enter (N:=73) Tryz.func42 rfl rfl rfl rfl ?_
  refine W.seq (fun K0 hK0=>?_)
  refine W.region ?_
  refine O.ex (Ex.assign rfl) rfl ?_
  refine O.ex (Ex.assign rfl) rfl ?_
  refine O.nil ?_
  refine hK0 _ _ _ ?_
  refine W.seq (fun K1 hK1=>?_)
  refine W.seq (fun K2 hK2=>?_)
  refine W.region ?_
  refine O.ex (Ex.move rfl) rfl ?_
  refine O.ex (Ex.lss rfl rfl) rfl ?_
  refine O.ex (Ex.move rfl) rfl ?_
  first|refine O.split_p (t:=16) rfl (fun h0=>?_) (fun h0=>?_)|refine O.split (t:=16) rfl (fun h0=>?_) (fun h0=>?_)
  · refine O.guard_f rfl rfl rfl rfl ?_
    refine O.guard_f rfl rfl rfl rfl ?_
    refine O.guard_f rfl rfl rfl rfl ?_
    refine O.guard_f rfl rfl rfl rfl ?_
    refine O.ex (Ex.pick_t rfl rfl) rfl ?_
    refine O.ex (Ex.move rfl) rfl ?_
    refine O.guard_f rfl rfl rfl rfl ?_
    refine O.guard_f rfl rfl rfl rfl ?_
    refine O.ex (Ex.pick_t rfl rfl) rfl ?_
    refine O.ex (Ex.move rfl) rfl ?_
    refine O.guard_f rfl rfl rfl rfl ?_
    refine O.guard_f rfl rfl rfl rfl ?_
    refine O.guard_f rfl rfl rfl rfl ?_
    refine O.guard_f rfl rfl rfl rfl ?_
    refine O.ex (Ex.pick_t rfl rfl) rfl ?_
    refine O.ex (Ex.move rfl) rfl ?_
    refine O.guard_f rfl rfl rfl rfl ?_
    refine O.guard_f rfl rfl rfl rfl ?_
    refine O.guard_f rfl rfl rfl rfl ?_
    refine O.ex (Ex.pick_t rfl rfl) rfl ?_
    refine O.ex (Ex.move rfl) rfl ?_
    refine O.guard_f rfl rfl rfl rfl ?_
    refine O.guard_f rfl rfl rfl rfl ?_
    refine O.guard_f rfl rfl rfl rfl ?_
    refine O.ex (Ex.pick_t rfl rfl) rfl ?_
    refine O.ex (Ex.move rfl) rfl ?_
    refine O.guard_f rfl rfl rfl rfl ?_
    refine O.guard_f rfl rfl rfl rfl ?_
    refine O.guard_f rfl rfl rfl rfl ?_
    refine O.ex (Ex.pick_t rfl rfl) rfl ?_
    refine O.nil ?_
    refine hK2 _ _ _ ?_
    refine W.cond_t rfl ?_
    refine W.seq (fun K3 hK3=>?_)
    refine W.region ?_
    refine O.ex (Ex.assign rfl) rfl ?_
    refine O.ex (Ex.assign rfl) rfl ?_
    refine O.nil ?_
    refine hK3 _ _ _ ?_
    refine W.ret ?_
    try dsimp only [thenQ,blockQ,retQ]
    first|refine ⟨_,⟨_,_,rfl,rfl,_,_,rfl,rfl,rfl⟩,?_⟩|(refine retD_mark ?_; intro w H; refine ⟨_,⟨_,_,rfl,rfl,_,_,rfl,rfl,rfl⟩,?_⟩)|(refine retD_mark2 ?_; intro w H; refine ⟨_,⟨_,_,rfl,rfl,_,_,rfl,rfl,rfl⟩,?_⟩)
    first
    | (have hth : ¬ three n u v x:=fun hh=>by unfold three at hh; omega
       exact .inl ⟨hth,rfl,Holds.to (by assumption)⟩)
    | (have hth : ¬ three n u v x:=fun hh=>by
         obtain ⟨⟨h7,h8,h9⟩,h10,h11,h12⟩:=hh
         exact hno ⟨h7,by rw [orL_one,inS_bitN (by omega) (by omega)]; exact decide_eq_false h10⟩
       rw [inS_orL (by omega) (by omega)]
       exact .inl ⟨hth,rfl,Holds.to (by assumption)⟩)
    | (have hth : three n u v x:=⟨⟨hyes.1,by omega,by omega⟩,by omega,by omega,by omega⟩
       rw [inS_orL (by omega) (by omega)]
       rw [orL_one] at hto hst ⊢
       exact .inr ⟨hth,j,hto,hst,rfl,Holds.to (by assumption)⟩)
  · refine O.guard_t rfl rfl ?_
    refine O.ex (Ex.move rfl) rfl ?_
    refine O.guard_t rfl rfl ?_
    refine O.ex (Ex.move rfl) rfl ?_
    refine O.guard_t rfl rfl ?_
    refine O.callF Tryz.call22 rfl rfl (CT.mono (vertices_ct (Holds.to (by assumption))) ?_)
    rintro _ w ⟨rfl,H⟩
    refine O.guard_t rfl rfl ?_
    refine O.ex (Ex.geq rfl rfl) rfl ?_
    refine O.ex (Ex.pick_f rfl rfl) rfl ?_
    refine O.ex (Ex.move rfl) rfl ?_
    first|refine O.split_p (t:=22) rfl (fun h1=>?_) (fun h1=>?_)|refine O.split (t:=22) rfl (fun h1=>?_) (fun h1=>?_)
    · refine O.guard_f rfl rfl rfl rfl ?_
      refine O.guard_f rfl rfl rfl rfl ?_
      refine O.ex (Ex.pick_t rfl rfl) rfl ?_
      refine O.ex (Ex.move rfl) rfl ?_
      refine O.guard_f rfl rfl rfl rfl ?_
      refine O.guard_f rfl rfl rfl rfl ?_
      refine O.guard_f rfl rfl rfl rfl ?_
      refine O.guard_f rfl rfl rfl rfl ?_
      refine O.ex (Ex.pick_t rfl rfl) rfl ?_
      refine O.ex (Ex.move rfl) rfl ?_
      refine O.guard_f rfl rfl rfl rfl ?_
      refine O.guard_f rfl rfl rfl rfl ?_
      refine O.guard_f rfl rfl rfl rfl ?_
      refine O.ex (Ex.pick_t rfl rfl) rfl ?_
      refine O.ex (Ex.move rfl) rfl ?_
      refine O.guard_f rfl rfl rfl rfl ?_
      refine O.guard_f rfl rfl rfl rfl ?_
      refine O.guard_f rfl rfl rfl rfl ?_
      refine O.ex (Ex.pick_t rfl rfl) rfl ?_
      refine O.ex (Ex.move rfl) rfl ?_
      refine O.guard_f rfl rfl rfl rfl ?_
      refine O.guard_f rfl rfl rfl rfl ?_
      refine O.guard_f rfl rfl rfl rfl ?_
      refine O.ex (Ex.pick_t rfl rfl) rfl ?_
      refine O.nil ?_
      refine hK2 _ _ _ ?_
      refine W.cond_t rfl ?_
      refine W.seq (fun K4 hK4=>?_)
      refine W.region ?_
      refine O.ex (Ex.assign rfl) rfl ?_
      refine O.ex (Ex.assign rfl) rfl ?_
      refine O.nil ?_
      refine hK4 _ _ _ ?_
      refine W.ret ?_
      try dsimp only [thenQ,blockQ,retQ]
      first|refine ⟨_,⟨_,_,rfl,rfl,_,_,rfl,rfl,rfl⟩,?_⟩|(refine retD_mark ?_; intro w H; refine ⟨_,⟨_,_,rfl,rfl,_,_,rfl,rfl,rfl⟩,?_⟩)|(refine retD_mark2 ?_; intro w H; refine ⟨_,⟨_,_,rfl,rfl,_,_,rfl,rfl,rfl⟩,?_⟩)
      first
      | (have hth : ¬ three n u v x:=fun hh=>by unfold three at hh; omega
         exact .inl ⟨hth,rfl,Holds.to (by assumption)⟩)
      | (have hth : ¬ three n u v x:=fun hh=>by
           obtain ⟨⟨h7,h8,h9⟩,h10,h11,h12⟩:=hh
           exact hno ⟨h7,by rw [orL_one,inS_bitN (by omega) (by omega)]; exact decide_eq_false h10⟩
         rw [inS_orL (by omega) (by omega)]
         exact .inl ⟨hth,rfl,Holds.to (by assumption)⟩)
      | (have hth : three n u v x:=⟨⟨hyes.1,by omega,by omega⟩,by omega,by omega,by omega⟩
         rw [inS_orL (by omega) (by omega)]
         rw [orL_one] at hto hst ⊢
         exact .inr ⟨hth,j,hto,hst,rfl,Holds.to (by assumption)⟩)
    · refine O.guard_t rfl rfl ?_
      refine O.ex (Ex.move rfl) rfl ?_
      refine O.guard_t rfl rfl ?_
      refine O.ex (Ex.lss rfl rfl) rfl ?_
      refine O.ex (Ex.pick_f rfl rfl) rfl ?_
      refine O.ex (Ex.move rfl) rfl ?_
      first|refine O.split_p (t:=26) rfl (fun h2=>?_) (fun h2=>?_)|refine O.split (t:=26) rfl (fun h2=>?_) (fun h2=>?_)
      · refine O.guard_f rfl rfl rfl rfl ?_
        refine O.guard_f rfl rfl rfl rfl ?_
        refine O.guard_f rfl rfl rfl rfl ?_
        refine O.guard_f rfl rfl rfl rfl ?_
        refine O.ex (Ex.pick_t rfl rfl) rfl ?_
        refine O.ex (Ex.move rfl) rfl ?_
        refine O.guard_f rfl rfl rfl rfl ?_
        refine O.guard_f rfl rfl rfl rfl ?_
        refine O.guard_f rfl rfl rfl rfl ?_
        refine O.ex (Ex.pick_t rfl rfl) rfl ?_
        refine O.ex (Ex.move rfl) rfl ?_
        refine O.guard_f rfl rfl rfl rfl ?_
        refine O.guard_f rfl rfl rfl rfl ?_
        refine O.guard_f rfl rfl rfl rfl ?_
        refine O.ex (Ex.pick_t rfl rfl) rfl ?_
        refine O.ex (Ex.move rfl) rfl ?_
        refine O.guard_f rfl rfl rfl rfl ?_
        refine O.guard_f rfl rfl rfl rfl ?_
        refine O.guard_f rfl rfl rfl rfl ?_
        refine O.ex (Ex.pick_t rfl rfl) rfl ?_
        refine O.nil ?_
        refine hK2 _ _ _ ?_
        refine W.cond_t rfl ?_
        refine W.seq (fun K5 hK5=>?_)
        refine W.region ?_
        refine O.ex (Ex.assign rfl) rfl ?_
        refine O.ex (Ex.assign rfl) rfl ?_
        refine O.nil ?_
        refine hK5 _ _ _ ?_
        refine W.ret ?_
        try dsimp only [thenQ,blockQ,retQ]
        first|refine ⟨_,⟨_,_,rfl,rfl,_,_,rfl,rfl,rfl⟩,?_⟩|(refine retD_mark ?_; intro w H; refine ⟨_,⟨_,_,rfl,rfl,_,_,rfl,rfl,rfl⟩,?_⟩)|(refine retD_mark2 ?_; intro w H; refine ⟨_,⟨_,_,rfl,rfl,_,_,rfl,rfl,rfl⟩,?_⟩)
        first
        | (have hth : ¬ three n u v x:=fun hh=>by unfold three at hh; omega
           exact .inl ⟨hth,rfl,Holds.to (by assumption)⟩)
        | (have hth : ¬ three n u v x:=fun hh=>by
             obtain ⟨⟨h7,h8,h9⟩,h10,h11,h12⟩:=hh
             exact hno ⟨h7,by rw [orL_one,inS_bitN (by omega) (by omega)]; exact decide_eq_false h10⟩
           rw [inS_orL (by omega) (by omega)]
           exact .inl ⟨hth,rfl,Holds.to (by assumption)⟩)
        | (have hth : three n u v x:=⟨⟨hyes.1,by omega,by omega⟩,by omega,by omega,by omega⟩
           rw [inS_orL (by omega) (by omega)]
           rw [orL_one] at hto hst ⊢
           exact .inr ⟨hth,j,hto,hst,rfl,Holds.to (by assumption)⟩)
      · refine O.guard_t rfl rfl ?_
        refine O.ex (Ex.move rfl) rfl ?_
        refine O.guard_t rfl rfl ?_
        refine O.ex (Ex.move rfl) rfl ?_
        refine O.guard_t rfl rfl ?_
        refine O.callF Tryz.call22 rfl rfl (CT.mono (vertices_ct (Holds.to (by assumption))) ?_)
        rintro _ w ⟨rfl,H⟩
        refine O.guard_t rfl rfl ?_
        refine O.ex (Ex.geq rfl rfl) rfl ?_
        refine O.ex (Ex.pick_f rfl rfl) rfl ?_
        refine O.ex (Ex.move rfl) rfl ?_
        first|refine O.split_p (t:=32) rfl (fun h3=>?_) (fun h3=>?_)|refine O.split (t:=32) rfl (fun h3=>?_) (fun h3=>?_)
        · refine O.guard_f rfl rfl rfl rfl ?_
          refine O.guard_f rfl rfl rfl rfl ?_
          refine O.guard_f rfl rfl rfl rfl ?_
          refine O.ex (Ex.pick_t rfl rfl) rfl ?_
          refine O.ex (Ex.move rfl) rfl ?_
          refine O.guard_f rfl rfl rfl rfl ?_
          refine O.guard_f rfl rfl rfl rfl ?_
          refine O.guard_f rfl rfl rfl rfl ?_
          refine O.ex (Ex.pick_t rfl rfl) rfl ?_
          refine O.ex (Ex.move rfl) rfl ?_
          refine O.guard_f rfl rfl rfl rfl ?_
          refine O.guard_f rfl rfl rfl rfl ?_
          refine O.guard_f rfl rfl rfl rfl ?_
          refine O.ex (Ex.pick_t rfl rfl) rfl ?_
          refine O.nil ?_
          refine hK2 _ _ _ ?_
          refine W.cond_t rfl ?_
          refine W.seq (fun K6 hK6=>?_)
          refine W.region ?_
          refine O.ex (Ex.assign rfl) rfl ?_
          refine O.ex (Ex.assign rfl) rfl ?_
          refine O.nil ?_
          refine hK6 _ _ _ ?_
          refine W.ret ?_
          try dsimp only [thenQ,blockQ,retQ]
          first|refine ⟨_,⟨_,_,rfl,rfl,_,_,rfl,rfl,rfl⟩,?_⟩|(refine retD_mark ?_; intro w H; refine ⟨_,⟨_,_,rfl,rfl,_,_,rfl,rfl,rfl⟩,?_⟩)|(refine retD_mark2 ?_; intro w H; refine ⟨_,⟨_,_,rfl,rfl,_,_,rfl,rfl,rfl⟩,?_⟩)
          first
          | (have hth : ¬ three n u v x:=fun hh=>by unfold three at hh; omega
             exact .inl ⟨hth,rfl,Holds.to (by assumption)⟩)
          | (have hth : ¬ three n u v x:=fun hh=>by
               obtain ⟨⟨h7,h8,h9⟩,h10,h11,h12⟩:=hh
               exact hno ⟨h7,by rw [orL_one,inS_bitN (by omega) (by omega)]; exact decide_eq_false h10⟩
             rw [inS_orL (by omega) (by omega)]
             exact .inl ⟨hth,rfl,Holds.to (by assumption)⟩)
          | (have hth : three n u v x:=⟨⟨hyes.1,by omega,by omega⟩,by omega,by omega,by omega⟩
             rw [inS_orL (by omega) (by omega)]
             rw [orL_one] at hto hst ⊢
             exact .inr ⟨hth,j,hto,hst,rfl,Holds.to (by assumption)⟩)
        · refine O.guard_t rfl rfl ?_
          refine O.ex (Ex.move rfl) rfl ?_
          refine O.guard_t rfl rfl ?_
          refine O.ex (Ex.move rfl) rfl ?_
          refine O.guard_t rfl rfl ?_
          refine O.ex (Ex.eqlI rfl rfl) rfl ?_
          refine O.ex (Ex.pick_f rfl rfl) rfl ?_
          refine O.ex (Ex.move rfl) rfl ?_
          first|refine O.split_p (t:=37) rfl (fun h4=>?_) (fun h4=>?_)|refine O.split (t:=37) rfl (fun h4=>?_) (fun h4=>?_)
          · refine O.guard_f rfl rfl rfl rfl ?_
            refine O.guard_f rfl rfl rfl rfl ?_
            refine O.guard_f rfl rfl rfl rfl ?_
            refine O.ex (Ex.pick_t rfl rfl) rfl ?_
            refine O.ex (Ex.move rfl) rfl ?_
            refine O.guard_f rfl rfl rfl rfl ?_
            refine O.guard_f rfl rfl rfl rfl ?_
            refine O.guard_f rfl rfl rfl rfl ?_
            refine O.ex (Ex.pick_t rfl rfl) rfl ?_
            refine O.nil ?_
            refine hK2 _ _ _ ?_
            refine W.cond_t rfl ?_
            refine W.seq (fun K7 hK7=>?_)
            refine W.region ?_
            refine O.ex (Ex.assign rfl) rfl ?_
            refine O.ex (Ex.assign rfl) rfl ?_
            refine O.nil ?_
            refine hK7 _ _ _ ?_
            refine W.ret ?_
            try dsimp only [thenQ,blockQ,retQ]
            first|refine ⟨_,⟨_,_,rfl,rfl,_,_,rfl,rfl,rfl⟩,?_⟩|(refine retD_mark ?_; intro w H; refine ⟨_,⟨_,_,rfl,rfl,_,_,rfl,rfl,rfl⟩,?_⟩)|(refine retD_mark2 ?_; intro w H; refine ⟨_,⟨_,_,rfl,rfl,_,_,rfl,rfl,rfl⟩,?_⟩)
            first
            | (have hth : ¬ three n u v x:=fun hh=>by unfold three at hh; omega
               exact .inl ⟨hth,rfl,Holds.to (by assumption)⟩)
            | (have hth : ¬ three n u v x:=fun hh=>by
                 obtain ⟨⟨h7,h8,h9⟩,h10,h11,h12⟩:=hh
                 exact hno ⟨h7,by rw [orL_one,inS_bitN (by omega) (by omega)]; exact decide_eq_false h10⟩
               rw [inS_orL (by omega) (by omega)]
               exact .inl ⟨hth,rfl,Holds.to (by assumption)⟩)
            | (have hth : three n u v x:=⟨⟨hyes.1,by omega,by omega⟩,by omega,by omega,by omega⟩
               rw [inS_orL (by omega) (by omega)]
               rw [orL_one] at hto hst ⊢
               exact .inr ⟨hth,j,hto,hst,rfl,Holds.to (by assumption)⟩)
          · refine O.guard_t rfl rfl ?_
            refine O.ex (Ex.move rfl) rfl ?_
            refine O.guard_t rfl rfl ?_
            refine O.ex (Ex.move rfl) rfl ?_
            refine O.guard_t rfl rfl ?_
            refine O.ex (Ex.eqlI rfl rfl) rfl ?_
            refine O.ex (Ex.pick_f rfl rfl) rfl ?_
            refine O.ex (Ex.move rfl) rfl ?_
            first|refine O.split_p (t:=42) rfl (fun h5=>?_) (fun h5=>?_)|refine O.split (t:=42) rfl (fun h5=>?_) (fun h5=>?_)
            · refine O.guard_f rfl rfl rfl rfl ?_
              refine O.guard_f rfl rfl rfl rfl ?_
              refine O.guard_f rfl rfl rfl rfl ?_
              refine O.ex (Ex.pick_t rfl rfl) rfl ?_
              refine O.nil ?_
              refine hK2 _ _ _ ?_
              refine W.cond_t rfl ?_
              refine W.seq (fun K8 hK8=>?_)
              refine W.region ?_
              refine O.ex (Ex.assign rfl) rfl ?_
              refine O.ex (Ex.assign rfl) rfl ?_
              refine O.nil ?_
              refine hK8 _ _ _ ?_
              refine W.ret ?_
              try dsimp only [thenQ,blockQ,retQ]
              first|refine ⟨_,⟨_,_,rfl,rfl,_,_,rfl,rfl,rfl⟩,?_⟩|(refine retD_mark ?_; intro w H; refine ⟨_,⟨_,_,rfl,rfl,_,_,rfl,rfl,rfl⟩,?_⟩)|(refine retD_mark2 ?_; intro w H; refine ⟨_,⟨_,_,rfl,rfl,_,_,rfl,rfl,rfl⟩,?_⟩)
              first
              | (have hth : ¬ three n u v x:=fun hh=>by unfold three at hh; omega
                 exact .inl ⟨hth,rfl,Holds.to (by assumption)⟩)
              | (have hth : ¬ three n u v x:=fun hh=>by
                   obtain ⟨⟨h7,h8,h9⟩,h10,h11,h12⟩:=hh
                   exact hno ⟨h7,by rw [orL_one,inS_bitN (by omega) (by omega)]; exact decide_eq_false h10⟩
                 rw [inS_orL (by omega) (by omega)]
                 exact .inl ⟨hth,rfl,Holds.to (by assumption)⟩)
              | (have hth : three n u v x:=⟨⟨hyes.1,by omega,by omega⟩,by omega,by omega,by omega⟩
                 rw [inS_orL (by omega) (by omega)]
                 rw [orL_one] at hto hst ⊢
                 exact .inr ⟨hth,j,hto,hst,rfl,Holds.to (by assumption)⟩)
            · refine O.guard_t rfl rfl ?_
              refine O.ex (Ex.move rfl) rfl ?_
              refine O.guard_t rfl rfl ?_
              refine O.ex (Ex.move rfl) rfl ?_
              refine O.guard_t rfl rfl ?_
              refine O.ex (Ex.eqlI rfl rfl) rfl ?_
              refine O.ex (Ex.pick_f rfl rfl) rfl ?_
              refine O.nil ?_
              refine hK2 _ _ _ ?_
              first|refine W.cond_p rfl (fun h6=>?_) (fun h6=>?_)|refine W.cond_b rfl (fun h6=>?_) (fun h6=>?_)
              · refine W.seq (fun K9 hK9=>?_)
                refine W.region ?_
                refine O.ex (Ex.assign rfl) rfl ?_
                refine O.ex (Ex.assign rfl) rfl ?_
                refine O.nil ?_
                refine hK9 _ _ _ ?_
                refine W.ret ?_
                try dsimp only [thenQ,blockQ,retQ]
                first|refine ⟨_,⟨_,_,rfl,rfl,_,_,rfl,rfl,rfl⟩,?_⟩|(refine retD_mark ?_; intro w H; refine ⟨_,⟨_,_,rfl,rfl,_,_,rfl,rfl,rfl⟩,?_⟩)|(refine retD_mark2 ?_; intro w H; refine ⟨_,⟨_,_,rfl,rfl,_,_,rfl,rfl,rfl⟩,?_⟩)
                first
                | (have hth : ¬ three n u v x:=fun hh=>by unfold three at hh; omega
                   exact .inl ⟨hth,rfl,Holds.to (by assumption)⟩)
                | (have hth : ¬ three n u v x:=fun hh=>by
                     obtain ⟨⟨h7,h8,h9⟩,h10,h11,h12⟩:=hh
                     exact hno ⟨h7,by rw [orL_one,inS_bitN (by omega) (by omega)]; exact decide_eq_false h10⟩
                   rw [inS_orL (by omega) (by omega)]
                   exact .inl ⟨hth,rfl,Holds.to (by assumption)⟩)
                | (have hth : three n u v x:=⟨⟨hyes.1,by omega,by omega⟩,by omega,by omega,by omega⟩
                   rw [inS_orL (by omega) (by omega)]
                   rw [orL_one] at hto hst ⊢
                   exact .inr ⟨hth,j,hto,hst,rfl,Holds.to (by assumption)⟩)
              · refine W.skip ?_
                refine hK1 _ _ _ ?_
                refine W.seq (fun K10 hK10=>?_)
                refine W.region ?_
                refine O.ex (Ex.move rfl) rfl ?_
                refine O.ex (Ex.move rfl) rfl ?_
                refine O.ex (Ex.move rfl) rfl ?_
                refine O.build1 (e:=Value.int .i64) Tryz.runUnderlying28 Tryz.sizeOf3 Tryz.zeroValue3 rfl (fun v51 w hv51 H=>?_)
                refine O.callF Tryz.call69 rfl rfl (CT.mono (ofA_ct (xs:=[v]) (Holds.to (by assumption)) (by simp)) ?_)
                rintro _ w ⟨rfl,H⟩
                refine O.ex (Ex.move rfl) rfl ?_
                refine O.ex (Ex.move rfl) rfl ?_
                refine O.ex (Ex.move rfl) rfl ?_
                refine O.callF Tryz.call59 rfl rfl (CT.mono (at_ct hg (Holds.to (by assumption))) ?_)
                rintro _ w ⟨rfl,H⟩
                refine O.ex (Ex.move rfl) rfl ?_
                refine O.ex (Ex.move rfl) rfl ?_
                refine O.ex (Ex.move rfl) rfl ?_
                refine O.callF Tryz.call59 rfl rfl (CT.mono (at_ct hg (Holds.to (by assumption))) ?_)
                rintro _ w ⟨rfl,H⟩
                refine O.buildK (e:=Value.int .i64) (vs:=[(0,.int .i64 (c u v)),(1,.int .i64 (c v x))]) [c u v,c v x] Tryz.runUnderlying28 Tryz.sizeOf3 Tryz.zeroValue3 rfl rfl rfl rfl rfl rfl (fun v61 w hv61 H=>?_)
                refine O.callF Tryz.call67 rfl rfl (CT.mono (add_ct (Holds.to (by assumption)) (hg.dst _ _) (hg.dst _ _)) ?_)
                rintro _ w ⟨rfl,H⟩
                refine O.ex (Ex.move rfl) rfl ?_
                refine O.callF Tryz.call68 rfl rfl (CT.mono (wfind_ct hg (orL_lt _) (Holds.to (by assumption))) ?_)
                rintro _ w hh
                rcases hh with ⟨hno,rfl,H⟩|⟨hyes,j,T,sv,dv,hto,hst,hT,rfl,hs1,hd1,H⟩
                · refine O.ex (Ex.move rfl) rfl ?_
                  refine O.ex (Ex.extract rfl rfl) rfl ?_
                  refine O.ex (Ex.extract rfl rfl) rfl ?_
                  refine O.allocP Tryz.zeroValue119 (fun b12 w H=>?_)
                  first|refine O.storeAggP Tryz.sizeOf119 rfl rfl rfl rfl (fun w H=>?_)|refine O.storeAggP Tryz.sizeOf119 rfl rfl rfl (all3 hs1 hd1 rfl) (fun w H=>?_)
                  refine O.ex (Ex.assign rfl) rfl ?_
                  refine O.nil ?_
                  refine hK10 _ _ _ ?_
                  refine W.seq (fun K11 hK11=>?_)
                  refine W.region ?_
                  have H:=arr_nil (T:=3) (e:=Value.int .i64) H
                  refine O.ex (by first|exact Ex.field0 fld119_0 rfl|exact Ex.field fld119_0 rfl|exact Ex.fieldS fld119_0 rfl) rfl ?_
                  refine O.ex (by first|exact Ex.loadMh Tryz.isAgg28 rfl|exact Ex.loadP Tryz.isAgg28 rfl|exact Ex.loadM Tryz.isAgg28 rfl|exact Ex.loadIn1 Tryz.isAgg28 rfl (Holds.to (by assumption))|exact Ex.loadVc Tryz.isAgg28 rfl|exact Ex.loadR Tryz.isAgg28 rfl|exact Ex.loadQ Tryz.isAgg28 rfl) rfl ?_
                  refine O.callF Tryz.call69 rfl rfl (CT.mono (ofA_ct (xs:=[]) (Holds.to (by assumption)) (by simp)) ?_)
                  rintro _ w ⟨rfl,H⟩
                  refine O.ex (Ex.move rfl) rfl ?_
                  refine O.callF Tryz.call70 rfl rfl (CT.mono (has_ct (Holds.to (by assumption)) (orL_lt _)) ?_)
                  rintro _ w ⟨rfl,H⟩
                  refine O.ex (Ex.move rfl) rfl ?_
                  refine O.ex (Ex.assign rfl) rfl ?_
                  refine O.ex (Ex.assign rfl) rfl ?_
                  refine O.nil ?_
                  refine hK11 _ _ _ ?_
                  refine W.ret ?_
                  try dsimp only [thenQ,blockQ,retQ]
                  first|refine ⟨_,⟨_,_,rfl,rfl,_,_,rfl,rfl,rfl⟩,?_⟩|(refine retD_mark ?_; intro w H; refine ⟨_,⟨_,_,rfl,rfl,_,_,rfl,rfl,rfl⟩,?_⟩)|(refine retD_mark2 ?_; intro w H; refine ⟨_,⟨_,_,rfl,rfl,_,_,rfl,rfl,rfl⟩,?_⟩)
                  first
                  | (have hth : ¬ three n u v x:=fun hh=>by unfold three at hh; omega
                     exact .inl ⟨hth,rfl,Holds.to (by assumption)⟩)
                  | (have hth : ¬ three n u v x:=fun hh=>by
                       obtain ⟨⟨h7,h8,h9⟩,h10,h11,h12⟩:=hh
                       exact hno ⟨h7,by rw [orL_one,inS_bitN (by omega) (by omega)]; exact decide_eq_false h10⟩
                     rw [inS_orL (by omega) (by omega)]
                     exact .inl ⟨hth,rfl,Holds.to (by assumption)⟩)
                  | (have hth : three n u v x:=⟨⟨hyes.1,by omega,by omega⟩,by omega,by omega,by omega⟩
                     rw [inS_orL (by omega) (by omega)]
                     rw [orL_one] at hto hst ⊢
                     exact .inr ⟨hth,j,hto,hst,rfl,Holds.to (by assumption)⟩)
                · refine O.ex (Ex.move rfl) rfl ?_
                  refine O.ex (Ex.extract rfl rfl) rfl ?_
                  refine O.ex (Ex.extract rfl rfl) rfl ?_
                  refine O.allocP Tryz.zeroValue119 (fun b12 w H=>?_)
                  first|refine O.storeAggP Tryz.sizeOf119 rfl rfl rfl rfl (fun w H=>?_)|refine O.storeAggP Tryz.sizeOf119 rfl rfl rfl (all3 hs1 hd1 rfl) (fun w H=>?_)
                  refine O.ex (Ex.assign rfl) rfl ?_
                  refine O.nil ?_
                  refine hK10 _ _ _ ?_
                  refine W.seq (fun K12 hK12=>?_)
                  refine W.region ?_
                  have hl1 : ((st n.toNat c u.toNat (orL [v]) j).map Prod.fst).length ≤ 9223372036854775807:=by
                    rw [List.length_map]; have:=st_len (s0:=u.toNat) (wo:=orL [v]) hg j; omega
                  refine O.ex (by first|exact Ex.field0 fld119_0 rfl|exact Ex.field fld119_0 rfl|exact Ex.fieldS fld119_0 rfl) rfl ?_
                  refine O.ex (by first|exact Ex.loadMh Tryz.isAgg28 rfl|exact Ex.loadP Tryz.isAgg28 rfl|exact Ex.loadM Tryz.isAgg28 rfl|exact Ex.loadIn1 Tryz.isAgg28 rfl (Holds.to (by assumption))|exact Ex.loadVc Tryz.isAgg28 rfl|exact Ex.loadR Tryz.isAgg28 rfl|exact Ex.loadQ Tryz.isAgg28 rfl) rfl ?_
                  refine O.callF Tryz.call69 rfl rfl (CT.mono (ofA_ct (xs:=(st n.toNat c u.toNat (orL [v]) j).map Prod.fst) (Holds.to (by assumption)) hl1) ?_)
                  rintro _ w ⟨rfl,H⟩
                  refine O.ex (Ex.move rfl) rfl ?_
                  refine O.callF Tryz.call70 rfl rfl (CT.mono (has_ct (Holds.to (by assumption)) (orL_lt _)) ?_)
                  rintro _ w ⟨rfl,H⟩
                  refine O.ex (Ex.move rfl) rfl ?_
                  refine O.ex (Ex.assign rfl) rfl ?_
                  refine O.ex (Ex.assign rfl) rfl ?_
                  refine O.nil ?_
                  refine hK12 _ _ _ ?_
                  refine W.ret ?_
                  try dsimp only [thenQ,blockQ,retQ]
                  first|refine ⟨_,⟨_,_,rfl,rfl,_,_,rfl,rfl,rfl⟩,?_⟩|(refine retD_mark ?_; intro w H; refine ⟨_,⟨_,_,rfl,rfl,_,_,rfl,rfl,rfl⟩,?_⟩)|(refine retD_mark2 ?_; intro w H; refine ⟨_,⟨_,_,rfl,rfl,_,_,rfl,rfl,rfl⟩,?_⟩)
                  first
                  | (have hth : ¬ three n u v x:=fun hh=>by unfold three at hh; omega
                     exact .inl ⟨hth,rfl,Holds.to (by assumption)⟩)
                  | (have hth : ¬ three n u v x:=fun hh=>by
                       obtain ⟨⟨h7,h8,h9⟩,h10,h11,h12⟩:=hh
                       exact hno ⟨h7,by rw [orL_one,inS_bitN (by omega) (by omega)]; exact decide_eq_false h10⟩
                     rw [inS_orL (by omega) (by omega)]
                     exact .inl ⟨hth,rfl,Holds.to (by assumption)⟩)
                  | (have hth : three n u v x:=⟨⟨hyes.1,by omega,by omega⟩,by omega,by omega,by omega⟩
                     rw [inS_orL (by omega) (by omega)]
                     rw [orL_one] at hto hst ⊢
                     exact .inr ⟨hth,j,hto,hst,rfl,Holds.to (by assumption)⟩)
set_option maxHeartbeats 1000000 in
theorem refSpared_ct {w : World} {r : Nat} {n u v x settles : Int} {c : Int → Int → Int} {L : List HProp} (hg : Good n c) (h3 : three n u v x) (H : Holds w (Rh r n c::L)) :
    CT Tryz.prog 84 [.pointer (some ⟨r,0,none⟩),.int .i64 u,.int .i64 v,.int .i64 x,.int .i64 settles] w fun y w' =>
      ∃ j,to n.toNat c u.toNat (bitN v) settles (two (c u v) (c v x)) j ∧ stopP n.toNat c u.toNat (bitN v) settles (two (c u v) (c v x)) j ∧ y = .bool (decide (x ∈ (st n.toNat c u.toNat (bitN v) j).map Prod.fst)) ∧ Holds w' (Rh r n c::L):=by
  have n1:=hg.n1
  have n2:=hg.n2
  obtain ⟨⟨⟨hu0,hu1⟩,⟨hv0,hv1⟩,⟨hx0,hx1⟩⟩,h10,h11,h12⟩:=h3
  refine CT.enter (N:=37) Tryz.func84 rfl rfl rfl rfl ?_
  refine W.seq (fun K0 hK0=>?_)
  refine W.region ?_
  refine O.ex (Ex.assign rfl) rfl ?_
  refine O.nil ?_
  refine hK0 _ _ _ ?_
  refine W.seq (fun K1 hK1=>?_)
  refine W.region ?_
  refine O.ex (Ex.assign rfl) rfl ?_
  refine O.nil ?_
  refine hK1 _ _ _ ?_
  refine W.seq (fun K2 hK2=>?_)
  refine W.seq (fun K3 hK3=>?_)
  refine W.region ?_
  refine O.ex (Ex.assign rfl) rfl ?_
  refine O.nil ?_
  refine hK3 _ _ _ ?_
  refine W.block ?_
  refine W.loop (σ:=Nat) (fun i=>[(0,.pointer (some ⟨r,0,none⟩)),(1,.int .i64 u),(2,.int .i64 v),(3,.int .i64 x),(4,.int .i64 settles),(11,.int .u64 ((2 ^ i : Nat) : Int)),(12,.int .i64 (i : Int))]) (fun i ds w=>ds = [] ∧ (i : Int) ≤ v ∧ Holds w (Rh r n c::L)) (fun i=>v.toNat - i) 0 ⟨rfl,rfl,rfl,rfl,rfl,rfl,rfl,trivial⟩ ⟨rfl,by omega,Holds.to (by assumption)⟩ ?_
  clear H
  rintro i _ w ⟨rfl,hi,H⟩
  refine W.seq (fun K4 hK4=>?_)
  refine W.seq (fun K5 hK5=>?_)
  refine W.region ?_
  refine O.ex (Ex.move rfl) rfl ?_
  refine O.ex (Ex.move rfl) rfl ?_
  refine O.ex (Ex.lss rfl rfl) rfl ?_
  refine O.nil ?_
  refine hK5 _ _ _ ?_
  first|refine W.cond_p rfl (fun hlt=>?_) (fun hge=>?_)|refine W.cond_b rfl (fun hlt=>?_) (fun hge=>?_)
  · refine W.skip ?_
    refine hK4 _ _ _ ?_
    refine W.seq (fun K6 hK6=>?_)
    refine W.block ?_
    refine W.region ?_
    refine O.ex (Ex.move rfl) rfl ?_
    refine O.ex (Ex.mul (r:=((2 ^ (i + 1) : Nat) : Int)) rfl rfl (by
      rw [wrap64,Nat.pow_succ]
      have h5 : 2 ^ i ≤ 2 ^ 24:=Nat.pow_le_pow_right (by decide) (by omega)
      generalize 2 ^ i = y at *
      omega)) rfl ?_
    refine O.ex (Ex.assign rfl) rfl ?_
    refine O.nil ?_
    refine hK6 _ _ _ ?_
    refine W.region ?_
    refine O.ex (Ex.move rfl) rfl ?_
    refine O.ex (by first|exact Ex.addI rfl rfl|exact Ex.add rfl rfl rfl) rfl ?_
    refine O.ex (Ex.assign rfl) rfl ?_
    refine O.nil ?_
    exact ⟨i + 1,⟨rfl,rfl,rfl,rfl,rfl,rfl,rfl,trivial⟩,⟨rfl,by omega,Holds.to (by assumption)⟩,by omega⟩
  · refine W.exit ?_
    refine hK2 _ _ _ ?_
    refine W.seq (fun K7 hK7=>?_)
    refine W.region ?_
    have hiv : i = v.toNat:=by omega
    have hb : bitN v = 2 ^ i:=by unfold bitN; rw [if_pos (by omega),hiv]
    rw [← hb]
    refine O.ex (Ex.move rfl) rfl ?_
    refine O.ex (Ex.move rfl) rfl ?_
    refine O.ex (Ex.move rfl) rfl ?_
    refine O.ex (Ex.move rfl) rfl ?_
    refine O.ex (Ex.move rfl) rfl ?_
    refine O.ex (Ex.move rfl) rfl ?_
    refine O.callF Tryz.call63 rfl rfl (CT.mono (refAt_ct hg (Holds.to (by assumption))) ?_)
    rintro _ w ⟨rfl,H⟩
    refine O.ex (Ex.move rfl) rfl ?_
    refine O.ex (Ex.move rfl) rfl ?_
    refine O.ex (Ex.move rfl) rfl ?_
    refine O.callF Tryz.call63 rfl rfl (CT.mono (refAt_ct hg (Holds.to (by assumption))) ?_)
    rintro _ w ⟨rfl,H⟩
    refine O.callF Tryz.call86 rfl rfl (CT.mono (refTwo_ct (Holds.to (by assumption)) (hg.dst _ _) (hg.dst _ _)) ?_)
    rintro _ w ⟨rfl,H⟩
    refine O.ex (Ex.move rfl) rfl ?_
    refine O.callF Tryz.call102 rfl rfl (CT.mono (refSearch_ct hg (bitN_lt _) hu0 hu1 (Holds.to (by assumption))) ?_)
    rintro _ w ⟨j,sv,dv,tv,hto,hst,rfl,⟨hs1,hd1,ht1⟩,H⟩
    have hl1 : ((st n.toNat c u.toNat (bitN v) j).map Prod.fst).length ≤ 1000:=by
      rw [List.length_map]; have:=st_len (s0:=u.toNat) (wo:=bitN v) hg j; omega
    refine O.ex (Ex.fieldV (v:=sv) rfl (by simp [Instr.field,Tryz.runUnderlying141,part,asAgg,Tryz.isAgg28,Tryz.sizeOf28])) rfl ?_
    refine O.ex (Ex.move rfl) rfl ?_
    refine O.callF Tryz.call101 rfl rfl (CT.mono (hasL_ct hl1 (Holds.to (by assumption))) ?_)
    rintro _ w ⟨rfl,H⟩
    refine O.ex (Ex.assign rfl) rfl ?_
    refine O.nil ?_
    refine hK7 _ _ _ ?_
    refine W.ret ?_
    try dsimp only [thenQ,blockQ,retQ]
    first|refine ⟨_,⟨_,_,rfl,rfl,rfl⟩,?_⟩|(refine retD_mark ?_; intro w H; refine ⟨_,⟨_,_,rfl,rfl,rfl⟩,?_⟩)|(refine retD_mark2 ?_; intro w H; refine ⟨_,⟨_,_,rfl,rfl,rfl⟩,?_⟩)
    exact ⟨j,hto,hst,rfl,Holds.to (by assumption)⟩
end Go.Proofs.YtblapiiinbppiaaGreatDoor
namespace Go.Proofs.YtblapiiinbppiaaGreatDoor
open Go.Rr Go Hp Wt
set_option linter.unusedVariables false
def aw3 : Int → Int → Int:=putD 3 (putD 3 (putD 3 noneM 0 1 2) 1 2 3) 0 2 9
def aw4 : Int → Int → Int:=putD 3 aw3 0 2 5
theorem aw_a : to 3 aw3 0 2 9 5 1 ∧ stopP 3 aw3 0 2 9 5 1:=⟨to_of (by decide +kernel),stop_iff.1 (by decide +kernel)⟩
theorem aw_s : st 3 aw3 0 2 1 = [(0,0)]:=by decide +kernel
theorem aw_m : two (aw3 0 1) (aw3 1 2) = 5:=by decide +kernel
theorem aw_m4 : two (aw4 0 1) (aw4 1 2) = 5:=by decide +kernel
theorem aw_b : to 3 aw4 0 2 9 5 2 ∧ stopP 3 aw4 0 2 9 5 2:=⟨to_of (by decide +kernel),stop_iff.1 (by decide +kernel)⟩
theorem aw_s4 : st 3 aw4 0 2 2 = [(0,0),(2,5)]:=by decide +kernel
end Go.Proofs.YtblapiiinbppiaaGreatDoor
