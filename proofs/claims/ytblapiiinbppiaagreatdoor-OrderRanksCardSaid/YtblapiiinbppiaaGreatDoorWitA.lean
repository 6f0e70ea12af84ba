/- Several texts as one: Wit Wit2 Wit3. -/
import Derived.Test.YtblapiiinbppiaaGreatDoorWitLaw
import Derived.Test.YtblapiiinbppiaaGreatDoorHeapAll
import Derived.Test.YtblapiiinbppiaaGreatDoorMeshAll
import Derived.Test.YtblapiiinbppiaaGreatDoorRrBase
import Derived.Test.YtblapiiinbppiaaGreatDoorWitLaw2
namespace Go.Proofs.YtblapiiinbppiaaGreatDoor
open Go.Rr Go Hp Wt
set_option linter.unusedVariables false
theorem hp_start {N : Nat} {c : Int → Int → Int} {s0 wo : Nat} (h1 : s0 < N) (h2 : inS wo (s0 : Int) = false) : putL RI (List.replicate N none) (s0 : Int) 0 = hpW N c s0 wo []:=by
  have hs : ∀ i,i < N → sg (List.replicate N (none : Option Int)) i = none:=fun i hi=>by
    unfold sg; rw [List.getD_eq_getElem?_getD,List.getElem?_replicate,if_pos hi]; rfl
  have hc : putC RI (List.replicate N none) (s0 : Int) (0 : Int) = 0:=by
    unfold putC; rw [if_neg (by rw [List.length_replicate]; omega),Int.toNat_natCast,hs s0 h1]
  unfold putL
  rw [if_pos hc,Int.toNat_natCast]
  refine ext_sg (by rw [List.length_set,List.length_replicate,hpW_len]) fun i hi=>?_
  rw [List.length_set,List.length_replicate] at hi
  rw [sg_set _ _ _ _ (by rw [List.length_replicate]; exact h1),hpW_get [] hi,hs i hi]
  have e0 : smF c s0 [] s0 = 0:=if_pos ⟨rfl,rfl⟩
  have e1 : ∀ i,i ≠ s0 → smF c s0 [] i = 4611686018427387906:=fun i h=>if_neg (fun k=>h k.2)
  unfold cand
  by_cases e : i = s0
  · subst e
    rw [if_pos rfl,if_neg (by rw [h2]; simp [isIn]),e0,if_pos (by omega)]
  · rw [if_neg e]
    by_cases h : isIn [] i ∨ inS wo (i : Int) = true
    · rw [if_pos h]
    · rw [if_neg h,e1 i e,if_neg (by omega)]
/-- What is found, so far. -/
def FB (bf : Nat) (P : List (Int × Int)) (T : Nat) : HProp:=hex fun sv=>hex fun dv=>star [pt bf (.cells #[sv,dv,.int .u64 (T : Int)] 119 (0,0)),arr 3 (Value.int .i64) sv (P.map Prod.fst),arr 3 (Value.int .i64) dv (P.map Prod.snd)]
theorem fb_open {w : World} {bf T : Nat} {P : List (Int × Int)} {L : List HProp} : Holds w (FB bf P T::L) ↔ ∃ sv dv,Holds w (pt bf (.cells #[sv,dv,.int .u64 (T : Int)] 119 (0,0))::arr 3 (Value.int .i64) sv (P.map Prod.fst)::arr 3 (Value.int .i64) dv (P.map Prod.snd)::L):=by
  unfold FB
  simp only [Holds.hex,Holds.star,List.cons_append,List.nil_append]
def FBQ (bf : Nat) (P : List (Int × Int)) (Q : Nat → Prop) : HProp:=hex fun T=>star [hp (Tq Q T),FB bf P T]
theorem fbq_open {w : World} {bf : Nat} {P : List (Int × Int)} {Q : Nat → Prop} {L : List HProp} : Holds w (FBQ bf P Q::L) ↔ ∃ T,Tq Q T ∧ Holds w (FB bf P T::L):=by
  unfold FBQ
  simp only [Holds.hex,Holds.star,List.cons_append,List.nil_append,Holds.hp]
def cap4 (b1 b2 b3 b4 m s0 bf wo : Nat) : HProp:=star [pt b1 (.cells #[.pointer (some ⟨m,0,none⟩)] 45 (0,0)),pt b2 (.cells #[.int .i64 (s0 : Int)] 3 (0,0)),pt b3 (.cells #[.pointer (some ⟨bf,2,none⟩)] 136 (0,0)),pt b4 (.cells #[.int .u64 (wo : Int)] 61 (0,0))]
theorem cap4_open {w : World} {b1 b2 b3 b4 m s0 bf wo : Nat} {L : List HProp} : Holds w (cap4 b1 b2 b3 b4 m s0 bf wo::L) ↔ Holds w (pt b1 (.cells #[.pointer (some ⟨m,0,none⟩)] 45 (0,0))::pt b2 (.cells #[.int .i64 (s0 : Int)] 3 (0,0))::pt b3 (.cells #[.pointer (some ⟨bf,2,none⟩)] 136 (0,0))::pt b4 (.cells #[.int .u64 (wo : Int)] 61 (0,0))::L):=by
  unfold cap4
  simp only [Holds.star,List.cons_append,List.nil_append]
def loc2 (h6 r8 hh rr : Nat) : HProp:=star [pt h6 (.cells #[.pointer (some ⟨hh,0,none⟩)] 143 (0,0)),pt r8 (.cells #[.pointer (some ⟨rr,0,none⟩)] 146 (0,0))]
theorem loc2_open {w : World} {h6 r8 hh rr : Nat} {L : List HProp} : Holds w (loc2 h6 r8 hh rr::L) ↔ Holds w (pt h6 (.cells #[.pointer (some ⟨hh,0,none⟩)] 143 (0,0))::pt r8 (.cells #[.pointer (some ⟨rr,0,none⟩)] 146 (0,0))::L):=by
  unfold loc2
  simp only [Holds.star,List.cons_append,List.nil_append]
theorem wsearch_ct {w : World} {m s0 bf wo : Nat} {L : List HProp} (H : Holds w L) :
    CT Tryz.prog 94 [.pointer (some ⟨m,0,none⟩),.int .i64 (s0 : Int),.int .u64 (wo : Int),.pointer (some ⟨bf,2,none⟩)] w fun u w'=>∃ b1 b2 b3 b4,u = .func (.func 106) #[] #[.pointer (some ⟨b1,0,none⟩),.pointer (some ⟨b2,0,none⟩),.pointer (some ⟨b3,0,none⟩),.pointer (some ⟨b4,0,none⟩)] ∧ Holds w' (cap4 b1 b2 b3 b4 m s0 bf wo::L):=by
  refine CT.enter (N:=10) Tryz.func94 rfl rfl rfl rfl ?_
  refine W.seq (fun K0 hK0=>?_)
  refine W.region ?_
  refine O.boxP rfl (fun b4 w H=>?_)
  refine O.boxP rfl (fun b5 w H=>?_)
  refine O.boxP rfl (fun b6 w H=>?_)
  refine O.boxP rfl (fun b7 w H=>?_)
  refine O.ex (Ex.assign rfl) rfl ?_
  refine O.nil ?_
  refine hK0 _ _ _ ?_
  refine W.seq (fun K1 hK1=>?_)
  refine W.region ?_
  refine O.ex (Ex.makeFunc rfl rfl) rfl ?_
  refine O.ex (Ex.assign rfl) rfl ?_
  refine O.nil ?_
  refine hK1 _ _ _ ?_
  refine W.ret ?_
  try dsimp only [thenQ,blockQ,retQ]
  first|refine ⟨_,⟨_,_,rfl,rfl,rfl⟩,?_⟩|(refine retD_mark ?_; intro w H; refine ⟨_,⟨_,_,rfl,rfl,rfl⟩,?_⟩)|(refine retD_mark2 ?_; intro w H; refine ⟨_,⟨_,_,rfl,rfl,rfl⟩,?_⟩)
  exact ⟨_,_,_,_,rfl,cap4_open.2 (Holds.to (by assumption))⟩
set_option maxHeartbeats 4000000 in
theorem wsearch1_ct {w : World} {b1 b2 b3 b4 m s0 bf wo : Nat} {n : Int} {c : Int → Int → Int} {settles most : Int} {fv : Value} {J SL : List HProp} (hg : Good n c) (h1 : s0 < n.toNat) (hw : wo < 18446744073709551616) (h2 : inS wo (s0 : Int) = false)
    (H : Holds w (cap4 b1 b2 b3 b4 m s0 bf wo::Mh m n c::FB bf [] 0::J))
    (hy : ∀ (F : HProp) (j T b : Nat) w,nx n.toNat c s0 wo (st n.toNat c s0 wo j) = some b → to n.toNat c s0 wo settles most j → Holds w (F::FB bf (st n.toNat c s0 wo j) T::J) →
      VT Tryz.prog fv [.int .i64 (b : Int),.int .i64 (smF c s0 (st n.toNat c s0 wo j) b)] w fun u w'=>(u = .bool true ∧ ¬ stopP n.toNat c s0 wo settles most j ∧ Holds w' (F::FB bf (st n.toNat c s0 wo (j + 1)) T::J)) ∨ (u = .bool false ∧ stopP n.toNat c s0 wo settles most j ∧ Holds w' (F::FB bf (st n.toNat c s0 wo j) T::SL))) :
    CT Tryz.prog 106 [fv,.pointer (some ⟨b1,0,none⟩),.pointer (some ⟨b2,0,none⟩),.pointer (some ⟨b3,0,none⟩),.pointer (some ⟨b4,0,none⟩)] w fun _ w'=>∃ j T,to n.toNat c s0 wo settles most j ∧ stopP n.toNat c s0 wo settles most j ∧ Tq (TQ n.toNat c wo (st n.toNat c s0 wo j)) T ∧ (Holds w' (Mh m n c::FB bf (st n.toNat c s0 wo j) T::J) ∨ Holds w' (Mh m n c::FB bf (st n.toNat c s0 wo j) T::SL)):=by
  obtain ⟨N,hN⟩ : ∃ N,N = n.toNat:=⟨_,rfl⟩
  rw [← hN] at h1 hy ⊢
  have n1:=hg.n1
  have n2:=hg.n2
  have H:=cap4_open.1 H
  refine CT.enter (N:=92) Tryz.func106 rfl rfl rfl rfl ?_
  refine W.seq (fun K0 hK0=>?_)
  refine W.region ?_
  refine O.ex (by first|exact Ex.loadP Tryz.isAgg45 rfl|exact Ex.loadQ Tryz.isAgg45 rfl|exact Ex.loadMh Tryz.isAgg45 rfl|exact Ex.loadR Tryz.isAgg45 rfl|exact Ex.loadIn1 Tryz.isAgg45 rfl (Holds.to (by assumption))|exact Ex.loadM Tryz.isAgg45 rfl|exact Ex.loadVc Tryz.isAgg45 rfl) rfl ?_
  refine O.callF Tryz.call22 rfl rfl (CT.mono (vertices_ct (Holds.to (by assumption))) ?_)
  rintro _ w ⟨rfl,H⟩
  refine O.callF Tryz.call107 rfl rfl (CT.mono (newIH_ct (n:=n) (Holds.to (by assumption))) ?_)
  rintro _ w (⟨hx,-⟩|⟨-,hh,rfl,H⟩)
  · exact absurd (by omega) hx
  rw [← hN] at H
  refine O.ex (Ex.move rfl) rfl ?_
  refine O.ex (Ex.extract rfl rfl) rfl ?_
  refine O.ex (Ex.extract rfl rfl) rfl ?_
  refine O.allocP Tryz.zeroValue143 (fun b6 w H=>?_)
  first|refine O.storeP Tryz.sizeOf143 rfl rfl (fun w H=>?_)|refine O.storeR Tryz.sizeOf143 rfl rfl (fun w H=>?_)|refine O.storeM Tryz.sizeOf143 rfl rfl (fun w H=>?_)|refine O.storeVc Tryz.sizeOf143 rfl rfl (fun w H=>?_)
  refine O.ex (Ex.assign rfl) rfl ?_
  refine O.nil ?_
  refine hK0 _ _ _ ?_
  refine W.seq (fun K1 hK1=>?_)
  refine W.region ?_
  refine O.ex (by first|exact Ex.loadP Tryz.isAgg45 rfl|exact Ex.loadQ Tryz.isAgg45 rfl|exact Ex.loadMh Tryz.isAgg45 rfl|exact Ex.loadR Tryz.isAgg45 rfl|exact Ex.loadIn1 Tryz.isAgg45 rfl (Holds.to (by assumption))|exact Ex.loadM Tryz.isAgg45 rfl|exact Ex.loadVc Tryz.isAgg45 rfl) rfl ?_
  refine O.callF Tryz.call22 rfl rfl (CT.mono (vertices_ct (Holds.to (by assumption))) ?_)
  rintro _ w ⟨rfl,H⟩
  refine O.callF Tryz.call108 rfl rfl (CT.mono (newI_ct (n:=n) (Holds.to (by assumption))) ?_)
  rintro _ w (⟨hx,-⟩|⟨-,rr,rfl,H⟩)
  · exact absurd (by omega) hx
  rw [← hN] at H
  refine O.ex (Ex.move rfl) rfl ?_
  refine O.ex (Ex.extract rfl rfl) rfl ?_
  refine O.ex (Ex.extract rfl rfl) rfl ?_
  refine O.allocP Tryz.zeroValue146 (fun b8 w H=>?_)
  first|refine O.storeP Tryz.sizeOf146 rfl rfl (fun w H=>?_)|refine O.storeR Tryz.sizeOf146 rfl rfl (fun w H=>?_)|refine O.storeM Tryz.sizeOf146 rfl rfl (fun w H=>?_)|refine O.storeVc Tryz.sizeOf146 rfl rfl (fun w H=>?_)
  refine O.ex (Ex.assign rfl) rfl ?_
  refine O.nil ?_
  refine hK1 _ _ _ ?_
  refine W.seq (fun K2 hK2=>?_)
  refine W.region ?_
  refine O.ex (by first|exact Ex.loadP Tryz.isAgg143 rfl|exact Ex.loadQ Tryz.isAgg143 rfl|exact Ex.loadMh Tryz.isAgg143 rfl|exact Ex.loadR Tryz.isAgg143 rfl|exact Ex.loadIn1 Tryz.isAgg143 rfl (Holds.to (by assumption))|exact Ex.loadM Tryz.isAgg143 rfl|exact Ex.loadVc Tryz.isAgg143 rfl) rfl ?_
  refine O.ex (by first|exact Ex.loadP Tryz.isAgg3 rfl|exact Ex.loadQ Tryz.isAgg3 rfl|exact Ex.loadMh Tryz.isAgg3 rfl|exact Ex.loadR Tryz.isAgg3 rfl|exact Ex.loadIn1 Tryz.isAgg3 rfl (Holds.to (by assumption))|exact Ex.loadM Tryz.isAgg3 rfl|exact Ex.loadVc Tryz.isAgg3 rfl) rfl ?_
  refine O.callF Tryz.call109 rfl rfl (CT.mono (putIH_ct (Holds.to (by assumption))) ?_)
  rintro _ w ⟨-,H⟩
  rw [hp_start (c:=c) h1 h2] at H
  refine O.nil ?_
  refine hK2 _ _ _ ?_
  refine W.seq (fun K3 hK3=>?_)
  refine W.region ?_
  refine O.ex (by first|exact Ex.loadP Tryz.isAgg143 rfl|exact Ex.loadQ Tryz.isAgg143 rfl|exact Ex.loadMh Tryz.isAgg143 rfl|exact Ex.loadR Tryz.isAgg143 rfl|exact Ex.loadIn1 Tryz.isAgg143 rfl (Holds.to (by assumption))|exact Ex.loadM Tryz.isAgg143 rfl|exact Ex.loadVc Tryz.isAgg143 rfl) rfl ?_
  refine O.callF Tryz.call110 rfl rfl (CT.mono (popI1_ct (Holds.to (by assumption))) ?_)
  rintro _ w ⟨rfl,H⟩
  refine O.ex (Ex.move rfl) rfl ?_
  refine O.ex (Ex.extract rfl rfl) rfl ?_
  refine O.ex (Ex.extract rfl rfl) rfl ?_
  refine O.ex (Ex.extract rfl rfl) rfl ?_
  refine O.allocP Tryz.zeroValue3 (fun b11 w H=>?_)
  refine O.ex (Ex.assign rfl) rfl ?_
  first|refine O.storeP Tryz.sizeOf3 rfl rfl (fun w H=>?_)|refine O.storeR Tryz.sizeOf3 rfl rfl (fun w H=>?_)|refine O.storeM Tryz.sizeOf3 rfl rfl (fun w H=>?_)|refine O.storeVc Tryz.sizeOf3 rfl rfl (fun w H=>?_)
  refine O.ex (Ex.assign rfl) rfl ?_
  refine O.nil ?_
  refine hK3 _ _ _ ?_
  refine W.block ?_
  have H : Holds w (cap4 b1 b2 b3 b4 m s0 bf wo::loc2 b6 b8 hh rr::Mh m n c::HqI hh (popL RI (hpW N c s0 wo (st N c s0 wo 0)))::RowI rr (RowM.new (0 : Int) N)::pt b11 (.cells #[.int .i64 (pkP RI (hpW N c s0 wo (st N c s0 wo 0)))] 3 (0,0))::marks []::FBQ bf (st N c s0 wo 0) (TQ N c wo (st N c s0 wo 0))::J):=by
    refine cap4_open.2 ?_
    have H1:=(loc2_open (h6:=b6) (r8:=b8) (hh:=hh) (rr:=rr)).2 (Holds.to (by assumption))
    have H2:=(fbq_open (bf:=bf) (P:=[]) (Q:=TQ N c wo [])).2 ⟨0,Tq.zero,Holds.to (M:=FB bf [] 0::loc2 b6 b8 hh rr::Mh m n c::HqI hh (popL RI (hpW N c s0 wo []))::RowI rr (RowM.new (0 : Int) N)::pt b11 (.cells #[.int .i64 (pkP RI (hpW N c s0 wo []))] 3 (0,0))::pt b1 (.cells #[.pointer (some ⟨m,0,none⟩)] 45 (0,0))::pt b2 (.cells #[.int .i64 (s0 : Int)] 3 (0,0))::pt b3 (.cells #[.pointer (some ⟨bf,2,none⟩)] 136 (0,0))::pt b4 (.cells #[.int .u64 (wo : Int)] 61 (0,0))::J) H1⟩
    exact Holds.to (marks_nil H2)
  refine W.loop (σ:=Nat × Nat) (fun z=>[(0,fv),(1,.pointer (some ⟨b1,0,none⟩)),(2,.pointer (some ⟨b2,0,none⟩)),(3,.pointer (some ⟨b3,0,none⟩)),(4,.pointer (some ⟨b4,0,none⟩)),(6,.pointer (some ⟨b6,0,none⟩)),(8,.pointer (some ⟨b8,0,none⟩)),(10,.int .i64 (pkN RI (hpW N c s0 wo (st N c s0 wo z.1)) : Int)),(11,.pointer (some ⟨z.2,0,none⟩)),(12,.bool (pkO RI (hpW N c s0 wo (st N c s0 wo z.1))))])
    (fun z ds w=>to N c s0 wo settles most z.1 ∧ ∃ R,DoneR N R (st N c s0 wo z.1) ∧ Holds w (cap4 b1 b2 b3 b4 m s0 bf wo::loc2 b6 b8 hh rr::Mh m n c::HqI hh (popL RI (hpW N c s0 wo (st N c s0 wo z.1)))::RowI rr R::pt z.2 (.cells #[.int .i64 (pkP RI (hpW N c s0 wo (st N c s0 wo z.1)))] 3 (0,0))::marks ds::FBQ bf (st N c s0 wo z.1) (TQ N c wo (st N c s0 wo z.1))::J))
    (fun z=>N - z.1) (0,b11) ⟨rfl,rfl,rfl,rfl,rfl,rfl,rfl,rfl,rfl,rfl,trivial⟩ ⟨to_zero _ _,_,DoneR.new N,H⟩ ?_
  clear H
  rintro ⟨j,e⟩ ds w ⟨hto,R,hR,H⟩
  dsimp only at hto hR H
  dsimp only
  obtain ⟨P,hP⟩ : ∃ P,P = st N c s0 wo j:=⟨_,rfl⟩
  rw [← hP] at hR H ⊢
  have hokP : Ok N c wo P:=hP ▸ st_ok hg j
  have hPl : P.length = j:=by rw [hP]; exact to_len hto
  have hjN:=to_le hg hto
  obtain ⟨T,hT,H2⟩:=fbq_open.1 (Holds.to (M:=FBQ bf P (TQ N c wo P)::cap4 b1 b2 b3 b4 m s0 bf wo::loc2 b6 b8 hh rr::Mh m n c::HqI hh (popL RI (hpW N c s0 wo P))::RowI rr R::pt e (.cells #[.int .i64 (pkP RI (hpW N c s0 wo P))] 3 (0,0))::marks ds::J) (by assumption))
  clear H
  have H:=H2
  clear H2
  refine W.seq (fun K4 hK4=>?_)
  refine W.seq (fun K5 hK5=>?_)
  refine W.region ?_
  refine O.ex (Ex.move rfl) rfl ?_
  refine O.nil ?_
  refine hK5 _ _ _ ?_
  first|refine W.cond_p rfl (fun hok=>?_) (fun hno=>?_)|refine W.cond_b rfl (fun hok=>?_) (fun hno=>?_)
  · refine W.skip ?_
    refine hK4 _ _ _ ?_
    refine W.seq (fun K6 hK6=>?_)
    refine W.block ?_
    refine W.seq (fun K7 hK7=>?_)
    refine W.seq (fun K8 hK8=>?_)
    refine W.region ?_
    obtain ⟨b,eb,en,ep,el⟩:=pkO_true hok
    obtain ⟨hbN,hbP,hbw,hbd,hbp,hbl⟩:=nx_spec (show nx N c s0 wo P = some b from eb)
    rw [hbp] at ep
    rw [rlx_zero (show nx N c s0 wo P = some b from eb)] at el
    rw [ep,el] at H
    rw [en]
    have hok2 : Ok N c wo (P ++ [((b : Int),smF c s0 P b)]):=hokP.snoc hg (show nx N c s0 wo P = some b from eb)
    obtain ⟨d,hd⟩ : ∃ d,d = smF c s0 P b:=⟨_,rfl⟩
    have hdd : Dst d:=hd ▸ smF_dst hg hokP b
    refine O.ex (Ex.move rfl) rfl ?_
    refine O.ex (Ex.move rfl) rfl ?_
    refine O.ex (by first|exact Ex.loadP Tryz.isAgg3 rfl|exact Ex.loadQ Tryz.isAgg3 rfl|exact Ex.loadMh Tryz.isAgg3 rfl|exact Ex.loadR Tryz.isAgg3 rfl|exact Ex.loadIn1 Tryz.isAgg3 rfl (Holds.to (by assumption))|exact Ex.loadM Tryz.isAgg3 rfl|exact Ex.loadVc Tryz.isAgg3 rfl) rfl ?_
    have HF : Holds w (star [cap4 b1 b2 b3 b4 m s0 bf wo,loc2 b6 b8 hh rr,Mh m n c,HqI hh (rlx N c s0 wo P b 0),RowI rr R,pt e (.cells #[.int .i64 (smF c s0 P b)] 3 (0,0)),marks ds]::FB bf P T::J):=Holds.star.2 (show Holds w (cap4 b1 b2 b3 b4 m s0 bf wo::loc2 b6 b8 hh rr::Mh m n c::HqI hh (rlx N c s0 wo P b 0)::RowI rr R::pt e (.cells #[.int .i64 (smF c s0 P b)] 3 (0,0))::marks ds::FB bf P T::J) from Holds.to (by assumption))
    have hyy:=hy _ j T b w (by rw [← hP]; exact eb) hto (by rw [← hP]; exact HF)
    rw [← hP] at hyy
    refine O.callVT rfl rfl rfl (VT.mono (hyy) ?_)
    rintro _ w hh
    rcases hh with ⟨rfl,hns,H⟩|⟨rfl,hs,H⟩
    · refine O.ex (by first|exact Ex.notD rfl|exact Ex.not rfl) rfl ?_
      refine O.nil ?_
      refine hK8 _ _ _ ?_
      refine W.known_f rfl (by first|rfl|decide|(simp; done)|omega) ?_
      refine W.skip ?_
      refine hK7 _ _ _ ?_
      refine W.seq (fun K9 hK9=>?_)
      refine W.region ?_
      have e1 : st N c s0 wo (j + 1) = P ++ [((b : Int),d)]:=by rw [hP,hd,hP]; exact st_some (by rw [← hP]; exact eb)
      rw [e1] at H
      rw [← hd] at H hok2
      have H:=cap4_open.1 (Holds.to (M:=cap4 b1 b2 b3 b4 m s0 bf wo::loc2 b6 b8 hh rr::Mh m n c::HqI hh (rlx N c s0 wo P b 0)::RowI rr R::pt e (.cells #[.int .i64 d] 3 (0,0))::marks ds::FB bf (P ++ [((b : Int),d)]) T::J) (Holds.star.1 H))
      have H:=loc2_open.1 (Holds.to (M:=loc2 b6 b8 hh rr::pt b1 (.cells #[.pointer (some ⟨m,0,none⟩)] 45 (0,0))::pt b2 (.cells #[.int .i64 (s0 : Int)] 3 (0,0))::pt b3 (.cells #[.pointer (some ⟨bf,2,none⟩)] 136 (0,0))::pt b4 (.cells #[.int .u64 (wo : Int)] 61 (0,0))::Mh m n c::HqI hh (rlx N c s0 wo P b 0)::RowI rr R::pt e (.cells #[.int .i64 d] 3 (0,0))::marks ds::FB bf (P ++ [((b : Int),d)]) T::J) H)
      obtain ⟨sv,dv,H⟩:=fb_open.1 (Holds.to (M:=FB bf (P ++ [((b : Int),d)]) T::pt b6 (.cells #[.pointer (some ⟨hh,0,none⟩)] 143 (0,0))::pt b8 (.cells #[.pointer (some ⟨rr,0,none⟩)] 146 (0,0))::pt b1 (.cells #[.pointer (some ⟨m,0,none⟩)] 45 (0,0))::pt b2 (.cells #[.int .i64 (s0 : Int)] 3 (0,0))::pt b3 (.cells #[.pointer (some ⟨bf,2,none⟩)] 136 (0,0))::pt b4 (.cells #[.int .u64 (wo : Int)] 61 (0,0))::Mh m n c::HqI hh (rlx N c s0 wo P b 0)::RowI rr R::pt e (.cells #[.int .i64 d] 3 (0,0))::marks ds::J) H)
      refine O.ex (by first|exact Ex.loadP Tryz.isAgg146 rfl|exact Ex.loadQ Tryz.isAgg146 rfl|exact Ex.loadMh Tryz.isAgg146 rfl|exact Ex.loadR Tryz.isAgg146 rfl|exact Ex.loadIn1 Tryz.isAgg146 rfl (Holds.to (by assumption))|exact Ex.loadM Tryz.isAgg146 rfl|exact Ex.loadVc Tryz.isAgg146 rfl) rfl ?_
      refine O.ex (Ex.move rfl) rfl ?_
      refine O.ex (by first|exact Ex.loadP Tryz.isAgg3 rfl|exact Ex.loadQ Tryz.isAgg3 rfl|exact Ex.loadMh Tryz.isAgg3 rfl|exact Ex.loadR Tryz.isAgg3 rfl|exact Ex.loadIn1 Tryz.isAgg3 rfl (Holds.to (by assumption))|exact Ex.loadM Tryz.isAgg3 rfl|exact Ex.loadVc Tryz.isAgg3 rfl) rfl ?_
      refine O.callF Tryz.call111 rfl rfl (CT.mono (setI_ct (Holds.to (by assumption)) (by rw [hR.lw,hR.lv]) hR.n0 (by have:=hR.n1; omega)) ?_)
      rintro _ w ⟨-,H⟩
      refine O.nil ?_
      refine hK9 _ _ _ ?_
      refine W.seq (fun K10 hK10=>?_)
      refine W.drawTo (pt b3 _::pt bf _::[]) (.take 0 (.take 1 (.take 2 (.take 3 (.take 4 (.one 5 (.take 6 (.one 7 .nil)))))))) (mixed) (fun _ _ _ _ h=>h) (by assumption) PP.auto (by decide +kernel) (fun w H=>?_)
      refine OQ.ex rfl (fun w H=>(by first|exact Ex.loadP Tryz.isAgg136 rfl|exact Ex.loadQ Tryz.isAgg136 rfl|exact Ex.loadMh Tryz.isAgg136 rfl|exact Ex.loadR Tryz.isAgg136 rfl|exact Ex.loadIn1 Tryz.isAgg136 rfl (Holds.to (by assumption))|exact Ex.loadM Tryz.isAgg136 rfl|exact Ex.loadVc Tryz.isAgg136 rfl)) rfl ?_
      refine OQ.ex rfl (fun w H=>(by first|exact Ex.loadP Tryz.isAgg136 rfl|exact Ex.loadQ Tryz.isAgg136 rfl|exact Ex.loadMh Tryz.isAgg136 rfl|exact Ex.loadR Tryz.isAgg136 rfl|exact Ex.loadIn1 Tryz.isAgg136 rfl (Holds.to (by assumption))|exact Ex.loadM Tryz.isAgg136 rfl|exact Ex.loadVc Tryz.isAgg136 rfl)) rfl ?_
      refine OQ.ex rfl (fun w H=>(by first|exact Ex.nilPtr rfl|exact Ex.nilFunc rfl|exact Ex.nilYield rfl)) rfl ?_
      refine OQ.ex rfl (fun w H=>(by first|exact Ex.loadP Tryz.isAgg61 rfl|exact Ex.loadQ Tryz.isAgg61 rfl|exact Ex.loadMh Tryz.isAgg61 rfl|exact Ex.loadR Tryz.isAgg61 rfl|exact Ex.loadIn1 Tryz.isAgg61 rfl (Holds.to (by assumption))|exact Ex.loadM Tryz.isAgg61 rfl|exact Ex.loadVc Tryz.isAgg61 rfl)) rfl ?_
      refine OQ.ex rfl (fun w H=>(Ex.move rfl)) rfl ?_
      refine OQ.step rfl ?_
      refine O.callF Tryz.call58 rfl rfl (CT.mono (with_ct (Holds.to (by assumption)) hT.1) ?_)
      rintro _ w ⟨rfl,H⟩
      refine O.thenNil ⟨(by first|exact Holds.to (by assumption)|assumption),?_⟩
      refine OQ.ex rfl (fun w H=>(by first|exact Ex.nilPtr rfl|exact Ex.nilFunc rfl|exact Ex.nilYield rfl)) rfl ?_
      refine OQ.last rfl (by decide +kernel) ?_
      first|refine O.storeP Tryz.sizeOf61 rfl rfl (fun w H=>?_)|refine O.storeR Tryz.sizeOf61 rfl rfl (fun w H=>?_)|refine O.storeM Tryz.sizeOf61 rfl rfl (fun w H=>?_)|refine O.storeVc Tryz.sizeOf61 rfl rfl (fun w H=>?_)
      refine O.nil ?_
      refine hK10 _ _ _ ?_
      refine W.seq (fun K11 hK11=>?_)
      refine W.region ?_
      refine O.ex (by first|exact Ex.loadP Tryz.isAgg45 rfl|exact Ex.loadQ Tryz.isAgg45 rfl|exact Ex.loadMh Tryz.isAgg45 rfl|exact Ex.loadR Tryz.isAgg45 rfl|exact Ex.loadIn1 Tryz.isAgg45 rfl (Holds.to (by assumption))|exact Ex.loadM Tryz.isAgg45 rfl|exact Ex.loadVc Tryz.isAgg45 rfl) rfl ?_
      refine O.ex (Ex.move rfl) rfl ?_
      refine O.callF Tryz.call56 rfl rfl (CT.mono (out_ct (Holds.to (by assumption))) ?_)
      rintro _ w ⟨d3,d5,d4,rfl,H⟩
      refine O.nil ?_
      refine hK11 _ _ _ ?_
      refine W.block ?_
      have hR2:=hR.set hbN d d
      obtain ⟨R2,eR2⟩ : ∃ R2,R2 = R.set (b : Int) d:=⟨_,rfl⟩
      rw [← eR2] at hR2 H
      have hT2 : Tq (TQk N c wo P b d 0) (T ||| bitN (b : Int)):=TQ_start hbN hT
      have H:=fbq_open.2 ⟨_,hT2,fb_open.2 ⟨sv,dv,Holds.to (by assumption)⟩⟩
      have H:=loc2_open.2 (Holds.to (by assumption))
      have H:=cap4_open.2 (Holds.to (by assumption))
      have H : Holds w (capsS d3 d5 d4 m (atV m) (b : Int)::Mh m n c::marks ds::cap4 b1 b2 b3 b4 m s0 bf wo::loc2 b6 b8 hh rr::HqI hh (rlx N c s0 wo P b 0)::RowI rr R2::pt e (.cells #[.int .i64 d] 3 (0,0))::FBQ bf (P ++ [((b : Int),d)]) (TQk N c wo P b d 0)::J):=Holds.to (by assumption)
      refine W.rangeFunc rfl Tryz.call100 H ?_
      rintro LR kk D w hLR H
      refine CT.mono (steps1_ct (g:=fun u=>c b u) (J:=fun k=>LR .ready none::dblk D::marks ds::cap4 b1 b2 b3 b4 m s0 bf wo::loc2 b6 b8 hh rr::HqI hh (rlx N c s0 wo P b k)::RowI rr R2::pt e (.cells #[.int .i64 d] 3 (0,0))::FBQ bf (P ++ [((b : Int),d)]) (TQk N c wo P b d k)::J) (φ:=fun _=>True) (S:=fun _=>False) n2 n1 trivial (Holds.to (by assumption)) (fun i w H=>?_) ?_ ?_) ?_
      · refine (vtAt (m:=m) (u:=(b : Int)) (v:=(i : Int)) hg (Holds.to (by assumption))).mono ?_
        rintro u w' ⟨e,H⟩
        exact ⟨e,Holds.to (by assumption)⟩
      · intro k w hk hne _ H
        have hkN : k < N:=by omega
        obtain ⟨T2,hT2,H⟩:=fbq_open.1 (Holds.to (M:=FBQ bf (P ++ [((b : Int),d)]) (TQk N c wo P b d k)::capsS d3 d5 d4 m (atV m) (b : Int)::Mh m n c::LR .ready none::dblk D::marks ds::cap4 b1 b2 b3 b4 m s0 bf wo::loc2 b6 b8 hh rr::HqI hh (rlx N c s0 wo P b k)::RowI rr R2::pt e (.cells #[.int .i64 d] 3 (0,0))::J) H)
        obtain ⟨sv,dv,H⟩:=fb_open.1 H
        have H:=cap4_open.1 (Holds.to (M:=cap4 b1 b2 b3 b4 m s0 bf wo::_) (Holds.to (by assumption)))
        have H:=loc2_open.1 (Holds.to (M:=loc2 b6 b8 hh rr::_) (Holds.to (by assumption)))
        refine VT.round hLR (Holds.to (by assumption)) rfl rfl ?_
        refine W.seq (fun K12 hK12=>?_)
        refine W.region ?_
        refine O.ex (Ex.assign rfl) rfl ?_
        refine O.nil ?_
        refine hK12 _ _ _ ?_
        refine W.region ?_
        refine O.ex (Ex.assign rfl) rfl ?_
        refine O.nil ?_
        refine ⟨_,Holds.to (by assumption),fun w H=>?_⟩
        refine W.block ?_
        refine W.seq (fun K13 hK13=>?_)
        refine W.seq (fun K14 hK14=>?_)
        refine W.region ?_
        refine O.ex (by first|exact Ex.loadP Tryz.isAgg61 rfl|exact Ex.loadQ Tryz.isAgg61 rfl|exact Ex.loadMh Tryz.isAgg61 rfl|exact Ex.loadR Tryz.isAgg61 rfl|exact Ex.loadIn1 Tryz.isAgg61 rfl (Holds.to (by assumption))|exact Ex.loadM Tryz.isAgg61 rfl|exact Ex.loadVc Tryz.isAgg61 rfl) rfl ?_
        refine O.ex (Ex.move rfl) rfl ?_
        refine O.callF Tryz.call70 rfl rfl (CT.mono (has_ct (Holds.to (by assumption)) hw) ?_)
        rintro _ w ⟨rfl,H⟩
        refine O.nil ?_
        refine hK14 _ _ _ ?_
        first|refine W.cond_p rfl (fun hin=>?_) (fun hout=>?_)|refine W.cond_b rfl (fun hin=>?_) (fun hout=>?_)
        · refine W.exit ?_
          first
          | (have hTn:=TQ_skip (d:=d) (k:=k) (.inr hin) hT2
             have hrl:=rlx_skip (k:=k) hg hokP (show nx N c s0 wo P = some b from eb) (.inr (.inl hin))
             rw [← hrl] at H
             have H:=fbq_open.2 ⟨_,hTn,fb_open.2 ⟨sv,dv,Holds.to (by assumption)⟩⟩
             have H:=loc2_open.2 (Holds.to (by assumption))
             have H:=cap4_open.2 (Holds.to (by assumption))
             exact ⟨_,Holds.to (by assumption),fun w H=>.inl ⟨rfl,trivial,Holds.to (by assumption)⟩⟩)
          | (have hout2 : inS wo (k : Int) = false:=by simpa using hout
             have hTn:=TQ_step (d:=d) hkN hne hout2 hT2
             have hrl : rlx N c s0 wo P b (k + 1) = rlx N c s0 wo P b k:=rlx_skip hg hokP (show nx N c s0 wo P = some b from eb) (.inr (.inr (by rw [← hd]; exact (hR2.has k hkN).1 (by simpa using his))))
             rw [← hrl] at H
             have H:=fbq_open.2 ⟨_,hTn,fb_open.2 ⟨sv,dv,Holds.to (by assumption)⟩⟩
             have H:=loc2_open.2 (Holds.to (by assumption))
             have H:=cap4_open.2 (Holds.to (by assumption))
             exact ⟨_,Holds.to (by assumption),fun w H=>.inl ⟨rfl,trivial,Holds.to (by assumption)⟩⟩)
          | (have hout2 : inS wo (k : Int) = false:=by simpa using hout
             have hTn:=TQ_step (d:=d) hkN hne hout2 hT2
             have hrl : putL RI (rlx N c s0 wo P b k) (k : Int) (two d (c b k)) = rlx N c s0 wo P b (k + 1):=by
               rw [hd]; exact rlx_put hg hokP (show nx N c s0 wo P = some b from eb) hkN hne hout2 (by rw [← hd]; exact fun hh=>(by simpa using hnis : ¬ R2.has (k : Int)) ((hR2.has k hkN).2 hh))
             rw [hrl] at H
             have H:=fbq_open.2 ⟨_,hTn,fb_open.2 ⟨sv,dv,Holds.to (by assumption)⟩⟩
             have H:=loc2_open.2 (Holds.to (by assumption))
             have H:=cap4_open.2 (Holds.to (by assumption))
             exact ⟨_,Holds.to (by assumption),fun w H=>.inl ⟨rfl,trivial,Holds.to (by assumption)⟩⟩)
        · refine W.skip ?_
          refine hK13 _ _ _ ?_
          refine W.seq (fun K15 hK15=>?_)
          refine W.drawTo (pt b3 _::pt bf _::[]) (.take 0 (.take 1 (.take 2 (.take 3 (.take 4 (.one 5 (.take 6 (.one 7 .nil)))))))) (mixed) (fun _ _ _ _ h=>h) (by assumption) PP.auto (by decide +kernel) (fun w H=>?_)
          refine OQ.ex rfl (fun w H=>(by first|exact Ex.loadP Tryz.isAgg136 rfl|exact Ex.loadQ Tryz.isAgg136 rfl|exact Ex.loadMh Tryz.isAgg136 rfl|exact Ex.loadR Tryz.isAgg136 rfl|exact Ex.loadIn1 Tryz.isAgg136 rfl (Holds.to (by assumption))|exact Ex.loadM Tryz.isAgg136 rfl|exact Ex.loadVc Tryz.isAgg136 rfl)) rfl ?_
          refine OQ.ex rfl (fun w H=>(by first|exact Ex.loadP Tryz.isAgg136 rfl|exact Ex.loadQ Tryz.isAgg136 rfl|exact Ex.loadMh Tryz.isAgg136 rfl|exact Ex.loadR Tryz.isAgg136 rfl|exact Ex.loadIn1 Tryz.isAgg136 rfl (Holds.to (by assumption))|exact Ex.loadM Tryz.isAgg136 rfl|exact Ex.loadVc Tryz.isAgg136 rfl)) rfl ?_
          refine OQ.ex rfl (fun w H=>(by first|exact Ex.nilPtr rfl|exact Ex.nilFunc rfl|exact Ex.nilYield rfl)) rfl ?_
          refine OQ.ex rfl (fun w H=>(by first|exact Ex.loadP Tryz.isAgg61 rfl|exact Ex.loadQ Tryz.isAgg61 rfl|exact Ex.loadMh Tryz.isAgg61 rfl|exact Ex.loadR Tryz.isAgg61 rfl|exact Ex.loadIn1 Tryz.isAgg61 rfl (Holds.to (by assumption))|exact Ex.loadM Tryz.isAgg61 rfl|exact Ex.loadVc Tryz.isAgg61 rfl)) rfl ?_
          refine OQ.ex rfl (fun w H=>(Ex.move rfl)) rfl ?_
          refine OQ.step rfl ?_
          refine O.callF Tryz.call58 rfl rfl (CT.mono (with_ct (Holds.to (by assumption)) hT2.1) ?_)
          rintro _ w ⟨rfl,H⟩
          refine O.thenNil ⟨(by first|exact Holds.to (by assumption)|assumption),?_⟩
          refine OQ.ex rfl (fun w H=>(by first|exact Ex.nilPtr rfl|exact Ex.nilFunc rfl|exact Ex.nilYield rfl)) rfl ?_
          refine OQ.last rfl (by decide +kernel) ?_
          first|refine O.storeP Tryz.sizeOf61 rfl rfl (fun w H=>?_)|refine O.storeR Tryz.sizeOf61 rfl rfl (fun w H=>?_)|refine O.storeM Tryz.sizeOf61 rfl rfl (fun w H=>?_)|refine O.storeVc Tryz.sizeOf61 rfl rfl (fun w H=>?_)
          refine O.nil ?_
          refine hK15 _ _ _ ?_
          refine W.seq (fun K16 hK16=>?_)
          refine W.region ?_
          refine O.ex (by first|exact Ex.loadP Tryz.isAgg146 rfl|exact Ex.loadQ Tryz.isAgg146 rfl|exact Ex.loadMh Tryz.isAgg146 rfl|exact Ex.loadR Tryz.isAgg146 rfl|exact Ex.loadIn1 Tryz.isAgg146 rfl (Holds.to (by assumption))|exact Ex.loadM Tryz.isAgg146 rfl|exact Ex.loadVc Tryz.isAgg146 rfl) rfl ?_
          refine O.ex (Ex.move rfl) rfl ?_
          refine O.callF Tryz.call112 rfl rfl (CT.mono (getI_ct (Holds.to (by assumption)) (by rw [hR2.lw,hR2.lv])) ?_)
          rintro _ w ⟨rfl,H⟩
          refine O.ex (Ex.move rfl) rfl ?_
          refine O.ex (Ex.extract rfl rfl) rfl ?_
          refine O.ex (Ex.extract rfl rfl) rfl ?_
          refine O.ex (Ex.assign rfl) rfl ?_
          refine O.ex (Ex.assign rfl) rfl ?_
          refine O.nil ?_
          refine hK16 _ _ _ ?_
          refine W.seq (fun K17 hK17=>?_)
          refine W.region ?_
          refine O.ex (Ex.move rfl) rfl ?_
          refine O.ex (by first|exact Ex.notD rfl|exact Ex.not rfl) rfl ?_
          refine O.nil ?_
          refine hK17 _ _ _ ?_
          first|refine W.cond_p rfl (fun hnis=>?_) (fun his=>?_)|refine W.cond_b rfl (fun hnis=>?_) (fun his=>?_)
          · refine W.drawTo (pt b6 _::pt e _::[]) (.take 0 (.take 1 (.take 2 (.take 3 (.one 4 (.one 5 (.one 6 .nil))))))) (mixed) (fun _ _ _ _ h=>h) (by assumption) PP.auto (by decide +kernel) (fun w H=>?_)
            refine OQ.ex rfl (fun w H=>(by first|exact Ex.loadP Tryz.isAgg143 rfl|exact Ex.loadQ Tryz.isAgg143 rfl|exact Ex.loadMh Tryz.isAgg143 rfl|exact Ex.loadR Tryz.isAgg143 rfl|exact Ex.loadIn1 Tryz.isAgg143 rfl (Holds.to (by assumption))|exact Ex.loadM Tryz.isAgg143 rfl|exact Ex.loadVc Tryz.isAgg143 rfl)) rfl ?_
            refine OQ.ex rfl (fun w H=>(Ex.move rfl)) rfl ?_
            refine OQ.ex rfl (fun w H=>(by first|exact Ex.loadP Tryz.isAgg3 rfl|exact Ex.loadQ Tryz.isAgg3 rfl|exact Ex.loadMh Tryz.isAgg3 rfl|exact Ex.loadR Tryz.isAgg3 rfl|exact Ex.loadIn1 Tryz.isAgg3 rfl (Holds.to (by assumption))|exact Ex.loadM Tryz.isAgg3 rfl|exact Ex.loadVc Tryz.isAgg3 rfl)) rfl ?_
            refine OQ.ex rfl (fun w H=>(Ex.move rfl)) rfl ?_
            refine OQ.step rfl ?_
            refine O.buildK (e:=Value.int .i64) (vs:=[(0,.int .i64 d),(1,.int .i64 (c b k))]) [d,c b k] Tryz.runUnderlying28 Tryz.sizeOf3 Tryz.zeroValue3 rfl rfl rfl rfl rfl rfl (fun v88 w hv88 H=>?_)
            refine O.thenNil ⟨(by first|exact Holds.to (by assumption)|assumption),?_⟩
            refine OQ.step rfl ?_
            refine O.callF Tryz.call67 rfl rfl (CT.mono (add_ct (Holds.to (by assumption)) hdd (hg.dst _ _)) ?_)
            rintro _ w ⟨rfl,H⟩
            refine O.thenNil ⟨(by first|exact Holds.to (by assumption)|assumption),?_⟩
            refine OQ.last rfl (by decide +kernel) ?_
            refine O.callF Tryz.call109 rfl rfl (CT.mono (putIH_ct (Holds.to (by assumption))) ?_)
            rintro _ w ⟨-,H⟩
            refine O.nil ?_
            first
            | (have hTn:=TQ_skip (d:=d) (k:=k) (.inr hin) hT2
               have hrl:=rlx_skip (k:=k) hg hokP (show nx N c s0 wo P = some b from eb) (.inr (.inl hin))
               rw [← hrl] at H
               have H:=fbq_open.2 ⟨_,hTn,fb_open.2 ⟨sv,dv,Holds.to (by assumption)⟩⟩
               have H:=loc2_open.2 (Holds.to (by assumption))
               have H:=cap4_open.2 (Holds.to (by assumption))
               exact ⟨_,Holds.to (by assumption),fun w H=>.inl ⟨rfl,trivial,Holds.to (by assumption)⟩⟩)
            | (have hout2 : inS wo (k : Int) = false:=by simpa using hout
               have hTn:=TQ_step (d:=d) hkN hne hout2 hT2
               have hrl : rlx N c s0 wo P b (k + 1) = rlx N c s0 wo P b k:=rlx_skip hg hokP (show nx N c s0 wo P = some b from eb) (.inr (.inr (by rw [← hd]; exact (hR2.has k hkN).1 (by simpa using his))))
               rw [← hrl] at H
               have H:=fbq_open.2 ⟨_,hTn,fb_open.2 ⟨sv,dv,Holds.to (by assumption)⟩⟩
               have H:=loc2_open.2 (Holds.to (by assumption))
               have H:=cap4_open.2 (Holds.to (by assumption))
               exact ⟨_,Holds.to (by assumption),fun w H=>.inl ⟨rfl,trivial,Holds.to (by assumption)⟩⟩)
            | (have hout2 : inS wo (k : Int) = false:=by simpa using hout
               have hTn:=TQ_step (d:=d) hkN hne hout2 hT2
               have hrl : putL RI (rlx N c s0 wo P b k) (k : Int) (two d (c b k)) = rlx N c s0 wo P b (k + 1):=by
                 rw [hd]; exact rlx_put hg hokP (show nx N c s0 wo P = some b from eb) hkN hne hout2 (by rw [← hd]; exact fun hh=>(by simpa using hnis : ¬ R2.has (k : Int)) ((hR2.has k hkN).2 hh))
               rw [hrl] at H
               have H:=fbq_open.2 ⟨_,hTn,fb_open.2 ⟨sv,dv,Holds.to (by assumption)⟩⟩
               have H:=loc2_open.2 (Holds.to (by assumption))
               have H:=cap4_open.2 (Holds.to (by assumption))
               exact ⟨_,Holds.to (by assumption),fun w H=>.inl ⟨rfl,trivial,Holds.to (by assumption)⟩⟩)
          · refine W.skip ?_
            first
            | (have hTn:=TQ_skip (d:=d) (k:=k) (.inr hin) hT2
               have hrl:=rlx_skip (k:=k) hg hokP (show nx N c s0 wo P = some b from eb) (.inr (.inl hin))
               rw [← hrl] at H
               have H:=fbq_open.2 ⟨_,hTn,fb_open.2 ⟨sv,dv,Holds.to (by assumption)⟩⟩
               have H:=loc2_open.2 (Holds.to (by assumption))
               have H:=cap4_open.2 (Holds.to (by assumption))
               exact ⟨_,Holds.to (by assumption),fun w H=>.inl ⟨rfl,trivial,Holds.to (by assumption)⟩⟩)
            | (have hout2 : inS wo (k : Int) = false:=by simpa using hout
               have hTn:=TQ_step (d:=d) hkN hne hout2 hT2
               have hrl : rlx N c s0 wo P b (k + 1) = rlx N c s0 wo P b k:=rlx_skip hg hokP (show nx N c s0 wo P = some b from eb) (.inr (.inr (by rw [← hd]; exact (hR2.has k hkN).1 (by simpa using his))))
               rw [← hrl] at H
               have H:=fbq_open.2 ⟨_,hTn,fb_open.2 ⟨sv,dv,Holds.to (by assumption)⟩⟩
               have H:=loc2_open.2 (Holds.to (by assumption))
               have H:=cap4_open.2 (Holds.to (by assumption))
               exact ⟨_,Holds.to (by assumption),fun w H=>.inl ⟨rfl,trivial,Holds.to (by assumption)⟩⟩)
            | (have hout2 : inS wo (k : Int) = false:=by simpa using hout
               have hTn:=TQ_step (d:=d) hkN hne hout2 hT2
               have hrl : putL RI (rlx N c s0 wo P b k) (k : Int) (two d (c b k)) = rlx N c s0 wo P b (k + 1):=by
                 rw [hd]; exact rlx_put hg hokP (show nx N c s0 wo P = some b from eb) hkN hne hout2 (by rw [← hd]; exact fun hh=>(by simpa using hnis : ¬ R2.has (k : Int)) ((hR2.has k hkN).2 hh))
               rw [hrl] at H
               have H:=fbq_open.2 ⟨_,hTn,fb_open.2 ⟨sv,dv,Holds.to (by assumption)⟩⟩
               have H:=loc2_open.2 (Holds.to (by assumption))
               have H:=cap4_open.2 (Holds.to (by assumption))
               exact ⟨_,Holds.to (by assumption),fun w H=>.inl ⟨rfl,trivial,Holds.to (by assumption)⟩⟩)
      · intro k w hk hnn _ H
        refine ⟨trivial,?_⟩
        obtain ⟨T2,hT2,H⟩:=fbq_open.1 (Holds.to (M:=FBQ bf (P ++ [((b : Int),d)]) (TQk N c wo P b d k)::capsS d3 d5 d4 m (atV m) (b : Int)::Mh m n c::LR .ready none::dblk D::marks ds::cap4 b1 b2 b3 b4 m s0 bf wo::loc2 b6 b8 hh rr::HqI hh (rlx N c s0 wo P b k)::RowI rr R2::pt e (.cells #[.int .i64 d] 3 (0,0))::J) H)
        have hTn:=TQ_skip (d:=d) (k:=k) (.inl hnn) hT2
        have hrl : rlx N c s0 wo P b (k + 1) = rlx N c s0 wo P b k:=rlx_skip hg hokP (show nx N c s0 wo P = some b from eb) (.inl hnn)
        rw [← hrl] at H
        have H:=fbq_open.2 ⟨_,hTn,H⟩
        exact Holds.to H
      rintro _ w (⟨_,H⟩|hf)
      rotate_left
      · exact hf.elim
      rw [← hN] at H
      refine rangeEnd (Holds.to (by assumption)) (by nofun) (fun w H=>?_)
      have e2 : rlx N c s0 wo P b N = hpW N c s0 wo (st N c s0 wo (j + 1)):=by rw [e1,hd]; exact rlx_full P b
      rw [e2,← e1] at H
      have H:=marks_push (Holds.to (M:=dblk D::marks ds::FBQ bf (st N c s0 wo (j + 1)) (TQk N c wo P b d N)::cap4 b1 b2 b3 b4 m s0 bf wo::loc2 b6 b8 hh rr::Mh m n c::HqI hh (hpW N c s0 wo (st N c s0 wo (j + 1)))::RowI rr R2::pt e (.cells #[.int .i64 d] 3 (0,0))::J) (by assumption))
      have H:=loc2_open.1 (Holds.to (by assumption))
      refine hK6 _ _ _ ?_
      refine W.seq (fun K18 hK18=>?_)
      refine W.seq (fun K19 hK19=>?_)
      refine W.region ?_
      refine O.ex (by first|exact Ex.loadP Tryz.isAgg3 rfl|exact Ex.loadQ Tryz.isAgg3 rfl|exact Ex.loadMh Tryz.isAgg3 rfl|exact Ex.loadR Tryz.isAgg3 rfl|exact Ex.loadIn1 Tryz.isAgg3 rfl (Holds.to (by assumption))|exact Ex.loadM Tryz.isAgg3 rfl|exact Ex.loadVc Tryz.isAgg3 rfl) rfl ?_
      refine O.nil ?_
      refine hK19 _ _ _ ?_
      refine W.region ?_
      refine O.allocP Tryz.zeroValue3 (fun b11 w H=>?_)
      first|refine O.storeP Tryz.sizeOf3 rfl rfl (fun w H=>?_)|refine O.storeR Tryz.sizeOf3 rfl rfl (fun w H=>?_)|refine O.storeM Tryz.sizeOf3 rfl rfl (fun w H=>?_)|refine O.storeVc Tryz.sizeOf3 rfl rfl (fun w H=>?_)
      refine O.nil ?_
      refine hK18 _ _ _ ?_
      refine W.region ?_
      refine O.ex (by first|exact Ex.loadP Tryz.isAgg143 rfl|exact Ex.loadQ Tryz.isAgg143 rfl|exact Ex.loadMh Tryz.isAgg143 rfl|exact Ex.loadR Tryz.isAgg143 rfl|exact Ex.loadIn1 Tryz.isAgg143 rfl (Holds.to (by assumption))|exact Ex.loadM Tryz.isAgg143 rfl|exact Ex.loadVc Tryz.isAgg143 rfl) rfl ?_
      refine O.callF Tryz.call110 rfl rfl (CT.mono (popI1_ct (Holds.to (by assumption))) ?_)
      rintro _ w ⟨rfl,H⟩
      refine O.ex (Ex.move rfl) rfl ?_
      refine O.ex (Ex.extract rfl rfl) rfl ?_
      refine O.ex (Ex.extract rfl rfl) rfl ?_
      refine O.ex (Ex.extract rfl rfl) rfl ?_
      refine O.ex (Ex.assign rfl) rfl ?_
      first|refine O.storeP Tryz.sizeOf3 rfl rfl (fun w H=>?_)|refine O.storeR Tryz.sizeOf3 rfl rfl (fun w H=>?_)|refine O.storeM Tryz.sizeOf3 rfl rfl (fun w H=>?_)|refine O.storeVc Tryz.sizeOf3 rfl rfl (fun w H=>?_)
      refine O.ex (Ex.assign rfl) rfl ?_
      refine O.nil ?_
      obtain ⟨T3,hT3,H⟩:=fbq_open.1 (Holds.to (by assumption))
      have hT4:=TQ_done hT3
      rw [← e1] at hT4
      have H:=fbq_open.2 ⟨_,hT4,H⟩
      have H:=loc2_open.2 (Holds.to (by assumption))
      have hto2:=to_succ hto hns
      have hle2:=to_le hg hto2
      exact ⟨(j + 1,b11),⟨rfl,rfl,rfl,rfl,rfl,rfl,rfl,rfl,rfl,rfl,trivial⟩,⟨hto2,R2,e1 ▸ hR2,Holds.to (by assumption)⟩,by dsimp only; omega⟩
    · refine O.ex (by first|exact Ex.notD rfl|exact Ex.not rfl) rfl ?_
      refine O.nil ?_
      refine hK8 _ _ _ ?_
      refine W.known_t rfl (by first|rfl|decide|(simp; done)|omega) ?_
      refine W.ret ?_
      try dsimp only [thenQ,blockQ,retQ]
      try rw [show Nat.beq 0 0 = true from rfl,cond_true]
      first
      | (have H:=Holds.star.1 H
         refine retD_gen (L:=Mh m n c::FB bf P T::SL) (Holds.to (by assumption)) (fun w H=>?_)
         exact ⟨_,rfl,j,T,hto,hs,hP ▸ hT,.inr (hP ▸ H)⟩)
      | (have hsn : stopP N c s0 wo settles most j:=.inr (fun b hb=>by rw [← hP] at hb; exact absurd ((pkO_false (by simpa using hno)).1.symm.trans hb) (by nofun))
         refine retD_gen (L:=Mh m n c::FB bf P T::J) (Holds.to (by assumption)) (fun w H=>?_)
         exact ⟨_,rfl,j,T,hto,hsn,hP ▸ hT,.inl (hP ▸ H)⟩)
  · refine W.exit ?_
    try dsimp only [thenQ,blockQ,retQ]
    try rw [show Nat.beq 0 0 = true from rfl,cond_true]
    first
    | (have H:=Holds.star.1 H
       refine retD_gen (L:=Mh m n c::FB bf P T::SL) (Holds.to (by assumption)) (fun w H=>?_)
       exact ⟨_,rfl,j,T,hto,hs,hP ▸ hT,.inr (hP ▸ H)⟩)
    | (have hsn : stopP N c s0 wo settles most j:=.inr (fun b hb=>by rw [← hP] at hb; exact absurd ((pkO_false (by simpa using hno)).1.symm.trans hb) (by nofun))
       refine retD_gen (L:=Mh m n c::FB bf P T::J) (Holds.to (by assumption)) (fun w H=>?_)
       exact ⟨_,rfl,j,T,hto,hsn,hP ▸ hT,.inl (hP ▸ H)⟩)
end Go.Proofs.YtblapiiinbppiaaGreatDoor
namespace Go.Proofs.YtblapiiinbppiaaGreatDoor
open Go.Rr Go Hp Wt
set_option linter.unusedVariables false
theorem norm_of {a : Int} (h : Dst a) : norm a = a:=by unfold Dst at h; unfold norm; omega
theorem normG_ct {w : World} {a : Int} {L : List HProp} (H : Holds w L) : CT Tryz.prog 93 [.int .i64 a] w fun x w'=>x = .int .i64 (norm a) ∧ Holds w' L:=by
  refine CT.enter (N:=6) Tryz.func93 rfl rfl rfl rfl ?_
  refine W.seq (fun K0 hK0=>?_)
  refine W.region ?_
  refine O.ex (Ex.assign rfl) rfl ?_
  refine O.nil ?_
  refine hK0 _ _ _ ?_
  refine W.seq (fun K1 hK1=>?_)
  refine W.region ?_
  refine O.ex (Ex.move rfl) rfl ?_
  refine O.ex (Ex.maxI rfl rfl) rfl ?_
  refine O.ex (Ex.minI rfl rfl) rfl ?_
  refine O.ex (Ex.assign rfl) rfl ?_
  refine O.nil ?_
  refine hK1 _ _ _ ?_
  refine W.ret ?_
  try dsimp only [thenQ,blockQ,retQ]
  first|refine ⟨_,⟨_,_,rfl,rfl,rfl⟩,?_⟩|(refine retD_mark ?_; intro w H; refine ⟨_,⟨_,_,rfl,rfl,rfl⟩,?_⟩)|(refine retD_mark2 ?_; intro w H; refine ⟨_,⟨_,_,rfl,rfl,rfl⟩,?_⟩)
  exact ⟨rfl,Holds.to (by assumption)⟩
theorem refNormG_ct {w : World} {a : Int} {L : List HProp} (H : Holds w L) : CT Tryz.prog 103 [.int .i64 a] w fun x w'=>x = .int .i64 (norm a) ∧ Holds w' L:=by
  refine CT.enter (N:=8) Tryz.func103 rfl rfl rfl rfl ?_
  refine W.seq (fun K0 hK0=>?_)
  refine W.region ?_
  refine O.ex (Ex.assign rfl) rfl ?_
  refine O.nil ?_
  refine hK0 _ _ _ ?_
  refine W.seq (fun K1 hK1=>?_)
  refine W.seq (fun K2 hK2=>?_)
  refine W.region ?_
  refine O.ex (Ex.move rfl) rfl ?_
  refine O.ex (Ex.lss rfl rfl) rfl ?_
  refine O.nil ?_
  refine hK2 _ _ _ ?_
  first|refine W.cond_p rfl (fun h1=>?_) (fun h1=>?_)|refine W.cond_b rfl (fun h1=>?_) (fun h1=>?_)
  · refine W.seq (fun K3 hK3=>?_)
    refine W.region ?_
    refine O.ex (Ex.assign rfl) rfl ?_
    refine O.nil ?_
    refine hK3 _ _ _ ?_
    refine W.ret ?_
    try dsimp only [thenQ,blockQ,retQ]
    first|refine ⟨_,⟨_,_,rfl,rfl,rfl⟩,?_⟩|(refine retD_mark ?_; intro w H; refine ⟨_,⟨_,_,rfl,rfl,rfl⟩,?_⟩)|(refine retD_mark2 ?_; intro w H; refine ⟨_,⟨_,_,rfl,rfl,rfl⟩,?_⟩)
    exact ⟨congrArg (Value.int .i64) (by unfold norm; omega),Holds.to (by assumption)⟩
  · refine W.skip ?_
    refine hK1 _ _ _ ?_
    refine W.seq (fun K4 hK4=>?_)
    refine W.seq (fun K5 hK5=>?_)
    refine W.region ?_
    refine O.ex (Ex.move rfl) rfl ?_
    refine O.ex (Ex.gtr rfl rfl) rfl ?_
    refine O.nil ?_
    refine hK5 _ _ _ ?_
    first|refine W.cond_p rfl (fun h2=>?_) (fun h2=>?_)|refine W.cond_b rfl (fun h2=>?_) (fun h2=>?_)
    · refine W.seq (fun K6 hK6=>?_)
      refine W.region ?_
      refine O.ex (Ex.assign rfl) rfl ?_
      refine O.nil ?_
      refine hK6 _ _ _ ?_
      refine W.ret ?_
      try dsimp only [thenQ,blockQ,retQ]
      first|refine ⟨_,⟨_,_,rfl,rfl,rfl⟩,?_⟩|(refine retD_mark ?_; intro w H; refine ⟨_,⟨_,_,rfl,rfl,rfl⟩,?_⟩)|(refine retD_mark2 ?_; intro w H; refine ⟨_,⟨_,_,rfl,rfl,rfl⟩,?_⟩)
      exact ⟨congrArg (Value.int .i64) (by unfold norm; omega),Holds.to (by assumption)⟩
    · refine W.skip ?_
      refine hK4 _ _ _ ?_
      refine W.seq (fun K7 hK7=>?_)
      refine W.region ?_
      refine O.ex (Ex.move rfl) rfl ?_
      refine O.ex (Ex.assign rfl) rfl ?_
      refine O.nil ?_
      refine hK7 _ _ _ ?_
      refine W.ret ?_
      try dsimp only [thenQ,blockQ,retQ]
      first|refine ⟨_,⟨_,_,rfl,rfl,rfl⟩,?_⟩|(refine retD_mark ?_; intro w H; refine ⟨_,⟨_,_,rfl,rfl,rfl⟩,?_⟩)|(refine retD_mark2 ?_; intro w H; refine ⟨_,⟨_,_,rfl,rfl,rfl⟩,?_⟩)
      exact ⟨congrArg (Value.int .i64) (by unfold norm; omega),Holds.to (by assumption)⟩
theorem less_ct {w : World} {a b : Int} {L : List HProp} (H : Holds w L) (hb : Dst b) : CT Tryz.prog 95 [.int .i64 a,.int .i64 b] w fun x w'=>x = .bool (decide (norm a < b)) ∧ Holds w' L:=by
  refine CT.enter (N:=10) Tryz.func95 rfl rfl rfl rfl ?_
  refine W.seq (fun K0 hK0=>?_)
  refine W.region ?_
  refine O.ex (Ex.assign rfl) rfl ?_
  refine O.nil ?_
  refine hK0 _ _ _ ?_
  refine W.seq (fun K1 hK1=>?_)
  refine W.region ?_
  refine O.ex (Ex.move rfl) rfl ?_
  refine O.callF Tryz.call93 rfl rfl (CT.mono (normG_ct (Holds.to (by assumption))) ?_)
  rintro _ w ⟨rfl,H⟩
  refine O.ex (Ex.move rfl) rfl ?_
  refine O.callF Tryz.call93 rfl rfl (CT.mono (normG_ct (Holds.to (by assumption))) ?_)
  rintro _ w ⟨rfl,H⟩
  refine O.ex (Ex.lss rfl rfl) rfl ?_
  refine O.ex (Ex.assign rfl) rfl ?_
  refine O.nil ?_
  refine hK1 _ _ _ ?_
  refine W.ret ?_
  try dsimp only [thenQ,blockQ,retQ]
  first|refine ⟨_,⟨_,_,rfl,rfl,rfl⟩,?_⟩|(refine retD_mark ?_; intro w H; refine ⟨_,⟨_,_,rfl,rfl,rfl⟩,?_⟩)|(refine retD_mark2 ?_; intro w H; refine ⟨_,⟨_,_,rfl,rfl,rfl⟩,?_⟩)
  rw [norm_of hb] at *
  exact ⟨rfl,Holds.to (by assumption)⟩
theorem st_len {n : Int} {c : Int → Int → Int} {s0 wo : Nat} (hg : Good n c) (j : Nat) : (st n.toNat c s0 wo j).length ≤ 24:=by
  have h1:=(st_ok (N:=n.toNat) (s0:=s0) (wo:=wo) hg j).len
  have h2:=hg.n2
  omega
set_option maxHeartbeats 1000000 in
theorem wfind_ct {w : World} {m wo : Nat} {n s most settles : Int} {c : Int → Int → Int} {L : List HProp} (hg : Good n c) (hw : wo < 18446744073709551616) (H : Holds w (Mh m n c::L)) :
    CT Tryz.prog 68 [.pointer (some ⟨m,0,none⟩),.int .i64 s,.int .u64 (wo : Int),.int .i64 most,.int .i64 settles] w fun u w' =>
      (¬ ((0 ≤ s ∧ s < n) ∧ inS wo s = false) ∧ u = .tuple #[.agg #[.slice none 0 0,.slice none 0 0,.int .u64 0],.int .i64 1] ∧ Holds w' (Mh m n c::L)) ∨
      (((0 ≤ s ∧ s < n) ∧ inS wo s = false) ∧ ∃ j T sv dv,to n.toNat c s.toNat wo settles most j ∧ stopP n.toNat c s.toNat wo settles most j ∧ Tq (TQ n.toNat c wo (st n.toNat c s.toNat wo j)) T ∧ u = .tuple #[.agg #[sv,dv,.int .u64 (T : Int)],.int .i64 0] ∧ sv.oneCell' = true ∧ dv.oneCell' = true ∧
        Holds w' (arr 3 (Value.int .i64) sv ((st n.toNat c s.toNat wo j).map Prod.fst)::arr 3 (Value.int .i64) dv ((st n.toNat c s.toNat wo j).map Prod.snd)::Mh m n c::L)):=by
  have n1:=hg.n1
  have n2:=hg.n2
  refine CT.enter (N:=59) Tryz.func68 rfl rfl rfl rfl ?_
  refine W.seq (fun K0 hK0=>?_)
  refine W.region ?_
  refine O.boxP rfl (fun b8 w H=>?_)
  refine O.boxP rfl (fun b9 w H=>?_)
  refine O.allocP Tryz.zeroValue119 (fun b10 w H=>?_)
  refine O.ex (Ex.assign rfl) rfl ?_
  refine O.nil ?_
  refine hK0 _ _ _ ?_
  refine W.seq (fun K1 hK1=>?_)
  refine W.seq (fun K2 hK2=>?_)
  refine W.region ?_
  refine O.ex (Ex.move rfl) rfl ?_
  refine O.ex (Ex.lss rfl rfl) rfl ?_
  refine O.ex (Ex.move rfl) rfl ?_
  first|refine O.split_p (t:=17) rfl (fun h0=>?_) (fun h0=>?_)|refine O.split (t:=17) rfl (fun h0=>?_) (fun h0=>?_)
  · refine O.guard_f rfl rfl rfl rfl ?_
    refine O.guard_f rfl rfl rfl rfl ?_
    refine O.guard_f rfl rfl rfl rfl ?_
    refine O.guard_f rfl rfl rfl rfl ?_
    refine O.ex (Ex.pick_t rfl rfl) rfl ?_
    refine O.ex (Ex.move rfl) rfl ?_
    refine O.guard_f rfl rfl rfl rfl ?_
    refine O.guard_f rfl rfl rfl rfl ?_
    refine O.guard_f rfl rfl rfl rfl ?_
    refine O.ex (Ex.pick_t rfl rfl) rfl ?_
    refine O.nil ?_
    refine hK2 _ _ _ ?_
    refine W.cond_t rfl ?_
    refine W.seq (fun K3 hK3=>?_)
    refine W.region ?_
    refine O.ex (Ex.build rfl (bld119_  )) rfl ?_
    first|refine O.storeAggP Tryz.sizeOf119 rfl rfl rfl rfl (fun w H=>?_)|refine O.storeAggN Tryz.sizeOf119 rfl rfl rfl (fun w H=>?_) rfl
    refine O.ex (Ex.assign rfl) rfl ?_
    refine O.nil ?_
    refine hK3 _ _ _ ?_
    refine W.ret ?_
    try dsimp only [thenQ,blockQ,retQ]
    first|refine ⟨_,⟨_,_,_,rfl,rfl,(by first|exact loadVar_mtx Tryz.isAgg119 Tryz.sizeOf119|exact loadVar_agg Tryz.isAgg119 Tryz.sizeOf119),_,_,rfl,rfl,rfl⟩,?_⟩|(refine retD_mark ?_; intro w H; refine ⟨_,⟨_,_,_,rfl,rfl,(by first|exact loadVar_mtx Tryz.isAgg119 Tryz.sizeOf119|exact loadVar_agg Tryz.isAgg119 Tryz.sizeOf119),_,_,rfl,rfl,rfl⟩,?_⟩)|(refine retD_mark2 ?_; intro w H; refine ⟨_,⟨_,_,_,rfl,rfl,(by first|exact loadVar_mtx Tryz.isAgg119 Tryz.sizeOf119|exact loadVar_agg Tryz.isAgg119 Tryz.sizeOf119),_,_,rfl,rfl,rfl⟩,?_⟩)
    first
    | exact .inr ⟨⟨by omega,by simpa using h2⟩,j,T,sv,dv,hto,hst,hT,rfl,hs1,hd1,Holds.to (by assumption)⟩
    | exact .inl ⟨fun h=>by omega,rfl,Holds.to (by assumption)⟩
    | exact .inl ⟨fun h=>by rw [h.2] at h2; simp at h2,rfl,Holds.to (by assumption)⟩
  · refine O.guard_t rfl rfl ?_
    refine O.ex (Ex.move rfl) rfl ?_
    refine O.guard_t rfl rfl ?_
    refine O.ex (Ex.move rfl) rfl ?_
    refine O.guard_t rfl rfl ?_
    refine O.callF Tryz.call22 rfl rfl (CT.mono (vertices_ct (Holds.to (by assumption))) ?_)
    rintro _ w ⟨rfl,H⟩
    refine O.guard_t rfl rfl ?_
    refine O.ex (Ex.geq rfl rfl) rfl ?_
    refine O.ex (Ex.pick_f rfl rfl) rfl ?_
    refine O.ex (Ex.move rfl) rfl ?_
    first|refine O.split_p (t:=23) rfl (fun h1=>?_) (fun h1=>?_)|refine O.split (t:=23) rfl (fun h1=>?_) (fun h1=>?_)
    · refine O.guard_f rfl rfl rfl rfl ?_
      refine O.guard_f rfl rfl rfl rfl ?_
      refine O.guard_f rfl rfl rfl rfl ?_
      refine O.ex (Ex.pick_t rfl rfl) rfl ?_
      refine O.nil ?_
      refine hK2 _ _ _ ?_
      refine W.cond_t rfl ?_
      refine W.seq (fun K4 hK4=>?_)
      refine W.region ?_
      refine O.ex (Ex.build rfl (bld119_  )) rfl ?_
      first|refine O.storeAggP Tryz.sizeOf119 rfl rfl rfl rfl (fun w H=>?_)|refine O.storeAggN Tryz.sizeOf119 rfl rfl rfl (fun w H=>?_) rfl
      refine O.ex (Ex.assign rfl) rfl ?_
      refine O.nil ?_
      refine hK4 _ _ _ ?_
      refine W.ret ?_
      try dsimp only [thenQ,blockQ,retQ]
      first|refine ⟨_,⟨_,_,_,rfl,rfl,(by first|exact loadVar_mtx Tryz.isAgg119 Tryz.sizeOf119|exact loadVar_agg Tryz.isAgg119 Tryz.sizeOf119),_,_,rfl,rfl,rfl⟩,?_⟩|(refine retD_mark ?_; intro w H; refine ⟨_,⟨_,_,_,rfl,rfl,(by first|exact loadVar_mtx Tryz.isAgg119 Tryz.sizeOf119|exact loadVar_agg Tryz.isAgg119 Tryz.sizeOf119),_,_,rfl,rfl,rfl⟩,?_⟩)|(refine retD_mark2 ?_; intro w H; refine ⟨_,⟨_,_,_,rfl,rfl,(by first|exact loadVar_mtx Tryz.isAgg119 Tryz.sizeOf119|exact loadVar_agg Tryz.isAgg119 Tryz.sizeOf119),_,_,rfl,rfl,rfl⟩,?_⟩)
      first
      | exact .inr ⟨⟨by omega,by simpa using h2⟩,j,T,sv,dv,hto,hst,hT,rfl,hs1,hd1,Holds.to (by assumption)⟩
      | exact .inl ⟨fun h=>by omega,rfl,Holds.to (by assumption)⟩
      | exact .inl ⟨fun h=>by rw [h.2] at h2; simp at h2,rfl,Holds.to (by assumption)⟩
    · refine O.guard_t rfl rfl ?_
      refine O.ex (Ex.move rfl) rfl ?_
      refine O.guard_t rfl rfl ?_
      refine O.ex (Ex.move rfl) rfl ?_
      refine O.guard_t rfl rfl ?_
      refine O.callF Tryz.call70 rfl rfl (CT.mono (has_ct (Holds.to (by assumption)) hw) ?_)
      rintro _ w ⟨rfl,H⟩
      refine O.ex (Ex.pick_f rfl rfl) rfl ?_
      refine O.nil ?_
      refine hK2 _ _ _ ?_
      first|refine W.cond_p rfl (fun h2=>?_) (fun h2=>?_)|refine W.cond_b rfl (fun h2=>?_) (fun h2=>?_)
      · refine W.seq (fun K5 hK5=>?_)
        refine W.region ?_
        refine O.ex (Ex.build rfl (bld119_  )) rfl ?_
        first|refine O.storeAggP Tryz.sizeOf119 rfl rfl rfl rfl (fun w H=>?_)|refine O.storeAggN Tryz.sizeOf119 rfl rfl rfl (fun w H=>?_) rfl
        refine O.ex (Ex.assign rfl) rfl ?_
        refine O.nil ?_
        refine hK5 _ _ _ ?_
        refine W.ret ?_
        try dsimp only [thenQ,blockQ,retQ]
        first|refine ⟨_,⟨_,_,_,rfl,rfl,(by first|exact loadVar_mtx Tryz.isAgg119 Tryz.sizeOf119|exact loadVar_agg Tryz.isAgg119 Tryz.sizeOf119),_,_,rfl,rfl,rfl⟩,?_⟩|(refine retD_mark ?_; intro w H; refine ⟨_,⟨_,_,_,rfl,rfl,(by first|exact loadVar_mtx Tryz.isAgg119 Tryz.sizeOf119|exact loadVar_agg Tryz.isAgg119 Tryz.sizeOf119),_,_,rfl,rfl,rfl⟩,?_⟩)|(refine retD_mark2 ?_; intro w H; refine ⟨_,⟨_,_,_,rfl,rfl,(by first|exact loadVar_mtx Tryz.isAgg119 Tryz.sizeOf119|exact loadVar_agg Tryz.isAgg119 Tryz.sizeOf119),_,_,rfl,rfl,rfl⟩,?_⟩)
        first
        | exact .inr ⟨⟨by omega,by simpa using h2⟩,j,T,sv,dv,hto,hst,hT,rfl,hs1,hd1,Holds.to (by assumption)⟩
        | exact .inl ⟨fun h=>by omega,rfl,Holds.to (by assumption)⟩
        | exact .inl ⟨fun h=>by rw [h.2] at h2; simp at h2,rfl,Holds.to (by assumption)⟩
      · refine W.skip ?_
        refine hK1 _ _ _ ?_
        refine W.seq (fun K6 hK6=>?_)
        refine W.region ?_
        refine O.allocP Tryz.zeroValue119 (fun b12 w H=>?_)
        refine O.nil ?_
        refine hK6 _ _ _ ?_
        refine W.seq (fun K7 hK7=>?_)
        refine W.seq (fun K8 hK8=>?_)
        refine W.region ?_
        refine O.ex (Ex.move rfl) rfl ?_
        refine O.ex (Ex.move rfl) rfl ?_
        refine O.ex (Ex.move rfl) rfl ?_
        refine O.ex (by first|exact Ex.field0 fld119_2 rfl|exact Ex.field fld119_2 rfl|exact Ex.fieldS fld119_2 rfl) rfl ?_
        rw [show (s : Int) = ((s.toNat : Nat) : Int) from (Int.toNat_of_nonneg (by omega)).symm]
        refine O.callF Tryz.call94 rfl rfl (CT.mono (wsearch_ct (s0:=s.toNat) (bf:=b12) (m:=m) (wo:=wo) (Holds.to (by assumption))) ?_)
        rintro _ w ⟨d1,d2,d3,d4,rfl,H⟩
        refine O.nil ?_
        refine hK8 _ _ _ ?_
        refine W.block ?_
        have hs1 : s.toNat < n.toNat:=by omega
        have hs2 : inS wo ((s.toNat : Nat) : Int) = false:=by rw [Int.toNat_of_nonneg (by omega)]; simpa using h2
        have H:=Holds.to (M:=pt b12 (.cells #[.slice none 0 0,.slice none 0 0,.int .u64 ((0 : Nat) : Int)] 119 (0,0))::cap4 d1 d2 d3 d4 m s.toNat b12 wo::Mh m n c::pt b8 (.cells #[.int .i64 most] 3 (0,0))::pt b9 (.cells #[.int .i64 settles] 3 (0,0))::pt b10 (.cells #[.slice none 0 0,.slice none 0 0,.int .u64 0] 119 (0,0))::L) H
        have H:=arr_nil (T:=3) (e:=Value.int .i64) (arr_nil (T:=3) (e:=Value.int .i64) H)
        have H:=fb_open.2 ⟨_,_,(show Holds w (pt b12 (.cells #[.slice none 0 0,.slice none 0 0,.int .u64 ((0 : Nat) : Int)] 119 (0,0))::arr 3 (Value.int .i64) (.slice none 0 0) (([] : List (Int × Int)).map Prod.fst)::arr 3 (Value.int .i64) (.slice none 0 0) (([] : List (Int × Int)).map Prod.snd)::cap4 d1 d2 d3 d4 m s.toNat b12 wo::Mh m n c::pt b8 (.cells #[.int .i64 most] 3 (0,0))::pt b9 (.cells #[.int .i64 settles] 3 (0,0))::pt b10 (.cells #[.slice none 0 0,.slice none 0 0,.int .u64 0] 119 (0,0))::L) from Holds.to H)⟩
        refine W.rangeFunc rfl Tryz.call106 H ?_
        rintro LR kk D w hLR H
        refine CT.mono (wsearch1_ct (settles:=settles) (most:=most) (J:=LR .ready none::dblk D::pt b8 (.cells #[.int .i64 most] 3 (0,0))::pt b9 (.cells #[.int .i64 settles] 3 (0,0))::pt b10 (.cells #[.slice none 0 0,.slice none 0 0,.int .u64 0] 119 (0,0))::L) (SL:=LR .done (some (.exit 0))::dblk D::pt b8 (.cells #[.int .i64 most] 3 (0,0))::pt b9 (.cells #[.int .i64 settles] 3 (0,0))::pt b10 (.cells #[.slice none 0 0,.slice none 0 0,.int .u64 0] 119 (0,0))::L) hg hs1 hw hs2 (Holds.to (by assumption)) ?_) ?_
        · intro F j T b w hb hto H
          obtain ⟨sv,dv,H⟩:=fb_open.1 H.swap
          have hl1 : ((st n.toNat c s.toNat wo j).map Prod.fst).length ≤ 24:=by rw [List.length_map]; exact st_len hg j
          have hl2 : ((st n.toNat c s.toNat wo j).map Prod.snd).length ≤ 24:=by rw [List.length_map]; exact st_len hg j
          have hbd : Dst (smF c s.toNat (st n.toNat c s.toNat wo j) b):=smF_dst hg (st_ok hg j) b
          have e1:=st_some hb
          refine VT.round hLR (Holds.to (by assumption)) rfl rfl ?_
          refine W.seq (fun K9 hK9=>?_)
          refine W.region ?_
          refine O.ex (Ex.assign rfl) rfl ?_
          refine O.nil ?_
          refine hK9 _ _ _ ?_
          refine W.region ?_
          refine O.ex (Ex.assign rfl) rfl ?_
          refine O.nil ?_
          refine ⟨_,Holds.to (by assumption),fun w H=>?_⟩
          refine W.block ?_
          refine W.seq (fun K10 hK10=>?_)
          refine W.seq (fun K11 hK11=>?_)
          refine W.region ?_
          refine O.ex (by first|exact Ex.field0 fld119_0 rfl|exact Ex.field fld119_0 rfl|exact Ex.fieldS fld119_0 rfl) rfl ?_
          refine O.ex (by first|exact Ex.loadMh Tryz.isAgg28 rfl|exact Ex.loadP Tryz.isAgg28 rfl|exact Ex.loadM Tryz.isAgg28 rfl|exact Ex.loadIn1 Tryz.isAgg28 rfl (Holds.to (by assumption))|exact Ex.loadVc Tryz.isAgg28 rfl|exact Ex.loadR Tryz.isAgg28 rfl|exact Ex.loadQ Tryz.isAgg28 rfl) rfl ?_
          refine O.ex (by first|exact Ex.lenR Tryz.runUnderlying28 rfl|exact Ex.lenIn Tryz.runUnderlying28 rfl|exact Ex.lenL Tryz.runUnderlying28 rfl|exact Ex.len rfl Tryz.runUnderlying28 rfl) rfl ?_
          refine O.ex (by first|exact Ex.loadP Tryz.isAgg3 rfl|exact Ex.loadQ Tryz.isAgg3 rfl|exact Ex.loadMh Tryz.isAgg3 rfl|exact Ex.loadR Tryz.isAgg3 rfl|exact Ex.loadIn1 Tryz.isAgg3 rfl (Holds.to (by assumption))|exact Ex.loadM Tryz.isAgg3 rfl|exact Ex.loadVc Tryz.isAgg3 rfl) rfl ?_
          refine O.ex (Ex.geq rfl rfl) rfl ?_
          refine O.ex (Ex.move rfl) rfl ?_
          first|refine O.split_p (t:=41) rfl (fun hA=>?_) (fun hB=>?_)|refine O.split (t:=41) rfl (fun hA=>?_) (fun hB=>?_)
          · refine O.guard_f rfl rfl rfl rfl ?_
            refine O.guard_f rfl rfl rfl rfl ?_
            refine O.guard_f rfl rfl rfl rfl ?_
            refine O.ex (Ex.pick_t rfl rfl) rfl ?_
            refine O.nil ?_
            refine hK11 _ _ _ ?_
            refine W.cond_t rfl ?_
            refine W.exit ?_
            have hns : stopP n.toNat c s.toNat wo settles most j:=by
              first
              | (rw [List.length_map] at hA; exact .inl (by omega))
              | (refine .inr (fun b' hb'=>?_)
                 rw [hb] at hb'; cases hb'
                 simpa using hC)
            refine ⟨_,Holds.to (by assumption),fun w H=>.inr ⟨rfl,hns,?_⟩⟩
            refine Holds.swap (fb_open.2 ⟨sv,dv,?_⟩)
            exact Holds.to (by assumption)
          · refine O.guard_t rfl rfl ?_
            refine O.ex (by first|exact Ex.loadP Tryz.isAgg3 rfl|exact Ex.loadQ Tryz.isAgg3 rfl|exact Ex.loadMh Tryz.isAgg3 rfl|exact Ex.loadR Tryz.isAgg3 rfl|exact Ex.loadIn1 Tryz.isAgg3 rfl (Holds.to (by assumption))|exact Ex.loadM Tryz.isAgg3 rfl|exact Ex.loadVc Tryz.isAgg3 rfl) rfl ?_
            refine O.guard_t rfl rfl ?_
            refine O.ex (Ex.move rfl) rfl ?_
            refine O.guard_t rfl rfl ?_
            refine O.callF Tryz.call95 rfl rfl (CT.mono (less_ct (Holds.to (by assumption)) hbd) ?_)
            rintro _ w ⟨rfl,H⟩
            refine O.ex (Ex.pick_f rfl rfl) rfl ?_
            refine O.nil ?_
            refine hK11 _ _ _ ?_
            first|refine W.cond_p rfl (fun hC=>?_) (fun hD=>?_)|refine W.cond_b rfl (fun hC=>?_) (fun hD=>?_)
            · refine W.exit ?_
              have hns : stopP n.toNat c s.toNat wo settles most j:=by
                first
                | (rw [List.length_map] at hA; exact .inl (by omega))
                | (refine .inr (fun b' hb'=>?_)
                   rw [hb] at hb'; cases hb'
                   simpa using hC)
              refine ⟨_,Holds.to (by assumption),fun w H=>.inr ⟨rfl,hns,?_⟩⟩
              refine Holds.swap (fb_open.2 ⟨sv,dv,?_⟩)
              exact Holds.to (by assumption)
            · refine W.skip ?_
              refine hK10 _ _ _ ?_
              refine W.seq (fun K12 hK12=>?_)
              refine W.region ?_
              refine O.ex (by first|exact Ex.field0 fld119_0 rfl|exact Ex.field fld119_0 rfl|exact Ex.fieldS fld119_0 rfl) rfl ?_
              refine O.ex (by first|exact Ex.loadMh Tryz.isAgg28 rfl|exact Ex.loadP Tryz.isAgg28 rfl|exact Ex.loadM Tryz.isAgg28 rfl|exact Ex.loadIn1 Tryz.isAgg28 rfl (Holds.to (by assumption))|exact Ex.loadVc Tryz.isAgg28 rfl|exact Ex.loadR Tryz.isAgg28 rfl|exact Ex.loadQ Tryz.isAgg28 rfl) rfl ?_
              refine O.ex (Ex.move rfl) rfl ?_
              refine O.build1 (e:=Value.int .i64) Tryz.runUnderlying28 Tryz.sizeOf3 Tryz.zeroValue3 rfl (fun v49 w hv49 H=>?_)
              refine O.appendR Tryz.runUnderlying28 Tryz.typeInfo3 (bt:=8) rfl Tryz.sizeOf3 Tryz.zeroValue3 rfl rfl (fun v50 w hv50 H=>?_)
              refine O.ex (by first|exact Ex.field0 fld119_0 rfl|exact Ex.field fld119_0 rfl|exact Ex.fieldS fld119_0 rfl) rfl ?_
              first|refine O.storeP Tryz.sizeOf28 rfl rfl (fun w H=>?_)|refine O.storeR Tryz.sizeOf28 rfl rfl (fun w H=>?_)|refine O.storeM Tryz.sizeOf28 rfl rfl (fun w H=>?_)|refine O.storeVc Tryz.sizeOf28 rfl rfl (fun w H=>?_)
              refine O.nil ?_
              refine hK12 _ _ _ ?_
              refine W.region ?_
              refine O.ex (by first|exact Ex.field0 fld119_1 rfl|exact Ex.field fld119_1 rfl|exact Ex.fieldS fld119_1 rfl) rfl ?_
              refine O.ex (by first|exact Ex.loadMh Tryz.isAgg28 rfl|exact Ex.loadP Tryz.isAgg28 rfl|exact Ex.loadM Tryz.isAgg28 rfl|exact Ex.loadIn1 Tryz.isAgg28 rfl (Holds.to (by assumption))|exact Ex.loadVc Tryz.isAgg28 rfl|exact Ex.loadR Tryz.isAgg28 rfl|exact Ex.loadQ Tryz.isAgg28 rfl) rfl ?_
              refine O.ex (Ex.move rfl) rfl ?_
              refine O.build1 (e:=Value.int .i64) Tryz.runUnderlying28 Tryz.sizeOf3 Tryz.zeroValue3 rfl (fun v55 w hv55 H=>?_)
              refine O.appendR Tryz.runUnderlying28 Tryz.typeInfo3 (bt:=8) rfl Tryz.sizeOf3 Tryz.zeroValue3 rfl rfl (fun v56 w hv56 H=>?_)
              refine O.ex (by first|exact Ex.field0 fld119_1 rfl|exact Ex.field fld119_1 rfl|exact Ex.fieldS fld119_1 rfl) rfl ?_
              first|refine O.storeP Tryz.sizeOf28 rfl rfl (fun w H=>?_)|refine O.storeR Tryz.sizeOf28 rfl rfl (fun w H=>?_)|refine O.storeM Tryz.sizeOf28 rfl rfl (fun w H=>?_)|refine O.storeVc Tryz.sizeOf28 rfl rfl (fun w H=>?_)
              refine O.nil ?_
              have hns : ¬ stopP n.toNat c s.toNat wo settles most j:=by
                rintro (h|h)
                · rw [List.length_map] at hB; omega
                · have:=h b hb; simp at hD; omega
              refine ⟨_,Holds.to (by assumption),fun w H=>.inl ⟨rfl,hns,?_⟩⟩
              refine Holds.swap (fb_open.2 ⟨v50,v56,?_⟩)
              rw [e1,List.map_append,List.map_append]
              exact Holds.to (by assumption)
        rintro _ w ⟨j,T,hto,hst,hT,H|H⟩
        all_goals refine rangeEnd (Holds.to (by assumption)) (by nofun) (fun w H=>?_)
        all_goals try dsimp only [behind]
        all_goals obtain ⟨sv,dv,H⟩:=fb_open.1 (Holds.to (M:=FB b12 (st n.toNat c s.toNat wo j) T::dblk D::Mh m n c::pt b10 (.cells #[.slice none 0 0,.slice none 0 0,.int .u64 0] 119 (0,0))::L) H)
        all_goals have hs1 : sv.oneCell' = true:=arr_one (T:=3) (e:=Value.int .i64) (xs:=(st n.toNat c s.toNat wo j).map Prod.fst) (Holds.to (by assumption))
        all_goals have hd1 : dv.oneCell' = true:=arr_one (T:=3) (e:=Value.int .i64) (xs:=(st n.toNat c s.toNat wo j).map Prod.snd) (Holds.to (by assumption))
        · skip
          refine hK7 _ _ _ ?_
          refine W.seq (fun K13 hK13=>?_)
          refine W.region ?_
          refine O.ex (by first|exact Ex.loadAggP Tryz.isAgg119 Tryz.sizeOf119 rfl|exact Ex.loadAggN Tryz.isAgg119 Tryz.sizeOf119 rfl|exact Ex.loadIn Tryz.isAgg119 Tryz.sizeOf119 rfl (Holds.to (by assumption))) rfl ?_
          refine O.storeAggP Tryz.sizeOf119 rfl rfl rfl (by show (sv.oneCell' && (dv.oneCell' && _)) = true; rw [hs1,hd1]; rfl) (fun w H=>?_)
          refine O.ex (Ex.assign rfl) rfl ?_
          refine O.nil ?_
          refine hK13 _ _ _ ?_
          refine W.ret ?_
          try dsimp only [thenQ,blockQ,retQ]
          first|refine ⟨_,⟨_,_,_,rfl,rfl,(by first|exact loadVar_mtx Tryz.isAgg119 Tryz.sizeOf119|exact loadVar_agg Tryz.isAgg119 Tryz.sizeOf119),_,_,rfl,rfl,rfl⟩,?_⟩|(refine retD_mark ?_; intro w H; refine ⟨_,⟨_,_,_,rfl,rfl,(by first|exact loadVar_mtx Tryz.isAgg119 Tryz.sizeOf119|exact loadVar_agg Tryz.isAgg119 Tryz.sizeOf119),_,_,rfl,rfl,rfl⟩,?_⟩)|(refine retD_mark2 ?_; intro w H; refine ⟨_,⟨_,_,_,rfl,rfl,(by first|exact loadVar_mtx Tryz.isAgg119 Tryz.sizeOf119|exact loadVar_agg Tryz.isAgg119 Tryz.sizeOf119),_,_,rfl,rfl,rfl⟩,?_⟩)
          first
          | exact .inr ⟨⟨by omega,by simpa using h2⟩,j,T,sv,dv,hto,hst,hT,rfl,hs1,hd1,Holds.to (by assumption)⟩
          | exact .inl ⟨fun h=>by omega,rfl,Holds.to (by assumption)⟩
          | exact .inl ⟨fun h=>by rw [h.2] at h2; simp at h2,rfl,Holds.to (by assumption)⟩
        · skip
          refine W.exit ?_
          refine hK7 _ _ _ ?_
          refine W.seq (fun K14 hK14=>?_)
          refine W.region ?_
          refine O.ex (by first|exact Ex.loadAggP Tryz.isAgg119 Tryz.sizeOf119 rfl|exact Ex.loadAggN Tryz.isAgg119 Tryz.sizeOf119 rfl|exact Ex.loadIn Tryz.isAgg119 Tryz.sizeOf119 rfl (Holds.to (by assumption))) rfl ?_
          refine O.storeAggP Tryz.sizeOf119 rfl rfl rfl (by show (sv.oneCell' && (dv.oneCell' && _)) = true; rw [hs1,hd1]; rfl) (fun w H=>?_)
          refine O.ex (Ex.assign rfl) rfl ?_
          refine O.nil ?_
          refine hK14 _ _ _ ?_
          refine W.ret ?_
          try dsimp only [thenQ,blockQ,retQ]
          first|refine ⟨_,⟨_,_,_,rfl,rfl,(by first|exact loadVar_mtx Tryz.isAgg119 Tryz.sizeOf119|exact loadVar_agg Tryz.isAgg119 Tryz.sizeOf119),_,_,rfl,rfl,rfl⟩,?_⟩|(refine retD_mark ?_; intro w H; refine ⟨_,⟨_,_,_,rfl,rfl,(by first|exact loadVar_mtx Tryz.isAgg119 Tryz.sizeOf119|exact loadVar_agg Tryz.isAgg119 Tryz.sizeOf119),_,_,rfl,rfl,rfl⟩,?_⟩)|(refine retD_mark2 ?_; intro w H; refine ⟨_,⟨_,_,_,rfl,rfl,(by first|exact loadVar_mtx Tryz.isAgg119 Tryz.sizeOf119|exact loadVar_agg Tryz.isAgg119 Tryz.sizeOf119),_,_,rfl,rfl,rfl⟩,?_⟩)
          first
          | exact .inr ⟨⟨by omega,by simpa using h2⟩,j,T,sv,dv,hto,hst,hT,rfl,hs1,hd1,Holds.to (by assumption)⟩
          | exact .inl ⟨fun h=>by omega,rfl,Holds.to (by assumption)⟩
          | exact .inl ⟨fun h=>by rw [h.2] at h2; simp at h2,rfl,Holds.to (by assumption)⟩
end Go.Proofs.YtblapiiinbppiaaGreatDoor
namespace Go.Proofs.YtblapiiinbppiaaGreatDoor
open Go.Rr Go Hp Wt
set_option linter.unusedVariables false
theorem hasL_ct {w : World} {v : Value} {xs : List Int} {x : Int} {L : List HProp} (hl : xs.length ≤ 1000) (H : Holds w (arr 3 (Value.int .i64) v xs::L)) :
    CT Tryz.prog 101 [v,.int .i64 x] w fun u w'=>u = .bool (decide (x ∈ xs)) ∧ Holds w' (arr 3 (Value.int .i64) v xs::L):=by
  refine CT.enter (N:=18) Tryz.func101 rfl rfl rfl rfl ?_
  refine W.seq (fun K0 hK0=>?_)
  refine W.region ?_
  refine O.ex (Ex.assign rfl) rfl ?_
  refine O.nil ?_
  refine hK0 _ _ _ ?_
  refine W.seq (fun K1 hK1=>?_)
  refine W.seq (fun K2 hK2=>?_)
  refine W.region ?_
  refine O.ex (Ex.assign rfl) rfl ?_
  refine O.nil ?_
  refine hK2 _ _ _ ?_
  refine W.block ?_
  refine W.loop (σ:=Nat) (fun i=>[(0,v),(1,.int .i64 x),(5,.int .i64 (i : Int))]) (fun i ds w=>ds = [] ∧ i ≤ xs.length ∧ x ∉ xs.take i ∧ Holds w (arr 3 (Value.int .i64) v xs::L)) (fun i=>xs.length - i) 0 ⟨rfl,rfl,rfl,trivial⟩ ⟨rfl,by omega,by simp,Holds.to (by assumption)⟩ ?_
  clear H
  rintro i _ w ⟨rfl,hi,hno,H⟩
  refine W.seq (fun K3 hK3=>?_)
  refine W.seq (fun K4 hK4=>?_)
  refine W.region ?_
  refine O.ex (Ex.move rfl) rfl ?_
  refine O.ex (Ex.move rfl) rfl ?_
  refine O.ex (by first|exact Ex.lenR Tryz.runUnderlying28 rfl|exact Ex.lenIn Tryz.runUnderlying28 rfl|exact Ex.lenL Tryz.runUnderlying28 rfl|exact Ex.len rfl Tryz.runUnderlying28 rfl) rfl ?_
  refine O.ex (Ex.lss rfl rfl) rfl ?_
  refine O.nil ?_
  refine hK4 _ _ _ ?_
  first|refine W.cond_p rfl (fun hlt=>?_) (fun hge=>?_)|refine W.cond_b rfl (fun hlt=>?_) (fun hge=>?_)
  · refine W.skip ?_
    refine hK3 _ _ _ ?_
    refine W.seq (fun K5 hK5=>?_)
    refine W.block ?_
    refine W.seq (fun K6 hK6=>?_)
    refine W.region ?_
    refine O.ex (Ex.move rfl) rfl ?_
    refine O.ex (Ex.move rfl) rfl ?_
    refine O.ex (by first|exact Ex.idxR Tryz.runUnderlying28 Tryz.sizeOf3 rfl rfl|exact Ex.idxIn Tryz.runUnderlying28 Tryz.sizeOf3 rfl rfl|exact Ex.idxS Tryz.runUnderlying28 Tryz.sizeOf3 rfl rfl|exact Ex.idx Tryz.runUnderlying28 Tryz.sizeOf3 rfl rfl (by omega) (by omega)) rfl ?_
    refine O.ex (by first|exact Ex.loadR Tryz.isAgg3 rfl|exact Ex.loadIn1 Tryz.isAgg3 rfl (Holds.to (by assumption))|exact Ex.loadP Tryz.isAgg3 rfl|exact Ex.loadMh Tryz.isAgg3 rfl|exact Ex.loadM Tryz.isAgg3 rfl|exact Ex.loadVc Tryz.isAgg3 rfl|exact Ex.loadQ Tryz.isAgg3 rfl) rfl ?_
    refine O.ex (Ex.move rfl) rfl ?_
    refine O.ex (Ex.eqlI rfl rfl) rfl ?_
    refine O.nil ?_
    refine hK6 _ _ _ ?_
    first|refine W.cond_p rfl (fun heq=>?_) (fun hne=>?_)|refine W.cond_b rfl (fun heq=>?_) (fun hne=>?_)
    · refine W.seq (fun K7 hK7=>?_)
      refine W.region ?_
      refine O.ex (Ex.assign rfl) rfl ?_
      refine O.nil ?_
      refine hK7 _ _ _ ?_
      refine W.ret ?_
      try dsimp only [thenQ,blockQ,retQ]
      first|refine ⟨_,⟨_,_,rfl,rfl,rfl⟩,?_⟩|(refine retD_mark ?_; intro w H; refine ⟨_,⟨_,_,rfl,rfl,rfl⟩,?_⟩)|(refine retD_mark2 ?_; intro w H; refine ⟨_,⟨_,_,rfl,rfl,rfl⟩,?_⟩)
      first
      | (have hm : x ∈ xs:=List.mem_of_mem_take ((mem_take xs x i (by omega)).2 (.inr heq))
         exact ⟨congrArg Value.bool (decide_eq_true hm).symm,Holds.to (by assumption)⟩)
      | (obtain rfl : i = xs.length:=by omega
         rw [List.take_length] at hno
         exact ⟨congrArg Value.bool (decide_eq_false hno).symm,Holds.to (by assumption)⟩)
    · refine W.skip ?_
      refine hK5 _ _ _ ?_
      refine W.region ?_
      refine O.ex (Ex.move rfl) rfl ?_
      refine O.ex (by first|exact Ex.addI rfl rfl|exact Ex.add rfl rfl rfl) rfl ?_
      refine O.ex (Ex.assign rfl) rfl ?_
      refine O.nil ?_
      exact ⟨i + 1,⟨rfl,rfl,rfl,trivial⟩,⟨rfl,by omega,fun hm=>((mem_take xs x i (by omega)).1 hm).elim hno hne,Holds.to (by assumption)⟩,by omega⟩
  · refine W.exit ?_
    refine hK1 _ _ _ ?_
    refine W.seq (fun K8 hK8=>?_)
    refine W.region ?_
    refine O.ex (Ex.assign rfl) rfl ?_
    refine O.nil ?_
    refine hK8 _ _ _ ?_
    refine W.ret ?_
    try dsimp only [thenQ,blockQ,retQ]
    first|refine ⟨_,⟨_,_,rfl,rfl,rfl⟩,?_⟩|(refine retD_mark ?_; intro w H; refine ⟨_,⟨_,_,rfl,rfl,rfl⟩,?_⟩)|(refine retD_mark2 ?_; intro w H; refine ⟨_,⟨_,_,rfl,rfl,rfl⟩,?_⟩)
    first
    | (have hm : x ∈ xs:=List.mem_of_mem_take ((mem_take xs x i (by omega)).2 (.inr heq))
       exact ⟨congrArg Value.bool (decide_eq_true hm).symm,Holds.to (by assumption)⟩)
    | (obtain rfl : i = xs.length:=by omega
       rw [List.take_length] at hno
       exact ⟨congrArg Value.bool (decide_eq_false hno).symm,Holds.to (by assumption)⟩)
theorem map_getD (P : List (Int × Int)) (f : Int × Int → Int) {i : Nat} (h : i < P.length) : (P.map f).getD i default = f (P[i]'h):=by
  rw [List.getD_eq_getElem?_getD,List.getElem?_map,List.getElem?_eq_getElem h]; rfl
set_option maxHeartbeats 1000000 in
theorem refSum_ct {w : World} {r wo : Nat} {sv dv tv : Value} {n x : Int} {c : Int → Int → Int} {P : List (Int × Int)} {L : List HProp} (hg : Good n c) (hok : Ok n.toNat c wo P)
    (H : Holds w (arr 3 (Value.int .i64) sv (P.map Prod.fst)::arr 3 (Value.int .i64) dv (P.map Prod.snd)::Rh r n c::L)) :
    CT Tryz.prog 115 [.pointer (some ⟨r,0,none⟩),.agg #[sv,dv,tv],.int .i64 x] w fun u w'=>u = .int .i64 (sm c P x) ∧ Holds w' (arr 3 (Value.int .i64) sv (P.map Prod.fst)::arr 3 (Value.int .i64) dv (P.map Prod.snd)::Rh r n c::L):=by
  have n2:=hg.n2
  have hPl:=hok.len
  have l1 : (P.map Prod.fst).length = P.length:=List.length_map _
  have l2 : (P.map Prod.snd).length = P.length:=List.length_map _
  refine CT.enter (N:=36) Tryz.func115 rfl rfl rfl rfl ?_
  refine W.seq (fun K0 hK0=>?_)
  refine W.region ?_
  refine O.boxP rfl (fun b4 w H=>?_)
  refine O.ex (Ex.assign rfl) rfl ?_
  refine O.nil ?_
  refine hK0 _ _ _ ?_
  refine W.seq (fun K1 hK1=>?_)
  refine W.region ?_
  refine O.ex (Ex.assign rfl) rfl ?_
  refine O.nil ?_
  refine hK1 _ _ _ ?_
  refine W.seq (fun K2 hK2=>?_)
  refine W.seq (fun K3 hK3=>?_)
  refine W.region ?_
  refine O.ex (Ex.assign rfl) rfl ?_
  refine O.nil ?_
  refine hK3 _ _ _ ?_
  refine W.block ?_
  refine W.loop (σ:=Nat) (fun i=>[(0,.pointer (some ⟨r,0,none⟩)),(2,.int .i64 x),(4,.pointer (some ⟨b4,0,none⟩)),(7,.int .i64 (sm c (P.take i) x)),(8,.int .i64 (i : Int))]) (fun i ds w=>ds = [] ∧ i ≤ P.length ∧ Holds w (pt b4 (.cells #[sv,dv,tv] 141 (0,0))::arr 3 (Value.int .i64) sv (P.map Prod.fst)::arr 3 (Value.int .i64) dv (P.map Prod.snd)::Rh r n c::L)) (fun i=>P.length - i) 0 ⟨rfl,rfl,rfl,rfl,rfl,trivial⟩ ⟨rfl,by omega,Holds.to (by assumption)⟩ ?_
  clear H
  rintro i _ w ⟨rfl,hi,H⟩
  refine W.seq (fun K4 hK4=>?_)
  refine W.seq (fun K5 hK5=>?_)
  refine W.region ?_
  refine O.ex (Ex.move rfl) rfl ?_
  refine O.ex (by first|exact Ex.field0 fld141_0 rfl|exact Ex.field fld141_0 rfl|exact Ex.fieldS fld141_0 rfl) rfl ?_
  refine O.ex (by first|exact Ex.loadMh Tryz.isAgg28 rfl|exact Ex.loadP Tryz.isAgg28 rfl|exact Ex.loadM Tryz.isAgg28 rfl|exact Ex.loadIn1 Tryz.isAgg28 rfl (Holds.to (by assumption))|exact Ex.loadVc Tryz.isAgg28 rfl|exact Ex.loadR Tryz.isAgg28 rfl|exact Ex.loadQ Tryz.isAgg28 rfl) rfl ?_
  refine O.ex (by first|exact Ex.lenR Tryz.runUnderlying28 rfl|exact Ex.lenIn Tryz.runUnderlying28 rfl|exact Ex.lenL Tryz.runUnderlying28 rfl|exact Ex.len rfl Tryz.runUnderlying28 rfl) rfl ?_
  refine O.ex (Ex.lss rfl rfl) rfl ?_
  refine O.nil ?_
  refine hK5 _ _ _ ?_
  first|refine W.cond_p rfl (fun hlt=>?_) (fun hge=>?_)|refine W.cond_b rfl (fun hlt=>?_) (fun hge=>?_)
  · refine W.skip ?_
    refine hK4 _ _ _ ?_
    refine W.seq (fun K6 hK6=>?_)
    refine W.block ?_
    refine W.seq (fun K7 hK7=>?_)
    have hil : i < P.length:=by omega
    have hpd : Dst ((P.map Prod.snd).getD ((i : Nat) : Int).toNat default):=by
      rw [Int.toNat_natCast,map_getD P _ hil]
      have:=hok.rng _ (List.getElem_mem hil)
      exact ⟨by omega,by omega⟩
    refine W.drawTo _ (.take 0 (.take 1 (.take 2 (.take 3 (.take 4 (.take 5 (.take 6 (.take 7 (.take 8 (.take 9 (.take 10 (.take 11 (.one 12 (.one 13 (.take 14 .nil))))))))))))))) (mixed) (fun _ _ _ _ h=>h) (by assumption) (PP.refl _) (by decide +kernel) (fun w H=>?_)
    refine OQ.ex rfl (fun w H=>(by first|exact Ex.field0 fld141_1 rfl|exact Ex.field fld141_1 rfl|exact Ex.fieldS fld141_1 rfl)) rfl ?_
    refine OQ.ex rfl (fun w H=>(by first|exact Ex.loadMh Tryz.isAgg28 rfl|exact Ex.loadP Tryz.isAgg28 rfl|exact Ex.loadM Tryz.isAgg28 rfl|exact Ex.loadIn1 Tryz.isAgg28 rfl (Holds.to (by assumption))|exact Ex.loadVc Tryz.isAgg28 rfl|exact Ex.loadR Tryz.isAgg28 rfl|exact Ex.loadQ Tryz.isAgg28 rfl)) rfl ?_
    refine OQ.ex rfl (fun w H=>(Ex.move rfl)) rfl ?_
    refine OQ.ex rfl (fun w H=>(by first|exact Ex.idxR Tryz.runUnderlying28 Tryz.sizeOf3 rfl rfl|exact Ex.idxIn Tryz.runUnderlying28 Tryz.sizeOf3 rfl rfl|exact Ex.idxS Tryz.runUnderlying28 Tryz.sizeOf3 rfl rfl|exact Ex.idx Tryz.runUnderlying28 Tryz.sizeOf3 rfl rfl (by omega) (by omega))) rfl ?_
    refine OQ.ex rfl (fun w H=>(by first|exact Ex.loadR Tryz.isAgg3 rfl|exact Ex.loadIn1 Tryz.isAgg3 rfl (Holds.to (by assumption))|exact Ex.loadP Tryz.isAgg3 rfl|exact Ex.loadMh Tryz.isAgg3 rfl|exact Ex.loadM Tryz.isAgg3 rfl|exact Ex.loadVc Tryz.isAgg3 rfl|exact Ex.loadQ Tryz.isAgg3 rfl)) rfl ?_
    refine OQ.ex rfl (fun w H=>(Ex.move rfl)) rfl ?_
    refine OQ.ex rfl (fun w H=>(by first|exact Ex.field0 fld141_0 rfl|exact Ex.field fld141_0 rfl|exact Ex.fieldS fld141_0 rfl)) rfl ?_
    refine OQ.ex rfl (fun w H=>(by first|exact Ex.loadMh Tryz.isAgg28 rfl|exact Ex.loadP Tryz.isAgg28 rfl|exact Ex.loadM Tryz.isAgg28 rfl|exact Ex.loadIn1 Tryz.isAgg28 rfl (Holds.to (by assumption))|exact Ex.loadVc Tryz.isAgg28 rfl|exact Ex.loadR Tryz.isAgg28 rfl|exact Ex.loadQ Tryz.isAgg28 rfl)) rfl ?_
    refine OQ.ex rfl (fun w H=>(Ex.move rfl)) rfl ?_
    refine OQ.ex rfl (fun w H=>(by first|exact Ex.idxR Tryz.runUnderlying28 Tryz.sizeOf3 rfl rfl|exact Ex.idxIn Tryz.runUnderlying28 Tryz.sizeOf3 rfl rfl|exact Ex.idxS Tryz.runUnderlying28 Tryz.sizeOf3 rfl rfl|exact Ex.idx Tryz.runUnderlying28 Tryz.sizeOf3 rfl rfl (by omega) (by omega))) rfl ?_
    refine OQ.ex rfl (fun w H=>(by first|exact Ex.loadR Tryz.isAgg3 rfl|exact Ex.loadIn1 Tryz.isAgg3 rfl (Holds.to (by assumption))|exact Ex.loadP Tryz.isAgg3 rfl|exact Ex.loadMh Tryz.isAgg3 rfl|exact Ex.loadM Tryz.isAgg3 rfl|exact Ex.loadVc Tryz.isAgg3 rfl|exact Ex.loadQ Tryz.isAgg3 rfl)) rfl ?_
    refine OQ.ex rfl (fun w H=>(Ex.move rfl)) rfl ?_
    refine OQ.step rfl ?_
    refine O.callF Tryz.call63 rfl rfl (CT.mono (refAt_ct hg (Holds.to (by assumption))) ?_)
    rintro _ w ⟨rfl,H⟩
    refine O.thenNil ⟨(by first|exact Holds.to (by assumption)|assumption),?_⟩
    refine OQ.step rfl ?_
    refine O.callF Tryz.call86 rfl rfl (CT.mono (refTwo_ct (Holds.to (by assumption)) hpd (hg.dst _ _)) ?_)
    rintro _ w ⟨rfl,H⟩
    refine O.thenNil ⟨(by first|exact Holds.to (by assumption)|assumption),?_⟩
    refine OQ.ex rfl (fun w H=>(Ex.assign rfl)) rfl ?_
    refine OQ.done ?_
    refine hK7 _ _ _ ?_
    refine W.seq (fun K8 hK8=>?_)
    refine W.region ?_
    have e1:=sm_take c P x i hil
    rw [Int.toNat_natCast,map_getD P _ hil,map_getD P _ hil] at *
    refine O.ex (Ex.move rfl) rfl ?_
    refine O.ex (Ex.move rfl) rfl ?_
    refine O.ex (Ex.lss rfl rfl) rfl ?_
    refine O.nil ?_
    refine hK8 _ _ _ ?_
    first|refine W.cond_p rfl (fun hless=>?_) (fun hnot=>?_)|refine W.cond_b rfl (fun hless=>?_) (fun hnot=>?_)
    · refine W.region ?_
      refine O.ex (Ex.move rfl) rfl ?_
      refine O.ex (Ex.assign rfl) rfl ?_
      refine O.nil ?_
      refine hK6 _ _ _ ?_
      refine W.region ?_
      refine O.ex (Ex.move rfl) rfl ?_
      refine O.ex (by first|exact Ex.addI rfl rfl|exact Ex.add rfl rfl rfl) rfl ?_
      refine O.ex (Ex.assign rfl) rfl ?_
      refine O.nil ?_
      first
      | exact ⟨i + 1,⟨rfl,rfl,rfl,by rw [e1,show min (sm c (P.take i) x) (two (P[i]'hil).2 (c (P[i]'hil).1 x)) = two (P[i]'hil).2 (c (P[i]'hil).1 x) by omega]; rfl,rfl,trivial⟩,⟨rfl,by omega,Holds.to (by assumption)⟩,by omega⟩
      | exact ⟨i + 1,⟨rfl,rfl,rfl,by rw [e1,show min (sm c (P.take i) x) (two (P[i]'hil).2 (c (P[i]'hil).1 x)) = sm c (P.take i) x by omega]; rfl,rfl,trivial⟩,⟨rfl,by omega,Holds.to (by assumption)⟩,by omega⟩
    · refine W.skip ?_
      refine hK6 _ _ _ ?_
      refine W.region ?_
      refine O.ex (Ex.move rfl) rfl ?_
      refine O.ex (by first|exact Ex.addI rfl rfl|exact Ex.add rfl rfl rfl) rfl ?_
      refine O.ex (Ex.assign rfl) rfl ?_
      refine O.nil ?_
      first
      | exact ⟨i + 1,⟨rfl,rfl,rfl,by rw [e1,show min (sm c (P.take i) x) (two (P[i]'hil).2 (c (P[i]'hil).1 x)) = two (P[i]'hil).2 (c (P[i]'hil).1 x) by omega]; rfl,rfl,trivial⟩,⟨rfl,by omega,Holds.to (by assumption)⟩,by omega⟩
      | exact ⟨i + 1,⟨rfl,rfl,rfl,by rw [e1,show min (sm c (P.take i) x) (two (P[i]'hil).2 (c (P[i]'hil).1 x)) = sm c (P.take i) x by omega]; rfl,rfl,trivial⟩,⟨rfl,by omega,Holds.to (by assumption)⟩,by omega⟩
  · refine W.exit ?_
    refine hK2 _ _ _ ?_
    refine W.seq (fun K9 hK9=>?_)
    refine W.region ?_
    refine O.ex (Ex.move rfl) rfl ?_
    refine O.ex (Ex.assign rfl) rfl ?_
    refine O.nil ?_
    refine hK9 _ _ _ ?_
    refine W.ret ?_
    try dsimp only [thenQ,blockQ,retQ]
    first|refine ⟨_,⟨_,_,rfl,rfl,rfl⟩,?_⟩|(refine retD_mark ?_; intro w H; refine ⟨_,⟨_,_,rfl,rfl,rfl⟩,?_⟩)|(refine retD_mark2 ?_; intro w H; refine ⟨_,⟨_,_,rfl,rfl,rfl⟩,?_⟩)
    obtain rfl : i = P.length:=by omega
    rw [List.take_length]
    exact ⟨rfl,Holds.to (by assumption)⟩
end Go.Proofs.YtblapiiinbppiaaGreatDoor
