import Derived.Test.YtliofdfhimmjmaaBoth
namespace Go.Proofs.Ytliofdfhimmjmaa
open Go.Rr Go Gr Hp
set_option linter.unusedVariables false
set_option linter.unusedSimpArgs false
section
variable {n : Int} {c : Int → Int → Int} {s0 : Nat}
theorem fr_hi (hg : Good n c) {j b : Nat} {d : Int} {r : Int → Int} (w : Nat) : fr n c s0 (stN n c s0 j) b d r w ≤ 4611686018427387906:=by
  unfold fr
  split
  · exact (fw_dst hg n.toNat (s0 : Int) (w : Int)).2
  · have hs : Wt.sm c (stN n c s0 j) (w : Int) ≤ 4611686018427387906:=(Wt.sm_dst hg (Wt.st_ok (N:=n.toNat) (s0:=s0) (wo:=0) hg j) (w : Int)).2
    omega
theorem fr_lt (hg : Good n c) (h1 : s0 < n.toNat) {j b o : Nat} (hb : Wt.nx n.toNat c s0 0 (stN n c s0 j) = some b) {r : Int → Int} {wt : Int} (hr' : ∀ x,Dst (r x)) (hw : Dst wt) (hlt : two (far n c s0 b) wt < fr n c s0 (stN n c s0 j) b (far n c s0 b) r o) :
    o ≠ s0 ∧ fr n c s0 (stN n c s0 j) b (far n c s0 b) (fun x=>if x = (o : Int) then min (r x) wt else r x) o = two (far n c s0 b) wt ∧ ∀ i,i ≠ o → fr n c s0 (stN n c s0 j) b (far n c s0 b) (fun x=>if x = (o : Int) then min (r x) wt else r x) i = fr n c s0 (stN n c s0 j) b (far n c s0 b) r i:=by
  have hdD : Dst (far n c s0 b):=fw_dst hg n.toNat s0 b
  have hle:=le_two_left hdD hw
  have hns : ¬ (Wt.isIn (stN n c s0 j) o ∨ o = b):=fun k=>by
    unfold fr at hlt
    rw [if_pos k] at hlt
    have:=settled_le hg h1 hb k
    omega
  have hmin:=two_min hdD (hr' o) hw
  refine ⟨fun e=>hns ?_,?_,fun i hi=>?_⟩
  · rw [e]
    by_cases hP : stN n c s0 j = []
    · rw [hP] at hb; exact .inr (Wt.nx_first hb).symm
    · exact .inl (st_in h1 (List.length_pos_iff.2 hP))
  · unfold fr at hlt ⊢
    rw [if_neg hns] at hlt ⊢
    dsimp only
    rw [if_pos rfl,hmin]; omega
  · unfold fr
    dsimp only
    rw [if_neg (show ¬ ((i : Nat) : Int) = (o : Int) by omega)]
theorem fr_ge (hg : Good n c) {j b o : Nat} {r : Int → Int} {wt : Int} (hr' : ∀ x,Dst (r x)) (hw : Dst wt) (hge : ¬ two (far n c s0 b) wt < fr n c s0 (stN n c s0 j) b (far n c s0 b) r o) (i : Nat) :
    fr n c s0 (stN n c s0 j) b (far n c s0 b) (fun x=>if x = (o : Int) then min (r x) wt else r x) i = fr n c s0 (stN n c s0 j) b (far n c s0 b) r i:=by
  have hdD : Dst (far n c s0 b):=fw_dst hg n.toNat s0 b
  have hmin:=two_min hdD (hr' o) hw
  unfold fr at hge ⊢
  dsimp only
  by_cases h : Wt.isIn (stN n c s0 j) i ∨ i = b
  · rw [if_pos h,if_pos h]
  · rw [if_neg h,if_neg h]
    by_cases e : i = o
    · subst e
      rw [if_neg h] at hge
      rw [if_pos rfl,hmin]; omega
    · rw [if_neg (by omega)]
end
/-- A variable that holds a list. -/
def OutC (b : Nat) (xs : List Int) : HProp:=hex fun v=>star [pt b (.cells #[v] 28 (0,0)),arr 3 (Value.int .i64) v xs]
theorem outC_open {w : World} {b : Nat} {xs : List Int} {L : List HProp} : Holds w (OutC b xs::L) ↔ ∃ v,Holds w (pt b (.cells #[v] 28 (0,0))::arr 3 (Value.int .i64) v xs::L):=by
  unfold OutC
  simp only [Holds.hex,Holds.star,List.cons_append,List.nil_append]
abbrev pcS (p hh fr br : Nat) (b : Bool) : HProp:=pt p (.cells #[.pointer (some ⟨hh,0,none⟩),.pointer (some ⟨fr,0,none⟩),.pointer (some ⟨br,0,none⟩),.bool b] 118 (0,0))
set_option maxHeartbeats 4000000 in
theorem stepout_ct {w : World} {p hh fw br g s0 j b : Nat} {n most : Int} {s : St} {L : List HProp} (hg : GOk n most s) (h1 : s0 < n.toNat) (hb : Wt.nx n.toNat (cD s false) s0 0 (stN n (cD s false) s0 j) = some b) (H : Holds w (Sd p hh fw br n s false s0 j::Gh g n most s::L)) :
    CT Try.prog 81 [.pointer (some ⟨p,0,none⟩),.pointer (some ⟨g,0,none⟩)] w fun u w'=>u = .int .i64 (b : Int) ∧ Holds w' (Sd p hh fw br n s false s0 (j + 1)::Gh g n most s::L):=by
  have n1:=hg.n1
  have n2:=hg.n2
  have H:=sd_open.1 H
  obtain ⟨c,hc⟩ : ∃ c,c = cD s false:=⟨_,rfl⟩
  have hG : Good n c:=hc ▸ cD_good hg false
  rw [show Far n s false s0 j = fq n c s0 (stN n c s0 j) from by rw [hc]] at H
  rw [← hc] at hb H
  obtain ⟨hbN,hbP,hbw,hbd,hbp,hbl⟩:=Wt.nx_spec hb
  have hfar:=nx_far hG h1 hb
  obtain ⟨d,hd⟩ : ∃ d,d = far n c s0 b:=⟨_,rfl⟩
  have hdd : Dst d:=hd ▸ fw_dst hG n.toNat s0 b
  have hbs : pkO RI (Wt.hpW n.toNat c s0 0 (stN n c s0 j)) = true ∧ pkN RI (Wt.hpW n.toNat c s0 0 (stN n c s0 j)) = b ∧ pkP RI (Wt.hpW n.toNat c s0 0 (stN n c s0 j)) = d ∧ popL RI (Wt.hpW n.toNat c s0 0 (stN n c s0 j)) = HL n c (stN n c s0 j) b d (fun _=>4611686018427387906):=by
    have e : bs RI (Wt.hpW n.toNat c s0 0 (stN n c s0 j)) = some b:=hb
    unfold pkO pkN pkP popL
    rw [e]
    refine ⟨rfl,rfl,?_,?_⟩
    · rw [hd,← hfar]; exact hbp
    · rw [hd]; exact start_HL hG h1 hb
  have hrow : (fun w=>ov (fq n c s0 (stN n c s0 j) w)) = fun w=>ov (fr n c s0 (stN n c s0 j) b d (rx s false ((outI s (b : Int)).take 0)) w):=by
    funext w; rw [fq_FL hG h1 hb w,hd]; rfl
  refine CT.enter (N:=73) Try.func81 rfl rfl rfl rfl ?_
  refine W.seq (fun K0 hK0=>?_)
  refine W.region ?_
  refine O.boxP rfl (fun b2 w H=>?_)
  refine O.boxP rfl (fun b3 w H=>?_)
  refine O.ex (Ex.assign rfl) rfl ?_
  refine O.nil ?_
  refine hK0 _ _ _ ?_
  refine W.seq (fun K1 hK1=>?_)
  refine W.region ?_
  refine O.ex (by first|exact Ex.loadP Try.isAgg81 rfl|exact Ex.loadQ Try.isAgg81 rfl|exact Ex.loadMh Try.isAgg81 rfl|exact Ex.loadR Try.isAgg81 rfl|exact Ex.loadInF Try.isAgg81 rfl (Holds.to (by assumption))|exact Ex.loadIn1 Try.isAgg81 rfl (Holds.to (by assumption))|exact Ex.loadM Try.isAgg81 rfl|exact Ex.loadVc Try.isAgg81 rfl) rfl ?_
  refine O.ex (by first|exact Ex.nilPtr rfl|exact Ex.nilFunc rfl|exact Ex.nilYield rfl) rfl ?_
  refine O.ex (by first|exact Ex.field0 fld118_0 rfl|exact Ex.field fld118_0 rfl|exact Ex.fieldS fld118_0 rfl|exact Ex.fieldIn fld118_0 rfl) rfl ?_
  refine O.ex (by first|exact Ex.loadMh Try.isAgg99 rfl|exact Ex.loadInF Try.isAgg99 rfl (Holds.to (by assumption))|exact Ex.loadP Try.isAgg99 rfl|exact Ex.loadM Try.isAgg99 rfl|exact Ex.loadIn1 Try.isAgg99 rfl (Holds.to (by assumption))|exact Ex.loadVc Try.isAgg99 rfl|exact Ex.loadR Try.isAgg99 rfl|exact Ex.loadQ Try.isAgg99 rfl) rfl ?_
  refine O.callF Try.call70 rfl rfl (CT.mono (popI1_ct (Holds.to (by assumption))) ?_)
  rintro _ w ⟨rfl,H⟩
  rw [hbs.1,hbs.2.1,hbs.2.2.1]
  rw [hbs.2.2.2] at H
  refine O.ex (Ex.move rfl) rfl ?_
  refine O.ex (Ex.extract rfl rfl) rfl ?_
  refine O.ex (Ex.extract rfl rfl) rfl ?_
  refine O.ex (Ex.extract rfl rfl) rfl ?_
  refine O.allocP Try.zeroValue3 (fun b6 w H=>?_)
  refine O.ex (Ex.assign rfl) rfl ?_
  first|refine O.storeP Try.sizeOf3 rfl rfl (fun w H=>?_)|refine O.storeR Try.sizeOf3 rfl rfl (fun w H=>?_)|refine O.storeM Try.sizeOf3 rfl rfl (fun w H=>?_)|refine O.storeVc Try.sizeOf3 rfl rfl (fun w H=>?_)|refine O.storeQ Try.sizeOf3 rfl rfl (fun w H=>?_)
  refine O.ex (Ex.assign rfl) rfl ?_
  refine O.nil ?_
  refine hK1 _ _ _ ?_
  refine W.seq (fun K2 hK2=>?_)
  refine W.seq (fun K3 hK3=>?_)
  refine W.region ?_
  refine O.ex (by first|exact Ex.loadP Try.isAgg81 rfl|exact Ex.loadQ Try.isAgg81 rfl|exact Ex.loadMh Try.isAgg81 rfl|exact Ex.loadR Try.isAgg81 rfl|exact Ex.loadInF Try.isAgg81 rfl (Holds.to (by assumption))|exact Ex.loadIn1 Try.isAgg81 rfl (Holds.to (by assumption))|exact Ex.loadM Try.isAgg81 rfl|exact Ex.loadVc Try.isAgg81 rfl) rfl ?_
  refine O.ex (by first|exact Ex.loadP Try.isAgg24 rfl|exact Ex.loadQ Try.isAgg24 rfl|exact Ex.loadMh Try.isAgg24 rfl|exact Ex.loadR Try.isAgg24 rfl|exact Ex.loadInF Try.isAgg24 rfl (Holds.to (by assumption))|exact Ex.loadIn1 Try.isAgg24 rfl (Holds.to (by assumption))|exact Ex.loadM Try.isAgg24 rfl|exact Ex.loadVc Try.isAgg24 rfl) rfl ?_
  refine O.ex (Ex.move rfl) rfl ?_
  refine O.callF Try.call102 rfl rfl (CT.mono (sarcsout_ct (p:=p) (hh:=hh) (fr:=fw) (br:=br) (g:=g) (v:=(b : Int)) (Holds.to (by assumption))) ?_)
  rintro _ w ⟨c2,c3,rfl,H⟩
  refine O.nil ?_
  refine hK3 _ _ _ ?_
  refine W.block ?_
  obtain ⟨f0,hf0,H⟩:=sdB_open.1 (Holds.to (M:=SdB br n.toNat (ByOk n s false s0 (fq n c s0 (stN n c s0 j)) (fun w=>Wt.isIn (stN n c s0 j) w))::_) H)
  rw [hrow] at H
  have hf1 : ByOk n s false s0 (fr n c s0 (stN n c s0 j) b d (rx s false ((outI s (b : Int)).take 0))) (fun w=>Wt.isIn (stN n c s0 j) w ∨ w = b) f0:=hf0.congr (fun w _=>by rw [fq_FL hG h1 hb w,hd]; rfl) (fun w=>Or.inl)
  have H:=sdB_open.2 ⟨f0,hf1,H⟩
  obtain ⟨ab,cap,es,HG⟩:=gh_open.1 (Holds.to (M:=Gh g n most s::capO c2 c3 g (b : Int)::pt b2 (.cells #[.pointer (some ⟨p,0,none⟩)] 81 (0,0))::pt b3 (.cells #[.pointer (some ⟨g,0,none⟩)] 24 (0,0))::pt b6 (.cells #[.int .i64 d] 3 (0,0))::pcS p hh fw br false::HqI hh (HL n c (stN n c s0 j) b d (rx s false ((outI s (b : Int)).take 0)))::RowF fw n.toNat (fun w=>ov (fr n c s0 (stN n c s0 j) b d (rx s false ((outI s (b : Int)).take 0)) w))::SdB br n.toNat (ByOk n s false s0 (fr n c s0 (stN n c s0 j) b d (rx s false ((outI s (b : Int)).take 0))) (fun w=>Wt.isIn (stN n c s0 j) w ∨ w = b))::L) H)
  replace H : Holds w (GO g ab cap es n most s::capO c2 c3 g (b : Int)::(pt b2 (.cells #[.pointer (some ⟨p,0,none⟩)] 81 (0,0))::pt b3 (.cells #[.pointer (some ⟨g,0,none⟩)] 24 (0,0))::pt b6 (.cells #[.int .i64 d] 3 (0,0))::pcS p hh fw br false::HqI hh (HL n c (stN n c s0 j) b d (rx s false ((outI s (b : Int)).take 0)))::RowF fw n.toNat (fun w=>ov (fr n c s0 (stN n c s0 j) b d (rx s false ((outI s (b : Int)).take 0)) w))::SdB br n.toNat (ByOk n s false s0 (fr n c s0 (stN n c s0 j) b d (rx s false ((outI s (b : Int)).take 0))) (fun w=>Wt.isIn (stN n c s0 j) w ∨ w = b))::L)):=HG
  clear HG
  refine W.rangeFunc rfl Try.call73 H ?_
  rintro LR kk D w hLR H
  refine CT.mono (gout1_ct (κ:=Unit) (σ:=fun _=>False) (SL:=fun _=>[]) (J:=fun i=>LR .ready none::dblk D::pt b2 (.cells #[.pointer (some ⟨p,0,none⟩)] 81 (0,0))::pt b3 (.cells #[.pointer (some ⟨g,0,none⟩)] 24 (0,0))::pt b6 (.cells #[.int .i64 d] 3 (0,0))::pcS p hh fw br false::HqI hh (HL n c (stN n c s0 j) b d (rx s false ((outI s (b : Int)).take i)))::RowF fw n.toNat (fun w=>ov (fr n c s0 (stN n c s0 j) b d (rx s false ((outI s (b : Int)).take i)) w))::SdB br n.toNat (ByOk n s false s0 (fr n c s0 (stN n c s0 j) b d (rx s false ((outI s (b : Int)).take i))) (fun w=>Wt.isIn (stN n c s0 j) w ∨ w = b))::L) (φ:=fun _=>True) hg trivial (Holds.to (by assumption)) ?_) ?_
  · intro Fr i w hi _ H
    have hmem:=getI_mem hi
    obtain ⟨id,hid⟩ : ∃ id,id = (outI s (b : Int)).getD i default:=⟨_,rfl⟩
    rw [← hid] at hmem ⊢
    obtain ⟨m1,m2,m3⟩:=(mem_arcsI (b:=false) (v:=(b : Int))).1 (show id ∈ arcsI s false (b : Int) from hmem)
    obtain ⟨a,ha⟩ : ∃ a,a = (s id.toNat).a:=⟨_,rfl⟩
    have hqa : arcQ s id = a:=by rw [ha]; exact if_pos m1
    obtain ⟨ho,hwt⟩:=hg.arc _ m2
    rw [← ha] at ho hwt
    obtain ⟨o,hoe,hoN⟩ : ∃ o : Nat,(o : Int) = oth a false ∧ o < n.toNat:=⟨(oth a false).toNat,by unfold oth; simp; omega,by unfold oth; simp; omega⟩
    have hwd : Dst a.w:=⟨by omega,by omega⟩
    obtain ⟨r,hr⟩ : ∃ r,r = rx s false ((outI s (b : Int)).take i):=⟨_,rfl⟩
    have hrd : ∀ x,Dst (r x):=fun x=>by
      rw [hr]
      exact rx_dst hg false (fun i hi=>((mem_arcsI (b:=false) (v:=(b : Int))).1 (show i ∈ arcsI s false (b : Int) from List.mem_of_mem_take hi)).2.1) x
    have hrn : rx s false ((outI s (b : Int)).take (i + 1)) = rx1 s false r id:=by rw [take_getI hi,rx_snoc,← hr,← hid]
    rw [← hr] at H
    rw [hrn]
    have hFh : fr n c s0 (stN n c s0 j) b d r o ≤ 4611686018427387906:=fr_hi hG o
    have hFLg : (FL n c s0 (stN n c s0 j) b d r).getD o default = fr n c s0 (stN n c s0 j) b d r o:=nrg_get hoN
    refine VT.round hLR (Holds.to (by assumption)) rfl rfl ?_
    refine W.region ?_
    refine O.ex (Ex.assign rfl) rfl ?_
    refine O.nil ?_
    refine ⟨_,Holds.to (by assumption),fun w H=>?_⟩
    refine W.block ?_
    refine W.seq (fun K4 hK4=>?_)
    refine W.region ?_
    refine O.ex (by first|exact Ex.loadP Try.isAgg24 rfl|exact Ex.loadQ Try.isAgg24 rfl|exact Ex.loadMh Try.isAgg24 rfl|exact Ex.loadR Try.isAgg24 rfl|exact Ex.loadInF Try.isAgg24 rfl (Holds.to (by assumption))|exact Ex.loadIn1 Try.isAgg24 rfl (Holds.to (by assumption))|exact Ex.loadM Try.isAgg24 rfl|exact Ex.loadVc Try.isAgg24 rfl) rfl ?_
    refine O.ex (Ex.move rfl) rfl ?_
    refine O.callF Try.call40 rfl rfl (CT.mono (goarc_ct (g:=g) (ab:=ab) (cap:=cap) (es:=es) (Holds.to (by assumption))) ?_)
    rintro _ w ⟨rfl,H⟩
    rw [hqa]
    refine O.ex (Ex.move rfl) rfl ?_
    refine O.ex (Ex.extract rfl rfl) rfl ?_
    refine O.ex (Ex.extract rfl rfl) rfl ?_
    refine O.allocP Try.zeroValue42 (fun b9 w H=>?_)
    first|refine O.storeAggP Try.sizeOf42 rfl rfl rfl rfl (fun w H=>?_)|refine O.storeAggN Try.sizeOf42 rfl rfl rfl (fun w H=>?_) rfl
    replace H : Holds w (pt b9 (.cells #[.int .i64 a.t,.int .i64 a.h,.int .i64 a.w,.bool a.cl] 42 (0,0))::LR .busy none::pt b2 (.cells #[.pointer (some ⟨p,0,none⟩)] 81 (0,0))::pt b3 (.cells #[.pointer (some ⟨g,0,none⟩)] 24 (0,0))::pt b6 (.cells #[.int .i64 d] 3 (0,0))::pcS p hh fw br false::HqI hh (HL n c (stN n c s0 j) b d r)::RowF fw n.toNat (fun w=>ov (fr n c s0 (stN n c s0 j) b d r w))::SdB br n.toNat (ByOk n s false s0 (fr n c s0 (stN n c s0 j) b d r) (fun w=>Wt.isIn (stN n c s0 j) w ∨ w = b))::Fr::GO g ab cap es n most s::capO c2 c3 g (b : Int)::dblk D::L):=Holds.to H
    refine O.ex (Ex.assign rfl) rfl ?_
    refine O.nil ?_
    refine hK4 _ _ _ ?_
    refine W.seq (fun K5 hK5=>?_)
    refine W.region ?_
    refine O.ex (by first|exact Ex.loadP Try.isAgg3 rfl|exact Ex.loadQ Try.isAgg3 rfl|exact Ex.loadMh Try.isAgg3 rfl|exact Ex.loadR Try.isAgg3 rfl|exact Ex.loadInF Try.isAgg3 rfl (Holds.to (by assumption))|exact Ex.loadIn1 Try.isAgg3 rfl (Holds.to (by assumption))|exact Ex.loadM Try.isAgg3 rfl|exact Ex.loadVc Try.isAgg3 rfl) rfl ?_
    refine O.ex (by first|exact Ex.field0 fld42_2 rfl|exact Ex.field fld42_2 rfl|exact Ex.fieldS fld42_2 rfl|exact Ex.fieldIn fld42_2 rfl) rfl ?_
    refine O.ex (by first|exact Ex.loadMh Try.isAgg3 rfl|exact Ex.loadInF Try.isAgg3 rfl (Holds.to (by assumption))|exact Ex.loadP Try.isAgg3 rfl|exact Ex.loadM Try.isAgg3 rfl|exact Ex.loadIn1 Try.isAgg3 rfl (Holds.to (by assumption))|exact Ex.loadVc Try.isAgg3 rfl|exact Ex.loadR Try.isAgg3 rfl|exact Ex.loadQ Try.isAgg3 rfl) rfl ?_
    refine O.buildK (e:=Value.int .i64) (vs:=[(0,.int .i64 d),(1,.int .i64 a.w)]) [d,a.w] Try.runUnderlying28 Try.sizeOf3 Try.zeroValue3 rfl rfl rfl rfl rfl rfl (fun v66 w hv66 H=>?_)
    refine O.callF Try.call72 rfl rfl (CT.mono (add_ct (Holds.to (by assumption)) hdd hwd) ?_)
    rintro _ w ⟨rfl,H⟩
    refine O.ex (Ex.assign rfl) rfl ?_
    refine O.nil ?_
    refine hK5 _ _ _ ?_
    refine W.seq (fun K6 hK6=>?_)
    refine W.region ?_
    refine O.ex (by first|exact Ex.loadP Try.isAgg81 rfl|exact Ex.loadQ Try.isAgg81 rfl|exact Ex.loadMh Try.isAgg81 rfl|exact Ex.loadR Try.isAgg81 rfl|exact Ex.loadInF Try.isAgg81 rfl (Holds.to (by assumption))|exact Ex.loadIn1 Try.isAgg81 rfl (Holds.to (by assumption))|exact Ex.loadM Try.isAgg81 rfl|exact Ex.loadVc Try.isAgg81 rfl) rfl ?_
    refine O.ex (Ex.cast (v:=a.val) (Ex.loadAggP (bl:=b9) (off:=0) Try.isAgg42 Try.sizeOf42 rfl (Holds.to (M:=pt b9 (.cells #[.int .i64 a.t,.int .i64 a.h,.int .i64 a.w,.bool a.cl] 42 (0,0))::[]) H)) rfl) rfl ?_
    refine O.callF Try.call103 rfl rfl (CT.mono (sto_ct (p:=p) (hh:=hh) (fr:=fw) (br:=br) (b:=false) (a:=a) (Holds.to (by assumption))) ?_)
    rintro _ w ⟨rfl,H⟩
    rw [← hoe]
    refine O.ex (Ex.assign rfl) rfl ?_
    refine O.nil ?_
    refine hK6 _ _ _ ?_
    refine W.seq (fun K7 hK7=>?_)
    refine W.region ?_
    refine O.ex (by first|exact Ex.field0 fld42_3 rfl|exact Ex.field fld42_3 rfl|exact Ex.fieldS fld42_3 rfl|exact Ex.fieldIn fld42_3 rfl) rfl ?_
    refine O.ex (by first|exact Ex.loadMh Try.isAgg4 rfl|exact Ex.loadInF Try.isAgg4 rfl (Holds.to (by assumption))|exact Ex.loadP Try.isAgg4 rfl|exact Ex.loadM Try.isAgg4 rfl|exact Ex.loadIn1 Try.isAgg4 rfl (Holds.to (by assumption))|exact Ex.loadVc Try.isAgg4 rfl|exact Ex.loadR Try.isAgg4 rfl|exact Ex.loadQ Try.isAgg4 rfl) rfl ?_
    refine O.ex (by first|exact Ex.notD rfl|exact Ex.not rfl) rfl ?_
    refine O.ex (Ex.move rfl) rfl ?_
    first|refine O.split_p (t:=44) rfl (fun hop=>?_) (fun hcl=>?_)|refine O.split (t:=44) rfl (fun hop=>?_) (fun hcl=>?_)
    · refine O.guard_t rfl rfl ?_
      refine O.ex (Ex.move rfl) rfl ?_
      refine O.guard_t rfl rfl ?_
      refine O.ex (by first|exact Ex.loadP Try.isAgg81 rfl|exact Ex.loadQ Try.isAgg81 rfl|exact Ex.loadMh Try.isAgg81 rfl|exact Ex.loadR Try.isAgg81 rfl|exact Ex.loadInF Try.isAgg81 rfl (Holds.to (by assumption))|exact Ex.loadIn1 Try.isAgg81 rfl (Holds.to (by assumption))|exact Ex.loadM Try.isAgg81 rfl|exact Ex.loadVc Try.isAgg81 rfl) rfl ?_
      refine O.guard_t rfl rfl ?_
      refine O.ex (Ex.move rfl) rfl ?_
      refine O.guard_t rfl rfl ?_
      refine O.callF Try.call83 rfl rfl (CT.mono (sat_ct (p:=p) (hh:=hh) (fr:=fw) (br:=br) (b:=false) (N:=n.toNat) (v:=o) (F:=fr n c s0 (stN n c s0 j) b d r) hoN hFh (Holds.to (M:=pcS p hh fw br false::RowF fw n.toNat (fun w=>ov (fr n c s0 (stN n c s0 j) b d r w))::_) (by assumption))) ?_)
      rintro _ w ⟨rfl,H⟩
      refine O.guard_t rfl rfl ?_
      refine O.ex (Ex.lss rfl rfl) rfl ?_
      refine O.ex (Ex.pick_t rfl rfl) rfl ?_
      refine O.nil ?_
      refine hK7 _ _ _ ?_
      first|refine W.cond_p rfl (fun hlt=>?_) (fun hge=>?_)|refine W.cond_b rfl (fun hlt=>?_) (fun hge=>?_)
      · refine W.seq (fun K8 hK8=>?_)
        refine W.region ?_
        obtain ⟨bf,hbf,H⟩:=sdB_open.1 (Holds.to (M:=SdB br n.toNat (ByOk n s false s0 (fr n c s0 (stN n c s0 j) b d r) (fun w=>Wt.isIn (stN n c s0 j) w ∨ w = b))::_) H)
        refine O.ex (by first|exact Ex.loadP Try.isAgg81 rfl|exact Ex.loadQ Try.isAgg81 rfl|exact Ex.loadMh Try.isAgg81 rfl|exact Ex.loadR Try.isAgg81 rfl|exact Ex.loadInF Try.isAgg81 rfl (Holds.to (by assumption))|exact Ex.loadIn1 Try.isAgg81 rfl (Holds.to (by assumption))|exact Ex.loadM Try.isAgg81 rfl|exact Ex.loadVc Try.isAgg81 rfl) rfl ?_
        refine O.ex (by first|exact Ex.nilPtr rfl|exact Ex.nilFunc rfl|exact Ex.nilYield rfl) rfl ?_
        refine O.ex (by first|exact Ex.field0 fld118_0 rfl|exact Ex.field fld118_0 rfl|exact Ex.fieldS fld118_0 rfl|exact Ex.fieldIn fld118_0 rfl) rfl ?_
        refine O.ex (by first|exact Ex.loadMh Try.isAgg99 rfl|exact Ex.loadInF Try.isAgg99 rfl (Holds.to (by assumption))|exact Ex.loadP Try.isAgg99 rfl|exact Ex.loadM Try.isAgg99 rfl|exact Ex.loadIn1 Try.isAgg99 rfl (Holds.to (by assumption))|exact Ex.loadVc Try.isAgg99 rfl|exact Ex.loadR Try.isAgg99 rfl|exact Ex.loadQ Try.isAgg99 rfl) rfl ?_
        refine O.ex (Ex.move rfl) rfl ?_
        refine O.ex (Ex.move rfl) rfl ?_
        refine O.callF Try.call69 rfl rfl (CT.mono (putIH_ct (Holds.to (by assumption))) ?_)
        rintro _ w ⟨-,H⟩
        refine O.nil ?_
        refine hK8 _ _ _ ?_
        refine W.seq (fun K9 hK9=>?_)
        refine W.region ?_
        refine O.ex (by first|exact Ex.loadP Try.isAgg81 rfl|exact Ex.loadQ Try.isAgg81 rfl|exact Ex.loadMh Try.isAgg81 rfl|exact Ex.loadR Try.isAgg81 rfl|exact Ex.loadInF Try.isAgg81 rfl (Holds.to (by assumption))|exact Ex.loadIn1 Try.isAgg81 rfl (Holds.to (by assumption))|exact Ex.loadM Try.isAgg81 rfl|exact Ex.loadVc Try.isAgg81 rfl) rfl ?_
        refine O.ex (by first|exact Ex.nilPtr rfl|exact Ex.nilFunc rfl|exact Ex.nilYield rfl) rfl ?_
        refine O.ex (by first|exact Ex.field0 fld118_1 rfl|exact Ex.field fld118_1 rfl|exact Ex.fieldS fld118_1 rfl|exact Ex.fieldIn fld118_1 rfl) rfl ?_
        refine O.ex (by first|exact Ex.loadMh Try.isAgg116 rfl|exact Ex.loadInF Try.isAgg116 rfl (Holds.to (by assumption))|exact Ex.loadP Try.isAgg116 rfl|exact Ex.loadM Try.isAgg116 rfl|exact Ex.loadIn1 Try.isAgg116 rfl (Holds.to (by assumption))|exact Ex.loadVc Try.isAgg116 rfl|exact Ex.loadR Try.isAgg116 rfl|exact Ex.loadQ Try.isAgg116 rfl) rfl ?_
        refine O.ex (Ex.move rfl) rfl ?_
        refine O.ex (Ex.move rfl) rfl ?_
        refine O.callF Try.call101 rfl rfl (CT.mono (setF_ct (r:=fw) (N:=n.toNat) (i:=o) (x:=two d a.w) (by omega) hoN (Holds.to (M:=RowF fw n.toNat (fun w=>ov (fr n c s0 (stN n c s0 j) b d r w))::_) (by assumption))) ?_)
        rintro _ w ⟨rfl,H⟩
        refine O.nil ?_
        refine hK9 _ _ _ ?_
        refine W.region ?_
        refine O.ex (by first|exact Ex.loadP Try.isAgg81 rfl|exact Ex.loadQ Try.isAgg81 rfl|exact Ex.loadMh Try.isAgg81 rfl|exact Ex.loadR Try.isAgg81 rfl|exact Ex.loadInF Try.isAgg81 rfl (Holds.to (by assumption))|exact Ex.loadIn1 Try.isAgg81 rfl (Holds.to (by assumption))|exact Ex.loadM Try.isAgg81 rfl|exact Ex.loadVc Try.isAgg81 rfl) rfl ?_
        refine O.ex (by first|exact Ex.nilPtr rfl|exact Ex.nilFunc rfl|exact Ex.nilYield rfl) rfl ?_
        refine O.ex (by first|exact Ex.field0 fld118_2 rfl|exact Ex.field fld118_2 rfl|exact Ex.fieldS fld118_2 rfl|exact Ex.fieldIn fld118_2 rfl) rfl ?_
        refine O.ex (by first|exact Ex.loadMh Try.isAgg116 rfl|exact Ex.loadInF Try.isAgg116 rfl (Holds.to (by assumption))|exact Ex.loadP Try.isAgg116 rfl|exact Ex.loadM Try.isAgg116 rfl|exact Ex.loadIn1 Try.isAgg116 rfl (Holds.to (by assumption))|exact Ex.loadVc Try.isAgg116 rfl|exact Ex.loadR Try.isAgg116 rfl|exact Ex.loadQ Try.isAgg116 rfl) rfl ?_
        refine O.ex (Ex.move rfl) rfl ?_
        refine O.ex (Ex.move rfl) rfl ?_
        refine O.callF Try.call101 rfl rfl (CT.mono (setF_ct (r:=br) (N:=n.toNat) (i:=o) (x:=id) (by omega) hoN (Holds.to (M:=RowF br n.toNat bf::_) (by assumption))) ?_)
        rintro _ w ⟨rfl,H⟩
        refine O.nil ?_
        first
        | (have hcl' : a.cl = true:=by simpa using hcl
           have e1 : rx1 s false r id = r:=by unfold rx1; rw [← ha,if_pos hcl']
           rw [e1]
           exact ⟨_,Holds.to (by assumption),fun w H=>.inl ⟨rfl,trivial,Holds.to (by assumption)⟩⟩)
        | (have hop' : ¬ a.cl = true:=by simpa using hop
           have e1 : rx1 s false r id = fun x=>if x = (o : Int) then min (r x) a.w else r x:=by unfold rx1; rw [← ha,if_neg hop',hoe]
           have hl : two d a.w < fr n c s0 (stN n c s0 j) b d r o:=hlt
           rw [hd] at hl
           obtain ⟨k0,k1,k2⟩:=fr_lt hG h1 hb hrd hwd hl
           rw [← hd] at k1 k2 hl
           obtain ⟨r',hr'⟩ : ∃ r' : Int → Int,r' = fun x=>if x = (o : Int) then min (r x) a.w else r x:=⟨_,rfl⟩
           have hput:=(step_lt hG h1 hb hrd hwd hoN (by rw [← hd,hFLg]; exact hl)).2
           rw [← hd] at hput
           rw [← hr'] at e1 k1 k2 hput
           rw [hput] at H
           rw [e1]
           have hrw : updN (fun w=>ov (fr n c s0 (stN n c s0 j) b d r w)) o (two d a.w) = fun w=>ov (fr n c s0 (stN n c s0 j) b d r' w):=by
             funext x
             unfold updN
             by_cases e : x = o
             · rw [if_pos e,e,k1]; exact (if_pos (by omega)).symm
             · rw [if_neg e,k2 x e]
           rw [hrw] at H
           have hby:=hbf.put (av':=fr n c s0 (stN n c s0 j) b d r') k0 m1 m2 (by rw [← ha]; simpa using hop) (by rw [← ha]; exact hoe.symm) (.inr (by rw [m3]; exact Int.toNat_natCast b)) (by rw [m3,← ha,← hc,← hd]; exact k1) k2
           have H:=sdB_open.2 ⟨_,hby,Holds.to (M:=RowF br n.toNat (updN bf o id)::_) H⟩
           exact ⟨_,Holds.to (by assumption),fun w H=>.inl ⟨rfl,trivial,Holds.to (by assumption)⟩⟩)
        | (have hop' : ¬ a.cl = true:=by simpa using hop
           have e1 : rx1 s false r id = fun x=>if x = (o : Int) then min (r x) a.w else r x:=by unfold rx1; rw [← ha,if_neg hop',hoe]
           have hl : ¬ two d a.w < fr n c s0 (stN n c s0 j) b d r o:=hge
           rw [hd] at hl
           have k2:=fr_ge hG hrd hwd hl
           have hHL:=(step_ge hG h1 hb hrd hwd hoN (by rw [← hd,hFLg,hd]; exact hl)).2
           rw [← hd] at k2 hHL
           obtain ⟨r',hr'⟩ : ∃ r' : Int → Int,r' = fun x=>if x = (o : Int) then min (r x) a.w else r x:=⟨_,rfl⟩
           rw [← hr'] at e1 k2 hHL
           have hfe : fr n c s0 (stN n c s0 j) b d r' = fr n c s0 (stN n c s0 j) b d r:=funext k2
           rw [hHL] at H
           rw [e1,hfe]
           exact ⟨_,Holds.to (by assumption),fun w H=>.inl ⟨rfl,trivial,Holds.to (by assumption)⟩⟩)
      · refine W.skip ?_
        first
        | (have hcl' : a.cl = true:=by simpa using hcl
           have e1 : rx1 s false r id = r:=by unfold rx1; rw [← ha,if_pos hcl']
           rw [e1]
           exact ⟨_,Holds.to (by assumption),fun w H=>.inl ⟨rfl,trivial,Holds.to (by assumption)⟩⟩)
        | (have hop' : ¬ a.cl = true:=by simpa using hop
           have e1 : rx1 s false r id = fun x=>if x = (o : Int) then min (r x) a.w else r x:=by unfold rx1; rw [← ha,if_neg hop',hoe]
           have hl : two d a.w < fr n c s0 (stN n c s0 j) b d r o:=hlt
           rw [hd] at hl
           obtain ⟨k0,k1,k2⟩:=fr_lt hG h1 hb hrd hwd hl
           rw [← hd] at k1 k2 hl
           obtain ⟨r',hr'⟩ : ∃ r' : Int → Int,r' = fun x=>if x = (o : Int) then min (r x) a.w else r x:=⟨_,rfl⟩
           have hput:=(step_lt hG h1 hb hrd hwd hoN (by rw [← hd,hFLg]; exact hl)).2
           rw [← hd] at hput
           rw [← hr'] at e1 k1 k2 hput
           rw [hput] at H
           rw [e1]
           have hrw : updN (fun w=>ov (fr n c s0 (stN n c s0 j) b d r w)) o (two d a.w) = fun w=>ov (fr n c s0 (stN n c s0 j) b d r' w):=by
             funext x
             unfold updN
             by_cases e : x = o
             · rw [if_pos e,e,k1]; exact (if_pos (by omega)).symm
             · rw [if_neg e,k2 x e]
           rw [hrw] at H
           have hby:=hbf.put (av':=fr n c s0 (stN n c s0 j) b d r') k0 m1 m2 (by rw [← ha]; simpa using hop) (by rw [← ha]; exact hoe.symm) (.inr (by rw [m3]; exact Int.toNat_natCast b)) (by rw [m3,← ha,← hc,← hd]; exact k1) k2
           have H:=sdB_open.2 ⟨_,hby,Holds.to (M:=RowF br n.toNat (updN bf o id)::_) H⟩
           exact ⟨_,Holds.to (by assumption),fun w H=>.inl ⟨rfl,trivial,Holds.to (by assumption)⟩⟩)
        | (have hop' : ¬ a.cl = true:=by simpa using hop
           have e1 : rx1 s false r id = fun x=>if x = (o : Int) then min (r x) a.w else r x:=by unfold rx1; rw [← ha,if_neg hop',hoe]
           have hl : ¬ two d a.w < fr n c s0 (stN n c s0 j) b d r o:=hge
           rw [hd] at hl
           have k2:=fr_ge hG hrd hwd hl
           have hHL:=(step_ge hG h1 hb hrd hwd hoN (by rw [← hd,hFLg,hd]; exact hl)).2
           rw [← hd] at k2 hHL
           obtain ⟨r',hr'⟩ : ∃ r' : Int → Int,r' = fun x=>if x = (o : Int) then min (r x) a.w else r x:=⟨_,rfl⟩
           rw [← hr'] at e1 k2 hHL
           have hfe : fr n c s0 (stN n c s0 j) b d r' = fr n c s0 (stN n c s0 j) b d r:=funext k2
           rw [hHL] at H
           rw [e1,hfe]
           exact ⟨_,Holds.to (by assumption),fun w H=>.inl ⟨rfl,trivial,Holds.to (by assumption)⟩⟩)
    · refine O.guard_f rfl rfl rfl rfl ?_
      refine O.guard_f rfl rfl rfl rfl ?_
      refine O.guard_f rfl rfl rfl rfl ?_
      refine O.guard_f rfl rfl rfl rfl ?_
      refine O.guard_f rfl rfl rfl rfl ?_
      refine O.ex (Ex.pick_f rfl rfl) rfl ?_
      refine O.nil ?_
      refine hK7 _ _ _ ?_
      refine W.cond_f rfl ?_
      refine W.skip ?_
      first
      | (have hcl' : a.cl = true:=by simpa using hcl
         have e1 : rx1 s false r id = r:=by unfold rx1; rw [← ha,if_pos hcl']
         rw [e1]
         exact ⟨_,Holds.to (by assumption),fun w H=>.inl ⟨rfl,trivial,Holds.to (by assumption)⟩⟩)
      | (have hop' : ¬ a.cl = true:=by simpa using hop
         have e1 : rx1 s false r id = fun x=>if x = (o : Int) then min (r x) a.w else r x:=by unfold rx1; rw [← ha,if_neg hop',hoe]
         have hl : two d a.w < fr n c s0 (stN n c s0 j) b d r o:=hlt
         rw [hd] at hl
         obtain ⟨k0,k1,k2⟩:=fr_lt hG h1 hb hrd hwd hl
         rw [← hd] at k1 k2 hl
         obtain ⟨r',hr'⟩ : ∃ r' : Int → Int,r' = fun x=>if x = (o : Int) then min (r x) a.w else r x:=⟨_,rfl⟩
         have hput:=(step_lt hG h1 hb hrd hwd hoN (by rw [← hd,hFLg]; exact hl)).2
         rw [← hd] at hput
         rw [← hr'] at e1 k1 k2 hput
         rw [hput] at H
         rw [e1]
         have hrw : updN (fun w=>ov (fr n c s0 (stN n c s0 j) b d r w)) o (two d a.w) = fun w=>ov (fr n c s0 (stN n c s0 j) b d r' w):=by
           funext x
           unfold updN
           by_cases e : x = o
           · rw [if_pos e,e,k1]; exact (if_pos (by omega)).symm
           · rw [if_neg e,k2 x e]
         rw [hrw] at H
         have hby:=hbf.put (av':=fr n c s0 (stN n c s0 j) b d r') k0 m1 m2 (by rw [← ha]; simpa using hop) (by rw [← ha]; exact hoe.symm) (.inr (by rw [m3]; exact Int.toNat_natCast b)) (by rw [m3,← ha,← hc,← hd]; exact k1) k2
         have H:=sdB_open.2 ⟨_,hby,Holds.to (M:=RowF br n.toNat (updN bf o id)::_) H⟩
         exact ⟨_,Holds.to (by assumption),fun w H=>.inl ⟨rfl,trivial,Holds.to (by assumption)⟩⟩)
      | (have hop' : ¬ a.cl = true:=by simpa using hop
         have e1 : rx1 s false r id = fun x=>if x = (o : Int) then min (r x) a.w else r x:=by unfold rx1; rw [← ha,if_neg hop',hoe]
         have hl : ¬ two d a.w < fr n c s0 (stN n c s0 j) b d r o:=hge
         rw [hd] at hl
         have k2:=fr_ge hG hrd hwd hl
         have hHL:=(step_ge hG h1 hb hrd hwd hoN (by rw [← hd,hFLg,hd]; exact hl)).2
         rw [← hd] at k2 hHL
         obtain ⟨r',hr'⟩ : ∃ r' : Int → Int,r' = fun x=>if x = (o : Int) then min (r x) a.w else r x:=⟨_,rfl⟩
         rw [← hr'] at e1 k2 hHL
         have hfe : fr n c s0 (stN n c s0 j) b d r' = fr n c s0 (stN n c s0 j) b d r:=funext k2
         rw [hHL] at H
         rw [e1,hfe]
         exact ⟨_,Holds.to (by assumption),fun w H=>.inl ⟨rfl,trivial,Holds.to (by assumption)⟩⟩)
  rintro _ w (⟨_,H⟩|⟨_,hf,_⟩)
  rotate_left
  · exact hf.elim
  refine rangeEnd (Holds.to (by assumption)) (by nofun) (fun w H=>?_)
  rw [List.take_length] at H
  refine hK2 _ _ _ ?_
  refine W.seq (fun K10 hK10=>?_)
  refine W.region ?_
  refine O.ex (Ex.move rfl) rfl ?_
  refine O.ex (Ex.assign rfl) rfl ?_
  refine O.nil ?_
  refine hK10 _ _ _ ?_
  refine W.ret ?_
  try dsimp only [thenQ,blockQ,retQ]
  first|refine ⟨_,⟨_,_,rfl,rfl,rfl⟩,?_⟩|(refine retD_mark ?_; intro w H; refine ⟨_,⟨_,_,rfl,rfl,rfl⟩,?_⟩)|(refine retD_mark2 ?_; intro w H; refine ⟨_,⟨_,_,rfl,rfl,rfl⟩,?_⟩)
  have hrr : ∀ x : Nat,x ≠ b → rx s false (outI s (b : Int)) x = c b x:=fun x hx=>by rw [hc]; exact rx_full hg false (by omega)
  have hfe : fr n c s0 (stN n c s0 j) b d (rx s false (outI s (b : Int))) = fq n c s0 (stN n c s0 (j + 1)):=by funext x; rw [hd]; exact fq_next hG h1 hb hrr x
  have hHe : HL n c (stN n c s0 j) b d (rx s false (outI s (b : Int))) = Wt.hpW n.toNat c s0 0 (stN n c s0 (j + 1)):=by rw [hd]; exact end_HL hG h1 hb hrr
  rw [hfe,hHe] at H
  obtain ⟨bf,hbf,H⟩:=sdB_open.1 (Holds.to (M:=SdB br n.toNat (ByOk n s false s0 (fq n c s0 (stN n c s0 (j + 1))) (fun w=>Wt.isIn (stN n c s0 j) w ∨ w = b))::_) H)
  have H:=sdB_open.2 ⟨bf,hbf.congr (fun w _=>rfl) (fun w k=>(isIn_next hG h1 hb w).2 k),H⟩
  have H:=gh_open.2 ⟨ab,cap,es,Holds.to (M:=GO g ab cap es n most s::_) H⟩
  rw [hc] at H
  exact ⟨rfl,sd_open.2 (Holds.to (by assumption))⟩
/-- Where a side goes on to from a vertex. -/
theorem endsout_ct {w : World} {p hh fw br g : Nat} {n most v : Int} {s : St} {L : List HProp} (hg : GOk n most s) (H : Holds w (pcS p hh fw br false::Gh g n most s::L)) :
    CT Try.prog 82 [.pointer (some ⟨g,0,none⟩),.pointer (some ⟨p,0,none⟩),.int .i64 v] w fun u w'=>u.oneCell' = true ∧ Holds w' (arr 3 (Value.int .i64) u ((outI s v).map fun id=>oth (arcQ s id) false)::pcS p hh fw br false::Gh g n most s::L):=by
  have hll : (outI s v).length ≤ 64:=lstP_len _
  refine CT.enter (N:=29) Try.func82 rfl rfl rfl rfl ?_
  refine W.seq (fun K0 hK0=>?_)
  refine W.region ?_
  refine O.boxP rfl (fun b3 w H=>?_)
  refine O.boxP rfl (fun b4 w H=>?_)
  refine O.ex (Ex.assign rfl) rfl ?_
  refine O.nil ?_
  refine hK0 _ _ _ ?_
  refine W.seq (fun K1 hK1=>?_)
  refine W.region ?_
  refine O.allocP Try.zeroValue28 (fun b7 w H=>?_)
  refine O.nil ?_
  refine hK1 _ _ _ ?_
  refine W.seq (fun K2 hK2=>?_)
  refine W.seq (fun K3 hK3=>?_)
  refine W.region ?_
  refine O.ex (by first|exact Ex.loadP Try.isAgg81 rfl|exact Ex.loadQ Try.isAgg81 rfl|exact Ex.loadMh Try.isAgg81 rfl|exact Ex.loadR Try.isAgg81 rfl|exact Ex.loadInF Try.isAgg81 rfl (Holds.to (by assumption))|exact Ex.loadIn1 Try.isAgg81 rfl (Holds.to (by assumption))|exact Ex.loadM Try.isAgg81 rfl|exact Ex.loadVc Try.isAgg81 rfl) rfl ?_
  refine O.ex (by first|exact Ex.loadP Try.isAgg24 rfl|exact Ex.loadQ Try.isAgg24 rfl|exact Ex.loadMh Try.isAgg24 rfl|exact Ex.loadR Try.isAgg24 rfl|exact Ex.loadInF Try.isAgg24 rfl (Holds.to (by assumption))|exact Ex.loadIn1 Try.isAgg24 rfl (Holds.to (by assumption))|exact Ex.loadM Try.isAgg24 rfl|exact Ex.loadVc Try.isAgg24 rfl) rfl ?_
  refine O.ex (Ex.move rfl) rfl ?_
  refine O.callF Try.call102 rfl rfl (CT.mono (sarcsout_ct (p:=p) (hh:=hh) (fr:=fw) (br:=br) (g:=g) (v:=v) (Holds.to (by assumption))) ?_)
  rintro _ w ⟨c2,c3,rfl,H⟩
  refine O.nil ?_
  refine hK3 _ _ _ ?_
  refine W.block ?_
  have H:=arr_nil (T:=3) (e:=Value.int .i64) H
  have H:=outC_open.2 ⟨_,Holds.to (M:=pt b7 (.cells #[.slice none 0 0] 28 (0,0))::arr 3 (Value.int .i64) (.slice none 0 0) (((outI s v).take 0).map fun id=>oth (arcQ s id) false)::_) H⟩
  obtain ⟨ab,cap,es,HG⟩:=gh_open.1 (Holds.to (M:=Gh g n most s::capO c2 c3 g v::pt b3 (.cells #[.pointer (some ⟨g,0,none⟩)] 24 (0,0))::pt b4 (.cells #[.pointer (some ⟨p,0,none⟩)] 81 (0,0))::OutC b7 (((outI s v).take 0).map fun id=>oth (arcQ s id) false)::pcS p hh fw br false::L) H)
  replace H : Holds w (GO g ab cap es n most s::capO c2 c3 g v::(pt b3 (.cells #[.pointer (some ⟨g,0,none⟩)] 24 (0,0))::pt b4 (.cells #[.pointer (some ⟨p,0,none⟩)] 81 (0,0))::OutC b7 (((outI s v).take 0).map fun id=>oth (arcQ s id) false)::pcS p hh fw br false::L)):=HG
  clear HG
  refine W.rangeFunc rfl Try.call73 H ?_
  rintro LR kk D w hLR H
  refine CT.mono (gout1_ct (κ:=Unit) (σ:=fun _=>False) (SL:=fun _=>[]) (J:=fun i=>LR .ready none::dblk D::pt b3 (.cells #[.pointer (some ⟨g,0,none⟩)] 24 (0,0))::pt b4 (.cells #[.pointer (some ⟨p,0,none⟩)] 81 (0,0))::OutC b7 (((outI s v).take i).map fun id=>oth (arcQ s id) false)::pcS p hh fw br false::L) (φ:=fun _=>True) hg trivial (Holds.to (by assumption)) ?_) ?_
  · intro Fr i w hi _ H
    obtain ⟨id,hid⟩ : ∃ id,id = (outI s v).getD i default:=⟨_,rfl⟩
    rw [← hid]
    obtain ⟨a,hqa⟩ : ∃ a,a = arcQ s id:=⟨_,rfl⟩
    obtain ⟨xs,hxs⟩ : ∃ xs,xs = ((outI s v).take i).map fun id=>oth (arcQ s id) false:=⟨_,rfl⟩
    have hxl : xs.length ≤ 64:=by rw [hxs,List.length_map,List.length_take]; omega
    have hxn : (((outI s v).take (i + 1)).map fun id=>oth (arcQ s id) false) = xs ++ [oth a false]:=by rw [take_getI hi,List.map_append,← hxs,← hid,hqa]; rfl
    rw [← hxs] at H
    rw [hxn]
    refine VT.round hLR (Holds.to (by assumption)) rfl rfl ?_
    refine W.region ?_
    refine O.ex (Ex.assign rfl) rfl ?_
    refine O.nil ?_
    refine ⟨_,Holds.to (by assumption),fun w H=>?_⟩
    refine W.block ?_
    refine W.seq (fun K4 hK4=>?_)
    refine W.region ?_
    refine O.ex (by first|exact Ex.loadP Try.isAgg24 rfl|exact Ex.loadQ Try.isAgg24 rfl|exact Ex.loadMh Try.isAgg24 rfl|exact Ex.loadR Try.isAgg24 rfl|exact Ex.loadInF Try.isAgg24 rfl (Holds.to (by assumption))|exact Ex.loadIn1 Try.isAgg24 rfl (Holds.to (by assumption))|exact Ex.loadM Try.isAgg24 rfl|exact Ex.loadVc Try.isAgg24 rfl) rfl ?_
    refine O.ex (Ex.move rfl) rfl ?_
    refine O.callF Try.call40 rfl rfl (CT.mono (goarc_ct (g:=g) (ab:=ab) (cap:=cap) (es:=es) (Holds.to (by assumption))) ?_)
    rintro _ w ⟨rfl,H⟩
    rw [← hqa]
    refine O.ex (Ex.move rfl) rfl ?_
    refine O.ex (Ex.extract rfl rfl) rfl ?_
    refine O.ex (Ex.extract rfl rfl) rfl ?_
    refine O.allocP Try.zeroValue42 (fun b9 w H=>?_)
    first|refine O.storeAggP Try.sizeOf42 rfl rfl rfl rfl (fun w H=>?_)|refine O.storeAggN Try.sizeOf42 rfl rfl rfl (fun w H=>?_) rfl
    obtain ⟨ov,H⟩:=outC_open.1 (Holds.to (M:=OutC b7 xs::pt b9 (.cells #[.int .i64 a.t,.int .i64 a.h,.int .i64 a.w,.bool a.cl] 42 (0,0))::LR .busy none::pt b3 (.cells #[.pointer (some ⟨g,0,none⟩)] 24 (0,0))::pt b4 (.cells #[.pointer (some ⟨p,0,none⟩)] 81 (0,0))::pcS p hh fw br false::Fr::GO g ab cap es n most s::capO c2 c3 g v::dblk D::L) H)
    replace H : Holds w (pt b7 (.cells #[ov] 28 (0,0))::pt b9 (.cells #[.int .i64 a.t,.int .i64 a.h,.int .i64 a.w,.bool a.cl] 42 (0,0))::pt b4 (.cells #[.pointer (some ⟨p,0,none⟩)] 81 (0,0))::arr 3 (Value.int .i64) ov xs::LR .busy none::pt b3 (.cells #[.pointer (some ⟨g,0,none⟩)] 24 (0,0))::pcS p hh fw br false::Fr::GO g ab cap es n most s::capO c2 c3 g v::dblk D::L):=Holds.to H
    have hov:=arr_one (Holds.to (M:=arr 3 (Value.int .i64) ov xs::[]) H)
    refine O.ex (Ex.assign rfl) rfl ?_
    refine O.nil ?_
    refine hK4 _ _ _ ?_
    refine W.drawTo (pt b7 (.cells #[ov] 28 (0,0))::pt b4 (.cells #[.pointer (some ⟨p,0,none⟩)] 81 (0,0))::pt b9 (.cells #[.int .i64 a.t,.int .i64 a.h,.int .i64 a.w,.bool a.cl] 42 (0,0))::[]) (.take 0 (.take 1 (.take 2 (.one 3 (.one 4 (.one 5 (.one 6 .nil))))))) (mixed) (fun _ _ _ _ h=>h) (by assumption) PP.auto (by decide +kernel) (fun w H=>?_)
    refine OQ.ex rfl (fun w H=>(Ex.cast (v:=ov) (Ex.loadP Try.isAgg28 rfl) rfl)) rfl ?_
    refine OQ.ex rfl (fun w H=>(by first|exact Ex.loadP Try.isAgg81 rfl|exact Ex.loadQ Try.isAgg81 rfl|exact Ex.loadMh Try.isAgg81 rfl|exact Ex.loadR Try.isAgg81 rfl|exact Ex.loadInF Try.isAgg81 rfl (Holds.to (by assumption))|exact Ex.loadIn1 Try.isAgg81 rfl (Holds.to (by assumption))|exact Ex.loadM Try.isAgg81 rfl|exact Ex.loadVc Try.isAgg81 rfl)) rfl ?_
    refine OQ.ex rfl (fun w H=>(Ex.cast (v:=a.val) (Ex.loadAggP (bl:=b9) (off:=0) Try.isAgg42 Try.sizeOf42 rfl) rfl)) rfl ?_
    refine OQ.step rfl ?_
    refine O.callF Try.call103 rfl rfl (CT.mono (sto_ct (p:=p) (hh:=hh) (fr:=fw) (br:=br) (b:=false) (a:=a) (Holds.to (by assumption))) ?_)
    rintro _ w ⟨rfl,H⟩
    refine O.thenNil ⟨(by first|exact Holds.to (by assumption)|assumption),?_⟩
    refine OQ.step rfl ?_
    refine O.build1 (e:=Value.int .i64) Try.runUnderlying28 Try.sizeOf3 Try.zeroValue3 rfl (fun v26 w hv26 H=>?_)
    refine O.thenNil ⟨(by first|exact Holds.to (by assumption)|assumption),?_⟩
    refine OQ.step rfl ?_
    refine O.appendR Try.runUnderlying28 Try.typeInfo3 (bt:=8) rfl Try.sizeOf3 Try.zeroValue3 rfl rfl (fun v27 w hv27 H=>?_)
    refine O.thenNil ⟨(by first|exact Holds.to (by assumption)|assumption),?_⟩
    refine OQ.last rfl (by decide +kernel) ?_
    first|refine O.storeP Try.sizeOf28 rfl rfl (fun w H=>?_)|refine O.storeR Try.sizeOf28 rfl rfl (fun w H=>?_)|refine O.storeM Try.sizeOf28 rfl rfl (fun w H=>?_)|refine O.storeVc Try.sizeOf28 rfl rfl (fun w H=>?_)|refine O.storeQ Try.sizeOf28 rfl rfl (fun w H=>?_)
    refine O.nil ?_
    have H:=outC_open.2 ⟨_,Holds.to (M:=pt b7 (.cells #[v27] 28 (0,0))::arr 3 (Value.int .i64) v27 (xs ++ [oth a false])::_) H⟩
    exact ⟨_,Holds.to (by assumption),fun w H=>.inl ⟨rfl,trivial,Holds.to (by assumption)⟩⟩
  rintro _ w (⟨_,H⟩|⟨_,hf,_⟩)
  rotate_left
  · exact hf.elim
  refine rangeEnd (Holds.to (by assumption)) (by nofun) (fun w H=>?_)
  rw [List.take_length] at H
  have H:=gh_open.2 ⟨ab,cap,es,Holds.to (M:=GO g ab cap es n most s::_) H⟩
  obtain ⟨ov,H⟩:=outC_open.1 (Holds.to (M:=OutC b7 ((outI s v).map fun id=>oth (arcQ s id) false)::_) H)
  refine hK2 _ _ _ ?_
  refine W.seq (fun K5 hK5=>?_)
  refine W.region ?_
  refine O.ex (v:=ov) (Ex.loadP Try.isAgg28 rfl) rfl ?_
  refine O.ex (Ex.assign rfl) rfl ?_
  refine O.nil ?_
  refine hK5 _ _ _ ?_
  refine W.ret ?_
  try dsimp only [thenQ,blockQ,retQ]
  first|refine ⟨_,⟨_,_,rfl,rfl,rfl⟩,?_⟩|(refine retD_mark ?_; intro w H; refine ⟨_,⟨_,_,rfl,rfl,rfl⟩,?_⟩)|(refine retD_mark2 ?_; intro w H; refine ⟨_,⟨_,_,rfl,rfl,rfl⟩,?_⟩)
  have hov:=arr_one (Holds.to (M:=arr 3 (Value.int .i64) ov _::[]) H)
  exact ⟨hov,Holds.to (by assumption)⟩
set_option maxHeartbeats 4000000 in
theorem stepin_ct {w : World} {p hh fw br g s0 j b : Nat} {n most : Int} {s : St} {L : List HProp} (hg : GOk n most s) (h1 : s0 < n.toNat) (hb : Wt.nx n.toNat (cD s true) s0 0 (stN n (cD s true) s0 j) = some b) (H : Holds w (Sd p hh fw br n s true s0 j::Gh g n most s::L)) :
    CT Try.prog 81 [.pointer (some ⟨p,0,none⟩),.pointer (some ⟨g,0,none⟩)] w fun u w'=>u = .int .i64 (b : Int) ∧ Holds w' (Sd p hh fw br n s true s0 (j + 1)::Gh g n most s::L):=by
  have n1:=hg.n1
  have n2:=hg.n2
  have H:=sd_open.1 H
  obtain ⟨c,hc⟩ : ∃ c,c = cD s true:=⟨_,rfl⟩
  have hG : Good n c:=hc ▸ cD_good hg true
  rw [show Far n s true s0 j = fq n c s0 (stN n c s0 j) from by rw [hc]] at H
  rw [← hc] at hb H
  obtain ⟨hbN,hbP,hbw,hbd,hbp,hbl⟩:=Wt.nx_spec hb
  have hfar:=nx_far hG h1 hb
  obtain ⟨d,hd⟩ : ∃ d,d = far n c s0 b:=⟨_,rfl⟩
  have hdd : Dst d:=hd ▸ fw_dst hG n.toNat s0 b
  have hbs : pkO RI (Wt.hpW n.toNat c s0 0 (stN n c s0 j)) = true ∧ pkN RI (Wt.hpW n.toNat c s0 0 (stN n c s0 j)) = b ∧ pkP RI (Wt.hpW n.toNat c s0 0 (stN n c s0 j)) = d ∧ popL RI (Wt.hpW n.toNat c s0 0 (stN n c s0 j)) = HL n c (stN n c s0 j) b d (fun _=>4611686018427387906):=by
    have e : bs RI (Wt.hpW n.toNat c s0 0 (stN n c s0 j)) = some b:=hb
    unfold pkO pkN pkP popL
    rw [e]
    refine ⟨rfl,rfl,?_,?_⟩
    · rw [hd,← hfar]; exact hbp
    · rw [hd]; exact start_HL hG h1 hb
  have hrow : (fun w=>ov (fq n c s0 (stN n c s0 j) w)) = fun w=>ov (fr n c s0 (stN n c s0 j) b d (rx s true ((inI s (b : Int)).take 0)) w):=by
    funext w; rw [fq_FL hG h1 hb w,hd]; rfl
  refine CT.enter (N:=73) Try.func81 rfl rfl rfl rfl ?_
  refine W.seq (fun K0 hK0=>?_)
  refine W.region ?_
  refine O.boxP rfl (fun b2 w H=>?_)
  refine O.boxP rfl (fun b3 w H=>?_)
  refine O.ex (Ex.assign rfl) rfl ?_
  refine O.nil ?_
  refine hK0 _ _ _ ?_
  refine W.seq (fun K1 hK1=>?_)
  refine W.region ?_
  refine O.ex (by first|exact Ex.loadP Try.isAgg81 rfl|exact Ex.loadQ Try.isAgg81 rfl|exact Ex.loadMh Try.isAgg81 rfl|exact Ex.loadR Try.isAgg81 rfl|exact Ex.loadInF Try.isAgg81 rfl (Holds.to (by assumption))|exact Ex.loadIn1 Try.isAgg81 rfl (Holds.to (by assumption))|exact Ex.loadM Try.isAgg81 rfl|exact Ex.loadVc Try.isAgg81 rfl) rfl ?_
  refine O.ex (by first|exact Ex.nilPtr rfl|exact Ex.nilFunc rfl|exact Ex.nilYield rfl) rfl ?_
  refine O.ex (by first|exact Ex.field0 fld118_0 rfl|exact Ex.field fld118_0 rfl|exact Ex.fieldS fld118_0 rfl|exact Ex.fieldIn fld118_0 rfl) rfl ?_
  refine O.ex (by first|exact Ex.loadMh Try.isAgg99 rfl|exact Ex.loadInF Try.isAgg99 rfl (Holds.to (by assumption))|exact Ex.loadP Try.isAgg99 rfl|exact Ex.loadM Try.isAgg99 rfl|exact Ex.loadIn1 Try.isAgg99 rfl (Holds.to (by assumption))|exact Ex.loadVc Try.isAgg99 rfl|exact Ex.loadR Try.isAgg99 rfl|exact Ex.loadQ Try.isAgg99 rfl) rfl ?_
  refine O.callF Try.call70 rfl rfl (CT.mono (popI1_ct (Holds.to (by assumption))) ?_)
  rintro _ w ⟨rfl,H⟩
  rw [hbs.1,hbs.2.1,hbs.2.2.1]
  rw [hbs.2.2.2] at H
  refine O.ex (Ex.move rfl) rfl ?_
  refine O.ex (Ex.extract rfl rfl) rfl ?_
  refine O.ex (Ex.extract rfl rfl) rfl ?_
  refine O.ex (Ex.extract rfl rfl) rfl ?_
  refine O.allocP Try.zeroValue3 (fun b6 w H=>?_)
  refine O.ex (Ex.assign rfl) rfl ?_
  first|refine O.storeP Try.sizeOf3 rfl rfl (fun w H=>?_)|refine O.storeR Try.sizeOf3 rfl rfl (fun w H=>?_)|refine O.storeM Try.sizeOf3 rfl rfl (fun w H=>?_)|refine O.storeVc Try.sizeOf3 rfl rfl (fun w H=>?_)|refine O.storeQ Try.sizeOf3 rfl rfl (fun w H=>?_)
  refine O.ex (Ex.assign rfl) rfl ?_
  refine O.nil ?_
  refine hK1 _ _ _ ?_
  refine W.seq (fun K2 hK2=>?_)
  refine W.seq (fun K3 hK3=>?_)
  refine W.region ?_
  refine O.ex (by first|exact Ex.loadP Try.isAgg81 rfl|exact Ex.loadQ Try.isAgg81 rfl|exact Ex.loadMh Try.isAgg81 rfl|exact Ex.loadR Try.isAgg81 rfl|exact Ex.loadInF Try.isAgg81 rfl (Holds.to (by assumption))|exact Ex.loadIn1 Try.isAgg81 rfl (Holds.to (by assumption))|exact Ex.loadM Try.isAgg81 rfl|exact Ex.loadVc Try.isAgg81 rfl) rfl ?_
  refine O.ex (by first|exact Ex.loadP Try.isAgg24 rfl|exact Ex.loadQ Try.isAgg24 rfl|exact Ex.loadMh Try.isAgg24 rfl|exact Ex.loadR Try.isAgg24 rfl|exact Ex.loadInF Try.isAgg24 rfl (Holds.to (by assumption))|exact Ex.loadIn1 Try.isAgg24 rfl (Holds.to (by assumption))|exact Ex.loadM Try.isAgg24 rfl|exact Ex.loadVc Try.isAgg24 rfl) rfl ?_
  refine O.ex (Ex.move rfl) rfl ?_
  refine O.callF Try.call102 rfl rfl (CT.mono (sarcsin_ct (p:=p) (hh:=hh) (fr:=fw) (br:=br) (g:=g) (v:=(b : Int)) (Holds.to (by assumption))) ?_)
  rintro _ w ⟨c2,c3,rfl,H⟩
  refine O.nil ?_
  refine hK3 _ _ _ ?_
  refine W.block ?_
  obtain ⟨f0,hf0,H⟩:=sdB_open.1 (Holds.to (M:=SdB br n.toNat (ByOk n s true s0 (fq n c s0 (stN n c s0 j)) (fun w=>Wt.isIn (stN n c s0 j) w))::_) H)
  rw [hrow] at H
  have hf1 : ByOk n s true s0 (fr n c s0 (stN n c s0 j) b d (rx s true ((inI s (b : Int)).take 0))) (fun w=>Wt.isIn (stN n c s0 j) w ∨ w = b) f0:=hf0.congr (fun w _=>by rw [fq_FL hG h1 hb w,hd]; rfl) (fun w=>Or.inl)
  have H:=sdB_open.2 ⟨f0,hf1,H⟩
  obtain ⟨ab,cap,es,HG⟩:=gh_open.1 (Holds.to (M:=Gh g n most s::capO c2 c3 g (b : Int)::pt b2 (.cells #[.pointer (some ⟨p,0,none⟩)] 81 (0,0))::pt b3 (.cells #[.pointer (some ⟨g,0,none⟩)] 24 (0,0))::pt b6 (.cells #[.int .i64 d] 3 (0,0))::pcS p hh fw br true::HqI hh (HL n c (stN n c s0 j) b d (rx s true ((inI s (b : Int)).take 0)))::RowF fw n.toNat (fun w=>ov (fr n c s0 (stN n c s0 j) b d (rx s true ((inI s (b : Int)).take 0)) w))::SdB br n.toNat (ByOk n s true s0 (fr n c s0 (stN n c s0 j) b d (rx s true ((inI s (b : Int)).take 0))) (fun w=>Wt.isIn (stN n c s0 j) w ∨ w = b))::L) H)
  replace H : Holds w (GO g ab cap es n most s::capO c2 c3 g (b : Int)::(pt b2 (.cells #[.pointer (some ⟨p,0,none⟩)] 81 (0,0))::pt b3 (.cells #[.pointer (some ⟨g,0,none⟩)] 24 (0,0))::pt b6 (.cells #[.int .i64 d] 3 (0,0))::pcS p hh fw br true::HqI hh (HL n c (stN n c s0 j) b d (rx s true ((inI s (b : Int)).take 0)))::RowF fw n.toNat (fun w=>ov (fr n c s0 (stN n c s0 j) b d (rx s true ((inI s (b : Int)).take 0)) w))::SdB br n.toNat (ByOk n s true s0 (fr n c s0 (stN n c s0 j) b d (rx s true ((inI s (b : Int)).take 0))) (fun w=>Wt.isIn (stN n c s0 j) w ∨ w = b))::L)):=HG
  clear HG
  refine W.rangeFunc rfl Try.call77 H ?_
  rintro LR kk D w hLR H
  refine CT.mono (gin1_ct (κ:=Unit) (σ:=fun _=>False) (SL:=fun _=>[]) (J:=fun i=>LR .ready none::dblk D::pt b2 (.cells #[.pointer (some ⟨p,0,none⟩)] 81 (0,0))::pt b3 (.cells #[.pointer (some ⟨g,0,none⟩)] 24 (0,0))::pt b6 (.cells #[.int .i64 d] 3 (0,0))::pcS p hh fw br true::HqI hh (HL n c (stN n c s0 j) b d (rx s true ((inI s (b : Int)).take i)))::RowF fw n.toNat (fun w=>ov (fr n c s0 (stN n c s0 j) b d (rx s true ((inI s (b : Int)).take i)) w))::SdB br n.toNat (ByOk n s true s0 (fr n c s0 (stN n c s0 j) b d (rx s true ((inI s (b : Int)).take i))) (fun w=>Wt.isIn (stN n c s0 j) w ∨ w = b))::L) (φ:=fun _=>True) hg trivial (Holds.to (by assumption)) ?_) ?_
  · intro Fr i w hi _ H
    have hmem:=getI_mem hi
    obtain ⟨id,hid⟩ : ∃ id,id = (inI s (b : Int)).getD i default:=⟨_,rfl⟩
    rw [← hid] at hmem ⊢
    obtain ⟨m1,m2,m3⟩:=(mem_arcsI (b:=true) (v:=(b : Int))).1 (show id ∈ arcsI s true (b : Int) from hmem)
    obtain ⟨a,ha⟩ : ∃ a,a = (s id.toNat).a:=⟨_,rfl⟩
    have hqa : arcQ s id = a:=by rw [ha]; exact if_pos m1
    obtain ⟨ho,hwt⟩:=hg.arc _ m2
    rw [← ha] at ho hwt
    obtain ⟨o,hoe,hoN⟩ : ∃ o : Nat,(o : Int) = oth a true ∧ o < n.toNat:=⟨(oth a true).toNat,by unfold oth; simp; omega,by unfold oth; simp; omega⟩
    have hwd : Dst a.w:=⟨by omega,by omega⟩
    obtain ⟨r,hr⟩ : ∃ r,r = rx s true ((inI s (b : Int)).take i):=⟨_,rfl⟩
    have hrd : ∀ x,Dst (r x):=fun x=>by
      rw [hr]
      exact rx_dst hg true (fun i hi=>((mem_arcsI (b:=true) (v:=(b : Int))).1 (show i ∈ arcsI s true (b : Int) from List.mem_of_mem_take hi)).2.1) x
    have hrn : rx s true ((inI s (b : Int)).take (i + 1)) = rx1 s true r id:=by rw [take_getI hi,rx_snoc,← hr,← hid]
    rw [← hr] at H
    rw [hrn]
    have hFh : fr n c s0 (stN n c s0 j) b d r o ≤ 4611686018427387906:=fr_hi hG o
    have hFLg : (FL n c s0 (stN n c s0 j) b d r).getD o default = fr n c s0 (stN n c s0 j) b d r o:=nrg_get hoN
    refine VT.round hLR (Holds.to (by assumption)) rfl rfl ?_
    refine W.region ?_
    refine O.ex (Ex.assign rfl) rfl ?_
    refine O.nil ?_
    refine ⟨_,Holds.to (by assumption),fun w H=>?_⟩
    refine W.block ?_
    refine W.seq (fun K4 hK4=>?_)
    refine W.region ?_
    refine O.ex (by first|exact Ex.loadP Try.isAgg24 rfl|exact Ex.loadQ Try.isAgg24 rfl|exact Ex.loadMh Try.isAgg24 rfl|exact Ex.loadR Try.isAgg24 rfl|exact Ex.loadInF Try.isAgg24 rfl (Holds.to (by assumption))|exact Ex.loadIn1 Try.isAgg24 rfl (Holds.to (by assumption))|exact Ex.loadM Try.isAgg24 rfl|exact Ex.loadVc Try.isAgg24 rfl) rfl ?_
    refine O.ex (Ex.move rfl) rfl ?_
    refine O.callF Try.call40 rfl rfl (CT.mono (goarc_ct (g:=g) (ab:=ab) (cap:=cap) (es:=es) (Holds.to (by assumption))) ?_)
    rintro _ w ⟨rfl,H⟩
    rw [hqa]
    refine O.ex (Ex.move rfl) rfl ?_
    refine O.ex (Ex.extract rfl rfl) rfl ?_
    refine O.ex (Ex.extract rfl rfl) rfl ?_
    refine O.allocP Try.zeroValue42 (fun b9 w H=>?_)
    first|refine O.storeAggP Try.sizeOf42 rfl rfl rfl rfl (fun w H=>?_)|refine O.storeAggN Try.sizeOf42 rfl rfl rfl (fun w H=>?_) rfl
    replace H : Holds w (pt b9 (.cells #[.int .i64 a.t,.int .i64 a.h,.int .i64 a.w,.bool a.cl] 42 (0,0))::LR .busy none::pt b2 (.cells #[.pointer (some ⟨p,0,none⟩)] 81 (0,0))::pt b3 (.cells #[.pointer (some ⟨g,0,none⟩)] 24 (0,0))::pt b6 (.cells #[.int .i64 d] 3 (0,0))::pcS p hh fw br true::HqI hh (HL n c (stN n c s0 j) b d r)::RowF fw n.toNat (fun w=>ov (fr n c s0 (stN n c s0 j) b d r w))::SdB br n.toNat (ByOk n s true s0 (fr n c s0 (stN n c s0 j) b d r) (fun w=>Wt.isIn (stN n c s0 j) w ∨ w = b))::Fr::GO g ab cap es n most s::capO c2 c3 g (b : Int)::dblk D::L):=Holds.to H
    refine O.ex (Ex.assign rfl) rfl ?_
    refine O.nil ?_
    refine hK4 _ _ _ ?_
    refine W.seq (fun K5 hK5=>?_)
    refine W.region ?_
    refine O.ex (by first|exact Ex.loadP Try.isAgg3 rfl|exact Ex.loadQ Try.isAgg3 rfl|exact Ex.loadMh Try.isAgg3 rfl|exact Ex.loadR Try.isAgg3 rfl|exact Ex.loadInF Try.isAgg3 rfl (Holds.to (by assumption))|exact Ex.loadIn1 Try.isAgg3 rfl (Holds.to (by assumption))|exact Ex.loadM Try.isAgg3 rfl|exact Ex.loadVc Try.isAgg3 rfl) rfl ?_
    refine O.ex (by first|exact Ex.field0 fld42_2 rfl|exact Ex.field fld42_2 rfl|exact Ex.fieldS fld42_2 rfl|exact Ex.fieldIn fld42_2 rfl) rfl ?_
    refine O.ex (by first|exact Ex.loadMh Try.isAgg3 rfl|exact Ex.loadInF Try.isAgg3 rfl (Holds.to (by assumption))|exact Ex.loadP Try.isAgg3 rfl|exact Ex.loadM Try.isAgg3 rfl|exact Ex.loadIn1 Try.isAgg3 rfl (Holds.to (by assumption))|exact Ex.loadVc Try.isAgg3 rfl|exact Ex.loadR Try.isAgg3 rfl|exact Ex.loadQ Try.isAgg3 rfl) rfl ?_
    refine O.buildK (e:=Value.int .i64) (vs:=[(0,.int .i64 d),(1,.int .i64 a.w)]) [d,a.w] Try.runUnderlying28 Try.sizeOf3 Try.zeroValue3 rfl rfl rfl rfl rfl rfl (fun v66 w hv66 H=>?_)
    refine O.callF Try.call72 rfl rfl (CT.mono (add_ct (Holds.to (by assumption)) hdd hwd) ?_)
    rintro _ w ⟨rfl,H⟩
    refine O.ex (Ex.assign rfl) rfl ?_
    refine O.nil ?_
    refine hK5 _ _ _ ?_
    refine W.seq (fun K6 hK6=>?_)
    refine W.region ?_
    refine O.ex (by first|exact Ex.loadP Try.isAgg81 rfl|exact Ex.loadQ Try.isAgg81 rfl|exact Ex.loadMh Try.isAgg81 rfl|exact Ex.loadR Try.isAgg81 rfl|exact Ex.loadInF Try.isAgg81 rfl (Holds.to (by assumption))|exact Ex.loadIn1 Try.isAgg81 rfl (Holds.to (by assumption))|exact Ex.loadM Try.isAgg81 rfl|exact Ex.loadVc Try.isAgg81 rfl) rfl ?_
    refine O.ex (Ex.cast (v:=a.val) (Ex.loadAggP (bl:=b9) (off:=0) Try.isAgg42 Try.sizeOf42 rfl (Holds.to (M:=pt b9 (.cells #[.int .i64 a.t,.int .i64 a.h,.int .i64 a.w,.bool a.cl] 42 (0,0))::[]) H)) rfl) rfl ?_
    refine O.callF Try.call103 rfl rfl (CT.mono (sto_ct (p:=p) (hh:=hh) (fr:=fw) (br:=br) (b:=true) (a:=a) (Holds.to (by assumption))) ?_)
    rintro _ w ⟨rfl,H⟩
    rw [← hoe]
    refine O.ex (Ex.assign rfl) rfl ?_
    refine O.nil ?_
    refine hK6 _ _ _ ?_
    refine W.seq (fun K7 hK7=>?_)
    refine W.region ?_
    refine O.ex (by first|exact Ex.field0 fld42_3 rfl|exact Ex.field fld42_3 rfl|exact Ex.fieldS fld42_3 rfl|exact Ex.fieldIn fld42_3 rfl) rfl ?_
    refine O.ex (by first|exact Ex.loadMh Try.isAgg4 rfl|exact Ex.loadInF Try.isAgg4 rfl (Holds.to (by assumption))|exact Ex.loadP Try.isAgg4 rfl|exact Ex.loadM Try.isAgg4 rfl|exact Ex.loadIn1 Try.isAgg4 rfl (Holds.to (by assumption))|exact Ex.loadVc Try.isAgg4 rfl|exact Ex.loadR Try.isAgg4 rfl|exact Ex.loadQ Try.isAgg4 rfl) rfl ?_
    refine O.ex (by first|exact Ex.notD rfl|exact Ex.not rfl) rfl ?_
    refine O.ex (Ex.move rfl) rfl ?_
    first|refine O.split_p (t:=44) rfl (fun hop=>?_) (fun hcl=>?_)|refine O.split (t:=44) rfl (fun hop=>?_) (fun hcl=>?_)
    · refine O.guard_t rfl rfl ?_
      refine O.ex (Ex.move rfl) rfl ?_
      refine O.guard_t rfl rfl ?_
      refine O.ex (by first|exact Ex.loadP Try.isAgg81 rfl|exact Ex.loadQ Try.isAgg81 rfl|exact Ex.loadMh Try.isAgg81 rfl|exact Ex.loadR Try.isAgg81 rfl|exact Ex.loadInF Try.isAgg81 rfl (Holds.to (by assumption))|exact Ex.loadIn1 Try.isAgg81 rfl (Holds.to (by assumption))|exact Ex.loadM Try.isAgg81 rfl|exact Ex.loadVc Try.isAgg81 rfl) rfl ?_
      refine O.guard_t rfl rfl ?_
      refine O.ex (Ex.move rfl) rfl ?_
      refine O.guard_t rfl rfl ?_
      refine O.callF Try.call83 rfl rfl (CT.mono (sat_ct (p:=p) (hh:=hh) (fr:=fw) (br:=br) (b:=true) (N:=n.toNat) (v:=o) (F:=fr n c s0 (stN n c s0 j) b d r) hoN hFh (Holds.to (M:=pcS p hh fw br true::RowF fw n.toNat (fun w=>ov (fr n c s0 (stN n c s0 j) b d r w))::_) (by assumption))) ?_)
      rintro _ w ⟨rfl,H⟩
      refine O.guard_t rfl rfl ?_
      refine O.ex (Ex.lss rfl rfl) rfl ?_
      refine O.ex (Ex.pick_t rfl rfl) rfl ?_
      refine O.nil ?_
      refine hK7 _ _ _ ?_
      first|refine W.cond_p rfl (fun hlt=>?_) (fun hge=>?_)|refine W.cond_b rfl (fun hlt=>?_) (fun hge=>?_)
      · refine W.seq (fun K8 hK8=>?_)
        refine W.region ?_
        obtain ⟨bf,hbf,H⟩:=sdB_open.1 (Holds.to (M:=SdB br n.toNat (ByOk n s true s0 (fr n c s0 (stN n c s0 j) b d r) (fun w=>Wt.isIn (stN n c s0 j) w ∨ w = b))::_) H)
        refine O.ex (by first|exact Ex.loadP Try.isAgg81 rfl|exact Ex.loadQ Try.isAgg81 rfl|exact Ex.loadMh Try.isAgg81 rfl|exact Ex.loadR Try.isAgg81 rfl|exact Ex.loadInF Try.isAgg81 rfl (Holds.to (by assumption))|exact Ex.loadIn1 Try.isAgg81 rfl (Holds.to (by assumption))|exact Ex.loadM Try.isAgg81 rfl|exact Ex.loadVc Try.isAgg81 rfl) rfl ?_
        refine O.ex (by first|exact Ex.nilPtr rfl|exact Ex.nilFunc rfl|exact Ex.nilYield rfl) rfl ?_
        refine O.ex (by first|exact Ex.field0 fld118_0 rfl|exact Ex.field fld118_0 rfl|exact Ex.fieldS fld118_0 rfl|exact Ex.fieldIn fld118_0 rfl) rfl ?_
        refine O.ex (by first|exact Ex.loadMh Try.isAgg99 rfl|exact Ex.loadInF Try.isAgg99 rfl (Holds.to (by assumption))|exact Ex.loadP Try.isAgg99 rfl|exact Ex.loadM Try.isAgg99 rfl|exact Ex.loadIn1 Try.isAgg99 rfl (Holds.to (by assumption))|exact Ex.loadVc Try.isAgg99 rfl|exact Ex.loadR Try.isAgg99 rfl|exact Ex.loadQ Try.isAgg99 rfl) rfl ?_
        refine O.ex (Ex.move rfl) rfl ?_
        refine O.ex (Ex.move rfl) rfl ?_
        refine O.callF Try.call69 rfl rfl (CT.mono (putIH_ct (Holds.to (by assumption))) ?_)
        rintro _ w ⟨-,H⟩
        refine O.nil ?_
        refine hK8 _ _ _ ?_
        refine W.seq (fun K9 hK9=>?_)
        refine W.region ?_
        refine O.ex (by first|exact Ex.loadP Try.isAgg81 rfl|exact Ex.loadQ Try.isAgg81 rfl|exact Ex.loadMh Try.isAgg81 rfl|exact Ex.loadR Try.isAgg81 rfl|exact Ex.loadInF Try.isAgg81 rfl (Holds.to (by assumption))|exact Ex.loadIn1 Try.isAgg81 rfl (Holds.to (by assumption))|exact Ex.loadM Try.isAgg81 rfl|exact Ex.loadVc Try.isAgg81 rfl) rfl ?_
        refine O.ex (by first|exact Ex.nilPtr rfl|exact Ex.nilFunc rfl|exact Ex.nilYield rfl) rfl ?_
        refine O.ex (by first|exact Ex.field0 fld118_1 rfl|exact Ex.field fld118_1 rfl|exact Ex.fieldS fld118_1 rfl|exact Ex.fieldIn fld118_1 rfl) rfl ?_
        refine O.ex (by first|exact Ex.loadMh Try.isAgg116 rfl|exact Ex.loadInF Try.isAgg116 rfl (Holds.to (by assumption))|exact Ex.loadP Try.isAgg116 rfl|exact Ex.loadM Try.isAgg116 rfl|exact Ex.loadIn1 Try.isAgg116 rfl (Holds.to (by assumption))|exact Ex.loadVc Try.isAgg116 rfl|exact Ex.loadR Try.isAgg116 rfl|exact Ex.loadQ Try.isAgg116 rfl) rfl ?_
        refine O.ex (Ex.move rfl) rfl ?_
        refine O.ex (Ex.move rfl) rfl ?_
        refine O.callF Try.call101 rfl rfl (CT.mono (setF_ct (r:=fw) (N:=n.toNat) (i:=o) (x:=two d a.w) (by omega) hoN (Holds.to (M:=RowF fw n.toNat (fun w=>ov (fr n c s0 (stN n c s0 j) b d r w))::_) (by assumption))) ?_)
        rintro _ w ⟨rfl,H⟩
        refine O.nil ?_
        refine hK9 _ _ _ ?_
        refine W.region ?_
        refine O.ex (by first|exact Ex.loadP Try.isAgg81 rfl|exact Ex.loadQ Try.isAgg81 rfl|exact Ex.loadMh Try.isAgg81 rfl|exact Ex.loadR Try.isAgg81 rfl|exact Ex.loadInF Try.isAgg81 rfl (Holds.to (by assumption))|exact Ex.loadIn1 Try.isAgg81 rfl (Holds.to (by assumption))|exact Ex.loadM Try.isAgg81 rfl|exact Ex.loadVc Try.isAgg81 rfl) rfl ?_
        refine O.ex (by first|exact Ex.nilPtr rfl|exact Ex.nilFunc rfl|exact Ex.nilYield rfl) rfl ?_
        refine O.ex (by first|exact Ex.field0 fld118_2 rfl|exact Ex.field fld118_2 rfl|exact Ex.fieldS fld118_2 rfl|exact Ex.fieldIn fld118_2 rfl) rfl ?_
        refine O.ex (by first|exact Ex.loadMh Try.isAgg116 rfl|exact Ex.loadInF Try.isAgg116 rfl (Holds.to (by assumption))|exact Ex.loadP Try.isAgg116 rfl|exact Ex.loadM Try.isAgg116 rfl|exact Ex.loadIn1 Try.isAgg116 rfl (Holds.to (by assumption))|exact Ex.loadVc Try.isAgg116 rfl|exact Ex.loadR Try.isAgg116 rfl|exact Ex.loadQ Try.isAgg116 rfl) rfl ?_
        refine O.ex (Ex.move rfl) rfl ?_
        refine O.ex (Ex.move rfl) rfl ?_
        refine O.callF Try.call101 rfl rfl (CT.mono (setF_ct (r:=br) (N:=n.toNat) (i:=o) (x:=id) (by omega) hoN (Holds.to (M:=RowF br n.toNat bf::_) (by assumption))) ?_)
        rintro _ w ⟨rfl,H⟩
        refine O.nil ?_
        first
        | (have hcl' : a.cl = true:=by simpa using hcl
           have e1 : rx1 s true r id = r:=by unfold rx1; rw [← ha,if_pos hcl']
           rw [e1]
           exact ⟨_,Holds.to (by assumption),fun w H=>.inl ⟨rfl,trivial,Holds.to (by assumption)⟩⟩)
        | (have hop' : ¬ a.cl = true:=by simpa using hop
           have e1 : rx1 s true r id = fun x=>if x = (o : Int) then min (r x) a.w else r x:=by unfold rx1; rw [← ha,if_neg hop',hoe]
           have hl : two d a.w < fr n c s0 (stN n c s0 j) b d r o:=hlt
           rw [hd] at hl
           obtain ⟨k0,k1,k2⟩:=fr_lt hG h1 hb hrd hwd hl
           rw [← hd] at k1 k2 hl
           obtain ⟨r',hr'⟩ : ∃ r' : Int → Int,r' = fun x=>if x = (o : Int) then min (r x) a.w else r x:=⟨_,rfl⟩
           have hput:=(step_lt hG h1 hb hrd hwd hoN (by rw [← hd,hFLg]; exact hl)).2
           rw [← hd] at hput
           rw [← hr'] at e1 k1 k2 hput
           rw [hput] at H
           rw [e1]
           have hrw : updN (fun w=>ov (fr n c s0 (stN n c s0 j) b d r w)) o (two d a.w) = fun w=>ov (fr n c s0 (stN n c s0 j) b d r' w):=by
             funext x
             unfold updN
             by_cases e : x = o
             · rw [if_pos e,e,k1]; exact (if_pos (by omega)).symm
             · rw [if_neg e,k2 x e]
           rw [hrw] at H
           have hby:=hbf.put (av':=fr n c s0 (stN n c s0 j) b d r') k0 m1 m2 (by rw [← ha]; simpa using hop) (by rw [← ha]; exact hoe.symm) (.inr (by rw [m3]; exact Int.toNat_natCast b)) (by rw [m3,← ha,← hc,← hd]; exact k1) k2
           have H:=sdB_open.2 ⟨_,hby,Holds.to (M:=RowF br n.toNat (updN bf o id)::_) H⟩
           exact ⟨_,Holds.to (by assumption),fun w H=>.inl ⟨rfl,trivial,Holds.to (by assumption)⟩⟩)
        | (have hop' : ¬ a.cl = true:=by simpa using hop
           have e1 : rx1 s true r id = fun x=>if x = (o : Int) then min (r x) a.w else r x:=by unfold rx1; rw [← ha,if_neg hop',hoe]
           have hl : ¬ two d a.w < fr n c s0 (stN n c s0 j) b d r o:=hge
           rw [hd] at hl
           have k2:=fr_ge hG hrd hwd hl
           have hHL:=(step_ge hG h1 hb hrd hwd hoN (by rw [← hd,hFLg,hd]; exact hl)).2
           rw [← hd] at k2 hHL
           obtain ⟨r',hr'⟩ : ∃ r' : Int → Int,r' = fun x=>if x = (o : Int) then min (r x) a.w else r x:=⟨_,rfl⟩
           rw [← hr'] at e1 k2 hHL
           have hfe : fr n c s0 (stN n c s0 j) b d r' = fr n c s0 (stN n c s0 j) b d r:=funext k2
           rw [hHL] at H
           rw [e1,hfe]
           exact ⟨_,Holds.to (by assumption),fun w H=>.inl ⟨rfl,trivial,Holds.to (by assumption)⟩⟩)
      · refine W.skip ?_
        first
        | (have hcl' : a.cl = true:=by simpa using hcl
           have e1 : rx1 s true r id = r:=by unfold rx1; rw [← ha,if_pos hcl']
           rw [e1]
           exact ⟨_,Holds.to (by assumption),fun w H=>.inl ⟨rfl,trivial,Holds.to (by assumption)⟩⟩)
        | (have hop' : ¬ a.cl = true:=by simpa using hop
           have e1 : rx1 s true r id = fun x=>if x = (o : Int) then min (r x) a.w else r x:=by unfold rx1; rw [← ha,if_neg hop',hoe]
           have hl : two d a.w < fr n c s0 (stN n c s0 j) b d r o:=hlt
           rw [hd] at hl
           obtain ⟨k0,k1,k2⟩:=fr_lt hG h1 hb hrd hwd hl
           rw [← hd] at k1 k2 hl
           obtain ⟨r',hr'⟩ : ∃ r' : Int → Int,r' = fun x=>if x = (o : Int) then min (r x) a.w else r x:=⟨_,rfl⟩
           have hput:=(step_lt hG h1 hb hrd hwd hoN (by rw [← hd,hFLg]; exact hl)).2
           rw [← hd] at hput
           rw [← hr'] at e1 k1 k2 hput
           rw [hput] at H
           rw [e1]
           have hrw : updN (fun w=>ov (fr n c s0 (stN n c s0 j) b d r w)) o (two d a.w) = fun w=>ov (fr n c s0 (stN n c s0 j) b d r' w):=by
             funext x
             unfold updN
             by_cases e : x = o
             · rw [if_pos e,e,k1]; exact (if_pos (by omega)).symm
             · rw [if_neg e,k2 x e]
           rw [hrw] at H
           have hby:=hbf.put (av':=fr n c s0 (stN n c s0 j) b d r') k0 m1 m2 (by rw [← ha]; simpa using hop) (by rw [← ha]; exact hoe.symm) (.inr (by rw [m3]; exact Int.toNat_natCast b)) (by rw [m3,← ha,← hc,← hd]; exact k1) k2
           have H:=sdB_open.2 ⟨_,hby,Holds.to (M:=RowF br n.toNat (updN bf o id)::_) H⟩
           exact ⟨_,Holds.to (by assumption),fun w H=>.inl ⟨rfl,trivial,Holds.to (by assumption)⟩⟩)
        | (have hop' : ¬ a.cl = true:=by simpa using hop
           have e1 : rx1 s true r id = fun x=>if x = (o : Int) then min (r x) a.w else r x:=by unfold rx1; rw [← ha,if_neg hop',hoe]
           have hl : ¬ two d a.w < fr n c s0 (stN n c s0 j) b d r o:=hge
           rw [hd] at hl
           have k2:=fr_ge hG hrd hwd hl
           have hHL:=(step_ge hG h1 hb hrd hwd hoN (by rw [← hd,hFLg,hd]; exact hl)).2
           rw [← hd] at k2 hHL
           obtain ⟨r',hr'⟩ : ∃ r' : Int → Int,r' = fun x=>if x = (o : Int) then min (r x) a.w else r x:=⟨_,rfl⟩
           rw [← hr'] at e1 k2 hHL
           have hfe : fr n c s0 (stN n c s0 j) b d r' = fr n c s0 (stN n c s0 j) b d r:=funext k2
           rw [hHL] at H
           rw [e1,hfe]
           exact ⟨_,Holds.to (by assumption),fun w H=>.inl ⟨rfl,trivial,Holds.to (by assumption)⟩⟩)
    · refine O.guard_f rfl rfl rfl rfl ?_
      refine O.guard_f rfl rfl rfl rfl ?_
      refine O.guard_f rfl rfl rfl rfl ?_
      refine O.guard_f rfl rfl rfl rfl ?_
      refine O.guard_f rfl rfl rfl rfl ?_
      refine O.ex (Ex.pick_f rfl rfl) rfl ?_
      refine O.nil ?_
      refine hK7 _ _ _ ?_
      refine W.cond_f rfl ?_
      refine W.skip ?_
      first
      | (have hcl' : a.cl = true:=by simpa using hcl
         have e1 : rx1 s true r id = r:=by unfold rx1; rw [← ha,if_pos hcl']
         rw [e1]
         exact ⟨_,Holds.to (by assumption),fun w H=>.inl ⟨rfl,trivial,Holds.to (by assumption)⟩⟩)
      | (have hop' : ¬ a.cl = true:=by simpa using hop
         have e1 : rx1 s true r id = fun x=>if x = (o : Int) then min (r x) a.w else r x:=by unfold rx1; rw [← ha,if_neg hop',hoe]
         have hl : two d a.w < fr n c s0 (stN n c s0 j) b d r o:=hlt
         rw [hd] at hl
         obtain ⟨k0,k1,k2⟩:=fr_lt hG h1 hb hrd hwd hl
         rw [← hd] at k1 k2 hl
         obtain ⟨r',hr'⟩ : ∃ r' : Int → Int,r' = fun x=>if x = (o : Int) then min (r x) a.w else r x:=⟨_,rfl⟩
         have hput:=(step_lt hG h1 hb hrd hwd hoN (by rw [← hd,hFLg]; exact hl)).2
         rw [← hd] at hput
         rw [← hr'] at e1 k1 k2 hput
         rw [hput] at H
         rw [e1]
         have hrw : updN (fun w=>ov (fr n c s0 (stN n c s0 j) b d r w)) o (two d a.w) = fun w=>ov (fr n c s0 (stN n c s0 j) b d r' w):=by
           funext x
           unfold updN
           by_cases e : x = o
           · rw [if_pos e,e,k1]; exact (if_pos (by omega)).symm
           · rw [if_neg e,k2 x e]
         rw [hrw] at H
         have hby:=hbf.put (av':=fr n c s0 (stN n c s0 j) b d r') k0 m1 m2 (by rw [← ha]; simpa using hop) (by rw [← ha]; exact hoe.symm) (.inr (by rw [m3]; exact Int.toNat_natCast b)) (by rw [m3,← ha,← hc,← hd]; exact k1) k2
         have H:=sdB_open.2 ⟨_,hby,Holds.to (M:=RowF br n.toNat (updN bf o id)::_) H⟩
         exact ⟨_,Holds.to (by assumption),fun w H=>.inl ⟨rfl,trivial,Holds.to (by assumption)⟩⟩)
      | (have hop' : ¬ a.cl = true:=by simpa using hop
         have e1 : rx1 s true r id = fun x=>if x = (o : Int) then min (r x) a.w else r x:=by unfold rx1; rw [← ha,if_neg hop',hoe]
         have hl : ¬ two d a.w < fr n c s0 (stN n c s0 j) b d r o:=hge
         rw [hd] at hl
         have k2:=fr_ge hG hrd hwd hl
         have hHL:=(step_ge hG h1 hb hrd hwd hoN (by rw [← hd,hFLg,hd]; exact hl)).2
         rw [← hd] at k2 hHL
         obtain ⟨r',hr'⟩ : ∃ r' : Int → Int,r' = fun x=>if x = (o : Int) then min (r x) a.w else r x:=⟨_,rfl⟩
         rw [← hr'] at e1 k2 hHL
         have hfe : fr n c s0 (stN n c s0 j) b d r' = fr n c s0 (stN n c s0 j) b d r:=funext k2
         rw [hHL] at H
         rw [e1,hfe]
         exact ⟨_,Holds.to (by assumption),fun w H=>.inl ⟨rfl,trivial,Holds.to (by assumption)⟩⟩)
  rintro _ w (⟨_,H⟩|⟨_,hf,_⟩)
  rotate_left
  · exact hf.elim
  refine rangeEnd (Holds.to (by assumption)) (by nofun) (fun w H=>?_)
  rw [List.take_length] at H
  refine hK2 _ _ _ ?_
  refine W.seq (fun K10 hK10=>?_)
  refine W.region ?_
  refine O.ex (Ex.move rfl) rfl ?_
  refine O.ex (Ex.assign rfl) rfl ?_
  refine O.nil ?_
  refine hK10 _ _ _ ?_
  refine W.ret ?_
  try dsimp only [thenQ,blockQ,retQ]
  first|refine ⟨_,⟨_,_,rfl,rfl,rfl⟩,?_⟩|(refine retD_mark ?_; intro w H; refine ⟨_,⟨_,_,rfl,rfl,rfl⟩,?_⟩)|(refine retD_mark2 ?_; intro w H; refine ⟨_,⟨_,_,rfl,rfl,rfl⟩,?_⟩)
  have hrr : ∀ x : Nat,x ≠ b → rx s true (inI s (b : Int)) x = c b x:=fun x hx=>by rw [hc]; exact rx_full hg true (by omega)
  have hfe : fr n c s0 (stN n c s0 j) b d (rx s true (inI s (b : Int))) = fq n c s0 (stN n c s0 (j + 1)):=by funext x; rw [hd]; exact fq_next hG h1 hb hrr x
  have hHe : HL n c (stN n c s0 j) b d (rx s true (inI s (b : Int))) = Wt.hpW n.toNat c s0 0 (stN n c s0 (j + 1)):=by rw [hd]; exact end_HL hG h1 hb hrr
  rw [hfe,hHe] at H
  obtain ⟨bf,hbf,H⟩:=sdB_open.1 (Holds.to (M:=SdB br n.toNat (ByOk n s true s0 (fq n c s0 (stN n c s0 (j + 1))) (fun w=>Wt.isIn (stN n c s0 j) w ∨ w = b))::_) H)
  have H:=sdB_open.2 ⟨bf,hbf.congr (fun w _=>rfl) (fun w k=>(isIn_next hG h1 hb w).2 k),H⟩
  have H:=gh_open.2 ⟨ab,cap,es,Holds.to (M:=GO g ab cap es n most s::_) H⟩
  rw [hc] at H
  exact ⟨rfl,sd_open.2 (Holds.to (by assumption))⟩
/-- Where a side goes on to from a vertex. -/
theorem endsin_ct {w : World} {p hh fw br g : Nat} {n most v : Int} {s : St} {L : List HProp} (hg : GOk n most s) (H : Holds w (pcS p hh fw br true::Gh g n most s::L)) :
    CT Try.prog 82 [.pointer (some ⟨g,0,none⟩),.pointer (some ⟨p,0,none⟩),.int .i64 v] w fun u w'=>u.oneCell' = true ∧ Holds w' (arr 3 (Value.int .i64) u ((inI s v).map fun id=>oth (arcQ s id) true)::pcS p hh fw br true::Gh g n most s::L):=by
  have hll : (inI s v).length ≤ 64:=lstP_len _
  refine CT.enter (N:=29) Try.func82 rfl rfl rfl rfl ?_
  refine W.seq (fun K0 hK0=>?_)
  refine W.region ?_
  refine O.boxP rfl (fun b3 w H=>?_)
  refine O.boxP rfl (fun b4 w H=>?_)
  refine O.ex (Ex.assign rfl) rfl ?_
  refine O.nil ?_
  refine hK0 _ _ _ ?_
  refine W.seq (fun K1 hK1=>?_)
  refine W.region ?_
  refine O.allocP Try.zeroValue28 (fun b7 w H=>?_)
  refine O.nil ?_
  refine hK1 _ _ _ ?_
  refine W.seq (fun K2 hK2=>?_)
  refine W.seq (fun K3 hK3=>?_)
  refine W.region ?_
  refine O.ex (by first|exact Ex.loadP Try.isAgg81 rfl|exact Ex.loadQ Try.isAgg81 rfl|exact Ex.loadMh Try.isAgg81 rfl|exact Ex.loadR Try.isAgg81 rfl|exact Ex.loadInF Try.isAgg81 rfl (Holds.to (by assumption))|exact Ex.loadIn1 Try.isAgg81 rfl (Holds.to (by assumption))|exact Ex.loadM Try.isAgg81 rfl|exact Ex.loadVc Try.isAgg81 rfl) rfl ?_
  refine O.ex (by first|exact Ex.loadP Try.isAgg24 rfl|exact Ex.loadQ Try.isAgg24 rfl|exact Ex.loadMh Try.isAgg24 rfl|exact Ex.loadR Try.isAgg24 rfl|exact Ex.loadInF Try.isAgg24 rfl (Holds.to (by assumption))|exact Ex.loadIn1 Try.isAgg24 rfl (Holds.to (by assumption))|exact Ex.loadM Try.isAgg24 rfl|exact Ex.loadVc Try.isAgg24 rfl) rfl ?_
  refine O.ex (Ex.move rfl) rfl ?_
  refine O.callF Try.call102 rfl rfl (CT.mono (sarcsin_ct (p:=p) (hh:=hh) (fr:=fw) (br:=br) (g:=g) (v:=v) (Holds.to (by assumption))) ?_)
  rintro _ w ⟨c2,c3,rfl,H⟩
  refine O.nil ?_
  refine hK3 _ _ _ ?_
  refine W.block ?_
  have H:=arr_nil (T:=3) (e:=Value.int .i64) H
  have H:=outC_open.2 ⟨_,Holds.to (M:=pt b7 (.cells #[.slice none 0 0] 28 (0,0))::arr 3 (Value.int .i64) (.slice none 0 0) (((inI s v).take 0).map fun id=>oth (arcQ s id) true)::_) H⟩
  obtain ⟨ab,cap,es,HG⟩:=gh_open.1 (Holds.to (M:=Gh g n most s::capO c2 c3 g v::pt b3 (.cells #[.pointer (some ⟨g,0,none⟩)] 24 (0,0))::pt b4 (.cells #[.pointer (some ⟨p,0,none⟩)] 81 (0,0))::OutC b7 (((inI s v).take 0).map fun id=>oth (arcQ s id) true)::pcS p hh fw br true::L) H)
  replace H : Holds w (GO g ab cap es n most s::capO c2 c3 g v::(pt b3 (.cells #[.pointer (some ⟨g,0,none⟩)] 24 (0,0))::pt b4 (.cells #[.pointer (some ⟨p,0,none⟩)] 81 (0,0))::OutC b7 (((inI s v).take 0).map fun id=>oth (arcQ s id) true)::pcS p hh fw br true::L)):=HG
  clear HG
  refine W.rangeFunc rfl Try.call77 H ?_
  rintro LR kk D w hLR H
  refine CT.mono (gin1_ct (κ:=Unit) (σ:=fun _=>False) (SL:=fun _=>[]) (J:=fun i=>LR .ready none::dblk D::pt b3 (.cells #[.pointer (some ⟨g,0,none⟩)] 24 (0,0))::pt b4 (.cells #[.pointer (some ⟨p,0,none⟩)] 81 (0,0))::OutC b7 (((inI s v).take i).map fun id=>oth (arcQ s id) true)::pcS p hh fw br true::L) (φ:=fun _=>True) hg trivial (Holds.to (by assumption)) ?_) ?_
  · intro Fr i w hi _ H
    obtain ⟨id,hid⟩ : ∃ id,id = (inI s v).getD i default:=⟨_,rfl⟩
    rw [← hid]
    obtain ⟨a,hqa⟩ : ∃ a,a = arcQ s id:=⟨_,rfl⟩
    obtain ⟨xs,hxs⟩ : ∃ xs,xs = ((inI s v).take i).map fun id=>oth (arcQ s id) true:=⟨_,rfl⟩
    have hxl : xs.length ≤ 64:=by rw [hxs,List.length_map,List.length_take]; omega
    have hxn : (((inI s v).take (i + 1)).map fun id=>oth (arcQ s id) true) = xs ++ [oth a true]:=by rw [take_getI hi,List.map_append,← hxs,← hid,hqa]; rfl
    rw [← hxs] at H
    rw [hxn]
    refine VT.round hLR (Holds.to (by assumption)) rfl rfl ?_
    refine W.region ?_
    refine O.ex (Ex.assign rfl) rfl ?_
    refine O.nil ?_
    refine ⟨_,Holds.to (by assumption),fun w H=>?_⟩
    refine W.block ?_
    refine W.seq (fun K4 hK4=>?_)
    refine W.region ?_
    refine O.ex (by first|exact Ex.loadP Try.isAgg24 rfl|exact Ex.loadQ Try.isAgg24 rfl|exact Ex.loadMh Try.isAgg24 rfl|exact Ex.loadR Try.isAgg24 rfl|exact Ex.loadInF Try.isAgg24 rfl (Holds.to (by assumption))|exact Ex.loadIn1 Try.isAgg24 rfl (Holds.to (by assumption))|exact Ex.loadM Try.isAgg24 rfl|exact Ex.loadVc Try.isAgg24 rfl) rfl ?_
    refine O.ex (Ex.move rfl) rfl ?_
    refine O.callF Try.call40 rfl rfl (CT.mono (goarc_ct (g:=g) (ab:=ab) (cap:=cap) (es:=es) (Holds.to (by assumption))) ?_)
    rintro _ w ⟨rfl,H⟩
    rw [← hqa]
    refine O.ex (Ex.move rfl) rfl ?_
    refine O.ex (Ex.extract rfl rfl) rfl ?_
    refine O.ex (Ex.extract rfl rfl) rfl ?_
    refine O.allocP Try.zeroValue42 (fun b9 w H=>?_)
    first|refine O.storeAggP Try.sizeOf42 rfl rfl rfl rfl (fun w H=>?_)|refine O.storeAggN Try.sizeOf42 rfl rfl rfl (fun w H=>?_) rfl
    obtain ⟨ov,H⟩:=outC_open.1 (Holds.to (M:=OutC b7 xs::pt b9 (.cells #[.int .i64 a.t,.int .i64 a.h,.int .i64 a.w,.bool a.cl] 42 (0,0))::LR .busy none::pt b3 (.cells #[.pointer (some ⟨g,0,none⟩)] 24 (0,0))::pt b4 (.cells #[.pointer (some ⟨p,0,none⟩)] 81 (0,0))::pcS p hh fw br true::Fr::GO g ab cap es n most s::capO c2 c3 g v::dblk D::L) H)
    replace H : Holds w (pt b7 (.cells #[ov] 28 (0,0))::pt b9 (.cells #[.int .i64 a.t,.int .i64 a.h,.int .i64 a.w,.bool a.cl] 42 (0,0))::pt b4 (.cells #[.pointer (some ⟨p,0,none⟩)] 81 (0,0))::arr 3 (Value.int .i64) ov xs::LR .busy none::pt b3 (.cells #[.pointer (some ⟨g,0,none⟩)] 24 (0,0))::pcS p hh fw br true::Fr::GO g ab cap es n most s::capO c2 c3 g v::dblk D::L):=Holds.to H
    have hov:=arr_one (Holds.to (M:=arr 3 (Value.int .i64) ov xs::[]) H)
    refine O.ex (Ex.assign rfl) rfl ?_
    refine O.nil ?_
    refine hK4 _ _ _ ?_
    refine W.drawTo (pt b7 (.cells #[ov] 28 (0,0))::pt b4 (.cells #[.pointer (some ⟨p,0,none⟩)] 81 (0,0))::pt b9 (.cells #[.int .i64 a.t,.int .i64 a.h,.int .i64 a.w,.bool a.cl] 42 (0,0))::[]) (.take 0 (.take 1 (.take 2 (.one 3 (.one 4 (.one 5 (.one 6 .nil))))))) (mixed) (fun _ _ _ _ h=>h) (by assumption) PP.auto (by decide +kernel) (fun w H=>?_)
    refine OQ.ex rfl (fun w H=>(Ex.cast (v:=ov) (Ex.loadP Try.isAgg28 rfl) rfl)) rfl ?_
    refine OQ.ex rfl (fun w H=>(by first|exact Ex.loadP Try.isAgg81 rfl|exact Ex.loadQ Try.isAgg81 rfl|exact Ex.loadMh Try.isAgg81 rfl|exact Ex.loadR Try.isAgg81 rfl|exact Ex.loadInF Try.isAgg81 rfl (Holds.to (by assumption))|exact Ex.loadIn1 Try.isAgg81 rfl (Holds.to (by assumption))|exact Ex.loadM Try.isAgg81 rfl|exact Ex.loadVc Try.isAgg81 rfl)) rfl ?_
    refine OQ.ex rfl (fun w H=>(Ex.cast (v:=a.val) (Ex.loadAggP (bl:=b9) (off:=0) Try.isAgg42 Try.sizeOf42 rfl) rfl)) rfl ?_
    refine OQ.step rfl ?_
    refine O.callF Try.call103 rfl rfl (CT.mono (sto_ct (p:=p) (hh:=hh) (fr:=fw) (br:=br) (b:=true) (a:=a) (Holds.to (by assumption))) ?_)
    rintro _ w ⟨rfl,H⟩
    refine O.thenNil ⟨(by first|exact Holds.to (by assumption)|assumption),?_⟩
    refine OQ.step rfl ?_
    refine O.build1 (e:=Value.int .i64) Try.runUnderlying28 Try.sizeOf3 Try.zeroValue3 rfl (fun v26 w hv26 H=>?_)
    refine O.thenNil ⟨(by first|exact Holds.to (by assumption)|assumption),?_⟩
    refine OQ.step rfl ?_
    refine O.appendR Try.runUnderlying28 Try.typeInfo3 (bt:=8) rfl Try.sizeOf3 Try.zeroValue3 rfl rfl (fun v27 w hv27 H=>?_)
    refine O.thenNil ⟨(by first|exact Holds.to (by assumption)|assumption),?_⟩
    refine OQ.last rfl (by decide +kernel) ?_
    first|refine O.storeP Try.sizeOf28 rfl rfl (fun w H=>?_)|refine O.storeR Try.sizeOf28 rfl rfl (fun w H=>?_)|refine O.storeM Try.sizeOf28 rfl rfl (fun w H=>?_)|refine O.storeVc Try.sizeOf28 rfl rfl (fun w H=>?_)|refine O.storeQ Try.sizeOf28 rfl rfl (fun w H=>?_)
    refine O.nil ?_
    have H:=outC_open.2 ⟨_,Holds.to (M:=pt b7 (.cells #[v27] 28 (0,0))::arr 3 (Value.int .i64) v27 (xs ++ [oth a true])::_) H⟩
    exact ⟨_,Holds.to (by assumption),fun w H=>.inl ⟨rfl,trivial,Holds.to (by assumption)⟩⟩
  rintro _ w (⟨_,H⟩|⟨_,hf,_⟩)
  rotate_left
  · exact hf.elim
  refine rangeEnd (Holds.to (by assumption)) (by nofun) (fun w H=>?_)
  rw [List.take_length] at H
  have H:=gh_open.2 ⟨ab,cap,es,Holds.to (M:=GO g ab cap es n most s::_) H⟩
  obtain ⟨ov,H⟩:=outC_open.1 (Holds.to (M:=OutC b7 ((inI s v).map fun id=>oth (arcQ s id) true)::_) H)
  refine hK2 _ _ _ ?_
  refine W.seq (fun K5 hK5=>?_)
  refine W.region ?_
  refine O.ex (v:=ov) (Ex.loadP Try.isAgg28 rfl) rfl ?_
  refine O.ex (Ex.assign rfl) rfl ?_
  refine O.nil ?_
  refine hK5 _ _ _ ?_
  refine W.ret ?_
  try dsimp only [thenQ,blockQ,retQ]
  first|refine ⟨_,⟨_,_,rfl,rfl,rfl⟩,?_⟩|(refine retD_mark ?_; intro w H; refine ⟨_,⟨_,_,rfl,rfl,rfl⟩,?_⟩)|(refine retD_mark2 ?_; intro w H; refine ⟨_,⟨_,_,rfl,rfl,rfl⟩,?_⟩)
  have hov:=arr_one (Holds.to (M:=arr 3 (Value.int .i64) ov _::[]) H)
  exact ⟨hov,Holds.to (by assumption)⟩
end Go.Proofs.Ytliofdfhimmjmaa
