import Derived.Test.YtliofdfhimmjmaaNear3
import Derived.Test.YtliofdfhimmjmaaNearLaw2
import Derived.Test.YtliofdfhimmjmaaRefAll
import Derived.Test.YtliofdfhimmjmaaWalk2
namespace Go.Proofs.Ytliofdfhimmjmaa
open Go.Rr Go Gr Hp
set_option linter.unusedVariables false
set_option linter.unusedSimpArgs false
theorem nzS : ZeroIs Try.prog 56 (mval [] fun _ _=>0):=fun w=>(Try.zeroValue56 w).trans (by rw [show Try.zeroCells56 = vcs [] 576 (sq fun _ _=>0) by kernel_rfl]; rfl)
def iniM (i j : Nat) : Int → Int → Int:=fun a b=>if a < (i : Int) ∨ (a = (i : Int) ∧ b < (j : Int)) then (if a = b ∧ a < (i : Int) then 0 else 4611686018427387906) else 0
set_option maxHeartbeats 2000000 in
theorem rall_ct {w : World} {r : Nat} {n most : Int} {s : St} {L : List HProp} (hg : GOk n most s) (H : Holds w (Rg r n most s::L)) :
    CT Try.prog 30 [.pointer (some ⟨r,0,none⟩)] w fun x w'=>x = mval [] (far n (cG s)) ∧ Holds w' (Rg r n most s::L):=by
  have n1:=hg.n1
  have n2:=hg.n2
  have hG:=cG_good hg
  have hll : (idsI s).length ≤ 64:=lstP_len (tkP s)
  refine CT.enter (N:=117) Try.func30 rfl rfl rfl rfl ?_
  refine W.seq (fun K0 hK0=>?_)
  refine W.region ?_
  refine O.allocM [] nzS (fun b2 w H=>?_)
  refine O.nil ?_
  refine hK0 _ _ _ ?_
  refine W.seq (fun K1 hK1=>?_)
  refine W.region ?_
  refine O.allocM [] nzS (fun b3 w H=>?_)
  refine O.nil ?_
  refine hK1 _ _ _ ?_
  refine W.seq (fun K2 hK2=>?_)
  refine W.seq (fun K3 hK3=>?_)
  refine W.region ?_
  refine O.ex (Ex.assign rfl) rfl ?_
  refine O.nil ?_
  refine hK3 _ _ _ ?_
  refine W.block ?_
  have H : Holds w (mtx b3 56 [] (iniM 0 0)::mtx b2 56 [] (fun _ _=>0)::Rg r n most s::L):=by
    rw [mtx_congr (D:=iniM 0 0) (D':=fun _ _=>0) (fun a b h0 h1 h2 h3=>if_neg (by omega))]; exact H
  refine W.loop (σ:=Nat) (fun i=>[(0,.pointer (some ⟨r,0,none⟩)),(2,.pointer (some ⟨b2,0,none⟩)),(3,.pointer (some ⟨b3,0,none⟩)),(4,.int .i64 (i : Int))]) (fun i ds w=>ds = [] ∧ i ≤ 24 ∧ Holds w (mtx b3 56 [] (iniM i 0)::mtx b2 56 [] (fun _ _=>0)::Rg r n most s::L)) (fun i=>24 - i) 0 ⟨rfl,rfl,rfl,rfl,trivial⟩ ⟨rfl,by omega,H⟩ ?_
  clear H
  rintro i _ w ⟨rfl,hi,H⟩
  refine W.seq (fun K4 hK4=>?_)
  refine W.seq (fun K5 hK5=>?_)
  refine W.region ?_
  refine O.ex (Ex.move rfl) rfl ?_
  refine O.ex (Ex.lss rfl rfl) rfl ?_
  refine O.nil ?_
  refine hK5 _ _ _ ?_
  first|refine W.cond_p rfl (fun hlt0=>?_) (fun hge0=>?_)|refine W.cond_b rfl (fun hlt0=>?_) (fun hge0=>?_)
  · refine W.skip ?_
    refine hK4 _ _ _ ?_
    refine W.seq (fun K6 hK6=>?_)
    refine W.block ?_
    refine W.seq (fun K7 hK7=>?_)
    refine W.seq (fun K8 hK8=>?_)
    refine W.region ?_
    refine O.ex (Ex.assign rfl) rfl ?_
    refine O.nil ?_
    refine hK8 _ _ _ ?_
    refine W.block ?_
    refine W.loop (σ:=Nat) (fun j=>[(0,.pointer (some ⟨r,0,none⟩)),(2,.pointer (some ⟨b2,0,none⟩)),(3,.pointer (some ⟨b3,0,none⟩)),(4,.int .i64 (i : Int)),(5,.int .i64 (j : Int))]) (fun j ds w=>ds = [] ∧ j ≤ 24 ∧ Holds w (mtx b3 56 [] (iniM i j)::mtx b2 56 [] (fun _ _=>0)::Rg r n most s::L)) (fun j=>24 - j) 0 ⟨rfl,rfl,rfl,rfl,rfl,trivial⟩ ⟨rfl,by omega,H⟩ ?_
    clear H
    rintro j _ w ⟨rfl,hj,H⟩
    refine W.seq (fun K9 hK9=>?_)
    refine W.seq (fun K10 hK10=>?_)
    refine W.region ?_
    refine O.ex (Ex.move rfl) rfl ?_
    refine O.ex (Ex.lss rfl rfl) rfl ?_
    refine O.nil ?_
    refine hK10 _ _ _ ?_
    first|refine W.cond_p rfl (fun hlt1=>?_) (fun hge1=>?_)|refine W.cond_b rfl (fun hlt1=>?_) (fun hge1=>?_)
    · refine W.skip ?_
      refine hK9 _ _ _ ?_
      refine W.seq (fun K11 hK11=>?_)
      refine W.block ?_
      refine W.region ?_
      refine O.ex (Ex.move rfl) rfl ?_
      refine O.ex (Ex.move rfl) rfl ?_
      refine O.ex (Ex.idxArr Try.runUnderlying56 Try.sizeOf55 rfl rfl) rfl ?_
      refine O.ex (Ex.idxArr Try.runUnderlying55 Try.sizeOf3 rfl rfl) rfl ?_
      first|refine O.storeP Try.sizeOf3 rfl rfl (fun w H=>?_)|refine O.storeR Try.sizeOf3 rfl rfl (fun w H=>?_)|refine O.storeM Try.sizeOf3 rfl rfl (fun w H=>?_)|refine O.storeVc Try.sizeOf3 rfl rfl (fun w H=>?_)|refine O.storeQ Try.sizeOf3 rfl rfl (fun w H=>?_)
      refine O.nil ?_
      refine hK11 _ _ _ ?_
      refine W.region ?_
      refine O.ex (Ex.move rfl) rfl ?_
      refine O.ex (by first|exact Ex.addI rfl rfl|exact Ex.add rfl rfl rfl) rfl ?_
      refine O.ex (Ex.assign rfl) rfl ?_
      refine O.nil ?_
      have H : Holds w (mtx b3 56 [] (iniM i (j + 1))::mtx b2 56 [] (fun _ _=>0)::Rg r n most s::L):=by
        rw [mtx_congr (D:=iniM i (j + 1)) (D':=upd2 (iniM i j) (i : Nat) (j : Nat) 4611686018427387906) (fun a b h0 h1 h2 h3=>by
          simp only [iniM,upd2]; (repeat' split) <;> omega)]; exact Holds.to (by assumption)
      exact ⟨j + 1,⟨rfl,rfl,rfl,rfl,rfl,trivial⟩,⟨rfl,by omega,H⟩,by omega⟩
    · refine W.exit ?_
      refine hK7 _ _ _ ?_
      refine W.region ?_
      refine O.ex (Ex.move rfl) rfl ?_
      refine O.ex (Ex.move rfl) rfl ?_
      refine O.ex (Ex.idxArr Try.runUnderlying56 Try.sizeOf55 rfl rfl) rfl ?_
      refine O.ex (Ex.idxArr Try.runUnderlying55 Try.sizeOf3 rfl rfl) rfl ?_
      first|refine O.storeP Try.sizeOf3 rfl rfl (fun w H=>?_)|refine O.storeR Try.sizeOf3 rfl rfl (fun w H=>?_)|refine O.storeM Try.sizeOf3 rfl rfl (fun w H=>?_)|refine O.storeVc Try.sizeOf3 rfl rfl (fun w H=>?_)|refine O.storeQ Try.sizeOf3 rfl rfl (fun w H=>?_)
      refine O.nil ?_
      refine hK6 _ _ _ ?_
      refine W.region ?_
      refine O.ex (Ex.move rfl) rfl ?_
      refine O.ex (by first|exact Ex.addI rfl rfl|exact Ex.add rfl rfl rfl) rfl ?_
      refine O.ex (Ex.assign rfl) rfl ?_
      refine O.nil ?_
      have H : Holds w (mtx b3 56 [] (iniM (i + 1) 0)::mtx b2 56 [] (fun _ _=>0)::Rg r n most s::L):=by
        rw [mtx_congr (D:=iniM (i + 1) 0) (D':=upd2 (iniM i j) (i : Nat) (i : Nat) 0) (fun a b h0 h1 h2 h3=>by
          simp only [iniM,upd2]; (repeat' split) <;> omega)]; exact Holds.to (by assumption)
      exact ⟨i + 1,⟨rfl,rfl,rfl,rfl,trivial⟩,⟨rfl,by omega,H⟩,by omega⟩
  · refine W.exit ?_
    refine hK2 _ _ _ ?_
    refine W.seq (fun K12 hK12=>?_)
    refine W.region ?_
    refine O.ex (Ex.move rfl) rfl ?_
    refine O.callF Try.call52 rfl rfl (CT.mono (rids_ct (Holds.to (by assumption))) ?_)
    rintro _ w ⟨hu1,H⟩
    rename_i iv
    refine O.ex (Ex.assign rfl) rfl ?_
    refine O.nil ?_
    refine hK12 _ _ _ ?_
    refine W.seq (fun K13 hK13=>?_)
    refine W.seq (fun K14 hK14=>?_)
    refine W.region ?_
    refine O.ex (Ex.assign rfl) rfl ?_
    refine O.nil ?_
    refine hK14 _ _ _ ?_
    refine W.block ?_
    have H : Holds w (mtx b3 56 [] (dlM s ((idsI s).take 0))::mtx b2 56 [] (fun _ _=>0)::arr 3 (Value.int .i64) iv (idsI s)::Rg r n most s::L):=by
      rw [mtx_congr (D:=dlM s ((idsI s).take 0)) (D':=iniM i 0) (fun a b h0 h1 h2 h3=>by
        show d0M a b = iniM i 0 a b
        simp only [d0M,iniM]; (repeat' split) <;> omega)]; exact Holds.to (by assumption)
    refine W.loop (σ:=Nat) (fun i=>[(0,.pointer (some ⟨r,0,none⟩)),(2,.pointer (some ⟨b2,0,none⟩)),(3,.pointer (some ⟨b3,0,none⟩)),(6,iv),(7,.int .i64 (i : Int))]) (fun i ds w=>ds = [] ∧ i ≤ (idsI s).length ∧ Holds w (mtx b3 56 [] (dlM s ((idsI s).take i))::mtx b2 56 [] (fun _ _=>0)::arr 3 (Value.int .i64) iv (idsI s)::Rg r n most s::L)) (fun i=>(idsI s).length - i) 0 ⟨rfl,rfl,rfl,rfl,rfl,trivial⟩ ⟨rfl,by omega,H⟩ ?_
    clear H
    rintro q _ w ⟨rfl,hq,H⟩
    refine W.seq (fun K15 hK15=>?_)
    refine W.seq (fun K16 hK16=>?_)
    refine W.region ?_
    refine O.ex (Ex.move rfl) rfl ?_
    refine O.ex (Ex.move rfl) rfl ?_
    refine O.ex (by first|exact Ex.lenR Try.runUnderlying28 rfl|exact Ex.lenIn Try.runUnderlying28 rfl|exact Ex.lenL Try.runUnderlying28 rfl|exact Ex.len rfl Try.runUnderlying28 rfl) rfl ?_
    refine O.ex (Ex.lss rfl rfl) rfl ?_
    refine O.nil ?_
    refine hK16 _ _ _ ?_
    first|refine W.cond_p rfl (fun hlt2=>?_) (fun hge2=>?_)|refine W.cond_b rfl (fun hlt2=>?_) (fun hge2=>?_)
    · refine W.skip ?_
      refine hK15 _ _ _ ?_
      refine W.seq (fun K17 hK17=>?_)
      refine W.block ?_
      refine W.seq (fun K18 hK18=>?_)
      have hql : q < (idsI s).length:=by omega
      obtain ⟨⟨r0,r1⟩,r2⟩:=ids_rng hql
      obtain ⟨id,hid⟩ : ∃ id,id = (idsI s).getD q default:=⟨_,rfl⟩
      obtain ⟨a,ha⟩ : ∃ a,a = (s id.toNat).a:=⟨_,rfl⟩
      have hq0 : (0 : Int) ≤ (q : Int):=by omega
      have hq1 : (q : Int) < ((idsI s).length : Int):=by omega
      have hqt : ((q : Nat) : Int).toNat = q:=Int.toNat_natCast q
      rw [← hid] at r0 r1 r2
      obtain ⟨⟨⟨a1,a2⟩,a3,a4⟩,a5⟩:=hg.arc _ r2
      rw [← ha] at a1 a2 a3 a4 a5
      have eDs : dlM s ((idsI s).take (q + 1)) = d1 s (dlM s ((idsI s).take q)) id:=by rw [take_getI hql,dlM_snoc,← hid]
      obtain ⟨Dq,hDq⟩ : ∃ Dq,Dq = dlM s ((idsI s).take q):=⟨_,rfl⟩
      rw [← hDq] at H eDs
      refine W.drawTo (arr 3 (Value.int .i64) iv (idsI s)::Rg r n most s::[]) (.take 0 (.take 1 (.take 2 (.take 3 (.take 4 (.take 5 (.take 6 (.take 7 (.take 8 (.one 9 (.one 10 .nil))))))))))) (mixed) (fun _ _ _ _ h=>h) (by assumption) PP.auto (by decide +kernel) (fun w H=>?_)
      refine OQ.ex rfl (fun w H=>(Ex.move rfl)) rfl ?_
      refine OQ.ex rfl (fun w H=>(Ex.move rfl)) rfl ?_
      refine OQ.ex rfl (fun w H=>(Ex.move rfl)) rfl ?_
      refine OQ.ex rfl (fun w H=>(by first|exact Ex.idxR Try.runUnderlying28 Try.sizeOf3 rfl rfl|exact Ex.idxIn Try.runUnderlying28 Try.sizeOf3 rfl rfl|exact Ex.idxS Try.runUnderlying28 Try.sizeOf3 rfl rfl|exact Ex.idx Try.runUnderlying28 Try.sizeOf3 rfl rfl (by omega) (by omega))) rfl ?_
      refine OQ.ex rfl (fun w H=>(Ex.cast (v:=.int .i64 id) (Ex.loadR (xs:=idsI s) Try.isAgg3 rfl) (by rw [hqt,← hid]))) rfl ?_
      refine OQ.ex rfl (fun w H=>(by first|exact Ex.nilPtr rfl|exact Ex.nilFunc rfl|exact Ex.nilYield rfl)) rfl ?_
      refine OQ.ex rfl (fun w H=>(by first|exact Ex.field0 fld45_3 rfl|exact Ex.field fld45_3 rfl|exact Ex.fieldS fld45_3 rfl|exact Ex.fieldIn fld45_3 rfl)) rfl ?_
      refine OQ.ex rfl (fun w H=>(Ex.idxArr Try.runUnderlying43 Try.sizeOf42 rfl rfl)) rfl ?_
      refine OQ.ex rfl (fun w H=>(Ex.cast (v:=a.val) (Ex.loadRArc (i:=id) Try.isAgg42 Try.sizeOf42 rfl (Holds.to (by assumption)) r0 r1) (by rw [ha]))) rfl ?_
      refine OQ.step rfl ?_
      refine O.allocP Try.zeroValue42 (fun b8 w H=>?_)
      refine O.thenNil ⟨(by first|exact Holds.to (by assumption)|assumption),?_⟩
      refine OQ.last rfl (by decide +kernel) ?_
      first|refine O.storeAggP Try.sizeOf42 rfl rfl rfl rfl (fun w H=>?_)|refine O.storeAggN Try.sizeOf42 rfl rfl rfl (fun w H=>?_) rfl
      have H:=Holds.to (M:=pt b8 (.cells #[.int .i64 a.t,.int .i64 a.h,.int .i64 a.w,.bool a.cl] 42 (0,0))::mtx b3 56 [] Dq::mtx b2 56 [] (fun _ _=>0)::arr 3 (Value.int .i64) iv (idsI s)::Rg r n most s::L) H
      refine O.nil ?_
      refine hK18 _ _ _ ?_
      refine W.seq (fun K19 hK19=>?_)
      refine W.drawTo _ (.take 0 (.take 1 (.take 2 (.take 3 (.take 4 (.take 5 (.take 6 (.take 7 (.take 8 (.take 9 (.take 10 (.take 11 (.take 12 (.take 13 (.take 14 .nil))))))))))))))) (mixed) (fun _ _ _ _ h=>h) (by assumption) (PP.refl _) (by decide +kernel) (fun w H=>?_)
      refine OQ.ex rfl (fun w H=>(by first|exact Ex.field0 fld42_3 rfl|exact Ex.field fld42_3 rfl|exact Ex.fieldS fld42_3 rfl|exact Ex.fieldIn fld42_3 rfl)) rfl ?_
      refine OQ.ex rfl (fun w H=>(by first|exact Ex.loadRA Try.isAgg4 rfl|exact Ex.loadRN Try.isAgg4 rfl|exact Ex.loadMh Try.isAgg4 rfl|exact Ex.loadInF Try.isAgg4 rfl (Holds.to (by assumption))|exact Ex.loadP Try.isAgg4 rfl|exact Ex.loadM Try.isAgg4 rfl|exact Ex.loadIn1 Try.isAgg4 rfl (Holds.to (by assumption))|exact Ex.loadVc Try.isAgg4 rfl|exact Ex.loadR Try.isAgg4 rfl|exact Ex.loadQ Try.isAgg4 rfl)) rfl ?_
      refine OQ.ex rfl (fun w H=>(by first|exact Ex.notD rfl|exact Ex.not rfl)) rfl ?_
      refine OQ.ex rfl (fun w H=>(Ex.move rfl)) rfl ?_
      first|refine OQ.split_p (t:=49) rfl (fun hop=>?_) (fun hcl=>?_)|refine OQ.split (t:=49) rfl (fun hop=>?_) (fun hcl=>?_)
      · refine OQ.exT rfl rfl rfl (fun w H=>(by first|exact Ex.field0 fld42_2 rfl|exact Ex.field fld42_2 rfl|exact Ex.fieldS fld42_2 rfl|exact Ex.fieldIn fld42_2 rfl)) rfl ?_
        refine OQ.exT rfl rfl rfl (fun w H=>(by first|exact Ex.loadRA Try.isAgg3 rfl|exact Ex.loadRN Try.isAgg3 rfl|exact Ex.loadMh Try.isAgg3 rfl|exact Ex.loadInF Try.isAgg3 rfl (Holds.to (by assumption))|exact Ex.loadP Try.isAgg3 rfl|exact Ex.loadM Try.isAgg3 rfl|exact Ex.loadIn1 Try.isAgg3 rfl (Holds.to (by assumption))|exact Ex.loadVc Try.isAgg3 rfl|exact Ex.loadR Try.isAgg3 rfl|exact Ex.loadQ Try.isAgg3 rfl)) rfl ?_
        refine OQ.exT rfl rfl rfl (fun w H=>(by first|exact Ex.field0 fld42_0 rfl|exact Ex.field fld42_0 rfl|exact Ex.fieldS fld42_0 rfl|exact Ex.fieldIn fld42_0 rfl)) rfl ?_
        refine OQ.exT rfl rfl rfl (fun w H=>(by first|exact Ex.loadRA Try.isAgg3 rfl|exact Ex.loadRN Try.isAgg3 rfl|exact Ex.loadMh Try.isAgg3 rfl|exact Ex.loadInF Try.isAgg3 rfl (Holds.to (by assumption))|exact Ex.loadP Try.isAgg3 rfl|exact Ex.loadM Try.isAgg3 rfl|exact Ex.loadIn1 Try.isAgg3 rfl (Holds.to (by assumption))|exact Ex.loadVc Try.isAgg3 rfl|exact Ex.loadR Try.isAgg3 rfl|exact Ex.loadQ Try.isAgg3 rfl)) rfl ?_
        refine OQ.exT rfl rfl rfl (fun w H=>(by first|exact Ex.field0 fld42_1 rfl|exact Ex.field fld42_1 rfl|exact Ex.fieldS fld42_1 rfl|exact Ex.fieldIn fld42_1 rfl)) rfl ?_
        refine OQ.exT rfl rfl rfl (fun w H=>(by first|exact Ex.loadRA Try.isAgg3 rfl|exact Ex.loadRN Try.isAgg3 rfl|exact Ex.loadMh Try.isAgg3 rfl|exact Ex.loadInF Try.isAgg3 rfl (Holds.to (by assumption))|exact Ex.loadP Try.isAgg3 rfl|exact Ex.loadM Try.isAgg3 rfl|exact Ex.loadIn1 Try.isAgg3 rfl (Holds.to (by assumption))|exact Ex.loadVc Try.isAgg3 rfl|exact Ex.loadR Try.isAgg3 rfl|exact Ex.loadQ Try.isAgg3 rfl)) rfl ?_
        refine OQ.exT rfl rfl rfl (fun w H=>(Ex.idxArr Try.runUnderlying56 Try.sizeOf55 rfl rfl)) rfl ?_
        refine OQ.exT rfl rfl rfl (fun w H=>(Ex.idxArr Try.runUnderlying55 Try.sizeOf3 rfl rfl)) rfl ?_
        refine OQ.exT rfl rfl rfl (fun w H=>(by first|exact Ex.loadRA Try.isAgg3 rfl|exact Ex.loadRN Try.isAgg3 rfl|exact Ex.loadM Try.isAgg3 rfl|exact Ex.loadVc Try.isAgg3 rfl|exact Ex.loadP Try.isAgg3 rfl|exact Ex.loadInF Try.isAgg3 rfl (Holds.to (by assumption))|exact Ex.loadIn1 Try.isAgg3 rfl (Holds.to (by assumption))|exact Ex.loadMh Try.isAgg3 rfl|exact Ex.loadR Try.isAgg3 rfl|exact Ex.loadQ Try.isAgg3 rfl)) rfl ?_
        refine OQ.exT rfl rfl rfl (fun w H=>(Ex.lss rfl rfl)) rfl ?_
        refine OQ.ex rfl (fun w H=>(Ex.pick_t rfl rfl)) rfl ?_
        refine OQ.done ?_
        refine hK19 _ _ _ ?_
        first|refine W.cond_p rfl (fun hl1=>?_) (fun hl2=>?_)|refine W.cond_b rfl (fun hl1=>?_) (fun hl2=>?_)
        · refine W.drawTo _ (.take 0 (.take 1 (.take 2 (.take 3 (.take 4 (.take 5 (.take 6 (.take 7 (.one 8 .nil))))))))) (mixed) (fun _ _ _ _ h=>h) (by assumption) (PP.refl _) (by decide +kernel) (fun w H=>?_)
          refine OQ.ex rfl (fun w H=>(by first|exact Ex.field0 fld42_0 rfl|exact Ex.field fld42_0 rfl|exact Ex.fieldS fld42_0 rfl|exact Ex.fieldIn fld42_0 rfl)) rfl ?_
          refine OQ.ex rfl (fun w H=>(by first|exact Ex.loadRA Try.isAgg3 rfl|exact Ex.loadRN Try.isAgg3 rfl|exact Ex.loadMh Try.isAgg3 rfl|exact Ex.loadInF Try.isAgg3 rfl (Holds.to (by assumption))|exact Ex.loadP Try.isAgg3 rfl|exact Ex.loadM Try.isAgg3 rfl|exact Ex.loadIn1 Try.isAgg3 rfl (Holds.to (by assumption))|exact Ex.loadVc Try.isAgg3 rfl|exact Ex.loadR Try.isAgg3 rfl|exact Ex.loadQ Try.isAgg3 rfl)) rfl ?_
          refine OQ.ex rfl (fun w H=>(by first|exact Ex.field0 fld42_1 rfl|exact Ex.field fld42_1 rfl|exact Ex.fieldS fld42_1 rfl|exact Ex.fieldIn fld42_1 rfl)) rfl ?_
          refine OQ.ex rfl (fun w H=>(by first|exact Ex.loadRA Try.isAgg3 rfl|exact Ex.loadRN Try.isAgg3 rfl|exact Ex.loadMh Try.isAgg3 rfl|exact Ex.loadInF Try.isAgg3 rfl (Holds.to (by assumption))|exact Ex.loadP Try.isAgg3 rfl|exact Ex.loadM Try.isAgg3 rfl|exact Ex.loadIn1 Try.isAgg3 rfl (Holds.to (by assumption))|exact Ex.loadVc Try.isAgg3 rfl|exact Ex.loadR Try.isAgg3 rfl|exact Ex.loadQ Try.isAgg3 rfl)) rfl ?_
          refine OQ.ex rfl (fun w H=>(by first|exact Ex.field0 fld42_2 rfl|exact Ex.field fld42_2 rfl|exact Ex.fieldS fld42_2 rfl|exact Ex.fieldIn fld42_2 rfl)) rfl ?_
          refine OQ.ex rfl (fun w H=>(by first|exact Ex.loadRA Try.isAgg3 rfl|exact Ex.loadRN Try.isAgg3 rfl|exact Ex.loadMh Try.isAgg3 rfl|exact Ex.loadInF Try.isAgg3 rfl (Holds.to (by assumption))|exact Ex.loadP Try.isAgg3 rfl|exact Ex.loadM Try.isAgg3 rfl|exact Ex.loadIn1 Try.isAgg3 rfl (Holds.to (by assumption))|exact Ex.loadVc Try.isAgg3 rfl|exact Ex.loadR Try.isAgg3 rfl|exact Ex.loadQ Try.isAgg3 rfl)) rfl ?_
          refine OQ.ex rfl (fun w H=>(Ex.idxArr Try.runUnderlying56 Try.sizeOf55 rfl rfl)) rfl ?_
          refine OQ.ex rfl (fun w H=>(Ex.idxArr Try.runUnderlying55 Try.sizeOf3 rfl rfl)) rfl ?_
          refine OQ.last rfl (by decide +kernel) ?_
          first|refine O.storeP Try.sizeOf3 rfl rfl (fun w H=>?_)|refine O.storeR Try.sizeOf3 rfl rfl (fun w H=>?_)|refine O.storeM Try.sizeOf3 rfl rfl (fun w H=>?_)|refine O.storeVc Try.sizeOf3 rfl rfl (fun w H=>?_)|refine O.storeQ Try.sizeOf3 rfl rfl (fun w H=>?_)
          refine O.nil ?_
          refine hK17 _ _ _ ?_
          refine W.region ?_
          refine O.ex (Ex.move rfl) rfl ?_
          refine O.ex (by first|exact Ex.addI rfl rfl|exact Ex.add rfl rfl rfl) rfl ?_
          refine O.ex (Ex.assign rfl) rfl ?_
          refine O.nil ?_
          first
          | (have hop' : a.cl = false:=by simpa using hop
             have hl' : a.w < Dq a.t a.h:=hl1
             have e : d1 s Dq id = upd2 Dq a.t a.h a.w:=by unfold d1; rw [← ha]; exact if_pos ⟨hop',hl'⟩
             rw [← e,← eDs] at H
             exact ⟨q + 1,⟨rfl,rfl,rfl,rfl,rfl,trivial⟩,⟨rfl,by omega,Holds.to (by assumption)⟩,by omega⟩)
          | (have e : d1 s Dq id = Dq:=by
               unfold d1; rw [← ha]
               refine if_neg (fun hh=>?_)
               first
               | exact hl2 hh.2
               | (have h8 : (!a.cl) = false:=by simpa using hcl
                  rw [hh.1] at h8; cases h8)
             rw [← e,← eDs] at H
             exact ⟨q + 1,⟨rfl,rfl,rfl,rfl,rfl,trivial⟩,⟨rfl,by omega,Holds.to (by assumption)⟩,by omega⟩)
        · refine W.skip ?_
          refine hK17 _ _ _ ?_
          refine W.region ?_
          refine O.ex (Ex.move rfl) rfl ?_
          refine O.ex (by first|exact Ex.addI rfl rfl|exact Ex.add rfl rfl rfl) rfl ?_
          refine O.ex (Ex.assign rfl) rfl ?_
          refine O.nil ?_
          first
          | (have hop' : a.cl = false:=by simpa using hop
             have hl' : a.w < Dq a.t a.h:=hl1
             have e : d1 s Dq id = upd2 Dq a.t a.h a.w:=by unfold d1; rw [← ha]; exact if_pos ⟨hop',hl'⟩
             rw [← e,← eDs] at H
             exact ⟨q + 1,⟨rfl,rfl,rfl,rfl,rfl,trivial⟩,⟨rfl,by omega,Holds.to (by assumption)⟩,by omega⟩)
          | (have e : d1 s Dq id = Dq:=by
               unfold d1; rw [← ha]
               refine if_neg (fun hh=>?_)
               first
               | exact hl2 hh.2
               | (have h8 : (!a.cl) = false:=by simpa using hcl
                  rw [hh.1] at h8; cases h8)
             rw [← e,← eDs] at H
             exact ⟨q + 1,⟨rfl,rfl,rfl,rfl,rfl,trivial⟩,⟨rfl,by omega,Holds.to (by assumption)⟩,by omega⟩)
      · refine OQ.exF rfl rfl rfl rfl rfl ?_
        refine OQ.exF rfl rfl rfl rfl rfl ?_
        refine OQ.exF rfl rfl rfl rfl rfl ?_
        refine OQ.exF rfl rfl rfl rfl rfl ?_
        refine OQ.exF rfl rfl rfl rfl rfl ?_
        refine OQ.exF rfl rfl rfl rfl rfl ?_
        refine OQ.exF rfl rfl rfl rfl rfl ?_
        refine OQ.exF rfl rfl rfl rfl rfl ?_
        refine OQ.exF rfl rfl rfl rfl rfl ?_
        refine OQ.exF rfl rfl rfl rfl rfl ?_
        refine OQ.ex rfl (fun w H=>(Ex.pick_f rfl rfl)) rfl ?_
        refine OQ.done ?_
        refine hK19 _ _ _ ?_
        refine W.cond_f rfl ?_
        refine W.skip ?_
        refine hK17 _ _ _ ?_
        refine W.region ?_
        refine O.ex (Ex.move rfl) rfl ?_
        refine O.ex (by first|exact Ex.addI rfl rfl|exact Ex.add rfl rfl rfl) rfl ?_
        refine O.ex (Ex.assign rfl) rfl ?_
        refine O.nil ?_
        first
        | (have hop' : a.cl = false:=by simpa using hop
           have hl' : a.w < Dq a.t a.h:=hl1
           have e : d1 s Dq id = upd2 Dq a.t a.h a.w:=by unfold d1; rw [← ha]; exact if_pos ⟨hop',hl'⟩
           rw [← e,← eDs] at H
           exact ⟨q + 1,⟨rfl,rfl,rfl,rfl,rfl,trivial⟩,⟨rfl,by omega,Holds.to (by assumption)⟩,by omega⟩)
        | (have e : d1 s Dq id = Dq:=by
             unfold d1; rw [← ha]
             refine if_neg (fun hh=>?_)
             first
             | exact hl2 hh.2
             | (have h8 : (!a.cl) = false:=by simpa using hcl
                rw [hh.1] at h8; cases h8)
           rw [← e,← eDs] at H
           exact ⟨q + 1,⟨rfl,rfl,rfl,rfl,rfl,trivial⟩,⟨rfl,by omega,Holds.to (by assumption)⟩,by omega⟩)
    · refine W.exit ?_
      refine hK13 _ _ _ ?_
      refine W.seq (fun K20 hK20=>?_)
      refine W.seq (fun K21 hK21=>?_)
      refine W.region ?_
      refine O.ex (Ex.assign rfl) rfl ?_
      refine O.nil ?_
      refine hK21 _ _ _ ?_
      refine W.block ?_
      obtain rfl : q = (idsI s).length:=by omega
      rw [List.take_length] at H
      have H : Holds w (mtx b3 56 [] (fw (cG s) 0)::mtx b2 56 [] (fun _ _=>0)::Rg r n most s::L):=by
        rw [mtx_congr (D:=fw (cG s) 0) (D':=dlM s (idsI s)) (fun a b _ _ _ _=>(dl_all hg a b).symm)]; exact Holds.to H
      refine W.loop (σ:=Nat) (fun k=>[(0,.pointer (some ⟨r,0,none⟩)),(2,.pointer (some ⟨b2,0,none⟩)),(3,.pointer (some ⟨b3,0,none⟩)),(9,.int .i64 (k : Int))]) (fun k ds w=>ds = [] ∧ (k : Int) ≤ n ∧ Holds w (mtx b3 56 [] (fw (cG s) k)::mtx b2 56 [] (fun _ _=>0)::Rg r n most s::L)) (fun k=>n.toNat - k) 0 ⟨rfl,rfl,rfl,rfl,trivial⟩ ⟨rfl,by omega,H⟩ ?_
      clear H
      rintro k _ w ⟨rfl,hk,H⟩
      have hD:=fw_dst hG k
      have hd:=fw_diag hG k (k : Nat)
      refine W.seq (fun K22 hK22=>?_)
      refine W.seq (fun K23 hK23=>?_)
      refine W.region ?_
      refine O.ex (Ex.move rfl) rfl ?_
      refine O.ex (Ex.move rfl) rfl ?_
      refine O.ex (by first|exact Ex.nilPtr rfl|exact Ex.nilFunc rfl|exact Ex.nilYield rfl) rfl ?_
      refine O.ex (by first|exact Ex.field0 fld45_0 rfl|exact Ex.field fld45_0 rfl|exact Ex.fieldS fld45_0 rfl|exact Ex.fieldIn fld45_0 rfl) rfl ?_
      refine O.ex (by first|exact Ex.loadRA Try.isAgg3 rfl|exact Ex.loadRN Try.isAgg3 rfl|exact Ex.loadMh Try.isAgg3 rfl|exact Ex.loadInF Try.isAgg3 rfl (Holds.to (by assumption))|exact Ex.loadP Try.isAgg3 rfl|exact Ex.loadM Try.isAgg3 rfl|exact Ex.loadIn1 Try.isAgg3 rfl (Holds.to (by assumption))|exact Ex.loadVc Try.isAgg3 rfl|exact Ex.loadR Try.isAgg3 rfl|exact Ex.loadQ Try.isAgg3 rfl) rfl ?_
      refine O.ex (Ex.lss rfl rfl) rfl ?_
      refine O.nil ?_
      refine hK23 _ _ _ ?_
      first|refine W.cond_p rfl (fun hlt3=>?_) (fun hge3=>?_)|refine W.cond_b rfl (fun hlt3=>?_) (fun hge3=>?_)
      · refine W.skip ?_
        refine hK22 _ _ _ ?_
        refine W.seq (fun K24 hK24=>?_)
        refine W.block ?_
        refine W.seq (fun K25 hK25=>?_)
        refine W.region ?_
        refine O.ex (Ex.assign rfl) rfl ?_
        refine O.nil ?_
        refine hK25 _ _ _ ?_
        refine W.block ?_
        have H : Holds w (mtx b3 56 [] (fwE (fw (cG s) k) n k ((0 : Nat) : Int) 0)::mtx b2 56 [] (fun _ _=>0)::Rg r n most s::L):=by
          rw [mtx_congr (D:=fwE (fw (cG s) k) n k ((0 : Nat) : Int) 0) (D':=fw (cG s) k) (fun a b h0 _ h2 _=>if_neg (by omega))]; exact Holds.to (by assumption)
        refine W.loop (σ:=Nat) (fun u=>[(0,.pointer (some ⟨r,0,none⟩)),(2,.pointer (some ⟨b2,0,none⟩)),(3,.pointer (some ⟨b3,0,none⟩)),(9,.int .i64 (k : Int)),(10,.int .i64 (u : Int))]) (fun u ds w=>ds = [] ∧ (u : Int) ≤ n ∧ Holds w (mtx b3 56 [] (fwE (fw (cG s) k) n k u 0)::mtx b2 56 [] (fun _ _=>0)::Rg r n most s::L)) (fun u=>n.toNat - u) 0 ⟨rfl,rfl,rfl,rfl,rfl,trivial⟩ ⟨rfl,by omega,H⟩ ?_
        clear H
        rintro u _ w ⟨rfl,hu,H⟩
        refine W.seq (fun K26 hK26=>?_)
        refine W.seq (fun K27 hK27=>?_)
        refine W.region ?_
        refine O.ex (Ex.move rfl) rfl ?_
        refine O.ex (Ex.move rfl) rfl ?_
        refine O.ex (by first|exact Ex.nilPtr rfl|exact Ex.nilFunc rfl|exact Ex.nilYield rfl) rfl ?_
        refine O.ex (by first|exact Ex.field0 fld45_0 rfl|exact Ex.field fld45_0 rfl|exact Ex.fieldS fld45_0 rfl|exact Ex.fieldIn fld45_0 rfl) rfl ?_
        refine O.ex (by first|exact Ex.loadRA Try.isAgg3 rfl|exact Ex.loadRN Try.isAgg3 rfl|exact Ex.loadMh Try.isAgg3 rfl|exact Ex.loadInF Try.isAgg3 rfl (Holds.to (by assumption))|exact Ex.loadP Try.isAgg3 rfl|exact Ex.loadM Try.isAgg3 rfl|exact Ex.loadIn1 Try.isAgg3 rfl (Holds.to (by assumption))|exact Ex.loadVc Try.isAgg3 rfl|exact Ex.loadR Try.isAgg3 rfl|exact Ex.loadQ Try.isAgg3 rfl) rfl ?_
        refine O.ex (Ex.lss rfl rfl) rfl ?_
        refine O.nil ?_
        refine hK27 _ _ _ ?_
        first|refine W.cond_p rfl (fun hlt4=>?_) (fun hge4=>?_)|refine W.cond_b rfl (fun hlt4=>?_) (fun hge4=>?_)
        · refine W.skip ?_
          refine hK26 _ _ _ ?_
          refine W.seq (fun K28 hK28=>?_)
          refine W.block ?_
          refine W.seq (fun K29 hK29=>?_)
          refine W.region ?_
          refine O.ex (Ex.assign rfl) rfl ?_
          refine O.nil ?_
          refine hK29 _ _ _ ?_
          refine W.block ?_
          refine W.loop (σ:=Nat) (fun v=>[(0,.pointer (some ⟨r,0,none⟩)),(2,.pointer (some ⟨b2,0,none⟩)),(3,.pointer (some ⟨b3,0,none⟩)),(9,.int .i64 (k : Int)),(10,.int .i64 (u : Int)),(11,.int .i64 (v : Int))]) (fun v ds w=>ds = [] ∧ (v : Int) ≤ n ∧ Holds w (mtx b3 56 [] (fwE (fw (cG s) k) n k u v)::mtx b2 56 [] (fun _ _=>0)::Rg r n most s::L)) (fun v=>n.toNat - v) 0 ⟨rfl,rfl,rfl,rfl,rfl,rfl,trivial⟩ ⟨rfl,by omega,Holds.to (by assumption)⟩ ?_
          clear H
          rintro v _ w ⟨rfl,hv,H⟩
          have hE:=fwE_dst (n:=n) (k:=(k : Int)) (u:=(u : Int)) (w:=(v : Int)) hD
          have e1:=fwE_col (n:=n) (u:=(u : Int)) (w:=(v : Int)) hD hd (u : Int)
          have e2:=fwE_row (n:=n) (u:=(u : Int)) (w:=(v : Int)) hD hd (v : Int)
          have e3:=fwE_at (D:=fw (cG s) k) (n:=n) (k:=(k : Int)) (u:=(u : Int)) (w:=(v : Int))
          refine W.seq (fun K30 hK30=>?_)
          refine W.seq (fun K31 hK31=>?_)
          refine W.region ?_
          refine O.ex (Ex.move rfl) rfl ?_
          refine O.ex (Ex.move rfl) rfl ?_
          refine O.ex (by first|exact Ex.nilPtr rfl|exact Ex.nilFunc rfl|exact Ex.nilYield rfl) rfl ?_
          refine O.ex (by first|exact Ex.field0 fld45_0 rfl|exact Ex.field fld45_0 rfl|exact Ex.fieldS fld45_0 rfl|exact Ex.fieldIn fld45_0 rfl) rfl ?_
          refine O.ex (by first|exact Ex.loadRA Try.isAgg3 rfl|exact Ex.loadRN Try.isAgg3 rfl|exact Ex.loadMh Try.isAgg3 rfl|exact Ex.loadInF Try.isAgg3 rfl (Holds.to (by assumption))|exact Ex.loadP Try.isAgg3 rfl|exact Ex.loadM Try.isAgg3 rfl|exact Ex.loadIn1 Try.isAgg3 rfl (Holds.to (by assumption))|exact Ex.loadVc Try.isAgg3 rfl|exact Ex.loadR Try.isAgg3 rfl|exact Ex.loadQ Try.isAgg3 rfl) rfl ?_
          refine O.ex (Ex.lss rfl rfl) rfl ?_
          refine O.nil ?_
          refine hK31 _ _ _ ?_
          first|refine W.cond_p rfl (fun hlt5=>?_) (fun hge5=>?_)|refine W.cond_b rfl (fun hlt5=>?_) (fun hge5=>?_)
          · refine W.skip ?_
            refine hK30 _ _ _ ?_
            refine W.seq (fun K32 hK32=>?_)
            refine W.block ?_
            refine W.seq (fun K33 hK33=>?_)
            refine W.drawTo _ (.take 0 (.take 1 (.take 2 (.take 3 (.take 4 (.take 5 (.take 6 (.take 7 (.take 8 (.take 9 (.one 10 (.take 11 .nil)))))))))))) (mixed) (fun _ _ _ _ h=>h) (by assumption) (PP.refl _) (by decide +kernel) (fun w H=>?_)
            refine OQ.ex rfl (fun w H=>(Ex.move rfl)) rfl ?_
            refine OQ.ex rfl (fun w H=>(Ex.move rfl)) rfl ?_
            refine OQ.ex rfl (fun w H=>(Ex.idxArr Try.runUnderlying56 Try.sizeOf55 rfl rfl)) rfl ?_
            refine OQ.ex rfl (fun w H=>(Ex.idxArr Try.runUnderlying55 Try.sizeOf3 rfl rfl)) rfl ?_
            refine OQ.ex rfl (fun w H=>(by first|exact Ex.loadRA Try.isAgg3 rfl|exact Ex.loadRN Try.isAgg3 rfl|exact Ex.loadM Try.isAgg3 rfl|exact Ex.loadVc Try.isAgg3 rfl|exact Ex.loadP Try.isAgg3 rfl|exact Ex.loadInF Try.isAgg3 rfl (Holds.to (by assumption))|exact Ex.loadIn1 Try.isAgg3 rfl (Holds.to (by assumption))|exact Ex.loadMh Try.isAgg3 rfl|exact Ex.loadR Try.isAgg3 rfl|exact Ex.loadQ Try.isAgg3 rfl)) rfl ?_
            refine OQ.ex rfl (fun w H=>(Ex.move rfl)) rfl ?_
            refine OQ.ex rfl (fun w H=>(Ex.move rfl)) rfl ?_
            refine OQ.ex rfl (fun w H=>(Ex.idxArr Try.runUnderlying56 Try.sizeOf55 rfl rfl)) rfl ?_
            refine OQ.ex rfl (fun w H=>(Ex.idxArr Try.runUnderlying55 Try.sizeOf3 rfl rfl)) rfl ?_
            refine OQ.ex rfl (fun w H=>(by first|exact Ex.loadRA Try.isAgg3 rfl|exact Ex.loadRN Try.isAgg3 rfl|exact Ex.loadM Try.isAgg3 rfl|exact Ex.loadVc Try.isAgg3 rfl|exact Ex.loadP Try.isAgg3 rfl|exact Ex.loadInF Try.isAgg3 rfl (Holds.to (by assumption))|exact Ex.loadIn1 Try.isAgg3 rfl (Holds.to (by assumption))|exact Ex.loadMh Try.isAgg3 rfl|exact Ex.loadR Try.isAgg3 rfl|exact Ex.loadQ Try.isAgg3 rfl)) rfl ?_
            refine OQ.step rfl ?_
            refine O.callF Try.call21 rfl rfl (CT.mono (refTwo_ct (Holds.to (by assumption)) (hE _ _) (hE _ _)) ?_)
            rintro _ w ⟨rfl,H⟩
            refine O.thenNil ⟨(by first|exact Holds.to (by assumption)|assumption),?_⟩
            refine OQ.ex rfl (fun w H=>(Ex.assign rfl)) rfl ?_
            refine OQ.done ?_
            refine hK33 _ _ _ ?_
            refine W.seq (fun K34 hK34=>?_)
            refine W.region ?_
            rw [e1,e2]
            refine O.ex (Ex.move rfl) rfl ?_
            refine O.ex (Ex.move rfl) rfl ?_
            refine O.ex (Ex.move rfl) rfl ?_
            refine O.ex (Ex.idxArr Try.runUnderlying56 Try.sizeOf55 rfl rfl) rfl ?_
            refine O.ex (Ex.idxArr Try.runUnderlying55 Try.sizeOf3 rfl rfl) rfl ?_
            refine O.ex (by first|exact Ex.loadRA Try.isAgg3 rfl|exact Ex.loadRN Try.isAgg3 rfl|exact Ex.loadM Try.isAgg3 rfl|exact Ex.loadVc Try.isAgg3 rfl|exact Ex.loadP Try.isAgg3 rfl|exact Ex.loadInF Try.isAgg3 rfl (Holds.to (by assumption))|exact Ex.loadIn1 Try.isAgg3 rfl (Holds.to (by assumption))|exact Ex.loadMh Try.isAgg3 rfl|exact Ex.loadR Try.isAgg3 rfl|exact Ex.loadQ Try.isAgg3 rfl) rfl ?_
            rw [e3]
            refine O.ex (Ex.lss rfl rfl) rfl ?_
            refine O.nil ?_
            refine hK34 _ _ _ ?_
            first|refine W.cond_p rfl (fun hm1=>?_) (fun hm2=>?_)|refine W.cond_b rfl (fun hm1=>?_) (fun hm2=>?_)
            · refine W.region ?_
              refine O.ex (Ex.move rfl) rfl ?_
              refine O.ex (Ex.move rfl) rfl ?_
              refine O.ex (Ex.move rfl) rfl ?_
              refine O.ex (Ex.idxArr Try.runUnderlying56 Try.sizeOf55 rfl rfl) rfl ?_
              refine O.ex (Ex.idxArr Try.runUnderlying55 Try.sizeOf3 rfl rfl) rfl ?_
              first|refine O.storeP Try.sizeOf3 rfl rfl (fun w H=>?_)|refine O.storeR Try.sizeOf3 rfl rfl (fun w H=>?_)|refine O.storeM Try.sizeOf3 rfl rfl (fun w H=>?_)|refine O.storeVc Try.sizeOf3 rfl rfl (fun w H=>?_)|refine O.storeQ Try.sizeOf3 rfl rfl (fun w H=>?_)
              refine O.nil ?_
              refine hK32 _ _ _ ?_
              refine W.region ?_
              refine O.ex (Ex.move rfl) rfl ?_
              refine O.ex (by first|exact Ex.addI rfl rfl|exact Ex.add rfl rfl rfl) rfl ?_
              refine O.ex (Ex.assign rfl) rfl ?_
              refine O.nil ?_
              first
              | (rw [fwE_lt (by omega) (by omega) hm1] at H
                 exact ⟨v + 1,⟨rfl,rfl,rfl,rfl,rfl,rfl,trivial⟩,⟨rfl,by omega,Holds.to (by assumption)⟩,by omega⟩)
              | (rw [fwE_ge hm2] at H
                 exact ⟨v + 1,⟨rfl,rfl,rfl,rfl,rfl,rfl,trivial⟩,⟨rfl,by omega,Holds.to (by assumption)⟩,by omega⟩)
            · refine W.skip ?_
              refine hK32 _ _ _ ?_
              refine W.region ?_
              refine O.ex (Ex.move rfl) rfl ?_
              refine O.ex (by first|exact Ex.addI rfl rfl|exact Ex.add rfl rfl rfl) rfl ?_
              refine O.ex (Ex.assign rfl) rfl ?_
              refine O.nil ?_
              first
              | (rw [fwE_lt (by omega) (by omega) hm1] at H
                 exact ⟨v + 1,⟨rfl,rfl,rfl,rfl,rfl,rfl,trivial⟩,⟨rfl,by omega,Holds.to (by assumption)⟩,by omega⟩)
              | (rw [fwE_ge hm2] at H
                 exact ⟨v + 1,⟨rfl,rfl,rfl,rfl,rfl,rfl,trivial⟩,⟨rfl,by omega,Holds.to (by assumption)⟩,by omega⟩)
          · refine W.exit ?_
            refine hK28 _ _ _ ?_
            refine W.region ?_
            refine O.ex (Ex.move rfl) rfl ?_
            refine O.ex (by first|exact Ex.addI rfl rfl|exact Ex.add rfl rfl rfl) rfl ?_
            refine O.ex (Ex.assign rfl) rfl ?_
            refine O.nil ?_
            have H : Holds w (mtx b3 56 [] (fwE (fw (cG s) k) n k ((u + 1 : Nat) : Int) 0)::mtx b2 56 [] (fun _ _=>0)::Rg r n most s::L):=by
              rw [mtx_congr (D:=fwE (fw (cG s) k) n k ((u + 1 : Nat) : Int) 0) (D':=fwE (fw (cG s) k) n k u v) (fun a b h0 _ h2 _=>by
                unfold fwE
                by_cases e : a < n ∧ b < n ∧ (a < (u : Nat) ∨ (a = (u : Nat) ∧ b < (v : Nat)))
                · rw [if_pos e,if_pos (by omega)]
                · rw [if_neg e,if_neg (by omega)])]; exact Holds.to (by assumption)
            exact ⟨u + 1,⟨rfl,rfl,rfl,rfl,rfl,trivial⟩,⟨rfl,by omega,Holds.to (by assumption)⟩,by omega⟩
        · refine W.exit ?_
          refine hK24 _ _ _ ?_
          refine W.region ?_
          refine O.ex (Ex.move rfl) rfl ?_
          refine O.ex (by first|exact Ex.addI rfl rfl|exact Ex.add rfl rfl rfl) rfl ?_
          refine O.ex (Ex.assign rfl) rfl ?_
          refine O.nil ?_
          have H : Holds w (mtx b3 56 [] (fw (cG s) (k + 1))::mtx b2 56 [] (fun _ _=>0)::Rg r n most s::L):=by
            rw [mtx_congr (D:=fw (cG s) (k + 1)) (D':=fwE (fw (cG s) k) n k u 0) (fun a b h0 _ h2 _=>by
              have hout:=fw_out hG k
              unfold fwE
              by_cases e : a < n ∧ b < n ∧ (a < (u : Nat) ∨ (a = (u : Nat) ∧ b < 0))
              · rw [if_pos e]; rfl
              · rw [if_neg e]
                show min (fw (cG s) k a b) (two (fw (cG s) k a (k : Nat)) (fw (cG s) k (k : Nat) b)) = _
                by_cases ea : a < n
                · rw [hout (k : Nat) b (by omega) (by omega) (by omega),two_none_right,Int.min_def,if_pos (hD _ _).2]
                · rw [hout a (k : Nat) (by omega) (by omega) (by omega),two_none_left,Int.min_def,if_pos (hD _ _).2])]; exact Holds.to (by assumption)
          exact ⟨k + 1,⟨rfl,rfl,rfl,rfl,trivial⟩,⟨rfl,by omega,Holds.to (by assumption)⟩,by omega⟩
      · refine W.exit ?_
        refine hK20 _ _ _ ?_
        refine W.seq (fun K35 hK35=>?_)
        refine W.region ?_
        obtain rfl : k = n.toNat:=by omega
        refine O.ex (Ex.loadMall Try.isAgg56 Try.sizeOf56 (hd:=[]) rfl rfl) rfl ?_
        refine O.storeMall (hd:=[]) Try.sizeOf56 rfl rfl rfl rfl rfl (fun w H=>?_)
        refine O.nil ?_
        refine hK35 _ _ _ ?_
        refine W.ret ?_
        try dsimp only [thenQ,blockQ,retQ]
        first|refine ⟨_,⟨_,_,_,rfl,rfl,(by first|exact loadVar_mtx Try.isAgg56 Try.sizeOf56|exact loadVar_agg Try.isAgg56 Try.sizeOf56),rfl⟩,?_⟩|(refine retD_mark ?_; intro w H; refine ⟨_,⟨_,_,_,rfl,rfl,(by first|exact loadVar_mtx Try.isAgg56 Try.sizeOf56|exact loadVar_agg Try.isAgg56 Try.sizeOf56),rfl⟩,?_⟩)|(refine retD_mark2 ?_; intro w H; refine ⟨_,⟨_,_,_,rfl,rfl,(by first|exact loadVar_mtx Try.isAgg56 Try.sizeOf56|exact loadVar_agg Try.isAgg56 Try.sizeOf56),rfl⟩,?_⟩)
        exact ⟨rfl,Holds.to (by assumption)⟩
theorem Ex.sliceArrHi {P : Program} {N : Nat} {l : Regs} {w : World} {ty t T : TypeId} {x y : Operand} {k : IntKind} {n b off sz : Nat} {i : Int} (hu : UndIs P t (.array n T)) (hs : SizeIs P T sz) (hn : 0 < n) (e1 : ev l x = some (.pointer (some ⟨b,off,none⟩))) (e2 : ev l y = some (.int k i)) (h0 : 0 ≤ i) (h1 : i ≤ n) :
    Ex P N l (.slice t x none (some y) none) ty w (.slice (some ⟨b,off,none⟩) i.toNat n) w :=
  ⟨nofun,fun _ _ _ r hr=>by
    have hn0 : ¬ n = 0:=by omega
    simp [execOp,Instr.sliceAt,Instr.sureAddr,Instr.sliceBounds,Instr.sliceBound,hr.eval e1,hr.eval e2,asIntOf,hu w,hs w,h0,h1,hn0,add_off]⟩
/-- append of cells that lie wherever they lie. -/
theorem O.appendX {P : Program} {ro : Option Nat} {N : Nat} {Q : Q0} {l : Regs} {ds : List Deferred} {w : World} {ops : Array Oper} {os : List Oper} {d : Tmp} {ty : TypeId} {pos : String} {af : Array Edge} {x y : Operand} {t T : TypeId} {α : Type} {L : List HProp} {info : TypeInfo} {zv : Value} {e : α → Value} {v : Value} {xs ys : List α} {ats : Array TypeId} {bt b off c : Nat} (hu : UndIs P t (.slice T)) (hI : InfoIs P T info) (hbt : info.bytes = bt) (hs : SizeIs P T 1) (hz : ZeroIs P T zv)
    (e1 : ev l x = some v) (e2 : ev l y = some (.slice (some ⟨b,off,none⟩) ys.length c)) (hnews : ∀ j u,(ys.map e)[j]? = some u → w.cell? ((Addr.mk b off none).add j) = some u)
    (h : ∀ v' w',v'.oneCell' = true → Holds w' (arr T e v' (xs ++ ys)::L) → O P ro N ops os Q ((d,v')::l) ds w')
    (H : Holds w (arr T e v xs::L)) (h63 : xs.length + ys.length ≤ 9223372036854775807) (hb : (xs.length + ys.length) * bt ≤ 140737488355328)
    (ht : ats = #[t,t]:=by rfl) (hzc : zv.oneCell' = true:=by rfl) (he : ∀ x,(e x).oneCell' = true:=by intros; rfl) (hd : Nat.blt d N = true:=by rfl) :
    O P ro N ops (⟨some d,.call ⟨.builtin .append,#[x,y],ats⟩,ty,pos,af,none⟩::os) Q l ds w:=by
  subst ht hbt
  have hzs : zv.cells.size = 1:=by rw [cells_one hzc]; rfl
  have key : ∃ v' w',(Builtin.append_ #[t,t] ty #[v,.slice (some ⟨b,off,none⟩) ys.length c]).run P w = .ok v' w' ∧ Holds w' (arr T e v' (xs ++ ys)::L):=by
    rcases arr_cases H with ⟨rfl,rfl,H2⟩|⟨g,cap,rest,rfl,hcap,H2⟩
    · rcases Nat.eq_zero_or_pos ys.length with h0|h0
      · obtain rfl : ys = []:=List.length_eq_zero_iff.1 h0
        exact ⟨_,_,append_zero (v:=.slice none 0 0) hu hs rfl (Nat.le_refl _),by simpa using H⟩
      · obtain ⟨g',cap',rest',w',hrun,hl,hcl,H3⟩:=append_none (ty:=ty) hu hI hs hz hzs (news:=ys.map e) (m:=ys.length) (c:=c) (by simp) hnews h0 H2 (by simpa using h63) (by simpa using hb)
        exact ⟨_,_,hrun,arr_mk (by simpa using hl) H3⟩
    · obtain ⟨g',cap',rest',w',hrun,hl,hcl,H3⟩:=append_some (ty:=ty) hu hI hs hz hzs (olds:=xs.map e) (n:=xs.length) (cap:=cap) (m:=ys.length) (c:=c) (news:=ys.map e) (by simp) (by simpa using hcap) (by omega) (by simp) hnews (by intro u hu; obtain ⟨a,_,rfl⟩:=List.mem_map.1 hu; exact he a) H2 (by simpa using h63) (by simpa using hb)
      have H4 : Holds w' (pt g' (.cells ((xs ++ ys).map e ++ rest').toArray T (0,0))::L):=by
        rw [List.map_append]; exact H3
      have:=arr_mk (cap:=cap') (xs:=xs ++ ys) (by simpa using hl) H4
      rw [List.length_append] at this
      exact ⟨_,_,hrun,this⟩
  obtain ⟨v',w',h1,h2⟩:=key
  refine O.val nofun (by simpa using hd) (fun a ha=>?_) (h _ _ (arr_one h2) h2)
  simp only [execOp,resolve,invoke,builtin,List.map_toArray,List.map_cons,List.map_nil,ha.eval e1,ha.eval e2,Sem.run_bind,Sem.run_pure,Result.andThen_ok,h1]
end Go.Proofs.Ytliofdfhimmjmaa
namespace Go.Proofs.Ytliofdfhimmjmaa
open Go.Rr Go Gr Hp
set_option linter.unusedVariables false
set_option linter.unusedSimpArgs false
theorem row_news {w : World} {b T : Nat} {n v : Int} {c : Int → Int → Int} {L : List HProp} (h2 : n ≤ 24) (v0 : 0 ≤ v) (v1 : v < n) (H : Holds w (mtx b T [] (far n c)::L)) : ∀ j u,((farL n c v.toNat).map (Value.int .i64))[j]? = some u → w.cell? ((Addr.mk b (0 + v.toNat * 24) none).add j) = some u:=by
  intro j u hu
  rw [add_off]
  by_cases hj : j < n.toNat
  · have h:=mtx_get (c:=0) (u:=v) (v:=(j : Int)) H rfl v0 (by omega) (by omega) (by omega)
    unfold farL at hu
    rw [List.getElem?_map,List.getElem?_map,List.getElem?_range hj] at hu
    simp only [Option.map_some,Option.some.injEq] at hu
    rw [← hu]
    rw [Int.toNat_natCast,Nat.mul_one] at h
    rw [h,show ((v.toNat : Nat) : Int) = v by omega]
  · rw [List.getElem?_eq_none (by rw [List.length_map,farL_len]; omega)] at hu
    cases hu
theorem rfrom_ct {w : World} {r : Nat} {n most v : Int} {s : St} {L : List HProp} (hg : GOk n most s) (v0 : 0 ≤ v) (v1 : v < n) (H : Holds w (Rg r n most s::L)) :
    CT Try.prog 14 [.pointer (some ⟨r,0,none⟩),.int .i64 v] w fun u w'=>u.oneCell' = true ∧ Holds w' (arr 3 (Value.int .i64) u (farL n (cG s) v.toNat)::Rg r n most s::L):=by
  have n1:=hg.n1
  have n2:=hg.n2
  have hFl:=farL_len n (cG s) v.toNat
  refine CT.enter (N:=17) Try.func14 rfl rfl rfl rfl ?_
  refine W.seq (fun K0 hK0=>?_)
  refine W.region ?_
  refine O.ex (Ex.assign rfl) rfl ?_
  refine O.nil ?_
  refine hK0 _ _ _ ?_
  refine W.seq (fun K1 hK1=>?_)
  refine W.region ?_
  refine O.ex (Ex.move rfl) rfl ?_
  refine O.callF Try.call30 rfl rfl (CT.mono (rall_ct hg (Holds.to (by assumption))) ?_)
  rintro _ w ⟨rfl,H⟩
  refine O.allocM [] nzS (fun b5 w H=>?_)
  refine O.storeMall (hd:=[]) Try.sizeOf56 rfl rfl rfl rfl rfl (fun w H=>?_)
  refine O.nil ?_
  refine hK1 _ _ _ ?_
  refine W.seq (fun K2 hK2=>?_)
  refine W.drawTo (mtx b5 56 [] (far n (cG s))::Rg r n most s::[]) (.take 1 (.take 2 (.take 3 (.take 4 (.take 5 (.take 6 (.take 7 (.one 0 (.one 8 (.take 9 .nil)))))))))) (mixed) (fun _ _ _ _ h=>h) (by assumption) PP.auto (by decide +kernel) (fun w H=>?_)
  refine OQ.ex rfl (fun w H=>(Ex.move rfl)) rfl ?_
  refine OQ.ex rfl (fun w H=>(Ex.idxArr Try.runUnderlying56 Try.sizeOf55 rfl rfl)) rfl ?_
  refine OQ.ex rfl (fun w H=>(Ex.move rfl)) rfl ?_
  refine OQ.ex rfl (fun w H=>(by first|exact Ex.nilPtr rfl|exact Ex.nilFunc rfl|exact Ex.nilYield rfl)) rfl ?_
  refine OQ.ex rfl (fun w H=>(by first|exact Ex.field0 fld45_0 rfl|exact Ex.field fld45_0 rfl|exact Ex.fieldS fld45_0 rfl|exact Ex.fieldIn fld45_0 rfl)) rfl ?_
  refine OQ.ex rfl (fun w H=>(by first|exact Ex.loadRA Try.isAgg3 rfl|exact Ex.loadRN Try.isAgg3 rfl|exact Ex.loadMh Try.isAgg3 rfl|exact Ex.loadInF Try.isAgg3 rfl (Holds.to (by assumption))|exact Ex.loadP Try.isAgg3 rfl|exact Ex.loadM Try.isAgg3 rfl|exact Ex.loadIn1 Try.isAgg3 rfl (Holds.to (by assumption))|exact Ex.loadVc Try.isAgg3 rfl|exact Ex.loadR Try.isAgg3 rfl|exact Ex.loadQ Try.isAgg3 rfl)) rfl ?_
  refine OQ.ex rfl (fun w H=>(Ex.sliceArrHi (T:=3) (sz:=1) Try.runUnderlying55 Try.sizeOf3 (by decide) rfl rfl (by omega) (by omega))) rfl ?_
  refine OQ.step rfl ?_
  refine O.build0 (e:=Value.int .i64) Try.runUnderlying28 Try.sizeOf3 (fun v8 w hv8 H=>?_)
  refine O.thenNil ⟨(by first|exact Holds.to (by assumption)|assumption),?_⟩
  refine OQ.step rfl ?_
  refine O.appendX (e:=Value.int .i64) (xs:=([] : List Int)) (ys:=farL n (cG s) v.toNat) (bt:=8) (b:=b5) (off:=0 + v.toNat * 24) (c:=24) Try.runUnderlying28 Try.typeInfo3 rfl Try.sizeOf3 Try.zeroValue3 rfl (by rw [hFl]; rfl) (row_news n2 v0 v1 (Holds.to (M:=mtx b5 56 [] (far n (cG s))::[]) H)) (fun v16 w hv16 H=>?_) (Holds.to (by assumption)) (by rw [hFl]; simp only [List.length_nil]; omega) (by rw [hFl]; simp only [List.length_nil]; omega)
  refine O.thenNil ⟨(by first|exact Holds.to (by assumption)|assumption),?_⟩
  refine OQ.ex rfl (fun w H=>(Ex.assign rfl)) rfl ?_
  refine OQ.done ?_
  refine hK2 _ _ _ ?_
  refine W.ret ?_
  try dsimp only [thenQ,blockQ,retQ]
  first|refine ⟨_,⟨_,_,rfl,rfl,rfl⟩,?_⟩|(refine retD_mark ?_; intro w H; refine ⟨_,⟨_,_,rfl,rfl,rfl⟩,?_⟩)|(refine retD_mark2 ?_; intro w H; refine ⟨_,⟨_,_,rfl,rfl,rfl⟩,?_⟩)
  exact ⟨by assumption,Holds.to (by assumption)⟩
theorem nints_ct {w : World} {va vb : Value} {xs : List Int} {S1 S2 : HProp} {L : List HProp} (h1 : Rd S1 va xs) (h2 : Rd S2 vb xs) (hl : xs.length ≤ 1000) (H : Holds w (S1::S2::L)) :
    CT Try.prog 15 [va,vb] w fun u w'=>u = .bool true ∧ Holds w' (S1::S2::L):=by
  obtain ⟨a,ca,rfl⟩:=h1.form H
  obtain ⟨b,cb,rfl⟩:=h2.form H.swap
  refine CT.enter (N:=26) Try.func15 rfl rfl rfl rfl ?_
  refine W.seq (fun K0 hK0=>?_)
  refine W.region ?_
  refine O.ex (Ex.assign rfl) rfl ?_
  refine O.nil ?_
  refine hK0 _ _ _ ?_
  refine W.seq (fun K1 hK1=>?_)
  refine W.seq (fun K2 hK2=>?_)
  refine W.region ?_
  refine O.ex (Ex.move rfl) rfl ?_
  refine O.ex (by first|exact Ex.lenR Try.runUnderlying28 rfl|exact Ex.lenIn Try.runUnderlying28 rfl|exact Ex.lenL Try.runUnderlying28 rfl|exact Ex.len rfl Try.runUnderlying28 rfl) rfl ?_
  refine O.ex (Ex.move rfl) rfl ?_
  refine O.ex (by first|exact Ex.lenR Try.runUnderlying28 rfl|exact Ex.lenIn Try.runUnderlying28 rfl|exact Ex.lenL Try.runUnderlying28 rfl|exact Ex.len rfl Try.runUnderlying28 rfl) rfl ?_
  refine O.ex (Ex.neqI rfl rfl) rfl ?_
  refine O.nil ?_
  refine hK2 _ _ _ ?_
  refine W.known_f rfl (by first|rfl|decide|exact decide_eq_false (fun hh=>hh rfl)) ?_
  refine W.skip ?_
  refine hK1 _ _ _ ?_
  refine W.seq (fun K3 hK3=>?_)
  refine W.seq (fun K4 hK4=>?_)
  refine W.region ?_
  refine O.ex (Ex.assign rfl) rfl ?_
  refine O.nil ?_
  refine hK4 _ _ _ ?_
  refine W.block ?_
  refine W.loop (σ:=Nat) (fun i=>[(0,.slice a xs.length ca),(1,.slice b xs.length cb),(5,.int .i64 (i : Int))]) (fun i ds w=>ds = [] ∧ i ≤ xs.length ∧ Holds w (S1::S2::L)) (fun i=>xs.length - i) 0 ⟨rfl,rfl,rfl,trivial⟩ ⟨rfl,by omega,Holds.to (by assumption)⟩ ?_
  clear H
  rintro i _ w ⟨rfl,hi,H⟩
  refine W.seq (fun K5 hK5=>?_)
  refine W.seq (fun K6 hK6=>?_)
  refine W.region ?_
  refine O.ex (Ex.move rfl) rfl ?_
  refine O.ex (Ex.move rfl) rfl ?_
  refine O.ex (by first|exact Ex.lenR Try.runUnderlying28 rfl|exact Ex.lenIn Try.runUnderlying28 rfl|exact Ex.lenL Try.runUnderlying28 rfl|exact Ex.len rfl Try.runUnderlying28 rfl) rfl ?_
  refine O.ex (Ex.lss rfl rfl) rfl ?_
  refine O.nil ?_
  refine hK6 _ _ _ ?_
  first|refine W.cond_p rfl (fun hlt=>?_) (fun hge=>?_)|refine W.cond_b rfl (fun hlt=>?_) (fun hge=>?_)
  · refine W.skip ?_
    refine hK5 _ _ _ ?_
    refine W.seq (fun K7 hK7=>?_)
    refine W.block ?_
    refine W.seq (fun K8 hK8=>?_)
    have hil : i < xs.length:=by omega
    refine W.drawTo _ (.take 0 (.take 1 (.take 2 (.take 3 (.take 4 (.take 5 (.take 6 (.take 7 (.take 8 .nil))))))))) (mixed) (fun _ _ _ _ h=>h) (by assumption) (PP.refl _) (by decide +kernel) (fun w H=>?_)
    refine OQ.ex rfl (fun w H=>(Ex.move rfl)) rfl ?_
    refine OQ.ex rfl (fun w H=>(Ex.move rfl)) rfl ?_
    refine OQ.ex rfl (fun w H=>(Ex.idxRd h1 Try.runUnderlying28 Try.sizeOf3 rfl rfl)) rfl ?_
    refine OQ.ex rfl (fun w H=>(Ex.loadRd (i:=i) h1 Try.isAgg3 rfl)) rfl ?_
    refine OQ.ex rfl (fun w H=>(Ex.move rfl)) rfl ?_
    refine OQ.ex rfl (fun w H=>(Ex.move rfl)) rfl ?_
    refine OQ.ex rfl (fun w H=>(Ex.idxRd h2 Try.runUnderlying28 Try.sizeOf3 rfl rfl)) rfl ?_
    refine OQ.ex rfl (fun w H=>(Ex.loadRd (i:=i) h2 Try.isAgg3 rfl)) rfl ?_
    refine OQ.ex rfl (fun w H=>(Ex.neqI rfl rfl)) rfl ?_
    refine OQ.done ?_
    refine hK8 _ _ _ ?_
    refine W.known_f rfl (by first|rfl|decide|exact decide_eq_false (fun hh=>hh rfl)) ?_
    refine W.skip ?_
    refine hK7 _ _ _ ?_
    refine W.region ?_
    refine O.ex (Ex.move rfl) rfl ?_
    refine O.ex (by first|exact Ex.addI rfl rfl|exact Ex.add rfl rfl rfl) rfl ?_
    refine O.ex (Ex.assign rfl) rfl ?_
    refine O.nil ?_
    exact ⟨i + 1,⟨rfl,rfl,rfl,trivial⟩,⟨rfl,by omega,Holds.to (by assumption)⟩,by omega⟩
  · refine W.exit ?_
    refine hK3 _ _ _ ?_
    refine W.seq (fun K9 hK9=>?_)
    refine W.region ?_
    refine O.ex (Ex.assign rfl) rfl ?_
    refine O.nil ?_
    refine hK9 _ _ _ ?_
    refine W.ret ?_
    try dsimp only [thenQ,blockQ,retQ]
    first|refine ⟨_,⟨_,_,rfl,rfl,rfl⟩,?_⟩|(refine retD_mark ?_; intro w H; refine ⟨_,⟨_,_,rfl,rfl,rfl⟩,?_⟩)|(refine retD_mark2 ?_; intro w H; refine ⟨_,⟨_,_,rfl,rfl,rfl⟩,?_⟩)
    exact ⟨rfl,by first|assumption|exact Holds.to (by assumption)⟩
end Go.Proofs.Ytliofdfhimmjmaa
