/- Several texts as one: RefG RefG2 RefG3 Law08 Law08b Law08c RefTwo. -/
import Derived.Test.YtliofdfhimmjmaaGraphAll
import Derived.Test.YtliofdfhimmjmaaRrBase
import Derived.Test.YtliofdfhimmjmaaBits
import Derived.Test.YtliofdfhimmjmaaMesh
namespace Go.Proofs.Ytliofdfhimmjmaa
open Go.Rr Go Gr
set_option linter.unusedVariables false
def rf (n most : Int) (st sa : St) : Nat → Value:=fun q=>if q = 0 then .int .i64 n else if q = 1 then .int .i64 most else if q < 66 then .bool (st (q - 2)).tk else arcc (sa ((q - 66) / 4)).a ((q - 66) % 4)
/-- The document's graph: which places are taken, and the arcs. -/
def Rg2 (r : Nat) (n most : Int) (st sa : St) : HProp:=cel r 45 322 (rf n most st sa)
abbrev Rg (r : Nat) (n most : Int) (s : St) : HProp:=Rg2 r n most s s
theorem rf_tk {n most : Int} {st sa : St} {i : Nat} (hi : i < 64) : rf n most st sa (2 + i * 1) = .bool (st i).tk:=by
  unfold rf
  rw [if_neg (by omega),if_neg (by omega),if_pos (by omega),show 2 + i * 1 - 2 = i by omega]
theorem rf_arc {n most : Int} {st sa : St} {i k : Nat} (hi : i < 64) (hk : k < 4) : rf n most st sa (66 + i * 4 + k) = arcc (sa i).a k:=by
  unfold rf
  rw [if_neg (by omega),if_neg (by omega),if_neg (by omega),show (66 + i * 4 + k - 66) / 4 = i by omega,show (66 + i * 4 + k - 66) % 4 = k by omega]
theorem arcc_one (a : Arc) (k : Nat) : (arcc a k).oneCell' = true:=by unfold arcc; split <;> rfl
section
variable {P : Program} {ro : Option Nat} {N : Nat} {Q : Q0} {l : Regs} {ds : List Deferred} {w w' : World} {ops : Array Oper} {os : List Oper}
variable {d : Tmp} {ty : TypeId} {pos : String} {af : Array Edge} {x y : Operand} {t T yt : TypeId} {L : List HProp} {st sa : St} {n most : Int} {r : Nat}
theorem Ex.loadRT {i : Int} (ht : AggIs P t false) (e1 : ev l x = some (.pointer (some ⟨r,2 + i.toNat * 1,none⟩))) (H : Holds w (Rg2 r n most st sa::L):=by exact Holds.to (by assumption)) (h0 : 0 ≤ i:=by first|assumption|omega) (h1 : i < 64:=by first|assumption|omega) :
    Ex P N l (.load t x) ty w (.bool (st i.toNat).tk) w:=Ex.loadC ht e1 H (by omega) (rf_tk (by omega))
theorem Ex.loadRA {i : Int} {k : Nat} (ht : AggIs P t false) (e1 : ev l x = some (.pointer (some ⟨r,66 + i.toNat * 4 + k,none⟩))) (H : Holds w (Rg2 r n most st sa::L):=by exact Holds.to (by assumption)) (h0 : 0 ≤ i:=by first|assumption|omega) (h1 : i < 64:=by first|assumption|omega) (hk : k < 4:=by decide) :
    Ex P N l (.load t x) ty w (arcc (sa i.toNat).a k) w:=Ex.loadC ht e1 H (by omega) (rf_arc (by omega) hk)
theorem Ex.loadRN (ht : AggIs P t false) (e1 : ev l x = some (.pointer (some ⟨r,0,none⟩))) (H : Holds w (Rg2 r n most st sa::L):=by exact Holds.to (by assumption)) : Ex P N l (.load t x) ty w (.int .i64 n) w:=Ex.loadC ht e1 H (by omega) rfl
theorem Ex.loadRM (ht : AggIs P t false) (e1 : ev l x = some (.pointer (some ⟨r,1,none⟩))) (H : Holds w (Rg2 r n most st sa::L):=by exact Holds.to (by assumption)) : Ex P N l (.load t x) ty w (.int .i64 most) w:=Ex.loadC ht e1 H (by omega) rfl
theorem Ex.loadRArc {i : Int} (ht : AggIs P t true) (hz : SizeIs P t 4) (e1 : ev l x = some (.pointer (some ⟨r,66 + i.toNat * 4,none⟩))) (H : Holds w (Rg2 r n most st sa::L):=by exact Holds.to (by assumption)) (h0 : 0 ≤ i:=by first|assumption|omega) (h1 : i < 64:=by first|assumption|omega) :
    Ex P N l (.load t x) ty w (sa i.toNat).a.val w:=by
  have:=Ex.loadAggC (N:=N) (m:=4) (ty:=ty) ht hz e1 H (by omega)
  rw [show cval 4 (fun k=>rf n most st sa (66 + i.toNat * 4 + k)) = (sa i.toNat).a.val from ?_] at this
  · exact this
  · unfold cval
    rw [cs_congr (g:=fun k=>arcc (sa i.toNat).a k) (fun k hk=>rf_arc (by omega) hk)]
    rfl
/-- Whether a place is taken, anew. -/
theorem O.storeRT {i : Int} {b : Bool} {st' : St} (hs : SizeIs P t 1) (e1 : ev l x = some (.pointer (some ⟨r,2 + i.toNat * 1,none⟩))) (e2 : ev l y = some (.bool b)) (hst : ∀ k,(st' k).tk = if k = i.toNat then b else (st k).tk)
    (hk : ∀ w',Holds w' (Rg2 r n most st' sa::L) → O P ro N ops os Q l ds w') (H : Holds w (Rg2 r n most st sa::L):=by exact Holds.to (by assumption)) (h0 : 0 ≤ i:=by first|assumption|omega) (h1 : i < 64:=by first|assumption|omega) :
    O P ro N ops (⟨none,.store t x y,ty,pos,af,none⟩::os) Q l ds w :=
  O.storeC hs e1 e2 rfl H (by omega) fun w' H'=>hk w' (H'.celTo fun q hq=>by
    unfold rf
    by_cases e : q = 2 + i.toNat * 1
    · rw [if_pos e,if_neg (by omega),if_neg (by omega),if_pos (by omega),hst,if_pos (by omega)]
    · rw [if_neg e]
      by_cases e0 : q = 0
      · rw [if_pos e0,if_pos e0]
      · rw [if_neg e0,if_neg e0]
        by_cases e1 : q = 1
        · rw [if_pos e1,if_pos e1]
        · rw [if_neg e1,if_neg e1]
          by_cases e2 : q < 66
          · rw [if_pos e2,if_pos e2,hst,if_neg (by omega)]
          · rw [if_neg e2,if_neg e2])
theorem rf_up {i q : Nat} {z : Arc} {sa' : St} (hsa : ∀ k,(sa' k).a = if k = i then z else (sa k).a) (hq : ¬ (66 + i * 4 ≤ q ∧ q < 66 + i * 4 + 4)) : rf n most st sa q = rf n most st sa' q:=by
  unfold rf
  by_cases e0 : q = 0
  · rw [if_pos e0,if_pos e0]
  · rw [if_neg e0,if_neg e0]
    by_cases e1 : q = 1
    · rw [if_pos e1,if_pos e1]
    · rw [if_neg e1,if_neg e1]
      by_cases e2 : q < 66
      · rw [if_pos e2,if_pos e2]
      · rw [if_neg e2,if_neg e2,hsa,if_neg (by omega)]
/-- An arc, anew. -/
theorem O.storeRArc {i : Int} {z : Arc} {sa' : St} {vs : Array Value} (hs : SizeIs P t 4) (e1 : ev l x = some (.pointer (some ⟨r,66 + i.toNat * 4,none⟩))) (e2 : ev l y = some (.agg vs)) (hz : vs = #[.int .i64 z.t,.int .i64 z.h,.int .i64 z.w,.bool z.cl]) (hsa : ∀ k,(sa' k).a = if k = i.toNat then z else (sa k).a)
    (hk : ∀ w',Holds w' (Rg2 r n most st sa'::L) → O P ro N ops os Q l ds w') (H : Holds w (Rg2 r n most st sa::L):=by exact Holds.to (by assumption)) (h0 : 0 ≤ i:=by first|assumption|omega) (h1 : i < 64:=by first|assumption|omega) :
    O P ro N ops (⟨none,.store t x y,ty,pos,af,none⟩::os) Q l ds w:=by
  subst hz
  refine O.storeAggC hs e1 e2 rfl (fun v hv=>?_) H (by omega) fun w' H'=>hk w' (H'.celTo fun q hq=>?_)
  · simp at hv; rcases hv with rfl|rfl|rfl|rfl <;> rfl
  · by_cases e : 66 + i.toNat * 4 ≤ q ∧ q < 66 + i.toNat * 4 + 4
    · rw [if_pos e]
      have hq2 : q = 66 + i.toNat * 4 + (q - (66 + i.toNat * 4)):=by omega
      have hr:=rf_arc (n:=n) (most:=most) (st:=st) (sa:=sa') (i:=i.toNat) (k:=q - (66 + i.toNat * 4)) (by omega) (by omega)
      rw [← hq2,hsa,if_pos rfl] at hr
      rw [hr]
      have : q - (66 + i.toNat * 4) = 0 ∨ q - (66 + i.toNat * 4) = 1 ∨ q - (66 + i.toNat * 4) = 2 ∨ q - (66 + i.toNat * 4) = 3:=by omega
      rcases this with e|e|e|e <;> rw [e] <;> rfl
    · rw [if_neg e]
      exact rf_up hsa e
theorem O.storeRA {i : Int} {k : Nat} {z : Arc} {sa' : St} {v : Value} (hs : SizeIs P t 1) (e1 : ev l x = some (.pointer (some ⟨r,66 + i.toNat * 4 + k,none⟩))) (e2 : ev l y = some v) (hk4 : k < 4) (hv : arcc z k = v) (ho : ∀ j,j < 4 → j ≠ k → arcc z j = arcc (sa i.toNat).a j) (hsa : ∀ k,(sa' k).a = if k = i.toNat then z else (sa k).a)
    (hk : ∀ w',Holds w' (Rg2 r n most st sa'::L) → O P ro N ops os Q l ds w') (H : Holds w (Rg2 r n most st sa::L):=by exact Holds.to (by assumption)) (h0 : 0 ≤ i:=by first|assumption|omega) (h1 : i < 64:=by first|assumption|omega) :
    O P ro N ops (⟨none,.store t x y,ty,pos,af,none⟩::os) Q l ds w:=by
  subst hv
  refine O.storeC hs e1 e2 (arcc_one _ _) H (by omega) fun w' H'=>hk w' (H'.celTo fun q hq=>?_)
  by_cases e : 66 + i.toNat * 4 ≤ q ∧ q < 66 + i.toNat * 4 + 4
  · have hq2 : q = 66 + i.toNat * 4 + (q - (66 + i.toNat * 4)):=by omega
    have hr:=rf_arc (n:=n) (most:=most) (st:=st) (sa:=sa') (i:=i.toNat) (k:=q - (66 + i.toNat * 4)) (by omega) (by omega)
    have hr0:=rf_arc (n:=n) (most:=most) (st:=st) (sa:=sa) (i:=i.toNat) (k:=q - (66 + i.toNat * 4)) (by omega) (by omega)
    rw [← hq2,hsa,if_pos rfl] at hr
    rw [← hq2] at hr0
    rw [hr,hr0]
    by_cases e2 : q = 66 + i.toNat * 4 + k
    · rw [if_pos e2,show q - (66 + i.toNat * 4) = k by omega]
    · rw [if_neg e2]; exact (ho _ (by omega) (by omega)).symm
  · rw [if_neg (by omega)]
    exact rf_up hsa e
end
theorem rg_to {w : World} {r : Nat} {n most : Int} {st sa s : St} {L : List HProp} (h1 : ∀ k,(st k).tk = (s k).tk) (h2 : ∀ k,(sa k).a = (s k).a) (H : Holds w (Rg2 r n most st sa::L)) : Holds w (Rg r n most s::L):=H.celTo fun q hq=>by unfold rf; rw [h1,h2]
theorem rzero : Try.zeroCells45 = cs 322 (rf 0 0 noS noS):=by kernel_rfl
theorem rZ : ZeroIs Try.prog 45 (cval 322 (rf 0 0 noS noS)):=fun w=>(Try.zeroValue45 w).trans (by rw [rzero]; rfl)
theorem rnew_ct {w : World} {n most : Int} {L : List HProp} (H : Holds w L) :
    CT Try.prog 36 [.int .i64 n,.int .i64 most] w fun u w'=>∃ r,u = .pointer (some ⟨r,0,none⟩) ∧ Holds w' (Rg r n most noS::L):=by
  refine CT.enter (N:=9) Try.func36 rfl rfl rfl rfl ?_
  refine W.seq (fun K0 hK0=>?_)
  refine W.region ?_
  refine O.ex (Ex.assign rfl) rfl ?_
  refine O.nil ?_
  refine hK0 _ _ _ ?_
  refine W.seq (fun K1 hK1=>?_)
  refine W.region ?_
  refine O.ex (Ex.move rfl) rfl ?_
  refine O.ex (Ex.move rfl) rfl ?_
  refine O.ex (Ex.buildC2 (i1:=0) (i2:=1) (o1:=0) (o2:=1) Try.runUnderlying45 rZ rfl (fun w=>by simp [Try.sizeOf3,Try.sizeOf40,Try.sizeOf43]; rfl) rfl rfl (by decide) (by decide) rfl rfl rfl rfl) rfl ?_
  refine O.boxC rfl (fun b8 w H=>?_)
  refine O.ex (Ex.assign rfl) rfl ?_
  refine O.nil ?_
  refine hK1 _ _ _ ?_
  refine W.ret ?_
  try dsimp only [thenQ,blockQ,retQ]
  first|refine ⟨_,⟨_,_,rfl,rfl,rfl⟩,?_⟩|(refine retD_mark ?_; intro w H; refine ⟨_,⟨_,_,rfl,rfl,rfl⟩,?_⟩)|(refine retD_mark2 ?_; intro w H; refine ⟨_,⟨_,_,rfl,rfl,rfl⟩,?_⟩)
  refine ⟨b8,rfl,Holds.celTo H fun q hq=>?_⟩
  unfold rf
  by_cases e1 : q = 1
  · subst e1; rfl
  · rw [if_neg e1]
    by_cases e0 : q = 0
    · rw [if_pos e0,if_pos e0]
    · rw [if_neg e0,if_neg e0,if_neg e0,if_neg e1,if_neg e1]
theorem rvertex_ct {w : World} {r : Nat} {n most v : Int} {s : St} {L : List HProp} (H : Holds w (Rg r n most s::L)) :
    CT Try.prog 13 [.pointer (some ⟨r,0,none⟩),.int .i64 v] w fun u w'=>u = .bool (decide (0 ≤ v ∧ v < n)) ∧ Holds w' (Rg r n most s::L):=by
  refine CT.enter (N:=15) Try.func13 rfl rfl rfl rfl ?_
  refine W.seq (fun K0 hK0=>?_)
  refine W.region ?_
  refine O.ex (Ex.assign rfl) rfl ?_
  refine O.nil ?_
  refine hK0 _ _ _ ?_
  refine W.seq (fun K1 hK1=>?_)
  refine W.region ?_
  refine O.ex (Ex.move rfl) rfl ?_
  refine O.ex (Ex.geq rfl rfl) rfl ?_
  refine O.ex (Ex.move rfl) rfl ?_
  first|refine O.split_p (t:=7) rfl (fun h0=>?_) (fun h0=>?_)|refine O.split (t:=7) rfl (fun h0=>?_) (fun h0=>?_)
  · refine O.guard_t rfl rfl ?_
    refine O.ex (Ex.move rfl) rfl ?_
    refine O.guard_t rfl rfl ?_
    refine O.ex (Ex.move rfl) rfl ?_
    refine O.guard_t rfl rfl ?_
    refine O.ex (by first|exact Ex.nilPtr rfl|exact Ex.nilFunc rfl|exact Ex.nilYield rfl) rfl ?_
    refine O.guard_t rfl rfl ?_
    refine O.ex (by first|exact Ex.field0 fld45_0 rfl|exact Ex.field fld45_0 rfl|exact Ex.fieldS fld45_0 rfl) rfl ?_
    refine O.guard_t rfl rfl ?_
    refine O.ex (by first|exact Ex.loadRT Try.isAgg3 rfl|exact Ex.loadRA Try.isAgg3 rfl|exact Ex.loadRN Try.isAgg3 rfl|exact Ex.loadRM Try.isAgg3 rfl|exact Ex.loadMh Try.isAgg3 rfl|exact Ex.loadP Try.isAgg3 rfl|exact Ex.loadM Try.isAgg3 rfl|exact Ex.loadIn1 Try.isAgg3 rfl (Holds.to (by assumption))|exact Ex.loadVc Try.isAgg3 rfl|exact Ex.loadR Try.isAgg3 rfl|exact Ex.loadQ Try.isAgg3 rfl) rfl ?_
    refine O.guard_t rfl rfl ?_
    refine O.ex (Ex.lss rfl rfl) rfl ?_
    refine O.ex (Ex.pick_t rfl rfl) rfl ?_
    refine O.ex (Ex.assign rfl) rfl ?_
    refine O.nil ?_
    refine hK1 _ _ _ ?_
    refine W.ret ?_
    try dsimp only [thenQ,blockQ,retQ]
    first|refine ⟨_,⟨_,_,rfl,rfl,rfl⟩,?_⟩|(refine retD_mark ?_; intro w H; refine ⟨_,⟨_,_,rfl,rfl,rfl⟩,?_⟩)|(refine retD_mark2 ?_; intro w H; refine ⟨_,⟨_,_,rfl,rfl,rfl⟩,?_⟩)
    refine ⟨congrArg Value.bool ?_,Holds.to (by assumption)⟩
    first
    | exact decide_eq_decide.2 (by omega)
    | exact (decide_eq_false (by omega)).symm
  · refine O.guard_f rfl rfl rfl rfl ?_
    refine O.guard_f rfl rfl rfl rfl ?_
    refine O.guard_f rfl rfl rfl rfl ?_
    refine O.guard_f rfl rfl rfl rfl ?_
    refine O.guard_f rfl rfl rfl rfl ?_
    refine O.guard_f rfl rfl rfl rfl ?_
    refine O.ex (Ex.pick_f rfl rfl) rfl ?_
    refine O.ex (Ex.assign rfl) rfl ?_
    refine O.nil ?_
    refine hK1 _ _ _ ?_
    refine W.ret ?_
    try dsimp only [thenQ,blockQ,retQ]
    first|refine ⟨_,⟨_,_,rfl,rfl,rfl⟩,?_⟩|(refine retD_mark ?_; intro w H; refine ⟨_,⟨_,_,rfl,rfl,rfl⟩,?_⟩)|(refine retD_mark2 ?_; intro w H; refine ⟨_,⟨_,_,rfl,rfl,rfl⟩,?_⟩)
    refine ⟨congrArg Value.bool ?_,Holds.to (by assumption)⟩
    first
    | exact decide_eq_decide.2 (by omega)
    | exact (decide_eq_false (by omega)).symm
theorem rweight_ct {w : World} {a : Int} {L : List HProp} (H : Holds w L) : CT Try.prog 90 [.int .i64 a] w fun u w'=>u = .bool (decide (wOk a)) ∧ Holds w' L:=by
  refine CT.enter (N:=9) Try.func90 rfl rfl rfl rfl ?_
  refine W.seq (fun K0 hK0=>?_)
  refine W.region ?_
  refine O.ex (Ex.assign rfl) rfl ?_
  refine O.nil ?_
  refine hK0 _ _ _ ?_
  refine W.seq (fun K1 hK1=>?_)
  refine W.region ?_
  refine O.ex (Ex.move rfl) rfl ?_
  refine O.ex (Ex.geq rfl rfl) rfl ?_
  refine O.ex (Ex.move rfl) rfl ?_
  first|refine O.split_p (t:=5) rfl (fun h5=>?_) (fun h5=>?_)|refine O.split (t:=5) rfl (fun h5=>?_) (fun h5=>?_)
  · refine O.guard_t rfl rfl ?_
    refine O.ex (Ex.move rfl) rfl ?_
    refine O.guard_t rfl rfl ?_
    refine O.ex (Ex.leq rfl rfl) rfl ?_
    refine O.ex (Ex.pick_t rfl rfl) rfl ?_
    refine O.ex (Ex.assign rfl) rfl ?_
    refine O.nil ?_
    refine hK1 _ _ _ ?_
    refine W.ret ?_
    try dsimp only [thenQ,blockQ,retQ]
    first|refine ⟨_,⟨_,_,rfl,rfl,rfl⟩,?_⟩|(refine retD_mark ?_; intro w H; refine ⟨_,⟨_,_,rfl,rfl,rfl⟩,?_⟩)|(refine retD_mark2 ?_; intro w H; refine ⟨_,⟨_,_,rfl,rfl,rfl⟩,?_⟩)
    refine ⟨congrArg Value.bool ?_,Holds.to (by assumption)⟩
    first
    | exact decide_eq_decide.2 (by unfold wOk; omega)
    | exact (decide_eq_false (by unfold wOk; omega)).symm
  · refine O.guard_f rfl rfl rfl rfl ?_
    refine O.guard_f rfl rfl rfl rfl ?_
    refine O.ex (Ex.pick_f rfl rfl) rfl ?_
    refine O.ex (Ex.assign rfl) rfl ?_
    refine O.nil ?_
    refine hK1 _ _ _ ?_
    refine W.ret ?_
    try dsimp only [thenQ,blockQ,retQ]
    first|refine ⟨_,⟨_,_,rfl,rfl,rfl⟩,?_⟩|(refine retD_mark ?_; intro w H; refine ⟨_,⟨_,_,rfl,rfl,rfl⟩,?_⟩)|(refine retD_mark2 ?_; intro w H; refine ⟨_,⟨_,_,rfl,rfl,rfl⟩,?_⟩)
    refine ⟨congrArg Value.bool ?_,Holds.to (by assumption)⟩
    first
    | exact decide_eq_decide.2 (by unfold wOk; omega)
    | exact (decide_eq_false (by unfold wOk; omega)).symm
theorem rids_ct {w : World} {r : Nat} {n most : Int} {s : St} {L : List HProp} (H : Holds w (Rg r n most s::L)) :
    CT Try.prog 52 [.pointer (some ⟨r,0,none⟩)] w fun u w'=>u.oneCell' = true ∧ Holds w' (arr 3 (Value.int .i64) u (idsI s)::Rg r n most s::L):=by
  refine CT.enter (N:=20) Try.func52 rfl rfl rfl rfl ?_
  refine W.seq (fun K0 hK0=>?_)
  refine W.region ?_
  refine O.ex (Ex.assign rfl) rfl ?_
  refine O.nil ?_
  refine hK0 _ _ _ ?_
  refine W.seq (fun K1 hK1=>?_)
  refine W.region ?_
  refine O.ex (Ex.assign rfl) rfl ?_
  refine O.nil ?_
  refine hK1 _ _ _ ?_
  refine W.seq (fun K2 hK2=>?_)
  refine W.seq (fun K3 hK3=>?_)
  refine W.region ?_
  refine O.ex (Ex.assign rfl) rfl ?_
  refine O.nil ?_
  refine hK3 _ _ _ ?_
  refine W.block ?_
  have H:=arr_nil (T:=3) (e:=Value.int .i64) H
  refine W.loop (σ:=Nat × Value) (fun z=>[(0,.pointer (some ⟨r,0,none⟩)),(3,z.2),(4,.int .i64 (z.1 : Int))]) (fun z ds w=>ds = [] ∧ z.1 ≤ 64 ∧ z.2.oneCell' = true ∧ Holds w (arr 3 (Value.int .i64) z.2 (lo (tkP s) z.1)::Rg r n most s::L)) (fun z=>64 - z.1) (0,.slice none 0 0) ⟨rfl,rfl,rfl,trivial⟩ ⟨rfl,by dsimp only; omega,rfl,H⟩ ?_
  clear H
  rintro ⟨i,v⟩ _ w ⟨rfl,hi,hv,H⟩
  dsimp only at hi hv H ⊢
  have hlen:=lo_len (tkP s) i
  refine W.seq (fun K4 hK4=>?_)
  refine W.seq (fun K5 hK5=>?_)
  refine W.region ?_
  refine O.ex (Ex.move rfl) rfl ?_
  refine O.ex (Ex.lss rfl rfl) rfl ?_
  refine O.nil ?_
  refine hK5 _ _ _ ?_
  first|refine W.cond_p rfl (fun hlt=>?_) (fun hge=>?_)|refine W.cond_b rfl (fun hlt=>?_) (fun hge=>?_)
  · refine W.skip ?_
    refine hK4 _ _ _ ?_
    refine W.seq (fun K6 hK6=>?_)
    refine W.block ?_
    refine W.seq (fun K7 hK7=>?_)
    refine W.region ?_
    refine O.ex (Ex.move rfl) rfl ?_
    refine O.ex (Ex.move rfl) rfl ?_
    refine O.ex (by first|exact Ex.nilPtr rfl|exact Ex.nilFunc rfl|exact Ex.nilYield rfl) rfl ?_
    refine O.ex (by first|exact Ex.field0 fld45_2 rfl|exact Ex.field fld45_2 rfl|exact Ex.fieldS fld45_2 rfl) rfl ?_
    refine O.ex (Ex.idxArr Try.runUnderlying40 Try.sizeOf4 rfl rfl) rfl ?_
    refine O.ex (by first|exact Ex.loadRT Try.isAgg4 rfl|exact Ex.loadRA Try.isAgg4 rfl|exact Ex.loadRN Try.isAgg4 rfl|exact Ex.loadRM Try.isAgg4 rfl|exact Ex.loadM Try.isAgg4 rfl|exact Ex.loadVc Try.isAgg4 rfl|exact Ex.loadP Try.isAgg4 rfl|exact Ex.loadIn1 Try.isAgg4 rfl (Holds.to (by assumption))|exact Ex.loadMh Try.isAgg4 rfl|exact Ex.loadR Try.isAgg4 rfl|exact Ex.loadQ Try.isAgg4 rfl) rfl ?_
    refine O.nil ?_
    refine hK7 _ _ _ ?_
    first|refine W.cond_p rfl (fun htk=>?_) (fun hno=>?_)|refine W.cond_b rfl (fun htk=>?_) (fun hno=>?_)
    · refine W.region ?_
      refine O.ex (Ex.move rfl) rfl ?_
      refine O.ex (Ex.move rfl) rfl ?_
      refine O.build1 (e:=Value.int .i64) Try.runUnderlying28 Try.sizeOf3 Try.zeroValue3 rfl (fun v17 w hv17 H=>?_)
      refine O.appendR Try.runUnderlying28 Try.typeInfo3 (bt:=8) rfl Try.sizeOf3 Try.zeroValue3 rfl rfl (fun v18 w hv18 H=>?_)
      refine O.ex (Ex.assign rfl) rfl ?_
      refine O.nil ?_
      refine hK6 _ _ _ ?_
      refine W.region ?_
      refine O.ex (Ex.move rfl) rfl ?_
      refine O.ex (by first|exact Ex.addI rfl rfl|exact Ex.add rfl rfl rfl) rfl ?_
      refine O.ex (Ex.assign rfl) rfl ?_
      refine O.nil ?_
      first
      | exact ⟨(i + 1,v18),⟨rfl,rfl,rfl,trivial⟩,⟨rfl,by dsimp only; omega,hv18,by rw [lo_succ,if_pos (show tkP s i = true from htk)]; exact Holds.to (by assumption)⟩,by dsimp only; omega⟩
      | exact ⟨(i + 1,v),⟨rfl,rfl,rfl,trivial⟩,⟨rfl,by dsimp only; omega,hv,by rw [lo_succ,if_neg (show ¬ tkP s i = true from fun hh=>by rw [show tkP s i = (s i).tk from rfl] at hh; simp [hh] at hno),List.append_nil]; exact Holds.to (by assumption)⟩,by dsimp only; omega⟩
    · refine W.skip ?_
      refine hK6 _ _ _ ?_
      refine W.region ?_
      refine O.ex (Ex.move rfl) rfl ?_
      refine O.ex (by first|exact Ex.addI rfl rfl|exact Ex.add rfl rfl rfl) rfl ?_
      refine O.ex (Ex.assign rfl) rfl ?_
      refine O.nil ?_
      first
      | exact ⟨(i + 1,v18),⟨rfl,rfl,rfl,trivial⟩,⟨rfl,by dsimp only; omega,hv18,by rw [lo_succ,if_pos (show tkP s i = true from htk)]; exact Holds.to (by assumption)⟩,by dsimp only; omega⟩
      | exact ⟨(i + 1,v),⟨rfl,rfl,rfl,trivial⟩,⟨rfl,by dsimp only; omega,hv,by rw [lo_succ,if_neg (show ¬ tkP s i = true from fun hh=>by rw [show tkP s i = (s i).tk from rfl] at hh; simp [hh] at hno),List.append_nil]; exact Holds.to (by assumption)⟩,by dsimp only; omega⟩
  · refine W.exit ?_
    refine hK2 _ _ _ ?_
    refine W.seq (fun K8 hK8=>?_)
    refine W.region ?_
    refine O.ex (Ex.move rfl) rfl ?_
    refine O.ex (Ex.assign rfl) rfl ?_
    refine O.nil ?_
    refine hK8 _ _ _ ?_
    refine W.ret ?_
    try dsimp only [thenQ,blockQ,retQ]
    first|refine ⟨_,⟨_,_,rfl,rfl,rfl⟩,?_⟩|(refine retD_mark ?_; intro w H; refine ⟨_,⟨_,_,rfl,rfl,rfl⟩,?_⟩)|(refine retD_mark2 ?_; intro w H; refine ⟨_,⟨_,_,rfl,rfl,rfl⟩,?_⟩)
    obtain rfl : i = 64:=by omega
    exact ⟨hv,Holds.to (by assumption)⟩
theorem rlen_ct {w : World} {r : Nat} {n most : Int} {s : St} {L : List HProp} (H : Holds w (Rg r n most s::L)) :
    CT Try.prog 91 [.pointer (some ⟨r,0,none⟩)] w fun u w'=>u = .int .i64 (cnt s) ∧ Holds w' (Rg r n most s::L):=by
  refine CT.enter (N:=6) Try.func91 rfl rfl rfl rfl ?_
  refine W.seq (fun K0 hK0=>?_)
  refine W.region ?_
  refine O.ex (Ex.assign rfl) rfl ?_
  refine O.nil ?_
  refine hK0 _ _ _ ?_
  refine W.seq (fun K1 hK1=>?_)
  refine W.region ?_
  refine O.ex (Ex.move rfl) rfl ?_
  refine O.callF Try.call52 rfl rfl (CT.mono (rids_ct (Holds.to (by assumption))) ?_)
  rintro _ w ⟨hu,H⟩
  refine O.ex (by first|exact Ex.lenR Try.runUnderlying28 rfl|exact Ex.lenIn Try.runUnderlying28 rfl|exact Ex.lenL Try.runUnderlying28 rfl|exact Ex.len rfl Try.runUnderlying28 rfl) rfl ?_
  refine O.ex (Ex.assign rfl) rfl ?_
  refine O.nil ?_
  refine hK1 _ _ _ ?_
  refine W.ret ?_
  try dsimp only [thenQ,blockQ,retQ]
  first|refine ⟨_,⟨_,_,rfl,rfl,rfl⟩,?_⟩|(refine retD_mark ?_; intro w H; refine ⟨_,⟨_,_,rfl,rfl,rfl⟩,?_⟩)|(refine retD_mark2 ?_; intro w H; refine ⟨_,⟨_,_,rfl,rfl,rfl⟩,?_⟩)
  exact ⟨rfl,by first|assumption|exact Holds.to (by assumption)⟩
end Go.Proofs.Ytliofdfhimmjmaa
namespace Go.Proofs.Ytliofdfhimmjmaa
open Go.Rr Go Gr
set_option linter.unusedVariables false
theorem upS_tk {s : St} {i : Nat} {x : Sl} (k : Nat) : (upS s i x k).tk = if k = i then x.tk else (s k).tk:=by unfold upS; split <;> rfl
theorem upS_a {s : St} {i : Nat} {x : Sl} (k : Nat) : (upS s i x k).a = if k = i then x.a else (s k).a:=by unfold upS; split <;> rfl
theorem rcode_ct {w : World} {r : Nat} {n most id : Int} {s : St} {L : List HProp} (H : Holds w (Rg r n most s::L)) :
    CT Try.prog 46 [.pointer (some ⟨r,0,none⟩),.int .i64 id] w fun u w'=>u = .int .i64 (thC s id) ∧ Holds w' (Rg r n most s::L):=by
  refine CT.enter (N:=18) Try.func46 rfl rfl rfl rfl ?_
  refine W.seq (fun K0 hK0=>?_)
  refine W.region ?_
  refine O.ex (Ex.assign rfl) rfl ?_
  refine O.nil ?_
  refine hK0 _ _ _ ?_
  refine W.seq (fun K1 hK1=>?_)
  refine W.seq (fun K2 hK2=>?_)
  refine W.region ?_
  refine O.ex (Ex.move rfl) rfl ?_
  refine O.ex (Ex.lss rfl rfl) rfl ?_
  refine O.ex (Ex.move rfl) rfl ?_
  first|refine O.split_p (t:=7) rfl (fun h0=>?_) (fun h0=>?_)|refine O.split (t:=7) rfl (fun h0=>?_) (fun h0=>?_)
  · refine O.guard_f rfl rfl rfl rfl ?_
    refine O.guard_f rfl rfl rfl rfl ?_
    refine O.ex (Ex.pick_t rfl rfl) rfl ?_
    refine O.nil ?_
    refine hK2 _ _ _ ?_
    refine W.cond_t rfl ?_
    refine W.seq (fun K3 hK3=>?_)
    refine W.region ?_
    refine O.ex (Ex.assign rfl) rfl ?_
    refine O.nil ?_
    refine hK3 _ _ _ ?_
    refine W.ret ?_
    try dsimp only [thenQ,blockQ,retQ]
    first|refine ⟨_,⟨_,_,rfl,rfl,rfl⟩,?_⟩|(refine retD_mark ?_; intro w H; refine ⟨_,⟨_,_,rfl,rfl,rfl⟩,?_⟩)|(refine retD_mark2 ?_; intro w H; refine ⟨_,⟨_,_,rfl,rfl,rfl⟩,?_⟩)
    first
    | (rw [show thC s id = 1 from if_pos (fun hh=>by have:=hh.1; have:=hh.2; omega)]; exact ⟨rfl,Holds.to (by assumption)⟩)
    | (rw [show thC s id = 3 from by unfold thC; rw [if_neg (fun hh=>hh ⟨by omega,by omega⟩),if_neg (by simpa using hC)]]; exact ⟨rfl,Holds.to (by assumption)⟩)
    | (rw [show thC s id = 0 from thC_zero.2 ⟨⟨by omega,by omega⟩,by simpa using hD⟩]; exact ⟨rfl,Holds.to (by assumption)⟩)
  · refine O.guard_t rfl rfl ?_
    refine O.ex (Ex.move rfl) rfl ?_
    refine O.guard_t rfl rfl ?_
    refine O.ex (Ex.gtr rfl rfl) rfl ?_
    refine O.ex (Ex.pick_f rfl rfl) rfl ?_
    refine O.nil ?_
    refine hK2 _ _ _ ?_
    first|refine W.cond_p rfl (fun h1=>?_) (fun h1=>?_)|refine W.cond_b rfl (fun h1=>?_) (fun h1=>?_)
    · refine W.seq (fun K4 hK4=>?_)
      refine W.region ?_
      refine O.ex (Ex.assign rfl) rfl ?_
      refine O.nil ?_
      refine hK4 _ _ _ ?_
      refine W.ret ?_
      try dsimp only [thenQ,blockQ,retQ]
      first|refine ⟨_,⟨_,_,rfl,rfl,rfl⟩,?_⟩|(refine retD_mark ?_; intro w H; refine ⟨_,⟨_,_,rfl,rfl,rfl⟩,?_⟩)|(refine retD_mark2 ?_; intro w H; refine ⟨_,⟨_,_,rfl,rfl,rfl⟩,?_⟩)
      first
      | (rw [show thC s id = 1 from if_pos (fun hh=>by have:=hh.1; have:=hh.2; omega)]; exact ⟨rfl,Holds.to (by assumption)⟩)
      | (rw [show thC s id = 3 from by unfold thC; rw [if_neg (fun hh=>hh ⟨by omega,by omega⟩),if_neg (by simpa using hC)]]; exact ⟨rfl,Holds.to (by assumption)⟩)
      | (rw [show thC s id = 0 from thC_zero.2 ⟨⟨by omega,by omega⟩,by simpa using hD⟩]; exact ⟨rfl,Holds.to (by assumption)⟩)
    · refine W.skip ?_
      refine hK1 _ _ _ ?_
      refine W.seq (fun K5 hK5=>?_)
      refine W.seq (fun K6 hK6=>?_)
      refine W.region ?_
      refine O.ex (Ex.move rfl) rfl ?_
      refine O.ex (Ex.move rfl) rfl ?_
      refine O.ex (by first|exact Ex.nilPtr rfl|exact Ex.nilFunc rfl|exact Ex.nilYield rfl) rfl ?_
      refine O.ex (by first|exact Ex.field0 fld45_2 rfl|exact Ex.field fld45_2 rfl|exact Ex.fieldS fld45_2 rfl) rfl ?_
      refine O.ex (Ex.idxArr Try.runUnderlying40 Try.sizeOf4 rfl rfl) rfl ?_
      refine O.ex (by first|exact Ex.loadRT Try.isAgg4 rfl|exact Ex.loadRA Try.isAgg4 rfl|exact Ex.loadRN Try.isAgg4 rfl|exact Ex.loadRM Try.isAgg4 rfl|exact Ex.loadM Try.isAgg4 rfl|exact Ex.loadVc Try.isAgg4 rfl|exact Ex.loadP Try.isAgg4 rfl|exact Ex.loadIn1 Try.isAgg4 rfl (Holds.to (by assumption))|exact Ex.loadMh Try.isAgg4 rfl|exact Ex.loadR Try.isAgg4 rfl|exact Ex.loadQ Try.isAgg4 rfl) rfl ?_
      refine O.ex (by first|exact Ex.notD rfl|exact Ex.not rfl) rfl ?_
      refine O.nil ?_
      refine hK6 _ _ _ ?_
      first|refine W.cond_p rfl (fun hC=>?_) (fun hD=>?_)|refine W.cond_b rfl (fun hC=>?_) (fun hD=>?_)
      · refine W.seq (fun K7 hK7=>?_)
        refine W.region ?_
        refine O.ex (Ex.assign rfl) rfl ?_
        refine O.nil ?_
        refine hK7 _ _ _ ?_
        refine W.ret ?_
        try dsimp only [thenQ,blockQ,retQ]
        first|refine ⟨_,⟨_,_,rfl,rfl,rfl⟩,?_⟩|(refine retD_mark ?_; intro w H; refine ⟨_,⟨_,_,rfl,rfl,rfl⟩,?_⟩)|(refine retD_mark2 ?_; intro w H; refine ⟨_,⟨_,_,rfl,rfl,rfl⟩,?_⟩)
        first
        | (rw [show thC s id = 1 from if_pos (fun hh=>by have:=hh.1; have:=hh.2; omega)]; exact ⟨rfl,Holds.to (by assumption)⟩)
        | (rw [show thC s id = 3 from by unfold thC; rw [if_neg (fun hh=>hh ⟨by omega,by omega⟩),if_neg (by simpa using hC)]]; exact ⟨rfl,Holds.to (by assumption)⟩)
        | (rw [show thC s id = 0 from thC_zero.2 ⟨⟨by omega,by omega⟩,by simpa using hD⟩]; exact ⟨rfl,Holds.to (by assumption)⟩)
      · refine W.skip ?_
        refine hK5 _ _ _ ?_
        refine W.seq (fun K8 hK8=>?_)
        refine W.region ?_
        refine O.ex (Ex.assign rfl) rfl ?_
        refine O.nil ?_
        refine hK8 _ _ _ ?_
        refine W.ret ?_
        try dsimp only [thenQ,blockQ,retQ]
        first|refine ⟨_,⟨_,_,rfl,rfl,rfl⟩,?_⟩|(refine retD_mark ?_; intro w H; refine ⟨_,⟨_,_,rfl,rfl,rfl⟩,?_⟩)|(refine retD_mark2 ?_; intro w H; refine ⟨_,⟨_,_,rfl,rfl,rfl⟩,?_⟩)
        first
        | (rw [show thC s id = 1 from if_pos (fun hh=>by have:=hh.1; have:=hh.2; omega)]; exact ⟨rfl,Holds.to (by assumption)⟩)
        | (rw [show thC s id = 3 from by unfold thC; rw [if_neg (fun hh=>hh ⟨by omega,by omega⟩),if_neg (by simpa using hC)]]; exact ⟨rfl,Holds.to (by assumption)⟩)
        | (rw [show thC s id = 0 from thC_zero.2 ⟨⟨by omega,by omega⟩,by simpa using hD⟩]; exact ⟨rfl,Holds.to (by assumption)⟩)
set_option maxHeartbeats 1000000 in
theorem rinsert_ct {w : World} {r : Nat} {n most id : Int} {s : St} {a : Arc} {L : List HProp} (H : Holds w (Rg r n most s::L)) :
    CT Try.prog 62 [.pointer (some ⟨r,0,none⟩),.int .i64 id,a.val] w fun u w'=>u = .int .i64 (insC n most s id a) ∧ Holds w' (Rg r n most (insS n most s id a)::L):=by
  refine CT.enter (N:=57) Try.func62 rfl rfl rfl rfl ?_
  refine W.seq (fun K0 hK0=>?_)
  refine W.region ?_
  refine O.boxP rfl (fun b5 w H=>?_)
  refine O.ex (Ex.assign rfl) rfl ?_
  refine O.nil ?_
  refine hK0 _ _ _ ?_
  refine W.seq (fun K1 hK1=>?_)
  refine W.seq (fun K2 hK2=>?_)
  refine W.region ?_
  refine O.ex (Ex.move rfl) rfl ?_
  refine O.ex (Ex.lss rfl rfl) rfl ?_
  refine O.ex (Ex.move rfl) rfl ?_
  first|refine O.split_p (t:=9) rfl (fun h0=>?_) (fun h0=>?_)|refine O.split (t:=9) rfl (fun h0=>?_) (fun h0=>?_)
  · refine O.guard_f rfl rfl rfl rfl ?_
    refine O.guard_f rfl rfl rfl rfl ?_
    refine O.ex (Ex.pick_t rfl rfl) rfl ?_
    refine O.ex (Ex.move rfl) rfl ?_
    refine O.guard_f rfl rfl rfl rfl ?_
    refine O.guard_f rfl rfl rfl rfl ?_
    refine O.guard_f rfl rfl rfl rfl ?_
    refine O.guard_f rfl rfl rfl rfl ?_
    refine O.guard_f rfl rfl rfl rfl ?_
    refine O.ex (Ex.pick_t rfl rfl) rfl ?_
    refine O.ex (Ex.move rfl) rfl ?_
    refine O.guard_f rfl rfl rfl rfl ?_
    refine O.guard_f rfl rfl rfl rfl ?_
    refine O.guard_f rfl rfl rfl rfl ?_
    refine O.guard_f rfl rfl rfl rfl ?_
    refine O.guard_f rfl rfl rfl rfl ?_
    refine O.ex (Ex.pick_t rfl rfl) rfl ?_
    refine O.ex (Ex.move rfl) rfl ?_
    refine O.guard_f rfl rfl rfl rfl ?_
    refine O.guard_f rfl rfl rfl rfl ?_
    refine O.guard_f rfl rfl rfl rfl ?_
    refine O.guard_f rfl rfl rfl rfl ?_
    refine O.ex (Ex.pick_t rfl rfl) rfl ?_
    refine O.nil ?_
    refine hK2 _ _ _ ?_
    refine W.cond_t rfl ?_
    refine W.seq (fun K3 hK3=>?_)
    refine W.region ?_
    refine O.ex (Ex.assign rfl) rfl ?_
    refine O.nil ?_
    refine hK3 _ _ _ ?_
    refine W.ret ?_
    try dsimp only [thenQ,blockQ,retQ]
    first|refine ⟨_,⟨_,_,rfl,rfl,rfl⟩,?_⟩|(refine retD_mark ?_; intro w H; refine ⟨_,⟨_,_,rfl,rfl,rfl⟩,?_⟩)|(refine retD_mark2 ?_; intro w H; refine ⟨_,⟨_,_,rfl,rfl,rfl⟩,?_⟩)
    first
    | (rw [hin,hS]; exact ⟨rfl,Holds.to (by assumption)⟩)
    | (have hc : insC n most s id a = 1:=if_pos (fun hh=>by
         first
         | exact h2 hh.2.1.1
         | exact h3 hh.2.1.2
         | exact h4 hh.2.2
         | (have:=hh.1.1; have:=hh.1.2; omega))
       rw [hc,show insS n most s id a = s from if_neg (by rw [hc]; decide)]
       exact ⟨rfl,Holds.to (by assumption)⟩)
    | (have hc : insC n most s id a = 4:=by unfold insC; rw [if_neg (fun hh=>hh ⟨hpl,hok⟩),if_pos h5]
       rw [hc,show insS n most s id a = s from if_neg (by rw [hc]; decide)]
       exact ⟨rfl,Holds.to (by assumption)⟩)
    | (have hc : insC n most s id a = 2:=by unfold insC; rw [if_neg (fun hh=>hh ⟨hpl,hok⟩),if_neg (by simpa using h5),if_pos h6]
       rw [hc,show insS n most s id a = s from if_neg (by rw [hc]; decide)]
       exact ⟨rfl,Holds.to (by assumption)⟩)
  · refine O.guard_t rfl rfl ?_
    refine O.ex (Ex.move rfl) rfl ?_
    refine O.guard_t rfl rfl ?_
    refine O.ex (Ex.gtr rfl rfl) rfl ?_
    refine O.ex (Ex.pick_f rfl rfl) rfl ?_
    refine O.ex (Ex.move rfl) rfl ?_
    first|refine O.split_p (t:=13) rfl (fun h1=>?_) (fun h1=>?_)|refine O.split (t:=13) rfl (fun h1=>?_) (fun h1=>?_)
    · refine O.guard_f rfl rfl rfl rfl ?_
      refine O.guard_f rfl rfl rfl rfl ?_
      refine O.guard_f rfl rfl rfl rfl ?_
      refine O.guard_f rfl rfl rfl rfl ?_
      refine O.guard_f rfl rfl rfl rfl ?_
      refine O.ex (Ex.pick_t rfl rfl) rfl ?_
      refine O.ex (Ex.move rfl) rfl ?_
      refine O.guard_f rfl rfl rfl rfl ?_
      refine O.guard_f rfl rfl rfl rfl ?_
      refine O.guard_f rfl rfl rfl rfl ?_
      refine O.guard_f rfl rfl rfl rfl ?_
      refine O.guard_f rfl rfl rfl rfl ?_
      refine O.ex (Ex.pick_t rfl rfl) rfl ?_
      refine O.ex (Ex.move rfl) rfl ?_
      refine O.guard_f rfl rfl rfl rfl ?_
      refine O.guard_f rfl rfl rfl rfl ?_
      refine O.guard_f rfl rfl rfl rfl ?_
      refine O.guard_f rfl rfl rfl rfl ?_
      refine O.ex (Ex.pick_t rfl rfl) rfl ?_
      refine O.nil ?_
      refine hK2 _ _ _ ?_
      refine W.cond_t rfl ?_
      refine W.seq (fun K4 hK4=>?_)
      refine W.region ?_
      refine O.ex (Ex.assign rfl) rfl ?_
      refine O.nil ?_
      refine hK4 _ _ _ ?_
      refine W.ret ?_
      try dsimp only [thenQ,blockQ,retQ]
      first|refine ⟨_,⟨_,_,rfl,rfl,rfl⟩,?_⟩|(refine retD_mark ?_; intro w H; refine ⟨_,⟨_,_,rfl,rfl,rfl⟩,?_⟩)|(refine retD_mark2 ?_; intro w H; refine ⟨_,⟨_,_,rfl,rfl,rfl⟩,?_⟩)
      first
      | (rw [hin,hS]; exact ⟨rfl,Holds.to (by assumption)⟩)
      | (have hc : insC n most s id a = 1:=if_pos (fun hh=>by
           first
           | exact h2 hh.2.1.1
           | exact h3 hh.2.1.2
           | exact h4 hh.2.2
           | (have:=hh.1.1; have:=hh.1.2; omega))
         rw [hc,show insS n most s id a = s from if_neg (by rw [hc]; decide)]
         exact ⟨rfl,Holds.to (by assumption)⟩)
      | (have hc : insC n most s id a = 4:=by unfold insC; rw [if_neg (fun hh=>hh ⟨hpl,hok⟩),if_pos h5]
         rw [hc,show insS n most s id a = s from if_neg (by rw [hc]; decide)]
         exact ⟨rfl,Holds.to (by assumption)⟩)
      | (have hc : insC n most s id a = 2:=by unfold insC; rw [if_neg (fun hh=>hh ⟨hpl,hok⟩),if_neg (by simpa using h5),if_pos h6]
         rw [hc,show insS n most s id a = s from if_neg (by rw [hc]; decide)]
         exact ⟨rfl,Holds.to (by assumption)⟩)
    · refine O.guard_t rfl rfl ?_
      refine O.ex (Ex.move rfl) rfl ?_
      refine O.guard_t rfl rfl ?_
      refine O.ex (by first|exact Ex.field0 fld42_0 rfl|exact Ex.field fld42_0 rfl|exact Ex.fieldS fld42_0 rfl) rfl ?_
      refine O.guard_t rfl rfl ?_
      refine O.ex (by first|exact Ex.loadRT Try.isAgg3 rfl|exact Ex.loadRA Try.isAgg3 rfl|exact Ex.loadRN Try.isAgg3 rfl|exact Ex.loadRM Try.isAgg3 rfl|exact Ex.loadMh Try.isAgg3 rfl|exact Ex.loadP Try.isAgg3 rfl|exact Ex.loadM Try.isAgg3 rfl|exact Ex.loadIn1 Try.isAgg3 rfl (Holds.to (by assumption))|exact Ex.loadVc Try.isAgg3 rfl|exact Ex.loadR Try.isAgg3 rfl|exact Ex.loadQ Try.isAgg3 rfl) rfl ?_
      refine O.guard_t rfl rfl ?_
      refine O.callF Try.call13 rfl rfl (CT.mono (rvertex_ct (Holds.to (by assumption))) ?_)
      rintro _ w ⟨rfl,H⟩
      refine O.guard_t rfl rfl ?_
      refine O.ex (by first|exact Ex.notD rfl|exact Ex.not rfl) rfl ?_
      refine O.ex (Ex.pick_f rfl rfl) rfl ?_
      refine O.ex (Ex.move rfl) rfl ?_
      first|refine O.split_p (t:=20) rfl (fun h2=>?_) (fun h2=>?_)|refine O.split (t:=20) rfl (fun h2=>?_) (fun h2=>?_)
      · refine O.guard_f rfl rfl rfl rfl ?_
        refine O.guard_f rfl rfl rfl rfl ?_
        refine O.guard_f rfl rfl rfl rfl ?_
        refine O.guard_f rfl rfl rfl rfl ?_
        refine O.guard_f rfl rfl rfl rfl ?_
        refine O.ex (Ex.pick_t rfl rfl) rfl ?_
        refine O.ex (Ex.move rfl) rfl ?_
        refine O.guard_f rfl rfl rfl rfl ?_
        refine O.guard_f rfl rfl rfl rfl ?_
        refine O.guard_f rfl rfl rfl rfl ?_
        refine O.guard_f rfl rfl rfl rfl ?_
        refine O.ex (Ex.pick_t rfl rfl) rfl ?_
        refine O.nil ?_
        refine hK2 _ _ _ ?_
        refine W.cond_t rfl ?_
        refine W.seq (fun K5 hK5=>?_)
        refine W.region ?_
        refine O.ex (Ex.assign rfl) rfl ?_
        refine O.nil ?_
        refine hK5 _ _ _ ?_
        refine W.ret ?_
        try dsimp only [thenQ,blockQ,retQ]
        first|refine ⟨_,⟨_,_,rfl,rfl,rfl⟩,?_⟩|(refine retD_mark ?_; intro w H; refine ⟨_,⟨_,_,rfl,rfl,rfl⟩,?_⟩)|(refine retD_mark2 ?_; intro w H; refine ⟨_,⟨_,_,rfl,rfl,rfl⟩,?_⟩)
        first
        | (rw [hin,hS]; exact ⟨rfl,Holds.to (by assumption)⟩)
        | (have hc : insC n most s id a = 1:=if_pos (fun hh=>by
             first
             | exact h2 hh.2.1.1
             | exact h3 hh.2.1.2
             | exact h4 hh.2.2
             | (have:=hh.1.1; have:=hh.1.2; omega))
           rw [hc,show insS n most s id a = s from if_neg (by rw [hc]; decide)]
           exact ⟨rfl,Holds.to (by assumption)⟩)
        | (have hc : insC n most s id a = 4:=by unfold insC; rw [if_neg (fun hh=>hh ⟨hpl,hok⟩),if_pos h5]
           rw [hc,show insS n most s id a = s from if_neg (by rw [hc]; decide)]
           exact ⟨rfl,Holds.to (by assumption)⟩)
        | (have hc : insC n most s id a = 2:=by unfold insC; rw [if_neg (fun hh=>hh ⟨hpl,hok⟩),if_neg (by simpa using h5),if_pos h6]
           rw [hc,show insS n most s id a = s from if_neg (by rw [hc]; decide)]
           exact ⟨rfl,Holds.to (by assumption)⟩)
      · refine O.guard_t rfl rfl ?_
        refine O.ex (Ex.move rfl) rfl ?_
        refine O.guard_t rfl rfl ?_
        refine O.ex (by first|exact Ex.field0 fld42_1 rfl|exact Ex.field fld42_1 rfl|exact Ex.fieldS fld42_1 rfl) rfl ?_
        refine O.guard_t rfl rfl ?_
        refine O.ex (by first|exact Ex.loadRT Try.isAgg3 rfl|exact Ex.loadRA Try.isAgg3 rfl|exact Ex.loadRN Try.isAgg3 rfl|exact Ex.loadRM Try.isAgg3 rfl|exact Ex.loadMh Try.isAgg3 rfl|exact Ex.loadP Try.isAgg3 rfl|exact Ex.loadM Try.isAgg3 rfl|exact Ex.loadIn1 Try.isAgg3 rfl (Holds.to (by assumption))|exact Ex.loadVc Try.isAgg3 rfl|exact Ex.loadR Try.isAgg3 rfl|exact Ex.loadQ Try.isAgg3 rfl) rfl ?_
        refine O.guard_t rfl rfl ?_
        refine O.callF Try.call13 rfl rfl (CT.mono (rvertex_ct (Holds.to (by assumption))) ?_)
        rintro _ w ⟨rfl,H⟩
        refine O.guard_t rfl rfl ?_
        refine O.ex (by first|exact Ex.notD rfl|exact Ex.not rfl) rfl ?_
        refine O.ex (Ex.pick_f rfl rfl) rfl ?_
        refine O.ex (Ex.move rfl) rfl ?_
        first|refine O.split_p (t:=27) rfl (fun h3=>?_) (fun h3=>?_)|refine O.split (t:=27) rfl (fun h3=>?_) (fun h3=>?_)
        · refine O.guard_f rfl rfl rfl rfl ?_
          refine O.guard_f rfl rfl rfl rfl ?_
          refine O.guard_f rfl rfl rfl rfl ?_
          refine O.guard_f rfl rfl rfl rfl ?_
          refine O.ex (Ex.pick_t rfl rfl) rfl ?_
          refine O.nil ?_
          refine hK2 _ _ _ ?_
          refine W.cond_t rfl ?_
          refine W.seq (fun K6 hK6=>?_)
          refine W.region ?_
          refine O.ex (Ex.assign rfl) rfl ?_
          refine O.nil ?_
          refine hK6 _ _ _ ?_
          refine W.ret ?_
          try dsimp only [thenQ,blockQ,retQ]
          first|refine ⟨_,⟨_,_,rfl,rfl,rfl⟩,?_⟩|(refine retD_mark ?_; intro w H; refine ⟨_,⟨_,_,rfl,rfl,rfl⟩,?_⟩)|(refine retD_mark2 ?_; intro w H; refine ⟨_,⟨_,_,rfl,rfl,rfl⟩,?_⟩)
          first
          | (rw [hin,hS]; exact ⟨rfl,Holds.to (by assumption)⟩)
          | (have hc : insC n most s id a = 1:=if_pos (fun hh=>by
               first
               | exact h2 hh.2.1.1
               | exact h3 hh.2.1.2
               | exact h4 hh.2.2
               | (have:=hh.1.1; have:=hh.1.2; omega))
             rw [hc,show insS n most s id a = s from if_neg (by rw [hc]; decide)]
             exact ⟨rfl,Holds.to (by assumption)⟩)
          | (have hc : insC n most s id a = 4:=by unfold insC; rw [if_neg (fun hh=>hh ⟨hpl,hok⟩),if_pos h5]
             rw [hc,show insS n most s id a = s from if_neg (by rw [hc]; decide)]
             exact ⟨rfl,Holds.to (by assumption)⟩)
          | (have hc : insC n most s id a = 2:=by unfold insC; rw [if_neg (fun hh=>hh ⟨hpl,hok⟩),if_neg (by simpa using h5),if_pos h6]
             rw [hc,show insS n most s id a = s from if_neg (by rw [hc]; decide)]
             exact ⟨rfl,Holds.to (by assumption)⟩)
        · refine O.guard_t rfl rfl ?_
          refine O.ex (by first|exact Ex.field0 fld42_2 rfl|exact Ex.field fld42_2 rfl|exact Ex.fieldS fld42_2 rfl) rfl ?_
          refine O.guard_t rfl rfl ?_
          refine O.ex (by first|exact Ex.loadRT Try.isAgg3 rfl|exact Ex.loadRA Try.isAgg3 rfl|exact Ex.loadRN Try.isAgg3 rfl|exact Ex.loadRM Try.isAgg3 rfl|exact Ex.loadMh Try.isAgg3 rfl|exact Ex.loadP Try.isAgg3 rfl|exact Ex.loadM Try.isAgg3 rfl|exact Ex.loadIn1 Try.isAgg3 rfl (Holds.to (by assumption))|exact Ex.loadVc Try.isAgg3 rfl|exact Ex.loadR Try.isAgg3 rfl|exact Ex.loadQ Try.isAgg3 rfl) rfl ?_
          refine O.guard_t rfl rfl ?_
          refine O.callF Try.call90 rfl rfl (CT.mono (rweight_ct (Holds.to (by assumption))) ?_)
          rintro _ w ⟨rfl,H⟩
          refine O.guard_t rfl rfl ?_
          refine O.ex (by first|exact Ex.notD rfl|exact Ex.not rfl) rfl ?_
          refine O.ex (Ex.pick_f rfl rfl) rfl ?_
          refine O.nil ?_
          refine hK2 _ _ _ ?_
          first|refine W.cond_p rfl (fun h4=>?_) (fun h4=>?_)|refine W.cond_b rfl (fun h4=>?_) (fun h4=>?_)
          · refine W.seq (fun K7 hK7=>?_)
            refine W.region ?_
            refine O.ex (Ex.assign rfl) rfl ?_
            refine O.nil ?_
            refine hK7 _ _ _ ?_
            refine W.ret ?_
            try dsimp only [thenQ,blockQ,retQ]
            first|refine ⟨_,⟨_,_,rfl,rfl,rfl⟩,?_⟩|(refine retD_mark ?_; intro w H; refine ⟨_,⟨_,_,rfl,rfl,rfl⟩,?_⟩)|(refine retD_mark2 ?_; intro w H; refine ⟨_,⟨_,_,rfl,rfl,rfl⟩,?_⟩)
            first
            | (rw [hin,hS]; exact ⟨rfl,Holds.to (by assumption)⟩)
            | (have hc : insC n most s id a = 1:=if_pos (fun hh=>by
                 first
                 | exact h2 hh.2.1.1
                 | exact h3 hh.2.1.2
                 | exact h4 hh.2.2
                 | (have:=hh.1.1; have:=hh.1.2; omega))
               rw [hc,show insS n most s id a = s from if_neg (by rw [hc]; decide)]
               exact ⟨rfl,Holds.to (by assumption)⟩)
            | (have hc : insC n most s id a = 4:=by unfold insC; rw [if_neg (fun hh=>hh ⟨hpl,hok⟩),if_pos h5]
               rw [hc,show insS n most s id a = s from if_neg (by rw [hc]; decide)]
               exact ⟨rfl,Holds.to (by assumption)⟩)
            | (have hc : insC n most s id a = 2:=by unfold insC; rw [if_neg (fun hh=>hh ⟨hpl,hok⟩),if_neg (by simpa using h5),if_pos h6]
               rw [hc,show insS n most s id a = s from if_neg (by rw [hc]; decide)]
               exact ⟨rfl,Holds.to (by assumption)⟩)
          · refine W.skip ?_
            refine hK1 _ _ _ ?_
            refine W.seq (fun K8 hK8=>?_)
            refine W.seq (fun K9 hK9=>?_)
            refine W.region ?_
            have hpl : pl id:=⟨by omega,by omega⟩
            have hok : okA n a:=⟨⟨Decidable.not_not.1 h2,Decidable.not_not.1 h3⟩,Decidable.not_not.1 h4⟩
            have p0:=hpl.1
            have p1:=hpl.2
            refine O.ex (Ex.move rfl) rfl ?_
            refine O.ex (Ex.move rfl) rfl ?_
            refine O.ex (by first|exact Ex.nilPtr rfl|exact Ex.nilFunc rfl|exact Ex.nilYield rfl) rfl ?_
            refine O.ex (by first|exact Ex.field0 fld45_2 rfl|exact Ex.field fld45_2 rfl|exact Ex.fieldS fld45_2 rfl) rfl ?_
            refine O.ex (Ex.idxArr Try.runUnderlying40 Try.sizeOf4 rfl rfl) rfl ?_
            refine O.ex (by first|exact Ex.loadRT Try.isAgg4 rfl|exact Ex.loadRA Try.isAgg4 rfl|exact Ex.loadRN Try.isAgg4 rfl|exact Ex.loadRM Try.isAgg4 rfl|exact Ex.loadM Try.isAgg4 rfl|exact Ex.loadVc Try.isAgg4 rfl|exact Ex.loadP Try.isAgg4 rfl|exact Ex.loadIn1 Try.isAgg4 rfl (Holds.to (by assumption))|exact Ex.loadMh Try.isAgg4 rfl|exact Ex.loadR Try.isAgg4 rfl|exact Ex.loadQ Try.isAgg4 rfl) rfl ?_
            refine O.nil ?_
            refine hK9 _ _ _ ?_
            first|refine W.cond_p rfl (fun h5=>?_) (fun h5=>?_)|refine W.cond_b rfl (fun h5=>?_) (fun h5=>?_)
            · refine W.seq (fun K10 hK10=>?_)
              refine W.region ?_
              refine O.ex (Ex.assign rfl) rfl ?_
              refine O.nil ?_
              refine hK10 _ _ _ ?_
              refine W.ret ?_
              try dsimp only [thenQ,blockQ,retQ]
              first|refine ⟨_,⟨_,_,rfl,rfl,rfl⟩,?_⟩|(refine retD_mark ?_; intro w H; refine ⟨_,⟨_,_,rfl,rfl,rfl⟩,?_⟩)|(refine retD_mark2 ?_; intro w H; refine ⟨_,⟨_,_,rfl,rfl,rfl⟩,?_⟩)
              first
              | (rw [hin,hS]; exact ⟨rfl,Holds.to (by assumption)⟩)
              | (have hc : insC n most s id a = 1:=if_pos (fun hh=>by
                   first
                   | exact h2 hh.2.1.1
                   | exact h3 hh.2.1.2
                   | exact h4 hh.2.2
                   | (have:=hh.1.1; have:=hh.1.2; omega))
                 rw [hc,show insS n most s id a = s from if_neg (by rw [hc]; decide)]
                 exact ⟨rfl,Holds.to (by assumption)⟩)
              | (have hc : insC n most s id a = 4:=by unfold insC; rw [if_neg (fun hh=>hh ⟨hpl,hok⟩),if_pos h5]
                 rw [hc,show insS n most s id a = s from if_neg (by rw [hc]; decide)]
                 exact ⟨rfl,Holds.to (by assumption)⟩)
              | (have hc : insC n most s id a = 2:=by unfold insC; rw [if_neg (fun hh=>hh ⟨hpl,hok⟩),if_neg (by simpa using h5),if_pos h6]
                 rw [hc,show insS n most s id a = s from if_neg (by rw [hc]; decide)]
                 exact ⟨rfl,Holds.to (by assumption)⟩)
            · refine W.skip ?_
              refine hK8 _ _ _ ?_
              refine W.seq (fun K11 hK11=>?_)
              refine W.seq (fun K12 hK12=>?_)
              refine W.drawTo _ (.take 0 (.take 2 (.take 3 (.take 4 (.take 5 (.one 1 (.take 6 .nil))))))) (mixed) (fun _ _ _ _ h=>h) (by assumption) (PP.refl _) (by decide +kernel) (fun w H=>?_)
              refine OQ.ex rfl (fun w H=>(Ex.move rfl)) rfl ?_
              refine OQ.ex rfl (fun w H=>(Ex.move rfl)) rfl ?_
              refine OQ.ex rfl (fun w H=>(by first|exact Ex.nilPtr rfl|exact Ex.nilFunc rfl|exact Ex.nilYield rfl)) rfl ?_
              refine OQ.ex rfl (fun w H=>(by first|exact Ex.field0 fld45_1 rfl|exact Ex.field fld45_1 rfl|exact Ex.fieldS fld45_1 rfl)) rfl ?_
              refine OQ.ex rfl (fun w H=>(by first|exact Ex.loadRT Try.isAgg3 rfl|exact Ex.loadRA Try.isAgg3 rfl|exact Ex.loadRN Try.isAgg3 rfl|exact Ex.loadRM Try.isAgg3 rfl|exact Ex.loadMh Try.isAgg3 rfl|exact Ex.loadP Try.isAgg3 rfl|exact Ex.loadM Try.isAgg3 rfl|exact Ex.loadIn1 Try.isAgg3 rfl (Holds.to (by assumption))|exact Ex.loadVc Try.isAgg3 rfl|exact Ex.loadR Try.isAgg3 rfl|exact Ex.loadQ Try.isAgg3 rfl)) rfl ?_
              refine OQ.step rfl ?_
              refine O.callF Try.call91 rfl rfl (CT.mono (rlen_ct (Holds.to (by assumption))) ?_)
              rintro _ w ⟨rfl,H⟩
              refine O.thenNil ⟨(by first|exact Holds.to (by assumption)|assumption),?_⟩
              refine OQ.ex rfl (fun w H=>(Ex.geq rfl rfl)) rfl ?_
              refine OQ.done ?_
              refine hK12 _ _ _ ?_
              first|refine W.cond_p rfl (fun h6=>?_) (fun h6=>?_)|refine W.cond_b rfl (fun h6=>?_) (fun h6=>?_)
              · refine W.seq (fun K13 hK13=>?_)
                refine W.region ?_
                refine O.ex (Ex.assign rfl) rfl ?_
                refine O.nil ?_
                refine hK13 _ _ _ ?_
                refine W.ret ?_
                try dsimp only [thenQ,blockQ,retQ]
                first|refine ⟨_,⟨_,_,rfl,rfl,rfl⟩,?_⟩|(refine retD_mark ?_; intro w H; refine ⟨_,⟨_,_,rfl,rfl,rfl⟩,?_⟩)|(refine retD_mark2 ?_; intro w H; refine ⟨_,⟨_,_,rfl,rfl,rfl⟩,?_⟩)
                first
                | (rw [hin,hS]; exact ⟨rfl,Holds.to (by assumption)⟩)
                | (have hc : insC n most s id a = 1:=if_pos (fun hh=>by
                     first
                     | exact h2 hh.2.1.1
                     | exact h3 hh.2.1.2
                     | exact h4 hh.2.2
                     | (have:=hh.1.1; have:=hh.1.2; omega))
                   rw [hc,show insS n most s id a = s from if_neg (by rw [hc]; decide)]
                   exact ⟨rfl,Holds.to (by assumption)⟩)
                | (have hc : insC n most s id a = 4:=by unfold insC; rw [if_neg (fun hh=>hh ⟨hpl,hok⟩),if_pos h5]
                   rw [hc,show insS n most s id a = s from if_neg (by rw [hc]; decide)]
                   exact ⟨rfl,Holds.to (by assumption)⟩)
                | (have hc : insC n most s id a = 2:=by unfold insC; rw [if_neg (fun hh=>hh ⟨hpl,hok⟩),if_neg (by simpa using h5),if_pos h6]
                   rw [hc,show insS n most s id a = s from if_neg (by rw [hc]; decide)]
                   exact ⟨rfl,Holds.to (by assumption)⟩)
              · refine W.skip ?_
                refine hK11 _ _ _ ?_
                refine W.seq (fun K14 hK14=>?_)
                refine W.region ?_
                have hin : insC n most s id a = 0:=insC_zero.2 ⟨⟨hpl,hok⟩,by simpa using h5,by omega⟩
                have hS : insS n most s id a = upS s id.toNat ⟨a,true⟩:=if_pos hin
                refine O.ex (Ex.move rfl) rfl ?_
                refine O.ex (Ex.move rfl) rfl ?_
                refine O.ex (by first|exact Ex.nilPtr rfl|exact Ex.nilFunc rfl|exact Ex.nilYield rfl) rfl ?_
                refine O.ex (by first|exact Ex.field0 fld45_2 rfl|exact Ex.field fld45_2 rfl|exact Ex.fieldS fld45_2 rfl) rfl ?_
                refine O.ex (Ex.idxArr Try.runUnderlying40 Try.sizeOf4 rfl rfl) rfl ?_
                refine O.storeRT (i:=id) (st':=upS s id.toNat ⟨a,true⟩) Try.sizeOf4 rfl rfl (fun k=>upS_tk k) (fun w H=>?_)
                refine O.nil ?_
                refine hK14 _ _ _ ?_
                refine W.seq (fun K15 hK15=>?_)
                refine W.drawTo (pt b5 _::[]) (.take 0 (.take 1 (.take 2 (.take 3 (.take 4 (.take 5 (.one 6 .nil))))))) (mixed) (fun _ _ _ _ h=>h) (by assumption) PP.auto (by decide +kernel) (fun w H=>?_)
                refine OQ.ex rfl (fun w H=>(Ex.move rfl)) rfl ?_
                refine OQ.ex rfl (fun w H=>(Ex.move rfl)) rfl ?_
                refine OQ.ex rfl (fun w H=>(by first|exact Ex.loadRArc Try.isAgg42 Try.sizeOf42 rfl|exact Ex.loadAggP Try.isAgg42 Try.sizeOf42 rfl|exact Ex.loadAggN Try.isAgg42 Try.sizeOf42 rfl|exact Ex.loadIn Try.isAgg42 Try.sizeOf42 rfl (Holds.to (by assumption)))) rfl ?_
                refine OQ.ex rfl (fun w H=>(by first|exact Ex.nilPtr rfl|exact Ex.nilFunc rfl|exact Ex.nilYield rfl)) rfl ?_
                refine OQ.ex rfl (fun w H=>(by first|exact Ex.field0 fld45_3 rfl|exact Ex.field fld45_3 rfl|exact Ex.fieldS fld45_3 rfl)) rfl ?_
                refine OQ.ex rfl (fun w H=>(Ex.idxArr Try.runUnderlying43 Try.sizeOf42 rfl rfl)) rfl ?_
                refine OQ.last rfl (by decide +kernel) ?_
                refine O.storeRArc (i:=id) (z:=a) (sa':=upS s id.toNat ⟨a,true⟩) Try.sizeOf42 rfl rfl rfl (fun k=>upS_a k) (fun w H=>?_)
                refine O.nil ?_
                refine hK15 _ _ _ ?_
                refine W.seq (fun K16 hK16=>?_)
                refine W.region ?_
                refine O.ex (Ex.assign rfl) rfl ?_
                refine O.nil ?_
                refine hK16 _ _ _ ?_
                refine W.ret ?_
                try dsimp only [thenQ,blockQ,retQ]
                first|refine ⟨_,⟨_,_,rfl,rfl,rfl⟩,?_⟩|(refine retD_mark ?_; intro w H; refine ⟨_,⟨_,_,rfl,rfl,rfl⟩,?_⟩)|(refine retD_mark2 ?_; intro w H; refine ⟨_,⟨_,_,rfl,rfl,rfl⟩,?_⟩)
                first
                | (rw [hin,hS]; exact ⟨rfl,Holds.to (by assumption)⟩)
                | (have hc : insC n most s id a = 1:=if_pos (fun hh=>by
                     first
                     | exact h2 hh.2.1.1
                     | exact h3 hh.2.1.2
                     | exact h4 hh.2.2
                     | (have:=hh.1.1; have:=hh.1.2; omega))
                   rw [hc,show insS n most s id a = s from if_neg (by rw [hc]; decide)]
                   exact ⟨rfl,Holds.to (by assumption)⟩)
                | (have hc : insC n most s id a = 4:=by unfold insC; rw [if_neg (fun hh=>hh ⟨hpl,hok⟩),if_pos h5]
                   rw [hc,show insS n most s id a = s from if_neg (by rw [hc]; decide)]
                   exact ⟨rfl,Holds.to (by assumption)⟩)
                | (have hc : insC n most s id a = 2:=by unfold insC; rw [if_neg (fun hh=>hh ⟨hpl,hok⟩),if_neg (by simpa using h5),if_pos h6]
                   rw [hc,show insS n most s id a = s from if_neg (by rw [hc]; decide)]
                   exact ⟨rfl,Holds.to (by assumption)⟩)
theorem rdelete_ct {w : World} {r : Nat} {n most id : Int} {s : St} {L : List HProp} (H : Holds w (Rg r n most s::L)) :
    CT Try.prog 63 [.pointer (some ⟨r,0,none⟩),.int .i64 id] w fun u w'=>u = .int .i64 (thC s id) ∧ Holds w' (Rg r n most (delS s id)::L):=by
  refine CT.enter (N:=23) Try.func63 rfl rfl rfl rfl ?_
  refine W.seq (fun K0 hK0=>?_)
  refine W.region ?_
  refine O.ex (Ex.assign rfl) rfl ?_
  refine O.nil ?_
  refine hK0 _ _ _ ?_
  refine W.seq (fun K1 hK1=>?_)
  refine W.region ?_
  refine O.ex (Ex.move rfl) rfl ?_
  refine O.ex (Ex.move rfl) rfl ?_
  refine O.callF Try.call46 rfl rfl (CT.mono (rcode_ct (Holds.to (by assumption))) ?_)
  rintro _ w ⟨rfl,H⟩
  refine O.ex (Ex.assign rfl) rfl ?_
  refine O.nil ?_
  refine hK1 _ _ _ ?_
  refine W.seq (fun K2 hK2=>?_)
  refine W.seq (fun K3 hK3=>?_)
  refine W.region ?_
  refine O.ex (Ex.move rfl) rfl ?_
  refine O.ex (Ex.eqlI rfl rfl) rfl ?_
  refine O.nil ?_
  refine hK3 _ _ _ ?_
  first|refine W.cond_p rfl (fun hc=>?_) (fun hc=>?_)|refine W.cond_b rfl (fun hc=>?_) (fun hc=>?_)
  · refine W.seq (fun K4 hK4=>?_)
    refine W.region ?_
    have hpl:=(thC_zero.1 hc).1
    have p0:=hpl.1
    have p1:=hpl.2
    refine O.ex (Ex.move rfl) rfl ?_
    refine O.ex (Ex.move rfl) rfl ?_
    refine O.ex (by first|exact Ex.nilPtr rfl|exact Ex.nilFunc rfl|exact Ex.nilYield rfl) rfl ?_
    refine O.ex (by first|exact Ex.field0 fld45_2 rfl|exact Ex.field fld45_2 rfl|exact Ex.fieldS fld45_2 rfl) rfl ?_
    refine O.ex (Ex.idxArr Try.runUnderlying40 Try.sizeOf4 rfl rfl) rfl ?_
    refine O.storeRT (i:=id) (st':=upS s id.toNat Sl.zero) Try.sizeOf4 rfl rfl (fun k=>upS_tk k) (fun w H=>?_)
    refine O.nil ?_
    refine hK4 _ _ _ ?_
    refine W.region ?_
    refine O.ex (Ex.move rfl) rfl ?_
    refine O.ex (Ex.move rfl) rfl ?_
    refine O.ex (Ex.build rfl (bld42_  )) rfl ?_
    refine O.ex (by first|exact Ex.nilPtr rfl|exact Ex.nilFunc rfl|exact Ex.nilYield rfl) rfl ?_
    refine O.ex (by first|exact Ex.field0 fld45_3 rfl|exact Ex.field fld45_3 rfl|exact Ex.fieldS fld45_3 rfl) rfl ?_
    refine O.ex (Ex.idxArr Try.runUnderlying43 Try.sizeOf42 rfl rfl) rfl ?_
    refine O.storeRArc (i:=id) (z:=Arc.zero) (sa':=upS s id.toNat Sl.zero) Try.sizeOf42 rfl rfl rfl (fun k=>upS_a k) (fun w H=>?_)
    refine O.nil ?_
    refine hK2 _ _ _ ?_
    refine W.seq (fun K5 hK5=>?_)
    refine W.region ?_
    refine O.ex (Ex.move rfl) rfl ?_
    refine O.ex (Ex.assign rfl) rfl ?_
    refine O.nil ?_
    refine hK5 _ _ _ ?_
    refine W.ret ?_
    try dsimp only [thenQ,blockQ,retQ]
    first|refine ⟨_,⟨_,_,rfl,rfl,rfl⟩,?_⟩|(refine retD_mark ?_; intro w H; refine ⟨_,⟨_,_,rfl,rfl,rfl⟩,?_⟩)|(refine retD_mark2 ?_; intro w H; refine ⟨_,⟨_,_,rfl,rfl,rfl⟩,?_⟩)
    first
    | (rw [show delS s id = upS s id.toNat Sl.zero from if_pos hc]; exact ⟨rfl,Holds.to (by assumption)⟩)
    | (rw [show delS s id = s from if_neg hc]; exact ⟨rfl,Holds.to (by assumption)⟩)
  · refine W.skip ?_
    refine hK2 _ _ _ ?_
    refine W.seq (fun K6 hK6=>?_)
    refine W.region ?_
    refine O.ex (Ex.move rfl) rfl ?_
    refine O.ex (Ex.assign rfl) rfl ?_
    refine O.nil ?_
    refine hK6 _ _ _ ?_
    refine W.ret ?_
    try dsimp only [thenQ,blockQ,retQ]
    first|refine ⟨_,⟨_,_,rfl,rfl,rfl⟩,?_⟩|(refine retD_mark ?_; intro w H; refine ⟨_,⟨_,_,rfl,rfl,rfl⟩,?_⟩)|(refine retD_mark2 ?_; intro w H; refine ⟨_,⟨_,_,rfl,rfl,rfl⟩,?_⟩)
    first
    | (rw [show delS s id = upS s id.toNat Sl.zero from if_pos hc]; exact ⟨rfl,Holds.to (by assumption)⟩)
    | (rw [show delS s id = s from if_neg hc]; exact ⟨rfl,Holds.to (by assumption)⟩)
theorem rturn_ct {w : World} {r : Nat} {n most id : Int} {b : Bool} {s : St} {L : List HProp} (H : Holds w (Rg r n most s::L)) :
    CT Try.prog 64 [.pointer (some ⟨r,0,none⟩),.int .i64 id,.bool b] w fun u w'=>u = .int .i64 (turnC s id b) ∧ Holds w' (Rg r n most (turnS s id b)::L):=by
  refine CT.enter (N:=30) Try.func64 rfl rfl rfl rfl ?_
  refine W.seq (fun K0 hK0=>?_)
  refine W.region ?_
  refine O.ex (Ex.assign rfl) rfl ?_
  refine O.nil ?_
  refine hK0 _ _ _ ?_
  refine W.seq (fun K1 hK1=>?_)
  refine W.region ?_
  refine O.ex (Ex.move rfl) rfl ?_
  refine O.ex (Ex.move rfl) rfl ?_
  refine O.callF Try.call46 rfl rfl (CT.mono (rcode_ct (Holds.to (by assumption))) ?_)
  rintro _ w ⟨rfl,H⟩
  refine O.ex (Ex.assign rfl) rfl ?_
  refine O.nil ?_
  refine hK1 _ _ _ ?_
  refine W.seq (fun K2 hK2=>?_)
  refine W.seq (fun K3 hK3=>?_)
  refine W.region ?_
  refine O.ex (Ex.move rfl) rfl ?_
  refine O.ex (Ex.neqI rfl rfl) rfl ?_
  refine O.nil ?_
  refine hK3 _ _ _ ?_
  first|refine W.cond_p rfl (fun hc=>?_) (fun hc=>?_)|refine W.cond_b rfl (fun hc=>?_) (fun hc=>?_)
  · refine W.seq (fun K4 hK4=>?_)
    refine W.region ?_
    refine O.ex (Ex.move rfl) rfl ?_
    refine O.ex (Ex.assign rfl) rfl ?_
    refine O.nil ?_
    refine hK4 _ _ _ ?_
    refine W.ret ?_
    try dsimp only [thenQ,blockQ,retQ]
    first|refine ⟨_,⟨_,_,rfl,rfl,rfl⟩,?_⟩|(refine retD_mark ?_; intro w H; refine ⟨_,⟨_,_,rfl,rfl,rfl⟩,?_⟩)|(refine retD_mark2 ?_; intro w H; refine ⟨_,⟨_,_,rfl,rfl,rfl⟩,?_⟩)
    first
    | (have e : turnC s id b = thC s id:=if_neg hc
       rw [e,show turnS s id b = s from if_neg (by rw [e]; exact hc)]
       exact ⟨rfl,Holds.to (by assumption)⟩)
    | (have e : turnC s id b = 5:=by unfold turnC; rw [if_pos hc0,if_pos heq]
       rw [e,show turnS s id b = s from if_neg (by rw [e]; decide)]
       exact ⟨rfl,Holds.to (by assumption)⟩)
    | (have e : turnC s id b = 0:=by unfold turnC; rw [if_pos hc0,if_neg hne]
       rw [e,show turnS s id b = upS s id.toNat (shut (s id.toNat) b) from if_pos e]
       refine ⟨rfl,rg_to (st:=s) (sa:=upS s id.toNat (shut (s id.toNat) b)) (fun k=>?_) (fun k=>rfl) (Holds.to (by assumption))⟩
       rw [upS_tk]; split
       · rename_i e; rw [e]; rfl
       · rfl)
  · refine W.skip ?_
    refine hK2 _ _ _ ?_
    refine W.seq (fun K5 hK5=>?_)
    refine W.seq (fun K6 hK6=>?_)
    refine W.region ?_
    have hc0:=Decidable.not_not.1 hc
    have hpl:=(thC_zero.1 hc0).1
    have p0:=hpl.1
    have p1:=hpl.2
    refine O.ex (Ex.move rfl) rfl ?_
    refine O.ex (Ex.move rfl) rfl ?_
    refine O.ex (by first|exact Ex.nilPtr rfl|exact Ex.nilFunc rfl|exact Ex.nilYield rfl) rfl ?_
    refine O.ex (by first|exact Ex.field0 fld45_3 rfl|exact Ex.field fld45_3 rfl|exact Ex.fieldS fld45_3 rfl) rfl ?_
    refine O.ex (Ex.idxArr Try.runUnderlying43 Try.sizeOf42 rfl rfl) rfl ?_
    refine O.ex (by first|exact Ex.field0 fld42_3 rfl|exact Ex.field fld42_3 rfl|exact Ex.fieldS fld42_3 rfl) rfl ?_
    refine O.ex (by first|exact Ex.loadRT Try.isAgg4 rfl|exact Ex.loadRA Try.isAgg4 rfl|exact Ex.loadRN Try.isAgg4 rfl|exact Ex.loadRM Try.isAgg4 rfl|exact Ex.loadMh Try.isAgg4 rfl|exact Ex.loadP Try.isAgg4 rfl|exact Ex.loadM Try.isAgg4 rfl|exact Ex.loadIn1 Try.isAgg4 rfl (Holds.to (by assumption))|exact Ex.loadVc Try.isAgg4 rfl|exact Ex.loadR Try.isAgg4 rfl|exact Ex.loadQ Try.isAgg4 rfl) rfl ?_
    refine O.ex (Ex.move rfl) rfl ?_
    refine O.ex (Ex.eqlB Try.runUnderlying4 rfl rfl) rfl ?_
    refine O.nil ?_
    refine hK6 _ _ _ ?_
    first|refine W.cond_p rfl (fun heq=>?_) (fun hne=>?_)|refine W.cond_b rfl (fun heq=>?_) (fun hne=>?_)
    · refine W.seq (fun K7 hK7=>?_)
      refine W.region ?_
      refine O.ex (Ex.assign rfl) rfl ?_
      refine O.nil ?_
      refine hK7 _ _ _ ?_
      refine W.ret ?_
      try dsimp only [thenQ,blockQ,retQ]
      first|refine ⟨_,⟨_,_,rfl,rfl,rfl⟩,?_⟩|(refine retD_mark ?_; intro w H; refine ⟨_,⟨_,_,rfl,rfl,rfl⟩,?_⟩)|(refine retD_mark2 ?_; intro w H; refine ⟨_,⟨_,_,rfl,rfl,rfl⟩,?_⟩)
      first
      | (have e : turnC s id b = thC s id:=if_neg hc
         rw [e,show turnS s id b = s from if_neg (by rw [e]; exact hc)]
         exact ⟨rfl,Holds.to (by assumption)⟩)
      | (have e : turnC s id b = 5:=by unfold turnC; rw [if_pos hc0,if_pos heq]
         rw [e,show turnS s id b = s from if_neg (by rw [e]; decide)]
         exact ⟨rfl,Holds.to (by assumption)⟩)
      | (have e : turnC s id b = 0:=by unfold turnC; rw [if_pos hc0,if_neg hne]
         rw [e,show turnS s id b = upS s id.toNat (shut (s id.toNat) b) from if_pos e]
         refine ⟨rfl,rg_to (st:=s) (sa:=upS s id.toNat (shut (s id.toNat) b)) (fun k=>?_) (fun k=>rfl) (Holds.to (by assumption))⟩
         rw [upS_tk]; split
         · rename_i e; rw [e]; rfl
         · rfl)
    · refine W.skip ?_
      refine hK5 _ _ _ ?_
      refine W.seq (fun K8 hK8=>?_)
      refine W.region ?_
      refine O.ex (Ex.move rfl) rfl ?_
      refine O.ex (Ex.move rfl) rfl ?_
      refine O.ex (Ex.move rfl) rfl ?_
      refine O.ex (by first|exact Ex.nilPtr rfl|exact Ex.nilFunc rfl|exact Ex.nilYield rfl) rfl ?_
      refine O.ex (by first|exact Ex.field0 fld45_3 rfl|exact Ex.field fld45_3 rfl|exact Ex.fieldS fld45_3 rfl) rfl ?_
      refine O.ex (Ex.idxArr Try.runUnderlying43 Try.sizeOf42 rfl rfl) rfl ?_
      refine O.ex (by first|exact Ex.field0 fld42_3 rfl|exact Ex.field fld42_3 rfl|exact Ex.fieldS fld42_3 rfl) rfl ?_
      refine O.storeRA (i:=id) (k:=3) (z:={ (s id.toNat).a with cl:=b }) (sa':=upS s id.toNat (shut (s id.toNat) b)) Try.sizeOf4 rfl rfl (by decide) rfl (fun j h1 h2=>by
        have : j = 0 ∨ j = 1 ∨ j = 2:=by omega
        rcases this with rfl|rfl|rfl <;> rfl) (fun k=>upS_a k) (fun w H=>?_)
      refine O.nil ?_
      refine hK8 _ _ _ ?_
      refine W.seq (fun K9 hK9=>?_)
      refine W.region ?_
      refine O.ex (Ex.assign rfl) rfl ?_
      refine O.nil ?_
      refine hK9 _ _ _ ?_
      refine W.ret ?_
      try dsimp only [thenQ,blockQ,retQ]
      first|refine ⟨_,⟨_,_,rfl,rfl,rfl⟩,?_⟩|(refine retD_mark ?_; intro w H; refine ⟨_,⟨_,_,rfl,rfl,rfl⟩,?_⟩)|(refine retD_mark2 ?_; intro w H; refine ⟨_,⟨_,_,rfl,rfl,rfl⟩,?_⟩)
      first
      | (have e : turnC s id b = thC s id:=if_neg hc
         rw [e,show turnS s id b = s from if_neg (by rw [e]; exact hc)]
         exact ⟨rfl,Holds.to (by assumption)⟩)
      | (have e : turnC s id b = 5:=by unfold turnC; rw [if_pos hc0,if_pos heq]
         rw [e,show turnS s id b = s from if_neg (by rw [e]; decide)]
         exact ⟨rfl,Holds.to (by assumption)⟩)
      | (have e : turnC s id b = 0:=by unfold turnC; rw [if_pos hc0,if_neg hne]
         rw [e,show turnS s id b = upS s id.toNat (shut (s id.toNat) b) from if_pos e]
         refine ⟨rfl,rg_to (st:=s) (sa:=upS s id.toNat (shut (s id.toNat) b)) (fun k=>?_) (fun k=>rfl) (Holds.to (by assumption))⟩
         rw [upS_tk]; split
         · rename_i e; rw [e]; rfl
         · rfl)
theorem rweigh_ct {w : World} {r : Nat} {n most id v : Int} {s : St} {L : List HProp} (H : Holds w (Rg r n most s::L)) :
    CT Try.prog 65 [.pointer (some ⟨r,0,none⟩),.int .i64 id,.int .i64 v] w fun u w'=>u = .int .i64 (weighC s id v) ∧ Holds w' (Rg r n most (weighS s id v)::L):=by
  refine CT.enter (N:=24) Try.func65 rfl rfl rfl rfl ?_
  refine W.seq (fun K0 hK0=>?_)
  refine W.region ?_
  refine O.ex (Ex.assign rfl) rfl ?_
  refine O.nil ?_
  refine hK0 _ _ _ ?_
  refine W.seq (fun K1 hK1=>?_)
  refine W.seq (fun K2 hK2=>?_)
  refine W.region ?_
  refine O.ex (Ex.move rfl) rfl ?_
  refine O.callF Try.call90 rfl rfl (CT.mono (rweight_ct (Holds.to (by assumption))) ?_)
  rintro _ w ⟨rfl,H⟩
  refine O.ex (by first|exact Ex.notD rfl|exact Ex.not rfl) rfl ?_
  refine O.nil ?_
  refine hK2 _ _ _ ?_
  first|refine W.cond_p rfl (fun hbad=>?_) (fun hok=>?_)|refine W.cond_b rfl (fun hbad=>?_) (fun hok=>?_)
  · refine W.seq (fun K3 hK3=>?_)
    refine W.region ?_
    refine O.ex (Ex.assign rfl) rfl ?_
    refine O.nil ?_
    refine hK3 _ _ _ ?_
    refine W.ret ?_
    try dsimp only [thenQ,blockQ,retQ]
    first|refine ⟨_,⟨_,_,rfl,rfl,rfl⟩,?_⟩|(refine retD_mark ?_; intro w H; refine ⟨_,⟨_,_,rfl,rfl,rfl⟩,?_⟩)|(refine retD_mark2 ?_; intro w H; refine ⟨_,⟨_,_,rfl,rfl,rfl⟩,?_⟩)
    first
    | (have e : weighC s id v = 1:=if_pos hbad
       rw [e,show weighS s id v = s from if_neg (by rw [e]; decide)]
       exact ⟨rfl,Holds.to (by assumption)⟩)
    | (have e : weighC s id v = thC s id:=if_neg (fun hh=>hh (Decidable.not_not.1 hok))
       rw [e,show weighS s id v = upS s id.toNat (wgt (s id.toNat) v) from if_pos (by rw [e]; exact hc)]
       refine ⟨rfl,rg_to (st:=s) (sa:=upS s id.toNat (wgt (s id.toNat) v)) (fun k=>?_) (fun k=>rfl) (Holds.to (by assumption))⟩
       rw [upS_tk]; split
       · rename_i e; rw [e]; rfl
       · rfl)
    | (have e : weighC s id v = thC s id:=if_neg (fun hh=>hh (Decidable.not_not.1 hok))
       rw [e,show weighS s id v = s from if_neg (by rw [e]; exact hc)]
       exact ⟨rfl,Holds.to (by assumption)⟩)
  · refine W.skip ?_
    refine hK1 _ _ _ ?_
    refine W.seq (fun K4 hK4=>?_)
    refine W.region ?_
    refine O.ex (Ex.move rfl) rfl ?_
    refine O.ex (Ex.move rfl) rfl ?_
    refine O.callF Try.call46 rfl rfl (CT.mono (rcode_ct (Holds.to (by assumption))) ?_)
    rintro _ w ⟨rfl,H⟩
    refine O.ex (Ex.assign rfl) rfl ?_
    refine O.nil ?_
    refine hK4 _ _ _ ?_
    refine W.seq (fun K5 hK5=>?_)
    refine W.seq (fun K6 hK6=>?_)
    refine W.region ?_
    refine O.ex (Ex.move rfl) rfl ?_
    refine O.ex (Ex.eqlI rfl rfl) rfl ?_
    refine O.nil ?_
    refine hK6 _ _ _ ?_
    first|refine W.cond_p rfl (fun hc=>?_) (fun hc=>?_)|refine W.cond_b rfl (fun hc=>?_) (fun hc=>?_)
    · refine W.region ?_
      have hpl:=(thC_zero.1 hc).1
      have p0:=hpl.1
      have p1:=hpl.2
      refine O.ex (Ex.move rfl) rfl ?_
      refine O.ex (Ex.move rfl) rfl ?_
      refine O.ex (Ex.move rfl) rfl ?_
      refine O.ex (by first|exact Ex.nilPtr rfl|exact Ex.nilFunc rfl|exact Ex.nilYield rfl) rfl ?_
      refine O.ex (by first|exact Ex.field0 fld45_3 rfl|exact Ex.field fld45_3 rfl|exact Ex.fieldS fld45_3 rfl) rfl ?_
      refine O.ex (Ex.idxArr Try.runUnderlying43 Try.sizeOf42 rfl rfl) rfl ?_
      refine O.ex (by first|exact Ex.field0 fld42_2 rfl|exact Ex.field fld42_2 rfl|exact Ex.fieldS fld42_2 rfl) rfl ?_
      refine O.storeRA (i:=id) (k:=2) (z:={ (s id.toNat).a with w:=v }) (sa':=upS s id.toNat (wgt (s id.toNat) v)) Try.sizeOf3 rfl rfl (by decide) rfl (fun j h1 h2=>by
        have : j = 0 ∨ j = 1 ∨ j = 3:=by omega
        rcases this with rfl|rfl|rfl <;> rfl) (fun k=>upS_a k) (fun w H=>?_)
      refine O.nil ?_
      refine hK5 _ _ _ ?_
      refine W.seq (fun K7 hK7=>?_)
      refine W.region ?_
      refine O.ex (Ex.move rfl) rfl ?_
      refine O.ex (Ex.assign rfl) rfl ?_
      refine O.nil ?_
      refine hK7 _ _ _ ?_
      refine W.ret ?_
      try dsimp only [thenQ,blockQ,retQ]
      first|refine ⟨_,⟨_,_,rfl,rfl,rfl⟩,?_⟩|(refine retD_mark ?_; intro w H; refine ⟨_,⟨_,_,rfl,rfl,rfl⟩,?_⟩)|(refine retD_mark2 ?_; intro w H; refine ⟨_,⟨_,_,rfl,rfl,rfl⟩,?_⟩)
      first
      | (have e : weighC s id v = 1:=if_pos hbad
         rw [e,show weighS s id v = s from if_neg (by rw [e]; decide)]
         exact ⟨rfl,Holds.to (by assumption)⟩)
      | (have e : weighC s id v = thC s id:=if_neg (fun hh=>hh (Decidable.not_not.1 hok))
         rw [e,show weighS s id v = upS s id.toNat (wgt (s id.toNat) v) from if_pos (by rw [e]; exact hc)]
         refine ⟨rfl,rg_to (st:=s) (sa:=upS s id.toNat (wgt (s id.toNat) v)) (fun k=>?_) (fun k=>rfl) (Holds.to (by assumption))⟩
         rw [upS_tk]; split
         · rename_i e; rw [e]; rfl
         · rfl)
      | (have e : weighC s id v = thC s id:=if_neg (fun hh=>hh (Decidable.not_not.1 hok))
         rw [e,show weighS s id v = s from if_neg (by rw [e]; exact hc)]
         exact ⟨rfl,Holds.to (by assumption)⟩)
    · refine W.skip ?_
      refine hK5 _ _ _ ?_
      refine W.seq (fun K8 hK8=>?_)
      refine W.region ?_
      refine O.ex (Ex.move rfl) rfl ?_
      refine O.ex (Ex.assign rfl) rfl ?_
      refine O.nil ?_
      refine hK8 _ _ _ ?_
      refine W.ret ?_
      try dsimp only [thenQ,blockQ,retQ]
      first|refine ⟨_,⟨_,_,rfl,rfl,rfl⟩,?_⟩|(refine retD_mark ?_; intro w H; refine ⟨_,⟨_,_,rfl,rfl,rfl⟩,?_⟩)|(refine retD_mark2 ?_; intro w H; refine ⟨_,⟨_,_,rfl,rfl,rfl⟩,?_⟩)
      first
      | (have e : weighC s id v = 1:=if_pos hbad
         rw [e,show weighS s id v = s from if_neg (by rw [e]; decide)]
         exact ⟨rfl,Holds.to (by assumption)⟩)
      | (have e : weighC s id v = thC s id:=if_neg (fun hh=>hh (Decidable.not_not.1 hok))
         rw [e,show weighS s id v = upS s id.toNat (wgt (s id.toNat) v) from if_pos (by rw [e]; exact hc)]
         refine ⟨rfl,rg_to (st:=s) (sa:=upS s id.toNat (wgt (s id.toNat) v)) (fun k=>?_) (fun k=>rfl) (Holds.to (by assumption))⟩
         rw [upS_tk]; split
         · rename_i e; rw [e]; rfl
         · rfl)
      | (have e : weighC s id v = thC s id:=if_neg (fun hh=>hh (Decidable.not_not.1 hok))
         rw [e,show weighS s id v = s from if_neg (by rw [e]; exact hc)]
         exact ⟨rfl,Holds.to (by assumption)⟩)
theorem arcQ_of {n most : Int} {s : St} (hg : GOk n most s) {id : Int} (h : thC s id ≠ 0) : arcQ s id = Arc.zero ∧ thB s id = false:=by
  unfold arcQ thB
  by_cases hp : pl id
  · cases ht : (s id.toNat).tk with
    | true=>exact absurd (thC_zero.2 ⟨hp,ht⟩) h
    | false=>rw [if_pos hp,hg.free _ ht]; exact ⟨rfl,by rw [Bool.and_false]⟩
  · rw [if_neg hp,decide_eq_false hp]; exact ⟨rfl,rfl⟩
theorem rarc_ct {w : World} {r : Nat} {n most id : Int} {s : St} {L : List HProp} (hg : GOk n most s) (H : Holds w (Rg r n most s::L)) :
    CT Try.prog 22 [.pointer (some ⟨r,0,none⟩),.int .i64 id] w fun u w'=>u = .tuple #[(arcQ s id).val,.bool (thB s id)] ∧ Holds w' (Rg r n most s::L):=by
  refine CT.enter (N:=17) Try.func22 rfl rfl rfl rfl ?_
  refine W.seq (fun K0 hK0=>?_)
  refine W.region ?_
  refine O.allocP Try.zeroValue42 (fun b4 w H=>?_)
  refine O.ex (Ex.assign rfl) rfl ?_
  refine O.nil ?_
  refine hK0 _ _ _ ?_
  refine W.seq (fun K1 hK1=>?_)
  refine W.seq (fun K2 hK2=>?_)
  refine W.region ?_
  refine O.ex (Ex.move rfl) rfl ?_
  refine O.ex (Ex.move rfl) rfl ?_
  refine O.callF Try.call46 rfl rfl (CT.mono (rcode_ct (Holds.to (by assumption))) ?_)
  rintro _ w ⟨rfl,H⟩
  refine O.ex (Ex.neqI rfl rfl) rfl ?_
  refine O.nil ?_
  refine hK2 _ _ _ ?_
  first|refine W.cond_p rfl (fun hc=>?_) (fun hc=>?_)|refine W.cond_b rfl (fun hc=>?_) (fun hc=>?_)
  · refine W.seq (fun K3 hK3=>?_)
    refine W.region ?_
    refine O.ex (Ex.build rfl (bld42_  )) rfl ?_
    first|refine O.storeAggP Try.sizeOf42 rfl rfl rfl rfl (fun w H=>?_)|refine O.storeAggN Try.sizeOf42 rfl rfl rfl (fun w H=>?_) rfl
    refine O.ex (Ex.assign rfl) rfl ?_
    refine O.nil ?_
    refine hK3 _ _ _ ?_
    refine W.ret ?_
    try dsimp only [thenQ,blockQ,retQ]
    first|refine ⟨_,⟨_,_,_,rfl,rfl,(by first|exact loadVar_mtx Try.isAgg42 Try.sizeOf42|exact loadVar_agg Try.isAgg42 Try.sizeOf42),_,_,rfl,rfl,rfl⟩,?_⟩|(refine retD_mark ?_; intro w H; refine ⟨_,⟨_,_,_,rfl,rfl,(by first|exact loadVar_mtx Try.isAgg42 Try.sizeOf42|exact loadVar_agg Try.isAgg42 Try.sizeOf42),_,_,rfl,rfl,rfl⟩,?_⟩)|(refine retD_mark2 ?_; intro w H; refine ⟨_,⟨_,_,_,rfl,rfl,(by first|exact loadVar_mtx Try.isAgg42 Try.sizeOf42|exact loadVar_agg Try.isAgg42 Try.sizeOf42),_,_,rfl,rfl,rfl⟩,?_⟩)
    first
    | (rw [(arcQ_of hg hc).1,(arcQ_of hg hc).2]; exact ⟨rfl,Holds.to (by assumption)⟩)
    | (rw [show arcQ s id = (s id.toNat).a from if_pos hpl,show thB s id = true from by unfold thB; rw [decide_eq_true hpl,htk]; rfl]; exact ⟨rfl,Holds.to (by assumption)⟩)
  · refine W.skip ?_
    refine hK1 _ _ _ ?_
    refine W.seq (fun K4 hK4=>?_)
    refine W.region ?_
    have hc0:=Decidable.not_not.1 hc
    have hpl:=(thC_zero.1 hc0).1
    have htk:=(thC_zero.1 hc0).2
    have p0:=hpl.1
    have p1:=hpl.2
    refine O.ex (Ex.move rfl) rfl ?_
    refine O.ex (Ex.move rfl) rfl ?_
    refine O.ex (by first|exact Ex.nilPtr rfl|exact Ex.nilFunc rfl|exact Ex.nilYield rfl) rfl ?_
    refine O.ex (by first|exact Ex.field0 fld45_3 rfl|exact Ex.field fld45_3 rfl|exact Ex.fieldS fld45_3 rfl) rfl ?_
    refine O.ex (Ex.idxArr Try.runUnderlying43 Try.sizeOf42 rfl rfl) rfl ?_
    refine O.ex (by first|exact Ex.loadRArc Try.isAgg42 Try.sizeOf42 rfl|exact Ex.loadAggP Try.isAgg42 Try.sizeOf42 rfl|exact Ex.loadAggN Try.isAgg42 Try.sizeOf42 rfl|exact Ex.loadIn Try.isAgg42 Try.sizeOf42 rfl (Holds.to (by assumption))) rfl ?_
    first|refine O.storeAggP Try.sizeOf42 rfl rfl rfl rfl (fun w H=>?_)|refine O.storeAggN Try.sizeOf42 rfl rfl rfl (fun w H=>?_) rfl
    refine O.ex (Ex.assign rfl) rfl ?_
    refine O.nil ?_
    refine hK4 _ _ _ ?_
    refine W.ret ?_
    try dsimp only [thenQ,blockQ,retQ]
    first|refine ⟨_,⟨_,_,_,rfl,rfl,(by first|exact loadVar_mtx Try.isAgg42 Try.sizeOf42|exact loadVar_agg Try.isAgg42 Try.sizeOf42),_,_,rfl,rfl,rfl⟩,?_⟩|(refine retD_mark ?_; intro w H; refine ⟨_,⟨_,_,_,rfl,rfl,(by first|exact loadVar_mtx Try.isAgg42 Try.sizeOf42|exact loadVar_agg Try.isAgg42 Try.sizeOf42),_,_,rfl,rfl,rfl⟩,?_⟩)|(refine retD_mark2 ?_; intro w H; refine ⟨_,⟨_,_,_,rfl,rfl,(by first|exact loadVar_mtx Try.isAgg42 Try.sizeOf42|exact loadVar_agg Try.isAgg42 Try.sizeOf42),_,_,rfl,rfl,rfl⟩,?_⟩)
    first
    | (rw [(arcQ_of hg hc).1,(arcQ_of hg hc).2]; exact ⟨rfl,Holds.to (by assumption)⟩)
    | (rw [show arcQ s id = (s id.toNat).a from if_pos hpl,show thB s id = true from by unfold thB; rw [decide_eq_true hpl,htk]; rfl]; exact ⟨rfl,Holds.to (by assumption)⟩)
end Go.Proofs.Ytliofdfhimmjmaa
namespace Go.Proofs.Ytliofdfhimmjmaa
open Go.Rr Go Gr
set_option linter.unusedVariables false
structure Chg where
  f_Kind : Int
  f_ID : Int
  f_Arc_Tail : Int
  f_Arc_Head : Int
  f_Arc_Weight : Int
  f_Arc_Closed : Bool
  deriving Inhabited
def Chg.enc (x : Chg) : List Value:=[.int .i64 x.f_Kind,.int .i64 x.f_ID,.int .i64 x.f_Arc_Tail,.int .i64 x.f_Arc_Head,.int .i64 x.f_Arc_Weight,.bool x.f_Arc_Closed]
def Chg.ok (x : Chg) : Prop:=(Lit.int .i64 x.f_Kind).wf = true ∧ (Lit.int .i64 x.f_ID).wf = true ∧ (Lit.int .i64 x.f_Arc_Tail).wf = true ∧ (Lit.int .i64 x.f_Arc_Head).wf = true ∧ (Lit.int .i64 x.f_Arc_Weight).wf = true ∧ True
set_option maxRecDepth 100000 in
theorem Chg.elem : ElemOk Try.prog 68 Chg.enc Chg.ok:=fun H enc w base spare held fuel cs x h=>by
  obtain ⟨ys,n,_,_,hl,hys,hf⟩:=DataW.trod_struct Try.underlying68 h
  have hc : Try.prog.cellsOf 68 = 6:=by kernel_rfl
  rw [hc] at hl
  have c3 : Try.prog.cellsOf 3 = 1:=by kernel_rfl
  have c4 : Try.prog.cellsOf 4 = 1:=by kernel_rfl
  have c42 : Try.prog.cellsOf 42 = 4:=by kernel_rfl
  match cs,hl with
  | [a0,a1,a2,a3,a4,a5],_ =>
    have hy : ys.length = 3:=hys
    have h_0 : DataW.trod enc Try.prog w base spare held n 3 (([a0,a1,a2,a3,a4,a5].drop 0).take (Try.prog.cellsOf 3)) = ys[0]?:=hf 0 _ rfl
    rw [List.getElem?_eq_getElem (by omega),c3] at h_0
    simp only [List.drop_zero,List.take_succ_cons,List.take_zero] at h_0
    have h_1 : DataW.trod enc Try.prog w base spare held n 3 (([a0,a1,a2,a3,a4,a5].drop 1).take (Try.prog.cellsOf 3)) = ys[1]?:=hf 1 _ rfl
    rw [List.getElem?_eq_getElem (by omega),c3] at h_1
    simp only [List.drop_succ_cons,List.drop_zero,List.take_succ_cons,List.take_zero] at h_1
    have h_2 : DataW.trod enc Try.prog w base spare held n 42 (([a0,a1,a2,a3,a4,a5].drop 2).take (Try.prog.cellsOf 42)) = ys[2]?:=hf 2 _ rfl
    rw [List.getElem?_eq_getElem (by omega),c42] at h_2
    simp only [List.drop_succ_cons,List.drop_zero,List.take_succ_cons,List.take_zero] at h_2
    obtain ⟨ys_2,n_2,_,_,_,hys_2,hf_2⟩:=DataW.trod_struct Try.underlying42 h_2
    have hy_2 : ys_2.length = 4:=hys_2
    have h_2_0 : DataW.trod enc Try.prog w base spare held n_2 3 (([a2,a3,a4,a5].drop 0).take (Try.prog.cellsOf 3)) = ys_2[0]?:=hf_2 0 _ rfl
    rw [List.getElem?_eq_getElem (by omega),c3] at h_2_0
    simp only [List.drop_zero,List.take_succ_cons,List.take_zero] at h_2_0
    have h_2_1 : DataW.trod enc Try.prog w base spare held n_2 3 (([a2,a3,a4,a5].drop 1).take (Try.prog.cellsOf 3)) = ys_2[1]?:=hf_2 1 _ rfl
    rw [List.getElem?_eq_getElem (by omega),c3] at h_2_1
    simp only [List.drop_succ_cons,List.drop_zero,List.take_succ_cons,List.take_zero] at h_2_1
    have h_2_2 : DataW.trod enc Try.prog w base spare held n_2 3 (([a2,a3,a4,a5].drop 2).take (Try.prog.cellsOf 3)) = ys_2[2]?:=hf_2 2 _ rfl
    rw [List.getElem?_eq_getElem (by omega),c3] at h_2_2
    simp only [List.drop_succ_cons,List.drop_zero,List.take_succ_cons,List.take_zero] at h_2_2
    have h_2_3 : DataW.trod enc Try.prog w base spare held n_2 4 (([a2,a3,a4,a5].drop 3).take (Try.prog.cellsOf 4)) = ys_2[3]?:=hf_2 3 _ rfl
    rw [List.getElem?_eq_getElem (by omega),c4] at h_2_3
    simp only [List.drop_succ_cons,List.drop_zero,List.take_succ_cons,List.take_zero] at h_2_3
    obtain ⟨m0,e0,_,w0⟩:=DataW.trod_int Try.underlying3 h_0
    simp only [List.cons.injEq,and_true] at e0
    subst e0
    obtain ⟨m1,e1,_,w1⟩:=DataW.trod_int Try.underlying3 h_1
    simp only [List.cons.injEq,and_true] at e1
    subst e1
    obtain ⟨m2,e2,_,w2⟩:=DataW.trod_int Try.underlying3 h_2_0
    simp only [List.cons.injEq,and_true] at e2
    subst e2
    obtain ⟨m3,e3,_,w3⟩:=DataW.trod_int Try.underlying3 h_2_1
    simp only [List.cons.injEq,and_true] at e3
    subst e3
    obtain ⟨m4,e4,_,w4⟩:=DataW.trod_int Try.underlying3 h_2_2
    simp only [List.cons.injEq,and_true] at e4
    subst e4
    obtain ⟨m5,e5,_⟩:=DataW.trod_bool Try.underlying4 h_2_3
    simp only [List.cons.injEq,and_true] at e5
    subst e5
    exact ⟨⟨m0,m1,m2,m3,m4,m5⟩,rfl,w0,w1,w2,w3,w4,trivial⟩
def Chg.a (c : Chg) : Arc:=⟨c.f_Arc_Tail,c.f_Arc_Head,c.f_Arc_Weight,c.f_Arc_Closed⟩
def doC (n most : Int) (s : St) (c : Chg) : Int:=if c.f_Kind = 0 then insC n most s c.f_ID c.a else if c.f_Kind = 1 then thC s c.f_ID else if c.f_Kind = 2 then turnC s c.f_ID true else if c.f_Kind = 3 then turnC s c.f_ID false else weighC s c.f_ID c.a.w
def doS (n most : Int) (s : St) (c : Chg) : St:=if c.f_Kind = 0 then insS n most s c.f_ID c.a else if c.f_Kind = 1 then delS s c.f_ID else if c.f_Kind = 2 then turnS s c.f_ID true else if c.f_Kind = 3 then turnS s c.f_ID false else weighS s c.f_ID c.a.w
theorem ok_do {n most : Int} {s : St} (h : GOk n most s) (c : Chg) : GOk n most (doS n most s c):=by
  unfold doS
  split
  · exact ok_ins h _ _
  · split
    · exact ok_del h _
    · split
      · exact ok_turn h _ _
      · split
        · exact ok_turn h _ _
        · exact ok_weigh h _ _
abbrev Chg.val (c : Chg) : Value:=.agg c.enc.toArray
theorem do_ct {w : World} {g : Nat} {n most : Int} {s : St} {c : Chg} {L : List HProp} (hg : GOk n most s) (H : Holds w (Gh g n most s::L)) :
    CT Try.prog 37 [.pointer (some ⟨g,0,none⟩),c.val] w fun u w'=>u = .int .i64 (doC n most s c) ∧ Holds w' (Gh g n most (doS n most s c)::L):=by
  refine CT.enter (N:=40) Try.func37 rfl rfl rfl rfl ?_
  refine W.seq (fun K0 hK0=>?_)
  refine W.region ?_
  refine O.boxP rfl (fun b3 w H=>?_)
  refine O.ex (Ex.assign rfl) rfl ?_
  refine O.nil ?_
  refine hK0 _ _ _ ?_
  refine W.seq (fun K1 hK1=>?_)
  refine W.seq (fun K2 hK2=>?_)
  refine W.region ?_
  refine O.ex (by first|exact Ex.field0 fld68_0 rfl|exact Ex.field fld68_0 rfl|exact Ex.fieldS fld68_0 rfl|exact Ex.fieldIn fld68_0 rfl) rfl ?_
  refine O.ex (by first|exact Ex.loadRT Try.isAgg3 rfl|exact Ex.loadRA Try.isAgg3 rfl|exact Ex.loadRN Try.isAgg3 rfl|exact Ex.loadRM Try.isAgg3 rfl|exact Ex.loadMh Try.isAgg3 rfl|exact Ex.loadInF Try.isAgg3 rfl (Holds.to (by assumption))|exact Ex.loadP Try.isAgg3 rfl|exact Ex.loadM Try.isAgg3 rfl|exact Ex.loadIn1 Try.isAgg3 rfl (Holds.to (by assumption))|exact Ex.loadVc Try.isAgg3 rfl|exact Ex.loadR Try.isAgg3 rfl|exact Ex.loadQ Try.isAgg3 rfl) rfl ?_
  refine O.nil ?_
  refine hK2 _ _ _ ?_
  refine W.block ?_
  refine W.seq (fun K3 hK3=>?_)
  refine W.region ?_
  refine O.ex (Ex.eqlI rfl rfl) rfl ?_
  refine O.ex (Ex.assign rfl) rfl ?_
  refine O.nil ?_
  refine hK3 _ _ _ ?_
  first|refine W.cond_p rfl (fun h0=>?_) (fun h0=>?_)|refine W.cond_b rfl (fun h0=>?_) (fun h0=>?_)
  · refine W.seq (fun K4 hK4=>?_)
    refine W.region ?_
    refine O.ex (Ex.move rfl) rfl ?_
    refine O.ex (by first|exact Ex.field0 fld68_1 rfl|exact Ex.field fld68_1 rfl|exact Ex.fieldS fld68_1 rfl|exact Ex.fieldIn fld68_1 rfl) rfl ?_
    refine O.ex (by first|exact Ex.loadRT Try.isAgg3 rfl|exact Ex.loadRA Try.isAgg3 rfl|exact Ex.loadRN Try.isAgg3 rfl|exact Ex.loadRM Try.isAgg3 rfl|exact Ex.loadMh Try.isAgg3 rfl|exact Ex.loadInF Try.isAgg3 rfl (Holds.to (by assumption))|exact Ex.loadP Try.isAgg3 rfl|exact Ex.loadM Try.isAgg3 rfl|exact Ex.loadIn1 Try.isAgg3 rfl (Holds.to (by assumption))|exact Ex.loadVc Try.isAgg3 rfl|exact Ex.loadR Try.isAgg3 rfl|exact Ex.loadQ Try.isAgg3 rfl) rfl ?_
    refine O.ex (by first|exact Ex.field0 fld68_2 rfl|exact Ex.field fld68_2 rfl|exact Ex.fieldS fld68_2 rfl|exact Ex.fieldIn fld68_2 rfl) rfl ?_
    refine O.ex (by first|exact Ex.loadRArc Try.isAgg42 Try.sizeOf42 rfl|exact Ex.loadAggP Try.isAgg42 Try.sizeOf42 rfl|exact Ex.loadAggN Try.isAgg42 Try.sizeOf42 rfl|exact Ex.loadIn Try.isAgg42 Try.sizeOf42 rfl (Holds.to (by assumption))) rfl ?_
    refine O.callF Try.call35 rfl rfl (CT.mono (ginsert_ct (a:=c.a) hg (Holds.to (by assumption))) ?_)
    rintro _ w ⟨rfl,H⟩
    refine O.ex (Ex.assign rfl) rfl ?_
    refine O.nil ?_
    refine hK4 _ _ _ ?_
    refine W.ret ?_
    try dsimp only [thenQ,blockQ,retQ]
    first|refine ⟨_,⟨_,_,rfl,rfl,rfl⟩,?_⟩|(refine retD_mark ?_; intro w H; refine ⟨_,⟨_,_,rfl,rfl,rfl⟩,?_⟩)|(refine retD_mark2 ?_; intro w H; refine ⟨_,⟨_,_,rfl,rfl,rfl⟩,?_⟩)
    unfold doC doS
    first
    | (rw [if_pos h0,if_pos h0]; exact ⟨rfl,Holds.to (by assumption)⟩)
    | (rw [if_neg h0,if_neg h0,if_pos h1,if_pos h1]; exact ⟨rfl,Holds.to (by assumption)⟩)
    | (rw [if_neg h0,if_neg h0,if_neg h1,if_neg h1,if_pos h2,if_pos h2]; exact ⟨rfl,Holds.to (by assumption)⟩)
    | (rw [if_neg h0,if_neg h0,if_neg h1,if_neg h1,if_neg h2,if_neg h2,if_pos h3,if_pos h3]; exact ⟨rfl,Holds.to (by assumption)⟩)
    | (rw [if_neg h0,if_neg h0,if_neg h1,if_neg h1,if_neg h2,if_neg h2,if_neg h3,if_neg h3]; exact ⟨rfl,Holds.to (by assumption)⟩)
  · refine W.seq (fun K5 hK5=>?_)
    refine W.region ?_
    refine O.ex (Ex.eqlI rfl rfl) rfl ?_
    refine O.ex (Ex.assign rfl) rfl ?_
    refine O.nil ?_
    refine hK5 _ _ _ ?_
    first|refine W.cond_p rfl (fun h1=>?_) (fun h1=>?_)|refine W.cond_b rfl (fun h1=>?_) (fun h1=>?_)
    · refine W.seq (fun K6 hK6=>?_)
      refine W.region ?_
      refine O.ex (Ex.move rfl) rfl ?_
      refine O.ex (by first|exact Ex.field0 fld68_1 rfl|exact Ex.field fld68_1 rfl|exact Ex.fieldS fld68_1 rfl|exact Ex.fieldIn fld68_1 rfl) rfl ?_
      refine O.ex (by first|exact Ex.loadRT Try.isAgg3 rfl|exact Ex.loadRA Try.isAgg3 rfl|exact Ex.loadRN Try.isAgg3 rfl|exact Ex.loadRM Try.isAgg3 rfl|exact Ex.loadMh Try.isAgg3 rfl|exact Ex.loadInF Try.isAgg3 rfl (Holds.to (by assumption))|exact Ex.loadP Try.isAgg3 rfl|exact Ex.loadM Try.isAgg3 rfl|exact Ex.loadIn1 Try.isAgg3 rfl (Holds.to (by assumption))|exact Ex.loadVc Try.isAgg3 rfl|exact Ex.loadR Try.isAgg3 rfl|exact Ex.loadQ Try.isAgg3 rfl) rfl ?_
      refine O.callF Try.call60 rfl rfl (CT.mono (gdelete_ct hg (Holds.to (by assumption))) ?_)
      rintro _ w ⟨rfl,H⟩
      refine O.ex (Ex.assign rfl) rfl ?_
      refine O.nil ?_
      refine hK6 _ _ _ ?_
      refine W.ret ?_
      try dsimp only [thenQ,blockQ,retQ]
      first|refine ⟨_,⟨_,_,rfl,rfl,rfl⟩,?_⟩|(refine retD_mark ?_; intro w H; refine ⟨_,⟨_,_,rfl,rfl,rfl⟩,?_⟩)|(refine retD_mark2 ?_; intro w H; refine ⟨_,⟨_,_,rfl,rfl,rfl⟩,?_⟩)
      unfold doC doS
      first
      | (rw [if_pos h0,if_pos h0]; exact ⟨rfl,Holds.to (by assumption)⟩)
      | (rw [if_neg h0,if_neg h0,if_pos h1,if_pos h1]; exact ⟨rfl,Holds.to (by assumption)⟩)
      | (rw [if_neg h0,if_neg h0,if_neg h1,if_neg h1,if_pos h2,if_pos h2]; exact ⟨rfl,Holds.to (by assumption)⟩)
      | (rw [if_neg h0,if_neg h0,if_neg h1,if_neg h1,if_neg h2,if_neg h2,if_pos h3,if_pos h3]; exact ⟨rfl,Holds.to (by assumption)⟩)
      | (rw [if_neg h0,if_neg h0,if_neg h1,if_neg h1,if_neg h2,if_neg h2,if_neg h3,if_neg h3]; exact ⟨rfl,Holds.to (by assumption)⟩)
    · refine W.seq (fun K7 hK7=>?_)
      refine W.region ?_
      refine O.ex (Ex.eqlI rfl rfl) rfl ?_
      refine O.ex (Ex.assign rfl) rfl ?_
      refine O.nil ?_
      refine hK7 _ _ _ ?_
      first|refine W.cond_p rfl (fun h2=>?_) (fun h2=>?_)|refine W.cond_b rfl (fun h2=>?_) (fun h2=>?_)
      · refine W.seq (fun K8 hK8=>?_)
        refine W.region ?_
        refine O.ex (Ex.move rfl) rfl ?_
        refine O.ex (by first|exact Ex.field0 fld68_1 rfl|exact Ex.field fld68_1 rfl|exact Ex.fieldS fld68_1 rfl|exact Ex.fieldIn fld68_1 rfl) rfl ?_
        refine O.ex (by first|exact Ex.loadRT Try.isAgg3 rfl|exact Ex.loadRA Try.isAgg3 rfl|exact Ex.loadRN Try.isAgg3 rfl|exact Ex.loadRM Try.isAgg3 rfl|exact Ex.loadMh Try.isAgg3 rfl|exact Ex.loadInF Try.isAgg3 rfl (Holds.to (by assumption))|exact Ex.loadP Try.isAgg3 rfl|exact Ex.loadM Try.isAgg3 rfl|exact Ex.loadIn1 Try.isAgg3 rfl (Holds.to (by assumption))|exact Ex.loadVc Try.isAgg3 rfl|exact Ex.loadR Try.isAgg3 rfl|exact Ex.loadQ Try.isAgg3 rfl) rfl ?_
        refine O.callF Try.call23 rfl rfl (CT.mono (gClose_ct (Holds.to (by assumption))) ?_)
        rintro _ w ⟨rfl,H⟩
        refine O.ex (Ex.assign rfl) rfl ?_
        refine O.nil ?_
        refine hK8 _ _ _ ?_
        refine W.ret ?_
        try dsimp only [thenQ,blockQ,retQ]
        first|refine ⟨_,⟨_,_,rfl,rfl,rfl⟩,?_⟩|(refine retD_mark ?_; intro w H; refine ⟨_,⟨_,_,rfl,rfl,rfl⟩,?_⟩)|(refine retD_mark2 ?_; intro w H; refine ⟨_,⟨_,_,rfl,rfl,rfl⟩,?_⟩)
        unfold doC doS
        first
        | (rw [if_pos h0,if_pos h0]; exact ⟨rfl,Holds.to (by assumption)⟩)
        | (rw [if_neg h0,if_neg h0,if_pos h1,if_pos h1]; exact ⟨rfl,Holds.to (by assumption)⟩)
        | (rw [if_neg h0,if_neg h0,if_neg h1,if_neg h1,if_pos h2,if_pos h2]; exact ⟨rfl,Holds.to (by assumption)⟩)
        | (rw [if_neg h0,if_neg h0,if_neg h1,if_neg h1,if_neg h2,if_neg h2,if_pos h3,if_pos h3]; exact ⟨rfl,Holds.to (by assumption)⟩)
        | (rw [if_neg h0,if_neg h0,if_neg h1,if_neg h1,if_neg h2,if_neg h2,if_neg h3,if_neg h3]; exact ⟨rfl,Holds.to (by assumption)⟩)
      · refine W.seq (fun K9 hK9=>?_)
        refine W.region ?_
        refine O.ex (Ex.eqlI rfl rfl) rfl ?_
        refine O.ex (Ex.assign rfl) rfl ?_
        refine O.nil ?_
        refine hK9 _ _ _ ?_
        first|refine W.cond_p rfl (fun h3=>?_) (fun h3=>?_)|refine W.cond_b rfl (fun h3=>?_) (fun h3=>?_)
        · refine W.seq (fun K10 hK10=>?_)
          refine W.region ?_
          refine O.ex (Ex.move rfl) rfl ?_
          refine O.ex (by first|exact Ex.field0 fld68_1 rfl|exact Ex.field fld68_1 rfl|exact Ex.fieldS fld68_1 rfl|exact Ex.fieldIn fld68_1 rfl) rfl ?_
          refine O.ex (by first|exact Ex.loadRT Try.isAgg3 rfl|exact Ex.loadRA Try.isAgg3 rfl|exact Ex.loadRN Try.isAgg3 rfl|exact Ex.loadRM Try.isAgg3 rfl|exact Ex.loadMh Try.isAgg3 rfl|exact Ex.loadInF Try.isAgg3 rfl (Holds.to (by assumption))|exact Ex.loadP Try.isAgg3 rfl|exact Ex.loadM Try.isAgg3 rfl|exact Ex.loadIn1 Try.isAgg3 rfl (Holds.to (by assumption))|exact Ex.loadVc Try.isAgg3 rfl|exact Ex.loadR Try.isAgg3 rfl|exact Ex.loadQ Try.isAgg3 rfl) rfl ?_
          refine O.callF Try.call24 rfl rfl (CT.mono (gReopen_ct (Holds.to (by assumption))) ?_)
          rintro _ w ⟨rfl,H⟩
          refine O.ex (Ex.assign rfl) rfl ?_
          refine O.nil ?_
          refine hK10 _ _ _ ?_
          refine W.ret ?_
          try dsimp only [thenQ,blockQ,retQ]
          first|refine ⟨_,⟨_,_,rfl,rfl,rfl⟩,?_⟩|(refine retD_mark ?_; intro w H; refine ⟨_,⟨_,_,rfl,rfl,rfl⟩,?_⟩)|(refine retD_mark2 ?_; intro w H; refine ⟨_,⟨_,_,rfl,rfl,rfl⟩,?_⟩)
          unfold doC doS
          first
          | (rw [if_pos h0,if_pos h0]; exact ⟨rfl,Holds.to (by assumption)⟩)
          | (rw [if_neg h0,if_neg h0,if_pos h1,if_pos h1]; exact ⟨rfl,Holds.to (by assumption)⟩)
          | (rw [if_neg h0,if_neg h0,if_neg h1,if_neg h1,if_pos h2,if_pos h2]; exact ⟨rfl,Holds.to (by assumption)⟩)
          | (rw [if_neg h0,if_neg h0,if_neg h1,if_neg h1,if_neg h2,if_neg h2,if_pos h3,if_pos h3]; exact ⟨rfl,Holds.to (by assumption)⟩)
          | (rw [if_neg h0,if_neg h0,if_neg h1,if_neg h1,if_neg h2,if_neg h2,if_neg h3,if_neg h3]; exact ⟨rfl,Holds.to (by assumption)⟩)
        · refine W.skip ?_
          refine hK1 _ _ _ ?_
          refine W.seq (fun K11 hK11=>?_)
          refine W.region ?_
          refine O.ex (Ex.move rfl) rfl ?_
          refine O.ex (by first|exact Ex.field0 fld68_1 rfl|exact Ex.field fld68_1 rfl|exact Ex.fieldS fld68_1 rfl|exact Ex.fieldIn fld68_1 rfl) rfl ?_
          refine O.ex (by first|exact Ex.loadRT Try.isAgg3 rfl|exact Ex.loadRA Try.isAgg3 rfl|exact Ex.loadRN Try.isAgg3 rfl|exact Ex.loadRM Try.isAgg3 rfl|exact Ex.loadMh Try.isAgg3 rfl|exact Ex.loadInF Try.isAgg3 rfl (Holds.to (by assumption))|exact Ex.loadP Try.isAgg3 rfl|exact Ex.loadM Try.isAgg3 rfl|exact Ex.loadIn1 Try.isAgg3 rfl (Holds.to (by assumption))|exact Ex.loadVc Try.isAgg3 rfl|exact Ex.loadR Try.isAgg3 rfl|exact Ex.loadQ Try.isAgg3 rfl) rfl ?_
          refine O.ex (by first|exact Ex.field0 fld68_2 rfl|exact Ex.field fld68_2 rfl|exact Ex.fieldS fld68_2 rfl|exact Ex.fieldIn fld68_2 rfl) rfl ?_
          refine O.ex (by first|exact Ex.field0 fld42_2 rfl|exact Ex.field fld42_2 rfl|exact Ex.fieldS fld42_2 rfl|exact Ex.fieldIn fld42_2 rfl) rfl ?_
          refine O.ex (by first|exact Ex.loadRT Try.isAgg3 rfl|exact Ex.loadRA Try.isAgg3 rfl|exact Ex.loadRN Try.isAgg3 rfl|exact Ex.loadRM Try.isAgg3 rfl|exact Ex.loadMh Try.isAgg3 rfl|exact Ex.loadInF Try.isAgg3 rfl (Holds.to (by assumption))|exact Ex.loadP Try.isAgg3 rfl|exact Ex.loadM Try.isAgg3 rfl|exact Ex.loadIn1 Try.isAgg3 rfl (Holds.to (by assumption))|exact Ex.loadVc Try.isAgg3 rfl|exact Ex.loadR Try.isAgg3 rfl|exact Ex.loadQ Try.isAgg3 rfl) rfl ?_
          refine O.callF Try.call61 rfl rfl (CT.mono (gweigh_ct (v:=c.a.w) (Holds.to (by assumption))) ?_)
          rintro _ w ⟨rfl,H⟩
          refine O.ex (Ex.assign rfl) rfl ?_
          refine O.nil ?_
          refine hK11 _ _ _ ?_
          refine W.ret ?_
          try dsimp only [thenQ,blockQ,retQ]
          first|refine ⟨_,⟨_,_,rfl,rfl,rfl⟩,?_⟩|(refine retD_mark ?_; intro w H; refine ⟨_,⟨_,_,rfl,rfl,rfl⟩,?_⟩)|(refine retD_mark2 ?_; intro w H; refine ⟨_,⟨_,_,rfl,rfl,rfl⟩,?_⟩)
          unfold doC doS
          first
          | (rw [if_pos h0,if_pos h0]; exact ⟨rfl,Holds.to (by assumption)⟩)
          | (rw [if_neg h0,if_neg h0,if_pos h1,if_pos h1]; exact ⟨rfl,Holds.to (by assumption)⟩)
          | (rw [if_neg h0,if_neg h0,if_neg h1,if_neg h1,if_pos h2,if_pos h2]; exact ⟨rfl,Holds.to (by assumption)⟩)
          | (rw [if_neg h0,if_neg h0,if_neg h1,if_neg h1,if_neg h2,if_neg h2,if_pos h3,if_pos h3]; exact ⟨rfl,Holds.to (by assumption)⟩)
          | (rw [if_neg h0,if_neg h0,if_neg h1,if_neg h1,if_neg h2,if_neg h2,if_neg h3,if_neg h3]; exact ⟨rfl,Holds.to (by assumption)⟩)
theorem doRef_ct {w : World} {r : Nat} {n most : Int} {s : St} {c : Chg} {L : List HProp} (H : Holds w (Rg r n most s::L)) :
    CT Try.prog 38 [.pointer (some ⟨r,0,none⟩),c.val] w fun u w'=>u = .int .i64 (doC n most s c) ∧ Holds w' (Rg r n most (doS n most s c)::L):=by
  refine CT.enter (N:=38) Try.func38 rfl rfl rfl rfl ?_
  refine W.seq (fun K0 hK0=>?_)
  refine W.region ?_
  refine O.boxP rfl (fun b3 w H=>?_)
  refine O.ex (Ex.assign rfl) rfl ?_
  refine O.nil ?_
  refine hK0 _ _ _ ?_
  refine W.seq (fun K1 hK1=>?_)
  refine W.seq (fun K2 hK2=>?_)
  refine W.region ?_
  refine O.ex (by first|exact Ex.field0 fld68_0 rfl|exact Ex.field fld68_0 rfl|exact Ex.fieldS fld68_0 rfl|exact Ex.fieldIn fld68_0 rfl) rfl ?_
  refine O.ex (by first|exact Ex.loadRT Try.isAgg3 rfl|exact Ex.loadRA Try.isAgg3 rfl|exact Ex.loadRN Try.isAgg3 rfl|exact Ex.loadRM Try.isAgg3 rfl|exact Ex.loadMh Try.isAgg3 rfl|exact Ex.loadInF Try.isAgg3 rfl (Holds.to (by assumption))|exact Ex.loadP Try.isAgg3 rfl|exact Ex.loadM Try.isAgg3 rfl|exact Ex.loadIn1 Try.isAgg3 rfl (Holds.to (by assumption))|exact Ex.loadVc Try.isAgg3 rfl|exact Ex.loadR Try.isAgg3 rfl|exact Ex.loadQ Try.isAgg3 rfl) rfl ?_
  refine O.nil ?_
  refine hK2 _ _ _ ?_
  refine W.block ?_
  refine W.seq (fun K3 hK3=>?_)
  refine W.region ?_
  refine O.ex (Ex.eqlI rfl rfl) rfl ?_
  refine O.ex (Ex.assign rfl) rfl ?_
  refine O.nil ?_
  refine hK3 _ _ _ ?_
  first|refine W.cond_p rfl (fun h0=>?_) (fun h0=>?_)|refine W.cond_b rfl (fun h0=>?_) (fun h0=>?_)
  · refine W.seq (fun K4 hK4=>?_)
    refine W.region ?_
    refine O.ex (Ex.move rfl) rfl ?_
    refine O.ex (by first|exact Ex.field0 fld68_1 rfl|exact Ex.field fld68_1 rfl|exact Ex.fieldS fld68_1 rfl|exact Ex.fieldIn fld68_1 rfl) rfl ?_
    refine O.ex (by first|exact Ex.loadRT Try.isAgg3 rfl|exact Ex.loadRA Try.isAgg3 rfl|exact Ex.loadRN Try.isAgg3 rfl|exact Ex.loadRM Try.isAgg3 rfl|exact Ex.loadMh Try.isAgg3 rfl|exact Ex.loadInF Try.isAgg3 rfl (Holds.to (by assumption))|exact Ex.loadP Try.isAgg3 rfl|exact Ex.loadM Try.isAgg3 rfl|exact Ex.loadIn1 Try.isAgg3 rfl (Holds.to (by assumption))|exact Ex.loadVc Try.isAgg3 rfl|exact Ex.loadR Try.isAgg3 rfl|exact Ex.loadQ Try.isAgg3 rfl) rfl ?_
    refine O.ex (by first|exact Ex.field0 fld68_2 rfl|exact Ex.field fld68_2 rfl|exact Ex.fieldS fld68_2 rfl|exact Ex.fieldIn fld68_2 rfl) rfl ?_
    refine O.ex (by first|exact Ex.loadRArc Try.isAgg42 Try.sizeOf42 rfl|exact Ex.loadAggP Try.isAgg42 Try.sizeOf42 rfl|exact Ex.loadAggN Try.isAgg42 Try.sizeOf42 rfl|exact Ex.loadIn Try.isAgg42 Try.sizeOf42 rfl (Holds.to (by assumption))) rfl ?_
    refine O.callF Try.call62 rfl rfl (CT.mono (rinsert_ct (a:=c.a) (Holds.to (by assumption))) ?_)
    rintro _ w ⟨rfl,H⟩
    refine O.ex (Ex.assign rfl) rfl ?_
    refine O.nil ?_
    refine hK4 _ _ _ ?_
    refine W.ret ?_
    try dsimp only [thenQ,blockQ,retQ]
    first|refine ⟨_,⟨_,_,rfl,rfl,rfl⟩,?_⟩|(refine retD_mark ?_; intro w H; refine ⟨_,⟨_,_,rfl,rfl,rfl⟩,?_⟩)|(refine retD_mark2 ?_; intro w H; refine ⟨_,⟨_,_,rfl,rfl,rfl⟩,?_⟩)
    unfold doC doS
    first
    | (rw [if_pos h0,if_pos h0]; exact ⟨rfl,Holds.to (by assumption)⟩)
    | (rw [if_neg h0,if_neg h0,if_pos h1,if_pos h1]; exact ⟨rfl,Holds.to (by assumption)⟩)
    | (rename_i h4
       have h2' : c.f_Kind = 2:=h4
       rw [if_neg h0,if_neg h0,if_neg h1,if_neg h1,if_pos h2',if_pos h2']; rw [decide_eq_true h2'] at H; rw [decide_eq_true h2']; exact ⟨rfl,Holds.to (by assumption)⟩)
    | (rename_i h4
       have h2' : ¬ c.f_Kind = 2:=h4
       have h3' : c.f_Kind = 3:=h2
       rw [if_neg h0,if_neg h0,if_neg h1,if_neg h1,if_neg h2',if_neg h2',if_pos h3',if_pos h3']; rw [decide_eq_false h2'] at H; rw [decide_eq_false h2']; exact ⟨rfl,Holds.to (by assumption)⟩)
    | (rename_i h4; exact absurd h4 h2)
    | (rename_i h4
       have h2' : ¬ c.f_Kind = 2:=h4
       have h3' : ¬ c.f_Kind = 3:=h2
       rw [if_neg h0,if_neg h0,if_neg h1,if_neg h1,if_neg h2',if_neg h2',if_neg h3',if_neg h3']; exact ⟨rfl,Holds.to (by assumption)⟩)
  · refine W.seq (fun K5 hK5=>?_)
    refine W.region ?_
    refine O.ex (Ex.eqlI rfl rfl) rfl ?_
    refine O.ex (Ex.assign rfl) rfl ?_
    refine O.nil ?_
    refine hK5 _ _ _ ?_
    first|refine W.cond_p rfl (fun h1=>?_) (fun h1=>?_)|refine W.cond_b rfl (fun h1=>?_) (fun h1=>?_)
    · refine W.seq (fun K6 hK6=>?_)
      refine W.region ?_
      refine O.ex (Ex.move rfl) rfl ?_
      refine O.ex (by first|exact Ex.field0 fld68_1 rfl|exact Ex.field fld68_1 rfl|exact Ex.fieldS fld68_1 rfl|exact Ex.fieldIn fld68_1 rfl) rfl ?_
      refine O.ex (by first|exact Ex.loadRT Try.isAgg3 rfl|exact Ex.loadRA Try.isAgg3 rfl|exact Ex.loadRN Try.isAgg3 rfl|exact Ex.loadRM Try.isAgg3 rfl|exact Ex.loadMh Try.isAgg3 rfl|exact Ex.loadInF Try.isAgg3 rfl (Holds.to (by assumption))|exact Ex.loadP Try.isAgg3 rfl|exact Ex.loadM Try.isAgg3 rfl|exact Ex.loadIn1 Try.isAgg3 rfl (Holds.to (by assumption))|exact Ex.loadVc Try.isAgg3 rfl|exact Ex.loadR Try.isAgg3 rfl|exact Ex.loadQ Try.isAgg3 rfl) rfl ?_
      refine O.callF Try.call63 rfl rfl (CT.mono (rdelete_ct (Holds.to (by assumption))) ?_)
      rintro _ w ⟨rfl,H⟩
      refine O.ex (Ex.assign rfl) rfl ?_
      refine O.nil ?_
      refine hK6 _ _ _ ?_
      refine W.ret ?_
      try dsimp only [thenQ,blockQ,retQ]
      first|refine ⟨_,⟨_,_,rfl,rfl,rfl⟩,?_⟩|(refine retD_mark ?_; intro w H; refine ⟨_,⟨_,_,rfl,rfl,rfl⟩,?_⟩)|(refine retD_mark2 ?_; intro w H; refine ⟨_,⟨_,_,rfl,rfl,rfl⟩,?_⟩)
      unfold doC doS
      first
      | (rw [if_pos h0,if_pos h0]; exact ⟨rfl,Holds.to (by assumption)⟩)
      | (rw [if_neg h0,if_neg h0,if_pos h1,if_pos h1]; exact ⟨rfl,Holds.to (by assumption)⟩)
      | (rename_i h4
         have h2' : c.f_Kind = 2:=h4
         rw [if_neg h0,if_neg h0,if_neg h1,if_neg h1,if_pos h2',if_pos h2']; rw [decide_eq_true h2'] at H; rw [decide_eq_true h2']; exact ⟨rfl,Holds.to (by assumption)⟩)
      | (rename_i h4
         have h2' : ¬ c.f_Kind = 2:=h4
         have h3' : c.f_Kind = 3:=h2
         rw [if_neg h0,if_neg h0,if_neg h1,if_neg h1,if_neg h2',if_neg h2',if_pos h3',if_pos h3']; rw [decide_eq_false h2'] at H; rw [decide_eq_false h2']; exact ⟨rfl,Holds.to (by assumption)⟩)
      | (rename_i h4; exact absurd h4 h2)
      | (rename_i h4
         have h2' : ¬ c.f_Kind = 2:=h4
         have h3' : ¬ c.f_Kind = 3:=h2
         rw [if_neg h0,if_neg h0,if_neg h1,if_neg h1,if_neg h2',if_neg h2',if_neg h3',if_neg h3']; exact ⟨rfl,Holds.to (by assumption)⟩)
    · refine W.seq (fun K7 hK7=>?_)
      refine W.seq (fun K8 hK8=>?_)
      refine W.region ?_
      refine O.ex (Ex.eqlI rfl rfl) rfl ?_
      refine O.ex (Ex.assign rfl) rfl ?_
      refine O.nil ?_
      refine hK8 _ _ _ ?_
      first|refine W.cond_p rfl (fun h2=>?_) (fun h2=>?_)|refine W.cond_b rfl (fun h2=>?_) (fun h2=>?_)
      · refine W.skip ?_
        refine hK7 _ _ _ ?_
        first|refine W.cond_p rfl (fun h2=>?_) (fun h2=>?_)|refine W.cond_b rfl (fun h2=>?_) (fun h2=>?_)
        · refine W.seq (fun K9 hK9=>?_)
          refine W.region ?_
          refine O.ex (Ex.move rfl) rfl ?_
          refine O.ex (by first|exact Ex.field0 fld68_1 rfl|exact Ex.field fld68_1 rfl|exact Ex.fieldS fld68_1 rfl|exact Ex.fieldIn fld68_1 rfl) rfl ?_
          refine O.ex (by first|exact Ex.loadRT Try.isAgg3 rfl|exact Ex.loadRA Try.isAgg3 rfl|exact Ex.loadRN Try.isAgg3 rfl|exact Ex.loadRM Try.isAgg3 rfl|exact Ex.loadMh Try.isAgg3 rfl|exact Ex.loadInF Try.isAgg3 rfl (Holds.to (by assumption))|exact Ex.loadP Try.isAgg3 rfl|exact Ex.loadM Try.isAgg3 rfl|exact Ex.loadIn1 Try.isAgg3 rfl (Holds.to (by assumption))|exact Ex.loadVc Try.isAgg3 rfl|exact Ex.loadR Try.isAgg3 rfl|exact Ex.loadQ Try.isAgg3 rfl) rfl ?_
          refine O.ex (by first|exact Ex.field0 fld68_0 rfl|exact Ex.field fld68_0 rfl|exact Ex.fieldS fld68_0 rfl|exact Ex.fieldIn fld68_0 rfl) rfl ?_
          refine O.ex (by first|exact Ex.loadRT Try.isAgg3 rfl|exact Ex.loadRA Try.isAgg3 rfl|exact Ex.loadRN Try.isAgg3 rfl|exact Ex.loadRM Try.isAgg3 rfl|exact Ex.loadMh Try.isAgg3 rfl|exact Ex.loadInF Try.isAgg3 rfl (Holds.to (by assumption))|exact Ex.loadP Try.isAgg3 rfl|exact Ex.loadM Try.isAgg3 rfl|exact Ex.loadIn1 Try.isAgg3 rfl (Holds.to (by assumption))|exact Ex.loadVc Try.isAgg3 rfl|exact Ex.loadR Try.isAgg3 rfl|exact Ex.loadQ Try.isAgg3 rfl) rfl ?_
          refine O.ex (Ex.eqlI rfl rfl) rfl ?_
          refine O.callF Try.call64 rfl rfl (CT.mono (rturn_ct (Holds.to (by assumption))) ?_)
          rintro _ w ⟨rfl,H⟩
          refine O.ex (Ex.assign rfl) rfl ?_
          refine O.nil ?_
          refine hK9 _ _ _ ?_
          refine W.ret ?_
          try dsimp only [thenQ,blockQ,retQ]
          first|refine ⟨_,⟨_,_,rfl,rfl,rfl⟩,?_⟩|(refine retD_mark ?_; intro w H; refine ⟨_,⟨_,_,rfl,rfl,rfl⟩,?_⟩)|(refine retD_mark2 ?_; intro w H; refine ⟨_,⟨_,_,rfl,rfl,rfl⟩,?_⟩)
          unfold doC doS
          first
          | (rw [if_pos h0,if_pos h0]; exact ⟨rfl,Holds.to (by assumption)⟩)
          | (rw [if_neg h0,if_neg h0,if_pos h1,if_pos h1]; exact ⟨rfl,Holds.to (by assumption)⟩)
          | (rename_i h4
             have h2' : c.f_Kind = 2:=h4
             rw [if_neg h0,if_neg h0,if_neg h1,if_neg h1,if_pos h2',if_pos h2']; rw [decide_eq_true h2'] at H; rw [decide_eq_true h2']; exact ⟨rfl,Holds.to (by assumption)⟩)
          | (rename_i h4
             have h2' : ¬ c.f_Kind = 2:=h4
             have h3' : c.f_Kind = 3:=h2
             rw [if_neg h0,if_neg h0,if_neg h1,if_neg h1,if_neg h2',if_neg h2',if_pos h3',if_pos h3']; rw [decide_eq_false h2'] at H; rw [decide_eq_false h2']; exact ⟨rfl,Holds.to (by assumption)⟩)
          | (rename_i h4; exact absurd h4 h2)
          | (rename_i h4
             have h2' : ¬ c.f_Kind = 2:=h4
             have h3' : ¬ c.f_Kind = 3:=h2
             rw [if_neg h0,if_neg h0,if_neg h1,if_neg h1,if_neg h2',if_neg h2',if_neg h3',if_neg h3']; exact ⟨rfl,Holds.to (by assumption)⟩)
        · refine W.skip ?_
          refine hK1 _ _ _ ?_
          refine W.seq (fun K10 hK10=>?_)
          refine W.region ?_
          refine O.ex (Ex.move rfl) rfl ?_
          refine O.ex (by first|exact Ex.field0 fld68_1 rfl|exact Ex.field fld68_1 rfl|exact Ex.fieldS fld68_1 rfl|exact Ex.fieldIn fld68_1 rfl) rfl ?_
          refine O.ex (by first|exact Ex.loadRT Try.isAgg3 rfl|exact Ex.loadRA Try.isAgg3 rfl|exact Ex.loadRN Try.isAgg3 rfl|exact Ex.loadRM Try.isAgg3 rfl|exact Ex.loadMh Try.isAgg3 rfl|exact Ex.loadInF Try.isAgg3 rfl (Holds.to (by assumption))|exact Ex.loadP Try.isAgg3 rfl|exact Ex.loadM Try.isAgg3 rfl|exact Ex.loadIn1 Try.isAgg3 rfl (Holds.to (by assumption))|exact Ex.loadVc Try.isAgg3 rfl|exact Ex.loadR Try.isAgg3 rfl|exact Ex.loadQ Try.isAgg3 rfl) rfl ?_
          refine O.ex (by first|exact Ex.field0 fld68_2 rfl|exact Ex.field fld68_2 rfl|exact Ex.fieldS fld68_2 rfl|exact Ex.fieldIn fld68_2 rfl) rfl ?_
          refine O.ex (by first|exact Ex.field0 fld42_2 rfl|exact Ex.field fld42_2 rfl|exact Ex.fieldS fld42_2 rfl|exact Ex.fieldIn fld42_2 rfl) rfl ?_
          refine O.ex (by first|exact Ex.loadRT Try.isAgg3 rfl|exact Ex.loadRA Try.isAgg3 rfl|exact Ex.loadRN Try.isAgg3 rfl|exact Ex.loadRM Try.isAgg3 rfl|exact Ex.loadMh Try.isAgg3 rfl|exact Ex.loadInF Try.isAgg3 rfl (Holds.to (by assumption))|exact Ex.loadP Try.isAgg3 rfl|exact Ex.loadM Try.isAgg3 rfl|exact Ex.loadIn1 Try.isAgg3 rfl (Holds.to (by assumption))|exact Ex.loadVc Try.isAgg3 rfl|exact Ex.loadR Try.isAgg3 rfl|exact Ex.loadQ Try.isAgg3 rfl) rfl ?_
          refine O.callF Try.call65 rfl rfl (CT.mono (rweigh_ct (v:=c.a.w) (Holds.to (by assumption))) ?_)
          rintro _ w ⟨rfl,H⟩
          refine O.ex (Ex.assign rfl) rfl ?_
          refine O.nil ?_
          refine hK10 _ _ _ ?_
          refine W.ret ?_
          try dsimp only [thenQ,blockQ,retQ]
          first|refine ⟨_,⟨_,_,rfl,rfl,rfl⟩,?_⟩|(refine retD_mark ?_; intro w H; refine ⟨_,⟨_,_,rfl,rfl,rfl⟩,?_⟩)|(refine retD_mark2 ?_; intro w H; refine ⟨_,⟨_,_,rfl,rfl,rfl⟩,?_⟩)
          unfold doC doS
          first
          | (rw [if_pos h0,if_pos h0]; exact ⟨rfl,Holds.to (by assumption)⟩)
          | (rw [if_neg h0,if_neg h0,if_pos h1,if_pos h1]; exact ⟨rfl,Holds.to (by assumption)⟩)
          | (rename_i h4
             have h2' : c.f_Kind = 2:=h4
             rw [if_neg h0,if_neg h0,if_neg h1,if_neg h1,if_pos h2',if_pos h2']; rw [decide_eq_true h2'] at H; rw [decide_eq_true h2']; exact ⟨rfl,Holds.to (by assumption)⟩)
          | (rename_i h4
             have h2' : ¬ c.f_Kind = 2:=h4
             have h3' : c.f_Kind = 3:=h2
             rw [if_neg h0,if_neg h0,if_neg h1,if_neg h1,if_neg h2',if_neg h2',if_pos h3',if_pos h3']; rw [decide_eq_false h2'] at H; rw [decide_eq_false h2']; exact ⟨rfl,Holds.to (by assumption)⟩)
          | (rename_i h4; exact absurd h4 h2)
          | (rename_i h4
             have h2' : ¬ c.f_Kind = 2:=h4
             have h3' : ¬ c.f_Kind = 3:=h2
             rw [if_neg h0,if_neg h0,if_neg h1,if_neg h1,if_neg h2',if_neg h2',if_neg h3',if_neg h3']; exact ⟨rfl,Holds.to (by assumption)⟩)
      · refine W.region ?_
        refine O.ex (Ex.eqlI rfl rfl) rfl ?_
        refine O.ex (Ex.assign rfl) rfl ?_
        refine O.nil ?_
        refine hK7 _ _ _ ?_
        first|refine W.cond_p rfl (fun h2=>?_) (fun h2=>?_)|refine W.cond_b rfl (fun h2=>?_) (fun h2=>?_)
        · refine W.seq (fun K11 hK11=>?_)
          refine W.region ?_
          refine O.ex (Ex.move rfl) rfl ?_
          refine O.ex (by first|exact Ex.field0 fld68_1 rfl|exact Ex.field fld68_1 rfl|exact Ex.fieldS fld68_1 rfl|exact Ex.fieldIn fld68_1 rfl) rfl ?_
          refine O.ex (by first|exact Ex.loadRT Try.isAgg3 rfl|exact Ex.loadRA Try.isAgg3 rfl|exact Ex.loadRN Try.isAgg3 rfl|exact Ex.loadRM Try.isAgg3 rfl|exact Ex.loadMh Try.isAgg3 rfl|exact Ex.loadInF Try.isAgg3 rfl (Holds.to (by assumption))|exact Ex.loadP Try.isAgg3 rfl|exact Ex.loadM Try.isAgg3 rfl|exact Ex.loadIn1 Try.isAgg3 rfl (Holds.to (by assumption))|exact Ex.loadVc Try.isAgg3 rfl|exact Ex.loadR Try.isAgg3 rfl|exact Ex.loadQ Try.isAgg3 rfl) rfl ?_
          refine O.ex (by first|exact Ex.field0 fld68_0 rfl|exact Ex.field fld68_0 rfl|exact Ex.fieldS fld68_0 rfl|exact Ex.fieldIn fld68_0 rfl) rfl ?_
          refine O.ex (by first|exact Ex.loadRT Try.isAgg3 rfl|exact Ex.loadRA Try.isAgg3 rfl|exact Ex.loadRN Try.isAgg3 rfl|exact Ex.loadRM Try.isAgg3 rfl|exact Ex.loadMh Try.isAgg3 rfl|exact Ex.loadInF Try.isAgg3 rfl (Holds.to (by assumption))|exact Ex.loadP Try.isAgg3 rfl|exact Ex.loadM Try.isAgg3 rfl|exact Ex.loadIn1 Try.isAgg3 rfl (Holds.to (by assumption))|exact Ex.loadVc Try.isAgg3 rfl|exact Ex.loadR Try.isAgg3 rfl|exact Ex.loadQ Try.isAgg3 rfl) rfl ?_
          refine O.ex (Ex.eqlI rfl rfl) rfl ?_
          refine O.callF Try.call64 rfl rfl (CT.mono (rturn_ct (Holds.to (by assumption))) ?_)
          rintro _ w ⟨rfl,H⟩
          refine O.ex (Ex.assign rfl) rfl ?_
          refine O.nil ?_
          refine hK11 _ _ _ ?_
          refine W.ret ?_
          try dsimp only [thenQ,blockQ,retQ]
          first|refine ⟨_,⟨_,_,rfl,rfl,rfl⟩,?_⟩|(refine retD_mark ?_; intro w H; refine ⟨_,⟨_,_,rfl,rfl,rfl⟩,?_⟩)|(refine retD_mark2 ?_; intro w H; refine ⟨_,⟨_,_,rfl,rfl,rfl⟩,?_⟩)
          unfold doC doS
          first
          | (rw [if_pos h0,if_pos h0]; exact ⟨rfl,Holds.to (by assumption)⟩)
          | (rw [if_neg h0,if_neg h0,if_pos h1,if_pos h1]; exact ⟨rfl,Holds.to (by assumption)⟩)
          | (rename_i h4
             have h2' : c.f_Kind = 2:=h4
             rw [if_neg h0,if_neg h0,if_neg h1,if_neg h1,if_pos h2',if_pos h2']; rw [decide_eq_true h2'] at H; rw [decide_eq_true h2']; exact ⟨rfl,Holds.to (by assumption)⟩)
          | (rename_i h4
             have h2' : ¬ c.f_Kind = 2:=h4
             have h3' : c.f_Kind = 3:=h2
             rw [if_neg h0,if_neg h0,if_neg h1,if_neg h1,if_neg h2',if_neg h2',if_pos h3',if_pos h3']; rw [decide_eq_false h2'] at H; rw [decide_eq_false h2']; exact ⟨rfl,Holds.to (by assumption)⟩)
          | (rename_i h4; exact absurd h4 h2)
          | (rename_i h4
             have h2' : ¬ c.f_Kind = 2:=h4
             have h3' : ¬ c.f_Kind = 3:=h2
             rw [if_neg h0,if_neg h0,if_neg h1,if_neg h1,if_neg h2',if_neg h2',if_neg h3',if_neg h3']; exact ⟨rfl,Holds.to (by assumption)⟩)
        · refine W.skip ?_
          refine hK1 _ _ _ ?_
          refine W.seq (fun K12 hK12=>?_)
          refine W.region ?_
          refine O.ex (Ex.move rfl) rfl ?_
          refine O.ex (by first|exact Ex.field0 fld68_1 rfl|exact Ex.field fld68_1 rfl|exact Ex.fieldS fld68_1 rfl|exact Ex.fieldIn fld68_1 rfl) rfl ?_
          refine O.ex (by first|exact Ex.loadRT Try.isAgg3 rfl|exact Ex.loadRA Try.isAgg3 rfl|exact Ex.loadRN Try.isAgg3 rfl|exact Ex.loadRM Try.isAgg3 rfl|exact Ex.loadMh Try.isAgg3 rfl|exact Ex.loadInF Try.isAgg3 rfl (Holds.to (by assumption))|exact Ex.loadP Try.isAgg3 rfl|exact Ex.loadM Try.isAgg3 rfl|exact Ex.loadIn1 Try.isAgg3 rfl (Holds.to (by assumption))|exact Ex.loadVc Try.isAgg3 rfl|exact Ex.loadR Try.isAgg3 rfl|exact Ex.loadQ Try.isAgg3 rfl) rfl ?_
          refine O.ex (by first|exact Ex.field0 fld68_2 rfl|exact Ex.field fld68_2 rfl|exact Ex.fieldS fld68_2 rfl|exact Ex.fieldIn fld68_2 rfl) rfl ?_
          refine O.ex (by first|exact Ex.field0 fld42_2 rfl|exact Ex.field fld42_2 rfl|exact Ex.fieldS fld42_2 rfl|exact Ex.fieldIn fld42_2 rfl) rfl ?_
          refine O.ex (by first|exact Ex.loadRT Try.isAgg3 rfl|exact Ex.loadRA Try.isAgg3 rfl|exact Ex.loadRN Try.isAgg3 rfl|exact Ex.loadRM Try.isAgg3 rfl|exact Ex.loadMh Try.isAgg3 rfl|exact Ex.loadInF Try.isAgg3 rfl (Holds.to (by assumption))|exact Ex.loadP Try.isAgg3 rfl|exact Ex.loadM Try.isAgg3 rfl|exact Ex.loadIn1 Try.isAgg3 rfl (Holds.to (by assumption))|exact Ex.loadVc Try.isAgg3 rfl|exact Ex.loadR Try.isAgg3 rfl|exact Ex.loadQ Try.isAgg3 rfl) rfl ?_
          refine O.callF Try.call65 rfl rfl (CT.mono (rweigh_ct (v:=c.a.w) (Holds.to (by assumption))) ?_)
          rintro _ w ⟨rfl,H⟩
          refine O.ex (Ex.assign rfl) rfl ?_
          refine O.nil ?_
          refine hK12 _ _ _ ?_
          refine W.ret ?_
          try dsimp only [thenQ,blockQ,retQ]
          first|refine ⟨_,⟨_,_,rfl,rfl,rfl⟩,?_⟩|(refine retD_mark ?_; intro w H; refine ⟨_,⟨_,_,rfl,rfl,rfl⟩,?_⟩)|(refine retD_mark2 ?_; intro w H; refine ⟨_,⟨_,_,rfl,rfl,rfl⟩,?_⟩)
          unfold doC doS
          first
          | (rw [if_pos h0,if_pos h0]; exact ⟨rfl,Holds.to (by assumption)⟩)
          | (rw [if_neg h0,if_neg h0,if_pos h1,if_pos h1]; exact ⟨rfl,Holds.to (by assumption)⟩)
          | (rename_i h4
             have h2' : c.f_Kind = 2:=h4
             rw [if_neg h0,if_neg h0,if_neg h1,if_neg h1,if_pos h2',if_pos h2']; rw [decide_eq_true h2'] at H; rw [decide_eq_true h2']; exact ⟨rfl,Holds.to (by assumption)⟩)
          | (rename_i h4
             have h2' : ¬ c.f_Kind = 2:=h4
             have h3' : c.f_Kind = 3:=h2
             rw [if_neg h0,if_neg h0,if_neg h1,if_neg h1,if_neg h2',if_neg h2',if_pos h3',if_pos h3']; rw [decide_eq_false h2'] at H; rw [decide_eq_false h2']; exact ⟨rfl,Holds.to (by assumption)⟩)
          | (rename_i h4; exact absurd h4 h2)
          | (rename_i h4
             have h2' : ¬ c.f_Kind = 2:=h4
             have h3' : ¬ c.f_Kind = 3:=h2
             rw [if_neg h0,if_neg h0,if_neg h1,if_neg h1,if_neg h2',if_neg h2',if_neg h3',if_neg h3']; exact ⟨rfl,Holds.to (by assumption)⟩)
end Go.Proofs.Ytliofdfhimmjmaa
namespace Go.Proofs.Ytliofdfhimmjmaa
open Go.Rr Go Gr
set_option linter.unusedVariables false
end Go.Proofs.Ytliofdfhimmjmaa
namespace Go.Proofs.Ytliofdfhimmjmaa
open Go.Rr Go Gr
set_option linter.unusedVariables false
theorem take_getC (xs : List Int) {i : Nat} (h : i < xs.length) : xs.take (i + 1) = xs.take i ++ [xs.getD i default]:=by
  rw [List.take_succ_eq_append_getElem h]; simp [List.getD_eq_getElem?_getD,h]
theorem ids_rng {s : St} {i : Nat} (h : i < (idsI s).length) : (0 ≤ (idsI s).getD i default ∧ (idsI s).getD i default < 64) ∧ tkP s ((idsI s).getD i default).toNat = true:=mem_lstP.1 (mem_getL h)
end Go.Proofs.Ytliofdfhimmjmaa
namespace Go.Proofs.Ytliofdfhimmjmaa
open Go.Rr Go Gr
set_option linter.unusedVariables false
def doAll (n most : Int) (s : St) (l : List Chg) : St:=l.foldl (doS n most) s
theorem doAll_snoc (n most : Int) (s : St) (l : List Chg) (c : Chg) : doAll n most s (l ++ [c]) = doS n most (doAll n most s l) c:=by unfold doAll; rw [List.foldl_append]; rfl
theorem ok_all {n most : Int} : ∀ (l : List Chg) (s : St),GOk n most s → GOk n most (doAll n most s l)
  | [], s,h=>h
  | c::l,s,h=>ok_all l _ (ok_do h c)
theorem take_getCh (xs : List Chg) {i : Nat} (h : i < xs.length) : xs.take (i + 1) = xs.take i ++ [xs.getD i default]:=by
  rw [List.take_succ_eq_append_getElem h]; simp [List.getD_eq_getElem?_getD,h]
set_option maxHeartbeats 1000000 in
theorem made08_ct {w w0 : World} {q : Int} {v : Value} {l : List Chg} {L : List HProp} (hq : (Lit.int .u8 q).wf = true) (hx : SlIn w0 6 Chg.enc v l) (hl : l.length ≤ 9223372036854775807) (H : Holds w (base w0::L)) :
    CT Try.prog 11 [.int .u8 q,v] w fun x w'=>∃ g r,GOk (1 + q % 24) 64 (doAll (1 + q % 24) 64 noS (l.take 150)) ∧ x = .tuple #[.pointer (some ⟨g,0,none⟩),.pointer (some ⟨r,0,none⟩)] ∧ Holds w' (Gh g (1 + q % 24) 64 (doAll (1 + q % 24) 64 noS (l.take 150))::Rg r (1 + q % 24) 64 (doAll (1 + q % 24) 64 noS (l.take 150))::base w0::L):=by
  obtain ⟨q0,q1⟩:=bounds_u8 hq
  obtain ⟨n,hn⟩ : ∃ n,n = (1 : Int) + q % 24:=⟨_,rfl⟩
  rw [← hn]
  have ok0 : GOk n 64 noS:=ok_none (by omega) (by omega) (by omega) (by omega)
  refine CT.enter (N:=49) Try.func11 rfl rfl rfl rfl ?_
  refine W.seq (fun K0 hK0=>?_)
  refine W.region ?_
  refine O.ex (Ex.assign rfl) rfl ?_
  refine O.ex (Ex.assign rfl) rfl ?_
  refine O.nil ?_
  refine hK0 _ _ _ ?_
  refine W.seq (fun K1 hK1=>?_)
  refine W.region ?_
  refine O.ex (Ex.move rfl) rfl ?_
  refine O.ex (by first|exact Ex.convToI Try.runUnderlying5 Try.runUnderlying3 rfl|exact Ex.convW Try.runUnderlying5 Try.runUnderlying3 rfl) rfl ?_
  refine O.ex (by first|exact Ex.remI rfl rfl|exact Ex.rem rfl rfl (by omega) rfl) rfl ?_
  refine O.ex (by first|exact Ex.addI rfl rfl|exact Ex.add rfl rfl rfl) rfl ?_
  refine O.ex (Ex.assign rfl) rfl ?_
  refine O.nil ?_
  refine hK1 _ _ _ ?_
  refine W.seq (fun K2 hK2=>?_)
  refine W.region ?_
  rw [← hn]
  refine O.ex (Ex.move rfl) rfl ?_
  refine O.callF Try.call34 rfl rfl (CT.mono (gnew_ct (n:=n) (most:=64) (Holds.to (by assumption))) ?_)
  rintro _ w (⟨hno,-⟩|⟨hyes,g,rfl,H⟩)
  · exact absurd ⟨⟨by omega,by omega⟩,by omega,by omega⟩ hno
  refine O.ex (Ex.move rfl) rfl ?_
  refine O.ex (Ex.extract rfl rfl) rfl ?_
  refine O.ex (Ex.extract rfl rfl) rfl ?_
  refine O.ex (Ex.assign rfl) rfl ?_
  refine O.ex (Ex.assign rfl) rfl ?_
  refine O.nil ?_
  refine hK2 _ _ _ ?_
  refine W.seq (fun K3 hK3=>?_)
  refine W.region ?_
  refine O.ex (Ex.move rfl) rfl ?_
  refine O.callF Try.call36 rfl rfl (CT.mono (rnew_ct (Holds.to (by assumption))) ?_)
  rintro _ w ⟨r,rfl,H⟩
  refine O.ex (Ex.assign rfl) rfl ?_
  refine O.nil ?_
  refine hK3 _ _ _ ?_
  refine W.seq (fun K4 hK4=>?_)
  refine W.seq (fun K5 hK5=>?_)
  refine W.region ?_
  refine O.ex (Ex.move rfl) rfl ?_
  refine O.ex (Ex.nilEq Try.runUnderlying24 rfl rfl) rfl ?_
  refine O.nil ?_
  refine hK5 _ _ _ ?_
  refine W.known_f rfl (by first|rfl|decide) ?_
  refine W.skip ?_
  refine hK4 _ _ _ ?_
  refine W.seq (fun K6 hK6=>?_)
  refine W.seq (fun K7 hK7=>?_)
  refine W.region ?_
  refine O.ex (Ex.assign rfl) rfl ?_
  refine O.nil ?_
  refine hK7 _ _ _ ?_
  refine W.block ?_
  refine W.loop (σ:=Nat) (fun i=>[(1,v),(7,.pointer (some ⟨g,0,none⟩)),(9,.pointer (some ⟨r,0,none⟩)),(10,.int .i64 (i : Int))]) (fun i ds w=>ds = [] ∧ i ≤ l.length ∧ i ≤ 150 ∧ Holds w (Gh g n 64 (doAll n 64 noS (l.take i))::Rg r n 64 (doAll n 64 noS (l.take i))::base w0::L)) (fun i=>l.length - i) 0 ⟨rfl,rfl,rfl,rfl,trivial⟩ ⟨rfl,by omega,by omega,Holds.to (by assumption)⟩ ?_
  clear H
  rintro i _ w ⟨rfl,hi,hi4,H⟩
  have hg:=ok_all (l.take i) noS ok0
  refine W.seq (fun K8 hK8=>?_)
  refine W.seq (fun K9 hK9=>?_)
  refine W.region ?_
  refine O.ex (Ex.move rfl) rfl ?_
  refine O.ex (Ex.move rfl) rfl ?_
  refine O.ex (by first|exact Ex.lenN Try.runUnderlying22 rfl|exact Ex.lenIn Try.runUnderlying22 rfl|exact Ex.lenL Try.runUnderlying22 rfl|exact Ex.len rfl Try.runUnderlying22 rfl) rfl ?_
  refine O.ex (Ex.lss rfl rfl) rfl ?_
  refine O.ex (Ex.move rfl) rfl ?_
  first|refine O.split_p (t:=29) rfl (fun h1=>?_) (fun h1=>?_)|refine O.split (t:=29) rfl (fun h1=>?_) (fun h1=>?_)
  · refine O.guard_t rfl rfl ?_
    refine O.ex (Ex.move rfl) rfl ?_
    refine O.guard_t rfl rfl ?_
    refine O.ex (Ex.lss rfl rfl) rfl ?_
    refine O.ex (Ex.pick_t rfl rfl) rfl ?_
    refine O.nil ?_
    refine hK9 _ _ _ ?_
    first|refine W.cond_p rfl (fun hlt=>?_) (fun hge=>?_)|refine W.cond_b rfl (fun hlt=>?_) (fun hge=>?_)
    · refine W.skip ?_
      refine hK8 _ _ _ ?_
      refine W.seq (fun K10 hK10=>?_)
      refine W.block ?_
      refine W.seq (fun K11 hK11=>?_)
      refine W.region ?_
      have hi0 : (0 : Int) ≤ (i : Int):=by omega
      have hi1 : (i : Int) < l.length:=h1
      have hil : i < l.length:=by omega
      have e1 : doS n 64 (doAll n 64 noS (l.take i)) (l.getD i default) = doAll n 64 noS (l.take (i + 1)):=by rw [take_getCh l hil,doAll_snoc]
      refine O.ex (Ex.move rfl) rfl ?_
      refine O.ex (Ex.move rfl) rfl ?_
      refine O.ex (Ex.move rfl) rfl ?_
      refine O.ex (by first|exact Ex.idxIn Try.runUnderlying22 Try.sizeOf68 rfl rfl|exact Ex.idxN Try.runUnderlying22 Try.sizeOf68 rfl rfl|exact Ex.idxSN Try.runUnderlying22 Try.sizeOf68 rfl rfl|exact Ex.idx Try.runUnderlying22 Try.sizeOf68 rfl rfl (by omega) (by omega)) rfl ?_
      refine O.ex (by first|exact Ex.loadRArc Try.isAgg68 Try.sizeOf68 rfl|exact Ex.loadAggP Try.isAgg68 Try.sizeOf68 rfl|exact Ex.loadAggN Try.isAgg68 Try.sizeOf68 rfl|exact Ex.loadIn Try.isAgg68 Try.sizeOf68 rfl (Holds.to (by assumption))) rfl ?_
      refine O.callF Try.call37 rfl rfl (CT.mono (do_ct (c:=l.getD i default) hg (Holds.to (by assumption))) ?_)
      rintro _ w ⟨-,H⟩
      refine O.nil ?_
      refine hK11 _ _ _ ?_
      refine W.region ?_
      refine O.ex (Ex.move rfl) rfl ?_
      refine O.ex (Ex.move rfl) rfl ?_
      refine O.ex (Ex.move rfl) rfl ?_
      refine O.ex (by first|exact Ex.idxIn Try.runUnderlying22 Try.sizeOf68 rfl rfl|exact Ex.idxN Try.runUnderlying22 Try.sizeOf68 rfl rfl|exact Ex.idxSN Try.runUnderlying22 Try.sizeOf68 rfl rfl|exact Ex.idx Try.runUnderlying22 Try.sizeOf68 rfl rfl (by omega) (by omega)) rfl ?_
      refine O.ex (by first|exact Ex.loadRArc Try.isAgg68 Try.sizeOf68 rfl|exact Ex.loadAggP Try.isAgg68 Try.sizeOf68 rfl|exact Ex.loadAggN Try.isAgg68 Try.sizeOf68 rfl|exact Ex.loadIn Try.isAgg68 Try.sizeOf68 rfl (Holds.to (by assumption))) rfl ?_
      refine O.callF Try.call38 rfl rfl (CT.mono (doRef_ct (c:=l.getD i default) (Holds.to (by assumption))) ?_)
      rintro _ w ⟨-,H⟩
      rw [e1] at H
      refine O.nil ?_
      refine hK10 _ _ _ ?_
      refine W.region ?_
      refine O.ex (Ex.move rfl) rfl ?_
      refine O.ex (by first|exact Ex.addI rfl rfl|exact Ex.add rfl rfl rfl) rfl ?_
      refine O.ex (Ex.assign rfl) rfl ?_
      refine O.nil ?_
      exact ⟨i + 1,⟨rfl,rfl,rfl,rfl,trivial⟩,⟨rfl,by omega,by omega,Holds.to (by assumption)⟩,by omega⟩
    · refine W.exit ?_
      refine hK6 _ _ _ ?_
      refine W.seq (fun K12 hK12=>?_)
      refine W.region ?_
      refine O.ex (Ex.move rfl) rfl ?_
      refine O.ex (Ex.move rfl) rfl ?_
      refine O.ex (Ex.assign rfl) rfl ?_
      refine O.ex (Ex.assign rfl) rfl ?_
      refine O.nil ?_
      refine hK12 _ _ _ ?_
      refine W.ret ?_
      try dsimp only [thenQ,blockQ,retQ]
      first|refine ⟨_,⟨_,_,rfl,rfl,_,_,rfl,rfl,rfl⟩,?_⟩|(refine retD_mark ?_; intro w H; refine ⟨_,⟨_,_,rfl,rfl,_,_,rfl,rfl,rfl⟩,?_⟩)|(refine retD_mark2 ?_; intro w H; refine ⟨_,⟨_,_,rfl,rfl,_,_,rfl,rfl,rfl⟩,?_⟩)
      have e : l.take 150 = l.take i:=by
        by_cases h : i = l.length
        · rw [h,List.take_length,List.take_of_length_le (by omega)]
        · rw [show i = 150 by omega]
      rw [e]
      exact ⟨g,r,hg,rfl,Holds.to (by assumption)⟩
  · refine O.guard_f rfl rfl rfl rfl ?_
    refine O.guard_f rfl rfl rfl rfl ?_
    refine O.ex (Ex.pick_f rfl rfl) rfl ?_
    refine O.nil ?_
    refine hK9 _ _ _ ?_
    refine W.cond_f rfl ?_
    refine W.exit ?_
    refine hK6 _ _ _ ?_
    refine W.seq (fun K13 hK13=>?_)
    refine W.region ?_
    refine O.ex (Ex.move rfl) rfl ?_
    refine O.ex (Ex.move rfl) rfl ?_
    refine O.ex (Ex.assign rfl) rfl ?_
    refine O.ex (Ex.assign rfl) rfl ?_
    refine O.nil ?_
    refine hK13 _ _ _ ?_
    refine W.ret ?_
    try dsimp only [thenQ,blockQ,retQ]
    first|refine ⟨_,⟨_,_,rfl,rfl,_,_,rfl,rfl,rfl⟩,?_⟩|(refine retD_mark ?_; intro w H; refine ⟨_,⟨_,_,rfl,rfl,_,_,rfl,rfl,rfl⟩,?_⟩)|(refine retD_mark2 ?_; intro w H; refine ⟨_,⟨_,_,rfl,rfl,_,_,rfl,rfl,rfl⟩,?_⟩)
    have e : l.take 150 = l.take i:=by
      by_cases h : i = l.length
      · rw [h,List.take_length,List.take_of_length_le (by omega)]
      · rw [show i = 150 by omega]
    rw [e]
    exact ⟨g,r,hg,rfl,Holds.to (by assumption)⟩
end Go.Proofs.Ytliofdfhimmjmaa
namespace Go.Proofs.Ytliofdfhimmjmaa
open Go.Rr
set_option linter.unusedVariables false
theorem refNorm_ct {w : World} {a : Int} {L : List HProp} (H : Holds w L) (ha : Dst a) : CT Try.prog 45 [.int .i64 a] w fun x w'=>x = .int .i64 a ∧ Holds w' L:=by
  unfold Dst at ha
  refine CT.enter (N:=8) Try.func45 rfl rfl rfl rfl ?_
  refine W.seq (fun K0 hK0=>?_)
  refine W.region ?_
  refine O.ex (Ex.assign rfl) rfl ?_
  refine O.nil ?_
  refine hK0 _ _ _ ?_
  refine W.seq (fun K1 hK1=>?_)
  refine W.seq (fun K2 hK2=>?_)
  refine W.region ?_
  refine O.ex (Ex.move rfl) rfl ?_
  refine O.ex (Ex.lss rfl rfl) rfl ?_
  refine O.nil ?_
  refine hK2 _ _ _ ?_
  refine W.known_f rfl (decide_eq_false (by omega)) ?_
  refine W.skip ?_
  refine hK1 _ _ _ ?_
  refine W.seq (fun K3 hK3=>?_)
  refine W.seq (fun K4 hK4=>?_)
  refine W.region ?_
  refine O.ex (Ex.move rfl) rfl ?_
  refine O.ex (Ex.gtr rfl rfl) rfl ?_
  refine O.nil ?_
  refine hK4 _ _ _ ?_
  refine W.known_f rfl (decide_eq_false (by omega)) ?_
  refine W.skip ?_
  refine hK3 _ _ _ ?_
  refine W.seq (fun K5 hK5=>?_)
  refine W.region ?_
  refine O.ex (Ex.move rfl) rfl ?_
  refine O.ex (Ex.assign rfl) rfl ?_
  refine O.nil ?_
  refine hK5 _ _ _ ?_
  refine W.ret ?_
  try dsimp only [thenQ,blockQ,retQ]
  first|refine ⟨_,⟨_,_,rfl,rfl,rfl⟩,?_⟩|(refine retD_mark ?_; intro w H; refine ⟨_,⟨_,_,rfl,rfl,rfl⟩,?_⟩)|(refine retD_mark2 ?_; intro w H; refine ⟨_,⟨_,_,rfl,rfl,rfl⟩,?_⟩)
  exact ⟨rfl,by first|assumption|exact Holds.to (by assumption)⟩
theorem refTwo_ct {w : World} {a b : Int} {L : List HProp} (H : Holds w L) (ha : Dst a) (hb : Dst b) : CT Try.prog 21 [.int .i64 a,.int .i64 b] w fun x w'=>x = .int .i64 (two a b) ∧ Holds w' L:=by
  have ha':=ha
  have hb':=hb
  unfold Dst at ha' hb'
  refine CT.enter (N:=30) Try.func21 rfl rfl rfl rfl ?_
  refine W.seq (fun K0 hK0=>?_)
  refine W.region ?_
  refine O.ex (Ex.assign rfl) rfl ?_
  refine O.nil ?_
  refine hK0 _ _ _ ?_
  refine W.seq (fun K1 hK1=>?_)
  refine W.region ?_
  refine O.ex (Ex.move rfl) rfl ?_
  refine O.callF Try.call45 rfl rfl (CT.mono (refNorm_ct (Holds.to (by assumption)) (by assumption)) ?_)
  rintro _ w ⟨rfl,H⟩
  refine O.ex (Ex.assign rfl) rfl ?_
  refine O.nil ?_
  refine hK1 _ _ _ ?_
  refine W.seq (fun K2 hK2=>?_)
  refine W.region ?_
  refine O.ex (Ex.move rfl) rfl ?_
  refine O.callF Try.call45 rfl rfl (CT.mono (refNorm_ct (Holds.to (by assumption)) (by assumption)) ?_)
  rintro _ w ⟨rfl,H⟩
  refine O.ex (Ex.assign rfl) rfl ?_
  refine O.nil ?_
  refine hK2 _ _ _ ?_
  refine W.seq (fun K3 hK3=>?_)
  refine W.seq (fun K4 hK4=>?_)
  refine W.region ?_
  refine O.ex (Ex.move rfl) rfl ?_
  refine O.ex (Ex.eqlI rfl rfl) rfl ?_
  refine O.ex (Ex.move rfl) rfl ?_
  first|refine O.split_p (t:=11) rfl (fun h0=>?_) (fun h0=>?_)|refine O.split (t:=11) rfl (fun h0=>?_) (fun h0=>?_)
  · refine O.guard_f rfl rfl rfl rfl ?_
    refine O.guard_f rfl rfl rfl rfl ?_
    refine O.ex (Ex.pick_t rfl rfl) rfl ?_
    refine O.nil ?_
    refine hK4 _ _ _ ?_
    refine W.cond_t rfl ?_
    refine W.seq (fun K5 hK5=>?_)
    refine W.region ?_
    refine O.ex (Ex.assign rfl) rfl ?_
    refine O.nil ?_
    refine hK5 _ _ _ ?_
    refine W.ret ?_
    try dsimp only [thenQ,blockQ,retQ]
    first|refine ⟨_,⟨_,_,rfl,rfl,rfl⟩,?_⟩|(refine retD_mark ?_; intro w H; refine ⟨_,⟨_,_,rfl,rfl,rfl⟩,?_⟩)|(refine retD_mark2 ?_; intro w H; refine ⟨_,⟨_,_,rfl,rfl,rfl⟩,?_⟩)
    exact ⟨congrArg (Value.int .i64) (by unfold two; (repeat' split) <;> omega),Holds.to (by assumption)⟩
  · refine O.guard_t rfl rfl ?_
    refine O.ex (Ex.move rfl) rfl ?_
    refine O.guard_t rfl rfl ?_
    refine O.ex (Ex.eqlI rfl rfl) rfl ?_
    refine O.ex (Ex.pick_f rfl rfl) rfl ?_
    refine O.nil ?_
    refine hK4 _ _ _ ?_
    first|refine W.cond_p rfl (fun h1=>?_) (fun h1=>?_)|refine W.cond_b rfl (fun h1=>?_) (fun h1=>?_)
    · refine W.seq (fun K6 hK6=>?_)
      refine W.region ?_
      refine O.ex (Ex.assign rfl) rfl ?_
      refine O.nil ?_
      refine hK6 _ _ _ ?_
      refine W.ret ?_
      try dsimp only [thenQ,blockQ,retQ]
      first|refine ⟨_,⟨_,_,rfl,rfl,rfl⟩,?_⟩|(refine retD_mark ?_; intro w H; refine ⟨_,⟨_,_,rfl,rfl,rfl⟩,?_⟩)|(refine retD_mark2 ?_; intro w H; refine ⟨_,⟨_,_,rfl,rfl,rfl⟩,?_⟩)
      exact ⟨congrArg (Value.int .i64) (by unfold two; (repeat' split) <;> omega),Holds.to (by assumption)⟩
    · refine W.skip ?_
      refine hK3 _ _ _ ?_
      refine W.seq (fun K7 hK7=>?_)
      refine W.seq (fun K8 hK8=>?_)
      refine W.region ?_
      refine O.ex (Ex.move rfl) rfl ?_
      refine O.ex (Ex.eqlI rfl rfl) rfl ?_
      refine O.ex (Ex.move rfl) rfl ?_
      first|refine O.split_p (t:=17) rfl (fun h2=>?_) (fun h2=>?_)|refine O.split (t:=17) rfl (fun h2=>?_) (fun h2=>?_)
      · refine O.guard_f rfl rfl rfl rfl ?_
        refine O.guard_f rfl rfl rfl rfl ?_
        refine O.ex (Ex.pick_t rfl rfl) rfl ?_
        refine O.ex (Ex.move rfl) rfl ?_
        refine O.guard_f rfl rfl rfl rfl ?_
        refine O.guard_f rfl rfl rfl rfl ?_
        refine O.guard_f rfl rfl rfl rfl ?_
        refine O.guard_f rfl rfl rfl rfl ?_
        refine O.ex (Ex.pick_t rfl rfl) rfl ?_
        refine O.nil ?_
        refine hK8 _ _ _ ?_
        refine W.cond_t rfl ?_
        refine W.seq (fun K9 hK9=>?_)
        refine W.region ?_
        refine O.ex (Ex.assign rfl) rfl ?_
        refine O.nil ?_
        refine hK9 _ _ _ ?_
        refine W.ret ?_
        try dsimp only [thenQ,blockQ,retQ]
        first|refine ⟨_,⟨_,_,rfl,rfl,rfl⟩,?_⟩|(refine retD_mark ?_; intro w H; refine ⟨_,⟨_,_,rfl,rfl,rfl⟩,?_⟩)|(refine retD_mark2 ?_; intro w H; refine ⟨_,⟨_,_,rfl,rfl,rfl⟩,?_⟩)
        exact ⟨congrArg (Value.int .i64) (by unfold two; (repeat' split) <;> omega),Holds.to (by assumption)⟩
      · refine O.guard_t rfl rfl ?_
        refine O.ex (Ex.move rfl) rfl ?_
        refine O.guard_t rfl rfl ?_
        refine O.ex (Ex.eqlI rfl rfl) rfl ?_
        refine O.ex (Ex.pick_f rfl rfl) rfl ?_
        refine O.ex (Ex.move rfl) rfl ?_
        first|refine O.split_p (t:=21) rfl (fun h3=>?_) (fun h3=>?_)|refine O.split (t:=21) rfl (fun h3=>?_) (fun h3=>?_)
        · refine O.guard_f rfl rfl rfl rfl ?_
          refine O.guard_f rfl rfl rfl rfl ?_
          refine O.guard_f rfl rfl rfl rfl ?_
          refine O.guard_f rfl rfl rfl rfl ?_
          refine O.ex (Ex.pick_t rfl rfl) rfl ?_
          refine O.nil ?_
          refine hK8 _ _ _ ?_
          refine W.cond_t rfl ?_
          refine W.seq (fun K10 hK10=>?_)
          refine W.region ?_
          refine O.ex (Ex.assign rfl) rfl ?_
          refine O.nil ?_
          refine hK10 _ _ _ ?_
          refine W.ret ?_
          try dsimp only [thenQ,blockQ,retQ]
          first|refine ⟨_,⟨_,_,rfl,rfl,rfl⟩,?_⟩|(refine retD_mark ?_; intro w H; refine ⟨_,⟨_,_,rfl,rfl,rfl⟩,?_⟩)|(refine retD_mark2 ?_; intro w H; refine ⟨_,⟨_,_,rfl,rfl,rfl⟩,?_⟩)
          exact ⟨congrArg (Value.int .i64) (by unfold two; (repeat' split) <;> omega),Holds.to (by assumption)⟩
        · refine O.guard_t rfl rfl ?_
          refine O.ex (Ex.move rfl) rfl ?_
          refine O.guard_t rfl rfl ?_
          refine O.ex (Ex.move rfl) rfl ?_
          refine O.guard_t rfl rfl ?_
          refine O.ex (by first|exact Ex.subI rfl rfl|exact Ex.sub rfl rfl rfl) rfl ?_
          refine O.guard_t rfl rfl ?_
          refine O.ex (Ex.gtr rfl rfl) rfl ?_
          refine O.ex (Ex.pick_f rfl rfl) rfl ?_
          refine O.nil ?_
          refine hK8 _ _ _ ?_
          first|refine W.cond_p rfl (fun h4=>?_) (fun h4=>?_)|refine W.cond_b rfl (fun h4=>?_) (fun h4=>?_)
          · refine W.seq (fun K11 hK11=>?_)
            refine W.region ?_
            refine O.ex (Ex.assign rfl) rfl ?_
            refine O.nil ?_
            refine hK11 _ _ _ ?_
            refine W.ret ?_
            try dsimp only [thenQ,blockQ,retQ]
            first|refine ⟨_,⟨_,_,rfl,rfl,rfl⟩,?_⟩|(refine retD_mark ?_; intro w H; refine ⟨_,⟨_,_,rfl,rfl,rfl⟩,?_⟩)|(refine retD_mark2 ?_; intro w H; refine ⟨_,⟨_,_,rfl,rfl,rfl⟩,?_⟩)
            exact ⟨congrArg (Value.int .i64) (by unfold two; (repeat' split) <;> omega),Holds.to (by assumption)⟩
          · refine W.skip ?_
            refine hK7 _ _ _ ?_
            refine W.seq (fun K12 hK12=>?_)
            refine W.region ?_
            refine O.ex (Ex.move rfl) rfl ?_
            refine O.ex (Ex.move rfl) rfl ?_
            refine O.ex (by first|exact Ex.addI rfl rfl|exact Ex.add rfl rfl rfl) rfl ?_
            refine O.ex (Ex.assign rfl) rfl ?_
            refine O.nil ?_
            refine hK12 _ _ _ ?_
            refine W.ret ?_
            try dsimp only [thenQ,blockQ,retQ]
            first|refine ⟨_,⟨_,_,rfl,rfl,rfl⟩,?_⟩|(refine retD_mark ?_; intro w H; refine ⟨_,⟨_,_,rfl,rfl,rfl⟩,?_⟩)|(refine retD_mark2 ?_; intro w H; refine ⟨_,⟨_,_,rfl,rfl,rfl⟩,?_⟩)
            exact ⟨congrArg (Value.int .i64) (by unfold two; (repeat' split) <;> omega),Holds.to (by assumption)⟩
end Go.Proofs.Ytliofdfhimmjmaa
