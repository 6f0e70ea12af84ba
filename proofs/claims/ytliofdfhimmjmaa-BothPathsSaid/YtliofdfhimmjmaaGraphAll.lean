/- Several texts as one: GraphMem Graph Graph2 Graph3 Graph4 Graph5 Graph6. -/
import Derived.Test.YtliofdfhimmjmaaGraphLaw
import Derived.Test.YtliofdfhimmjmaaIns2
import Derived.Test.YtliofdfhimmjmaaClone
import Derived.Test.YtliofdfhimmjmaaRrBase
namespace Go.Proofs.Ytliofdfhimmjmaa
open Go.Rr Go Gr
set_option linter.unusedVariables false
def gf (s : St) (av : Value) (k most : Int) : Nat → Value:=fun q=>if q < 320 then slc (s (q / 5)) (q % 5) else if q = 320 then av else if q = 321 then .int .i64 k else .int .i64 most
def gcel (g : Nat) (s : St) (av : Value) (k most : Int) : HProp:=cel g 93 323 (gf s av k most)
theorem slc_one (x : Sl) (k : Nat) : (slc x k).oneCell' = true:=by unfold slc; split <;> rfl
theorem gf_sl {s : St} {av : Value} {k most : Int} {i j : Nat} (hi : i < 64) (hj : j < 5) : gf s av k most (i * 5 + j) = slc (s i) j:=by
  unfold gf
  rw [if_pos (by omega),show (i * 5 + j) / 5 = i by omega,show (i * 5 + j) % 5 = j by omega]
section
variable {P : Program} {ro : Option Nat} {N : Nat} {Q : Q0} {l : Regs} {ds : List Deferred} {w w' : World} {ops : Array Oper} {os : List Oper}
variable {d : Tmp} {ty : TypeId} {pos : String} {af : Array Edge} {x y : Operand} {t T yt : TypeId} {L : List HProp} {s : St} {av : Value} {c most : Int} {g : Nat}
theorem Ex.loadG1 {k : Nat} {i : Int} (ht : AggIs P t false) (e1 : ev l x = some (.pointer (some ⟨g,0 + i.toNat * 5 + k,none⟩))) (H : Holds w (gcel g s av c most::L):=by exact Holds.to (by assumption)) (h0 : 0 ≤ i:=by first|assumption|omega) (h1 : i < 64:=by first|assumption|omega) (hk : k < 5:=by decide) :
    Ex P N l (.load t x) ty w (slc (s i.toNat) k) w:=Ex.loadC ht e1 H (by omega) (by rw [Nat.zero_add]; exact gf_sl (by omega) hk)
theorem Ex.loadG2 {j k : Nat} {i : Int} (ht : AggIs P t false) (e1 : ev l x = some (.pointer (some ⟨g,0 + i.toNat * 5 + j + k,none⟩))) (H : Holds w (gcel g s av c most::L):=by exact Holds.to (by assumption)) (h0 : 0 ≤ i:=by first|assumption|omega) (h1 : i < 64:=by first|assumption|omega) (hk : j + k < 5:=by decide) :
    Ex P N l (.load t x) ty w (slc (s i.toNat) (j + k)) w:=Ex.loadC ht e1 H (by omega) (by rw [Nat.zero_add,Nat.add_assoc]; exact gf_sl (by omega) hk)
theorem Ex.loadAt (ht : AggIs P t false) (e1 : ev l x = some (.pointer (some ⟨g,320,none⟩))) (H : Holds w (gcel g s av c most::L):=by exact Holds.to (by assumption)) : Ex P N l (.load t x) ty w av w:=Ex.loadC ht e1 H (by omega) rfl
theorem Ex.loadCn (ht : AggIs P t false) (e1 : ev l x = some (.pointer (some ⟨g,321,none⟩))) (H : Holds w (gcel g s av c most::L):=by exact Holds.to (by assumption)) : Ex P N l (.load t x) ty w (.int .i64 c) w:=Ex.loadC ht e1 H (by omega) rfl
theorem Ex.loadMo (ht : AggIs P t false) (e1 : ev l x = some (.pointer (some ⟨g,322,none⟩))) (H : Holds w (gcel g s av c most::L):=by exact Holds.to (by assumption)) : Ex P N l (.load t x) ty w (.int .i64 most) w:=Ex.loadC ht e1 H (by omega) rfl
/-- An arc, out of its place. -/
theorem Ex.loadArc {k : Nat} {i : Int} (ht : AggIs P t true) (hz : SizeIs P t 4) (e1 : ev l x = some (.pointer (some ⟨g,0 + i.toNat * 5 + k,none⟩))) (H : Holds w (gcel g s av c most::L):=by exact Holds.to (by assumption)) (h0 : 0 ≤ i:=by first|assumption|omega) (h1 : i < 64:=by first|assumption|omega) (hk : k = 0:=by rfl) :
    Ex P N l (.load t x) ty w (s i.toNat).a.val w:=by
  subst hk
  have:=Ex.loadAggC (N:=N) (m:=4) (ty:=ty) ht hz e1 H (by omega)
  rw [show cval 4 (fun k=>gf s av c most (0 + i.toNat * 5 + 0 + k)) = (s i.toNat).a.val from ?_] at this
  · exact this
  · unfold cval
    rw [cs_congr (g:=fun k=>slc (s i.toNat) k) (fun k hk=>by rw [Nat.zero_add,Nat.add_zero]; exact gf_sl (by omega) (by omega))]
    rfl
theorem O.storeCn {v : Int} (hs : SizeIs P t 1) (e1 : ev l x = some (.pointer (some ⟨g,321,none⟩))) (e2 : ev l y = some (.int .i64 v)) (hk : ∀ w',Holds w' (gcel g s av v most::L) → O P ro N ops os Q l ds w')
    (H : Holds w (gcel g s av c most::L):=by exact Holds.to (by assumption)) : O P ro N ops (⟨none,.store t x y,ty,pos,af,none⟩::os) Q l ds w :=
  O.storeC hs e1 e2 rfl H (by omega) fun w' H'=>hk w' (H'.celTo fun q hq=>by
    unfold gf
    by_cases e : q = 321
    · subst e; rfl
    · rw [if_neg e]
      by_cases h1 : q < 320
      · rw [if_pos h1,if_pos h1]
      · rw [if_neg h1,if_neg h1]
        by_cases h2 : q = 320
        · rw [if_pos h2,if_pos h2]
        · rw [if_neg h2,if_neg h2,if_neg e,if_neg e])
/-- A place, anew. -/
theorem O.storeSl {i q : Nat} {z : Sl} {vs : Array Value} (hs : SizeIs P t 5) (e1 : ev l x = some (.pointer (some ⟨g,q,none⟩))) (e2 : ev l y = some (.agg vs)) (hz : vs = #[.int .i64 z.a.t,.int .i64 z.a.h,.int .i64 z.a.w,.bool z.a.cl,.bool z.tk]) (hq : q = i * 5) (hi : i < 64)
    (hk : ∀ w',Holds w' (gcel g (upS s i z) av c most::L) → O P ro N ops os Q l ds w') (H : Holds w (gcel g s av c most::L):=by exact Holds.to (by assumption)) : O P ro N ops (⟨none,.store t x y,ty,pos,af,none⟩::os) Q l ds w:=by
  subst hz hq
  refine O.storeAggC hs e1 e2 rfl (fun v hv=>?_) H (by omega) fun w' H'=>hk w' (H'.celTo fun q hq=>?_)
  · simp at hv; rcases hv with rfl|rfl|rfl|rfl|rfl <;> rfl
  · by_cases h1 : q < 320
    · unfold gf
      rw [if_pos h1,if_pos h1]
      by_cases h2 : q / 5 = i
      · rw [if_pos (by omega),h2,upS_same]
        have h3 : q - i * 5 = q % 5:=by omega
        rw [h3]
        have : q % 5 = 0 ∨ q % 5 = 1 ∨ q % 5 = 2 ∨ q % 5 = 3 ∨ q % 5 = 4:=by omega
        rcases this with e|e|e|e|e <;> rw [e] <;> rfl
      · rw [if_neg (by omega),upS_other h2]
    · rw [if_neg (by omega)]
      unfold gf
      rw [if_neg h1,if_neg h1]
/-- One cell of a place. -/
theorem O.storeSl1 {i q k : Nat} {z : Sl} {v : Value} (hs : SizeIs P t 1) (e1 : ev l x = some (.pointer (some ⟨g,q,none⟩))) (e2 : ev l y = some v) (hq : q = i * 5 + k) (hk5 : k < 5) (hi : i < 64) (hv : slc z k = v) (ho : ∀ j,j < 5 → j ≠ k → slc z j = slc (s i) j)
    (hk : ∀ w',Holds w' (gcel g (upS s i z) av c most::L) → O P ro N ops os Q l ds w') (H : Holds w (gcel g s av c most::L):=by exact Holds.to (by assumption)) : O P ro N ops (⟨none,.store t x y,ty,pos,af,none⟩::os) Q l ds w:=by
  subst hv hq
  refine O.storeC hs e1 e2 (slc_one _ _) H (by omega) fun w' H'=>hk w' (H'.celTo fun q hq=>?_)
  by_cases h1 : q < 320
  · unfold gf
    rw [if_pos h1,if_pos h1]
    by_cases h2 : q / 5 = i
    · rw [h2,upS_same]
      by_cases h3 : q % 5 = k
      · rw [if_pos (by omega),h3]
      · rw [if_neg (by omega)]; exact (ho _ (by omega) h3).symm
    · rw [if_neg (by omega),upS_other h2]
  · rw [if_neg (by omega)]
    unfold gf
    rw [if_neg h1,if_neg h1]
/-! ### The lists at the vertices -/
def atc (ab n : Nat) (es : Nat → Value × Value) : HProp:=hex fun m=>hex fun f=>star [cel ab 96 m f,hp (2 * n ≤ m ∧ ∀ i,i < n → f (2 * i) = (es i).1 ∧ f (2 * i + 1) = (es i).2)]
theorem atc_open {ab n : Nat} {es : Nat → Value × Value} : Holds w (atc ab n es::L) ↔ ∃ m f,(2 * n ≤ m ∧ ∀ i,i < n → f (2 * i) = (es i).1 ∧ f (2 * i + 1) = (es i).2) ∧ Holds w (cel ab 96 m f::L):=by
  unfold atc
  simp only [Holds.hex,Holds.star,List.cons_append,List.nil_append]
  constructor
  · rintro ⟨m,f,H⟩
    obtain ⟨h,H⟩:=Holds.hp.1 H.swap
    exact ⟨m,f,h,H⟩
  · rintro ⟨m,f,h,H⟩
    exact ⟨m,f,Holds.swap (Holds.hp.2 ⟨h,H⟩)⟩
theorem Ex.loadE0 {ab n : Nat} {es : Nat → Value × Value} {i : Int} (ht : AggIs P t false) (e1 : ev l x = some (.pointer (some ⟨ab,0 + i.toNat * 2 + 0,none⟩))) (H : Holds w (atc ab n es::L):=by exact Holds.to (by assumption)) (h0 : 0 ≤ i:=by first|assumption|omega) (h1 : i.toNat < n:=by first|assumption|omega) :
    Ex P N l (.load t x) ty w (es i.toNat).1 w:=by
  obtain ⟨m,f,h,H⟩:=atc_open.1 H
  exact Ex.loadC ht e1 H (by omega) (by rw [← (h.2 _ h1).1]; congr 1; omega)
theorem Ex.loadE1 {ab n : Nat} {es : Nat → Value × Value} {i : Int} (ht : AggIs P t false) (e1 : ev l x = some (.pointer (some ⟨ab,0 + i.toNat * 2 + 1,none⟩))) (H : Holds w (atc ab n es::L):=by exact Holds.to (by assumption)) (h0 : 0 ≤ i:=by first|assumption|omega) (h1 : i.toNat < n:=by first|assumption|omega) :
    Ex P N l (.load t x) ty w (es i.toNat).2 w:=by
  obtain ⟨m,f,h,H⟩:=atc_open.1 H
  exact Ex.loadC ht e1 H (by omega) (by rw [← (h.2 _ h1).2]; congr 1; omega)
def upE (es : Nat → Value × Value) (i : Nat) (p : Value × Value) : Nat → Value × Value:=fun k=>if k = i then p else es k
theorem atc_0 {n : Nat} {es : Nat → Value × Value} {m i : Nat} {f : Nat → Value} {v : Value} (h : 2 * n ≤ m ∧ ∀ i,i < n → f (2 * i) = (es i).1 ∧ f (2 * i + 1) = (es i).2) :
    2 * n ≤ m ∧ ∀ k,k < n → (fun q=>if q = 0 + i * 2 + 0 then v else f q) (2 * k) = (upE es i (v,(es i).2) k).1 ∧ (fun q=>if q = 0 + i * 2 + 0 then v else f q) (2 * k + 1) = (upE es i (v,(es i).2) k).2:=by
  refine ⟨h.1,fun k hk=>?_⟩
  have hk2:=h.2 k hk
  unfold upE
  dsimp only
  by_cases e : k = i
  · subst e
    rw [if_pos rfl]
    exact ⟨if_pos (by omega),(if_neg (by omega)).trans hk2.2⟩
  · rw [if_neg e,if_neg (by omega),if_neg (by omega)]
    exact hk2
theorem atc_1 {n : Nat} {es : Nat → Value × Value} {m i : Nat} {f : Nat → Value} {v : Value} (h : 2 * n ≤ m ∧ ∀ i,i < n → f (2 * i) = (es i).1 ∧ f (2 * i + 1) = (es i).2) :
    2 * n ≤ m ∧ ∀ k,k < n → (fun q=>if q = 0 + i * 2 + 1 then v else f q) (2 * k) = (upE es i ((es i).1,v) k).1 ∧ (fun q=>if q = 0 + i * 2 + 1 then v else f q) (2 * k + 1) = (upE es i ((es i).1,v) k).2:=by
  refine ⟨h.1,fun k hk=>?_⟩
  have hk2:=h.2 k hk
  unfold upE
  dsimp only
  by_cases e : k = i
  · subst e
    rw [if_pos rfl]
    exact ⟨(if_neg (by omega)).trans hk2.1,if_pos (by omega)⟩
  · rw [if_neg e,if_neg (by omega),if_neg (by omega)]
    exact hk2
theorem O.storeE0 {ab n : Nat} {es : Nat → Value × Value} {i : Int} {v : Value} (hs : SizeIs P t 1) (e1 : ev l x = some (.pointer (some ⟨ab,0 + i.toNat * 2 + 0,none⟩))) (e2 : ev l y = some v) (hv : v.oneCell' = true)
    (hk : ∀ w',Holds w' (atc ab n (upE es i.toNat (v,(es i.toNat).2))::L) → O P ro N ops os Q l ds w') (H : Holds w (atc ab n es::L):=by exact Holds.to (by assumption)) (h0 : 0 ≤ i:=by first|assumption|omega) (h1 : i.toNat < n:=by first|assumption|omega) :
    O P ro N ops (⟨none,.store t x y,ty,pos,af,none⟩::os) Q l ds w:=by
  obtain ⟨m,f,h,H⟩:=atc_open.1 H
  refine O.storeC hs e1 e2 hv H (by omega) fun w' H'=>hk w' (atc_open.2 ⟨m,_,atc_0 h,H'⟩)
theorem O.storeE1 {ab n : Nat} {es : Nat → Value × Value} {i : Int} {v : Value} (hs : SizeIs P t 1) (e1 : ev l x = some (.pointer (some ⟨ab,0 + i.toNat * 2 + 1,none⟩))) (e2 : ev l y = some v) (hv : v.oneCell' = true)
    (hk : ∀ w',Holds w' (atc ab n (upE es i.toNat ((es i.toNat).1,v))::L) → O P ro N ops os Q l ds w') (H : Holds w (atc ab n es::L):=by exact Holds.to (by assumption)) (h0 : 0 ≤ i:=by first|assumption|omega) (h1 : i.toNat < n:=by first|assumption|omega) :
    O P ro N ops (⟨none,.store t x y,ty,pos,af,none⟩::os) Q l ds w:=by
  obtain ⟨m,f,h,H⟩:=atc_open.1 H
  refine O.storeC hs e1 e2 hv H (by omega) fun w' H'=>hk w' (atc_open.2 ⟨m,_,atc_1 h,H'⟩)
end
def endF (es : Nat → Value × Value) (so si : St) (v : Nat) : HProp:=star [arr 3 (Value.int .i64) (es v).1 (outI so v),arr 3 (Value.int .i64) (es v).2 (inI si v)]
theorem endF_open {w : World} {es : Nat → Value × Value} {so si : St} {v : Nat} {L : List HProp} : Holds w (endF es so si v::L) ↔ Holds w (arr 3 (Value.int .i64) (es v).1 (outI so v)::arr 3 (Value.int .i64) (es v).2 (inI si v)::L):=by
  unfold endF
  simp only [Holds.star,List.cons_append,List.nil_append]
abbrev avV (ab cap : Nat) (n : Int) : Value:=.slice (some ⟨ab,0,none⟩) n.toNat cap
/-- A graph, laid open: its places, the lists' slices, the lists. -/
def GhO (g ab cap : Nat) (es : Nat → Value × Value) (n most k : Int) (s so si : St) : HProp:=star [gcel g s (avV ab cap n) k most,atc ab n.toNat es,big (endF es so si) (List.range n.toNat)]
theorem ghO_open {w : World} {g ab cap : Nat} {es : Nat → Value × Value} {n most k : Int} {s so si : St} {L : List HProp} : Holds w (GhO g ab cap es n most k s so si::L) ↔ Holds w (gcel g s (avV ab cap n) k most::atc ab n.toNat es::big (endF es so si) (List.range n.toNat)::L):=by
  unfold GhO
  simp only [Holds.star,List.cons_append,List.nil_append]
/-- A graph. -/
def Gh (g : Nat) (n most : Int) (s : St) : HProp:=hex fun ab=>hex fun cap=>hex fun es=>GhO g ab cap es n most (cnt s) s s s
theorem gh_open {w : World} {g : Nat} {n most : Int} {s : St} {L : List HProp} : Holds w (Gh g n most s::L) ↔ ∃ ab cap es,Holds w (GhO g ab cap es n most (cnt s) s s s::L):=by
  unfold Gh
  simp only [Holds.hex]
end Go.Proofs.Ytliofdfhimmjmaa
namespace Go.Proofs.Ytliofdfhimmjmaa
open Go.Rr Go Gr
set_option linter.unusedVariables false
theorem place_ct {w : World} {id : Int} {L : List HProp} (H : Holds w L) : CT Try.prog 56 [.int .i64 id] w fun u w'=>u = .bool (decide (pl id)) ∧ Holds w' L:=by
  refine CT.enter (N:=9) Try.func56 rfl rfl rfl rfl ?_
  refine W.seq (fun K0 hK0=>?_)
  refine W.region ?_
  refine O.ex (Ex.assign rfl) rfl ?_
  refine O.nil ?_
  refine hK0 _ _ _ ?_
  refine W.seq (fun K1 hK1=>?_)
  refine W.region ?_
  refine O.ex (Ex.move rfl) rfl ?_
  refine O.ex (Ex.geq rfl rfl) rfl ?_
  refine O.ex (Ex.move rfl) rfl ?_
  first|refine O.split_p (t:=5) rfl (fun h0=>?_) (fun h0=>?_)|refine O.split (t:=5) rfl (fun h0=>?_) (fun h0=>?_)
  · refine O.guard_t rfl rfl ?_
    refine O.ex (Ex.move rfl) rfl ?_
    refine O.guard_t rfl rfl ?_
    refine O.ex (Ex.lss rfl rfl) rfl ?_
    refine O.ex (Ex.pick_t rfl rfl) rfl ?_
    refine O.ex (Ex.assign rfl) rfl ?_
    refine O.nil ?_
    refine hK1 _ _ _ ?_
    refine W.ret ?_
    try dsimp only [thenQ,blockQ,retQ]
    first|refine ⟨_,⟨_,_,rfl,rfl,rfl⟩,?_⟩|(refine retD_mark ?_; intro w H; refine ⟨_,⟨_,_,rfl,rfl,rfl⟩,?_⟩)|(refine retD_mark2 ?_; intro w H; refine ⟨_,⟨_,_,rfl,rfl,rfl⟩,?_⟩)
    refine ⟨congrArg Value.bool ?_,Holds.to (by assumption)⟩
    first
    | exact decide_eq_decide.2 (by omega)
    | exact (decide_eq_false (by omega)).symm
  · refine O.guard_f rfl rfl rfl rfl ?_
    refine O.guard_f rfl rfl rfl rfl ?_
    refine O.ex (Ex.pick_f rfl rfl) rfl ?_
    refine O.ex (Ex.assign rfl) rfl ?_
    refine O.nil ?_
    refine hK1 _ _ _ ?_
    refine W.ret ?_
    try dsimp only [thenQ,blockQ,retQ]
    first|refine ⟨_,⟨_,_,rfl,rfl,rfl⟩,?_⟩|(refine retD_mark ?_; intro w H; refine ⟨_,⟨_,_,rfl,rfl,rfl⟩,?_⟩)|(refine retD_mark2 ?_; intro w H; refine ⟨_,⟨_,_,rfl,rfl,rfl⟩,?_⟩)
    refine ⟨congrArg Value.bool ?_,Holds.to (by assumption)⟩
    first
    | exact decide_eq_decide.2 (by omega)
    | exact (decide_eq_false (by omega)).symm
theorem gvertexO_ct {w : World} {g ab cap : Nat} {n most k v : Int} {s : St} {L : List HProp} (hn : 0 ≤ n) (H : Holds w (gcel g s (avV ab cap n) k most::L)) :
    CT Try.prog 57 [.pointer (some ⟨g,0,none⟩),.int .i64 v] w fun u w'=>u = .bool (decide (0 ≤ v ∧ v < n)) ∧ Holds w' (gcel g s (avV ab cap n) k most::L):=by
  refine CT.enter (N:=16) Try.func57 rfl rfl rfl rfl ?_
  refine W.seq (fun K0 hK0=>?_)
  refine W.region ?_
  refine O.ex (Ex.assign rfl) rfl ?_
  refine O.nil ?_
  refine hK0 _ _ _ ?_
  refine W.seq (fun K1 hK1=>?_)
  refine W.region ?_
  refine O.ex (Ex.move rfl) rfl ?_
  refine O.ex (Ex.geq rfl rfl) rfl ?_
  refine O.ex (Ex.move rfl) rfl ?_
  first|refine O.split_p (t:=7) rfl (fun h0=>?_) (fun h0=>?_)|refine O.split (t:=7) rfl (fun h0=>?_) (fun h0=>?_)
  · refine O.guard_t rfl rfl ?_
    refine O.ex (Ex.move rfl) rfl ?_
    refine O.guard_t rfl rfl ?_
    refine O.ex (Ex.move rfl) rfl ?_
    refine O.guard_t rfl rfl ?_
    refine O.ex (by first|exact Ex.nilPtr rfl|exact Ex.nilFunc rfl|exact Ex.nilYield rfl) rfl ?_
    refine O.guard_t rfl rfl ?_
    refine O.ex (by first|exact Ex.field0 fld93_1 rfl|exact Ex.field fld93_1 rfl|exact Ex.fieldS fld93_1 rfl) rfl ?_
    refine O.guard_t rfl rfl ?_
    refine O.ex (by first|exact Ex.loadG1 Try.isAgg88 rfl|exact Ex.loadG2 Try.isAgg88 rfl|exact Ex.loadAt Try.isAgg88 rfl|exact Ex.loadCn Try.isAgg88 rfl|exact Ex.loadMo Try.isAgg88 rfl|exact Ex.loadE0 Try.isAgg88 rfl|exact Ex.loadE1 Try.isAgg88 rfl|exact Ex.loadP Try.isAgg88 rfl|exact Ex.loadR Try.isAgg88 rfl|exact Ex.loadIn1 Try.isAgg88 rfl (Holds.to (by assumption))) rfl ?_
    refine O.guard_t rfl rfl ?_
    refine O.ex (by first|exact Ex.lenN Try.runUnderlying88 rfl|exact Ex.lenIn Try.runUnderlying88 rfl|exact Ex.lenL Try.runUnderlying88 rfl|exact Ex.len rfl Try.runUnderlying88 rfl) rfl ?_
    refine O.guard_t rfl rfl ?_
    refine O.ex (Ex.lss rfl rfl) rfl ?_
    refine O.ex (Ex.pick_t rfl rfl) rfl ?_
    refine O.ex (Ex.assign rfl) rfl ?_
    refine O.nil ?_
    refine hK1 _ _ _ ?_
    refine W.ret ?_
    try dsimp only [thenQ,blockQ,retQ]
    first|refine ⟨_,⟨_,_,rfl,rfl,rfl⟩,?_⟩|(refine retD_mark ?_; intro w H; refine ⟨_,⟨_,_,rfl,rfl,rfl⟩,?_⟩)|(refine retD_mark2 ?_; intro w H; refine ⟨_,⟨_,_,rfl,rfl,rfl⟩,?_⟩)
    refine ⟨congrArg Value.bool ?_,Holds.to (by assumption)⟩
    first
    | exact decide_eq_decide.2 (by omega)
    | exact (decide_eq_false (by omega)).symm
  · refine O.guard_f rfl rfl rfl rfl ?_
    refine O.guard_f rfl rfl rfl rfl ?_
    refine O.guard_f rfl rfl rfl rfl ?_
    refine O.guard_f rfl rfl rfl rfl ?_
    refine O.guard_f rfl rfl rfl rfl ?_
    refine O.guard_f rfl rfl rfl rfl ?_
    refine O.guard_f rfl rfl rfl rfl ?_
    refine O.ex (Ex.pick_f rfl rfl) rfl ?_
    refine O.ex (Ex.assign rfl) rfl ?_
    refine O.nil ?_
    refine hK1 _ _ _ ?_
    refine W.ret ?_
    try dsimp only [thenQ,blockQ,retQ]
    first|refine ⟨_,⟨_,_,rfl,rfl,rfl⟩,?_⟩|(refine retD_mark ?_; intro w H; refine ⟨_,⟨_,_,rfl,rfl,rfl⟩,?_⟩)|(refine retD_mark2 ?_; intro w H; refine ⟨_,⟨_,_,rfl,rfl,rfl⟩,?_⟩)
    refine ⟨congrArg Value.bool ?_,Holds.to (by assumption)⟩
    first
    | exact decide_eq_decide.2 (by omega)
    | exact (decide_eq_false (by omega)).symm
theorem gwith_ct {w : World} {v : Value} {p q : Nat → Bool} {k : Nat} {L : List HProp} (hk : k < 64) (hp : p k = false) (hq : q k = true) (h : ∀ i,i ≠ k → p i = q i) (H : Holds w (arr 3 (Value.int .i64) v (lstP p)::L)) :
    CT Try.prog 59 [v,.int .i64 (k : Int)] w fun u w'=>u.oneCell' = true ∧ Holds w' (arr 3 (Value.int .i64) u (lstP q)::L):=by
  have hl:=lstP_len p
  refine CT.enter (N:=18) Try.func59 rfl rfl rfl rfl ?_
  refine W.seq (fun K0 hK0=>?_)
  refine W.region ?_
  refine O.ex (Ex.assign rfl) rfl ?_
  refine O.nil ?_
  refine hK0 _ _ _ ?_
  refine W.seq (fun K1 hK1=>?_)
  refine W.region ?_
  refine O.ex (Ex.move rfl) rfl ?_
  refine O.ex (Ex.move rfl) rfl ?_
  refine O.callF Try.call85 rfl rfl (CT.mono (search_ct (by omega) (lstP_sorted p) (Holds.to (by assumption))) ?_)
  rintro _ w ⟨i,f,rfl,hi,h1,h2,H⟩
  refine O.ex (Ex.move rfl) rfl ?_
  refine O.ex (Ex.extract rfl rfl) rfl ?_
  refine O.ex (Ex.extract rfl rfl) rfl ?_
  refine O.ex (Ex.assign rfl) rfl ?_
  refine O.ex (Ex.assign rfl) rfl ?_
  refine O.nil ?_
  refine hK1 _ _ _ ?_
  refine W.seq (fun K2 hK2=>?_)
  refine W.region ?_
  refine O.ex (Ex.move rfl) rfl ?_
  refine O.ex (Ex.move rfl) rfl ?_
  refine O.ex (Ex.move rfl) rfl ?_
  refine O.build1 (e:=Value.int .i64) Try.runUnderlying28 Try.sizeOf3 Try.zeroValue3 rfl (fun v16 w hv16 H=>?_)
  refine O.callF Try.call86 rfl rfl (CT.mono (insert_ct (xs:=lstP p) (x:=(k : Int)) (i:=i) hi (by omega) (Holds.to (by assumption))) ?_)
  rintro _ w ⟨hu,H⟩
  rw [lstP_ins hk hp hq h hi h1 h2] at H
  refine O.ex (Ex.assign rfl) rfl ?_
  refine O.nil ?_
  refine hK2 _ _ _ ?_
  refine W.ret ?_
  try dsimp only [thenQ,blockQ,retQ]
  first|refine ⟨_,⟨_,_,rfl,rfl,rfl⟩,?_⟩|(refine retD_mark ?_; intro w H; refine ⟨_,⟨_,_,rfl,rfl,rfl⟩,?_⟩)|(refine retD_mark2 ?_; intro w H; refine ⟨_,⟨_,_,rfl,rfl,rfl⟩,?_⟩)
  exact ⟨hu,Holds.to (by assumption)⟩
theorem gwithout_ct {w : World} {v : Value} {p q : Nat → Bool} {k : Nat} {L : List HProp} (hk : k < 64) (hp : p k = true) (hq : q k = false) (h : ∀ i,i ≠ k → p i = q i) (H : Holds w (arr 3 (Value.int .i64) v (lstP p)::L)) :
    CT Try.prog 88 [v,.int .i64 (k : Int)] w fun u w'=>u.oneCell' = true ∧ Holds w' (arr 3 (Value.int .i64) u (lstP q)::L):=by
  have hl:=lstP_len p
  refine CT.enter (N:=18) Try.func88 rfl rfl rfl rfl ?_
  refine W.seq (fun K0 hK0=>?_)
  refine W.region ?_
  refine O.ex (Ex.assign rfl) rfl ?_
  refine O.nil ?_
  refine hK0 _ _ _ ?_
  refine W.seq (fun K1 hK1=>?_)
  refine W.region ?_
  refine O.ex (Ex.move rfl) rfl ?_
  refine O.ex (Ex.move rfl) rfl ?_
  refine O.callF Try.call85 rfl rfl (CT.mono (search_ct (by omega) (lstP_sorted p) (Holds.to (by assumption))) ?_)
  rintro _ w ⟨i,f,rfl,hi,h1,h2,H⟩
  obtain ⟨hil,hdel⟩:=lstP_del hk hp hq h hi h1 h2
  refine O.ex (Ex.move rfl) rfl ?_
  refine O.ex (Ex.extract rfl rfl) rfl ?_
  refine O.ex (Ex.extract rfl rfl) rfl ?_
  refine O.ex (Ex.assign rfl) rfl ?_
  refine O.ex (Ex.assign rfl) rfl ?_
  refine O.nil ?_
  refine hK1 _ _ _ ?_
  refine W.seq (fun K2 hK2=>?_)
  refine W.region ?_
  refine O.ex (Ex.move rfl) rfl ?_
  refine O.ex (Ex.move rfl) rfl ?_
  refine O.ex (Ex.move rfl) rfl ?_
  refine O.ex (by first|exact Ex.addI rfl rfl|exact Ex.add rfl rfl rfl) rfl ?_
  refine O.callF Try.call110 rfl rfl (CT.mono (del_ct (xs:=lstP p) (i:=(i : Int)) (Holds.to (by assumption)) (by omega) (by omega) (by omega)) ?_)
  rintro _ w ⟨hu,H⟩
  rw [Int.toNat_natCast,hdel] at H
  refine O.ex (Ex.assign rfl) rfl ?_
  refine O.nil ?_
  refine hK2 _ _ _ ?_
  refine W.ret ?_
  try dsimp only [thenQ,blockQ,retQ]
  first|refine ⟨_,⟨_,_,rfl,rfl,rfl⟩,?_⟩|(refine retD_mark ?_; intro w H; refine ⟨_,⟨_,_,rfl,rfl,rfl⟩,?_⟩)|(refine retD_mark2 ?_; intro w H; refine ⟨_,⟨_,_,rfl,rfl,rfl⟩,?_⟩)
  exact ⟨hu,Holds.to (by assumption)⟩
theorem withI_ct {w : World} {v : Value} {p q : Nat → Bool} {id : Int} {L : List HProp} (h0 : 0 ≤ id) (h1 : id < 64) (hp : p id.toNat = false) (hq : q id.toNat = true) (h : ∀ i,i ≠ id.toNat → p i = q i) (H : Holds w (arr 3 (Value.int .i64) v (lstP p)::L)) :
    CT Try.prog 59 [v,.int .i64 id] w fun u w'=>u.oneCell' = true ∧ Holds w' (arr 3 (Value.int .i64) u (lstP q)::L):=by
  have:=gwith_ct (k:=id.toNat) (by omega) hp hq h H
  rwa [Int.toNat_of_nonneg h0] at this
theorem withoutI_ct {w : World} {v : Value} {p q : Nat → Bool} {id : Int} {L : List HProp} (h0 : 0 ≤ id) (h1 : id < 64) (hp : p id.toNat = true) (hq : q id.toNat = false) (h : ∀ i,i ≠ id.toNat → p i = q i) (H : Holds w (arr 3 (Value.int .i64) v (lstP p)::L)) :
    CT Try.prog 88 [v,.int .i64 id] w fun u w'=>u.oneCell' = true ∧ Holds w' (arr 3 (Value.int .i64) u (lstP q)::L):=by
  have:=gwithout_ct (k:=id.toNat) (by omega) hp hq h H
  rwa [Int.toNat_of_nonneg h0] at this
section
variable {w : World} {n : Nat} {t : Int} {es : Nat → Value × Value} {u : Value} {so so' si si' : St} {L : List HProp}
theorem big_takeE (h0 : 0 ≤ t) (h1 : t.toNat < n) (H : Holds w (big (endF es so si) (List.range n)::L)) : Holds w (arr 3 (Value.int .i64) (es t.toNat).1 (lstP (outP so t))::arr 3 (Value.int .i64) (es t.toNat).2 (lstP (inP si t))::bigBut (endF es so si) (List.range n) t.toNat::L):=by
  have:=endF_open.1 (big_take h1 H)
  rw [Int.toNat_of_nonneg h0] at this
  exact this
theorem big_putE (h0 : 0 ≤ t) (h1 : t.toNat < n) (H : Holds w (arr 3 (Value.int .i64) (es t.toNat).1 (lstP (outP so t))::arr 3 (Value.int .i64) (es t.toNat).2 (lstP (inP si t))::bigBut (endF es so si) (List.range n) t.toNat::L)) : Holds w (big (endF es so si) (List.range n)::L):=by
  refine big_put h1 (endF_open.2 ?_)
  rw [Int.toNat_of_nonneg h0]
  exact H
theorem upE_same {i : Nat} {p : Value × Value} : upE es i p i = p:=if_pos rfl
theorem upE_other {i k : Nat} {p : Value × Value} (h : k ≠ i) : upE es i p k = es k:=if_neg h
theorem big_out (h0 : 0 ≤ t) (h1 : t.toNat < n) (ho : ∀ v,v ≠ t → outI so' v = outI so v) (H : Holds w (arr 3 (Value.int .i64) u (lstP (outP so' t))::arr 3 (Value.int .i64) (es t.toNat).2 (lstP (inP si t))::bigBut (endF es so si) (List.range n) t.toNat::L)) :
    Holds w (big (endF (upE es t.toNat (u,(es t.toNat).2)) so' si) (List.range n)::L):=by
  refine big_putE h0 h1 ?_
  rw [upE_same,bigBut_congr (g:=endF es so si) (fun k _ hk=>by unfold endF; rw [upE_other hk,ho (k : Int) (by omega)])]
  exact H
theorem big_in (h0 : 0 ≤ t) (h1 : t.toNat < n) (ho : ∀ v,v ≠ t → inI si' v = inI si v) (H : Holds w (arr 3 (Value.int .i64) (es t.toNat).1 (lstP (outP so t))::arr 3 (Value.int .i64) u (lstP (inP si' t))::bigBut (endF es so si) (List.range n) t.toNat::L)) :
    Holds w (big (endF (upE es t.toNat ((es t.toNat).1,u)) so si') (List.range n)::L):=by
  refine big_putE h0 h1 ?_
  rw [upE_same,bigBut_congr (g:=endF es so si) (fun k _ hk=>by unfold endF; rw [upE_other hk,ho (k : Int) (by omega)])]
  exact H
end
theorem weight_ct {w : World} {a : Int} {L : List HProp} (H : Holds w L) : CT Try.prog 58 [.int .i64 a] w fun u w'=>u = .bool (decide (wOk a)) ∧ Holds w' L:=by
  refine CT.enter (N:=9) Try.func58 rfl rfl rfl rfl ?_
  refine W.seq (fun K0 hK0=>?_)
  refine W.region ?_
  refine O.ex (Ex.assign rfl) rfl ?_
  refine O.nil ?_
  refine hK0 _ _ _ ?_
  refine W.seq (fun K1 hK1=>?_)
  refine W.region ?_
  refine O.ex (Ex.move rfl) rfl ?_
  refine O.ex (Ex.geq rfl rfl) rfl ?_
  refine O.ex (Ex.move rfl) rfl ?_
  first|refine O.split_p (t:=5) rfl (fun h0=>?_) (fun h0=>?_)|refine O.split (t:=5) rfl (fun h0=>?_) (fun h0=>?_)
  · refine O.guard_t rfl rfl ?_
    refine O.ex (Ex.move rfl) rfl ?_
    refine O.guard_t rfl rfl ?_
    refine O.ex (Ex.leq rfl rfl) rfl ?_
    refine O.ex (Ex.pick_t rfl rfl) rfl ?_
    refine O.ex (Ex.assign rfl) rfl ?_
    refine O.nil ?_
    refine hK1 _ _ _ ?_
    refine W.ret ?_
    try dsimp only [thenQ,blockQ,retQ]
    first|refine ⟨_,⟨_,_,rfl,rfl,rfl⟩,?_⟩|(refine retD_mark ?_; intro w H; refine ⟨_,⟨_,_,rfl,rfl,rfl⟩,?_⟩)|(refine retD_mark2 ?_; intro w H; refine ⟨_,⟨_,_,rfl,rfl,rfl⟩,?_⟩)
    refine ⟨congrArg Value.bool ?_,Holds.to (by assumption)⟩
    first
    | exact decide_eq_decide.2 (by unfold wOk; omega)
    | exact (decide_eq_false (by unfold wOk; omega)).symm
  · refine O.guard_f rfl rfl rfl rfl ?_
    refine O.guard_f rfl rfl rfl rfl ?_
    refine O.ex (Ex.pick_f rfl rfl) rfl ?_
    refine O.ex (Ex.assign rfl) rfl ?_
    refine O.nil ?_
    refine hK1 _ _ _ ?_
    refine W.ret ?_
    try dsimp only [thenQ,blockQ,retQ]
    first|refine ⟨_,⟨_,_,rfl,rfl,rfl⟩,?_⟩|(refine retD_mark ?_; intro w H; refine ⟨_,⟨_,_,rfl,rfl,rfl⟩,?_⟩)|(refine retD_mark2 ?_; intro w H; refine ⟨_,⟨_,_,rfl,rfl,rfl⟩,?_⟩)
    refine ⟨congrArg Value.bool ?_,Holds.to (by assumption)⟩
    first
    | exact decide_eq_decide.2 (by unfold wOk; omega)
    | exact (decide_eq_false (by unfold wOk; omega)).symm
end Go.Proofs.Ytliofdfhimmjmaa
namespace Go.Proofs.Ytliofdfhimmjmaa
open Go.Rr Go Gr
set_option linter.unusedVariables false
theorem gzero : Try.zeroCells93 = cs 323 (gf noS (.slice none 0 0) 0 0):=by kernel_rfl
theorem gZ : ZeroIs Try.prog 93 (cval 323 (gf noS (.slice none 0 0) 0 0)):=fun w=>(Try.zeroValue93 w).trans (by rw [gzero]; rfl)
theorem atc_new {w : World} {ab n : Nat} {rest : List Value} {L : List HProp} (H : Holds w (pt ab (.cells ((List.replicate n ((Value.slice none 0 0,Value.slice none 0 0) : Value × Value)).flatMap (fun p=>[p.1,p.2]) ++ rest).toArray 96 (0,0))::L)) :
    Holds w (atc ab n (fun _=>(.slice none 0 0,.slice none 0 0))::L):=by
  have hl : ∀ n : Nat,((List.replicate n ((Value.slice none 0 0,Value.slice none 0 0) : Value × Value)).flatMap (fun p=>[p.1,p.2])) = List.replicate (2 * n) (Value.slice none 0 0):=by
    intro n
    induction n with
    | zero=>rfl
    | succ n ih=>rw [List.replicate_succ,List.flatMap_cons,ih,show 2 * (n + 1) = 2 * n + 1 + 1 by omega,List.replicate_succ,List.replicate_succ]; rfl
  rw [hl] at H
  refine atc_open.2 ⟨2 * n + rest.length,fun q=>(List.replicate (2 * n) (Value.slice none 0 0) ++ rest).getD q default,⟨by omega,fun i hi=>?_⟩,cel_pt.2 ?_⟩
  · constructor <;> (dsimp only; rw [List.getD_eq_getElem?_getD,List.getElem?_append_left (by simp; omega),List.getElem?_replicate,if_pos (by omega)]; rfl)
  · rw [← cs_ext (c:=(List.replicate (2 * n) (Value.slice none 0 0) ++ rest).toArray) (by simp) (fun i hi=>by
      rw [List.getElem?_toArray,List.getD_eq_getElem?_getD,List.getElem?_eq_getElem (by simp; omega)]; rfl)]
    exact H
theorem big_new {w : World} {n : Nat} {L : List HProp} (H : Holds w L) : Holds w (big (endF (fun _=>(.slice none 0 0,.slice none 0 0)) noS noS) (List.range n)::L):=by
  induction n with
  | zero=>exact big_nil.2 H
  | succ n ih =>
    refine big_succ (endF_open.2 ?_)
    have e1 : outI noS (n : Int) = []:=rfl
    have e2 : inI noS (n : Int) = []:=rfl
    rw [e1,e2]
    exact arr_nil (arr_nil ih)
set_option maxHeartbeats 1000000 in
theorem gnew_ct {w : World} {n most : Int} {L : List HProp} (H : Holds w L) :
    CT Try.prog 34 [.int .i64 n,.int .i64 most] w fun u w'=>(¬ ((1 ≤ n ∧ n ≤ 24) ∧ (1 ≤ most ∧ most ≤ 64)) ∧ u = .tuple #[.pointer none,.int .i64 1] ∧ Holds w' L) ∨ (((1 ≤ n ∧ n ≤ 24) ∧ (1 ≤ most ∧ most ≤ 64)) ∧ ∃ g,u = .tuple #[.pointer (some ⟨g,0,none⟩),.int .i64 0] ∧ Holds w' (Gh g n most noS::L)):=by
  refine CT.enter (N:=25) Try.func34 rfl rfl rfl rfl ?_
  refine W.seq (fun K0 hK0=>?_)
  refine W.region ?_
  refine O.ex (Ex.assign rfl) rfl ?_
  refine O.ex (Ex.assign rfl) rfl ?_
  refine O.nil ?_
  refine hK0 _ _ _ ?_
  refine W.seq (fun K1 hK1=>?_)
  refine W.seq (fun K2 hK2=>?_)
  refine W.region ?_
  refine O.ex (Ex.move rfl) rfl ?_
  refine O.ex (Ex.lss rfl rfl) rfl ?_
  refine O.ex (Ex.move rfl) rfl ?_
  first|refine O.split_p (t:=8) rfl (fun h0=>?_) (fun h0=>?_)|refine O.split (t:=8) rfl (fun h0=>?_) (fun h0=>?_)
  · refine O.guard_f rfl rfl rfl rfl ?_
    refine O.guard_f rfl rfl rfl rfl ?_
    refine O.ex (Ex.pick_t rfl rfl) rfl ?_
    refine O.ex (Ex.move rfl) rfl ?_
    refine O.guard_f rfl rfl rfl rfl ?_
    refine O.guard_f rfl rfl rfl rfl ?_
    refine O.ex (Ex.pick_t rfl rfl) rfl ?_
    refine O.ex (Ex.move rfl) rfl ?_
    refine O.guard_f rfl rfl rfl rfl ?_
    refine O.guard_f rfl rfl rfl rfl ?_
    refine O.ex (Ex.pick_t rfl rfl) rfl ?_
    refine O.nil ?_
    refine hK2 _ _ _ ?_
    refine W.cond_t rfl ?_
    refine W.seq (fun K3 hK3=>?_)
    refine W.region ?_
    refine O.ex (Ex.assign rfl) rfl ?_
    refine O.ex (Ex.assign rfl) rfl ?_
    refine O.nil ?_
    refine hK3 _ _ _ ?_
    refine W.ret ?_
    try dsimp only [thenQ,blockQ,retQ]
    first|refine ⟨_,⟨_,_,rfl,rfl,_,_,rfl,rfl,rfl⟩,?_⟩|(refine retD_mark ?_; intro w H; refine ⟨_,⟨_,_,rfl,rfl,_,_,rfl,rfl,rfl⟩,?_⟩)|(refine retD_mark2 ?_; intro w H; refine ⟨_,⟨_,_,rfl,rfl,_,_,rfl,rfl,rfl⟩,?_⟩)
    first
    | exact .inl ⟨fun h=>by omega,rfl,Holds.to (by assumption)⟩
    | (refine .inr ⟨by omega,b24,rfl,gh_open.2 ⟨ab,cap,fun _=>(.slice none 0 0,.slice none 0 0),ghO_open.2 ?_⟩⟩
       have H : Holds w (gcel b24 noS (avV ab cap n) 0 most::atc ab n.toNat (fun _=>(.slice none 0 0,.slice none 0 0))::L):=H.celTo (fun q hq=>by
         unfold gf
         by_cases e1 : q = 322
         · subst e1; rfl
         · rw [if_neg e1]
           by_cases e2 : q = 320
           · subst e2; rfl
           · rw [if_neg e2]
             by_cases e3 : q < 320
             · rw [if_pos e3,if_pos e3]
             · rw [if_neg e3,if_neg e3,if_neg e2,if_neg e2,if_pos (by omega),if_pos (by omega)])
       exact Holds.to (big_new H))
  · refine O.guard_t rfl rfl ?_
    refine O.ex (Ex.move rfl) rfl ?_
    refine O.guard_t rfl rfl ?_
    refine O.ex (Ex.gtr rfl rfl) rfl ?_
    refine O.ex (Ex.pick_f rfl rfl) rfl ?_
    refine O.ex (Ex.move rfl) rfl ?_
    first|refine O.split_p (t:=12) rfl (fun h1=>?_) (fun h1=>?_)|refine O.split (t:=12) rfl (fun h1=>?_) (fun h1=>?_)
    · refine O.guard_f rfl rfl rfl rfl ?_
      refine O.guard_f rfl rfl rfl rfl ?_
      refine O.ex (Ex.pick_t rfl rfl) rfl ?_
      refine O.ex (Ex.move rfl) rfl ?_
      refine O.guard_f rfl rfl rfl rfl ?_
      refine O.guard_f rfl rfl rfl rfl ?_
      refine O.ex (Ex.pick_t rfl rfl) rfl ?_
      refine O.nil ?_
      refine hK2 _ _ _ ?_
      refine W.cond_t rfl ?_
      refine W.seq (fun K4 hK4=>?_)
      refine W.region ?_
      refine O.ex (Ex.assign rfl) rfl ?_
      refine O.ex (Ex.assign rfl) rfl ?_
      refine O.nil ?_
      refine hK4 _ _ _ ?_
      refine W.ret ?_
      try dsimp only [thenQ,blockQ,retQ]
      first|refine ⟨_,⟨_,_,rfl,rfl,_,_,rfl,rfl,rfl⟩,?_⟩|(refine retD_mark ?_; intro w H; refine ⟨_,⟨_,_,rfl,rfl,_,_,rfl,rfl,rfl⟩,?_⟩)|(refine retD_mark2 ?_; intro w H; refine ⟨_,⟨_,_,rfl,rfl,_,_,rfl,rfl,rfl⟩,?_⟩)
      first
      | exact .inl ⟨fun h=>by omega,rfl,Holds.to (by assumption)⟩
      | (refine .inr ⟨by omega,b24,rfl,gh_open.2 ⟨ab,cap,fun _=>(.slice none 0 0,.slice none 0 0),ghO_open.2 ?_⟩⟩
         have H : Holds w (gcel b24 noS (avV ab cap n) 0 most::atc ab n.toNat (fun _=>(.slice none 0 0,.slice none 0 0))::L):=H.celTo (fun q hq=>by
           unfold gf
           by_cases e1 : q = 322
           · subst e1; rfl
           · rw [if_neg e1]
             by_cases e2 : q = 320
             · subst e2; rfl
             · rw [if_neg e2]
               by_cases e3 : q < 320
               · rw [if_pos e3,if_pos e3]
               · rw [if_neg e3,if_neg e3,if_neg e2,if_neg e2,if_pos (by omega),if_pos (by omega)])
         exact Holds.to (big_new H))
    · refine O.guard_t rfl rfl ?_
      refine O.ex (Ex.move rfl) rfl ?_
      refine O.guard_t rfl rfl ?_
      refine O.ex (Ex.lss rfl rfl) rfl ?_
      refine O.ex (Ex.pick_f rfl rfl) rfl ?_
      refine O.ex (Ex.move rfl) rfl ?_
      first|refine O.split_p (t:=16) rfl (fun h2=>?_) (fun h2=>?_)|refine O.split (t:=16) rfl (fun h2=>?_) (fun h2=>?_)
      · refine O.guard_f rfl rfl rfl rfl ?_
        refine O.guard_f rfl rfl rfl rfl ?_
        refine O.ex (Ex.pick_t rfl rfl) rfl ?_
        refine O.nil ?_
        refine hK2 _ _ _ ?_
        refine W.cond_t rfl ?_
        refine W.seq (fun K5 hK5=>?_)
        refine W.region ?_
        refine O.ex (Ex.assign rfl) rfl ?_
        refine O.ex (Ex.assign rfl) rfl ?_
        refine O.nil ?_
        refine hK5 _ _ _ ?_
        refine W.ret ?_
        try dsimp only [thenQ,blockQ,retQ]
        first|refine ⟨_,⟨_,_,rfl,rfl,_,_,rfl,rfl,rfl⟩,?_⟩|(refine retD_mark ?_; intro w H; refine ⟨_,⟨_,_,rfl,rfl,_,_,rfl,rfl,rfl⟩,?_⟩)|(refine retD_mark2 ?_; intro w H; refine ⟨_,⟨_,_,rfl,rfl,_,_,rfl,rfl,rfl⟩,?_⟩)
        first
        | exact .inl ⟨fun h=>by omega,rfl,Holds.to (by assumption)⟩
        | (refine .inr ⟨by omega,b24,rfl,gh_open.2 ⟨ab,cap,fun _=>(.slice none 0 0,.slice none 0 0),ghO_open.2 ?_⟩⟩
           have H : Holds w (gcel b24 noS (avV ab cap n) 0 most::atc ab n.toNat (fun _=>(.slice none 0 0,.slice none 0 0))::L):=H.celTo (fun q hq=>by
             unfold gf
             by_cases e1 : q = 322
             · subst e1; rfl
             · rw [if_neg e1]
               by_cases e2 : q = 320
               · subst e2; rfl
               · rw [if_neg e2]
                 by_cases e3 : q < 320
                 · rw [if_pos e3,if_pos e3]
                 · rw [if_neg e3,if_neg e3,if_neg e2,if_neg e2,if_pos (by omega),if_pos (by omega)])
           exact Holds.to (big_new H))
      · refine O.guard_t rfl rfl ?_
        refine O.ex (Ex.move rfl) rfl ?_
        refine O.guard_t rfl rfl ?_
        refine O.ex (Ex.gtr rfl rfl) rfl ?_
        refine O.ex (Ex.pick_f rfl rfl) rfl ?_
        refine O.nil ?_
        refine hK2 _ _ _ ?_
        first|refine W.cond_p rfl (fun h3=>?_) (fun h3=>?_)|refine W.cond_b rfl (fun h3=>?_) (fun h3=>?_)
        · refine W.seq (fun K6 hK6=>?_)
          refine W.region ?_
          refine O.ex (Ex.assign rfl) rfl ?_
          refine O.ex (Ex.assign rfl) rfl ?_
          refine O.nil ?_
          refine hK6 _ _ _ ?_
          refine W.ret ?_
          try dsimp only [thenQ,blockQ,retQ]
          first|refine ⟨_,⟨_,_,rfl,rfl,_,_,rfl,rfl,rfl⟩,?_⟩|(refine retD_mark ?_; intro w H; refine ⟨_,⟨_,_,rfl,rfl,_,_,rfl,rfl,rfl⟩,?_⟩)|(refine retD_mark2 ?_; intro w H; refine ⟨_,⟨_,_,rfl,rfl,_,_,rfl,rfl,rfl⟩,?_⟩)
          first
          | exact .inl ⟨fun h=>by omega,rfl,Holds.to (by assumption)⟩
          | (refine .inr ⟨by omega,b24,rfl,gh_open.2 ⟨ab,cap,fun _=>(.slice none 0 0,.slice none 0 0),ghO_open.2 ?_⟩⟩
             have H : Holds w (gcel b24 noS (avV ab cap n) 0 most::atc ab n.toNat (fun _=>(.slice none 0 0,.slice none 0 0))::L):=H.celTo (fun q hq=>by
               unfold gf
               by_cases e1 : q = 322
               · subst e1; rfl
               · rw [if_neg e1]
                 by_cases e2 : q = 320
                 · subst e2; rfl
                 · rw [if_neg e2]
                   by_cases e3 : q < 320
                   · rw [if_pos e3,if_pos e3]
                   · rw [if_neg e3,if_neg e3,if_neg e2,if_neg e2,if_pos (by omega),if_pos (by omega)])
             exact Holds.to (big_new H))
        · refine W.skip ?_
          refine hK1 _ _ _ ?_
          refine W.seq (fun K7 hK7=>?_)
          refine W.region ?_
          refine O.ex (Ex.move rfl) rfl ?_
          refine O.makeN ((Value.slice none 0 0,Value.slice none 0 0) : Value × Value) (e:=fun p=>[p.1,p.2]) (bt:=48) Try.runUnderlying88 Try.sizeOf96 Try.zeroValue96 Try.typeInfo96 rfl rfl rfl rfl (by decide) (fun s21 w hs21 H=>?_)
          obtain ⟨ab,cap,rest,rfl,hcap,hcl,H⟩:=arrN_some H (by rw [List.length_replicate]; omega)
          rw [List.length_replicate]
          have H:=atc_new H
          refine O.ex (Ex.move rfl) rfl ?_
          refine O.ex (Ex.buildC2 (i1:=1) (i2:=3) (o1:=320) (o2:=322) Try.runUnderlying93 gZ rfl (fun w=>by simp [Try.sizeOf3,Try.sizeOf91,Try.sizeOf88]; rfl) rfl rfl (by decide) (by decide) rfl rfl rfl rfl) rfl ?_
          refine O.boxC rfl (fun b24 w H=>?_)
          refine O.ex (Ex.assign rfl) rfl ?_
          refine O.ex (Ex.assign rfl) rfl ?_
          refine O.nil ?_
          refine hK7 _ _ _ ?_
          refine W.ret ?_
          try dsimp only [thenQ,blockQ,retQ]
          first|refine ⟨_,⟨_,_,rfl,rfl,_,_,rfl,rfl,rfl⟩,?_⟩|(refine retD_mark ?_; intro w H; refine ⟨_,⟨_,_,rfl,rfl,_,_,rfl,rfl,rfl⟩,?_⟩)|(refine retD_mark2 ?_; intro w H; refine ⟨_,⟨_,_,rfl,rfl,_,_,rfl,rfl,rfl⟩,?_⟩)
          first
          | exact .inl ⟨fun h=>by omega,rfl,Holds.to (by assumption)⟩
          | (refine .inr ⟨by omega,b24,rfl,gh_open.2 ⟨ab,cap,fun _=>(.slice none 0 0,.slice none 0 0),ghO_open.2 ?_⟩⟩
             have H : Holds w (gcel b24 noS (avV ab cap n) 0 most::atc ab n.toNat (fun _=>(.slice none 0 0,.slice none 0 0))::L):=H.celTo (fun q hq=>by
               unfold gf
               by_cases e1 : q = 322
               · subst e1; rfl
               · rw [if_neg e1]
                 by_cases e2 : q = 320
                 · subst e2; rfl
                 · rw [if_neg e2]
                   by_cases e3 : q < 320
                   · rw [if_pos e3,if_pos e3]
                   · rw [if_neg e3,if_neg e3,if_neg e2,if_neg e2,if_pos (by omega),if_pos (by omega)])
             exact Holds.to (big_new H))
theorem lists_ins {s : St} {i : Nat} {a : Arc} (hf : (s i).tk = false) : (∀ v,v ≠ a.t → outI (upS s i ⟨a,true⟩) v = outI s v) ∧ (∀ v,v ≠ a.h → inI (upS s i ⟨a,true⟩) v = inI s v) :=
  ⟨fun v hv=>outI_other (fun h=>by rw [hf] at h; cases h) (fun _ e=>hv e.symm),fun v hv=>inI_other (fun h=>by rw [hf] at h; cases h) (fun _ e=>hv e.symm)⟩
set_option maxHeartbeats 4000000 in
theorem ginsert_ct {w : World} {g : Nat} {n most id : Int} {s : St} {a : Arc} {L : List HProp} (hg : GOk n most s) (H : Holds w (Gh g n most s::L)) :
    CT Try.prog 35 [.pointer (some ⟨g,0,none⟩),.int .i64 id,a.val] w fun u w'=>u = .int .i64 (insC n most s id a) ∧ Holds w' (Gh g n most (insS n most s id a)::L):=by
  have n1:=hg.n1
  have n2:=hg.n2
  obtain ⟨ab,cap,es,H⟩:=gh_open.1 H
  have H:=ghO_open.1 H
  obtain ⟨c0,c1⟩:=cnt_rng s
  refine CT.enter (N:=101) Try.func35 rfl rfl rfl rfl ?_
  refine W.seq (fun K0 hK0=>?_)
  refine W.region ?_
  refine O.boxP rfl (fun b5 w H=>?_)
  refine O.ex (Ex.assign rfl) rfl ?_
  refine O.nil ?_
  refine hK0 _ _ _ ?_
  refine W.seq (fun K1 hK1=>?_)
  refine W.block ?_
  refine W.seq (fun K2 hK2=>?_)
  refine W.region ?_
  refine O.ex (Ex.move rfl) rfl ?_
  refine O.callF Try.call56 rfl rfl (CT.mono (place_ct (Holds.to (by assumption))) ?_)
  rintro _ w ⟨rfl,H⟩
  refine O.ex (by first|exact Ex.notD rfl|exact Ex.not rfl) rfl ?_
  refine O.ex (Ex.move rfl) rfl ?_
  first|refine O.split_p (t:=11) rfl (fun h0=>?_) (fun h0=>?_)|refine O.split (t:=11) rfl (fun h0=>?_) (fun h0=>?_)
  · refine O.guard_f rfl rfl rfl rfl ?_
    refine O.guard_f rfl rfl rfl rfl ?_
    refine O.guard_f rfl rfl rfl rfl ?_
    refine O.guard_f rfl rfl rfl rfl ?_
    refine O.guard_f rfl rfl rfl rfl ?_
    refine O.ex (Ex.pick_t rfl rfl) rfl ?_
    refine O.ex (Ex.move rfl) rfl ?_
    refine O.guard_f rfl rfl rfl rfl ?_
    refine O.guard_f rfl rfl rfl rfl ?_
    refine O.guard_f rfl rfl rfl rfl ?_
    refine O.guard_f rfl rfl rfl rfl ?_
    refine O.guard_f rfl rfl rfl rfl ?_
    refine O.ex (Ex.pick_t rfl rfl) rfl ?_
    refine O.ex (Ex.move rfl) rfl ?_
    refine O.guard_f rfl rfl rfl rfl ?_
    refine O.guard_f rfl rfl rfl rfl ?_
    refine O.guard_f rfl rfl rfl rfl ?_
    refine O.guard_f rfl rfl rfl rfl ?_
    refine O.ex (Ex.pick_t rfl rfl) rfl ?_
    refine O.ex (Ex.assign rfl) rfl ?_
    refine O.nil ?_
    refine hK2 _ _ _ ?_
    refine W.cond_t rfl ?_
    refine W.seq (fun K3 hK3=>?_)
    refine W.region ?_
    refine O.ex (Ex.assign rfl) rfl ?_
    refine O.nil ?_
    refine hK3 _ _ _ ?_
    refine W.ret ?_
    try dsimp only [thenQ,blockQ,retQ]
    first|refine ⟨_,⟨_,_,rfl,rfl,rfl⟩,?_⟩|(refine retD_mark ?_; intro w H; refine ⟨_,⟨_,_,rfl,rfl,rfl⟩,?_⟩)|(refine retD_mark2 ?_; intro w H; refine ⟨_,⟨_,_,rfl,rfl,rfl⟩,?_⟩)
    first
    | (rw [hin,hS]
       refine ⟨rfl,gh_open.2 ⟨ab,cap,upE es1 a.h.toNat ((es1 a.h.toNat).1,u2),ghO_open.2 ?_⟩⟩
       rw [cnt_ins (by omega) hf rfl]
       exact Holds.to (by assumption))
    | (have hc : insC n most s id a = 1:=if_pos (fun hh=>by first|exact h0 hh.1|exact h1 hh.2.1.1|exact h2 hh.2.1.2|exact h3 hh.2.2)
       have hS : insS n most s id a = s:=if_neg (by rw [hc]; decide)
       rw [hc,hS]
       exact ⟨rfl,gh_open.2 ⟨ab,cap,es,ghO_open.2 (Holds.to (by assumption))⟩⟩)
    | (have hc : insC n most s id a = 4:=by unfold insC; rw [if_neg (fun hh=>hh ⟨hpl,hok⟩),if_pos h4]
       have hS : insS n most s id a = s:=if_neg (by rw [hc]; decide)
       rw [hc,hS]
       exact ⟨rfl,gh_open.2 ⟨ab,cap,es,ghO_open.2 (Holds.to (by assumption))⟩⟩)
    | (have hc : insC n most s id a = 2:=by unfold insC; rw [if_neg (fun hh=>hh ⟨hpl,hok⟩),if_neg (by simpa using h4),if_pos h5]
       have hS : insS n most s id a = s:=if_neg (by rw [hc]; decide)
       rw [hc,hS]
       exact ⟨rfl,gh_open.2 ⟨ab,cap,es,ghO_open.2 (Holds.to (by assumption))⟩⟩)
  · refine O.guard_t rfl rfl ?_
    refine O.ex (Ex.move rfl) rfl ?_
    refine O.guard_t rfl rfl ?_
    refine O.ex (by first|exact Ex.field0 fld42_0 rfl|exact Ex.field fld42_0 rfl|exact Ex.fieldS fld42_0 rfl) rfl ?_
    refine O.guard_t rfl rfl ?_
    refine O.ex (by first|exact Ex.loadG1 Try.isAgg3 rfl|exact Ex.loadG2 Try.isAgg3 rfl|exact Ex.loadAt Try.isAgg3 rfl|exact Ex.loadCn Try.isAgg3 rfl|exact Ex.loadMo Try.isAgg3 rfl|exact Ex.loadE0 Try.isAgg3 rfl|exact Ex.loadE1 Try.isAgg3 rfl|exact Ex.loadP Try.isAgg3 rfl|exact Ex.loadR Try.isAgg3 rfl|exact Ex.loadIn1 Try.isAgg3 rfl (Holds.to (by assumption))) rfl ?_
    refine O.guard_t rfl rfl ?_
    refine O.callF Try.call57 rfl rfl (CT.mono (gvertexO_ct (g:=g) (s:=s) (ab:=ab) (cap:=cap) (n:=n) (k:=cnt s) (most:=most) (by omega) (Holds.to (by assumption))) ?_)
    rintro _ w ⟨rfl,H⟩
    refine O.guard_t rfl rfl ?_
    refine O.ex (by first|exact Ex.notD rfl|exact Ex.not rfl) rfl ?_
    refine O.ex (Ex.pick_f rfl rfl) rfl ?_
    refine O.ex (Ex.move rfl) rfl ?_
    first|refine O.split_p (t:=18) rfl (fun h1=>?_) (fun h1=>?_)|refine O.split (t:=18) rfl (fun h1=>?_) (fun h1=>?_)
    · refine O.guard_f rfl rfl rfl rfl ?_
      refine O.guard_f rfl rfl rfl rfl ?_
      refine O.guard_f rfl rfl rfl rfl ?_
      refine O.guard_f rfl rfl rfl rfl ?_
      refine O.guard_f rfl rfl rfl rfl ?_
      refine O.ex (Ex.pick_t rfl rfl) rfl ?_
      refine O.ex (Ex.move rfl) rfl ?_
      refine O.guard_f rfl rfl rfl rfl ?_
      refine O.guard_f rfl rfl rfl rfl ?_
      refine O.guard_f rfl rfl rfl rfl ?_
      refine O.guard_f rfl rfl rfl rfl ?_
      refine O.ex (Ex.pick_t rfl rfl) rfl ?_
      refine O.ex (Ex.assign rfl) rfl ?_
      refine O.nil ?_
      refine hK2 _ _ _ ?_
      refine W.cond_t rfl ?_
      refine W.seq (fun K4 hK4=>?_)
      refine W.region ?_
      refine O.ex (Ex.assign rfl) rfl ?_
      refine O.nil ?_
      refine hK4 _ _ _ ?_
      refine W.ret ?_
      try dsimp only [thenQ,blockQ,retQ]
      first|refine ⟨_,⟨_,_,rfl,rfl,rfl⟩,?_⟩|(refine retD_mark ?_; intro w H; refine ⟨_,⟨_,_,rfl,rfl,rfl⟩,?_⟩)|(refine retD_mark2 ?_; intro w H; refine ⟨_,⟨_,_,rfl,rfl,rfl⟩,?_⟩)
      first
      | (rw [hin,hS]
         refine ⟨rfl,gh_open.2 ⟨ab,cap,upE es1 a.h.toNat ((es1 a.h.toNat).1,u2),ghO_open.2 ?_⟩⟩
         rw [cnt_ins (by omega) hf rfl]
         exact Holds.to (by assumption))
      | (have hc : insC n most s id a = 1:=if_pos (fun hh=>by first|exact h0 hh.1|exact h1 hh.2.1.1|exact h2 hh.2.1.2|exact h3 hh.2.2)
         have hS : insS n most s id a = s:=if_neg (by rw [hc]; decide)
         rw [hc,hS]
         exact ⟨rfl,gh_open.2 ⟨ab,cap,es,ghO_open.2 (Holds.to (by assumption))⟩⟩)
      | (have hc : insC n most s id a = 4:=by unfold insC; rw [if_neg (fun hh=>hh ⟨hpl,hok⟩),if_pos h4]
         have hS : insS n most s id a = s:=if_neg (by rw [hc]; decide)
         rw [hc,hS]
         exact ⟨rfl,gh_open.2 ⟨ab,cap,es,ghO_open.2 (Holds.to (by assumption))⟩⟩)
      | (have hc : insC n most s id a = 2:=by unfold insC; rw [if_neg (fun hh=>hh ⟨hpl,hok⟩),if_neg (by simpa using h4),if_pos h5]
         have hS : insS n most s id a = s:=if_neg (by rw [hc]; decide)
         rw [hc,hS]
         exact ⟨rfl,gh_open.2 ⟨ab,cap,es,ghO_open.2 (Holds.to (by assumption))⟩⟩)
    · refine O.guard_t rfl rfl ?_
      refine O.ex (Ex.move rfl) rfl ?_
      refine O.guard_t rfl rfl ?_
      refine O.ex (by first|exact Ex.field0 fld42_1 rfl|exact Ex.field fld42_1 rfl|exact Ex.fieldS fld42_1 rfl) rfl ?_
      refine O.guard_t rfl rfl ?_
      refine O.ex (by first|exact Ex.loadG1 Try.isAgg3 rfl|exact Ex.loadG2 Try.isAgg3 rfl|exact Ex.loadAt Try.isAgg3 rfl|exact Ex.loadCn Try.isAgg3 rfl|exact Ex.loadMo Try.isAgg3 rfl|exact Ex.loadE0 Try.isAgg3 rfl|exact Ex.loadE1 Try.isAgg3 rfl|exact Ex.loadP Try.isAgg3 rfl|exact Ex.loadR Try.isAgg3 rfl|exact Ex.loadIn1 Try.isAgg3 rfl (Holds.to (by assumption))) rfl ?_
      refine O.guard_t rfl rfl ?_
      refine O.callF Try.call57 rfl rfl (CT.mono (gvertexO_ct (g:=g) (s:=s) (ab:=ab) (cap:=cap) (n:=n) (k:=cnt s) (most:=most) (by omega) (Holds.to (by assumption))) ?_)
      rintro _ w ⟨rfl,H⟩
      refine O.guard_t rfl rfl ?_
      refine O.ex (by first|exact Ex.notD rfl|exact Ex.not rfl) rfl ?_
      refine O.ex (Ex.pick_f rfl rfl) rfl ?_
      refine O.ex (Ex.move rfl) rfl ?_
      first|refine O.split_p (t:=25) rfl (fun h2=>?_) (fun h2=>?_)|refine O.split (t:=25) rfl (fun h2=>?_) (fun h2=>?_)
      · refine O.guard_f rfl rfl rfl rfl ?_
        refine O.guard_f rfl rfl rfl rfl ?_
        refine O.guard_f rfl rfl rfl rfl ?_
        refine O.guard_f rfl rfl rfl rfl ?_
        refine O.ex (Ex.pick_t rfl rfl) rfl ?_
        refine O.ex (Ex.assign rfl) rfl ?_
        refine O.nil ?_
        refine hK2 _ _ _ ?_
        refine W.cond_t rfl ?_
        refine W.seq (fun K5 hK5=>?_)
        refine W.region ?_
        refine O.ex (Ex.assign rfl) rfl ?_
        refine O.nil ?_
        refine hK5 _ _ _ ?_
        refine W.ret ?_
        try dsimp only [thenQ,blockQ,retQ]
        first|refine ⟨_,⟨_,_,rfl,rfl,rfl⟩,?_⟩|(refine retD_mark ?_; intro w H; refine ⟨_,⟨_,_,rfl,rfl,rfl⟩,?_⟩)|(refine retD_mark2 ?_; intro w H; refine ⟨_,⟨_,_,rfl,rfl,rfl⟩,?_⟩)
        first
        | (rw [hin,hS]
           refine ⟨rfl,gh_open.2 ⟨ab,cap,upE es1 a.h.toNat ((es1 a.h.toNat).1,u2),ghO_open.2 ?_⟩⟩
           rw [cnt_ins (by omega) hf rfl]
           exact Holds.to (by assumption))
        | (have hc : insC n most s id a = 1:=if_pos (fun hh=>by first|exact h0 hh.1|exact h1 hh.2.1.1|exact h2 hh.2.1.2|exact h3 hh.2.2)
           have hS : insS n most s id a = s:=if_neg (by rw [hc]; decide)
           rw [hc,hS]
           exact ⟨rfl,gh_open.2 ⟨ab,cap,es,ghO_open.2 (Holds.to (by assumption))⟩⟩)
        | (have hc : insC n most s id a = 4:=by unfold insC; rw [if_neg (fun hh=>hh ⟨hpl,hok⟩),if_pos h4]
           have hS : insS n most s id a = s:=if_neg (by rw [hc]; decide)
           rw [hc,hS]
           exact ⟨rfl,gh_open.2 ⟨ab,cap,es,ghO_open.2 (Holds.to (by assumption))⟩⟩)
        | (have hc : insC n most s id a = 2:=by unfold insC; rw [if_neg (fun hh=>hh ⟨hpl,hok⟩),if_neg (by simpa using h4),if_pos h5]
           have hS : insS n most s id a = s:=if_neg (by rw [hc]; decide)
           rw [hc,hS]
           exact ⟨rfl,gh_open.2 ⟨ab,cap,es,ghO_open.2 (Holds.to (by assumption))⟩⟩)
      · refine O.guard_t rfl rfl ?_
        refine O.ex (by first|exact Ex.field0 fld42_2 rfl|exact Ex.field fld42_2 rfl|exact Ex.fieldS fld42_2 rfl) rfl ?_
        refine O.guard_t rfl rfl ?_
        refine O.ex (by first|exact Ex.loadG1 Try.isAgg3 rfl|exact Ex.loadG2 Try.isAgg3 rfl|exact Ex.loadAt Try.isAgg3 rfl|exact Ex.loadCn Try.isAgg3 rfl|exact Ex.loadMo Try.isAgg3 rfl|exact Ex.loadE0 Try.isAgg3 rfl|exact Ex.loadE1 Try.isAgg3 rfl|exact Ex.loadP Try.isAgg3 rfl|exact Ex.loadR Try.isAgg3 rfl|exact Ex.loadIn1 Try.isAgg3 rfl (Holds.to (by assumption))) rfl ?_
        refine O.guard_t rfl rfl ?_
        refine O.callF Try.call58 rfl rfl (CT.mono (weight_ct (Holds.to (by assumption))) ?_)
        rintro _ w ⟨rfl,H⟩
        refine O.guard_t rfl rfl ?_
        refine O.ex (by first|exact Ex.notD rfl|exact Ex.not rfl) rfl ?_
        refine O.ex (Ex.pick_f rfl rfl) rfl ?_
        refine O.ex (Ex.assign rfl) rfl ?_
        refine O.nil ?_
        refine hK2 _ _ _ ?_
        first|refine W.cond_p rfl (fun h3=>?_) (fun h3=>?_)|refine W.cond_b rfl (fun h3=>?_) (fun h3=>?_)
        · refine W.seq (fun K6 hK6=>?_)
          refine W.region ?_
          refine O.ex (Ex.assign rfl) rfl ?_
          refine O.nil ?_
          refine hK6 _ _ _ ?_
          refine W.ret ?_
          try dsimp only [thenQ,blockQ,retQ]
          first|refine ⟨_,⟨_,_,rfl,rfl,rfl⟩,?_⟩|(refine retD_mark ?_; intro w H; refine ⟨_,⟨_,_,rfl,rfl,rfl⟩,?_⟩)|(refine retD_mark2 ?_; intro w H; refine ⟨_,⟨_,_,rfl,rfl,rfl⟩,?_⟩)
          first
          | (rw [hin,hS]
             refine ⟨rfl,gh_open.2 ⟨ab,cap,upE es1 a.h.toNat ((es1 a.h.toNat).1,u2),ghO_open.2 ?_⟩⟩
             rw [cnt_ins (by omega) hf rfl]
             exact Holds.to (by assumption))
          | (have hc : insC n most s id a = 1:=if_pos (fun hh=>by first|exact h0 hh.1|exact h1 hh.2.1.1|exact h2 hh.2.1.2|exact h3 hh.2.2)
             have hS : insS n most s id a = s:=if_neg (by rw [hc]; decide)
             rw [hc,hS]
             exact ⟨rfl,gh_open.2 ⟨ab,cap,es,ghO_open.2 (Holds.to (by assumption))⟩⟩)
          | (have hc : insC n most s id a = 4:=by unfold insC; rw [if_neg (fun hh=>hh ⟨hpl,hok⟩),if_pos h4]
             have hS : insS n most s id a = s:=if_neg (by rw [hc]; decide)
             rw [hc,hS]
             exact ⟨rfl,gh_open.2 ⟨ab,cap,es,ghO_open.2 (Holds.to (by assumption))⟩⟩)
          | (have hc : insC n most s id a = 2:=by unfold insC; rw [if_neg (fun hh=>hh ⟨hpl,hok⟩),if_neg (by simpa using h4),if_pos h5]
             have hS : insS n most s id a = s:=if_neg (by rw [hc]; decide)
             rw [hc,hS]
             exact ⟨rfl,gh_open.2 ⟨ab,cap,es,ghO_open.2 (Holds.to (by assumption))⟩⟩)
        · refine W.seq (fun K7 hK7=>?_)
          refine W.region ?_
          have hpl : pl id:=Decidable.not_not.1 h0
          have hok : okA n a:=⟨⟨Decidable.not_not.1 h1,Decidable.not_not.1 h2⟩,Decidable.not_not.1 h3⟩
          have p0:=hpl.1
          have p1:=hpl.2
          refine O.ex (Ex.move rfl) rfl ?_
          refine O.ex (Ex.move rfl) rfl ?_
          refine O.ex (by first|exact Ex.nilPtr rfl|exact Ex.nilFunc rfl|exact Ex.nilYield rfl) rfl ?_
          refine O.ex (by first|exact Ex.field0 fld93_0 rfl|exact Ex.field fld93_0 rfl|exact Ex.fieldS fld93_0 rfl) rfl ?_
          refine O.ex (Ex.idxArr Try.runUnderlying91 Try.sizeOf90 rfl rfl) rfl ?_
          refine O.ex (by first|exact Ex.field0 fld90_1 rfl|exact Ex.field fld90_1 rfl|exact Ex.fieldS fld90_1 rfl) rfl ?_
          refine O.ex (by first|exact Ex.loadG1 Try.isAgg4 rfl|exact Ex.loadG2 Try.isAgg4 rfl|exact Ex.loadAt Try.isAgg4 rfl|exact Ex.loadCn Try.isAgg4 rfl|exact Ex.loadMo Try.isAgg4 rfl|exact Ex.loadE0 Try.isAgg4 rfl|exact Ex.loadE1 Try.isAgg4 rfl|exact Ex.loadP Try.isAgg4 rfl|exact Ex.loadR Try.isAgg4 rfl|exact Ex.loadIn1 Try.isAgg4 rfl (Holds.to (by assumption))) rfl ?_
          refine O.ex (Ex.assign rfl) rfl ?_
          refine O.nil ?_
          refine hK7 _ _ _ ?_
          first|refine W.cond_p rfl (fun h4=>?_) (fun h4=>?_)|refine W.cond_b rfl (fun h4=>?_) (fun h4=>?_)
          · refine W.seq (fun K8 hK8=>?_)
            refine W.region ?_
            refine O.ex (Ex.assign rfl) rfl ?_
            refine O.nil ?_
            refine hK8 _ _ _ ?_
            refine W.ret ?_
            try dsimp only [thenQ,blockQ,retQ]
            first|refine ⟨_,⟨_,_,rfl,rfl,rfl⟩,?_⟩|(refine retD_mark ?_; intro w H; refine ⟨_,⟨_,_,rfl,rfl,rfl⟩,?_⟩)|(refine retD_mark2 ?_; intro w H; refine ⟨_,⟨_,_,rfl,rfl,rfl⟩,?_⟩)
            first
            | (rw [hin,hS]
               refine ⟨rfl,gh_open.2 ⟨ab,cap,upE es1 a.h.toNat ((es1 a.h.toNat).1,u2),ghO_open.2 ?_⟩⟩
               rw [cnt_ins (by omega) hf rfl]
               exact Holds.to (by assumption))
            | (have hc : insC n most s id a = 1:=if_pos (fun hh=>by first|exact h0 hh.1|exact h1 hh.2.1.1|exact h2 hh.2.1.2|exact h3 hh.2.2)
               have hS : insS n most s id a = s:=if_neg (by rw [hc]; decide)
               rw [hc,hS]
               exact ⟨rfl,gh_open.2 ⟨ab,cap,es,ghO_open.2 (Holds.to (by assumption))⟩⟩)
            | (have hc : insC n most s id a = 4:=by unfold insC; rw [if_neg (fun hh=>hh ⟨hpl,hok⟩),if_pos h4]
               have hS : insS n most s id a = s:=if_neg (by rw [hc]; decide)
               rw [hc,hS]
               exact ⟨rfl,gh_open.2 ⟨ab,cap,es,ghO_open.2 (Holds.to (by assumption))⟩⟩)
            | (have hc : insC n most s id a = 2:=by unfold insC; rw [if_neg (fun hh=>hh ⟨hpl,hok⟩),if_neg (by simpa using h4),if_pos h5]
               have hS : insS n most s id a = s:=if_neg (by rw [hc]; decide)
               rw [hc,hS]
               exact ⟨rfl,gh_open.2 ⟨ab,cap,es,ghO_open.2 (Holds.to (by assumption))⟩⟩)
          · refine W.seq (fun K9 hK9=>?_)
            refine W.drawTo _ (.take 0 (.take 1 (.take 2 (.take 3 (.take 4 (.take 5 (.take 6 (.take 7 (.take 8 (.take 9 .nil)))))))))) (mixed) (fun _ _ _ _ h=>h) (by assumption) (PP.refl _) (by decide +kernel) (fun w H=>?_)
            refine OQ.ex rfl (fun w H=>(Ex.move rfl)) rfl ?_
            refine OQ.ex rfl (fun w H=>(by first|exact Ex.nilPtr rfl|exact Ex.nilFunc rfl|exact Ex.nilYield rfl)) rfl ?_
            refine OQ.ex rfl (fun w H=>(by first|exact Ex.field0 fld93_2 rfl|exact Ex.field fld93_2 rfl|exact Ex.fieldS fld93_2 rfl)) rfl ?_
            refine OQ.ex rfl (fun w H=>(by first|exact Ex.loadG1 Try.isAgg3 rfl|exact Ex.loadG2 Try.isAgg3 rfl|exact Ex.loadAt Try.isAgg3 rfl|exact Ex.loadCn Try.isAgg3 rfl|exact Ex.loadMo Try.isAgg3 rfl|exact Ex.loadE0 Try.isAgg3 rfl|exact Ex.loadE1 Try.isAgg3 rfl|exact Ex.loadP Try.isAgg3 rfl|exact Ex.loadR Try.isAgg3 rfl|exact Ex.loadIn1 Try.isAgg3 rfl (Holds.to (by assumption)))) rfl ?_
            refine OQ.ex rfl (fun w H=>(Ex.move rfl)) rfl ?_
            refine OQ.ex rfl (fun w H=>(by first|exact Ex.nilPtr rfl|exact Ex.nilFunc rfl|exact Ex.nilYield rfl)) rfl ?_
            refine OQ.ex rfl (fun w H=>(by first|exact Ex.field0 fld93_3 rfl|exact Ex.field fld93_3 rfl|exact Ex.fieldS fld93_3 rfl)) rfl ?_
            refine OQ.ex rfl (fun w H=>(by first|exact Ex.loadG1 Try.isAgg3 rfl|exact Ex.loadG2 Try.isAgg3 rfl|exact Ex.loadAt Try.isAgg3 rfl|exact Ex.loadCn Try.isAgg3 rfl|exact Ex.loadMo Try.isAgg3 rfl|exact Ex.loadE0 Try.isAgg3 rfl|exact Ex.loadE1 Try.isAgg3 rfl|exact Ex.loadP Try.isAgg3 rfl|exact Ex.loadR Try.isAgg3 rfl|exact Ex.loadIn1 Try.isAgg3 rfl (Holds.to (by assumption)))) rfl ?_
            refine OQ.ex rfl (fun w H=>(Ex.geq rfl rfl)) rfl ?_
            refine OQ.ex rfl (fun w H=>(Ex.assign rfl)) rfl ?_
            refine OQ.done ?_
            refine hK9 _ _ _ ?_
            first|refine W.cond_p rfl (fun h5=>?_) (fun h5=>?_)|refine W.cond_b rfl (fun h5=>?_) (fun h5=>?_)
            · refine W.seq (fun K10 hK10=>?_)
              refine W.region ?_
              refine O.ex (Ex.assign rfl) rfl ?_
              refine O.nil ?_
              refine hK10 _ _ _ ?_
              refine W.ret ?_
              try dsimp only [thenQ,blockQ,retQ]
              first|refine ⟨_,⟨_,_,rfl,rfl,rfl⟩,?_⟩|(refine retD_mark ?_; intro w H; refine ⟨_,⟨_,_,rfl,rfl,rfl⟩,?_⟩)|(refine retD_mark2 ?_; intro w H; refine ⟨_,⟨_,_,rfl,rfl,rfl⟩,?_⟩)
              first
              | (rw [hin,hS]
                 refine ⟨rfl,gh_open.2 ⟨ab,cap,upE es1 a.h.toNat ((es1 a.h.toNat).1,u2),ghO_open.2 ?_⟩⟩
                 rw [cnt_ins (by omega) hf rfl]
                 exact Holds.to (by assumption))
              | (have hc : insC n most s id a = 1:=if_pos (fun hh=>by first|exact h0 hh.1|exact h1 hh.2.1.1|exact h2 hh.2.1.2|exact h3 hh.2.2)
                 have hS : insS n most s id a = s:=if_neg (by rw [hc]; decide)
                 rw [hc,hS]
                 exact ⟨rfl,gh_open.2 ⟨ab,cap,es,ghO_open.2 (Holds.to (by assumption))⟩⟩)
              | (have hc : insC n most s id a = 4:=by unfold insC; rw [if_neg (fun hh=>hh ⟨hpl,hok⟩),if_pos h4]
                 have hS : insS n most s id a = s:=if_neg (by rw [hc]; decide)
                 rw [hc,hS]
                 exact ⟨rfl,gh_open.2 ⟨ab,cap,es,ghO_open.2 (Holds.to (by assumption))⟩⟩)
              | (have hc : insC n most s id a = 2:=by unfold insC; rw [if_neg (fun hh=>hh ⟨hpl,hok⟩),if_neg (by simpa using h4),if_pos h5]
                 have hS : insS n most s id a = s:=if_neg (by rw [hc]; decide)
                 rw [hc,hS]
                 exact ⟨rfl,gh_open.2 ⟨ab,cap,es,ghO_open.2 (Holds.to (by assumption))⟩⟩)
            · refine W.skip ?_
              refine hK1 _ _ _ ?_
              refine W.seq (fun K11 hK11=>?_)
              have hin : insC n most s id a = 0:=insC_zero.2 ⟨⟨hpl,hok⟩,by simpa using h4,by omega⟩
              have hS : insS n most s id a = upS s id.toNat ⟨a,true⟩:=if_pos hin
              have hf : (s id.toNat).tk = false:=by simpa using h4
              obtain ⟨lo1,lo2⟩:=lists_ins (a:=a) hf
              have t0:=hok.1.1.1
              have t1:=hok.1.1.2
              have t2 : a.t.toNat < n.toNat:=by omega
              have k0:=hok.1.2.1
              have k1:=hok.1.2.2
              have k2 : a.h.toNat < n.toNat:=by omega
              refine W.drawTo (pt b5 _::[]) (.take 0 (.take 1 (.take 2 (.take 3 (.take 4 (.take 5 (.take 6 (.one 7 .nil)))))))) (mixed) (fun _ _ _ _ h=>h) (by assumption) PP.auto (by decide +kernel) (fun w H=>?_)
              refine OQ.ex rfl (fun w H=>(Ex.move rfl)) rfl ?_
              refine OQ.ex rfl (fun w H=>(Ex.move rfl)) rfl ?_
              refine OQ.ex rfl (fun w H=>(by first|exact Ex.loadArc Try.isAgg42 Try.sizeOf42 rfl|exact Ex.loadAggP Try.isAgg42 Try.sizeOf42 rfl|exact Ex.loadAggN Try.isAgg42 Try.sizeOf42 rfl|exact Ex.loadIn Try.isAgg42 Try.sizeOf42 rfl (Holds.to (by assumption)))) rfl ?_
              refine OQ.ex rfl (fun w H=>(Ex.build rfl (bld90_0_1 _ _ _ _ _ (by first|rfl|assumption)))) rfl ?_
              refine OQ.ex rfl (fun w H=>(by first|exact Ex.nilPtr rfl|exact Ex.nilFunc rfl|exact Ex.nilYield rfl)) rfl ?_
              refine OQ.ex rfl (fun w H=>(by first|exact Ex.field0 fld93_0 rfl|exact Ex.field fld93_0 rfl|exact Ex.fieldS fld93_0 rfl)) rfl ?_
              refine OQ.ex rfl (fun w H=>(Ex.idxArr Try.runUnderlying91 Try.sizeOf90 rfl rfl)) rfl ?_
              refine OQ.last rfl (by decide +kernel) ?_
              refine O.storeSl (i:=id.toNat) (z:=⟨a,true⟩) Try.sizeOf90 rfl rfl rfl (by omega) (by omega) (fun w H=>?_)
              refine O.nil ?_
              refine hK11 _ _ _ ?_
              refine W.seq (fun K12 hK12=>?_)
              have H:=big_takeE t0 t2 (Holds.to (M:=big (endF es s s) (List.range n.toNat)::gcel g (upS s id.toNat ⟨a,true⟩) (avV ab cap n) (cnt s) most::atc ab n.toNat es::pt b5 (.cells a.val.cells 42 (0,0))::L) H)
              refine W.drawTo (gcel g (upS s id.toNat ⟨a,true⟩) (avV ab cap n) (cnt s) most::atc ab n.toNat es::pt b5 (.cells a.val.cells 42 (0,0))::[]) (.take 0 (.take 1 (.take 2 (.take 3 (.take 4 (.take 5 (.take 6 (.take 7 (.take 8 (.take 9 (.take 10 (.take 11 (.take 12 (.take 13 (.take 14 (.take 15 (.one 16 (.take 17 (.take 18 (.one 19 .nil)))))))))))))))))))) (mixed) (fun _ _ _ _ h=>h) (by assumption) PP.auto (by decide +kernel) (fun w H=>?_)
              refine OQ.ex rfl (fun w H=>(Ex.move rfl)) rfl ?_
              refine OQ.ex rfl (fun w H=>(by first|exact Ex.nilPtr rfl|exact Ex.nilFunc rfl|exact Ex.nilYield rfl)) rfl ?_
              refine OQ.ex rfl (fun w H=>(by first|exact Ex.field0 fld93_1 rfl|exact Ex.field fld93_1 rfl|exact Ex.fieldS fld93_1 rfl)) rfl ?_
              refine OQ.ex rfl (fun w H=>(by first|exact Ex.loadG1 Try.isAgg88 rfl|exact Ex.loadG2 Try.isAgg88 rfl|exact Ex.loadAt Try.isAgg88 rfl|exact Ex.loadCn Try.isAgg88 rfl|exact Ex.loadMo Try.isAgg88 rfl|exact Ex.loadE0 Try.isAgg88 rfl|exact Ex.loadE1 Try.isAgg88 rfl|exact Ex.loadP Try.isAgg88 rfl|exact Ex.loadR Try.isAgg88 rfl|exact Ex.loadIn1 Try.isAgg88 rfl (Holds.to (by assumption)))) rfl ?_
              refine OQ.ex rfl (fun w H=>(by first|exact Ex.field0 fld42_0 rfl|exact Ex.field fld42_0 rfl|exact Ex.fieldS fld42_0 rfl)) rfl ?_
              refine OQ.ex rfl (fun w H=>(by first|exact Ex.loadG1 Try.isAgg3 rfl|exact Ex.loadG2 Try.isAgg3 rfl|exact Ex.loadAt Try.isAgg3 rfl|exact Ex.loadCn Try.isAgg3 rfl|exact Ex.loadMo Try.isAgg3 rfl|exact Ex.loadE0 Try.isAgg3 rfl|exact Ex.loadE1 Try.isAgg3 rfl|exact Ex.loadP Try.isAgg3 rfl|exact Ex.loadR Try.isAgg3 rfl|exact Ex.loadIn1 Try.isAgg3 rfl (Holds.to (by assumption)))) rfl ?_
              refine OQ.ex rfl (fun w H=>(Ex.move rfl)) rfl ?_
              refine OQ.ex rfl (fun w H=>(by first|exact Ex.nilPtr rfl|exact Ex.nilFunc rfl|exact Ex.nilYield rfl)) rfl ?_
              refine OQ.ex rfl (fun w H=>(by first|exact Ex.field0 fld93_1 rfl|exact Ex.field fld93_1 rfl|exact Ex.fieldS fld93_1 rfl)) rfl ?_
              refine OQ.ex rfl (fun w H=>(by first|exact Ex.loadG1 Try.isAgg88 rfl|exact Ex.loadG2 Try.isAgg88 rfl|exact Ex.loadAt Try.isAgg88 rfl|exact Ex.loadCn Try.isAgg88 rfl|exact Ex.loadMo Try.isAgg88 rfl|exact Ex.loadE0 Try.isAgg88 rfl|exact Ex.loadE1 Try.isAgg88 rfl|exact Ex.loadP Try.isAgg88 rfl|exact Ex.loadR Try.isAgg88 rfl|exact Ex.loadIn1 Try.isAgg88 rfl (Holds.to (by assumption)))) rfl ?_
              refine OQ.ex rfl (fun w H=>(by first|exact Ex.field0 fld42_0 rfl|exact Ex.field fld42_0 rfl|exact Ex.fieldS fld42_0 rfl)) rfl ?_
              refine OQ.ex rfl (fun w H=>(by first|exact Ex.loadG1 Try.isAgg3 rfl|exact Ex.loadG2 Try.isAgg3 rfl|exact Ex.loadAt Try.isAgg3 rfl|exact Ex.loadCn Try.isAgg3 rfl|exact Ex.loadMo Try.isAgg3 rfl|exact Ex.loadE0 Try.isAgg3 rfl|exact Ex.loadE1 Try.isAgg3 rfl|exact Ex.loadP Try.isAgg3 rfl|exact Ex.loadR Try.isAgg3 rfl|exact Ex.loadIn1 Try.isAgg3 rfl (Holds.to (by assumption)))) rfl ?_
              refine OQ.ex rfl (fun w H=>(by first|exact Ex.idxN Try.runUnderlying88 Try.sizeOf96 rfl rfl|exact Ex.idxSN Try.runUnderlying88 Try.sizeOf96 rfl rfl|exact Ex.idxIn Try.runUnderlying88 Try.sizeOf96 rfl rfl|exact Ex.idx Try.runUnderlying88 Try.sizeOf96 rfl rfl (by omega) (by omega))) rfl ?_
              refine OQ.ex rfl (fun w H=>(by first|exact Ex.field0 fld96_0 rfl|exact Ex.field fld96_0 rfl|exact Ex.fieldS fld96_0 rfl)) rfl ?_
              refine OQ.ex rfl (fun w H=>(by first|exact Ex.loadG1 Try.isAgg28 rfl|exact Ex.loadG2 Try.isAgg28 rfl|exact Ex.loadAt Try.isAgg28 rfl|exact Ex.loadCn Try.isAgg28 rfl|exact Ex.loadMo Try.isAgg28 rfl|exact Ex.loadE0 Try.isAgg28 rfl|exact Ex.loadE1 Try.isAgg28 rfl|exact Ex.loadP Try.isAgg28 rfl|exact Ex.loadR Try.isAgg28 rfl|exact Ex.loadIn1 Try.isAgg28 rfl (Holds.to (by assumption)))) rfl ?_
              refine OQ.ex rfl (fun w H=>(Ex.move rfl)) rfl ?_
              refine OQ.step rfl ?_
              refine O.callF Try.call59 rfl rfl (CT.mono (withI_ct (p:=outP s a.t) (q:=outP (upS s id.toNat ⟨a,true⟩) a.t) p0 p1 (by unfold outP; rw [hf]; rfl) (by unfold outP; rw [upS_same]; exact decide_eq_true rfl) (fun i hi=>by unfold outP; rw [upS_other hi]) (Holds.to (by assumption))) ?_)
              rintro _ w ⟨hu1,H⟩
              rename_i u1
              refine O.thenNil ⟨(by first|exact Holds.to (by assumption)|assumption),?_⟩
              refine OQ.ex rfl (fun w H=>(by first|exact Ex.idxN Try.runUnderlying88 Try.sizeOf96 rfl rfl|exact Ex.idxSN Try.runUnderlying88 Try.sizeOf96 rfl rfl|exact Ex.idxIn Try.runUnderlying88 Try.sizeOf96 rfl rfl|exact Ex.idx Try.runUnderlying88 Try.sizeOf96 rfl rfl (by omega) (by omega))) rfl ?_
              refine OQ.ex rfl (fun w H=>(by first|exact Ex.field0 fld96_0 rfl|exact Ex.field fld96_0 rfl|exact Ex.fieldS fld96_0 rfl)) rfl ?_
              refine OQ.last rfl (by decide +kernel) ?_
              refine O.storeE0 (i:=a.t) (n:=n.toNat) (es:=es) Try.sizeOf28 rfl rfl hu1 (fun w H=>?_)
              refine O.nil ?_
              refine hK12 _ _ _ ?_
              refine W.seq (fun K13 hK13=>?_)
              have H:=big_out (so':=upS s id.toNat ⟨a,true⟩) (so:=s) (si:=s) (es:=es) (u:=u1) t0 t2 lo1 (Holds.to (M:=arr 3 (Value.int .i64) u1 (lstP (outP (upS s id.toNat ⟨a,true⟩) a.t))::arr 3 (Value.int .i64) (es a.t.toNat).2 (lstP (inP s a.t))::bigBut (endF es s s) (List.range n.toNat) a.t.toNat::gcel g (upS s id.toNat ⟨a,true⟩) (avV ab cap n) (cnt s) most::atc ab n.toNat (upE es a.t.toNat (u1,(es a.t.toNat).2))::pt b5 (.cells a.val.cells 42 (0,0))::L) H)
              obtain ⟨es1,hes1⟩ : ∃ es1,es1 = upE es a.t.toNat (u1,(es a.t.toNat).2):=⟨_,rfl⟩
              rw [← hes1] at H
              have H:=big_takeE k0 k2 H
              refine W.drawTo (gcel g (upS s id.toNat ⟨a,true⟩) (avV ab cap n) (cnt s) most::atc ab n.toNat es1::pt b5 (.cells a.val.cells 42 (0,0))::[]) (.take 0 (.take 1 (.take 2 (.take 3 (.take 4 (.take 5 (.take 6 (.take 7 (.take 8 (.take 9 (.take 10 (.take 11 (.take 12 (.take 13 (.take 14 (.take 15 (.one 16 (.take 17 (.take 18 (.one 19 .nil)))))))))))))))))))) (mixed) (fun _ _ _ _ h=>h) (by assumption) PP.auto (by decide +kernel) (fun w H=>?_)
              refine OQ.ex rfl (fun w H=>(Ex.move rfl)) rfl ?_
              refine OQ.ex rfl (fun w H=>(by first|exact Ex.nilPtr rfl|exact Ex.nilFunc rfl|exact Ex.nilYield rfl)) rfl ?_
              refine OQ.ex rfl (fun w H=>(by first|exact Ex.field0 fld93_1 rfl|exact Ex.field fld93_1 rfl|exact Ex.fieldS fld93_1 rfl)) rfl ?_
              refine OQ.ex rfl (fun w H=>(by first|exact Ex.loadG1 Try.isAgg88 rfl|exact Ex.loadG2 Try.isAgg88 rfl|exact Ex.loadAt Try.isAgg88 rfl|exact Ex.loadCn Try.isAgg88 rfl|exact Ex.loadMo Try.isAgg88 rfl|exact Ex.loadE0 Try.isAgg88 rfl|exact Ex.loadE1 Try.isAgg88 rfl|exact Ex.loadP Try.isAgg88 rfl|exact Ex.loadR Try.isAgg88 rfl|exact Ex.loadIn1 Try.isAgg88 rfl (Holds.to (by assumption)))) rfl ?_
              refine OQ.ex rfl (fun w H=>(by first|exact Ex.field0 fld42_1 rfl|exact Ex.field fld42_1 rfl|exact Ex.fieldS fld42_1 rfl)) rfl ?_
              refine OQ.ex rfl (fun w H=>(by first|exact Ex.loadG1 Try.isAgg3 rfl|exact Ex.loadG2 Try.isAgg3 rfl|exact Ex.loadAt Try.isAgg3 rfl|exact Ex.loadCn Try.isAgg3 rfl|exact Ex.loadMo Try.isAgg3 rfl|exact Ex.loadE0 Try.isAgg3 rfl|exact Ex.loadE1 Try.isAgg3 rfl|exact Ex.loadP Try.isAgg3 rfl|exact Ex.loadR Try.isAgg3 rfl|exact Ex.loadIn1 Try.isAgg3 rfl (Holds.to (by assumption)))) rfl ?_
              refine OQ.ex rfl (fun w H=>(Ex.move rfl)) rfl ?_
              refine OQ.ex rfl (fun w H=>(by first|exact Ex.nilPtr rfl|exact Ex.nilFunc rfl|exact Ex.nilYield rfl)) rfl ?_
              refine OQ.ex rfl (fun w H=>(by first|exact Ex.field0 fld93_1 rfl|exact Ex.field fld93_1 rfl|exact Ex.fieldS fld93_1 rfl)) rfl ?_
              refine OQ.ex rfl (fun w H=>(by first|exact Ex.loadG1 Try.isAgg88 rfl|exact Ex.loadG2 Try.isAgg88 rfl|exact Ex.loadAt Try.isAgg88 rfl|exact Ex.loadCn Try.isAgg88 rfl|exact Ex.loadMo Try.isAgg88 rfl|exact Ex.loadE0 Try.isAgg88 rfl|exact Ex.loadE1 Try.isAgg88 rfl|exact Ex.loadP Try.isAgg88 rfl|exact Ex.loadR Try.isAgg88 rfl|exact Ex.loadIn1 Try.isAgg88 rfl (Holds.to (by assumption)))) rfl ?_
              refine OQ.ex rfl (fun w H=>(by first|exact Ex.field0 fld42_1 rfl|exact Ex.field fld42_1 rfl|exact Ex.fieldS fld42_1 rfl)) rfl ?_
              refine OQ.ex rfl (fun w H=>(by first|exact Ex.loadG1 Try.isAgg3 rfl|exact Ex.loadG2 Try.isAgg3 rfl|exact Ex.loadAt Try.isAgg3 rfl|exact Ex.loadCn Try.isAgg3 rfl|exact Ex.loadMo Try.isAgg3 rfl|exact Ex.loadE0 Try.isAgg3 rfl|exact Ex.loadE1 Try.isAgg3 rfl|exact Ex.loadP Try.isAgg3 rfl|exact Ex.loadR Try.isAgg3 rfl|exact Ex.loadIn1 Try.isAgg3 rfl (Holds.to (by assumption)))) rfl ?_
              refine OQ.ex rfl (fun w H=>(by first|exact Ex.idxN Try.runUnderlying88 Try.sizeOf96 rfl rfl|exact Ex.idxSN Try.runUnderlying88 Try.sizeOf96 rfl rfl|exact Ex.idxIn Try.runUnderlying88 Try.sizeOf96 rfl rfl|exact Ex.idx Try.runUnderlying88 Try.sizeOf96 rfl rfl (by omega) (by omega))) rfl ?_
              refine OQ.ex rfl (fun w H=>(by first|exact Ex.field0 fld96_1 rfl|exact Ex.field fld96_1 rfl|exact Ex.fieldS fld96_1 rfl)) rfl ?_
              refine OQ.ex rfl (fun w H=>(by first|exact Ex.loadG1 Try.isAgg28 rfl|exact Ex.loadG2 Try.isAgg28 rfl|exact Ex.loadAt Try.isAgg28 rfl|exact Ex.loadCn Try.isAgg28 rfl|exact Ex.loadMo Try.isAgg28 rfl|exact Ex.loadE0 Try.isAgg28 rfl|exact Ex.loadE1 Try.isAgg28 rfl|exact Ex.loadP Try.isAgg28 rfl|exact Ex.loadR Try.isAgg28 rfl|exact Ex.loadIn1 Try.isAgg28 rfl (Holds.to (by assumption)))) rfl ?_
              refine OQ.ex rfl (fun w H=>(Ex.move rfl)) rfl ?_
              refine OQ.step rfl ?_
              refine O.callF Try.call59 rfl rfl (CT.mono (withI_ct (p:=inP s a.h) (q:=inP (upS s id.toNat ⟨a,true⟩) a.h) p0 p1 (by unfold inP; rw [hf]; rfl) (by unfold inP; rw [upS_same]; exact decide_eq_true rfl) (fun i hi=>by unfold inP; rw [upS_other hi]) (Holds.to (by assumption))) ?_)
              rintro _ w ⟨hu2,H⟩
              rename_i u2
              refine O.thenNil ⟨(by first|exact Holds.to (by assumption)|assumption),?_⟩
              refine OQ.ex rfl (fun w H=>(by first|exact Ex.idxN Try.runUnderlying88 Try.sizeOf96 rfl rfl|exact Ex.idxSN Try.runUnderlying88 Try.sizeOf96 rfl rfl|exact Ex.idxIn Try.runUnderlying88 Try.sizeOf96 rfl rfl|exact Ex.idx Try.runUnderlying88 Try.sizeOf96 rfl rfl (by omega) (by omega))) rfl ?_
              refine OQ.ex rfl (fun w H=>(by first|exact Ex.field0 fld96_1 rfl|exact Ex.field fld96_1 rfl|exact Ex.fieldS fld96_1 rfl)) rfl ?_
              refine OQ.last rfl (by decide +kernel) ?_
              refine O.storeE1 (i:=a.h) (n:=n.toNat) (es:=es1) Try.sizeOf28 rfl rfl hu2 (fun w H=>?_)
              refine O.nil ?_
              refine hK13 _ _ _ ?_
              refine W.seq (fun K14 hK14=>?_)
              refine W.region ?_
              have H:=big_in (so:=upS s id.toNat ⟨a,true⟩) (si:=s) (si':=upS s id.toNat ⟨a,true⟩) (es:=es1) (u:=u2) k0 k2 lo2 (Holds.to (M:=arr 3 (Value.int .i64) (es1 a.h.toNat).1 (lstP (outP (upS s id.toNat ⟨a,true⟩) a.h))::arr 3 (Value.int .i64) u2 (lstP (inP (upS s id.toNat ⟨a,true⟩) a.h))::bigBut (endF es1 (upS s id.toNat ⟨a,true⟩) s) (List.range n.toNat) a.h.toNat::gcel g (upS s id.toNat ⟨a,true⟩) (avV ab cap n) (cnt s) most::atc ab n.toNat (upE es1 a.h.toNat ((es1 a.h.toNat).1,u2))::L) H)
              refine O.ex (Ex.move rfl) rfl ?_
              refine O.ex (by first|exact Ex.nilPtr rfl|exact Ex.nilFunc rfl|exact Ex.nilYield rfl) rfl ?_
              refine O.ex (by first|exact Ex.field0 fld93_2 rfl|exact Ex.field fld93_2 rfl|exact Ex.fieldS fld93_2 rfl) rfl ?_
              refine O.ex (by first|exact Ex.loadG1 Try.isAgg3 rfl|exact Ex.loadG2 Try.isAgg3 rfl|exact Ex.loadAt Try.isAgg3 rfl|exact Ex.loadCn Try.isAgg3 rfl|exact Ex.loadMo Try.isAgg3 rfl|exact Ex.loadE0 Try.isAgg3 rfl|exact Ex.loadE1 Try.isAgg3 rfl|exact Ex.loadP Try.isAgg3 rfl|exact Ex.loadR Try.isAgg3 rfl|exact Ex.loadIn1 Try.isAgg3 rfl (Holds.to (by assumption))) rfl ?_
              refine O.ex (by first|exact Ex.addI rfl rfl|exact Ex.add rfl rfl rfl) rfl ?_
              refine O.ex (by first|exact Ex.nilPtr rfl|exact Ex.nilFunc rfl|exact Ex.nilYield rfl) rfl ?_
              refine O.ex (by first|exact Ex.field0 fld93_2 rfl|exact Ex.field fld93_2 rfl|exact Ex.fieldS fld93_2 rfl) rfl ?_
              refine O.storeCn Try.sizeOf3 rfl rfl (fun w H=>?_)
              refine O.nil ?_
              refine hK14 _ _ _ ?_
              refine W.seq (fun K15 hK15=>?_)
              refine W.region ?_
              refine O.ex (Ex.assign rfl) rfl ?_
              refine O.nil ?_
              refine hK15 _ _ _ ?_
              refine W.ret ?_
              try dsimp only [thenQ,blockQ,retQ]
              first|refine ⟨_,⟨_,_,rfl,rfl,rfl⟩,?_⟩|(refine retD_mark ?_; intro w H; refine ⟨_,⟨_,_,rfl,rfl,rfl⟩,?_⟩)|(refine retD_mark2 ?_; intro w H; refine ⟨_,⟨_,_,rfl,rfl,rfl⟩,?_⟩)
              first
              | (rw [hin,hS]
                 refine ⟨rfl,gh_open.2 ⟨ab,cap,upE es1 a.h.toNat ((es1 a.h.toNat).1,u2),ghO_open.2 ?_⟩⟩
                 rw [cnt_ins (by omega) hf rfl]
                 exact Holds.to (by assumption))
              | (have hc : insC n most s id a = 1:=if_pos (fun hh=>by first|exact h0 hh.1|exact h1 hh.2.1.1|exact h2 hh.2.1.2|exact h3 hh.2.2)
                 have hS : insS n most s id a = s:=if_neg (by rw [hc]; decide)
                 rw [hc,hS]
                 exact ⟨rfl,gh_open.2 ⟨ab,cap,es,ghO_open.2 (Holds.to (by assumption))⟩⟩)
              | (have hc : insC n most s id a = 4:=by unfold insC; rw [if_neg (fun hh=>hh ⟨hpl,hok⟩),if_pos h4]
                 have hS : insS n most s id a = s:=if_neg (by rw [hc]; decide)
                 rw [hc,hS]
                 exact ⟨rfl,gh_open.2 ⟨ab,cap,es,ghO_open.2 (Holds.to (by assumption))⟩⟩)
              | (have hc : insC n most s id a = 2:=by unfold insC; rw [if_neg (fun hh=>hh ⟨hpl,hok⟩),if_neg (by simpa using h4),if_pos h5]
                 have hS : insS n most s id a = s:=if_neg (by rw [hc]; decide)
                 rw [hc,hS]
                 exact ⟨rfl,gh_open.2 ⟨ab,cap,es,ghO_open.2 (Holds.to (by assumption))⟩⟩)
end Go.Proofs.Ytliofdfhimmjmaa
namespace Go.Proofs.Ytliofdfhimmjmaa
open Go.Rr Go Gr
set_option linter.unusedVariables false
theorem gof_ct {w : World} {g : Nat} {av : Value} {most k id : Int} {s : St} {fv : Value} {R : Value → World → Prop} {L : List HProp} (H : Holds w (gcel g s av k most::L))
    (hin : pl id → (s id.toNat).tk = true → ∀ w',Holds w' (gcel g s av k most::L) → VT Try.prog fv [.pointer (some ⟨g,0 + id.toNat * 5,none⟩)] w' R) (hno : ∀ w',thC s id ≠ 0 → Holds w' (gcel g s av k most::L) → R (.int .i64 (thC s id)) w') :
    CT Try.prog 75 [.pointer (some ⟨g,0,none⟩),.int .i64 id,fv] w R:=by
  refine CT.enter (N:=27) Try.func75 rfl rfl rfl rfl ?_
  refine W.seq (fun K0 hK0=>?_)
  refine W.region ?_
  refine O.ex (Ex.assign rfl) rfl ?_
  refine O.nil ?_
  refine hK0 _ _ _ ?_
  refine W.seq (fun K1 hK1=>?_)
  refine W.block ?_
  refine W.seq (fun K2 hK2=>?_)
  refine W.region ?_
  refine O.ex (Ex.move rfl) rfl ?_
  refine O.callF Try.call56 rfl rfl (CT.mono (place_ct (Holds.to (by assumption))) ?_)
  rintro _ w ⟨rfl,H⟩
  refine O.ex (by first|exact Ex.notD rfl|exact Ex.not rfl) rfl ?_
  refine O.ex (Ex.assign rfl) rfl ?_
  refine O.nil ?_
  refine hK2 _ _ _ ?_
  first|refine W.cond_p rfl (fun hA=>?_) (fun hB=>?_)|refine W.cond_b rfl (fun hA=>?_) (fun hB=>?_)
  · refine W.seq (fun K3 hK3=>?_)
    refine W.region ?_
    refine O.ex (Ex.assign rfl) rfl ?_
    refine O.nil ?_
    refine hK3 _ _ _ ?_
    refine W.ret ?_
    try dsimp only [thenQ,blockQ,retQ]
    first|refine ⟨_,⟨_,_,rfl,rfl,rfl⟩,?_⟩|(refine retD_mark ?_; intro w H; refine ⟨_,⟨_,_,rfl,rfl,rfl⟩,?_⟩)|(refine retD_mark2 ?_; intro w H; refine ⟨_,⟨_,_,rfl,rfl,rfl⟩,?_⟩)
    first
    | exact hR
    | (have hc : thC s id = 1:=if_pos hA
       have:=hno w (by rw [hc]; decide) (Holds.to (by assumption))
       rw [hc] at this; exact this)
    | (have hc : thC s id = 3:=by unfold thC; rw [if_neg (fun hh=>hh hpl),if_neg (by simpa using hC)]
       have:=hno w (by rw [hc]; decide) (Holds.to (by assumption))
       rw [hc] at this; exact this)
  · refine W.seq (fun K4 hK4=>?_)
    refine W.region ?_
    have hpl : pl id:=Decidable.not_not.1 hB
    have p0:=hpl.1
    have p1:=hpl.2
    refine O.ex (Ex.move rfl) rfl ?_
    refine O.ex (Ex.move rfl) rfl ?_
    refine O.ex (by first|exact Ex.nilPtr rfl|exact Ex.nilFunc rfl|exact Ex.nilYield rfl) rfl ?_
    refine O.ex (by first|exact Ex.field0 fld93_0 rfl|exact Ex.field fld93_0 rfl|exact Ex.fieldS fld93_0 rfl) rfl ?_
    refine O.ex (Ex.idxArr Try.runUnderlying91 Try.sizeOf90 rfl rfl) rfl ?_
    refine O.ex (by first|exact Ex.field0 fld90_1 rfl|exact Ex.field fld90_1 rfl|exact Ex.fieldS fld90_1 rfl) rfl ?_
    refine O.ex (by first|exact Ex.loadG1 Try.isAgg4 rfl|exact Ex.loadG2 Try.isAgg4 rfl|exact Ex.loadAt Try.isAgg4 rfl|exact Ex.loadCn Try.isAgg4 rfl|exact Ex.loadMo Try.isAgg4 rfl|exact Ex.loadE0 Try.isAgg4 rfl|exact Ex.loadE1 Try.isAgg4 rfl|exact Ex.loadP Try.isAgg4 rfl|exact Ex.loadR Try.isAgg4 rfl|exact Ex.loadIn1 Try.isAgg4 rfl (Holds.to (by assumption))) rfl ?_
    refine O.ex (by first|exact Ex.notD rfl|exact Ex.not rfl) rfl ?_
    refine O.ex (Ex.assign rfl) rfl ?_
    refine O.nil ?_
    refine hK4 _ _ _ ?_
    first|refine W.cond_p rfl (fun hC=>?_) (fun hD=>?_)|refine W.cond_b rfl (fun hC=>?_) (fun hD=>?_)
    · refine W.seq (fun K5 hK5=>?_)
      refine W.region ?_
      refine O.ex (Ex.assign rfl) rfl ?_
      refine O.nil ?_
      refine hK5 _ _ _ ?_
      refine W.ret ?_
      try dsimp only [thenQ,blockQ,retQ]
      first|refine ⟨_,⟨_,_,rfl,rfl,rfl⟩,?_⟩|(refine retD_mark ?_; intro w H; refine ⟨_,⟨_,_,rfl,rfl,rfl⟩,?_⟩)|(refine retD_mark2 ?_; intro w H; refine ⟨_,⟨_,_,rfl,rfl,rfl⟩,?_⟩)
      first
      | exact hR
      | (have hc : thC s id = 1:=if_pos hA
         have:=hno w (by rw [hc]; decide) (Holds.to (by assumption))
         rw [hc] at this; exact this)
      | (have hc : thC s id = 3:=by unfold thC; rw [if_neg (fun hh=>hh hpl),if_neg (by simpa using hC)]
         have:=hno w (by rw [hc]; decide) (Holds.to (by assumption))
         rw [hc] at this; exact this)
    · refine W.skip ?_
      refine hK1 _ _ _ ?_
      refine W.seq (fun K6 hK6=>?_)
      refine W.region ?_
      refine O.ex (Ex.move rfl) rfl ?_
      refine O.ex (Ex.move rfl) rfl ?_
      refine O.ex (Ex.move rfl) rfl ?_
      refine O.ex (by first|exact Ex.nilPtr rfl|exact Ex.nilFunc rfl|exact Ex.nilYield rfl) rfl ?_
      refine O.ex (by first|exact Ex.field0 fld93_0 rfl|exact Ex.field fld93_0 rfl|exact Ex.fieldS fld93_0 rfl) rfl ?_
      refine O.ex (Ex.idxArr Try.runUnderlying91 Try.sizeOf90 rfl rfl) rfl ?_
      refine O.callVT rfl rfl rfl (VT.mono (hin hpl (by simpa using hD) w (Holds.to (by assumption))) ?_)
      rintro _ w hR
      refine O.ex (Ex.assign rfl) rfl ?_
      refine O.nil ?_
      refine hK6 _ _ _ ?_
      refine W.ret ?_
      try dsimp only [thenQ,blockQ,retQ]
      first|refine ⟨_,⟨_,_,rfl,rfl,rfl⟩,?_⟩|(refine retD_mark ?_; intro w H; refine ⟨_,⟨_,_,rfl,rfl,rfl⟩,?_⟩)|(refine retD_mark2 ?_; intro w H; refine ⟨_,⟨_,_,rfl,rfl,rfl⟩,?_⟩)
      first
      | exact hR
      | (have hc : thC s id = 1:=if_pos hA
         have:=hno w (by rw [hc]; decide) (Holds.to (by assumption))
         rw [hc] at this; exact this)
      | (have hc : thC s id = 3:=by unfold thC; rw [if_neg (fun hh=>hh hpl),if_neg (by simpa using hC)]
         have:=hno w (by rw [hc]; decide) (Holds.to (by assumption))
         rw [hc] at this; exact this)
theorem gh_same {w : World} {g ab cap : Nat} {es : Nat → Value × Value} {n most : Int} {s s' : St} {L : List HProp} (h : (∀ v,outI s' v = outI s v) ∧ (∀ v,inI s' v = inI s v) ∧ cnt s' = cnt s) (H : Holds w (gcel g s' (avV ab cap n) (cnt s) most::atc ab n.toNat es::big (endF es s s) (List.range n.toNat)::L)) : Holds w (Gh g n most s'::L):=by
  refine gh_open.2 ⟨ab,cap,es,ghO_open.2 ?_⟩
  rw [h.2.2,big_congr (g:=endF es s s) (fun k _=>by unfold endF; rw [h.1,h.2.1])]
  exact H
theorem lists_del {s : St} {i : Nat} (hf : (s i).tk = true) : (∀ v,v ≠ (s i).a.t → outI (upS s i Sl.zero) v = outI s v) ∧ (∀ v,v ≠ (s i).a.h → inI (upS s i Sl.zero) v = inI s v) :=
  ⟨fun v hv=>outI_other (fun _ e=>hv e.symm) (fun h=>by cases h),fun v hv=>inI_other (fun _ e=>hv e.symm) (fun h=>by cases h)⟩
set_option maxHeartbeats 4000000 in
theorem del1_ct {w : World} {g c1 c2 : Nat} {n most id : Int} {s : St} {L : List HProp} (hg : GOk n most s) (hpl : pl id) (htk : (s id.toNat).tk = true) (H : Holds w (pt c1 (.cells #[.pointer (some ⟨g,0,none⟩)] 24 (0,0))::pt c2 (.cells #[.int .i64 id] 3 (0,0))::Gh g n most s::L)) :
    CT Try.prog 87 [.pointer (some ⟨g,0 + id.toNat * 5,none⟩),.pointer (some ⟨c1,0,none⟩),.pointer (some ⟨c2,0,none⟩)] w fun u w'=>u = .int .i64 0 ∧ Holds w' (Gh g n most (upS s id.toNat Sl.zero)::L):=by
  have n1:=hg.n1
  have n2:=hg.n2
  have p0:=hpl.1
  have p1:=hpl.2
  obtain ⟨ab,cap,es,H⟩:=gh_open.1 (Holds.to (M:=Gh g n most s::pt c1 (.cells #[.pointer (some ⟨g,0,none⟩)] 24 (0,0))::pt c2 (.cells #[.int .i64 id] 3 (0,0))::L) H)
  have H:=ghO_open.1 H
  obtain ⟨q0,q1⟩:=cnt_rng s
  have hok:=hg.arc _ htk
  obtain ⟨lo1,lo2⟩:=lists_del htk
  have t0:=hok.1.1.1
  have t1:=hok.1.1.2
  have t2 : (s id.toNat).a.t.toNat < n.toNat:=by omega
  have k0:=hok.1.2.1
  have k1:=hok.1.2.2
  have k2 : (s id.toNat).a.h.toNat < n.toNat:=by omega
  obtain ⟨s',hs'⟩ : ∃ s',s' = upS s id.toNat Sl.zero:=⟨_,rfl⟩
  have htk' : (s' id.toNat).tk = false:=by rw [hs',upS_same]; rfl
  have hot : ∀ i,i ≠ id.toNat → s i = s' i:=fun i hi=>by rw [hs',upS_other hi]
  rw [← hs'] at lo1 lo2
  refine CT.enter (N:=65) Try.func87 rfl rfl rfl rfl ?_
  refine W.seq (fun K0 hK0=>?_)
  refine W.region ?_
  refine O.ex (Ex.assign rfl) rfl ?_
  refine O.nil ?_
  refine hK0 _ _ _ ?_
  refine W.seq (fun K1 hK1=>?_)
  have H:=big_takeE t0 t2 (Holds.to (M:=big (endF es s s) (List.range n.toNat)::gcel g s (avV ab cap n) (cnt s) most::atc ab n.toNat es::pt c1 (.cells #[.pointer (some ⟨g,0,none⟩)] 24 (0,0))::pt c2 (.cells #[.int .i64 id] 3 (0,0))::L) H)
  refine W.drawTo (gcel g s (avV ab cap n) (cnt s) most::atc ab n.toNat es::pt c1 (.cells #[.pointer (some ⟨g,0,none⟩)] 24 (0,0))::pt c2 (.cells #[.int .i64 id] 3 (0,0))::[]) (.take 0 (.take 1 (.take 2 (.take 3 (.take 4 (.take 5 (.take 6 (.take 7 (.take 8 (.take 9 (.take 10 (.take 11 (.take 12 (.take 13 (.take 14 (.take 15 (.take 16 (.take 17 (.take 18 (.take 19 (.take 20 (.take 21 (.one 22 (.take 23 (.take 24 (.one 25 .nil)))))))))))))))))))))))))) (mixed) (fun _ _ _ _ h=>h) (by assumption) PP.auto (by decide +kernel) (fun w H=>?_)
  refine OQ.ex rfl (fun w H=>(by first|exact Ex.loadG1 Try.isAgg24 rfl|exact Ex.loadG2 Try.isAgg24 rfl|exact Ex.loadAt Try.isAgg24 rfl|exact Ex.loadCn Try.isAgg24 rfl|exact Ex.loadMo Try.isAgg24 rfl|exact Ex.loadE0 Try.isAgg24 rfl|exact Ex.loadE1 Try.isAgg24 rfl|exact Ex.loadP Try.isAgg24 rfl|exact Ex.loadR Try.isAgg24 rfl|exact Ex.loadIn1 Try.isAgg24 rfl (Holds.to (by assumption)))) rfl ?_
  refine OQ.ex rfl (fun w H=>(by first|exact Ex.nilPtr rfl|exact Ex.nilFunc rfl|exact Ex.nilYield rfl)) rfl ?_
  refine OQ.ex rfl (fun w H=>(by first|exact Ex.field0 fld93_1 rfl|exact Ex.field fld93_1 rfl|exact Ex.fieldS fld93_1 rfl)) rfl ?_
  refine OQ.ex rfl (fun w H=>(by first|exact Ex.loadG1 Try.isAgg88 rfl|exact Ex.loadG2 Try.isAgg88 rfl|exact Ex.loadAt Try.isAgg88 rfl|exact Ex.loadCn Try.isAgg88 rfl|exact Ex.loadMo Try.isAgg88 rfl|exact Ex.loadE0 Try.isAgg88 rfl|exact Ex.loadE1 Try.isAgg88 rfl|exact Ex.loadP Try.isAgg88 rfl|exact Ex.loadR Try.isAgg88 rfl|exact Ex.loadIn1 Try.isAgg88 rfl (Holds.to (by assumption)))) rfl ?_
  refine OQ.ex rfl (fun w H=>(Ex.move rfl)) rfl ?_
  refine OQ.ex rfl (fun w H=>(by first|exact Ex.nilPtr rfl|exact Ex.nilFunc rfl|exact Ex.nilYield rfl)) rfl ?_
  refine OQ.ex rfl (fun w H=>(by first|exact Ex.field0 fld90_0 rfl|exact Ex.field fld90_0 rfl|exact Ex.fieldS fld90_0 rfl)) rfl ?_
  refine OQ.ex rfl (fun w H=>(by first|exact Ex.field0 fld42_0 rfl|exact Ex.field fld42_0 rfl|exact Ex.fieldS fld42_0 rfl)) rfl ?_
  refine OQ.ex rfl (fun w H=>(by first|exact Ex.loadG1 Try.isAgg3 rfl|exact Ex.loadG2 Try.isAgg3 rfl|exact Ex.loadAt Try.isAgg3 rfl|exact Ex.loadCn Try.isAgg3 rfl|exact Ex.loadMo Try.isAgg3 rfl|exact Ex.loadE0 Try.isAgg3 rfl|exact Ex.loadE1 Try.isAgg3 rfl|exact Ex.loadP Try.isAgg3 rfl|exact Ex.loadR Try.isAgg3 rfl|exact Ex.loadIn1 Try.isAgg3 rfl (Holds.to (by assumption)))) rfl ?_
  refine OQ.ex rfl (fun w H=>(by first|exact Ex.loadG1 Try.isAgg24 rfl|exact Ex.loadG2 Try.isAgg24 rfl|exact Ex.loadAt Try.isAgg24 rfl|exact Ex.loadCn Try.isAgg24 rfl|exact Ex.loadMo Try.isAgg24 rfl|exact Ex.loadE0 Try.isAgg24 rfl|exact Ex.loadE1 Try.isAgg24 rfl|exact Ex.loadP Try.isAgg24 rfl|exact Ex.loadR Try.isAgg24 rfl|exact Ex.loadIn1 Try.isAgg24 rfl (Holds.to (by assumption)))) rfl ?_
  refine OQ.ex rfl (fun w H=>(by first|exact Ex.nilPtr rfl|exact Ex.nilFunc rfl|exact Ex.nilYield rfl)) rfl ?_
  refine OQ.ex rfl (fun w H=>(by first|exact Ex.field0 fld93_1 rfl|exact Ex.field fld93_1 rfl|exact Ex.fieldS fld93_1 rfl)) rfl ?_
  refine OQ.ex rfl (fun w H=>(by first|exact Ex.loadG1 Try.isAgg88 rfl|exact Ex.loadG2 Try.isAgg88 rfl|exact Ex.loadAt Try.isAgg88 rfl|exact Ex.loadCn Try.isAgg88 rfl|exact Ex.loadMo Try.isAgg88 rfl|exact Ex.loadE0 Try.isAgg88 rfl|exact Ex.loadE1 Try.isAgg88 rfl|exact Ex.loadP Try.isAgg88 rfl|exact Ex.loadR Try.isAgg88 rfl|exact Ex.loadIn1 Try.isAgg88 rfl (Holds.to (by assumption)))) rfl ?_
  refine OQ.ex rfl (fun w H=>(Ex.move rfl)) rfl ?_
  refine OQ.ex rfl (fun w H=>(by first|exact Ex.nilPtr rfl|exact Ex.nilFunc rfl|exact Ex.nilYield rfl)) rfl ?_
  refine OQ.ex rfl (fun w H=>(by first|exact Ex.field0 fld90_0 rfl|exact Ex.field fld90_0 rfl|exact Ex.fieldS fld90_0 rfl)) rfl ?_
  refine OQ.ex rfl (fun w H=>(by first|exact Ex.field0 fld42_0 rfl|exact Ex.field fld42_0 rfl|exact Ex.fieldS fld42_0 rfl)) rfl ?_
  refine OQ.ex rfl (fun w H=>(by first|exact Ex.loadG1 Try.isAgg3 rfl|exact Ex.loadG2 Try.isAgg3 rfl|exact Ex.loadAt Try.isAgg3 rfl|exact Ex.loadCn Try.isAgg3 rfl|exact Ex.loadMo Try.isAgg3 rfl|exact Ex.loadE0 Try.isAgg3 rfl|exact Ex.loadE1 Try.isAgg3 rfl|exact Ex.loadP Try.isAgg3 rfl|exact Ex.loadR Try.isAgg3 rfl|exact Ex.loadIn1 Try.isAgg3 rfl (Holds.to (by assumption)))) rfl ?_
  refine OQ.ex rfl (fun w H=>(by first|exact Ex.idxN Try.runUnderlying88 Try.sizeOf96 rfl rfl|exact Ex.idxSN Try.runUnderlying88 Try.sizeOf96 rfl rfl|exact Ex.idxIn Try.runUnderlying88 Try.sizeOf96 rfl rfl|exact Ex.idx Try.runUnderlying88 Try.sizeOf96 rfl rfl (by omega) (by omega))) rfl ?_
  refine OQ.ex rfl (fun w H=>(by first|exact Ex.field0 fld96_0 rfl|exact Ex.field fld96_0 rfl|exact Ex.fieldS fld96_0 rfl)) rfl ?_
  refine OQ.ex rfl (fun w H=>(by first|exact Ex.loadG1 Try.isAgg28 rfl|exact Ex.loadG2 Try.isAgg28 rfl|exact Ex.loadAt Try.isAgg28 rfl|exact Ex.loadCn Try.isAgg28 rfl|exact Ex.loadMo Try.isAgg28 rfl|exact Ex.loadE0 Try.isAgg28 rfl|exact Ex.loadE1 Try.isAgg28 rfl|exact Ex.loadP Try.isAgg28 rfl|exact Ex.loadR Try.isAgg28 rfl|exact Ex.loadIn1 Try.isAgg28 rfl (Holds.to (by assumption)))) rfl ?_
  refine OQ.ex rfl (fun w H=>(by first|exact Ex.loadG1 Try.isAgg3 rfl|exact Ex.loadG2 Try.isAgg3 rfl|exact Ex.loadAt Try.isAgg3 rfl|exact Ex.loadCn Try.isAgg3 rfl|exact Ex.loadMo Try.isAgg3 rfl|exact Ex.loadE0 Try.isAgg3 rfl|exact Ex.loadE1 Try.isAgg3 rfl|exact Ex.loadP Try.isAgg3 rfl|exact Ex.loadR Try.isAgg3 rfl|exact Ex.loadIn1 Try.isAgg3 rfl (Holds.to (by assumption)))) rfl ?_
  refine OQ.step rfl ?_
  refine O.callF Try.call88 rfl rfl (CT.mono (withoutI_ct (p:=outP s (s id.toNat).a.t) (q:=outP s' (s id.toNat).a.t) p0 p1 (by unfold outP; rw [htk]; exact decide_eq_true rfl) (by unfold outP; rw [htk']; rfl) (fun i hi=>by unfold outP; rw [hot i hi]) (Holds.to (by assumption))) ?_)
  rintro _ w ⟨hu1,H⟩
  rename_i u1
  refine O.thenNil ⟨(by first|exact Holds.to (by assumption)|assumption),?_⟩
  refine OQ.ex rfl (fun w H=>(by first|exact Ex.idxN Try.runUnderlying88 Try.sizeOf96 rfl rfl|exact Ex.idxSN Try.runUnderlying88 Try.sizeOf96 rfl rfl|exact Ex.idxIn Try.runUnderlying88 Try.sizeOf96 rfl rfl|exact Ex.idx Try.runUnderlying88 Try.sizeOf96 rfl rfl (by omega) (by omega))) rfl ?_
  refine OQ.ex rfl (fun w H=>(by first|exact Ex.field0 fld96_0 rfl|exact Ex.field fld96_0 rfl|exact Ex.fieldS fld96_0 rfl)) rfl ?_
  refine OQ.last rfl (by decide +kernel) ?_
  refine O.storeE0 (i:=(s id.toNat).a.t) (n:=n.toNat) (es:=es) Try.sizeOf28 rfl rfl hu1 (fun w H=>?_)
  refine O.nil ?_
  refine hK1 _ _ _ ?_
  refine W.seq (fun K2 hK2=>?_)
  have H:=big_out (so':=s') (so:=s) (si:=s) (es:=es) (u:=u1) t0 t2 lo1 (Holds.to (M:=arr 3 (Value.int .i64) u1 (lstP (outP s' (s id.toNat).a.t))::arr 3 (Value.int .i64) (es (s id.toNat).a.t.toNat).2 (lstP (inP s (s id.toNat).a.t))::bigBut (endF es s s) (List.range n.toNat) (s id.toNat).a.t.toNat::gcel g s (avV ab cap n) (cnt s) most::atc ab n.toNat (upE es (s id.toNat).a.t.toNat (u1,(es (s id.toNat).a.t.toNat).2))::pt c1 (.cells #[.pointer (some ⟨g,0,none⟩)] 24 (0,0))::pt c2 (.cells #[.int .i64 id] 3 (0,0))::L) H)
  obtain ⟨es1,hes1⟩ : ∃ es1,es1 = upE es (s id.toNat).a.t.toNat (u1,(es (s id.toNat).a.t.toNat).2):=⟨_,rfl⟩
  rw [← hes1] at H
  have H:=big_takeE k0 k2 H
  refine W.drawTo (gcel g s (avV ab cap n) (cnt s) most::atc ab n.toNat es1::pt c1 (.cells #[.pointer (some ⟨g,0,none⟩)] 24 (0,0))::pt c2 (.cells #[.int .i64 id] 3 (0,0))::[]) (.take 0 (.take 1 (.take 2 (.take 3 (.take 4 (.take 5 (.take 6 (.take 7 (.take 8 (.take 9 (.take 10 (.take 11 (.take 12 (.take 13 (.take 14 (.take 15 (.take 16 (.take 17 (.take 18 (.take 19 (.take 20 (.take 21 (.one 22 (.take 23 (.take 24 (.one 25 .nil)))))))))))))))))))))))))) (mixed) (fun _ _ _ _ h=>h) (by assumption) PP.auto (by decide +kernel) (fun w H=>?_)
  refine OQ.ex rfl (fun w H=>(by first|exact Ex.loadG1 Try.isAgg24 rfl|exact Ex.loadG2 Try.isAgg24 rfl|exact Ex.loadAt Try.isAgg24 rfl|exact Ex.loadCn Try.isAgg24 rfl|exact Ex.loadMo Try.isAgg24 rfl|exact Ex.loadE0 Try.isAgg24 rfl|exact Ex.loadE1 Try.isAgg24 rfl|exact Ex.loadP Try.isAgg24 rfl|exact Ex.loadR Try.isAgg24 rfl|exact Ex.loadIn1 Try.isAgg24 rfl (Holds.to (by assumption)))) rfl ?_
  refine OQ.ex rfl (fun w H=>(by first|exact Ex.nilPtr rfl|exact Ex.nilFunc rfl|exact Ex.nilYield rfl)) rfl ?_
  refine OQ.ex rfl (fun w H=>(by first|exact Ex.field0 fld93_1 rfl|exact Ex.field fld93_1 rfl|exact Ex.fieldS fld93_1 rfl)) rfl ?_
  refine OQ.ex rfl (fun w H=>(by first|exact Ex.loadG1 Try.isAgg88 rfl|exact Ex.loadG2 Try.isAgg88 rfl|exact Ex.loadAt Try.isAgg88 rfl|exact Ex.loadCn Try.isAgg88 rfl|exact Ex.loadMo Try.isAgg88 rfl|exact Ex.loadE0 Try.isAgg88 rfl|exact Ex.loadE1 Try.isAgg88 rfl|exact Ex.loadP Try.isAgg88 rfl|exact Ex.loadR Try.isAgg88 rfl|exact Ex.loadIn1 Try.isAgg88 rfl (Holds.to (by assumption)))) rfl ?_
  refine OQ.ex rfl (fun w H=>(Ex.move rfl)) rfl ?_
  refine OQ.ex rfl (fun w H=>(by first|exact Ex.nilPtr rfl|exact Ex.nilFunc rfl|exact Ex.nilYield rfl)) rfl ?_
  refine OQ.ex rfl (fun w H=>(by first|exact Ex.field0 fld90_0 rfl|exact Ex.field fld90_0 rfl|exact Ex.fieldS fld90_0 rfl)) rfl ?_
  refine OQ.ex rfl (fun w H=>(by first|exact Ex.field0 fld42_1 rfl|exact Ex.field fld42_1 rfl|exact Ex.fieldS fld42_1 rfl)) rfl ?_
  refine OQ.ex rfl (fun w H=>(by first|exact Ex.loadG1 Try.isAgg3 rfl|exact Ex.loadG2 Try.isAgg3 rfl|exact Ex.loadAt Try.isAgg3 rfl|exact Ex.loadCn Try.isAgg3 rfl|exact Ex.loadMo Try.isAgg3 rfl|exact Ex.loadE0 Try.isAgg3 rfl|exact Ex.loadE1 Try.isAgg3 rfl|exact Ex.loadP Try.isAgg3 rfl|exact Ex.loadR Try.isAgg3 rfl|exact Ex.loadIn1 Try.isAgg3 rfl (Holds.to (by assumption)))) rfl ?_
  refine OQ.ex rfl (fun w H=>(by first|exact Ex.loadG1 Try.isAgg24 rfl|exact Ex.loadG2 Try.isAgg24 rfl|exact Ex.loadAt Try.isAgg24 rfl|exact Ex.loadCn Try.isAgg24 rfl|exact Ex.loadMo Try.isAgg24 rfl|exact Ex.loadE0 Try.isAgg24 rfl|exact Ex.loadE1 Try.isAgg24 rfl|exact Ex.loadP Try.isAgg24 rfl|exact Ex.loadR Try.isAgg24 rfl|exact Ex.loadIn1 Try.isAgg24 rfl (Holds.to (by assumption)))) rfl ?_
  refine OQ.ex rfl (fun w H=>(by first|exact Ex.nilPtr rfl|exact Ex.nilFunc rfl|exact Ex.nilYield rfl)) rfl ?_
  refine OQ.ex rfl (fun w H=>(by first|exact Ex.field0 fld93_1 rfl|exact Ex.field fld93_1 rfl|exact Ex.fieldS fld93_1 rfl)) rfl ?_
  refine OQ.ex rfl (fun w H=>(by first|exact Ex.loadG1 Try.isAgg88 rfl|exact Ex.loadG2 Try.isAgg88 rfl|exact Ex.loadAt Try.isAgg88 rfl|exact Ex.loadCn Try.isAgg88 rfl|exact Ex.loadMo Try.isAgg88 rfl|exact Ex.loadE0 Try.isAgg88 rfl|exact Ex.loadE1 Try.isAgg88 rfl|exact Ex.loadP Try.isAgg88 rfl|exact Ex.loadR Try.isAgg88 rfl|exact Ex.loadIn1 Try.isAgg88 rfl (Holds.to (by assumption)))) rfl ?_
  refine OQ.ex rfl (fun w H=>(Ex.move rfl)) rfl ?_
  refine OQ.ex rfl (fun w H=>(by first|exact Ex.nilPtr rfl|exact Ex.nilFunc rfl|exact Ex.nilYield rfl)) rfl ?_
  refine OQ.ex rfl (fun w H=>(by first|exact Ex.field0 fld90_0 rfl|exact Ex.field fld90_0 rfl|exact Ex.fieldS fld90_0 rfl)) rfl ?_
  refine OQ.ex rfl (fun w H=>(by first|exact Ex.field0 fld42_1 rfl|exact Ex.field fld42_1 rfl|exact Ex.fieldS fld42_1 rfl)) rfl ?_
  refine OQ.ex rfl (fun w H=>(by first|exact Ex.loadG1 Try.isAgg3 rfl|exact Ex.loadG2 Try.isAgg3 rfl|exact Ex.loadAt Try.isAgg3 rfl|exact Ex.loadCn Try.isAgg3 rfl|exact Ex.loadMo Try.isAgg3 rfl|exact Ex.loadE0 Try.isAgg3 rfl|exact Ex.loadE1 Try.isAgg3 rfl|exact Ex.loadP Try.isAgg3 rfl|exact Ex.loadR Try.isAgg3 rfl|exact Ex.loadIn1 Try.isAgg3 rfl (Holds.to (by assumption)))) rfl ?_
  refine OQ.ex rfl (fun w H=>(by first|exact Ex.idxN Try.runUnderlying88 Try.sizeOf96 rfl rfl|exact Ex.idxSN Try.runUnderlying88 Try.sizeOf96 rfl rfl|exact Ex.idxIn Try.runUnderlying88 Try.sizeOf96 rfl rfl|exact Ex.idx Try.runUnderlying88 Try.sizeOf96 rfl rfl (by omega) (by omega))) rfl ?_
  refine OQ.ex rfl (fun w H=>(by first|exact Ex.field0 fld96_1 rfl|exact Ex.field fld96_1 rfl|exact Ex.fieldS fld96_1 rfl)) rfl ?_
  refine OQ.ex rfl (fun w H=>(by first|exact Ex.loadG1 Try.isAgg28 rfl|exact Ex.loadG2 Try.isAgg28 rfl|exact Ex.loadAt Try.isAgg28 rfl|exact Ex.loadCn Try.isAgg28 rfl|exact Ex.loadMo Try.isAgg28 rfl|exact Ex.loadE0 Try.isAgg28 rfl|exact Ex.loadE1 Try.isAgg28 rfl|exact Ex.loadP Try.isAgg28 rfl|exact Ex.loadR Try.isAgg28 rfl|exact Ex.loadIn1 Try.isAgg28 rfl (Holds.to (by assumption)))) rfl ?_
  refine OQ.ex rfl (fun w H=>(by first|exact Ex.loadG1 Try.isAgg3 rfl|exact Ex.loadG2 Try.isAgg3 rfl|exact Ex.loadAt Try.isAgg3 rfl|exact Ex.loadCn Try.isAgg3 rfl|exact Ex.loadMo Try.isAgg3 rfl|exact Ex.loadE0 Try.isAgg3 rfl|exact Ex.loadE1 Try.isAgg3 rfl|exact Ex.loadP Try.isAgg3 rfl|exact Ex.loadR Try.isAgg3 rfl|exact Ex.loadIn1 Try.isAgg3 rfl (Holds.to (by assumption)))) rfl ?_
  refine OQ.step rfl ?_
  refine O.callF Try.call88 rfl rfl (CT.mono (withoutI_ct (p:=inP s (s id.toNat).a.h) (q:=inP s' (s id.toNat).a.h) p0 p1 (by unfold inP; rw [htk]; exact decide_eq_true rfl) (by unfold inP; rw [htk']; rfl) (fun i hi=>by unfold inP; rw [hot i hi]) (Holds.to (by assumption))) ?_)
  rintro _ w ⟨hu2,H⟩
  rename_i u2
  refine O.thenNil ⟨(by first|exact Holds.to (by assumption)|assumption),?_⟩
  refine OQ.ex rfl (fun w H=>(by first|exact Ex.idxN Try.runUnderlying88 Try.sizeOf96 rfl rfl|exact Ex.idxSN Try.runUnderlying88 Try.sizeOf96 rfl rfl|exact Ex.idxIn Try.runUnderlying88 Try.sizeOf96 rfl rfl|exact Ex.idx Try.runUnderlying88 Try.sizeOf96 rfl rfl (by omega) (by omega))) rfl ?_
  refine OQ.ex rfl (fun w H=>(by first|exact Ex.field0 fld96_1 rfl|exact Ex.field fld96_1 rfl|exact Ex.fieldS fld96_1 rfl)) rfl ?_
  refine OQ.last rfl (by decide +kernel) ?_
  refine O.storeE1 (i:=(s id.toNat).a.h) (n:=n.toNat) (es:=es1) Try.sizeOf28 rfl rfl hu2 (fun w H=>?_)
  refine O.nil ?_
  refine hK2 _ _ _ ?_
  refine W.seq (fun K3 hK3=>?_)
  refine W.region ?_
  have H:=big_in (so:=s') (si:=s) (si':=s') (es:=es1) (u:=u2) k0 k2 lo2 (Holds.to (M:=arr 3 (Value.int .i64) (es1 (s id.toNat).a.h.toNat).1 (lstP (outP s' (s id.toNat).a.h))::arr 3 (Value.int .i64) u2 (lstP (inP s' (s id.toNat).a.h))::bigBut (endF es1 s' s) (List.range n.toNat) (s id.toNat).a.h.toNat::gcel g s (avV ab cap n) (cnt s) most::atc ab n.toNat (upE es1 (s id.toNat).a.h.toNat ((es1 (s id.toNat).a.h.toNat).1,u2))::pt c1 (.cells #[.pointer (some ⟨g,0,none⟩)] 24 (0,0))::pt c2 (.cells #[.int .i64 id] 3 (0,0))::L) H)
  refine O.ex (Ex.move rfl) rfl ?_
  refine O.ex (Ex.build rfl (bld90_  )) rfl ?_
  refine O.ex (by first|exact Ex.nilPtr rfl|exact Ex.nilFunc rfl|exact Ex.nilYield rfl) rfl ?_
  refine O.storeSl (i:=id.toNat) (z:=Sl.zero) Try.sizeOf90 rfl rfl rfl (by omega) (by omega) (fun w H=>?_)
  refine O.nil ?_
  refine hK3 _ _ _ ?_
  refine W.seq (fun K4 hK4=>?_)
  refine W.region ?_
  refine O.ex (by first|exact Ex.loadG1 Try.isAgg24 rfl|exact Ex.loadG2 Try.isAgg24 rfl|exact Ex.loadAt Try.isAgg24 rfl|exact Ex.loadCn Try.isAgg24 rfl|exact Ex.loadMo Try.isAgg24 rfl|exact Ex.loadE0 Try.isAgg24 rfl|exact Ex.loadE1 Try.isAgg24 rfl|exact Ex.loadP Try.isAgg24 rfl|exact Ex.loadR Try.isAgg24 rfl|exact Ex.loadIn1 Try.isAgg24 rfl (Holds.to (by assumption))) rfl ?_
  refine O.ex (by first|exact Ex.nilPtr rfl|exact Ex.nilFunc rfl|exact Ex.nilYield rfl) rfl ?_
  refine O.ex (by first|exact Ex.field0 fld93_2 rfl|exact Ex.field fld93_2 rfl|exact Ex.fieldS fld93_2 rfl) rfl ?_
  refine O.ex (by first|exact Ex.loadG1 Try.isAgg3 rfl|exact Ex.loadG2 Try.isAgg3 rfl|exact Ex.loadAt Try.isAgg3 rfl|exact Ex.loadCn Try.isAgg3 rfl|exact Ex.loadMo Try.isAgg3 rfl|exact Ex.loadE0 Try.isAgg3 rfl|exact Ex.loadE1 Try.isAgg3 rfl|exact Ex.loadP Try.isAgg3 rfl|exact Ex.loadR Try.isAgg3 rfl|exact Ex.loadIn1 Try.isAgg3 rfl (Holds.to (by assumption))) rfl ?_
  refine O.ex (by first|exact Ex.subI rfl rfl|exact Ex.sub rfl rfl rfl) rfl ?_
  refine O.ex (by first|exact Ex.nilPtr rfl|exact Ex.nilFunc rfl|exact Ex.nilYield rfl) rfl ?_
  refine O.ex (by first|exact Ex.field0 fld93_2 rfl|exact Ex.field fld93_2 rfl|exact Ex.fieldS fld93_2 rfl) rfl ?_
  refine O.storeCn Try.sizeOf3 rfl rfl (fun w H=>?_)
  refine O.nil ?_
  refine hK4 _ _ _ ?_
  refine W.seq (fun K5 hK5=>?_)
  refine W.region ?_
  refine O.ex (Ex.assign rfl) rfl ?_
  refine O.nil ?_
  refine hK5 _ _ _ ?_
  refine W.ret ?_
  try dsimp only [thenQ,blockQ,retQ]
  first|refine ⟨_,⟨_,_,rfl,rfl,rfl⟩,?_⟩|(refine retD_mark ?_; intro w H; refine ⟨_,⟨_,_,rfl,rfl,rfl⟩,?_⟩)|(refine retD_mark2 ?_; intro w H; refine ⟨_,⟨_,_,rfl,rfl,rfl⟩,?_⟩)
  refine ⟨rfl,gh_open.2 ⟨ab,cap,upE es1 (s id.toNat).a.h.toNat ((es1 (s id.toNat).a.h.toNat).1,u2),ghO_open.2 ?_⟩⟩
  rw [cnt_del (by omega) htk rfl,← hs']
  rw [← hs'] at H
  exact Holds.to (by assumption)
theorem gdelete_ct {w : World} {g : Nat} {n most id : Int} {s : St} {L : List HProp} (hg : GOk n most s) (H : Holds w (Gh g n most s::L)) :
    CT Try.prog 60 [.pointer (some ⟨g,0,none⟩),.int .i64 id] w fun u w'=>u = .int .i64 (thC s id) ∧ Holds w' (Gh g n most (delS s id)::L):=by
  obtain ⟨ab,cap,es,H⟩:=gh_open.1 H
  have H:=ghO_open.1 H
  refine CT.enter (N:=9) Try.func60 rfl rfl rfl rfl ?_
  refine W.seq (fun K0 hK0=>?_)
  refine W.region ?_
  refine O.boxP rfl (fun b2 w H=>?_)
  refine O.boxP rfl (fun b3 w H=>?_)
  refine O.ex (Ex.assign rfl) rfl ?_
  refine O.nil ?_
  refine hK0 _ _ _ ?_
  refine W.seq (fun K1 hK1=>?_)
  refine W.region ?_
  refine O.ex (by first|exact Ex.loadG1 Try.isAgg24 rfl|exact Ex.loadG2 Try.isAgg24 rfl|exact Ex.loadAt Try.isAgg24 rfl|exact Ex.loadCn Try.isAgg24 rfl|exact Ex.loadMo Try.isAgg24 rfl|exact Ex.loadE0 Try.isAgg24 rfl|exact Ex.loadE1 Try.isAgg24 rfl|exact Ex.loadP Try.isAgg24 rfl|exact Ex.loadR Try.isAgg24 rfl|exact Ex.loadIn1 Try.isAgg24 rfl (Holds.to (by assumption))) rfl ?_
  refine O.ex (by first|exact Ex.loadG1 Try.isAgg3 rfl|exact Ex.loadG2 Try.isAgg3 rfl|exact Ex.loadAt Try.isAgg3 rfl|exact Ex.loadCn Try.isAgg3 rfl|exact Ex.loadMo Try.isAgg3 rfl|exact Ex.loadE0 Try.isAgg3 rfl|exact Ex.loadE1 Try.isAgg3 rfl|exact Ex.loadP Try.isAgg3 rfl|exact Ex.loadR Try.isAgg3 rfl|exact Ex.loadIn1 Try.isAgg3 rfl (Holds.to (by assumption))) rfl ?_
  refine O.ex (Ex.makeFunc rfl rfl) rfl ?_
  refine O.callF Try.call75 rfl rfl (CT.mono (gof_ct (g:=g) (s:=s) (av:=avV ab cap n) (k:=cnt s) (most:=most) (L:=pt b2 (.cells #[.pointer (some ⟨g,0,none⟩)] 24 (0,0))::pt b3 (.cells #[.int .i64 id] 3 (0,0))::atc ab n.toNat es::big (endF es s s) (List.range n.toNat)::L) (R:=fun u w'=>u = .int .i64 (thC s id) ∧ Holds w' (Gh g n most (delS s id)::L)) (Holds.to (by assumption)) (fun hpl htk w' H=>VT.fn Try.call87 ((del1_ct (g:=g) (n:=n) (most:=most) (L:=L) hg hpl htk (by
    have H:=gh_open.2 ⟨ab,cap,es,ghO_open.2 (Holds.to (M:=gcel g s (avV ab cap n) (cnt s) most::atc ab n.toNat es::big (endF es s s) (List.range n.toNat)::pt b2 (.cells #[.pointer (some ⟨g,0,none⟩)] 24 (0,0))::pt b3 (.cells #[.int .i64 id] 3 (0,0))::L) H)⟩
    exact Holds.to H)).mono fun u w' h=>by
      have hc:=thC_zero.2 ⟨hpl,htk⟩
      rw [hc,show delS s id = upS s id.toNat Sl.zero from if_pos hc]; exact h)) (fun w' hc H=>by
      rw [show delS s id = s from if_neg hc]
      exact ⟨rfl,gh_open.2 ⟨ab,cap,es,ghO_open.2 (Holds.to H)⟩⟩)) ?_)
  rintro _ w ⟨rfl,H⟩
  refine O.ex (Ex.assign rfl) rfl ?_
  refine O.nil ?_
  refine hK1 _ _ _ ?_
  refine W.ret ?_
  try dsimp only [thenQ,blockQ,retQ]
  first|refine ⟨_,⟨_,_,rfl,rfl,rfl⟩,?_⟩|(refine retD_mark ?_; intro w H; refine ⟨_,⟨_,_,rfl,rfl,rfl⟩,?_⟩)|(refine retD_mark2 ?_; intro w H; refine ⟨_,⟨_,_,rfl,rfl,rfl⟩,?_⟩)
  exact ⟨rfl,by first|assumption|exact Holds.to (by assumption)⟩
end Go.Proofs.Ytliofdfhimmjmaa
namespace Go.Proofs.Ytliofdfhimmjmaa
open Go.Rr Go Gr
set_option linter.unusedVariables false
theorem turn1_ct {w : World} {g c1 : Nat} {n most id : Int} {b : Bool} {s : St} {L : List HProp} (hpl : pl id) (htk : (s id.toNat).tk = true) (H : Holds w (pt c1 (.cells #[.bool b] 4 (0,0))::Gh g n most s::L)) :
    CT Try.prog 76 [.pointer (some ⟨g,0 + id.toNat * 5,none⟩),.pointer (some ⟨c1,0,none⟩)] w fun u w'=>u = .int .i64 (turnC s id b) ∧ Holds w' (Gh g n most (turnS s id b)::L):=by
  have p0:=hpl.1
  have p1:=hpl.2
  obtain ⟨ab,cap,es,H⟩:=gh_open.1 (Holds.to (M:=Gh g n most s::pt c1 (.cells #[.bool b] 4 (0,0))::L) H)
  have H:=ghO_open.1 H
  have hc:=thC_zero.2 ⟨hpl,htk⟩
  refine CT.enter (N:=16) Try.func76 rfl rfl rfl rfl ?_
  refine W.seq (fun K0 hK0=>?_)
  refine W.region ?_
  refine O.ex (Ex.assign rfl) rfl ?_
  refine O.nil ?_
  refine hK0 _ _ _ ?_
  refine W.seq (fun K1 hK1=>?_)
  refine W.seq (fun K2 hK2=>?_)
  refine W.drawTo _ (.take 0 (.take 1 (.take 2 (.take 3 (.take 4 (.take 5 (.take 6 .nil))))))) (mixed) (fun _ _ _ _ h=>h) (by assumption) (PP.refl _) (by decide +kernel) (fun w H=>?_)
  refine OQ.ex rfl (fun w H=>(Ex.move rfl)) rfl ?_
  refine OQ.ex rfl (fun w H=>(by first|exact Ex.nilPtr rfl|exact Ex.nilFunc rfl|exact Ex.nilYield rfl)) rfl ?_
  refine OQ.ex rfl (fun w H=>(by first|exact Ex.field0 fld90_0 rfl|exact Ex.field fld90_0 rfl|exact Ex.fieldS fld90_0 rfl)) rfl ?_
  refine OQ.ex rfl (fun w H=>(by first|exact Ex.field0 fld42_3 rfl|exact Ex.field fld42_3 rfl|exact Ex.fieldS fld42_3 rfl)) rfl ?_
  refine OQ.ex rfl (fun w H=>(by first|exact Ex.loadG1 Try.isAgg4 rfl|exact Ex.loadG2 Try.isAgg4 rfl|exact Ex.loadAt Try.isAgg4 rfl|exact Ex.loadCn Try.isAgg4 rfl|exact Ex.loadMo Try.isAgg4 rfl|exact Ex.loadE0 Try.isAgg4 rfl|exact Ex.loadE1 Try.isAgg4 rfl|exact Ex.loadP Try.isAgg4 rfl|exact Ex.loadR Try.isAgg4 rfl|exact Ex.loadIn1 Try.isAgg4 rfl (Holds.to (by assumption)))) rfl ?_
  refine OQ.ex rfl (fun w H=>(by first|exact Ex.loadG1 Try.isAgg4 rfl|exact Ex.loadG2 Try.isAgg4 rfl|exact Ex.loadAt Try.isAgg4 rfl|exact Ex.loadCn Try.isAgg4 rfl|exact Ex.loadMo Try.isAgg4 rfl|exact Ex.loadE0 Try.isAgg4 rfl|exact Ex.loadE1 Try.isAgg4 rfl|exact Ex.loadP Try.isAgg4 rfl|exact Ex.loadR Try.isAgg4 rfl|exact Ex.loadIn1 Try.isAgg4 rfl (Holds.to (by assumption)))) rfl ?_
  refine OQ.ex rfl (fun w H=>(Ex.eqlB Try.runUnderlying4 rfl rfl)) rfl ?_
  refine OQ.done ?_
  refine hK2 _ _ _ ?_
  first|refine W.cond_p rfl (fun heq=>?_) (fun hne=>?_)|refine W.cond_b rfl (fun heq=>?_) (fun hne=>?_)
  · refine W.seq (fun K3 hK3=>?_)
    refine W.region ?_
    refine O.ex (Ex.assign rfl) rfl ?_
    refine O.nil ?_
    refine hK3 _ _ _ ?_
    refine W.ret ?_
    try dsimp only [thenQ,blockQ,retQ]
    first|refine ⟨_,⟨_,_,rfl,rfl,rfl⟩,?_⟩|(refine retD_mark ?_; intro w H; refine ⟨_,⟨_,_,rfl,rfl,rfl⟩,?_⟩)|(refine retD_mark2 ?_; intro w H; refine ⟨_,⟨_,_,rfl,rfl,rfl⟩,?_⟩)
    first
    | (have e : turnC s id b = 5:=by unfold turnC; rw [if_pos hc,if_pos heq]
       rw [e,show turnS s id b = s from if_neg (by rw [e]; decide)]
       exact ⟨rfl,gh_open.2 ⟨ab,cap,es,ghO_open.2 (Holds.to (by assumption))⟩⟩)
    | (have e : turnC s id b = 0:=by unfold turnC; rw [if_pos hc,if_neg hne]
       rw [e,show turnS s id b = upS s id.toNat (shut (s id.toNat) b) from if_pos e]
       exact ⟨rfl,gh_same (lists_same rfl rfl rfl) (Holds.to (by assumption))⟩)
  · refine W.skip ?_
    refine hK1 _ _ _ ?_
    refine W.seq (fun K4 hK4=>?_)
    refine W.region ?_
    refine O.ex (Ex.move rfl) rfl ?_
    refine O.ex (by first|exact Ex.loadG1 Try.isAgg4 rfl|exact Ex.loadG2 Try.isAgg4 rfl|exact Ex.loadAt Try.isAgg4 rfl|exact Ex.loadCn Try.isAgg4 rfl|exact Ex.loadMo Try.isAgg4 rfl|exact Ex.loadE0 Try.isAgg4 rfl|exact Ex.loadE1 Try.isAgg4 rfl|exact Ex.loadP Try.isAgg4 rfl|exact Ex.loadR Try.isAgg4 rfl|exact Ex.loadIn1 Try.isAgg4 rfl (Holds.to (by assumption))) rfl ?_
    refine O.ex (by first|exact Ex.nilPtr rfl|exact Ex.nilFunc rfl|exact Ex.nilYield rfl) rfl ?_
    refine O.ex (by first|exact Ex.field0 fld90_0 rfl|exact Ex.field fld90_0 rfl|exact Ex.fieldS fld90_0 rfl) rfl ?_
    refine O.ex (by first|exact Ex.field0 fld42_3 rfl|exact Ex.field fld42_3 rfl|exact Ex.fieldS fld42_3 rfl) rfl ?_
    refine O.storeSl1 (i:=id.toNat) (k:=3) (z:=shut (s id.toNat) b) Try.sizeOf4 rfl rfl (by omega) (by omega) (by omega) rfl (fun j h1 h2=>by
      have : j = 0 ∨ j = 1 ∨ j = 2 ∨ j = 4:=by omega
      rcases this with rfl|rfl|rfl|rfl <;> rfl) (fun w H=>?_)
    refine O.nil ?_
    refine hK4 _ _ _ ?_
    refine W.seq (fun K5 hK5=>?_)
    refine W.region ?_
    refine O.ex (Ex.assign rfl) rfl ?_
    refine O.nil ?_
    refine hK5 _ _ _ ?_
    refine W.ret ?_
    try dsimp only [thenQ,blockQ,retQ]
    first|refine ⟨_,⟨_,_,rfl,rfl,rfl⟩,?_⟩|(refine retD_mark ?_; intro w H; refine ⟨_,⟨_,_,rfl,rfl,rfl⟩,?_⟩)|(refine retD_mark2 ?_; intro w H; refine ⟨_,⟨_,_,rfl,rfl,rfl⟩,?_⟩)
    first
    | (have e : turnC s id b = 5:=by unfold turnC; rw [if_pos hc,if_pos heq]
       rw [e,show turnS s id b = s from if_neg (by rw [e]; decide)]
       exact ⟨rfl,gh_open.2 ⟨ab,cap,es,ghO_open.2 (Holds.to (by assumption))⟩⟩)
    | (have e : turnC s id b = 0:=by unfold turnC; rw [if_pos hc,if_neg hne]
       rw [e,show turnS s id b = upS s id.toNat (shut (s id.toNat) b) from if_pos e]
       exact ⟨rfl,gh_same (lists_same rfl rfl rfl) (Holds.to (by assumption))⟩)
theorem gturn_ct {w : World} {g : Nat} {n most id : Int} {b : Bool} {s : St} {L : List HProp} (H : Holds w (Gh g n most s::L)) :
    CT Try.prog 47 [.pointer (some ⟨g,0,none⟩),.int .i64 id,.bool b] w fun u w'=>u = .int .i64 (turnC s id b) ∧ Holds w' (Gh g n most (turnS s id b)::L):=by
  obtain ⟨ab,cap,es,H⟩:=gh_open.1 H
  have H:=ghO_open.1 H
  refine CT.enter (N:=11) Try.func47 rfl rfl rfl rfl ?_
  refine W.seq (fun K0 hK0=>?_)
  refine W.region ?_
  refine O.boxP rfl (fun b5 w H=>?_)
  refine O.ex (Ex.assign rfl) rfl ?_
  refine O.nil ?_
  refine hK0 _ _ _ ?_
  refine W.seq (fun K1 hK1=>?_)
  refine W.region ?_
  refine O.ex (Ex.move rfl) rfl ?_
  refine O.ex (Ex.move rfl) rfl ?_
  refine O.ex (Ex.makeFunc rfl rfl) rfl ?_
  refine O.callF Try.call75 rfl rfl (CT.mono (gof_ct (g:=g) (s:=s) (av:=avV ab cap n) (k:=cnt s) (most:=most) (L:=pt b5 (.cells #[.bool b] 4 (0,0))::atc ab n.toNat es::big (endF es s s) (List.range n.toNat)::L) (R:=fun u w'=>u = .int .i64 (turnC s id b) ∧ Holds w' (Gh g n most (turnS s id b)::L)) (Holds.to (by assumption)) (fun hpl htk w' H=>VT.fn Try.call76 (turn1_ct (g:=g) (n:=n) (most:=most) (L:=L) hpl htk (by
    have H:=gh_open.2 ⟨ab,cap,es,ghO_open.2 (Holds.to (M:=gcel g s (avV ab cap n) (cnt s) most::atc ab n.toNat es::big (endF es s s) (List.range n.toNat)::pt b5 (.cells #[.bool b] 4 (0,0))::L) H)⟩
    exact Holds.to H))) (fun w' hc H=>by
      have e : turnC s id b = thC s id:=if_neg hc
      rw [e,show turnS s id b = s from if_neg (by rw [e]; exact hc)]
      exact ⟨rfl,gh_open.2 ⟨ab,cap,es,ghO_open.2 (Holds.to H)⟩⟩)) ?_)
  rintro _ w ⟨rfl,H⟩
  refine O.ex (Ex.assign rfl) rfl ?_
  refine O.nil ?_
  refine hK1 _ _ _ ?_
  refine W.ret ?_
  try dsimp only [thenQ,blockQ,retQ]
  first|refine ⟨_,⟨_,_,rfl,rfl,rfl⟩,?_⟩|(refine retD_mark ?_; intro w H; refine ⟨_,⟨_,_,rfl,rfl,rfl⟩,?_⟩)|(refine retD_mark2 ?_; intro w H; refine ⟨_,⟨_,_,rfl,rfl,rfl⟩,?_⟩)
  exact ⟨rfl,by first|assumption|exact Holds.to (by assumption)⟩
theorem gClose_ct {w : World} {g : Nat} {n most id : Int} {s : St} {L : List HProp} (H : Holds w (Gh g n most s::L)) :
    CT Try.prog 23 [.pointer (some ⟨g,0,none⟩),.int .i64 id] w fun u w'=>u = .int .i64 (turnC s id true) ∧ Holds w' (Gh g n most (turnS s id true)::L):=by
  refine CT.enter (N:=8) Try.func23 rfl rfl rfl rfl ?_
  refine W.seq (fun K0 hK0=>?_)
  refine W.region ?_
  refine O.ex (Ex.assign rfl) rfl ?_
  refine O.nil ?_
  refine hK0 _ _ _ ?_
  refine W.seq (fun K1 hK1=>?_)
  refine W.region ?_
  refine O.ex (Ex.move rfl) rfl ?_
  refine O.ex (Ex.move rfl) rfl ?_
  refine O.callF Try.call47 rfl rfl (CT.mono (gturn_ct (Holds.to (by assumption))) ?_)
  rintro _ w ⟨rfl,H⟩
  refine O.ex (Ex.assign rfl) rfl ?_
  refine O.nil ?_
  refine hK1 _ _ _ ?_
  refine W.ret ?_
  try dsimp only [thenQ,blockQ,retQ]
  first|refine ⟨_,⟨_,_,rfl,rfl,rfl⟩,?_⟩|(refine retD_mark ?_; intro w H; refine ⟨_,⟨_,_,rfl,rfl,rfl⟩,?_⟩)|(refine retD_mark2 ?_; intro w H; refine ⟨_,⟨_,_,rfl,rfl,rfl⟩,?_⟩)
  exact ⟨rfl,by first|assumption|exact Holds.to (by assumption)⟩
theorem gReopen_ct {w : World} {g : Nat} {n most id : Int} {s : St} {L : List HProp} (H : Holds w (Gh g n most s::L)) :
    CT Try.prog 24 [.pointer (some ⟨g,0,none⟩),.int .i64 id] w fun u w'=>u = .int .i64 (turnC s id false) ∧ Holds w' (Gh g n most (turnS s id false)::L):=by
  refine CT.enter (N:=8) Try.func24 rfl rfl rfl rfl ?_
  refine W.seq (fun K0 hK0=>?_)
  refine W.region ?_
  refine O.ex (Ex.assign rfl) rfl ?_
  refine O.nil ?_
  refine hK0 _ _ _ ?_
  refine W.seq (fun K1 hK1=>?_)
  refine W.region ?_
  refine O.ex (Ex.move rfl) rfl ?_
  refine O.ex (Ex.move rfl) rfl ?_
  refine O.callF Try.call47 rfl rfl (CT.mono (gturn_ct (Holds.to (by assumption))) ?_)
  rintro _ w ⟨rfl,H⟩
  refine O.ex (Ex.assign rfl) rfl ?_
  refine O.nil ?_
  refine hK1 _ _ _ ?_
  refine W.ret ?_
  try dsimp only [thenQ,blockQ,retQ]
  first|refine ⟨_,⟨_,_,rfl,rfl,rfl⟩,?_⟩|(refine retD_mark ?_; intro w H; refine ⟨_,⟨_,_,rfl,rfl,rfl⟩,?_⟩)|(refine retD_mark2 ?_; intro w H; refine ⟨_,⟨_,_,rfl,rfl,rfl⟩,?_⟩)
  exact ⟨rfl,by first|assumption|exact Holds.to (by assumption)⟩
theorem weigh1_ct {w : World} {g c1 : Nat} {n most id v : Int} {s : St} {L : List HProp} (hpl : pl id) (htk : (s id.toNat).tk = true) (H : Holds w (pt c1 (.cells #[.int .i64 v] 3 (0,0))::Gh g n most s::L)) :
    CT Try.prog 89 [.pointer (some ⟨g,0 + id.toNat * 5,none⟩),.pointer (some ⟨c1,0,none⟩)] w fun u w'=>u = .int .i64 0 ∧ Holds w' (Gh g n most (upS s id.toNat (wgt (s id.toNat) v))::L):=by
  have p0:=hpl.1
  have p1:=hpl.2
  obtain ⟨ab,cap,es,H⟩:=gh_open.1 (Holds.to (M:=Gh g n most s::pt c1 (.cells #[.int .i64 v] 3 (0,0))::L) H)
  have H:=ghO_open.1 H
  refine CT.enter (N:=9) Try.func89 rfl rfl rfl rfl ?_
  refine W.seq (fun K0 hK0=>?_)
  refine W.region ?_
  refine O.ex (Ex.assign rfl) rfl ?_
  refine O.nil ?_
  refine hK0 _ _ _ ?_
  refine W.seq (fun K1 hK1=>?_)
  refine W.region ?_
  refine O.ex (Ex.move rfl) rfl ?_
  refine O.ex (by first|exact Ex.loadG1 Try.isAgg3 rfl|exact Ex.loadG2 Try.isAgg3 rfl|exact Ex.loadAt Try.isAgg3 rfl|exact Ex.loadCn Try.isAgg3 rfl|exact Ex.loadMo Try.isAgg3 rfl|exact Ex.loadE0 Try.isAgg3 rfl|exact Ex.loadE1 Try.isAgg3 rfl|exact Ex.loadP Try.isAgg3 rfl|exact Ex.loadR Try.isAgg3 rfl|exact Ex.loadIn1 Try.isAgg3 rfl (Holds.to (by assumption))) rfl ?_
  refine O.ex (by first|exact Ex.nilPtr rfl|exact Ex.nilFunc rfl|exact Ex.nilYield rfl) rfl ?_
  refine O.ex (by first|exact Ex.field0 fld90_0 rfl|exact Ex.field fld90_0 rfl|exact Ex.fieldS fld90_0 rfl) rfl ?_
  refine O.ex (by first|exact Ex.field0 fld42_2 rfl|exact Ex.field fld42_2 rfl|exact Ex.fieldS fld42_2 rfl) rfl ?_
  refine O.storeSl1 (i:=id.toNat) (k:=2) (z:=wgt (s id.toNat) v) Try.sizeOf3 rfl rfl (by omega) (by omega) (by omega) rfl (fun j h1 h2=>by
    have : j = 0 ∨ j = 1 ∨ j = 3 ∨ j = 4:=by omega
    rcases this with rfl|rfl|rfl|rfl <;> rfl) (fun w H=>?_)
  refine O.nil ?_
  refine hK1 _ _ _ ?_
  refine W.seq (fun K2 hK2=>?_)
  refine W.region ?_
  refine O.ex (Ex.assign rfl) rfl ?_
  refine O.nil ?_
  refine hK2 _ _ _ ?_
  refine W.ret ?_
  try dsimp only [thenQ,blockQ,retQ]
  first|refine ⟨_,⟨_,_,rfl,rfl,rfl⟩,?_⟩|(refine retD_mark ?_; intro w H; refine ⟨_,⟨_,_,rfl,rfl,rfl⟩,?_⟩)|(refine retD_mark2 ?_; intro w H; refine ⟨_,⟨_,_,rfl,rfl,rfl⟩,?_⟩)
  exact ⟨rfl,gh_same (lists_same rfl rfl rfl) (Holds.to (by assumption))⟩
theorem gweigh_ct {w : World} {g : Nat} {n most id v : Int} {s : St} {L : List HProp} (H : Holds w (Gh g n most s::L)) :
    CT Try.prog 61 [.pointer (some ⟨g,0,none⟩),.int .i64 id,.int .i64 v] w fun u w'=>u = .int .i64 (weighC s id v) ∧ Holds w' (Gh g n most (weighS s id v)::L):=by
  obtain ⟨ab,cap,es,H⟩:=gh_open.1 H
  have H:=ghO_open.1 H
  refine CT.enter (N:=14) Try.func61 rfl rfl rfl rfl ?_
  refine W.seq (fun K0 hK0=>?_)
  refine W.region ?_
  refine O.boxP rfl (fun b5 w H=>?_)
  refine O.ex (Ex.assign rfl) rfl ?_
  refine O.nil ?_
  refine hK0 _ _ _ ?_
  refine W.seq (fun K1 hK1=>?_)
  refine W.seq (fun K2 hK2=>?_)
  refine W.region ?_
  refine O.ex (by first|exact Ex.loadG1 Try.isAgg3 rfl|exact Ex.loadG2 Try.isAgg3 rfl|exact Ex.loadAt Try.isAgg3 rfl|exact Ex.loadCn Try.isAgg3 rfl|exact Ex.loadMo Try.isAgg3 rfl|exact Ex.loadE0 Try.isAgg3 rfl|exact Ex.loadE1 Try.isAgg3 rfl|exact Ex.loadP Try.isAgg3 rfl|exact Ex.loadR Try.isAgg3 rfl|exact Ex.loadIn1 Try.isAgg3 rfl (Holds.to (by assumption))) rfl ?_
  refine O.callF Try.call58 rfl rfl (CT.mono (weight_ct (Holds.to (by assumption))) ?_)
  rintro _ w ⟨rfl,H⟩
  refine O.ex (by first|exact Ex.notD rfl|exact Ex.not rfl) rfl ?_
  refine O.nil ?_
  refine hK2 _ _ _ ?_
  first|refine W.cond_p rfl (fun hbad=>?_) (fun hok=>?_)|refine W.cond_b rfl (fun hbad=>?_) (fun hok=>?_)
  · refine W.seq (fun K3 hK3=>?_)
    refine W.region ?_
    refine O.ex (Ex.assign rfl) rfl ?_
    refine O.nil ?_
    refine hK3 _ _ _ ?_
    refine W.ret ?_
    try dsimp only [thenQ,blockQ,retQ]
    first|refine ⟨_,⟨_,_,rfl,rfl,rfl⟩,?_⟩|(refine retD_mark ?_; intro w H; refine ⟨_,⟨_,_,rfl,rfl,rfl⟩,?_⟩)|(refine retD_mark2 ?_; intro w H; refine ⟨_,⟨_,_,rfl,rfl,rfl⟩,?_⟩)
    first
    | exact ⟨rfl,Holds.to (by assumption)⟩
    | (have e : weighC s id v = 1:=if_pos hbad
       rw [e,show weighS s id v = s from if_neg (by rw [e]; decide)]
       exact ⟨rfl,gh_open.2 ⟨ab,cap,es,ghO_open.2 (Holds.to (by assumption))⟩⟩)
  · refine W.skip ?_
    refine hK1 _ _ _ ?_
    refine W.seq (fun K4 hK4=>?_)
    refine W.region ?_
    have hw : wOk v:=Decidable.not_not.1 hok
    have hwc : weighC s id v = thC s id:=if_neg (fun hh=>hh hw)
    refine O.ex (Ex.move rfl) rfl ?_
    refine O.ex (Ex.move rfl) rfl ?_
    refine O.ex (Ex.makeFunc rfl rfl) rfl ?_
    refine O.callF Try.call75 rfl rfl (CT.mono (gof_ct (g:=g) (s:=s) (av:=avV ab cap n) (k:=cnt s) (most:=most) (L:=pt b5 (.cells #[.int .i64 v] 3 (0,0))::atc ab n.toNat es::big (endF es s s) (List.range n.toNat)::L) (R:=fun u w'=>u = .int .i64 (weighC s id v) ∧ Holds w' (Gh g n most (weighS s id v)::L)) (Holds.to (by assumption)) (fun hpl htk w' H=>VT.fn Try.call89 ((weigh1_ct (g:=g) (n:=n) (most:=most) (L:=L) hpl htk (by
      have H:=gh_open.2 ⟨ab,cap,es,ghO_open.2 (Holds.to (M:=gcel g s (avV ab cap n) (cnt s) most::atc ab n.toNat es::big (endF es s s) (List.range n.toNat)::pt b5 (.cells #[.int .i64 v] 3 (0,0))::L) H)⟩
      exact Holds.to H)).mono fun u w' h=>by
        have hc:=thC_zero.2 ⟨hpl,htk⟩
        rw [hwc,hc,show weighS s id v = upS s id.toNat (wgt (s id.toNat) v) from if_pos (by rw [hwc]; exact hc)]; exact h)) (fun w' hc H=>by
        rw [hwc,show weighS s id v = s from if_neg (by rw [hwc]; exact hc)]
        exact ⟨rfl,gh_open.2 ⟨ab,cap,es,ghO_open.2 (Holds.to H)⟩⟩)) ?_)
    rintro _ w ⟨rfl,H⟩
    refine O.ex (Ex.assign rfl) rfl ?_
    refine O.nil ?_
    refine hK4 _ _ _ ?_
    refine W.ret ?_
    try dsimp only [thenQ,blockQ,retQ]
    first|refine ⟨_,⟨_,_,rfl,rfl,rfl⟩,?_⟩|(refine retD_mark ?_; intro w H; refine ⟨_,⟨_,_,rfl,rfl,rfl⟩,?_⟩)|(refine retD_mark2 ?_; intro w H; refine ⟨_,⟨_,_,rfl,rfl,rfl⟩,?_⟩)
    first
    | exact ⟨rfl,Holds.to (by assumption)⟩
    | (have e : weighC s id v = 1:=if_pos hbad
       rw [e,show weighS s id v = s from if_neg (by rw [e]; decide)]
       exact ⟨rfl,gh_open.2 ⟨ab,cap,es,ghO_open.2 (Holds.to (by assumption))⟩⟩)
def arcQ (s : St) (id : Int) : Arc:=if pl id then (s id.toNat).a else Arc.zero
def thB (s : St) (id : Int) : Bool:=decide (pl id) && (s id.toNat).tk
theorem garcO_ct {w : World} {g : Nat} {av : Value} {k most id : Int} {s : St} {L : List HProp} (H : Holds w (gcel g s av k most::L)) :
    CT Try.prog 40 [.pointer (some ⟨g,0,none⟩),.int .i64 id] w fun u w'=>u = .tuple #[(arcQ s id).val,.bool (thB s id)] ∧ Holds w' (gcel g s av k most::L):=by
  refine CT.enter (N:=24) Try.func40 rfl rfl rfl rfl ?_
  refine W.seq (fun K0 hK0=>?_)
  refine W.region ?_
  refine O.allocP Try.zeroValue42 (fun b4 w H=>?_)
  refine O.ex (Ex.assign rfl) rfl ?_
  refine O.nil ?_
  refine hK0 _ _ _ ?_
  refine W.seq (fun K1 hK1=>?_)
  refine W.seq (fun K2 hK2=>?_)
  refine W.region ?_
  refine O.ex (Ex.move rfl) rfl ?_
  refine O.callF Try.call56 rfl rfl (CT.mono (place_ct (Holds.to (by assumption))) ?_)
  rintro _ w ⟨rfl,H⟩
  refine O.ex (by first|exact Ex.notD rfl|exact Ex.not rfl) rfl ?_
  refine O.nil ?_
  refine hK2 _ _ _ ?_
  first|refine W.cond_p rfl (fun hA=>?_) (fun hB=>?_)|refine W.cond_b rfl (fun hA=>?_) (fun hB=>?_)
  · refine W.seq (fun K3 hK3=>?_)
    refine W.region ?_
    refine O.ex (Ex.build rfl (bld42_  )) rfl ?_
    first|refine O.storeAggP Try.sizeOf42 rfl rfl rfl rfl (fun w H=>?_)|refine O.storeAggN Try.sizeOf42 rfl rfl rfl (fun w H=>?_) rfl
    refine O.ex (Ex.assign rfl) rfl ?_
    refine O.nil ?_
    refine hK3 _ _ _ ?_
    refine W.ret ?_
    try dsimp only [thenQ,blockQ,retQ]
    first|refine ⟨_,⟨_,_,_,rfl,rfl,loadVar_agg Try.isAgg42 Try.sizeOf42,_,_,rfl,rfl,rfl⟩,?_⟩|(refine retD_mark ?_; intro w H; refine ⟨_,⟨_,_,_,rfl,rfl,loadVar_agg Try.isAgg42 Try.sizeOf42,_,_,rfl,rfl,rfl⟩,?_⟩)|(refine retD_mark2 ?_; intro w H; refine ⟨_,⟨_,_,_,rfl,rfl,loadVar_agg Try.isAgg42 Try.sizeOf42,_,_,rfl,rfl,rfl⟩,?_⟩)
    first
    | (unfold thB
       rw [decide_eq_false hA,show arcQ s id = Arc.zero from if_neg hA]
       exact ⟨rfl,Holds.to (by assumption)⟩)
    | (unfold thB
       rw [decide_eq_true hpl,eq]
       exact ⟨rfl,Holds.to (by assumption)⟩)
  · refine W.skip ?_
    refine hK1 _ _ _ ?_
    refine W.seq (fun K4 hK4=>?_)
    have hpl : pl id:=Decidable.not_not.1 hB
    have p0:=hpl.1
    have p1:=hpl.2
    have eq : arcQ s id = (s id.toNat).a:=if_pos hpl
    refine W.drawTo (gcel g s av k most::[]) (.take 0 (.take 1 (.take 2 (.take 3 (.take 4 (.take 5 (.take 6 (.take 7 (.take 8 (.take 9 (.take 10 (.take 11 (.take 12 (.take 13 (.one 14 (.take 15 .nil)))))))))))))))) (mixed) (fun _ _ _ _ h=>h) (by assumption) PP.auto (by decide +kernel) (fun w H=>?_)
    refine OQ.ex rfl (fun w H=>(Ex.move rfl)) rfl ?_
    refine OQ.ex rfl (fun w H=>(Ex.move rfl)) rfl ?_
    refine OQ.ex rfl (fun w H=>(by first|exact Ex.nilPtr rfl|exact Ex.nilFunc rfl|exact Ex.nilYield rfl)) rfl ?_
    refine OQ.ex rfl (fun w H=>(by first|exact Ex.field0 fld93_0 rfl|exact Ex.field fld93_0 rfl|exact Ex.fieldS fld93_0 rfl)) rfl ?_
    refine OQ.ex rfl (fun w H=>(Ex.idxArr Try.runUnderlying91 Try.sizeOf90 rfl rfl)) rfl ?_
    refine OQ.ex rfl (fun w H=>(by first|exact Ex.field0 fld90_0 rfl|exact Ex.field fld90_0 rfl|exact Ex.fieldS fld90_0 rfl)) rfl ?_
    refine OQ.ex rfl (fun w H=>(by first|exact Ex.loadArc Try.isAgg42 Try.sizeOf42 rfl|exact Ex.loadAggP Try.isAgg42 Try.sizeOf42 rfl|exact Ex.loadAggN Try.isAgg42 Try.sizeOf42 rfl|exact Ex.loadIn Try.isAgg42 Try.sizeOf42 rfl (Holds.to (by assumption)))) rfl ?_
    refine OQ.ex rfl (fun w H=>(Ex.move rfl)) rfl ?_
    refine OQ.ex rfl (fun w H=>(Ex.move rfl)) rfl ?_
    refine OQ.ex rfl (fun w H=>(by first|exact Ex.nilPtr rfl|exact Ex.nilFunc rfl|exact Ex.nilYield rfl)) rfl ?_
    refine OQ.ex rfl (fun w H=>(by first|exact Ex.field0 fld93_0 rfl|exact Ex.field fld93_0 rfl|exact Ex.fieldS fld93_0 rfl)) rfl ?_
    refine OQ.ex rfl (fun w H=>(Ex.idxArr Try.runUnderlying91 Try.sizeOf90 rfl rfl)) rfl ?_
    refine OQ.ex rfl (fun w H=>(by first|exact Ex.field0 fld90_1 rfl|exact Ex.field fld90_1 rfl|exact Ex.fieldS fld90_1 rfl)) rfl ?_
    refine OQ.ex rfl (fun w H=>(by first|exact Ex.loadG1 Try.isAgg4 rfl|exact Ex.loadG2 Try.isAgg4 rfl|exact Ex.loadAt Try.isAgg4 rfl|exact Ex.loadCn Try.isAgg4 rfl|exact Ex.loadMo Try.isAgg4 rfl|exact Ex.loadE0 Try.isAgg4 rfl|exact Ex.loadE1 Try.isAgg4 rfl|exact Ex.loadP Try.isAgg4 rfl|exact Ex.loadR Try.isAgg4 rfl|exact Ex.loadIn1 Try.isAgg4 rfl (Holds.to (by assumption)))) rfl ?_
    refine OQ.step rfl ?_
    first|refine O.storeAggP Try.sizeOf42 rfl rfl rfl rfl (fun w H=>?_)|refine O.storeAggN Try.sizeOf42 rfl rfl rfl (fun w H=>?_) rfl
    refine O.thenNil ⟨(by first|exact Holds.to (by assumption)|assumption),?_⟩
    refine OQ.ex rfl (fun w H=>(Ex.assign rfl)) rfl ?_
    refine OQ.done ?_
    refine hK4 _ _ _ ?_
    refine W.ret ?_
    try dsimp only [thenQ,blockQ,retQ]
    first|refine ⟨_,⟨_,_,_,rfl,rfl,loadVar_agg Try.isAgg42 Try.sizeOf42,_,_,rfl,rfl,rfl⟩,?_⟩|(refine retD_mark ?_; intro w H; refine ⟨_,⟨_,_,_,rfl,rfl,loadVar_agg Try.isAgg42 Try.sizeOf42,_,_,rfl,rfl,rfl⟩,?_⟩)|(refine retD_mark2 ?_; intro w H; refine ⟨_,⟨_,_,_,rfl,rfl,loadVar_agg Try.isAgg42 Try.sizeOf42,_,_,rfl,rfl,rfl⟩,?_⟩)
    first
    | (unfold thB
       rw [decide_eq_false hA,show arcQ s id = Arc.zero from if_neg hA]
       exact ⟨rfl,Holds.to (by assumption)⟩)
    | (unfold thB
       rw [decide_eq_true hpl,eq]
       exact ⟨rfl,Holds.to (by assumption)⟩)
theorem garc_ct {w : World} {g : Nat} {n most id : Int} {s : St} {L : List HProp} (H : Holds w (Gh g n most s::L)) :
    CT Try.prog 40 [.pointer (some ⟨g,0,none⟩),.int .i64 id] w fun u w'=>u = .tuple #[(arcQ s id).val,.bool (thB s id)] ∧ Holds w' (Gh g n most s::L):=by
  obtain ⟨ab,cap,es,H⟩:=gh_open.1 H
  exact (garcO_ct (ghO_open.1 H)).mono fun u w' h=>⟨h.1,gh_open.2 ⟨ab,cap,es,ghO_open.2 h.2⟩⟩
theorem gvertices_ct {w : World} {g : Nat} {n most : Int} {s : St} {L : List HProp} (hn : 0 ≤ n) (H : Holds w (Gh g n most s::L)) :
    CT Try.prog 66 [.pointer (some ⟨g,0,none⟩)] w fun u w'=>u = .int .i64 n ∧ Holds w' (Gh g n most s::L):=by
  obtain ⟨ab,cap,es,H⟩:=gh_open.1 H
  have H:=ghO_open.1 H
  refine CT.enter (N:=8) Try.func66 rfl rfl rfl rfl ?_
  refine W.seq (fun K0 hK0=>?_)
  refine W.region ?_
  refine O.ex (Ex.assign rfl) rfl ?_
  refine O.nil ?_
  refine hK0 _ _ _ ?_
  refine W.seq (fun K1 hK1=>?_)
  refine W.region ?_
  refine O.ex (Ex.move rfl) rfl ?_
  refine O.ex (by first|exact Ex.nilPtr rfl|exact Ex.nilFunc rfl|exact Ex.nilYield rfl) rfl ?_
  refine O.ex (by first|exact Ex.field0 fld93_1 rfl|exact Ex.field fld93_1 rfl|exact Ex.fieldS fld93_1 rfl) rfl ?_
  refine O.ex (by first|exact Ex.loadG1 Try.isAgg88 rfl|exact Ex.loadG2 Try.isAgg88 rfl|exact Ex.loadAt Try.isAgg88 rfl|exact Ex.loadCn Try.isAgg88 rfl|exact Ex.loadMo Try.isAgg88 rfl|exact Ex.loadE0 Try.isAgg88 rfl|exact Ex.loadE1 Try.isAgg88 rfl|exact Ex.loadP Try.isAgg88 rfl|exact Ex.loadR Try.isAgg88 rfl|exact Ex.loadIn1 Try.isAgg88 rfl (Holds.to (by assumption))) rfl ?_
  refine O.ex (by first|exact Ex.lenN Try.runUnderlying88 rfl|exact Ex.lenIn Try.runUnderlying88 rfl|exact Ex.lenL Try.runUnderlying88 rfl|exact Ex.len rfl Try.runUnderlying88 rfl) rfl ?_
  refine O.ex (Ex.assign rfl) rfl ?_
  refine O.nil ?_
  refine hK1 _ _ _ ?_
  refine W.ret ?_
  try dsimp only [thenQ,blockQ,retQ]
  first|refine ⟨_,⟨_,_,rfl,rfl,rfl⟩,?_⟩|(refine retD_mark ?_; intro w H; refine ⟨_,⟨_,_,rfl,rfl,rfl⟩,?_⟩)|(refine retD_mark2 ?_; intro w H; refine ⟨_,⟨_,_,rfl,rfl,rfl⟩,?_⟩)
  exact ⟨congrArg (Value.int .i64) (Int.toNat_of_nonneg hn),gh_open.2 ⟨ab,cap,es,ghO_open.2 (Holds.to (by assumption))⟩⟩
end Go.Proofs.Ytliofdfhimmjmaa
namespace Go.Proofs.Ytliofdfhimmjmaa
open Go.Rr Go Gr
set_option linter.unusedVariables false
theorem lo_len (p : Nat → Bool) (k : Nat) : (lo p k).length ≤ k:=by
  unfold lo; rw [List.length_map]
  have:=List.length_filter_le p (List.range k)
  simpa using this
theorem lo_succ (p : Nat → Bool) (k : Nat) : lo p (k + 1) = lo p k ++ (if p k = true then [(k : Int)] else []):=by
  unfold lo
  rw [List.range_succ,List.filter_append,List.map_append]
  congr 1
  by_cases h : p k = true
  · rw [List.filter_cons_of_pos h,if_pos h]; rfl
  · rw [List.filter_cons_of_neg h,if_neg h]; rfl
theorem values_ct {w : World} {v : Value} {L : List HProp} (hv : v.oneCell' = true) (H : Holds w L) : CT Try.prog 74 [v] w fun u w'=>∃ b,u = .func (.func 99) #[] #[.pointer (some ⟨b,0,none⟩)] ∧ Holds w' (pt b (.cells #[v] 28 (0,0))::L):=by
  refine CT.enter (N:=4) Try.func74 rfl rfl rfl rfl ?_
  refine W.seq (fun K0 hK0=>?_)
  refine W.region ?_
  refine O.boxP rfl (fun b1 w H=>?_)
  rw [cells_one hv] at H
  refine O.ex (Ex.assign rfl) rfl ?_
  refine O.nil ?_
  refine hK0 _ _ _ ?_
  refine W.seq (fun K1 hK1=>?_)
  refine W.region ?_
  refine O.ex (Ex.makeFunc rfl rfl) rfl ?_
  refine O.ex (Ex.assign rfl) rfl ?_
  refine O.nil ?_
  refine hK1 _ _ _ ?_
  refine W.ret ?_
  try dsimp only [thenQ,blockQ,retQ]
  first|refine ⟨_,⟨_,_,rfl,rfl,rfl⟩,?_⟩|(refine retD_mark ?_; intro w H; refine ⟨_,⟨_,_,rfl,rfl,rfl⟩,?_⟩)|(refine retD_mark2 ?_; intro w H; refine ⟨_,⟨_,_,rfl,rfl,rfl⟩,?_⟩)
  exact ⟨_,rfl,Holds.to (by assumption)⟩
theorem values1_ct {w : World} {b : Nat} {v fv : Value} {xs : List Int} {J : Nat → List HProp} {φ : Nat → Prop} {S : World → Prop} (hl : xs.length ≤ 1000) (hφ : φ 0) (H : Holds w (pt b (.cells #[v] 28 (0,0))::arr 3 (Value.int .i64) v xs::J 0))
    (hy : ∀ (i : Nat) w,i < xs.length → φ i → Holds w (pt b (.cells #[v] 28 (0,0))::arr 3 (Value.int .i64) v xs::J i) → VT Try.prog fv [.int .i64 (xs.getD i default)] w fun u w'=>(u = .bool true ∧ φ (i + 1) ∧ Holds w' (pt b (.cells #[v] 28 (0,0))::arr 3 (Value.int .i64) v xs::J (i + 1))) ∨ (u = .bool false ∧ S w')) :
    CT Try.prog 99 [fv,.pointer (some ⟨b,0,none⟩)] w fun _ w'=>(φ xs.length ∧ Holds w' (pt b (.cells #[v] 28 (0,0))::arr 3 (Value.int .i64) v xs::J xs.length)) ∨ S w':=by
  refine CT.enter (N:=16) Try.func99 rfl rfl rfl rfl ?_
  refine W.seq (fun K0 hK0=>?_)
  refine W.region ?_
  refine O.ex (by first|exact Ex.loadG1 Try.isAgg28 rfl|exact Ex.loadG2 Try.isAgg28 rfl|exact Ex.loadAt Try.isAgg28 rfl|exact Ex.loadCn Try.isAgg28 rfl|exact Ex.loadMo Try.isAgg28 rfl|exact Ex.loadE0 Try.isAgg28 rfl|exact Ex.loadE1 Try.isAgg28 rfl|exact Ex.loadP Try.isAgg28 rfl|exact Ex.loadR Try.isAgg28 rfl|exact Ex.loadIn1 Try.isAgg28 rfl (Holds.to (by assumption))) rfl ?_
  refine O.ex (by first|exact Ex.lenR Try.runUnderlying28 rfl|exact Ex.lenIn Try.runUnderlying28 rfl|exact Ex.lenL Try.runUnderlying28 rfl|exact Ex.len rfl Try.runUnderlying28 rfl) rfl ?_
  refine O.ex (Ex.move rfl) rfl ?_
  refine O.nil ?_
  refine hK0 _ _ _ ?_
  refine W.block ?_
  refine W.loop (σ:=Nat) (fun i=>[(0,fv),(5,v),(6,.int .i64 xs.length),(7,.int .i64 (i : Int))]) (fun i ds w=>ds = [] ∧ i ≤ xs.length ∧ φ i ∧ Holds w (pt b (.cells #[v] 28 (0,0))::arr 3 (Value.int .i64) v xs::J i)) (fun i=>xs.length - i) 0 ⟨rfl,rfl,rfl,rfl,trivial⟩ ⟨rfl,by omega,hφ,Holds.to (by assumption)⟩ ?_
  clear H
  rintro i _ w ⟨rfl,hi,hφi,H⟩
  refine W.seq (fun K1 hK1=>?_)
  refine W.region ?_
  refine O.ex (Ex.lss rfl rfl) rfl ?_
  refine O.nil ?_
  refine hK1 _ _ _ ?_
  refine W.seq (fun K2 hK2=>?_)
  first|refine W.cond_p rfl (fun hlt=>?_) (fun hge=>?_)|refine W.cond_b rfl (fun hlt=>?_) (fun hge=>?_)
  · refine W.skip ?_
    refine hK2 _ _ _ ?_
    refine W.seq (fun K3 hK3=>?_)
    refine W.block ?_
    refine W.seq (fun K4 hK4=>?_)
    refine W.region ?_
    refine O.ex (by first|exact Ex.idxR Try.runUnderlying28 Try.sizeOf3 rfl rfl|exact Ex.idxIn Try.runUnderlying28 Try.sizeOf3 rfl rfl|exact Ex.idxS Try.runUnderlying28 Try.sizeOf3 rfl rfl|exact Ex.idx Try.runUnderlying28 Try.sizeOf3 rfl rfl (by omega) (by omega)) rfl ?_
    refine O.ex (by first|exact Ex.loadG1 Try.isAgg3 rfl|exact Ex.loadG2 Try.isAgg3 rfl|exact Ex.loadAt Try.isAgg3 rfl|exact Ex.loadCn Try.isAgg3 rfl|exact Ex.loadMo Try.isAgg3 rfl|exact Ex.loadE0 Try.isAgg3 rfl|exact Ex.loadE1 Try.isAgg3 rfl|exact Ex.loadP Try.isAgg3 rfl|exact Ex.loadR Try.isAgg3 rfl|exact Ex.loadIn1 Try.isAgg3 rfl (Holds.to (by assumption))) rfl ?_
    refine O.ex (Ex.assign rfl) rfl ?_
    refine O.nil ?_
    refine hK4 _ _ _ ?_
    refine W.seq (fun K5 hK5=>?_)
    refine W.region ?_
    refine O.ex (Ex.move rfl) rfl ?_
    refine O.ex (Ex.move rfl) rfl ?_
    refine O.callVT rfl rfl rfl (VT.mono (hy i w (by omega) hφi (Holds.to (by assumption))) ?_)
    rintro _ w hh
    obtain (⟨rfl,hφ2,H⟩|⟨rfl,H⟩):=hh
    · refine O.ex (by first|exact Ex.notD rfl|exact Ex.not rfl) rfl ?_
      refine O.nil ?_
      refine hK5 _ _ _ ?_
      refine W.known_f rfl (by first|rfl|decide|(simp; done)|omega) ?_
      refine W.skip ?_
      refine hK3 _ _ _ ?_
      refine W.region ?_
      refine O.ex (by first|exact Ex.addI rfl rfl|exact Ex.add rfl rfl rfl) rfl ?_
      refine O.ex (Ex.move rfl) rfl ?_
      refine O.nil ?_
      exact ⟨i + 1,⟨rfl,rfl,rfl,rfl,trivial⟩,⟨rfl,by omega,hφ2,Holds.to (by assumption)⟩,by omega⟩
    · refine O.ex (by first|exact Ex.notD rfl|exact Ex.not rfl) rfl ?_
      refine O.nil ?_
      refine hK5 _ _ _ ?_
      refine W.known_t rfl (by first|rfl|decide|(simp; done)|omega) ?_
      refine W.ret ?_
      try dsimp only [thenQ,blockQ,retQ]
      first|refine ⟨_,rfl,?_⟩|(refine retD_mark ?_; intro w H; refine ⟨_,rfl,?_⟩)|(refine retD_mark2 ?_; intro w H; refine ⟨_,rfl,?_⟩)
      first
      | exact .inr H
      | (obtain rfl : i = xs.length:=by omega
         exact .inl ⟨hφi,Holds.to (by assumption)⟩)
  · refine W.exit ?_
    try dsimp only [thenQ,blockQ,retQ]
    first|refine ⟨_,rfl,?_⟩|(refine retD_mark ?_; intro w H; refine ⟨_,rfl,?_⟩)|(refine retD_mark2 ?_; intro w H; refine ⟨_,rfl,?_⟩)
    first
    | exact .inr H
    | (obtain rfl : i = xs.length:=by omega
       exact .inl ⟨hφi,Holds.to (by assumption)⟩)
def capO (c2 c3 g : Nat) (v : Int) : HProp:=star [pt c2 (.cells #[.pointer (some ⟨g,0,none⟩)] 24 (0,0)),pt c3 (.cells #[.int .i64 v] 3 (0,0))]
theorem capO_open {w : World} {c2 c3 g : Nat} {v : Int} {L : List HProp} : Holds w (capO c2 c3 g v::L) ↔ Holds w (pt c2 (.cells #[.pointer (some ⟨g,0,none⟩)] 24 (0,0))::pt c3 (.cells #[.int .i64 v] 3 (0,0))::L):=by
  unfold capO
  simp only [Holds.star,List.cons_append,List.nil_append]
abbrev GO (g ab cap : Nat) (es : Nat → Value × Value) (n most : Int) (s : St) : HProp:=GhO g ab cap es n most (cnt s) s s s
theorem go_back {w : World} {g ab cap c2 c3 : Nat} {es : Nat → Value × Value} {n most v : Int} {s : St} {L : List HProp} (h0 : 0 ≤ v) (h2 : v.toNat < n.toNat) (H : Holds w (arr 3 (Value.int .i64) (es v.toNat).1 (lstP (outP s v))::arr 3 (Value.int .i64) (es v.toNat).2 (lstP (inP s v))::bigBut (endF es s s) (List.range n.toNat) v.toNat::gcel g s (avV ab cap n) (cnt s) most::atc ab n.toNat es::pt c2 (.cells #[.pointer (some ⟨g,0,none⟩)] 24 (0,0))::pt c3 (.cells #[.int .i64 v] 3 (0,0))::L)) :
    Holds w (GO g ab cap es n most s::capO c2 c3 g v::L):=by
  have H:=big_putE h0 h2 H
  have H:=capO_open.2 (Holds.to (M:=pt c2 (.cells #[.pointer (some ⟨g,0,none⟩)] 24 (0,0))::pt c3 (.cells #[.int .i64 v] 3 (0,0))::gcel g s (avV ab cap n) (cnt s) most::atc ab n.toNat es::big (endF es s s) (List.range n.toNat)::L) H)
  exact ghO_open.2 (Holds.to H)
theorem go_take {w : World} {g ab cap c2 c3 : Nat} {es : Nat → Value × Value} {n most v : Int} {s : St} {L : List HProp} (h0 : 0 ≤ v) (h2 : v.toNat < n.toNat) (H : Holds w (GO g ab cap es n most s::capO c2 c3 g v::L)) :
    Holds w (arr 3 (Value.int .i64) (es v.toNat).1 (lstP (outP s v))::arr 3 (Value.int .i64) (es v.toNat).2 (lstP (inP s v))::bigBut (endF es s s) (List.range n.toNat) v.toNat::gcel g s (avV ab cap n) (cnt s) most::atc ab n.toNat es::pt c2 (.cells #[.pointer (some ⟨g,0,none⟩)] 24 (0,0))::pt c3 (.cells #[.int .i64 v] 3 (0,0))::L):=by
  have H:=capO_open.1 (Holds.to (M:=capO c2 c3 g v::gcel g s (avV ab cap n) (cnt s) most::atc ab n.toNat es::big (endF es s s) (List.range n.toNat)::L) (ghO_open.1 H))
  exact big_takeE h0 h2 (Holds.to H)
theorem gout_ct {w : World} {g : Nat} {v : Int} {L : List HProp} (H : Holds w L) :
    CT Try.prog 44 [.pointer (some ⟨g,0,none⟩),.int .i64 v] w fun u w'=>∃ c2 c3,u = .func (.func 73) #[] #[.pointer (some ⟨c2,0,none⟩),.pointer (some ⟨c3,0,none⟩)] ∧ Holds w' (capO c2 c3 g v::L):=by
  refine CT.enter (N:=6) Try.func44 rfl rfl rfl rfl ?_
  refine W.seq (fun K0 hK0=>?_)
  refine W.region ?_
  refine O.boxP rfl (fun b2 w H=>?_)
  refine O.boxP rfl (fun b3 w H=>?_)
  refine O.ex (Ex.assign rfl) rfl ?_
  refine O.nil ?_
  refine hK0 _ _ _ ?_
  refine W.seq (fun K1 hK1=>?_)
  refine W.region ?_
  refine O.ex (Ex.makeFunc rfl rfl) rfl ?_
  refine O.ex (Ex.assign rfl) rfl ?_
  refine O.nil ?_
  refine hK1 _ _ _ ?_
  refine W.ret ?_
  try dsimp only [thenQ,blockQ,retQ]
  first|refine ⟨_,⟨_,_,rfl,rfl,rfl⟩,?_⟩|(refine retD_mark ?_; intro w H; refine ⟨_,⟨_,_,rfl,rfl,rfl⟩,?_⟩)|(refine retD_mark2 ?_; intro w H; refine ⟨_,⟨_,_,rfl,rfl,rfl⟩,?_⟩)
  exact ⟨_,_,rfl,capO_open.2 (Holds.to (by assumption))⟩
theorem outI_none {n most : Int} {s : St} (hg : GOk n most s) {v : Int} (h : ¬ (0 ≤ v ∧ v < n)) : outI s v = []:=by
  unfold outI lstP
  rw [List.filter_eq_nil_iff.2 (fun i hi=>?_)]
  · rfl
  · unfold outP
    cases ht : (s i).tk with
    | false=>simp
    | true =>
      have:=hg.arc i ht
      unfold okA at this
      simp; omega
set_option maxHeartbeats 1000000 in
theorem gout1_ct {w : World} {g ab cap c2 c3 : Nat} {es : Nat → Value × Value} {n most v : Int} {s : St} {fv : Value} {J : Nat → List HProp} {φ : Nat → Prop} {κ : Type} {σ : κ → Prop} {SL : κ → List HProp} (hg : GOk n most s) (hφ : φ 0) (H : Holds w (GO g ab cap es n most s::capO c2 c3 g v::J 0))
    (hy : ∀ (F : HProp) (i : Nat) w,i < (outI s v).length → φ i → Holds w (F::GO g ab cap es n most s::capO c2 c3 g v::J i) → VT Try.prog fv [.int .i64 ((outI s v).getD i default)] w fun u w'=>(u = .bool true ∧ φ (i + 1) ∧ Holds w' (F::GO g ab cap es n most s::capO c2 c3 g v::J (i + 1))) ∨ (u = .bool false ∧ ∃ a,σ a ∧ Holds w' (F::SL a))) :
    CT Try.prog 73 [fv,.pointer (some ⟨c2,0,none⟩),.pointer (some ⟨c3,0,none⟩)] w fun _ w'=>(φ (outI s v).length ∧ Holds w' (GO g ab cap es n most s::capO c2 c3 g v::J (outI s v).length)) ∨ ∃ a,σ a ∧ Holds w' (SL a):=by
  have n1:=hg.n1
  have H:=capO_open.1 (Holds.to (M:=capO c2 c3 g v::gcel g s (avV ab cap n) (cnt s) most::atc ab n.toNat es::big (endF es s s) (List.range n.toNat)::J 0) (ghO_open.1 H))
  refine CT.enter (N:=18) Try.func73 rfl rfl rfl rfl ?_
  refine W.seq (fun K0 hK0=>?_)
  refine W.region ?_
  refine O.ex (by first|exact Ex.loadG1 Try.isAgg24 rfl|exact Ex.loadG2 Try.isAgg24 rfl|exact Ex.loadAt Try.isAgg24 rfl|exact Ex.loadCn Try.isAgg24 rfl|exact Ex.loadMo Try.isAgg24 rfl|exact Ex.loadE0 Try.isAgg24 rfl|exact Ex.loadE1 Try.isAgg24 rfl|exact Ex.loadP Try.isAgg24 rfl|exact Ex.loadR Try.isAgg24 rfl|exact Ex.loadIn1 Try.isAgg24 rfl (Holds.to (by assumption))) rfl ?_
  refine O.ex (by first|exact Ex.loadG1 Try.isAgg3 rfl|exact Ex.loadG2 Try.isAgg3 rfl|exact Ex.loadAt Try.isAgg3 rfl|exact Ex.loadCn Try.isAgg3 rfl|exact Ex.loadMo Try.isAgg3 rfl|exact Ex.loadE0 Try.isAgg3 rfl|exact Ex.loadE1 Try.isAgg3 rfl|exact Ex.loadP Try.isAgg3 rfl|exact Ex.loadR Try.isAgg3 rfl|exact Ex.loadIn1 Try.isAgg3 rfl (Holds.to (by assumption))) rfl ?_
  refine O.callF Try.call57 rfl rfl (CT.mono (gvertexO_ct (g:=g) (s:=s) (ab:=ab) (cap:=cap) (n:=n) (k:=cnt s) (most:=most) (by omega) (Holds.to (by assumption))) ?_)
  rintro _ w ⟨rfl,H⟩
  refine O.nil ?_
  refine hK0 _ _ _ ?_
  first|refine W.cond_p rfl (fun hin=>?_) (fun hout=>?_)|refine W.cond_b rfl (fun hin=>?_) (fun hout=>?_)
  · have h0:=hin.1
    have h1:=hin.2
    have h2 : v.toNat < n.toNat:=by omega
    have hll : (outI s v).length ≤ 64:=lstP_len _
    have H:=big_takeE h0 h2 (Holds.to (M:=big (endF es s s) (List.range n.toNat)::gcel g s (avV ab cap n) (cnt s) most::atc ab n.toNat es::pt c2 (.cells #[.pointer (some ⟨g,0,none⟩)] 24 (0,0))::pt c3 (.cells #[.int .i64 v] 3 (0,0))::J 0) H)
    have ho:=arr_one (Holds.to (M:=arr 3 (Value.int .i64) (es v.toNat).1 (lstP (outP s v))::[]) H)
    refine W.drawTo (gcel g s (avV ab cap n) (cnt s) most::atc ab n.toNat es::pt c2 (.cells #[.pointer (some ⟨g,0,none⟩)] 24 (0,0))::pt c3 (.cells #[.int .i64 v] 3 (0,0))::[]) (.take 0 (.take 1 (.take 2 (.take 3 (.take 4 (.take 5 (.take 6 (.take 7 (.take 9 (.one 8 (.one 10 .nil))))))))))) (mixed) (fun _ _ _ _ h=>h) (by assumption) PP.auto (by decide +kernel) (fun w H=>?_)
    refine OQ.ex rfl (fun w H=>(by first|exact Ex.loadG1 Try.isAgg24 rfl|exact Ex.loadG2 Try.isAgg24 rfl|exact Ex.loadAt Try.isAgg24 rfl|exact Ex.loadCn Try.isAgg24 rfl|exact Ex.loadMo Try.isAgg24 rfl|exact Ex.loadE0 Try.isAgg24 rfl|exact Ex.loadE1 Try.isAgg24 rfl|exact Ex.loadP Try.isAgg24 rfl|exact Ex.loadR Try.isAgg24 rfl|exact Ex.loadIn1 Try.isAgg24 rfl (Holds.to (by assumption)))) rfl ?_
    refine OQ.ex rfl (fun w H=>(by first|exact Ex.nilPtr rfl|exact Ex.nilFunc rfl|exact Ex.nilYield rfl)) rfl ?_
    refine OQ.ex rfl (fun w H=>(by first|exact Ex.field0 fld93_1 rfl|exact Ex.field fld93_1 rfl|exact Ex.fieldS fld93_1 rfl)) rfl ?_
    refine OQ.ex rfl (fun w H=>(by first|exact Ex.loadG1 Try.isAgg88 rfl|exact Ex.loadG2 Try.isAgg88 rfl|exact Ex.loadAt Try.isAgg88 rfl|exact Ex.loadCn Try.isAgg88 rfl|exact Ex.loadMo Try.isAgg88 rfl|exact Ex.loadE0 Try.isAgg88 rfl|exact Ex.loadE1 Try.isAgg88 rfl|exact Ex.loadP Try.isAgg88 rfl|exact Ex.loadR Try.isAgg88 rfl|exact Ex.loadIn1 Try.isAgg88 rfl (Holds.to (by assumption)))) rfl ?_
    refine OQ.ex rfl (fun w H=>(by first|exact Ex.loadG1 Try.isAgg3 rfl|exact Ex.loadG2 Try.isAgg3 rfl|exact Ex.loadAt Try.isAgg3 rfl|exact Ex.loadCn Try.isAgg3 rfl|exact Ex.loadMo Try.isAgg3 rfl|exact Ex.loadE0 Try.isAgg3 rfl|exact Ex.loadE1 Try.isAgg3 rfl|exact Ex.loadP Try.isAgg3 rfl|exact Ex.loadR Try.isAgg3 rfl|exact Ex.loadIn1 Try.isAgg3 rfl (Holds.to (by assumption)))) rfl ?_
    refine OQ.ex rfl (fun w H=>(by first|exact Ex.idxN Try.runUnderlying88 Try.sizeOf96 rfl rfl|exact Ex.idxSN Try.runUnderlying88 Try.sizeOf96 rfl rfl|exact Ex.idxIn Try.runUnderlying88 Try.sizeOf96 rfl rfl|exact Ex.idx Try.runUnderlying88 Try.sizeOf96 rfl rfl (by omega) (by omega))) rfl ?_
    refine OQ.ex rfl (fun w H=>(by first|exact Ex.field0 fld96_0 rfl|exact Ex.field fld96_0 rfl|exact Ex.fieldS fld96_0 rfl)) rfl ?_
    refine OQ.ex rfl (fun w H=>(by first|exact Ex.loadG1 Try.isAgg28 rfl|exact Ex.loadG2 Try.isAgg28 rfl|exact Ex.loadAt Try.isAgg28 rfl|exact Ex.loadCn Try.isAgg28 rfl|exact Ex.loadMo Try.isAgg28 rfl|exact Ex.loadE0 Try.isAgg28 rfl|exact Ex.loadE1 Try.isAgg28 rfl|exact Ex.loadP Try.isAgg28 rfl|exact Ex.loadR Try.isAgg28 rfl|exact Ex.loadIn1 Try.isAgg28 rfl (Holds.to (by assumption)))) rfl ?_
    refine OQ.ex rfl (fun w H=>(Ex.move rfl)) rfl ?_
    refine OQ.step rfl ?_
    refine O.callF Try.call74 rfl rfl (CT.mono (values_ct ho (Holds.to (by assumption))) ?_)
    rintro _ w ⟨bv,rfl,H⟩
    refine O.thenNil ⟨(by first|exact Holds.to (by assumption)|assumption),?_⟩
    refine OQ.last rfl (by decide +kernel) ?_
    have hY : ∀ (i : Nat) w,i < (outI s v).length → φ i → Holds w (pt bv (.cells #[(es v.toNat).1] 28 (0,0))::arr 3 (Value.int .i64) (es v.toNat).1 (outI s v)::(arr 3 (Value.int .i64) (es v.toNat).2 (lstP (inP s v))::bigBut (endF es s s) (List.range n.toNat) v.toNat::gcel g s (avV ab cap n) (cnt s) most::atc ab n.toNat es::pt c2 (.cells #[.pointer (some ⟨g,0,none⟩)] 24 (0,0))::pt c3 (.cells #[.int .i64 v] 3 (0,0))::J i)) →
        VT Try.prog fv [.int .i64 ((outI s v).getD i default)] w fun u w'=>(u = .bool true ∧ φ (i + 1) ∧ Holds w' (pt bv (.cells #[(es v.toNat).1] 28 (0,0))::arr 3 (Value.int .i64) (es v.toNat).1 (outI s v)::(arr 3 (Value.int .i64) (es v.toNat).2 (lstP (inP s v))::bigBut (endF es s s) (List.range n.toNat) v.toNat::gcel g s (avV ab cap n) (cnt s) most::atc ab n.toNat es::pt c2 (.cells #[.pointer (some ⟨g,0,none⟩)] 24 (0,0))::pt c3 (.cells #[.int .i64 v] 3 (0,0))::J (i + 1)))) ∨ (u = .bool false ∧ ∃ a,σ a ∧ Holds w' (pt bv (.cells #[(es v.toNat).1] 28 (0,0))::SL a)):=by
      intro i w hi hφi H
      have H2:=go_back h0 h2 (Holds.to (M:=arr 3 (Value.int .i64) (es v.toNat).1 (lstP (outP s v))::arr 3 (Value.int .i64) (es v.toNat).2 (lstP (inP s v))::bigBut (endF es s s) (List.range n.toNat) v.toNat::gcel g s (avV ab cap n) (cnt s) most::atc ab n.toNat es::pt c2 (.cells #[.pointer (some ⟨g,0,none⟩)] 24 (0,0))::pt c3 (.cells #[.int .i64 v] 3 (0,0))::pt bv (.cells #[(es v.toNat).1] 28 (0,0))::J i) H)
      refine (hy _ i w hi hφi (Holds.to (M:=pt bv (.cells #[(es v.toNat).1] 28 (0,0))::GO g ab cap es n most s::capO c2 c3 g v::J i) H2)).mono fun u w' hh=>?_
      rcases hh with ⟨h7,h8,H⟩|h7
      · refine .inl ⟨h7,h8,?_⟩
        have H:=go_take h0 h2 (Holds.to (M:=GO g ab cap es n most s::capO c2 c3 g v::pt bv (.cells #[(es v.toNat).1] 28 (0,0))::J (i + 1)) H)
        exact Holds.to H
      · exact .inr h7
    refine O.callVT rfl rfl rfl (VT.mono (VT.fn Try.call99 (values1_ct (S:=fun w'=>∃ a,σ a ∧ Holds w' (pt bv (.cells #[(es v.toNat).1] 28 (0,0))::SL a)) (b:=bv) (v:=(es v.toNat).1) (xs:=outI s v) (J:=fun i=>arr 3 (Value.int .i64) (es v.toNat).2 (lstP (inP s v))::bigBut (endF es s s) (List.range n.toNat) v.toNat::gcel g s (avV ab cap n) (cnt s) most::atc ab n.toNat es::pt c2 (.cells #[.pointer (some ⟨g,0,none⟩)] 24 (0,0))::pt c3 (.cells #[.int .i64 v] 3 (0,0))::J i) (φ:=φ) (by omega) hφ (Holds.to (by assumption)) hY)) ?_)
    rintro _ w hh
    refine O.nil ?_
    try dsimp only [thenQ,blockQ,retQ]
    first|refine ⟨_,rfl,?_⟩|(refine retD_mark ?_; intro w H; refine ⟨_,rfl,?_⟩)|(refine retD_mark2 ?_; intro w H; refine ⟨_,rfl,?_⟩)
    first
    | (rcases hh with ⟨h7,H⟩|⟨a,h7,H⟩
       · exact .inl ⟨h7,go_back h0 h2 (Holds.to (by assumption))⟩
       · exact .inr ⟨a,h7,Holds.to (by assumption)⟩)
    | (have e:=outI_none hg hout
       rw [e]
       have H:=capO_open.2 (Holds.to (M:=pt c2 (.cells #[.pointer (some ⟨g,0,none⟩)] 24 (0,0))::pt c3 (.cells #[.int .i64 v] 3 (0,0))::gcel g s (avV ab cap n) (cnt s) most::atc ab n.toNat es::big (endF es s s) (List.range n.toNat)::J 0) H)
       exact .inl ⟨hφ,ghO_open.2 (Holds.to H)⟩)
  · refine W.skip ?_
    try dsimp only [thenQ,blockQ,retQ]
    first|refine ⟨_,rfl,?_⟩|(refine retD_mark ?_; intro w H; refine ⟨_,rfl,?_⟩)|(refine retD_mark2 ?_; intro w H; refine ⟨_,rfl,?_⟩)
    first
    | (rcases hh with ⟨h7,H⟩|⟨a,h7,H⟩
       · exact .inl ⟨h7,go_back h0 h2 (Holds.to (by assumption))⟩
       · exact .inr ⟨a,h7,Holds.to (by assumption)⟩)
    | (have e:=outI_none hg hout
       rw [e]
       have H:=capO_open.2 (Holds.to (M:=pt c2 (.cells #[.pointer (some ⟨g,0,none⟩)] 24 (0,0))::pt c3 (.cells #[.int .i64 v] 3 (0,0))::gcel g s (avV ab cap n) (cnt s) most::atc ab n.toNat es::big (endF es s s) (List.range n.toNat)::J 0) H)
       exact .inl ⟨hφ,ghO_open.2 (Holds.to H)⟩)
theorem gin_ct {w : World} {g : Nat} {v : Int} {L : List HProp} (H : Holds w L) :
    CT Try.prog 48 [.pointer (some ⟨g,0,none⟩),.int .i64 v] w fun u w'=>∃ c2 c3,u = .func (.func 77) #[] #[.pointer (some ⟨c2,0,none⟩),.pointer (some ⟨c3,0,none⟩)] ∧ Holds w' (capO c2 c3 g v::L):=by
  refine CT.enter (N:=6) Try.func48 rfl rfl rfl rfl ?_
  refine W.seq (fun K0 hK0=>?_)
  refine W.region ?_
  refine O.boxP rfl (fun b2 w H=>?_)
  refine O.boxP rfl (fun b3 w H=>?_)
  refine O.ex (Ex.assign rfl) rfl ?_
  refine O.nil ?_
  refine hK0 _ _ _ ?_
  refine W.seq (fun K1 hK1=>?_)
  refine W.region ?_
  refine O.ex (Ex.makeFunc rfl rfl) rfl ?_
  refine O.ex (Ex.assign rfl) rfl ?_
  refine O.nil ?_
  refine hK1 _ _ _ ?_
  refine W.ret ?_
  try dsimp only [thenQ,blockQ,retQ]
  first|refine ⟨_,⟨_,_,rfl,rfl,rfl⟩,?_⟩|(refine retD_mark ?_; intro w H; refine ⟨_,⟨_,_,rfl,rfl,rfl⟩,?_⟩)|(refine retD_mark2 ?_; intro w H; refine ⟨_,⟨_,_,rfl,rfl,rfl⟩,?_⟩)
  exact ⟨_,_,rfl,capO_open.2 (Holds.to (by assumption))⟩
theorem inI_none {n most : Int} {s : St} (hg : GOk n most s) {v : Int} (h : ¬ (0 ≤ v ∧ v < n)) : inI s v = []:=by
  unfold inI lstP
  rw [List.filter_eq_nil_iff.2 (fun i hi=>?_)]
  · rfl
  · unfold inP
    cases ht : (s i).tk with
    | false=>simp
    | true =>
      have:=hg.arc i ht
      unfold okA at this
      simp; omega
set_option maxHeartbeats 1000000 in
theorem gin1_ct {w : World} {g ab cap c2 c3 : Nat} {es : Nat → Value × Value} {n most v : Int} {s : St} {fv : Value} {J : Nat → List HProp} {φ : Nat → Prop} {κ : Type} {σ : κ → Prop} {SL : κ → List HProp} (hg : GOk n most s) (hφ : φ 0) (H : Holds w (GO g ab cap es n most s::capO c2 c3 g v::J 0))
    (hy : ∀ (F : HProp) (i : Nat) w,i < (inI s v).length → φ i → Holds w (F::GO g ab cap es n most s::capO c2 c3 g v::J i) → VT Try.prog fv [.int .i64 ((inI s v).getD i default)] w fun u w'=>(u = .bool true ∧ φ (i + 1) ∧ Holds w' (F::GO g ab cap es n most s::capO c2 c3 g v::J (i + 1))) ∨ (u = .bool false ∧ ∃ a,σ a ∧ Holds w' (F::SL a))) :
    CT Try.prog 77 [fv,.pointer (some ⟨c2,0,none⟩),.pointer (some ⟨c3,0,none⟩)] w fun _ w'=>(φ (inI s v).length ∧ Holds w' (GO g ab cap es n most s::capO c2 c3 g v::J (inI s v).length)) ∨ ∃ a,σ a ∧ Holds w' (SL a):=by
  have n1:=hg.n1
  have H:=capO_open.1 (Holds.to (M:=capO c2 c3 g v::gcel g s (avV ab cap n) (cnt s) most::atc ab n.toNat es::big (endF es s s) (List.range n.toNat)::J 0) (ghO_open.1 H))
  refine CT.enter (N:=18) Try.func77 rfl rfl rfl rfl ?_
  refine W.seq (fun K0 hK0=>?_)
  refine W.region ?_
  refine O.ex (by first|exact Ex.loadG1 Try.isAgg24 rfl|exact Ex.loadG2 Try.isAgg24 rfl|exact Ex.loadAt Try.isAgg24 rfl|exact Ex.loadCn Try.isAgg24 rfl|exact Ex.loadMo Try.isAgg24 rfl|exact Ex.loadE0 Try.isAgg24 rfl|exact Ex.loadE1 Try.isAgg24 rfl|exact Ex.loadP Try.isAgg24 rfl|exact Ex.loadR Try.isAgg24 rfl|exact Ex.loadIn1 Try.isAgg24 rfl (Holds.to (by assumption))) rfl ?_
  refine O.ex (by first|exact Ex.loadG1 Try.isAgg3 rfl|exact Ex.loadG2 Try.isAgg3 rfl|exact Ex.loadAt Try.isAgg3 rfl|exact Ex.loadCn Try.isAgg3 rfl|exact Ex.loadMo Try.isAgg3 rfl|exact Ex.loadE0 Try.isAgg3 rfl|exact Ex.loadE1 Try.isAgg3 rfl|exact Ex.loadP Try.isAgg3 rfl|exact Ex.loadR Try.isAgg3 rfl|exact Ex.loadIn1 Try.isAgg3 rfl (Holds.to (by assumption))) rfl ?_
  refine O.callF Try.call57 rfl rfl (CT.mono (gvertexO_ct (g:=g) (s:=s) (ab:=ab) (cap:=cap) (n:=n) (k:=cnt s) (most:=most) (by omega) (Holds.to (by assumption))) ?_)
  rintro _ w ⟨rfl,H⟩
  refine O.nil ?_
  refine hK0 _ _ _ ?_
  first|refine W.cond_p rfl (fun hin=>?_) (fun hout=>?_)|refine W.cond_b rfl (fun hin=>?_) (fun hout=>?_)
  · have h0:=hin.1
    have h1:=hin.2
    have h2 : v.toNat < n.toNat:=by omega
    have hll : (inI s v).length ≤ 64:=lstP_len _
    have H:=big_takeE h0 h2 (Holds.to (M:=big (endF es s s) (List.range n.toNat)::gcel g s (avV ab cap n) (cnt s) most::atc ab n.toNat es::pt c2 (.cells #[.pointer (some ⟨g,0,none⟩)] 24 (0,0))::pt c3 (.cells #[.int .i64 v] 3 (0,0))::J 0) H)
    have ho:=arr_one (Holds.to (M:=arr 3 (Value.int .i64) (es v.toNat).2 (lstP (inP s v))::[]) H)
    refine W.drawTo (gcel g s (avV ab cap n) (cnt s) most::atc ab n.toNat es::pt c2 (.cells #[.pointer (some ⟨g,0,none⟩)] 24 (0,0))::pt c3 (.cells #[.int .i64 v] 3 (0,0))::[]) (.take 0 (.take 1 (.take 2 (.take 3 (.take 4 (.take 5 (.take 6 (.take 7 (.take 9 (.one 8 (.one 10 .nil))))))))))) (mixed) (fun _ _ _ _ h=>h) (by assumption) PP.auto (by decide +kernel) (fun w H=>?_)
    refine OQ.ex rfl (fun w H=>(by first|exact Ex.loadG1 Try.isAgg24 rfl|exact Ex.loadG2 Try.isAgg24 rfl|exact Ex.loadAt Try.isAgg24 rfl|exact Ex.loadCn Try.isAgg24 rfl|exact Ex.loadMo Try.isAgg24 rfl|exact Ex.loadE0 Try.isAgg24 rfl|exact Ex.loadE1 Try.isAgg24 rfl|exact Ex.loadP Try.isAgg24 rfl|exact Ex.loadR Try.isAgg24 rfl|exact Ex.loadIn1 Try.isAgg24 rfl (Holds.to (by assumption)))) rfl ?_
    refine OQ.ex rfl (fun w H=>(by first|exact Ex.nilPtr rfl|exact Ex.nilFunc rfl|exact Ex.nilYield rfl)) rfl ?_
    refine OQ.ex rfl (fun w H=>(by first|exact Ex.field0 fld93_1 rfl|exact Ex.field fld93_1 rfl|exact Ex.fieldS fld93_1 rfl)) rfl ?_
    refine OQ.ex rfl (fun w H=>(by first|exact Ex.loadG1 Try.isAgg88 rfl|exact Ex.loadG2 Try.isAgg88 rfl|exact Ex.loadAt Try.isAgg88 rfl|exact Ex.loadCn Try.isAgg88 rfl|exact Ex.loadMo Try.isAgg88 rfl|exact Ex.loadE0 Try.isAgg88 rfl|exact Ex.loadE1 Try.isAgg88 rfl|exact Ex.loadP Try.isAgg88 rfl|exact Ex.loadR Try.isAgg88 rfl|exact Ex.loadIn1 Try.isAgg88 rfl (Holds.to (by assumption)))) rfl ?_
    refine OQ.ex rfl (fun w H=>(by first|exact Ex.loadG1 Try.isAgg3 rfl|exact Ex.loadG2 Try.isAgg3 rfl|exact Ex.loadAt Try.isAgg3 rfl|exact Ex.loadCn Try.isAgg3 rfl|exact Ex.loadMo Try.isAgg3 rfl|exact Ex.loadE0 Try.isAgg3 rfl|exact Ex.loadE1 Try.isAgg3 rfl|exact Ex.loadP Try.isAgg3 rfl|exact Ex.loadR Try.isAgg3 rfl|exact Ex.loadIn1 Try.isAgg3 rfl (Holds.to (by assumption)))) rfl ?_
    refine OQ.ex rfl (fun w H=>(by first|exact Ex.idxN Try.runUnderlying88 Try.sizeOf96 rfl rfl|exact Ex.idxSN Try.runUnderlying88 Try.sizeOf96 rfl rfl|exact Ex.idxIn Try.runUnderlying88 Try.sizeOf96 rfl rfl|exact Ex.idx Try.runUnderlying88 Try.sizeOf96 rfl rfl (by omega) (by omega))) rfl ?_
    refine OQ.ex rfl (fun w H=>(by first|exact Ex.field0 fld96_1 rfl|exact Ex.field fld96_1 rfl|exact Ex.fieldS fld96_1 rfl)) rfl ?_
    refine OQ.ex rfl (fun w H=>(by first|exact Ex.loadG1 Try.isAgg28 rfl|exact Ex.loadG2 Try.isAgg28 rfl|exact Ex.loadAt Try.isAgg28 rfl|exact Ex.loadCn Try.isAgg28 rfl|exact Ex.loadMo Try.isAgg28 rfl|exact Ex.loadE0 Try.isAgg28 rfl|exact Ex.loadE1 Try.isAgg28 rfl|exact Ex.loadP Try.isAgg28 rfl|exact Ex.loadR Try.isAgg28 rfl|exact Ex.loadIn1 Try.isAgg28 rfl (Holds.to (by assumption)))) rfl ?_
    refine OQ.ex rfl (fun w H=>(Ex.move rfl)) rfl ?_
    refine OQ.step rfl ?_
    refine O.callF Try.call74 rfl rfl (CT.mono (values_ct ho (Holds.to (by assumption))) ?_)
    rintro _ w ⟨bv,rfl,H⟩
    refine O.thenNil ⟨(by first|exact Holds.to (by assumption)|assumption),?_⟩
    refine OQ.last rfl (by decide +kernel) ?_
    have hY : ∀ (i : Nat) w,i < (inI s v).length → φ i → Holds w (pt bv (.cells #[(es v.toNat).2] 28 (0,0))::arr 3 (Value.int .i64) (es v.toNat).2 (inI s v)::(arr 3 (Value.int .i64) (es v.toNat).1 (lstP (outP s v))::bigBut (endF es s s) (List.range n.toNat) v.toNat::gcel g s (avV ab cap n) (cnt s) most::atc ab n.toNat es::pt c2 (.cells #[.pointer (some ⟨g,0,none⟩)] 24 (0,0))::pt c3 (.cells #[.int .i64 v] 3 (0,0))::J i)) →
        VT Try.prog fv [.int .i64 ((inI s v).getD i default)] w fun u w'=>(u = .bool true ∧ φ (i + 1) ∧ Holds w' (pt bv (.cells #[(es v.toNat).2] 28 (0,0))::arr 3 (Value.int .i64) (es v.toNat).2 (inI s v)::(arr 3 (Value.int .i64) (es v.toNat).1 (lstP (outP s v))::bigBut (endF es s s) (List.range n.toNat) v.toNat::gcel g s (avV ab cap n) (cnt s) most::atc ab n.toNat es::pt c2 (.cells #[.pointer (some ⟨g,0,none⟩)] 24 (0,0))::pt c3 (.cells #[.int .i64 v] 3 (0,0))::J (i + 1)))) ∨ (u = .bool false ∧ ∃ a,σ a ∧ Holds w' (pt bv (.cells #[(es v.toNat).2] 28 (0,0))::SL a)):=by
      intro i w hi hφi H
      have H2:=go_back h0 h2 (Holds.to (M:=arr 3 (Value.int .i64) (es v.toNat).1 (lstP (outP s v))::arr 3 (Value.int .i64) (es v.toNat).2 (lstP (inP s v))::bigBut (endF es s s) (List.range n.toNat) v.toNat::gcel g s (avV ab cap n) (cnt s) most::atc ab n.toNat es::pt c2 (.cells #[.pointer (some ⟨g,0,none⟩)] 24 (0,0))::pt c3 (.cells #[.int .i64 v] 3 (0,0))::pt bv (.cells #[(es v.toNat).2] 28 (0,0))::J i) H)
      refine (hy _ i w hi hφi (Holds.to (M:=pt bv (.cells #[(es v.toNat).2] 28 (0,0))::GO g ab cap es n most s::capO c2 c3 g v::J i) H2)).mono fun u w' hh=>?_
      rcases hh with ⟨h7,h8,H⟩|h7
      · refine .inl ⟨h7,h8,?_⟩
        have H:=go_take h0 h2 (Holds.to (M:=GO g ab cap es n most s::capO c2 c3 g v::pt bv (.cells #[(es v.toNat).2] 28 (0,0))::J (i + 1)) H)
        exact Holds.to H
      · exact .inr h7
    refine O.callVT rfl rfl rfl (VT.mono (VT.fn Try.call99 (values1_ct (S:=fun w'=>∃ a,σ a ∧ Holds w' (pt bv (.cells #[(es v.toNat).2] 28 (0,0))::SL a)) (b:=bv) (v:=(es v.toNat).2) (xs:=inI s v) (J:=fun i=>arr 3 (Value.int .i64) (es v.toNat).1 (lstP (outP s v))::bigBut (endF es s s) (List.range n.toNat) v.toNat::gcel g s (avV ab cap n) (cnt s) most::atc ab n.toNat es::pt c2 (.cells #[.pointer (some ⟨g,0,none⟩)] 24 (0,0))::pt c3 (.cells #[.int .i64 v] 3 (0,0))::J i) (φ:=φ) (by omega) hφ (Holds.to (by assumption)) hY)) ?_)
    rintro _ w hh
    refine O.nil ?_
    try dsimp only [thenQ,blockQ,retQ]
    first|refine ⟨_,rfl,?_⟩|(refine retD_mark ?_; intro w H; refine ⟨_,rfl,?_⟩)|(refine retD_mark2 ?_; intro w H; refine ⟨_,rfl,?_⟩)
    first
    | (rcases hh with ⟨h7,H⟩|⟨a,h7,H⟩
       · exact .inl ⟨h7,go_back h0 h2 (Holds.to (by assumption))⟩
       · exact .inr ⟨a,h7,Holds.to (by assumption)⟩)
    | (have e:=inI_none hg hout
       rw [e]
       have H:=capO_open.2 (Holds.to (M:=pt c2 (.cells #[.pointer (some ⟨g,0,none⟩)] 24 (0,0))::pt c3 (.cells #[.int .i64 v] 3 (0,0))::gcel g s (avV ab cap n) (cnt s) most::atc ab n.toNat es::big (endF es s s) (List.range n.toNat)::J 0) H)
       exact .inl ⟨hφ,ghO_open.2 (Holds.to H)⟩)
  · refine W.skip ?_
    try dsimp only [thenQ,blockQ,retQ]
    first|refine ⟨_,rfl,?_⟩|(refine retD_mark ?_; intro w H; refine ⟨_,rfl,?_⟩)|(refine retD_mark2 ?_; intro w H; refine ⟨_,rfl,?_⟩)
    first
    | (rcases hh with ⟨h7,H⟩|⟨a,h7,H⟩
       · exact .inl ⟨h7,go_back h0 h2 (Holds.to (by assumption))⟩
       · exact .inr ⟨a,h7,Holds.to (by assumption)⟩)
    | (have e:=inI_none hg hout
       rw [e]
       have H:=capO_open.2 (Holds.to (M:=pt c2 (.cells #[.pointer (some ⟨g,0,none⟩)] 24 (0,0))::pt c3 (.cells #[.int .i64 v] 3 (0,0))::gcel g s (avV ab cap n) (cnt s) most::atc ab n.toNat es::big (endF es s s) (List.range n.toNat)::J 0) H)
       exact .inl ⟨hφ,ghO_open.2 (Holds.to H)⟩)
end Go.Proofs.Ytliofdfhimmjmaa
namespace Go.Proofs.Ytliofdfhimmjmaa
open Go.Rr Go Gr
set_option linter.unusedVariables false
theorem mem_getL {l : List Int} {i : Nat} (h : i < l.length) : l.getD i default ∈ l:=by
  rw [List.getD_eq_getElem?_getD,List.getElem?_eq_getElem h]; exact List.getElem_mem _
end Go.Proofs.Ytliofdfhimmjmaa
