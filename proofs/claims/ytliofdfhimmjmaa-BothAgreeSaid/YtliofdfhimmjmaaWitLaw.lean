/- A search that settles the nearest first, plainly. No program in sight. -/
import Derived.Test.YtliofdfhimmjmaaHeapAll
import Derived.Test.YtliofdfhimmjmaaMeshLaw
import Derived.Test.YtliofdfhimmjmaaStamp
import Derived.Test.YtliofdfhimmjmaaBits
namespace Go.Proofs.Ytliofdfhimmjmaa
open Go.Rr Go Hp
set_option linter.unusedVariables false
set_option linter.unusedSectionVars false
namespace Wt
section
variable {N : Nat} {c : Int → Int → Int} {s0 wo : Nat}
/-- How far it is over what is settled. -/
def sm (c : Int → Int → Int) (P : List (Int × Int)) (w : Int) : Int:=P.foldl (fun a p=>min a (two p.2 (c p.1 w))) 4611686018427387906
theorem sm_snoc (c : Int → Int → Int) (P : List (Int × Int)) (p : Int × Int) (w : Int) : sm c (P ++ [p]) w = min (sm c P w) (two p.2 (c p.1 w)):=by unfold sm; rw [List.foldl_append]; rfl
def smF (c : Int → Int → Int) (s0 : Nat) (P : List (Int × Int)) (w : Nat) : Int:=if P = [] ∧ w = s0 then 0 else sm c P w
def isIn (P : List (Int × Int)) (w : Nat) : Prop:=(w : Int) ∈ P.map Prod.fst
instance (P : List (Int × Int)) (w : Nat) : Decidable (isIn P w):=by unfold isIn; infer_instance
theorem isIn_snoc (P : List (Int × Int)) (b : Nat) (d : Int) (w : Nat) : isIn (P ++ [((b : Int),d)]) w ↔ isIn P w ∨ w = b:=by
  unfold isIn
  rw [List.map_append,List.mem_append]
  simp only [List.map_cons,List.map_nil,List.mem_singleton]
  exact or_congr Iff.rfl (by constructor <;> intro h <;> omega)
def cand (c : Int → Int → Int) (s0 wo : Nat) (P : List (Int × Int)) (w : Nat) : Option Int:=if isIn P w ∨ inS wo (w : Int) = true then none else if smF c s0 P w < 4611686018427387906 then some (smF c s0 P w) else none
def hpW (N : Nat) (c : Int → Int → Int) (s0 wo : Nat) (P : List (Int × Int)) : List (Option Int):=(List.range N).map (cand c s0 wo P)
def nx (N : Nat) (c : Int → Int → Int) (s0 wo : Nat) (P : List (Int × Int)) : Option Nat:=bs RI (hpW N c s0 wo P)
theorem hpW_len (P : List (Int × Int)) : (hpW N c s0 wo P).length = N:=by simp [hpW]
theorem map_get {f : Nat → Option Int} {w : Nat} (h : w < N) : sg ((List.range N).map f) w = f w:=by
  unfold sg
  rw [List.getD_eq_getElem?_getD,List.getElem?_map,List.getElem?_range h]; rfl
theorem hpW_get (P : List (Int × Int)) {w : Nat} (h : w < N) : sg (hpW N c s0 wo P) w = cand c s0 wo P w:=map_get h
/-- What is settled is settled in order: all is as it should be. -/
structure Ok (N : Nat) (c : Int → Int → Int) (wo : Nat) (P : List (Int × Int)) : Prop where
  rng : ∀ p ∈ P,0 ≤ p.1 ∧ p.1 < N ∧ 0 ≤ p.2 ∧ p.2 < 4611686018427387906 ∧ inS wo p.1 = false
  nodup : (P.map Prod.fst).Nodup
theorem Ok.nil : Ok N c wo []:=⟨fun p h=>by simp at h,by simp⟩
theorem Ok.len {P : List (Int × Int)} (h : Ok N c wo P) : P.length ≤ N:=by
  have:=List.Nodup.length_le_of_subset (l₂:=(List.range N).map Int.ofNat) h.nodup (fun x hx=>by
    obtain ⟨p,hp,rfl⟩:=List.mem_map.1 hx
    have:=h.rng p hp
    exact List.mem_map.2 ⟨p.1.toNat,List.mem_range.2 (by omega),Int.toNat_of_nonneg this.1⟩)
  simpa using this
theorem sm_dst {n : Int} (hg : Good n c) {P : List (Int × Int)} (h : Ok N c wo P) (w : Int) : Dst (sm c P w):=by
  have key : ∀ (Q : List (Int × Int)) (a : Int),(∀ p ∈ Q,Dst p.2) → Dst a → Dst (Q.foldl (fun a p=>min a (two p.2 (c p.1 w))) a):=by
    intro Q
    induction Q with
    | nil=>intro a _ ha; exact ha
    | cons p Q ih =>
      intro a hq ha
      refine ih _ (fun x hx=>hq x (List.mem_cons_of_mem _ hx)) ?_
      have h1:=two_dst (hq p (List.mem_cons_self ..)) (hg.dst p.1 w)
      show Dst (min a (two p.2 (c p.1 w)))
      unfold Dst at *; omega
  exact key P 4611686018427387906 (fun p hp=>by have:=h.rng p hp; exact ⟨by omega,by omega⟩) ⟨by omega,by omega⟩
theorem smF_dst {n : Int} (hg : Good n c) {P : List (Int × Int)} (h : Ok N c wo P) (w : Nat) : Dst (smF c s0 P w):=by
  unfold smF; split
  · exact ⟨by omega,by omega⟩
  · exact sm_dst hg h w
/-- The next one. -/
theorem nx_spec {P : List (Int × Int)} {b : Nat} (h : nx N c s0 wo P = some b) : b < N ∧ ¬ isIn P b ∧ inS wo (b : Int) = false ∧ smF c s0 P b < 4611686018427387906 ∧ Hp.pg (hpW N c s0 wo P) b = smF c s0 P b ∧
    ∀ w,w < N → ¬ isIn P w → inS wo (w : Int) = false → smF c s0 P w < 4611686018427387906 → smF c s0 P b < smF c s0 P w ∨ (smF c s0 P b = smF c s0 P w ∧ b ≤ w):=by
  have hb:=bst_some soI h
  have hl:=hb.lt
  rw [hpW_len] at hl
  have hi:=hb.is
  rw [hpW_get P hl] at hi
  have hc : ∀ w,w < N → ¬ isIn P w → inS wo (w : Int) = false → smF c s0 P w < 4611686018427387906 → cand c s0 wo P w = some (smF c s0 P w):=fun w hw h1 h2 h3=>by
    unfold cand; rw [if_neg (by rw [h2]; rintro (k|k); exact h1 k; cases k),if_pos h3]
  have hn : ¬ (isIn P b ∨ inS wo (b : Int) = true):=fun k=>by unfold cand at hi; rw [if_pos k] at hi; cases hi
  have hn2 : smF c s0 P b < 4611686018427387906:=Decidable.byContradiction fun k=>by unfold cand at hi; rw [if_neg hn,if_neg k] at hi; cases hi
  have h2 : inS wo (b : Int) = false:=by
    cases e : inS wo (b : Int) with
    | false=>rfl
    | true=>exact absurd (.inr e) hn
  have hp : Hp.pg (hpW N c s0 wo P) b = smF c s0 P b:=by
    rw [hc b hl (fun k=>hn (.inl k)) h2 hn2] at hi
    exact (Option.some.inj hi).symm
  refine ⟨hl,fun k=>hn (.inl k),h2,hn2,hp,fun w hw h3 h4 h5=>?_⟩
  have:=hb.le w (by rw [hpW_len]; exact hw) _ (by rw [hpW_get P hw,hc w hw h3 h4 h5])
  rwa [hp] at this
theorem nx_none {P : List (Int × Int)} (h : nx N c s0 wo P = none) : ∀ w,w < N → ¬ isIn P w → inS wo (w : Int) = false → ¬ smF c s0 P w < 4611686018427387906:=by
  intro w hw h1 h2 h3
  have:=bst_none.1 h w (by rw [hpW_len]; exact hw)
  rw [hpW_get P hw] at this
  unfold cand at this
  rw [if_neg (by rw [h2]; rintro (k|k); exact h1 k; cases k),if_pos h3] at this
  cases this
theorem nx_first {b : Nat} (h : nx N c s0 wo [] = some b) : b = s0:=by
  have hn:=(nx_spec h).2.2.2.1
  unfold smF at hn
  split at hn
  · rename_i e; exact e.2
  · exact absurd hn (by show ¬ (4611686018427387906 : Int) < 4611686018427387906; omega)
theorem nx_start (h1 : s0 < N) (h2 : inS wo (s0 : Int) = false) : nx N c s0 wo [] = some s0:=by
  cases e : nx N c s0 wo [] with
  | none=>exact absurd (by unfold smF; rw [if_pos ⟨rfl,rfl⟩]; omega) (nx_none e s0 h1 (by simp [isIn]) h2)
  | some b=>rw [nx_first e]
theorem Ok.snoc {P : List (Int × Int)} {b : Nat} {n : Int} (hg : Good n c) (h : Ok N c wo P) (hb : nx N c s0 wo P = some b) : Ok N c wo (P ++ [((b : Int),smF c s0 P b)]):=by
  obtain ⟨h1,h2,h3,h4,h5,-⟩:=nx_spec hb
  have hd:=smF_dst (s0:=s0) hg h b
  refine ⟨fun p hp=>?_,?_⟩
  · rcases List.mem_append.1 hp with hp|hp
    · exact h.rng p hp
    · simp only [List.mem_singleton] at hp
      subst hp
      exact ⟨by omega,by omega,hd.1,h4,h3⟩
  · rw [List.map_append,List.nodup_append]
    refine ⟨h.nodup,by simp,fun a ha x hx=>?_⟩
    simp only [List.map_cons,List.map_nil,List.mem_singleton] at hx
    subst hx
    rintro rfl
    exact h2 ha
theorem ext_sg {l l' : List (Option Int)} (h : l.length = l'.length) (hh : ∀ i,i < l.length → sg l i = sg l' i) : l = l':=Hp.ext l l' h hh
theorem smF_next {P : List (Int × Int)} {b k : Nat} (hb : nx N c s0 wo P = some b) (hkb : k ≠ b) : smF c s0 P k = sm c P k ∧ smF c s0 (P ++ [((b : Int),smF c s0 P b)]) k = min (sm c P k) (two (smF c s0 P b) (c b k)):=by
  constructor
  · unfold smF
    rw [if_neg]
    rintro ⟨rfl,e⟩
    exact hkb (e.trans (nx_first hb).symm)
  · have e : smF c s0 (P ++ [((b : Int),smF c s0 P b)]) k = sm c (P ++ [((b : Int),smF c s0 P b)]) k:=if_neg (by simp)
    rw [e,sm_snoc]
/-- What is settled behind j. -/
def st (N : Nat) (c : Int → Int → Int) (s0 wo : Nat) : Nat → List (Int × Int)
  | 0=>[]
  | j + 1=>match nx N c s0 wo (st N c s0 wo j) with
    | none=>st N c s0 wo j
    | some b=>st N c s0 wo j ++ [((b : Int),smF c s0 (st N c s0 wo j) b)]
theorem st_some {j b : Nat} (h : nx N c s0 wo (st N c s0 wo j) = some b) : st N c s0 wo (j + 1) = st N c s0 wo j ++ [((b : Int),smF c s0 (st N c s0 wo j) b)]:=by rw [st,h]
theorem st_none {j : Nat} (h : nx N c s0 wo (st N c s0 wo j) = none) : st N c s0 wo (j + 1) = st N c s0 wo j:=by rw [st,h]
theorem st_ok {n : Int} (hg : Good n c) : ∀ j,Ok N c wo (st N c s0 wo j)
  | 0=>Ok.nil
  | j + 1=>by
    cases h : nx N c s0 wo (st N c s0 wo j) with
    | none=>rw [st_none h]; exact st_ok hg j
    | some b=>rw [st_some h]; exact (st_ok hg j).snoc hg h
def norm (a : Int) : Int:=min (max a 0) 4611686018427387906
/-- Where a search stops. -/
def stopP (N : Nat) (c : Int → Int → Int) (s0 wo : Nat) (settles most : Int) (j : Nat) : Prop :=
  settles ≤ (st N c s0 wo j).length ∨ ∀ b,nx N c s0 wo (st N c s0 wo j) = some b → norm most < smF c s0 (st N c s0 wo j) b
/-- It gets as far as j. -/
def to (N : Nat) (c : Int → Int → Int) (s0 wo : Nat) (settles most : Int) (j : Nat) : Prop:=∀ i,i < j → ¬ stopP N c s0 wo settles most i
/-- What is touched. -/
def TQ (N : Nat) (c : Int → Int → Int) (wo : Nat) (P : List (Int × Int)) (i : Nat) : Prop:=i < N ∧ (isIn P i ∨ (inS wo (i : Int) = false ∧ ∃ p ∈ P,c p.1 i ≠ 4611686018427387906))
/-- A set of those of which something is so. -/
def Tq (Q : Nat → Prop) (T : Nat) : Prop:=T < 18446744073709551616 ∧ ∀ i,i < 64 → (T.testBit i = true ↔ Q i)
theorem Tq.congr {Q Q' : Nat → Prop} {T : Nat} (h : Tq Q T) (e : ∀ i,i < 64 → (Q i ↔ Q' i)) : Tq Q' T:=⟨h.1,fun i hi=>(h.2 i hi).trans (e i hi)⟩
theorem Tq.add {Q : Nat → Prop} {T : Nat} (h : Tq Q T) (x : Nat) : Tq (fun i=>Q i ∨ i = x) (T ||| bitN (x : Int)):=⟨or_lt _ _ h.1 (bitN_lt _),fun i hi=>by
  rw [with_bit T _ i hi,Bool.or_eq_true,h.2 i hi,decide_eq_true_iff]
  exact or_congr Iff.rfl (by omega)⟩
theorem Tq.uniq {Q : Nat → Prop} {T T' : Nat} (h : Tq Q T) (h' : Tq Q T') : T = T':=set_eq _ _ h.1 h'.1 fun i hi=>by
  rw [Bool.eq_iff_iff,h.2 i hi,h'.2 i hi]
theorem Tq.zero : Tq (TQ N c wo []) 0:=⟨by decide,fun i hi=>by rw [Nat.zero_testBit]; simp [TQ,isIn]⟩
/-- Which are settled, as a row keeps it. -/
structure DoneR (N : Nat) (R : RowM Int) (P : List (Int × Int)) : Prop where
  lv : R.v.length = N
  lw : R.wh.length = N
  now : R.now = 1
  n0 : 0 ≤ R.n
  n1 : R.n ≤ P.length
  has : ∀ i : Nat,i < N → (R.has (i : Int) ↔ isIn P i)
theorem DoneR.new (N : Nat) : DoneR N (RowM.new (0 : Int) N) []:=by
  refine ⟨by simp [RowM.new],by simp [RowM.new],rfl,by simp [RowM.new],by simp [RowM.new],fun i hi=>?_⟩
  unfold RowM.has RowM.new isIn
  simp only [Int.toNat_natCast,List.length_replicate,List.map_nil,List.not_mem_nil,iff_false]
  rintro ⟨-,h⟩
  rw [List.getD_eq_getElem?_getD,List.getElem?_replicate,if_pos hi] at h
  exact absurd h (by decide)
theorem DoneR.set {R : RowM Int} {P : List (Int × Int)} (h : DoneR N R P) {b : Nat} (hb : b < N) (d x : Int) : DoneR N (R.set (b : Int) x) (P ++ [((b : Int),d)]):=by
  have e : R.set (b : Int) x = { v:=R.v.set b x,wh:=R.wh.set b R.now,now:=R.now,n:=if R.has (b : Int) then R.n else R.n + 1 }:=by
    unfold RowM.set; rw [if_pos (by rw [h.lv]; omega)]; rfl
  rw [e]
  refine ⟨by simp [h.lv],by simp [h.lw],h.now,?_,?_,fun i hi=>?_⟩
  · have:=h.n0; dsimp only; split <;> omega
  · have:=h.n1; rw [List.length_append,List.length_singleton]; dsimp only; split <;> omega
  · rw [isIn_snoc,← h.has i hi]
    unfold RowM.has
    simp only [Int.toNat_natCast,List.length_set,h.lv]
    have g : (R.wh.set b R.now).getD i 0 = if i = b then R.now else R.wh.getD i 0:=by
      simp only [List.getD_eq_getElem?_getD,List.getElem?_set]
      by_cases e : b = i
      · subst e; simp [h.lw,hb]
      · simp [e,Ne.symm e]
    rw [g]
    by_cases e : i = b
    · simp only [e,if_pos,or_true,iff_true]; exact ⟨by omega,trivial⟩
    · simp only [e,if_false,or_false]
end
end Wt
end Go.Proofs.Ytliofdfhimmjmaa
