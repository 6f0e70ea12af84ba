/- A search that settles the nearest first, plainly. No program in sight. -/
import Derived.Test.YtblapiiinbppiaaGreatDoorHeapAll
import Derived.Test.YtblapiiinbppiaaGreatDoorMeshLaw
import Derived.Test.YtblapiiinbppiaaGreatDoorStamp
import Derived.Test.YtblapiiinbppiaaGreatDoorBits
namespace Go.Proofs.YtblapiiinbppiaaGreatDoor
open Go.Rr Go Hp
set_option linter.unusedVariables false
set_option linter.unusedSectionVars false
namespace Wt
section
variable {N : Nat} {c : Int → Int → Int} {s0 wo : Nat}
/-- How far it is over what is settled. -/
def sm (c : Int → Int → Int) (P : List (Int × Int)) (w : Int) : Int:=P.foldl (fun a p=>min a (two p.2 (c p.1 w))) 4611686018427387906
theorem sm_snoc (c : Int → Int → Int) (P : List (Int × Int)) (p : Int × Int) (w : Int) : sm c (P ++ [p]) w = min (sm c P w) (two p.2 (c p.1 w)):=by unfold sm; rw [List.foldl_append]; rfl
def smF (c : Int → Int → Int) (s0 : Nat) (P : List (Int × Int)) (w : Nat) : Int:=if P = [] ∧ w = s0 then 0 else sm c P w
def isIn (P : List (Int × Int)) (w : Nat) : Prop:=(w : Int) ∈ P.map Prod.fst
instance (P : List (Int × Int)) (w : Nat) : Decidable (isIn P w):=by unfold isIn; infer_instance
theorem isIn_snoc (P : List (Int × Int)) (b : Nat) (d : Int) (w : Nat) : isIn (P ++ [((b : Int),d)]) w ↔ isIn P w ∨ w = b:=by
  unfold isIn
  rw [List.map_append,List.mem_append]
  simp only [List.map_cons,List.map_nil,List.mem_singleton]
  exact or_congr Iff.rfl (by constructor <;> intro h <;> omega)
def cand (c : Int → Int → Int) (s0 wo : Nat) (P : List (Int × Int)) (w : Nat) : Option Int:=if isIn P w ∨ inS wo (w : Int) = true then none else if smF c s0 P w < 4611686018427387906 then some (smF c s0 P w) else none
def hpW (N : Nat) (c : Int → Int → Int) (s0 wo : Nat) (P : List (Int × Int)) : List (Option Int):=(List.range N).map (cand c s0 wo P)
def nx (N : Nat) (c : Int → Int → Int) (s0 wo : Nat) (P : List (Int × Int)) : Option Nat:=bs RI (hpW N c s0 wo P)
theorem hpW_len (P : List (Int × Int)) : (hpW N c s0 wo P).length = N:=by simp [hpW]
theorem map_get {f : Nat → Option Int} {w : Nat} (h : w < N) : sg ((List.range N).map f) w = f w:=by
  unfold sg
  rw [List.getD_eq_getElem?_getD,List.getElem?_map,List.getElem?_range h]; rfl
theorem hpW_get (P : List (Int × Int)) {w : Nat} (h : w < N) : sg (hpW N c s0 wo P) w = cand c s0 wo P w:=map_get h
/-- What is settled is settled in order: all is as it should be. -/
structure Ok (N : Nat) (c : Int → Int → Int) (wo : Nat) (P : List (Int × Int)) : Prop where
  rng : ∀ p ∈ P,0 ≤ p.1 ∧ p.1 < N ∧ 0 ≤ p.2 ∧ p.2 < 4611686018427387906 ∧ inS wo p.1 = false
  nodup : (P.map Prod.fst).Nodup
theorem Ok.nil : Ok N c wo []:=⟨fun p h=>by simp at h,by simp⟩
theorem Ok.len {P : List (Int × Int)} (h : Ok N c wo P) : P.length ≤ N:=by
  have:=List.Nodup.length_le_of_subset (l₂:=(List.range N).map Int.ofNat) h.nodup (fun x hx=>by
    obtain ⟨p,hp,rfl⟩:=List.mem_map.1 hx
    have:=h.rng p hp
    exact List.mem_map.2 ⟨p.1.toNat,List.mem_range.2 (by omega),Int.toNat_of_nonneg this.1⟩)
  simpa using this
theorem sm_dst {n : Int} (hg : Good n c) {P : List (Int × Int)} (h : Ok N c wo P) (w : Int) : Dst (sm c P w):=by
  have key : ∀ (Q : List (Int × Int)) (a : Int),(∀ p ∈ Q,Dst p.2) → Dst a → Dst (Q.foldl (fun a p=>min a (two p.2 (c p.1 w))) a):=by
    intro Q
    induction Q with
    | nil=>intro a _ ha; exact ha
    | cons p Q ih =>
      intro a hq ha
      refine ih _ (fun x hx=>hq x (List.mem_cons_of_mem _ hx)) ?_
      have h1:=two_dst (hq p (List.mem_cons_self ..)) (hg.dst p.1 w)
      show Dst (min a (two p.2 (c p.1 w)))
      unfold Dst at *; omega
  exact key P 4611686018427387906 (fun p hp=>by have:=h.rng p hp; exact ⟨by omega,by omega⟩) ⟨by omega,by omega⟩
theorem smF_dst {n : Int} (hg : Good n c) {P : List (Int × Int)} (h : Ok N c wo P) (w : Nat) : Dst (smF c s0 P w):=by
  unfold smF; split
  · exact ⟨by omega,by omega⟩
  · exact sm_dst hg h w
/-- The next one. -/
theorem nx_spec {P : List (Int × Int)} {b : Nat} (h : nx N c s0 wo P = some b) : b < N ∧ ¬ isIn P b ∧ inS wo (b : Int) = false ∧ smF c s0 P b < 4611686018427387906 ∧ Hp.pg (hpW N c s0 wo P) b = smF c s0 P b ∧
    ∀ w,w < N → ¬ isIn P w → inS wo (w : Int) = false → smF c s0 P w < 4611686018427387906 → smF c s0 P b < smF c s0 P w ∨ (smF c s0 P b = smF c s0 P w ∧ b ≤ w):=by
  have hb:=bst_some soI h
  have hl:=hb.lt
  rw [hpW_len] at hl
  have hi:=hb.is
  rw [hpW_get P hl] at hi
  have hc : ∀ w,w < N → ¬ isIn P w → inS wo (w : Int) = false → smF c s0 P w < 4611686018427387906 → cand c s0 wo P w = some (smF c s0 P w):=fun w hw h1 h2 h3=>by
    unfold cand; rw [if_neg (by rw [h2]; rintro (k|k); exact h1 k; cases k),if_pos h3]
  have hn : ¬ (isIn P b ∨ inS wo (b : Int) = true):=fun k=>by unfold cand at hi; rw [if_pos k] at hi; cases hi
  have hn2 : smF c s0 P b < 4611686018427387906:=Decidable.byContradiction fun k=>by unfold cand at hi; rw [if_neg hn,if_neg k] at hi; cases hi
  have h2 : inS wo (b : Int) = false:=by
    cases e : inS wo (b : Int) with
    | false=>rfl
    | true=>exact absurd (.inr e) hn
  have hp : Hp.pg (hpW N c s0 wo P) b = smF c s0 P b:=by
    rw [hc b hl (fun k=>hn (.inl k)) h2 hn2] at hi
    exact (Option.some.inj hi).symm
  refine ⟨hl,fun k=>hn (.inl k),h2,hn2,hp,fun w hw h3 h4 h5=>?_⟩
  have:=hb.le w (by rw [hpW_len]; exact hw) _ (by rw [hpW_get P hw,hc w hw h3 h4 h5])
  rwa [hp] at this
theorem nx_first {b : Nat} (h : nx N c s0 wo [] = some b) : b = s0:=by
  have hn:=(nx_spec h).2.2.2.1
  unfold smF at hn
  split at hn
  · rename_i e; exact e.2
  · exact absurd hn (by show ¬ (4611686018427387906 : Int) < 4611686018427387906; omega)
theorem Ok.snoc {P : List (Int × Int)} {b : Nat} {n : Int} (hg : Good n c) (h : Ok N c wo P) (hb : nx N c s0 wo P = some b) : Ok N c wo (P ++ [((b : Int),smF c s0 P b)]):=by
  obtain ⟨h1,h2,h3,h4,h5,-⟩:=nx_spec hb
  have hd:=smF_dst (s0:=s0) hg h b
  refine ⟨fun p hp=>?_,?_⟩
  · rcases List.mem_append.1 hp with hp|hp
    · exact h.rng p hp
    · simp only [List.mem_singleton] at hp
      subst hp
      exact ⟨by omega,by omega,hd.1,h4,h3⟩
  · rw [List.map_append,List.nodup_append]
    refine ⟨h.nodup,by simp,fun a ha x hx=>?_⟩
    simp only [List.map_cons,List.map_nil,List.mem_singleton] at hx
    subst hx
    rintro rfl
    exact h2 ha
/-- Behind b, while its steps are gone through. -/
def rlx (N : Nat) (c : Int → Int → Int) (s0 wo : Nat) (P : List (Int × Int)) (b : Nat) (k : Nat) : List (Option Int) :=
  (List.range N).map fun w=>if w < k then cand c s0 wo (P ++ [((b : Int),smF c s0 P b)]) w else if w = b then none else cand c s0 wo P w
theorem rlx_len (P : List (Int × Int)) (b k : Nat) : (rlx N c s0 wo P b k).length = N:=by simp [rlx]
theorem ext_sg {l l' : List (Option Int)} (h : l.length = l'.length) (hh : ∀ i,i < l.length → sg l i = sg l' i) : l = l':=Hp.ext l l' h hh
theorem rlx_zero {P : List (Int × Int)} {b : Nat} (hb : nx N c s0 wo P = some b) : (hpW N c s0 wo P).set b none = rlx N c s0 wo P b 0:=by
  have hl:=(nx_spec hb).1
  refine ext_sg (by rw [List.length_set,hpW_len,rlx_len]) fun i hi=>?_
  rw [List.length_set,hpW_len] at hi
  rw [sg_set _ _ _ _ (by rw [hpW_len]; exact hl),hpW_get P hi]
  unfold rlx
  rw [map_get hi,if_neg (show ¬ i < 0 by omega)]
theorem rlx_full (P : List (Int × Int)) (b : Nat) : rlx N c s0 wo P b N = hpW N c s0 wo (P ++ [((b : Int),smF c s0 P b)]):=by
  refine ext_sg (by rw [hpW_len,rlx_len]) fun i hi=>?_
  rw [rlx_len] at hi
  rw [hpW_get _ hi]
  unfold rlx
  rw [map_get hi,if_pos hi]
theorem rlx_same {P : List (Int × Int)} {b k : Nat} (h : cand c s0 wo (P ++ [((b : Int),smF c s0 P b)]) k = if k = b then none else cand c s0 wo P k) : rlx N c s0 wo P b (k + 1) = rlx N c s0 wo P b k:=by
  refine ext_sg (by rw [rlx_len,rlx_len]) fun i hi=>?_
  rw [rlx_len] at hi
  unfold rlx
  rw [map_get hi,map_get hi]
  by_cases e : i = k
  · subst e; rw [if_pos (by omega),if_neg (by omega),h]
  · by_cases e2 : i < k
    · rw [if_pos (by omega),if_pos e2]
    · rw [if_neg (by omega),if_neg e2]
theorem smF_next {P : List (Int × Int)} {b k : Nat} (hb : nx N c s0 wo P = some b) (hkb : k ≠ b) : smF c s0 P k = sm c P k ∧ smF c s0 (P ++ [((b : Int),smF c s0 P b)]) k = min (sm c P k) (two (smF c s0 P b) (c b k)):=by
  constructor
  · unfold smF
    rw [if_neg]
    rintro ⟨rfl,e⟩
    exact hkb (e.trans (nx_first hb).symm)
  · have e : smF c s0 (P ++ [((b : Int),smF c s0 P b)]) k = sm c (P ++ [((b : Int),smF c s0 P b)]) k:=if_neg (by simp)
    rw [e,sm_snoc]
theorem rlx_skip {n : Int} (hg : Good n c) {P : List (Int × Int)} (hok : Ok N c wo P) {b k : Nat} (hb : nx N c s0 wo P = some b) (h : ¬ c b k ≠ 4611686018427387906 ∨ inS wo (k : Int) = true ∨ isIn (P ++ [((b : Int),smF c s0 P b)]) k) : rlx N c s0 wo P b (k + 1) = rlx N c s0 wo P b k:=by
  refine rlx_same ?_
  by_cases hkb : k = b
  · rw [if_pos hkb]; unfold cand; rw [if_pos (.inl ((isIn_snoc P b _ k).2 (.inr hkb)))]
  · rw [if_neg hkb]
    by_cases hi : isIn P k ∨ inS wo (k : Int) = true
    · unfold cand
      rw [if_pos hi,if_pos (hi.imp (fun h=>(isIn_snoc P b _ k).2 (.inl h)) id)]
    · have hc : c b k = 4611686018427387906:=by
        rcases h with h|h|h
        · exact Decidable.not_not.1 h
        · exact absurd (.inr h) hi
        · rcases (isIn_snoc P b _ k).1 h with h|h
          · exact absurd (.inl h) hi
          · exact absurd h hkb
      obtain ⟨e1,e2⟩:=smF_next hb hkb
      have hd:=sm_dst hg hok (k : Int)
      have e3 : smF c s0 (P ++ [((b : Int),smF c s0 P b)]) k = smF c s0 P k:=by
        rw [e2,e1,hc,two_none_right]; unfold Dst at hd; omega
      unfold cand
      rw [if_neg hi,if_neg (fun h=>(h.elim (fun h=>((isIn_snoc P b _ k).1 h).elim (fun h=>hi (.inl h)) hkb) (fun h=>hi (.inr h)))),e3]
theorem rlx_put {n : Int} (hg : Good n c) {P : List (Int × Int)} (hok : Ok N c wo P) {b k : Nat} (hb : nx N c s0 wo P = some b) (hk : k < N) (h1 : c b k ≠ 4611686018427387906) (h2 : inS wo (k : Int) = false) (h3 : ¬ isIn (P ++ [((b : Int),smF c s0 P b)]) k) :
    putL RI (rlx N c s0 wo P b k) (k : Int) (two (smF c s0 P b) (c b k)) = rlx N c s0 wo P b (k + 1):=by
  have hkb : k ≠ b:=fun e=>h3 ((isIn_snoc P b _ k).2 (.inr e))
  have hnP : ¬ isIn P k:=fun e=>h3 ((isIn_snoc P b _ k).2 (.inl e))
  obtain ⟨e1,e2⟩:=smF_next hb hkb
  have hd:=sm_dst hg hok (k : Int)
  have hbd:=smF_dst (s0:=s0) hg hok b
  have hbl:=(nx_spec hb).2.2.2.1
  have ht : two (smF c s0 P b) (c b k) < 4611686018427387906:=(two_lt hbd (hg.dst b k)).2 ⟨by omega,h1⟩
  obtain ⟨t,htt⟩ : ∃ t,t = two (smF c s0 P b) (c b k):=⟨_,rfl⟩
  rw [← htt] at ht e2 ⊢
  have hw : inS wo (k : Int) ≠ true:=by rw [h2]; decide
  have hold : cand c s0 wo P k = if sm c P k < 4611686018427387906 then some (sm c P k) else none:=by
    unfold cand; rw [if_neg (by rintro (h|h); exact hnP h; exact hw h),e1]
  have hnew : cand c s0 wo (P ++ [((b : Int),smF c s0 P b)]) k = some (min (sm c P k) t):=by
    unfold cand; rw [if_neg (by rintro (h|h); exact h3 h; exact hw h),e2,if_pos (by omega)]
  have hat : sg (rlx N c s0 wo P b k) k = cand c s0 wo P k:=by unfold rlx; rw [map_get hk,if_neg (by omega),if_neg hkb]
  have hnx : ∀ i,i < N → sg (rlx N c s0 wo P b (k + 1)) i = if i = k then some (min (sm c P k) t) else sg (rlx N c s0 wo P b k) i:=fun i hi=>by
    unfold rlx
    rw [map_get hi,map_get hi]
    by_cases e : i = k
    · subst e; rw [if_pos (by omega),if_pos rfl,hnew]
    · rw [if_neg e]
      by_cases e2 : i < k
      · rw [if_pos (by omega),if_pos e2]
      · rw [if_neg (by omega),if_neg e2]
  have hput : putC RI (rlx N c s0 wo P b k) (k : Int) t = if sm c P k ≤ t then 5 else 0:=by
    unfold putC
    rw [if_neg (by rw [rlx_len]; omega),Int.toNat_natCast,hat,hold]
    by_cases h : sm c P k < 4611686018427387906
    · rw [if_pos h]
      show (if t < sm c P k then (0 : Int) else 5) = _
      by_cases h5 : sm c P k ≤ t
      · rw [if_neg (by omega),if_pos h5]
      · rw [if_pos (by omega),if_neg h5]
    · rw [if_neg h,if_neg (by unfold Dst at hd; omega)]
  unfold putL
  rw [hput]
  by_cases h5 : sm c P k ≤ t
  · rw [if_pos h5,if_neg (by decide)]
    refine ext_sg (by rw [rlx_len,rlx_len]) fun i hi=>?_
    rw [rlx_len] at hi
    rw [hnx i hi]
    by_cases e : i = k
    · subst e; rw [if_pos rfl,hat,hold,if_pos (by omega),show min (sm c P i) t = sm c P i by omega]
    · rw [if_neg e]
  · rw [if_neg h5,if_pos rfl,Int.toNat_natCast]
    refine ext_sg (by rw [List.length_set,rlx_len,rlx_len]) fun i hi=>?_
    rw [List.length_set,rlx_len] at hi
    rw [hnx i hi,sg_set _ _ _ _ (by rw [rlx_len]; exact hk)]
    by_cases e : i = k
    · rw [if_pos e,if_pos e,show min (sm c P k) t = t by omega]
    · rw [if_neg e,if_neg e]
/-- What is settled behind j. -/
def st (N : Nat) (c : Int → Int → Int) (s0 wo : Nat) : Nat → List (Int × Int)
  | 0=>[]
  | j + 1=>match nx N c s0 wo (st N c s0 wo j) with
    | none=>st N c s0 wo j
    | some b=>st N c s0 wo j ++ [((b : Int),smF c s0 (st N c s0 wo j) b)]
theorem st_some {j b : Nat} (h : nx N c s0 wo (st N c s0 wo j) = some b) : st N c s0 wo (j + 1) = st N c s0 wo j ++ [((b : Int),smF c s0 (st N c s0 wo j) b)]:=by rw [st,h]
theorem st_none {j : Nat} (h : nx N c s0 wo (st N c s0 wo j) = none) : st N c s0 wo (j + 1) = st N c s0 wo j:=by rw [st,h]
theorem st_ok {n : Int} (hg : Good n c) : ∀ j,Ok N c wo (st N c s0 wo j)
  | 0=>Ok.nil
  | j + 1=>by
    cases h : nx N c s0 wo (st N c s0 wo j) with
    | none=>rw [st_none h]; exact st_ok hg j
    | some b=>rw [st_some h]; exact (st_ok hg j).snoc hg h
def norm (a : Int) : Int:=min (max a 0) 4611686018427387906
/-- Where a search stops. -/
def stopP (N : Nat) (c : Int → Int → Int) (s0 wo : Nat) (settles most : Int) (j : Nat) : Prop :=
  settles ≤ (st N c s0 wo j).length ∨ ∀ b,nx N c s0 wo (st N c s0 wo j) = some b → norm most < smF c s0 (st N c s0 wo j) b
/-- It gets as far as j. -/
def to (N : Nat) (c : Int → Int → Int) (s0 wo : Nat) (settles most : Int) (j : Nat) : Prop:=∀ i,i < j → ¬ stopP N c s0 wo settles most i
theorem to_zero (settles most : Int) : to N c s0 wo settles most 0:=fun i h=>by omega
theorem to_succ {settles most : Int} {j : Nat} (h : to N c s0 wo settles most j) (hs : ¬ stopP N c s0 wo settles most j) : to N c s0 wo settles most (j + 1):=fun i hi=>by
  by_cases e : i = j
  · exact e ▸ hs
  · exact h i (by omega)
theorem to_nx {settles most : Int} {j : Nat} (hs : ¬ stopP N c s0 wo settles most j) : ∃ b,nx N c s0 wo (st N c s0 wo j) = some b ∧ smF c s0 (st N c s0 wo j) b ≤ norm most ∧ ((st N c s0 wo j).length : Int) < settles:=by
  cases h : nx N c s0 wo (st N c s0 wo j) with
  | none=>exact absurd (.inr (fun b hb=>by rw [h] at hb; cases hb)) hs
  | some b =>
    refine ⟨b,rfl,?_,?_⟩
    · refine Int.not_lt.1 fun hh=>hs (.inr fun b' hb'=>?_)
      rw [h] at hb'; cases hb'; exact hh
    · exact Int.not_le.1 fun hh=>hs (.inl hh)
theorem to_len {settles most : Int} : ∀ {j : Nat},to N c s0 wo settles most j → (st N c s0 wo j).length = j
  | 0,_=>rfl
  | j + 1,h=>by
    obtain ⟨b,hb,-⟩:=to_nx (h j (by omega))
    rw [st_some hb,List.length_append,to_len (fun i hi=>h i (by omega))]; rfl
theorem to_uniq {settles most : Int} {i j : Nat} (h1 : to N c s0 wo settles most i) (s1 : stopP N c s0 wo settles most i) (h2 : to N c s0 wo settles most j) (s2 : stopP N c s0 wo settles most j) : i = j:=by
  rcases Nat.lt_trichotomy i j with h|h|h
  · exact absurd s1 (h2 i h)
  · exact h
  · exact absurd s2 (h1 j h)
theorem to_le {n : Int} (hg : Good n c) {settles most : Int} {j : Nat} (h : to N c s0 wo settles most j) : j ≤ N:=by
  have:=(st_ok (N:=N) (s0:=s0) (wo:=wo) hg j).len
  rwa [to_len h] at this
/-- What is touched. -/
def TQ (N : Nat) (c : Int → Int → Int) (wo : Nat) (P : List (Int × Int)) (i : Nat) : Prop:=i < N ∧ (isIn P i ∨ (inS wo (i : Int) = false ∧ ∃ p ∈ P,c p.1 i ≠ 4611686018427387906))
def TQk (N : Nat) (c : Int → Int → Int) (wo : Nat) (P : List (Int × Int)) (b : Nat) (d : Int) (k : Nat) (i : Nat) : Prop :=
  i < N ∧ (isIn (P ++ [((b : Int),d)]) i ∨ (inS wo (i : Int) = false ∧ ((∃ p ∈ P,c p.1 i ≠ 4611686018427387906) ∨ (i < k ∧ c b i ≠ 4611686018427387906))))
/-- A set of those of which something is so. -/
def Tq (Q : Nat → Prop) (T : Nat) : Prop:=T < 18446744073709551616 ∧ ∀ i,i < 64 → (T.testBit i = true ↔ Q i)
theorem Tq.congr {Q Q' : Nat → Prop} {T : Nat} (h : Tq Q T) (e : ∀ i,i < 64 → (Q i ↔ Q' i)) : Tq Q' T:=⟨h.1,fun i hi=>(h.2 i hi).trans (e i hi)⟩
theorem Tq.add {Q : Nat → Prop} {T : Nat} (h : Tq Q T) (x : Nat) : Tq (fun i=>Q i ∨ i = x) (T ||| bitN (x : Int)):=⟨or_lt _ _ h.1 (bitN_lt _),fun i hi=>by
  rw [with_bit T _ i hi,Bool.or_eq_true,h.2 i hi,decide_eq_true_iff]
  exact or_congr Iff.rfl (by omega)⟩
theorem Tq.uniq {Q : Nat → Prop} {T T' : Nat} (h : Tq Q T) (h' : Tq Q T') : T = T':=set_eq _ _ h.1 h'.1 fun i hi=>by
  rw [Bool.eq_iff_iff,h.2 i hi,h'.2 i hi]
theorem Tq.zero : Tq (TQ N c wo []) 0:=⟨by decide,fun i hi=>by rw [Nat.zero_testBit]; simp [TQ,isIn]⟩
theorem TQ_start {P : List (Int × Int)} {b : Nat} {d : Int} {T : Nat} (hb : b < N) (h : Tq (TQ N c wo P) T) : Tq (TQk N c wo P b d 0) (T ||| bitN (b : Int)):=(h.add b).congr fun i hi=>by
  unfold TQ TQk
  rw [isIn_snoc]
  constructor
  · rintro (⟨h1,h2|h2⟩|rfl)
    · exact ⟨h1,.inl (.inl h2)⟩
    · exact ⟨h1,.inr ⟨h2.1,.inl h2.2⟩⟩
    · exact ⟨hb,.inl (.inr rfl)⟩
  · rintro ⟨h1,(h2|h2)|⟨h2,h3|h3⟩⟩
    · exact .inl ⟨h1,.inl h2⟩
    · exact .inr h2
    · exact .inl ⟨h1,.inr ⟨h2,h3⟩⟩
    · omega
theorem TQ_skip {P : List (Int × Int)} {b k : Nat} {d : Int} {T : Nat} (hs : ¬ c b k ≠ 4611686018427387906 ∨ inS wo (k : Int) = true) (h : Tq (TQk N c wo P b d k) T) : Tq (TQk N c wo P b d (k + 1)) T:=h.congr fun i hi=>by
  unfold TQk
  constructor
  · rintro ⟨h1,h2|⟨h2,h3|h3⟩⟩
    · exact ⟨h1,.inl h2⟩
    · exact ⟨h1,.inr ⟨h2,.inl h3⟩⟩
    · exact ⟨h1,.inr ⟨h2,.inr ⟨by omega,h3.2⟩⟩⟩
  · rintro ⟨h1,h2|⟨h2,h3|h3⟩⟩
    · exact ⟨h1,.inl h2⟩
    · exact ⟨h1,.inr ⟨h2,.inl h3⟩⟩
    · refine ⟨h1,.inr ⟨h2,.inr ⟨?_,h3.2⟩⟩⟩
      have hne : i ≠ k:=by
        rintro rfl
        rcases hs with hs|hs
        · exact hs h3.2
        · rw [h2] at hs; cases hs
      omega
theorem TQ_step {P : List (Int × Int)} {b k : Nat} {d : Int} {T : Nat} (hk : k < N) (h1 : c b k ≠ 4611686018427387906) (h2 : inS wo (k : Int) = false) (h : Tq (TQk N c wo P b d k) T) : Tq (TQk N c wo P b d (k + 1)) (T ||| bitN (k : Int)):=(h.add k).congr fun i hi=>by
  unfold TQk
  constructor
  · rintro (⟨g1,g2|⟨g2,g3|g3⟩⟩|rfl)
    · exact ⟨g1,.inl g2⟩
    · exact ⟨g1,.inr ⟨g2,.inl g3⟩⟩
    · exact ⟨g1,.inr ⟨g2,.inr ⟨by omega,g3.2⟩⟩⟩
    · exact ⟨hk,.inr ⟨h2,.inr ⟨by omega,h1⟩⟩⟩
  · rintro ⟨g1,g2|⟨g2,g3|g3⟩⟩
    · exact .inl ⟨g1,.inl g2⟩
    · exact .inl ⟨g1,.inr ⟨g2,.inl g3⟩⟩
    · by_cases e : i = k
      · exact .inr e
      · exact .inl ⟨g1,.inr ⟨g2,.inr ⟨by omega,g3.2⟩⟩⟩
theorem TQ_done {P : List (Int × Int)} {b : Nat} {d : Int} {T : Nat} (h : Tq (TQk N c wo P b d N) T) : Tq (TQ N c wo (P ++ [((b : Int),d)])) T:=h.congr fun i hi=>by
  unfold TQk TQ
  constructor
  · rintro ⟨g1,g2|⟨g2,⟨p,hp,g3⟩|g3⟩⟩
    · exact ⟨g1,.inl g2⟩
    · exact ⟨g1,.inr ⟨g2,p,List.mem_append_left _ hp,g3⟩⟩
    · exact ⟨g1,.inr ⟨g2,_,List.mem_append_right _ (List.mem_singleton.2 rfl),g3.2⟩⟩
  · rintro ⟨g1,g2|⟨g2,p,hp,g3⟩⟩
    · exact ⟨g1,.inl g2⟩
    · rcases List.mem_append.1 hp with hp|hp
      · exact ⟨g1,.inr ⟨g2,.inl ⟨p,hp,g3⟩⟩⟩
      · rw [List.mem_singleton.1 hp] at g3
        exact ⟨g1,.inr ⟨g2,.inr ⟨g1,g3⟩⟩⟩
/-- Which are settled, as a row keeps it. -/
structure DoneR (N : Nat) (R : RowM Int) (P : List (Int × Int)) : Prop where
  lv : R.v.length = N
  lw : R.wh.length = N
  now : R.now = 1
  n0 : 0 ≤ R.n
  n1 : R.n ≤ P.length
  has : ∀ i : Nat,i < N → (R.has (i : Int) ↔ isIn P i)
theorem DoneR.new (N : Nat) : DoneR N (RowM.new (0 : Int) N) []:=by
  refine ⟨by simp [RowM.new],by simp [RowM.new],rfl,by simp [RowM.new],by simp [RowM.new],fun i hi=>?_⟩
  unfold RowM.has RowM.new isIn
  simp only [Int.toNat_natCast,List.length_replicate,List.map_nil,List.not_mem_nil,iff_false]
  rintro ⟨-,h⟩
  rw [List.getD_eq_getElem?_getD,List.getElem?_replicate,if_pos hi] at h
  exact absurd h (by decide)
theorem DoneR.set {R : RowM Int} {P : List (Int × Int)} (h : DoneR N R P) {b : Nat} (hb : b < N) (d x : Int) : DoneR N (R.set (b : Int) x) (P ++ [((b : Int),d)]):=by
  have e : R.set (b : Int) x = { v:=R.v.set b x,wh:=R.wh.set b R.now,now:=R.now,n:=if R.has (b : Int) then R.n else R.n + 1 }:=by
    unfold RowM.set; rw [if_pos (by rw [h.lv]; omega)]; rfl
  rw [e]
  refine ⟨by simp [h.lv],by simp [h.lw],h.now,?_,?_,fun i hi=>?_⟩
  · have:=h.n0; dsimp only; split <;> omega
  · have:=h.n1; rw [List.length_append,List.length_singleton]; dsimp only; split <;> omega
  · rw [isIn_snoc,← h.has i hi]
    unfold RowM.has
    simp only [Int.toNat_natCast,List.length_set,h.lv]
    have g : (R.wh.set b R.now).getD i 0 = if i = b then R.now else R.wh.getD i 0:=by
      simp only [List.getD_eq_getElem?_getD,List.getElem?_set]
      by_cases e : b = i
      · subst e; simp [h.lw,hb]
      · simp [e,Ne.symm e]
    rw [g]
    by_cases e : i = b
    · simp only [e,if_pos,or_true,iff_true]; exact ⟨by omega,trivial⟩
    · simp only [e,if_false,or_false]
end
end Wt
end Go.Proofs.YtblapiiinbppiaaGreatDoor
