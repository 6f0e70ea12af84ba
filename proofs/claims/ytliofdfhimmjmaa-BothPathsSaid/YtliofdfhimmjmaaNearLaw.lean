/- How far it is along open roads, from a vertex and to one, plainly; a search that settles the nearest first. No program in sight. -/
import Derived.Test.YtliofdfhimmjmaaGraphLaw2
import Derived.Test.YtliofdfhimmjmaaWitLaw3
namespace Go.Proofs.Ytliofdfhimmjmaa
open Go.Rr Go Gr Hp
set_option linter.unusedVariables false
set_option linter.unusedSectionVars false
/-- The least weight of an open road between two vertices. -/
def cG (s : St) : Int → Int → Int:=fun u w=>if u = w then 4611686018427387906 else (best s u w).1
section
variable {n most : Int} {s : St}
theorem cG_le (hg : GOk n most s) {i u w : Int} (h : mt s u w i) (hne : u ≠ w) : cG s u w ≤ (s i.toNat).a.w:=by
  unfold cG; rw [if_neg hne]
  rcases best_spec hg u w with ⟨_,h0⟩|⟨_,_,h3⟩
  · exact absurd h (h0 i)
  · rcases h3 i h with k|k <;> omega
theorem cG_ex (hg : GOk n most s) {u w : Int} (h : cG s u w ≠ 4611686018427387906) : u ≠ w ∧ ∃ i,mt s u w i ∧ cG s u w = (s i.toNat).a.w:=by
  unfold cG at h ⊢
  by_cases e : u = w
  · rw [if_pos e] at h; exact absurd rfl h
  · rw [if_neg e] at h ⊢
    refine ⟨e,?_⟩
    rcases best_spec hg u w with ⟨k,_⟩|⟨h1,h2,_⟩
    · rw [k] at h; exact absurd rfl h
    · exact ⟨_,h1,h2⟩
theorem cG_good (hg : GOk n most s) : Good n (cG s):=by
  have key : ∀ u w,cG s u w = 4611686018427387906 ∨ (1 ≤ cG s u w ∧ cG s u w ≤ 4611686018427387904 ∧ (0 ≤ u ∧ u < n ∧ 0 ≤ w ∧ w < n)):=fun u w=>by
    by_cases h : cG s u w = 4611686018427387906
    · exact .inl h
    · obtain ⟨_,i,hm,e⟩:=cG_ex hg h
      obtain ⟨_,h2,_,h4,h5⟩:=hm
      obtain ⟨⟨a1,a2⟩,a3⟩:=hg.arc _ h2
      rw [h4] at a1; rw [h5] at a2
      exact .inr ⟨by omega,by omega,by omega⟩
  refine ⟨hg.n1,hg.n2,fun u w=>?_,fun u w=>?_,fun u=>if_pos rfl,fun u w h=>?_⟩
  · rcases key u w with k|k <;> omega
  · rcases key u w with k|k <;> omega
  · rcases key u w with k|k
    · exact k
    · exact absurd k.2.2 h
theorem good_flip {c : Int → Int → Int} (h : Good n c) : Good n (fun u w=>c w u) :=
  ⟨h.n1,h.n2,fun u w=>h.lo w u,fun u w=>h.hi w u,fun u=>h.dg u,fun u w k=>h.out w u (fun k2=>k ⟨k2.2.2.1,k2.2.2.2,k2.1,k2.2.1⟩)⟩
/-- From there on; or back. -/
def cD (s : St) (b : Bool) : Int → Int → Int:=fun u w=>if b = true then cG s w u else cG s u w
theorem cD_good (hg : GOk n most s) (b : Bool) : Good n (cD s b):=by
  cases b with
  | true=>exact good_flip (cG_good hg)
  | false=>exact cG_good hg
def oth (a : Arc) (b : Bool) : Int:=if b = true then a.t else a.h
def frm (a : Arc) (b : Bool) : Int:=if b = true then a.h else a.t
def arcsI (s : St) (b : Bool) (v : Int) : List Int:=if b = true then inI s v else outI s v
theorem mem_arcsI {b : Bool} {v i : Int} : i ∈ arcsI s b v ↔ (0 ≤ i ∧ i < 64) ∧ (s i.toNat).tk = true ∧ frm (s i.toNat).a b = v:=by
  unfold arcsI frm
  cases b with
  | true =>
    show i ∈ lstP (inP s v) ↔ _
    rw [mem_lstP]; unfold inP; simp
  | false =>
    show i ∈ lstP (outP s v) ↔ _
    rw [mem_lstP]; unfold outP; simp
def rx1 (s : St) (b : Bool) (r : Int → Int) (i : Int) : Int → Int:=if (s i.toNat).a.cl = true then r else fun x=>if x = oth (s i.toNat).a b then min (r x) (s i.toNat).a.w else r x
def rx (s : St) (b : Bool) (l : List Int) : Int → Int:=l.foldl (rx1 s b) (fun _=>4611686018427387906)
theorem rx_snoc (b : Bool) (l : List Int) (i : Int) : rx s b (l ++ [i]) = rx1 s b (rx s b l) i:=by unfold rx; rw [List.foldl_append]; rfl
theorem rx_gen (b : Bool) (x : Int) : ∀ (l : List Int) (r0 : Int → Int),l.foldl (rx1 s b) r0 x ≤ r0 x ∧ (∀ i ∈ l,(s i.toNat).a.cl = false → oth (s i.toNat).a b = x → l.foldl (rx1 s b) r0 x ≤ (s i.toNat).a.w) ∧
    (l.foldl (rx1 s b) r0 x = r0 x ∨ ∃ i ∈ l,(s i.toNat).a.cl = false ∧ oth (s i.toNat).a b = x ∧ l.foldl (rx1 s b) r0 x = (s i.toNat).a.w)
  | [], r0=>⟨Int.le_refl _,fun i hi=>(by cases hi),.inl rfl⟩
  | i :: l,r0=>by
    obtain ⟨h1,h2,h3⟩:=rx_gen b x l (rx1 s b r0 i)
    have e : rx1 s b r0 i x = if (s i.toNat).a.cl = false ∧ x = oth (s i.toNat).a b then min (r0 x) (s i.toNat).a.w else r0 x:=by
      unfold rx1
      cases hc : (s i.toNat).a.cl with
      | true=>simp
      | false=>simp
    rw [List.foldl_cons]
    by_cases hh : (s i.toNat).a.cl = false ∧ x = oth (s i.toNat).a b
    · rw [if_pos hh] at e
      refine ⟨by omega,fun k hk hc ho=>?_,?_⟩
      · rcases List.mem_cons.1 hk with rfl|hk
        · omega
        · exact h2 k hk hc ho
      · rcases h3 with k|⟨k,hk,k1,k2,k3⟩
        · by_cases hm : r0 x ≤ (s i.toNat).a.w
          · exact .inl (by omega)
          · exact .inr ⟨i,List.mem_cons_self ..,hh.1,hh.2.symm,by omega⟩
        · exact .inr ⟨k,List.mem_cons_of_mem _ hk,k1,k2,k3⟩
    · rw [if_neg hh] at e
      refine ⟨by omega,fun k hk hc ho=>?_,?_⟩
      · rcases List.mem_cons.1 hk with rfl|hk
        · exact absurd ⟨hc,ho.symm⟩ hh
        · exact h2 k hk hc ho
      · rcases h3 with k|⟨k,hk,k1,k2,k3⟩
        · exact .inl (by omega)
        · exact .inr ⟨k,List.mem_cons_of_mem _ hk,k1,k2,k3⟩
theorem rx_dst (hg : GOk n most s) (b : Bool) {l : List Int} (hl : ∀ i ∈ l,(s i.toNat).tk = true) (x : Int) : Dst (rx s b l x):=by
  obtain ⟨h1,h2,h3⟩:=rx_gen (s:=s) b x l (fun _=>4611686018427387906)
  show Dst (l.foldl (rx1 s b) (fun _=>4611686018427387906) x)
  rcases h3 with k|⟨i,hi,_,_,k3⟩
  · rw [k]; exact ⟨by omega,by omega⟩
  · rw [k3]
    have:=(hg.arc _ (hl i hi)).2
    exact ⟨by omega,by omega⟩
theorem mt_of {b : Bool} {v x i : Int} (hi : i ∈ arcsI s b v) (hc : (s i.toNat).a.cl = false) (ho : oth (s i.toNat).a b = x) : if b = true then mt s x v i else mt s v x i:=by
  obtain ⟨h1,h2,h3⟩:=mem_arcsI.1 hi
  unfold frm at h3; unfold oth at ho
  cases b with
  | true=>exact ⟨h1,h2,hc,ho,h3⟩
  | false=>exact ⟨h1,h2,hc,h3,ho⟩
theorem rx_full (hg : GOk n most s) (b : Bool) {v x : Int} (hne : x ≠ v) : rx s b (arcsI s b v) x = cD s b v x:=by
  obtain ⟨h1,h2,h3⟩:=rx_gen (s:=s) b x (arcsI s b v) (fun _=>4611686018427387906)
  have hd:=(cD_good hg b).hi v x
  show (arcsI s b v).foldl (rx1 s b) (fun _=>4611686018427387906) x = _
  have hub : (arcsI s b v).foldl (rx1 s b) (fun _=>4611686018427387906) x ≤ cD s b v x:=by
    by_cases hn : cD s b v x = 4611686018427387906
    · omega
    · cases b with
      | true =>
        obtain ⟨_,i,hm,e⟩:=cG_ex hg (show cG s x v ≠ 4611686018427387906 from hn)
        rw [show cD s true v x = cG s x v from rfl,e]
        exact h2 i (mem_arcsI.2 ⟨hm.1,hm.2.1,hm.2.2.2.2⟩) hm.2.2.1 hm.2.2.2.1
      | false =>
        obtain ⟨_,i,hm,e⟩:=cG_ex hg (show cG s v x ≠ 4611686018427387906 from hn)
        rw [show cD s false v x = cG s v x from rfl,e]
        exact h2 i (mem_arcsI.2 ⟨hm.1,hm.2.1,hm.2.2.2.1⟩) hm.2.2.1 hm.2.2.2.2
  refine Int.le_antisymm hub ?_
  rcases h3 with k|⟨i,hi,k1,k2,k3⟩
  · omega
  · rw [k3]
    have hm:=mt_of hi k1 k2
    cases b with
    | true=>exact cG_le hg hm hne
    | false=>exact cG_le hg hm (Ne.symm hne)
end
theorem two_min {a x y : Int} (ha : Dst a) (hx : Dst x) (hy : Dst y) : two a (min x y) = min (two a x) (two a y):=by
  by_cases h : x ≤ y
  · have:=two_mono ha hx ha hy (Int.le_refl _) h
    rw [show min x y = x by omega]; omega
  · have:=two_mono ha hy ha hx (Int.le_refl _) (show y ≤ x by omega)
    rw [show min x y = y by omega]; omega
section
variable {n : Int} {c : Int → Int → Int} {s0 : Nat}
abbrev stN (n : Int) (c : Int → Int → Int) (s0 j : Nat) : List (Int × Int):=Wt.st n.toNat c s0 0 j
def fpv (n : Int) (c : Int → Int → Int) (s0 : Nat) (P : List (Int × Int)) (w : Nat) : Int:=if Wt.isIn P w then far n c s0 w else Wt.sm c P w
/-- How far it is to each, as far as it is known. -/
def FP (n : Int) (c : Int → Int → Int) (s0 : Nat) (P : List (Int × Int)) : List Int:=(List.range n.toNat).map (fpv n c s0 P)
def fr (n : Int) (c : Int → Int → Int) (s0 : Nat) (P : List (Int × Int)) (b : Nat) (d : Int) (r : Int → Int) (w : Nat) : Int:=if Wt.isIn P w ∨ w = b then far n c s0 w else min (Wt.sm c P w) (two d (r w))
def ov (v : Int) : Option Int:=if v < 4611686018427387906 then some v else none
def hr (c : Int → Int → Int) (P : List (Int × Int)) (b : Nat) (d : Int) (r : Int → Int) (w : Nat) : Option Int:=if Wt.isIn P w ∨ w = b then none else ov (min (Wt.sm c P w) (two d (r w)))
/-- The same, and what waits, while the roads of a vertex are gone through. -/
def FL (n : Int) (c : Int → Int → Int) (s0 : Nat) (P : List (Int × Int)) (b : Nat) (d : Int) (r : Int → Int) : List Int:=(List.range n.toNat).map (fr n c s0 P b d r)
def HL (n : Int) (c : Int → Int → Int) (P : List (Int × Int)) (b : Nat) (d : Int) (r : Int → Int) : List (Option Int):=(List.range n.toNat).map (hr c P b d r)
theorem nrg_get {f : Nat → Int} {N i : Nat} (h : i < N) : ((List.range N).map f).getD i default = f i:=by
  rw [List.getD_eq_getElem?_getD,List.getElem?_map,List.getElem?_range h]; rfl
theorem nrg_set {α : Type} {f g : Nat → α} {N o : Nat} {z : α} (h : o < N) (hz : g o = z) (hh : ∀ i,i < N → i ≠ o → g i = f i) : ((List.range N).map f).set o z = (List.range N).map g:=by
  refine List.ext_getElem? fun i=>?_
  rw [List.getElem?_set,List.length_map,List.length_range,List.getElem?_map,List.getElem?_map]
  by_cases hi : i < N
  · rw [List.getElem?_range hi]
    by_cases e : o = i
    · subst e; rw [if_pos rfl,if_pos h,← hz]; rfl
    · rw [if_neg e]; simp only [Option.map_some]; rw [hh i hi (Ne.symm e)]
  · rw [show (List.range N)[i]? = none from List.getElem?_eq_none (by rw [List.length_range]; omega)]
    rw [if_neg (by omega)]
    try rfl
theorem nrg_congr {α : Type} {f g : Nat → α} {N : Nat} (hh : ∀ i,i < N → g i = f i) : (List.range N).map f = (List.range N).map g:=List.map_congr_left fun i hi=>(hh i (List.mem_range.1 hi)).symm
theorem FP_nil : FP n c s0 [] = List.replicate n.toNat 4611686018427387906:=by
  unfold FP
  rw [nrg_congr (g:=fun _=>4611686018427387906) (fun i _=>?_)]
  · rw [List.map_const',List.length_range]
  · unfold fpv; rw [if_neg (by simp [Wt.isIn])]; rfl
theorem FP_len (P : List (Int × Int)) : (FP n c s0 P).length = n.toNat:=by simp [FP]
theorem FL_len (P : List (Int × Int)) (b : Nat) (d : Int) (r : Int → Int) : (FL n c s0 P b d r).length = n.toNat:=by simp [FL]
theorem HL_len (P : List (Int × Int)) (b : Nat) (d : Int) (r : Int → Int) : (HL n c P b d r).length = n.toNat:=by simp [HL]
theorem inS0 (x : Int) : inS 0 x = false:=by unfold inS; rw [Nat.zero_testBit,Bool.and_false]
section
variable (hg : Good n c) (h1 : s0 < n.toNat) {j b : Nat} (hb : Wt.nx n.toNat c s0 0 (stN n c s0 j) = some b)
include hg h1 hb
theorem nx_far : Wt.smF c s0 (stN n c s0 j) b = far n c s0 b:=by
  have e:=Wt.st_some hb
  exact Wt.st_far hg h1 (j + 1) ((b : Int),Wt.smF c s0 (stN n c s0 j) b) (by rw [e]; simp)
theorem settled_le {o : Nat} (ho : Wt.isIn (stN n c s0 j) o ∨ o = b) : far n c s0 o ≤ far n c s0 b:=by
  rcases ho with h|h
  · obtain ⟨p,hp,e⟩:=List.mem_map.1 h
    have h2:=Wt.st_rise hg j b hb p hp
    have h3:=Wt.st_far hg h1 j p hp
    rw [nx_far hg h1 hb] at h2
    rw [← e,← h3]; exact h2
  · rw [h]; exact Int.le_refl _
theorem start_FL : (FP n c s0 (stN n c s0 j)).set b (far n c s0 b) = FL n c s0 (stN n c s0 j) b (far n c s0 b) (fun _=>4611686018427387906):=by
  have hbN:=(Wt.nx_spec hb).1
  refine nrg_set hbN (by unfold fr; rw [if_pos (.inr rfl)]) fun i hi hne=>?_
  unfold fr fpv
  by_cases h : Wt.isIn (stN n c s0 j) i
  · rw [if_pos (.inl h),if_pos h]
  · rw [if_neg (by rintro (k|k); exact h k; exact hne k),if_neg h,two_none_right]
    have hs : Wt.sm c (stN n c s0 j) (i : Int) ≤ 4611686018427387906:=(Wt.sm_dst hg (Wt.st_ok (N:=n.toNat) (s0:=s0) (wo:=0) hg j) (i : Int)).2
    omega
theorem start_HL : (Wt.hpW n.toNat c s0 0 (stN n c s0 j)).set b none = HL n c (stN n c s0 j) b (far n c s0 b) (fun _=>4611686018427387906):=by
  have hbN:=(Wt.nx_spec hb).1
  refine nrg_set hbN (by unfold hr; rw [if_pos (.inr rfl)]) fun i hi hne=>?_
  have hs : Wt.sm c (stN n c s0 j) (i : Int) ≤ 4611686018427387906:=(Wt.sm_dst hg (Wt.st_ok (N:=n.toNat) (s0:=s0) (wo:=0) hg j) (i : Int)).2
  show hr c (stN n c s0 j) b (far n c s0 b) (fun _=>4611686018427387906) i = if Wt.isIn (stN n c s0 j) i ∨ inS 0 (i : Int) = true then none else ov (Wt.smF c s0 (stN n c s0 j) i)
  unfold hr
  by_cases h : Wt.isIn (stN n c s0 j) i
  · rw [if_pos (.inl h),if_pos (.inl h)]
  · rw [if_neg (show ¬ (Wt.isIn (stN n c s0 j) i ∨ i = b) by rintro (k|k); exact h k; exact hne k),if_neg (show ¬ (Wt.isIn (stN n c s0 j) i ∨ inS 0 (i : Int) = true) by rw [inS0]; rintro (k|k); exact h k; cases k),two_none_right,(Wt.smF_next hb hne).1]
    congr 1
    omega
theorem end_FL {r : Int → Int} (hr' : ∀ x : Nat,x ≠ b → r x = c b x) : FL n c s0 (stN n c s0 j) b (far n c s0 b) r = FP n c s0 (stN n c s0 (j + 1)):=by
  have e : stN n c s0 (j + 1) = stN n c s0 j ++ [((b : Int),far n c s0 b)]:=by rw [← nx_far hg h1 hb]; exact Wt.st_some hb
  rw [e]
  refine nrg_congr fun i hi=>?_
  unfold fr fpv
  by_cases h : Wt.isIn (stN n c s0 j) i ∨ i = b
  · rw [if_pos h,if_pos ((Wt.isIn_snoc _ _ _ _).2 h)]
  · rw [if_neg h,if_neg (fun k=>h ((Wt.isIn_snoc _ _ _ _).1 k)),Wt.sm_snoc,hr' i (fun k=>h (.inr k))]
theorem end_HL {r : Int → Int} (hr' : ∀ x : Nat,x ≠ b → r x = c b x) : HL n c (stN n c s0 j) b (far n c s0 b) r = Wt.hpW n.toNat c s0 0 (stN n c s0 (j + 1)):=by
  have e : stN n c s0 (j + 1) = stN n c s0 j ++ [((b : Int),far n c s0 b)]:=by rw [← nx_far hg h1 hb]; exact Wt.st_some hb
  rw [e]
  refine nrg_congr fun i hi=>?_
  show (if Wt.isIn (stN n c s0 j ++ [((b : Int),far n c s0 b)]) i ∨ inS 0 (i : Int) = true then none else ov (Wt.smF c s0 (stN n c s0 j ++ [((b : Int),far n c s0 b)]) i)) = hr c (stN n c s0 j) b (far n c s0 b) r i
  unfold hr
  by_cases h : Wt.isIn (stN n c s0 j) i ∨ i = b
  · rw [if_pos h,if_pos (.inl ((Wt.isIn_snoc _ _ _ _).2 h))]
  · have e2 : Wt.smF c s0 (stN n c s0 j ++ [((b : Int),far n c s0 b)]) i = min (Wt.sm c (stN n c s0 j) i) (two (far n c s0 b) (r i)):=by
      unfold Wt.smF
      rw [if_neg (by simp),Wt.sm_snoc,hr' i (fun k=>h (.inr k))]
    rw [if_neg h,if_neg (show ¬ (Wt.isIn (stN n c s0 j ++ [((b : Int),far n c s0 b)]) i ∨ inS 0 (i : Int) = true) by rw [inS0]; rintro (k|k); exact h ((Wt.isIn_snoc _ _ _ _).1 k); cases k),e2]
/-- A road that is nearer; one that is not. -/
theorem step_lt {r : Int → Int} {o : Nat} {wt : Int} (hr' : ∀ x,Dst (r x)) (hw : Dst wt) (ho : o < n.toNat) (hlt : two (far n c s0 b) wt < (FL n c s0 (stN n c s0 j) b (far n c s0 b) r).getD o default) :
    (FL n c s0 (stN n c s0 j) b (far n c s0 b) r).set o (two (far n c s0 b) wt) = FL n c s0 (stN n c s0 j) b (far n c s0 b) (fun x=>if x = (o : Int) then min (r x) wt else r x) ∧
    putL RI (HL n c (stN n c s0 j) b (far n c s0 b) r) (o : Int) (two (far n c s0 b) wt) = HL n c (stN n c s0 j) b (far n c s0 b) (fun x=>if x = (o : Int) then min (r x) wt else r x):=by
  have hdD : Dst (far n c s0 b):=fw_dst hg n.toNat s0 b
  have hle:=le_two_left hdD hw
  unfold FL at hlt
  rw [nrg_get ho] at hlt
  unfold fr at hlt
  have hns : ¬ (Wt.isIn (stN n c s0 j) o ∨ o = b):=fun k=>by
    rw [if_pos k] at hlt
    have:=settled_le hg h1 hb k
    omega
  rw [if_neg hns] at hlt
  have hmin:=two_min hdD (hr' o) hw
  have hsd : Wt.sm c (stN n c s0 j) (o : Int) ≤ 4611686018427387906:=(Wt.sm_dst hg (Wt.st_ok (N:=n.toNat) (s0:=s0) (wo:=0) hg j) (o : Int)).2
  have enew : min (Wt.sm c (stN n c s0 j) o) (two (far n c s0 b) (if (o : Int) = (o : Int) then min (r o) wt else r o)) = two (far n c s0 b) wt:=by
    rw [if_pos rfl,hmin]; omega
  have hr1 : hr c (stN n c s0 j) b (far n c s0 b) (fun x=>if x = (o : Int) then min (r x) wt else r x) o = some (two (far n c s0 b) wt):=by
    unfold hr; rw [if_neg hns]; dsimp only; rw [enew]; exact if_pos (by omega)
  have hoth : ∀ i : Nat,i ≠ o → (if ((i : Nat) : Int) = (o : Int) then min (r i) wt else r i) = r i:=fun i h=>if_neg (by omega)
  constructor
  · refine nrg_set ho (by unfold fr; rw [if_neg hns]; exact enew) fun i hi hne=>?_
    unfold fr; dsimp only; rw [hoth i hne]
  · have hc : putC RI (HL n c (stN n c s0 j) b (far n c s0 b) r) (o : Int) (two (far n c s0 b) wt) = 0:=by
      unfold putC
      rw [if_neg (by rw [HL_len]; omega),Int.toNat_natCast]
      unfold HL
      rw [Wt.map_get ho]
      unfold hr
      rw [if_neg hns]
      split
      · rfl
      · rename_i q hq
        unfold ov at hq
        split at hq
        · obtain rfl:=Option.some.inj hq
          exact if_pos hlt
        · cases hq
    unfold putL
    rw [if_pos hc,Int.toNat_natCast]
    refine nrg_set ho hr1 fun i hi hne=>?_
    unfold hr; dsimp only; rw [hoth i hne]
theorem step_ge {r : Int → Int} {o : Nat} {wt : Int} (hr' : ∀ x,Dst (r x)) (hw : Dst wt) (ho : o < n.toNat) (hge : ¬ two (far n c s0 b) wt < (FL n c s0 (stN n c s0 j) b (far n c s0 b) r).getD o default) :
    FL n c s0 (stN n c s0 j) b (far n c s0 b) r = FL n c s0 (stN n c s0 j) b (far n c s0 b) (fun x=>if x = (o : Int) then min (r x) wt else r x) ∧
    HL n c (stN n c s0 j) b (far n c s0 b) r = HL n c (stN n c s0 j) b (far n c s0 b) (fun x=>if x = (o : Int) then min (r x) wt else r x):=by
  have hdD : Dst (far n c s0 b):=fw_dst hg n.toNat s0 b
  unfold FL at hge
  rw [nrg_get ho] at hge
  unfold fr at hge
  have hmin:=two_min hdD (hr' o) hw
  have key : ∀ i : Nat,¬ (Wt.isIn (stN n c s0 j) i ∨ i = b) → min (Wt.sm c (stN n c s0 j) i) (two (far n c s0 b) (if ((i : Nat) : Int) = (o : Int) then min (r i) wt else r i)) = min (Wt.sm c (stN n c s0 j) i) (two (far n c s0 b) (r i)):=fun i hi=>by
    by_cases e : i = o
    · subst e
      rw [if_neg hi] at hge
      rw [if_pos rfl,hmin]; omega
    · rw [if_neg (by omega)]
  constructor
  · refine nrg_congr fun i hi=>?_
    unfold fr
    by_cases h : Wt.isIn (stN n c s0 j) i ∨ i = b
    · rw [if_pos h,if_pos h]
    · rw [if_neg h,if_neg h]; exact key i h
  · refine nrg_congr fun i hi=>?_
    unfold hr
    by_cases h : Wt.isIn (stN n c s0 j) i ∨ i = b
    · rw [if_pos h,if_pos h]
    · rw [if_neg h,if_neg h]; dsimp only; rw [key i h]
end
theorem hp_start0 (h1 : s0 < n.toNat) : putL RI (List.replicate n.toNat none) (s0 : Int) 0 = Wt.hpW n.toNat c s0 0 []:=by
  have hs : ∀ i,i < n.toNat → sg (List.replicate n.toNat (none : Option Int)) i = none:=fun i hi=>by
    unfold sg; rw [List.getD_eq_getElem?_getD,List.getElem?_replicate,if_pos hi]; rfl
  have hc : putC RI (List.replicate n.toNat none) (s0 : Int) (0 : Int) = 0:=by
    unfold putC; rw [if_neg (by rw [List.length_replicate]; omega),Int.toNat_natCast,hs s0 h1]
  unfold putL
  rw [if_pos hc,Int.toNat_natCast]
  refine Wt.ext_sg (by rw [List.length_set,List.length_replicate,Wt.hpW_len]) fun i hi=>?_
  rw [List.length_set,List.length_replicate] at hi
  rw [sg_set _ _ _ _ (by rw [List.length_replicate]; exact h1),Wt.hpW_get [] hi,hs i hi]
  have e0 : Wt.smF c s0 [] s0 = 0:=if_pos ⟨rfl,rfl⟩
  have e1 : ∀ i,i ≠ s0 → Wt.smF c s0 [] i = 4611686018427387906:=fun i h=>if_neg (fun k=>h k.2)
  unfold Wt.cand
  by_cases e : i = s0
  · subst e
    rw [if_pos rfl,if_neg (by rw [inS0]; simp [Wt.isIn]),e0,if_pos (by omega)]
  · rw [if_neg e]
    by_cases h : Wt.isIn [] i ∨ inS 0 (i : Int) = true
    · rw [if_pos h]
    · rw [if_neg h,e1 i e,if_neg (by omega)]
theorem end_FP (hg : Good n c) (h1 : s0 < n.toNat) {j : Nat} (hn : Wt.nx n.toNat c s0 0 (stN n c s0 j) = none) : FP n c s0 (stN n c s0 j) = (List.range n.toNat).map (fun w=>far n c s0 ((w : Nat) : Int)):=by
  refine nrg_congr fun i hi=>?_
  unfold fpv
  by_cases h : Wt.isIn (stN n c s0 j) i
  · rw [if_pos h]
  · rw [if_neg h,Wt.st_none_far hg h1 hn (show ((i : Nat) : Int) ∉ _ from h)]
    have hsl : ¬ Wt.smF c s0 (stN n c s0 j) i < 4611686018427387906:=Wt.nx_none hn i hi h (inS0 _)
    have hok:=Wt.st_ok (N:=n.toNat) (s0:=s0) (wo:=0) hg j
    have hd : Wt.sm c (stN n c s0 j) (i : Int) ≤ 4611686018427387906:=(Wt.sm_dst hg hok (i : Int)).2
    have hne : stN n c s0 j ≠ []:=fun e=>by
      have:=Wt.nx_start (N:=n.toNat) (c:=c) (s0:=s0) (wo:=0) h1 (inS0 _)
      rw [← e] at this
      rw [this] at hn; cases hn
    have e : Wt.smF c s0 (stN n c s0 j) i = Wt.sm c (stN n c s0 j) i:=if_neg (fun k=>hne k.1)
    rw [e] at hsl
    omega
end
end Go.Proofs.Ytliofdfhimmjmaa
