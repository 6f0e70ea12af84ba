/- The tree of the shortest ways, and the way that it tells, plainly. No program in sight. -/
import Derived.Test.YtliofdfhimmjmaaNearLaw
import Derived.Test.YtliofdfhimmjmaaWalkLaw
namespace Go.Proofs.Ytliofdfhimmjmaa
open Go.Rr Go Gr Hp
set_option linter.unusedVariables false
set_option linter.unusedSectionVars false
def farL (n : Int) (c : Int → Int → Int) (s0 : Nat) : List Int:=(List.range n.toNat).map fun v=>far n c s0 ((v : Nat) : Int)
theorem farL_len (n : Int) (c : Int → Int → Int) (s0 : Nat) : (farL n c s0).length = n.toNat:=by simp [farL]
theorem farL_get {n : Int} {c : Int → Int → Int} {s0 : Nat} {v : Int} (h0 : 0 ≤ v) (h1 : v < n) : (farL n c s0).getD v.toNat default = far n c s0 v:=by
  unfold farL
  rw [nrg_get (by omega)]
  rw [show ((v.toNat : Nat) : Int) = v by omega]
section
variable {n : Int} {c : Int → Int → Int}
/-- The last step of a walk. -/
theorem wk_last (h : Good n c) {u w t : Int} (k : Wk c u w t) (hne : u ≠ w) : ∃ x t',Wk c u x t' ∧ two t' (c x w) ≤ t:=by
  induction k with
  | nil u=>exact absurd rfl hne
  | cons u y w s k ih =>
    by_cases e : y = w
    · subst e
      refine ⟨u,0,.nil u,?_⟩
      rw [zero_two (h.dst u y)]
      exact le_two_left (h.dst u y) (k.dst h)
    · obtain ⟨x,t',k1,k2⟩:=ih e
      refine ⟨x,two (c u y) t',.cons _ _ _ _ k1,?_⟩
      rw [two_assoc (h.dst u y) (k1.dst h) (h.dst x w)]
      exact two_mono (h.dst u y) (two_dst (k1.dst h) (h.dst x w)) (h.dst u y) (k.dst h) (Int.le_refl _) k2
theorem far_step (h : Good n c) (a x w : Int) : far n c a w ≤ two (far n c a x) (c x w) :=
  Int.le_trans (far_tri h a x w) (two_mono (fw_dst h _ _ _) (fw_dst h _ _ _) (fw_dst h _ _ _) (h.dst x w) (Int.le_refl _) (fw_le h _ _ _))
theorem far_self (h : Good n c) (a : Int) : far n c a a = 0:=fw_diag h _ a
theorem far_last (h : Good n c) {a w : Int} (hne : a ≠ w) : ∃ x,two (far n c a x) (c x w) = far n c a w:=by
  obtain ⟨s,k,hs⟩:=fw_walk h n.toNat a w
  obtain ⟨x,t',k1,k2⟩:=wk_last h k hne
  refine ⟨x,Int.le_antisymm ?_ (far_step h a x w)⟩
  refine Int.le_trans ?_ (Int.le_trans k2 hs)
  exact two_mono (fw_dst h _ _ _) (h.dst x w) (k1.dst h) (h.dst x w) (far_least h k1) (Int.le_refl _)
/-- Back it is as far as there. -/
theorem wk_flip (h : Good n c) {u w t : Int} (k : Wk c u w t) : Wk (fun a b=>c b a) w u t:=by
  have h2:=good_flip h
  have comm : ∀ a b : Int,two a b = two b a:=fun a b=>by unfold two; simp only [or_comm,Int.add_comm]
  induction k with
  | nil u=>exact .nil u
  | cons u y w s k ih =>
    have h1 : Wk (fun a b=>c b a) y u (two (c u y) 0):=.cons y u u 0 (.nil u)
    have:=ih.trans h2 h1
    rw [two_zero (h.dst u y)] at this
    rw [comm]
    exact this
theorem far_flip (h : Good n c) (a b : Int) : far n (fun x y=>c y x) b a = far n c a b:=by
  have h2:=good_flip h
  refine Int.le_antisymm ?_ ?_
  · obtain ⟨s,k,hs⟩:=fw_walk h n.toNat a b
    exact Int.le_trans (far_least h2 (wk_flip h k)) hs
  · obtain ⟨s,k,hs⟩:=fw_walk h2 n.toNat b a
    exact Int.le_trans (far_least h (wk_flip h2 k)) hs
end
def byP (s : St) (f : Int → Int) (v i : Int) : Bool:=!(s i.toNat).a.cl && decide (two (f (s i.toNat).a.t) (s i.toNat).a.w = f v)
/-- By which road a vertex is come to. -/
def byA (s : St) (f : Int → Int) (v : Int) : Int:=((inI s v).find? (byP s f v)).getD (-1)
def trV (s : St) (f : Int → Int) (s0 v : Int) : Int:=if v ≠ s0 ∧ f v ≤ 4611686018427387904 then byA s f v else -1
def trL (n : Int) (s : St) (f : Int → Int) (s0 : Int) : List Int:=(List.range n.toNat).map fun v=>trV s f s0 ((v : Nat) : Int)
theorem trL_len (n : Int) (s : St) (f : Int → Int) (s0 : Int) : (trL n s f s0).length = n.toNat:=by simp [trL]
theorem trL_get {n : Int} {s : St} {f : Int → Int} {s0 v : Int} (h0 : 0 ≤ v) (h1 : v < n) : (trL n s f s0).getD v.toNat default = trV s f s0 v:=by
  unfold trL
  rw [nrg_get (by omega)]
  rw [show ((v.toNat : Nat) : Int) = v by omega]
theorem byA_of {s : St} {f : Int → Int} {v : Int} {l : List Int} {i : Nat} (hl : l = inI s v) (hi : i < l.length) (h0 : ∀ k,k < i → byP s f v (l.getD k default) = false) (h1 : byP s f v (l.getD i default) = true) : byA s f v = l.getD i default:=by
  unfold byA
  rw [← hl]
  have : l.find? (byP s f v) = some (l.getD i default):=by
    rw [List.find?_eq_some_iff_getElem]
    refine ⟨h1,i,hi,by rw [List.getD_eq_getElem?_getD,List.getElem?_eq_getElem hi]; rfl,fun j hj=>?_⟩
    have:=h0 j hj
    rw [List.getD_eq_getElem?_getD,List.getElem?_eq_getElem (by omega)] at this
    simpa using this
  rw [this]; rfl
theorem byA_none {s : St} {f : Int → Int} {v : Int} {l : List Int} (hl : l = inI s v) (h0 : ∀ k,k < l.length → byP s f v (l.getD k default) = false) : byA s f v = -1:=by
  unfold byA
  rw [← hl]
  have : l.find? (byP s f v) = none:=by
    rw [List.find?_eq_none]
    intro x hx
    obtain ⟨k,hk,e⟩:=List.getElem_of_mem hx
    have:=h0 k hk
    rw [List.getD_eq_getElem?_getD,List.getElem?_eq_getElem hk] at this
    rw [← e]; simpa using this
  rw [this]; rfl
section
variable {n most : Int} {s : St} {s0 : Nat}
/-- A vertex that is told is come to by a road. -/
theorem tree_ok (hg : GOk n most s) {v : Int} (h0 : 0 ≤ v) (h1 : v < n) (hne : v ≠ (s0 : Int)) (hm : far n (cG s) s0 v ≤ 4611686018427387904) :
    ∃ i,trV s (far n (cG s) s0) s0 v = i ∧ (0 ≤ i ∧ i < 64) ∧ (s i.toNat).tk = true ∧ (s i.toNat).a.cl = false ∧ (s i.toNat).a.h = v ∧ two (far n (cG s) s0 (s i.toNat).a.t) (s i.toNat).a.w = far n (cG s) s0 v:=by
  have hG:=cG_good hg
  have ht : trV s (far n (cG s) s0) s0 v = byA s (far n (cG s) s0) v:=if_pos ⟨hne,hm⟩
  rw [ht]
  obtain ⟨x,hx⟩:=far_last hG (show (s0 : Int) ≠ v from Ne.symm hne)
  have hfd:=fw_dst hG n.toNat (s0 : Int) x
  have hc : cG s x v ≠ 4611686018427387906:=fun e=>by
    rw [e,two_none_right] at hx
    omega
  obtain ⟨_,i,hmt,hw⟩:=cG_ex hg hc
  obtain ⟨m1,m2,m3,m4,m5⟩:=hmt
  have hin : i ∈ inI s v:=(mem_arcsI (b:=true)).2 ⟨m1,m2,m5⟩
  have hp : byP s (far n (cG s) s0) v i = true:=by
    unfold byP
    rw [m3,m4,← hw,hx]
    simp
  have hsome : ((inI s v).find? (byP s (far n (cG s) s0) v)).isSome = true:=by
    rw [List.find?_isSome]; exact ⟨i,hin,hp⟩
  obtain ⟨k,hk⟩:=Option.isSome_iff_exists.1 hsome
  have hk1:=List.find?_some hk
  have hk2:=List.mem_of_find?_eq_some hk
  have e : byA s (far n (cG s) s0) v = k:=by unfold byA; rw [hk]; rfl
  obtain ⟨q1,q2,q3⟩:=(mem_arcsI (b:=true)).1 (show k ∈ arcsI s true v from hk2)
  unfold byP at hk1
  simp only [Bool.and_eq_true,Bool.not_eq_true',decide_eq_true_eq] at hk1
  exact ⟨k,e,q1,q2,hk1.1,q3,hk1.2⟩
/-- The vertices of the way, the last one first. -/
def pv (s : St) (T : Int → Int) (t : Int) : Nat → Int
  | 0=>t
  | k + 1=>(s (T (pv s T t k)).toNat).a.t
variable {t : Int}
abbrev fG (n : Int) (s : St) (s0 : Nat) : Int → Int:=far n (cG s) s0
abbrev tG (n : Int) (s : St) (s0 : Nat) : Int → Int:=trV s (fG n s s0) s0
theorem pv_ok (hg : GOk n most s) (h0 : 0 ≤ t) (h1 : t < n) (hm : fG n s s0 t ≤ 4611686018427387904) : ∀ k,(∀ j,j < k → pv s (tG n s s0) t j ≠ (s0 : Int)) → (0 ≤ pv s (tG n s s0) t k ∧ pv s (tG n s s0) t k < n) ∧ fG n s s0 (pv s (tG n s s0) t k) ≤ 4611686018427387904 ∧ ∀ j,j < k → fG n s s0 (pv s (tG n s s0) t k) < fG n s s0 (pv s (tG n s s0) t j)
  | 0,_=>⟨⟨h0,h1⟩,hm,fun j hj=>absurd hj (Nat.not_lt_zero _)⟩
  | k + 1,hk=>by
    obtain ⟨⟨i0,i1⟩,i2,i3⟩:=pv_ok hg h0 h1 hm k (fun j hj=>hk j (by omega))
    obtain ⟨i,e,q1,q2,q3,q4,q5⟩:=tree_ok hg i0 i1 (hk k (by omega)) i2
    have hG:=cG_good hg
    have hfd:=fw_dst hG n.toNat (s0 : Int) (s i.toNat).a.t
    obtain ⟨⟨a1,a2⟩,a3⟩:=hg.arc _ q2
    have ep : pv s (tG n s s0) t (k + 1) = (s i.toNat).a.t:=by
      show (s (tG n s s0 (pv s (tG n s s0) t k)).toNat).a.t = _
      rw [show tG n s s0 (pv s (tG n s s0) t k) = i from e]
    have hlt : fG n s s0 (s i.toNat).a.t < fG n s s0 (pv s (tG n s s0) t k):=by
      have hq : two (fG n s s0 (s i.toNat).a.t) (s i.toNat).a.w = fG n s s0 (pv s (tG n s s0) t k):=q5
      have hfd' : Dst (fG n s s0 (s i.toNat).a.t):=hfd
      unfold two at hq
      unfold Dst at hfd'
      split at hq
      · omega
      · split at hq <;> omega
    rw [ep]
    refine ⟨a1,by omega,fun j hj=>?_⟩
    by_cases ej : j = k
    · rw [ej]; exact hlt
    · have:=i3 j (by omega); omega
theorem pv_inj (hg : GOk n most s) (h0 : 0 ≤ t) (h1 : t < n) (hm : fG n s s0 t ≤ 4611686018427387904) {k : Nat} (hk : ∀ j,j < k → pv s (tG n s s0) t j ≠ (s0 : Int)) {i j : Nat} (hij : i < j) (hj : j ≤ k) : pv s (tG n s s0) t i ≠ pv s (tG n s s0) t j:=fun e=>by
  have:=(pv_ok hg h0 h1 hm j (fun x hx=>hk x (by omega))).2.2 i hij
  rw [e] at this
  omega
theorem pv_nodup (hg : GOk n most s) (h0 : 0 ≤ t) (h1 : t < n) (hm : fG n s s0 t ≤ 4611686018427387904) {k : Nat} (hk : ∀ j,j < k → pv s (tG n s s0) t j ≠ (s0 : Int)) : ((List.range (k + 1)).map (pv s (tG n s s0) t)).Nodup:=by
  unfold List.Nodup
  rw [List.pairwise_map]
  refine List.Pairwise.imp_of_mem ?_ (List.pairwise_lt_range)
  intro a b ha hb hab
  exact pv_inj hg h0 h1 hm hk hab (by have:=List.mem_range.1 hb; omega)
theorem pv_len (hg : GOk n most s) (h0 : 0 ≤ t) (h1 : t < n) (hm : fG n s s0 t ≤ 4611686018427387904) {k : Nat} (hk : ∀ j,j < k → pv s (tG n s s0) t j ≠ (s0 : Int)) : k + 1 ≤ n.toNat:=by
  have:=List.Nodup.length_le_of_subset (l₂:=(List.range n.toNat).map Int.ofNat) (pv_nodup hg h0 h1 hm hk) (fun x hx=>by
    obtain ⟨j,hj,rfl⟩:=List.mem_map.1 hx
    have hj:=List.mem_range.1 hj
    have:=(pv_ok hg h0 h1 hm j (fun x hx=>hk x (by omega))).1
    exact List.mem_map.2 ⟨(pv s (tG n s s0) t j).toNat,List.mem_range.2 (by omega),Int.toNat_of_nonneg this.1⟩)
  simpa using this
/-- The roads of the way, the last one first. -/
def pid (s : St) (T : Int → Int) (t : Int) (k : Nat) : List Int:=(List.range k).map fun j=>T (pv s T t j)
theorem pid_succ (T : Int → Int) (k : Nat) : pid s T t (k + 1) = pid s T t k ++ [T (pv s T t k)]:=by unfold pid; rw [List.range_succ,List.map_append]; rfl
theorem pid_len (T : Int → Int) (k : Nat) : (pid s T t k).length = k:=by simp [pid]
theorem pid_step (hg : GOk n most s) (h0 : 0 ≤ t) (h1 : t < n) (hm : fG n s s0 t ≤ 4611686018427387904) {k : Nat} (hk : ∀ j,j < k + 1 → pv s (tG n s s0) t j ≠ (s0 : Int)) :
    ∃ i,tG n s s0 (pv s (tG n s s0) t k) = i ∧ thB s i = true ∧ (arcQ s i).cl = false ∧ (arcQ s i).h = pv s (tG n s s0) t k ∧ (arcQ s i).t = pv s (tG n s s0) t (k + 1) ∧ two (fG n s s0 (pv s (tG n s s0) t (k + 1))) (arcQ s i).w = fG n s s0 (pv s (tG n s s0) t k):=by
  obtain ⟨⟨i0,i1⟩,i2,i3⟩:=pv_ok hg h0 h1 hm k (fun j hj=>hk j (by omega))
  obtain ⟨i,e,q1,q2,q3,q4,q5⟩:=tree_ok hg i0 i1 (hk k (by omega)) i2
  have ep : pv s (tG n s s0) t (k + 1) = (s i.toNat).a.t:=by
    show (s (tG n s s0 (pv s (tG n s s0) t k)).toNat).a.t = _
    rw [show tG n s s0 (pv s (tG n s s0) t k) = i from e]
  have ea : arcQ s i = (s i.toNat).a:=if_pos q1
  refine ⟨i,e,?_,by rw [ea]; exact q3,by rw [ea]; exact q4,by rw [ea,ep],by rw [ea,ep]; exact q5⟩
  unfold thB
  rw [decide_eq_true q1,q2]; rfl
end
end Go.Proofs.Ytliofdfhimmjmaa
/- What is near at first, road by road, plainly. No program in sight. -/
namespace Go.Proofs.Ytliofdfhimmjmaa
open Go.Rr Go Gr Hp
set_option linter.unusedVariables false
def d0M : Int → Int → Int:=fun a b=>if a = b then 0 else 4611686018427387906
def d1 (s : St) (D : Int → Int → Int) (i : Int) : Int → Int → Int:=if (s i.toNat).a.cl = false ∧ (s i.toNat).a.w < D (s i.toNat).a.t (s i.toNat).a.h then upd2 D (s i.toNat).a.t (s i.toNat).a.h (s i.toNat).a.w else D
def dlM (s : St) (l : List Int) : Int → Int → Int:=l.foldl (d1 s) d0M
theorem dlM_snoc (s : St) (l : List Int) (i : Int) : dlM s (l ++ [i]) = d1 s (dlM s l) i:=by unfold dlM; rw [List.foldl_append]; rfl
theorem d1_at (s : St) (D : Int → Int → Int) (i a b : Int) : d1 s D i a b = if (s i.toNat).a.cl = false ∧ a = (s i.toNat).a.t ∧ b = (s i.toNat).a.h then min (D a b) (s i.toNat).a.w else D a b:=by
  unfold d1
  by_cases h : (s i.toNat).a.cl = false ∧ (s i.toNat).a.w < D (s i.toNat).a.t (s i.toNat).a.h
  · rw [if_pos h]
    unfold upd2
    by_cases e : a = (s i.toNat).a.t ∧ b = (s i.toNat).a.h
    · rw [if_pos e,if_pos ⟨h.1,e⟩,e.1,e.2]; have:=h.2; omega
    · rw [if_neg e,if_neg (fun k=>e k.2)]
  · rw [if_neg h]
    by_cases e : (s i.toNat).a.cl = false ∧ a = (s i.toNat).a.t ∧ b = (s i.toNat).a.h
    · rw [if_pos e,e.2.1,e.2.2]
      have : ¬ (s i.toNat).a.w < D (s i.toNat).a.t (s i.toNat).a.h:=fun k=>h ⟨e.1,k⟩
      omega
    · rw [if_neg e]
theorem dl_gen (s : St) (a b : Int) : ∀ (l : List Int) (D : Int → Int → Int),l.foldl (d1 s) D a b ≤ D a b ∧ (∀ i ∈ l,(s i.toNat).a.cl = false → (s i.toNat).a.t = a → (s i.toNat).a.h = b → l.foldl (d1 s) D a b ≤ (s i.toNat).a.w) ∧
    (l.foldl (d1 s) D a b = D a b ∨ ∃ i ∈ l,(s i.toNat).a.cl = false ∧ (s i.toNat).a.t = a ∧ (s i.toNat).a.h = b ∧ l.foldl (d1 s) D a b = (s i.toNat).a.w)
  | [], D=>⟨Int.le_refl _,fun i hi=>(by cases hi),.inl rfl⟩
  | i :: l,D=>by
    obtain ⟨h1,h2,h3⟩:=dl_gen s a b l (d1 s D i)
    have e:=d1_at s D i a b
    rw [List.foldl_cons]
    by_cases hh : (s i.toNat).a.cl = false ∧ a = (s i.toNat).a.t ∧ b = (s i.toNat).a.h
    · rw [if_pos hh] at e
      refine ⟨by omega,fun k hk hc ht hb=>?_,?_⟩
      · rcases List.mem_cons.1 hk with rfl|hk
        · omega
        · exact h2 k hk hc ht hb
      · rcases h3 with k|⟨k,hk,k1,k2,k3,k4⟩
        · by_cases hm : D a b ≤ (s i.toNat).a.w
          · exact .inl (by omega)
          · exact .inr ⟨i,List.mem_cons_self ..,hh.1,hh.2.1.symm,hh.2.2.symm,by omega⟩
        · exact .inr ⟨k,List.mem_cons_of_mem _ hk,k1,k2,k3,k4⟩
    · rw [if_neg hh] at e
      refine ⟨by omega,fun k hk hc ht hb=>?_,?_⟩
      · rcases List.mem_cons.1 hk with rfl|hk
        · exact absurd ⟨hc,ht.symm,hb.symm⟩ hh
        · exact h2 k hk hc ht hb
      · rcases h3 with k|⟨k,hk,k1,k2,k3,k4⟩
        · exact .inl (by omega)
        · exact .inr ⟨k,List.mem_cons_of_mem _ hk,k1,k2,k3,k4⟩
theorem dl_all {n most : Int} {s : St} (hg : GOk n most s) (a b : Int) : dlM s (idsI s) a b = fw (cG s) 0 a b:=by
  obtain ⟨h1,h2,h3⟩:=dl_gen s a b (idsI s) d0M
  have hG:=cG_good hg
  show (idsI s).foldl (d1 s) d0M a b = if a = b then 0 else cG s a b
  have htk : ∀ i ∈ idsI s,(0 ≤ i ∧ i < 64) ∧ (s i.toNat).tk = true:=fun i hi=>by
    have:=mem_lstP.1 (show i ∈ lstP (tkP s) from hi)
    exact this
  by_cases e : a = b
  · rw [if_pos e]
    have hd : d0M a b = 0:=if_pos e
    rcases h3 with k|⟨i,hi,k1,k2,k3,k4⟩
    · rw [k,hd]
    · have:=(hg.arc _ (htk i hi).2).2.1
      omega
  · rw [if_neg e]
    have hd : d0M a b = 4611686018427387906:=if_neg e
    have hc:=hG.hi a b
    refine Int.le_antisymm ?_ ?_
    · by_cases hn : cG s a b = 4611686018427387906
      · omega
      · obtain ⟨_,i,hm,ew⟩:=cG_ex hg hn
        rw [ew]
        exact h2 i (mem_lstP.2 ⟨hm.1,hm.2.1⟩) hm.2.2.1 hm.2.2.2.1 hm.2.2.2.2
    · rcases h3 with k|⟨i,hi,k1,k2,k3,k4⟩
      · omega
      · rw [k4]
        exact cG_le hg ⟨(htk i hi).1,(htk i hi).2,k1,k2,k3⟩ e
end Go.Proofs.Ytliofdfhimmjmaa
