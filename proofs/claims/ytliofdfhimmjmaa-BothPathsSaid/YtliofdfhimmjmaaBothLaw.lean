/- From both sides at once, plainly: where both sides meet is how far it is. No program in sight. -/
import Derived.Test.YtliofdfhimmjmaaNearLaw2
namespace Go.Proofs.Ytliofdfhimmjmaa
open Go.Rr Go Gr Hp
set_option linter.unusedVariables false
set_option linter.unusedSectionVars false
section
variable {n : Int} {c : Int → Int → Int} {s0 : Nat}
/-- How far it is to each, as far as one side knows. -/
def fq (n : Int) (c : Int → Int → Int) (s0 : Nat) (P : List (Int × Int)) (w : Nat) : Int:=if Wt.isIn P w then far n c s0 w else Wt.smF c s0 P w
theorem fq_nil (w : Nat) : fq n c s0 [] w = if w = s0 then 0 else 4611686018427387906:=by
  unfold fq
  rw [if_neg (by simp [Wt.isIn])]
  by_cases e : w = s0
  · rw [if_pos e]; exact if_pos ⟨rfl,e⟩
  · rw [if_neg e]; exact if_neg (fun k=>e k.2)
theorem in_far (hg : Good n c) (h1 : s0 < n.toNat) {j w : Nat} (h : Wt.isIn (stN n c s0 j) w) : ∃ p ∈ stN n c s0 j,p.1 = (w : Int) ∧ p.2 = far n c s0 w:=by
  obtain ⟨p,hp,e⟩:=List.mem_map.1 h
  exact ⟨p,hp,e,by rw [Wt.st_far hg h1 j p hp,e]⟩
theorem fq_FL (hg : Good n c) (h1 : s0 < n.toNat) {j b : Nat} (hb : Wt.nx n.toNat c s0 0 (stN n c s0 j) = some b) (w : Nat) : fq n c s0 (stN n c s0 j) w = fr n c s0 (stN n c s0 j) b (far n c s0 b) (fun _=>4611686018427387906) w:=by
  unfold fq fr
  by_cases h : Wt.isIn (stN n c s0 j) w
  · rw [if_pos h,if_pos (.inl h)]
  · rw [if_neg h]
    by_cases e : w = b
    · rw [if_pos (.inr e),e,nx_far hg h1 hb]
    · rw [if_neg (by rintro (k|k); exact h k; exact e k),two_none_right,(Wt.smF_next hb e).1]
      have hs : Wt.sm c (stN n c s0 j) (w : Int) ≤ 4611686018427387906:=(Wt.sm_dst hg (Wt.st_ok (N:=n.toNat) (s0:=s0) (wo:=0) hg j) (w : Int)).2
      omega
theorem st_next (hg : Good n c) (h1 : s0 < n.toNat) {j b : Nat} (hb : Wt.nx n.toNat c s0 0 (stN n c s0 j) = some b) : stN n c s0 (j + 1) = stN n c s0 j ++ [((b : Int),far n c s0 b)]:=by
  rw [← nx_far hg h1 hb]; exact Wt.st_some hb
theorem isIn_next (hg : Good n c) (h1 : s0 < n.toNat) {j b : Nat} (hb : Wt.nx n.toNat c s0 0 (stN n c s0 j) = some b) (w : Nat) : Wt.isIn (stN n c s0 (j + 1)) w ↔ Wt.isIn (stN n c s0 j) w ∨ w = b:=by
  rw [st_next hg h1 hb]; exact Wt.isIn_snoc _ _ _ _
theorem fq_next (hg : Good n c) (h1 : s0 < n.toNat) {j b : Nat} (hb : Wt.nx n.toNat c s0 0 (stN n c s0 j) = some b) {r : Int → Int} (hr' : ∀ x : Nat,x ≠ b → r x = c b x) (w : Nat) : fr n c s0 (stN n c s0 j) b (far n c s0 b) r w = fq n c s0 (stN n c s0 (j + 1)) w:=by
  unfold fq fr
  by_cases h : Wt.isIn (stN n c s0 j) w ∨ w = b
  · rw [if_pos h,if_pos ((isIn_next hg h1 hb w).2 h)]
  · rw [if_neg h,if_neg (fun k=>h ((isIn_next hg h1 hb w).1 k)),st_next hg h1 hb]
    have e2 : Wt.smF c s0 (stN n c s0 j ++ [((b : Int),far n c s0 b)]) w = min (Wt.sm c (stN n c s0 j) w) (two (far n c s0 b) (c b w)):=by
      unfold Wt.smF
      rw [if_neg (by simp),Wt.sm_snoc]
    rw [e2,hr' w (fun k=>h (.inr k))]
theorem fq_dst (hg : Good n c) (j w : Nat) : Dst (fq n c s0 (stN n c s0 j) w):=by
  unfold fq
  split
  · exact fw_dst hg n.toNat s0 w
  · exact Wt.smF_dst hg (Wt.st_ok (N:=n.toNat) (s0:=s0) (wo:=0) hg j) w
theorem fq_ge (hg : Good n c) (h1 : s0 < n.toNat) (j w : Nat) : far n c s0 w ≤ fq n c s0 (stN n c s0 j) w:=by
  unfold fq
  split
  · exact Int.le_refl _
  · unfold Wt.smF
    split
    · rename_i e; rw [e.2,far_self hg]; exact Int.le_refl _
    · by_cases hs : Wt.sm c (stN n c s0 j) (w : Int) < 4611686018427387906
      · obtain ⟨p,hp,e⟩:=Wt.sm_ex hs
        rw [e,Wt.st_far hg h1 j p hp]
        exact far_step hg _ _ _
      · have:=(fw_dst hg n.toNat (s0 : Int) (w : Int)).2
        have h2 : far n c s0 w ≤ 4611686018427387906:=this
        omega
theorem fq_in {P : List (Int × Int)} {w : Nat} (h : Wt.isIn P w) : fq n c s0 P w = far n c s0 w:=if_pos h
/-- Over what is settled. -/
theorem fq_relax (hg : Good n c) (h1 : s0 < n.toNat) {j u : Nat} (hu : Wt.isIn (stN n c s0 j) u) (y : Nat) : fq n c s0 (stN n c s0 j) y ≤ two (far n c s0 u) (c u y):=by
  unfold fq
  split
  · exact far_step hg _ _ _
  · obtain ⟨p,hp,e1,e2⟩:=in_far hg h1 hu
    unfold Wt.smF
    rw [if_neg (fun k=>by rw [k.1] at hp; cases hp),← e2,← e1]
    exact Wt.sm_le hp
/-- How far what comes next is. -/
def nxT (n : Int) (c : Int → Int → Int) (s0 : Nat) (P : List (Int × Int)) : Int:=match Wt.nx n.toNat c s0 0 P with
  | some b=>far n c s0 b
  | none=>4611686018427387906
theorem nxT_some {P : List (Int × Int)} {b : Nat} (h : Wt.nx n.toNat c s0 0 P = some b) : nxT n c s0 P = far n c s0 b:=by unfold nxT; rw [h]
theorem nxT_none {P : List (Int × Int)} (h : Wt.nx n.toNat c s0 0 P = none) : nxT n c s0 P = 4611686018427387906:=by unfold nxT; rw [h]
theorem nxT_dst (hg : Good n c) (P : List (Int × Int)) : Dst (nxT n c s0 P):=by
  unfold nxT
  split
  · exact fw_dst hg n.toNat _ _
  · exact ⟨by omega,by omega⟩
theorem nxT_le (hg : Good n c) (h1 : s0 < n.toNat) {j : Nat} {y : Int} (hy : y ∉ (stN n c s0 j).map Prod.fst) : nxT n c s0 (stN n c s0 j) ≤ far n c s0 y:=by
  cases hn : Wt.nx n.toNat c s0 0 (stN n c s0 j) with
  | none =>
    rw [nxT_none hn,Wt.st_none_far hg h1 hn hy]; exact Int.le_refl _
  | some b =>
    rw [nxT_some hn]
    obtain ⟨g1,g2,g3,g4,g5,g6⟩:=Wt.nx_spec hn
    have hf:=nx_far hg h1 hn
    by_cases hP : stN n c s0 j = []
    · rw [hP] at hn
      rw [Wt.nx_first hn,far_self hg]
      exact (fw_dst hg n.toNat _ _).1
    · have hh:=Wt.st_head (c:=c) h1 j (List.length_pos_iff.2 hP)
      obtain ⟨s,hs,hle⟩:=fw_walk hg n.toNat (s0 : Int) y
      have:=Wt.leave hg (B:=far n c s0 b) (fun x hx hxi=>by
        show far n c s0 b ≤ Wt.smF c s0 (stN n c s0 j) x
        by_cases hlt : Wt.smF c s0 (stN n c s0 j) x < 4611686018427387906
        · have:=g6 x hx hxi (inS0 _) hlt
          omega
        · omega) (by omega) hs 0 hh hy
      rw [zero_two (hs.dst hg)] at this
      exact Int.le_trans this hle
theorem st_in (h1 : s0 < n.toNat) {j : Nat} (h : 0 < (stN n c s0 j).length) : Wt.isIn (stN n c s0 j) s0:=List.mem_map.2 ⟨_,Wt.st_head (c:=c) h1 j h,rfl⟩
theorem fq_self (hg : Good n c) (h1 : s0 < n.toNat) (j : Nat) : fq n c s0 (stN n c s0 j) s0 = 0:=by
  by_cases hP : stN n c s0 j = []
  · rw [hP,fq_nil,if_pos rfl]
  · rw [fq_in (st_in h1 (List.length_pos_iff.2 hP)),far_self hg]
end
section
variable {n : Int} {c : Int → Int → Int} {s0 t0 : Nat}
/-- **Where both sides meet is no farther than it is by any steps, once what comes next is.** -/
theorem meet_le (hg : Good n c) (h1 : s0 < n.toNat) (h2 : t0 < n.toNat) {i j : Nat} {B : Int} (hB : B ≤ 4611686018427387906) (hi : 0 < (stN n c s0 i).length)
    (hall : ∀ x,x < n.toNat → B ≤ two (fq n c s0 (stN n c s0 i) x) (fq n (fun u w=>c w u) t0 (stN n (fun u w=>c w u) t0 j) x))
    (hT : B ≤ two (nxT n c s0 (stN n c s0 i)) (nxT n (fun u w=>c w u) t0 (stN n (fun u w=>c w u) t0 j))) : B ≤ far n c s0 t0:=by
  obtain ⟨c',hc'⟩ : ∃ c' : Int → Int → Int,c' = fun u w=>c w u:=⟨_,rfl⟩
  have hg' : Good n c':=hc' ▸ good_flip hg
  have hfl : ∀ a : Int,far n c' t0 a = far n c a t0:=fun a=>by rw [hc']; exact far_flip hg a t0
  rw [← hc'] at hall hT
  have hD:=fw_dst hg n.toNat
  have key : ∀ {y z l : Int},Wk c y z l → z = (t0 : Int) → y ∈ (stN n c s0 i).map Prod.fst → B ≤ two (far n c s0 y) l:=by
    intro y z l k
    induction k with
    | nil u =>
      intro e hu
      subst e
      have h3:=hall t0 h2
      rw [fq_in (w:=t0) hu,fq_self hg' h2] at h3
      exact h3
    | cons u x z l k ih =>
      intro e hu
      subst e
      have hld:=k.dst hg
      by_cases hc : c u x = 4611686018427387906
      · rw [hc,two_none_left,two_none_right]; exact hB
      · have hr:=Wt.not_in_range hg hc
        obtain ⟨xn,rfl⟩ : ∃ xn : Nat,x = (xn : Int):=⟨x.toNat,by omega⟩
        obtain ⟨un,rfl⟩ : ∃ un : Nat,u = (un : Int):=⟨u.toNat,by omega⟩
        have hDu : Dst (far n c s0 un):=hD _ _
        rw [← two_assoc hDu (hg.dst _ _) hld]
        by_cases hx : ((xn : Nat) : Int) ∈ (stN n c s0 i).map Prod.fst
        · refine Int.le_trans (ih rfl hx) ?_
          exact two_mono (hD _ _) hld (two_dst (hD _ _) (hg.dst _ _)) hld (far_step hg _ _ _) (Int.le_refl _)
        · have hlk : far n c xn t0 ≤ l:=far_least hg k
          by_cases hx2 : ((xn : Nat) : Int) ∈ (stN n c' t0 j).map Prod.fst
          · refine Int.le_trans (hall xn (by omega)) ?_
            have e2 : fq n c' t0 (stN n c' t0 j) xn = far n c xn t0:=by rw [fq_in (w:=xn) hx2,hfl]
            rw [e2]
            exact two_mono (fq_dst hg i xn) (hD _ _) (two_dst (hD _ _) (hg.dst _ _)) hld (fq_relax hg h1 (u:=un) hu xn) hlk
          · refine Int.le_trans hT ?_
            have e1:=nxT_le hg h1 (j:=i) hx
            have e2:=nxT_le hg' h2 (j:=j) hx2
            rw [hfl] at e2
            exact two_mono (nxT_dst hg _) (nxT_dst hg' _) (two_dst (hD _ _) (hg.dst _ _)) hld (Int.le_trans e1 (far_step hg _ _ _)) (Int.le_trans e2 hlk)
  obtain ⟨l,hl,hle⟩:=fw_walk hg n.toNat (s0 : Int) (t0 : Int)
  have h3:=key hl rfl (st_in h1 hi)
  rw [far_self hg,zero_two (hl.dst hg)] at h3
  exact Int.le_trans h3 hle
end
/-- Where both sides meet best. -/
def mt1 (F : Int → Int) (b : Int × Int) (x : Int) : Int × Int:=if F x < b.2 then (x,F x) else b
def mtF (F : Int → Int) (b : Int × Int) (xs : List Int) : Int × Int:=xs.foldl (mt1 F) b
theorem mtF_snoc (F : Int → Int) (b : Int × Int) (xs : List Int) (x : Int) : mtF F b (xs ++ [x]) = mt1 F (mtF F b xs) x:=by unfold mtF; rw [List.foldl_append]; rfl
theorem mtF_spec (F : Int → Int) : ∀ (xs : List Int) (b : Int × Int),(mtF F b xs).2 ≤ b.2 ∧ (∀ x ∈ xs,(mtF F b xs).2 ≤ F x) ∧ (mtF F b xs = b ∨ ∃ x ∈ xs,mtF F b xs = (x,F x))
  | [], b=>⟨Int.le_refl _,fun x h=>(by cases h),.inl rfl⟩
  | y :: xs,b=>by
    obtain ⟨h1,h2,h3⟩:=mtF_spec F xs (mt1 F b y)
    have e : mtF F b (y::xs) = mtF F (mt1 F b y) xs:=rfl
    have hk : (mt1 F b y).2 ≤ b.2 ∧ (mt1 F b y).2 ≤ F y ∧ (mt1 F b y = b ∨ mt1 F b y = (y,F y)):=by
      unfold mt1
      by_cases h : F y < b.2
      · rw [if_pos h]; exact ⟨by dsimp only; omega,Int.le_refl _,.inr rfl⟩
      · rw [if_neg h]; exact ⟨Int.le_refl _,by omega,.inl rfl⟩
    rw [e]
    refine ⟨by omega,fun x hx=>?_,?_⟩
    · rcases List.mem_cons.1 hx with rfl|hx
      · omega
      · exact h2 x hx
    · rcases h3 with h3|⟨x,hx,h3⟩
      · rcases hk.2.2 with k|k
        · exact .inl (h3.trans k)
        · exact .inr ⟨y,List.mem_cons_self ..,h3.trans k⟩
      · exact .inr ⟨x,List.mem_cons_of_mem _ hx,h3⟩
/-- What is known of the best meeting: no nearer than it is, no farther than any, and one of them. -/
structure Meet (N : Nat) (D : Int) (ex : Nat → Prop) (F : Int → Int) (b : Int × Int) : Prop where
  lb : D ≤ b.2
  hi : b.2 ≤ 4611686018427387906
  all : ∀ x,x < N → ex x ∨ b.2 ≤ F (x : Nat)
  at_ : b.2 = 4611686018427387906 ∨ ∃ x : Nat,x < N ∧ b.1 = (x : Int) ∧ F (x : Nat) ≤ b.2
theorem Meet.step {N : Nat} {D : Int} {ex : Nat → Prop} {F F' : Int → Int} {b : Int × Int} (h : Meet N D ex F b) {xs : List Int} (hx : ∀ x ∈ xs,0 ≤ x ∧ x < N)
    (h1 : ∀ x : Nat,x < N → F' (x : Nat) ≤ F (x : Nat)) (h2 : ∀ x : Nat,x < N → D ≤ F' (x : Nat)) (h3 : ∀ x : Nat,x < N → (x : Int) ∉ xs → F' (x : Nat) = F (x : Nat)) :
    Meet N D (fun x=>ex x ∧ (x : Int) ∉ xs) F' (mtF F' b xs):=by
  obtain ⟨k1,k2,k3⟩:=mtF_spec F' xs b
  refine ⟨?_,?_,fun x hxN=>?_,?_⟩
  · rcases k3 with k3|⟨x,hm,k3⟩
    · rw [k3]; exact h.lb
    · rw [k3]
      have:=hx x hm
      have h4:=h2 x.toNat (by omega)
      rw [Int.toNat_of_nonneg this.1] at h4
      exact h4
  · have:=h.hi; omega
  · by_cases hm : (x : Int) ∈ xs
    · exact .inr (k2 _ hm)
    · rcases h.all x hxN with k|k
      · exact .inl ⟨k,hm⟩
      · rw [h3 x hxN hm]; exact .inr (by omega)
  · rcases k3 with k3|⟨x,hm,k3⟩
    · rw [k3]
      rcases h.at_ with k|⟨x,e1,e2,e3⟩
      · exact .inl k
      · have:=h1 x e1
        exact .inr ⟨x,e1,e2,by omega⟩
    · rw [k3]
      have:=hx x hm
      refine .inr ⟨x.toNat,by omega,(Int.toNat_of_nonneg this.1).symm,?_⟩
      rw [Int.toNat_of_nonneg this.1]; exact Int.le_refl _
theorem Meet.mono {N : Nat} {D : Int} {ex ex' : Nat → Prop} {F : Int → Int} {b : Int × Int} (h : Meet N D ex F b) (he : ∀ x,x < N → ex x → ex' x ∨ b.2 ≤ F (x : Nat)) : Meet N D ex' F b :=
  ⟨h.lb,h.hi,fun x hx=>(h.all x hx).elim (fun k=>he x hx k) .inr,h.at_⟩
/-- What is noted by which road each vertex was come to. -/
structure ByOk (n : Int) (s : St) (b : Bool) (s0 : Nat) (av : Nat → Int) (set_ : Nat → Prop) (f : Nat → Option Int) : Prop where
  none_ : ∀ w,w < n.toNat → f w = none → w = s0 ∨ av w = 4611686018427387906
  some_ : ∀ w,w < n.toNat → ∀ id,f w = some id → w ≠ s0 ∧ (0 ≤ id ∧ id < 64) ∧ (s id.toNat).tk = true ∧ (s id.toNat).a.cl = false ∧ oth (s id.toNat).a b = (w : Int) ∧ set_ (frm (s id.toNat).a b).toNat ∧ av w = two (far n (cD s b) s0 (frm (s id.toNat).a b)) (s id.toNat).a.w
def updN (f : Nat → Option Int) (i : Nat) (x : Int) : Nat → Option Int:=fun k=>if k = i then some x else f k
theorem by_start {n : Int} {s : St} {b : Bool} {s0 : Nat} (h : Good n (cD s b)) : ByOk n s b s0 (fq n (cD s b) s0 (stN n (cD s b) s0 0)) (fun w=>Wt.isIn (stN n (cD s b) s0 0) w) (fun _=>none) :=
  ⟨fun w _ _=>by
    show w = s0 ∨ fq n (cD s b) s0 [] w = 4611686018427387906
    rw [fq_nil]
    by_cases e : w = s0
    · exact .inl e
    · rw [if_neg e]; exact .inr rfl,fun w _ id hh=>by cases hh⟩
theorem ByOk.congr {n : Int} {s : St} {b : Bool} {s0 : Nat} {av av' : Nat → Int} {st st' : Nat → Prop} {f : Nat → Option Int} (h : ByOk n s b s0 av st f) (h1 : ∀ w,w < n.toNat → av' w = av w) (h2 : ∀ w,st w → st' w) : ByOk n s b s0 av' st' f :=
  ⟨fun w hw e=>by rw [h1 w hw]; exact h.none_ w hw e,fun w hw id e=>by
    obtain ⟨k1,k2,k3,k4,k5,k6,k7⟩:=h.some_ w hw id e
    exact ⟨k1,k2,k3,k4,k5,h2 _ k6,by rw [h1 w hw]; exact k7⟩⟩
theorem ByOk.put {n : Int} {s : St} {b : Bool} {s0 : Nat} {av av' : Nat → Int} {st : Nat → Prop} {f : Nat → Option Int} (h : ByOk n s b s0 av st f) {o : Nat} {id : Int} (ho : o ≠ s0) (m1 : 0 ≤ id ∧ id < 64) (m2 : (s id.toNat).tk = true) (m3 : (s id.toNat).a.cl = false) (m4 : oth (s id.toNat).a b = (o : Int)) (m5 : st (frm (s id.toNat).a b).toNat)
    (hv : av' o = two (far n (cD s b) s0 (frm (s id.toNat).a b)) (s id.toNat).a.w) (hn : ∀ w,w ≠ o → av' w = av w) : ByOk n s b s0 av' st (updN f o id) :=
  ⟨fun w hw e=>by
    unfold updN at e
    by_cases k : w = o
    · rw [if_pos k] at e; cases e
    · rw [if_neg k] at e; rw [hn w k]; exact h.none_ w hw e,fun w hw i e=>by
    unfold updN at e
    by_cases k : w = o
    · rw [if_pos k] at e
      obtain rfl:=Option.some.inj e
      rw [k]
      exact ⟨ho,m1,m2,m3,m4,m5,hv⟩
    · rw [if_neg k] at e; rw [hn w k]; exact h.some_ w hw i e⟩
section
variable {n most : Int} {s : St}
/-- A walk over open roads, and its sum. -/
def Wl (s : St) : Int → List Int → Int → Int → Prop
  | u,[],v,t=>u = v ∧ t = 0
  | u,id::l,v,t=>thB s id = true ∧ (arcQ s id).cl = false ∧ (arcQ s id).t = u ∧ ∃ t',Wl s (arcQ s id).h l v t' ∧ t = two (arcQ s id).w t'
theorem Wl.dst (hg : GOk n most s) : ∀ {l : List Int} {u v t : Int},Wl s u l v t → Dst t
  | [], u,v,t,h=>by rw [h.2]; exact ⟨by omega,by omega⟩
  | id::l,u,v,t,h=>by
    obtain ⟨_,_,_,t',h4,h5⟩:=h
    rw [h5]; exact two_dst (arcQ_dst hg id) (Wl.dst hg h4)
theorem Wl.app (hg : GOk n most s) : ∀ {l1 l2 : List Int} {u x v t1 t2 : Int},Wl s u l1 x t1 → Wl s x l2 v t2 → Wl s u (l1 ++ l2) v (two t1 t2)
  | [], l2,u,x,v,t1,t2,h1,h2=>by
    obtain ⟨rfl,rfl⟩:=h1
    rw [zero_two (Wl.dst hg h2)]; exact h2
  | id::l,l2,u,x,v,t1,t2,h1,h2=>by
    obtain ⟨k1,k2,k3,t',k4,k5⟩:=h1
    refine ⟨k1,k2,k3,two t' t2,Wl.app hg k4 h2,?_⟩
    rw [k5,two_assoc (arcQ_dst hg id) (Wl.dst hg k4) (Wl.dst hg h2)]
def hds (s : St) (l : List Int) : List Int:=l.map fun id=>(arcQ s id).h
theorem Wl.run : ∀ {l : List Int} {u v t : Int} (acc : List Int),Wl s u l v t → l.foldl (wst s) (acc,u,0) = (acc ++ hds s l,v,0)
  | [], u,v,t,acc,h=>by rw [h.1]; simp [hds]
  | id::l,u,v,t,acc,h=>by
    obtain ⟨k1,k2,k3,t',k4,k5⟩:=h
    have hn : nextW s u id = ((arcQ s id).h,0):=by
      unfold nextW
      rw [if_neg (by rw [k1]; simp),if_neg (by rw [k2]; decide),if_neg (by rw [k3]; simp)]
    have hw : wst s (acc,u,0) id = (acc ++ [(arcQ s id).h],(arcQ s id).h,0):=by
      unfold wst
      rw [if_neg (by simp),hn,if_pos rfl]
    rw [List.foldl_cons,hw,Wl.run _ k4]
    simp [hds]
theorem Wl.sum (hg : GOk n most s) : ∀ {l : List Int} {u v t a : Int},Dst a → Wl s u l v t → l.foldl (sst s) (a,true) = (two a t,true)
  | [], u,v,t,a,ha,h=>by rw [h.2,two_zero ha]; rfl
  | id::l,u,v,t,a,ha,h=>by
    obtain ⟨k1,k2,k3,t',k4,k5⟩:=h
    have hw : sst s (a,true) id = (two a (arcQ s id).w,true):=by
      unfold sst
      rw [if_neg (by simp),if_pos k1]
    rw [List.foldl_cons,hw,Wl.sum hg (two_dst ha (arcQ_dst hg id)) k4,k5,two_assoc ha (arcQ_dst hg id) (Wl.dst hg k4)]
theorem arc_of (hg : GOk n most s) {id : Int} (h : thB s id = true) : arcQ s id = (s id.toNat).a ∧ pl id ∧ (s id.toNat).tk = true ∧ okA n (arcQ s id):=by
  unfold thB at h
  simp only [Bool.and_eq_true,decide_eq_true_eq] at h
  have e : arcQ s id = (s id.toNat).a:=if_pos h.1
  exact ⟨e,h.1,h.2,by rw [e]; exact hg.arc _ h.2⟩
theorem far_arc (hg : GOk n most s) {id : Int} (h : thB s id = true) (hc : (arcQ s id).cl = false) : far n (cG s) (arcQ s id).t (arcQ s id).h ≤ (arcQ s id).w:=by
  have hG:=cG_good hg
  obtain ⟨e,h1,h2,h3⟩:=arc_of hg h
  by_cases k : (arcQ s id).t = (arcQ s id).h
  · rw [k,far_self hG]
    have:=h3.2.1; omega
  · refine Int.le_trans (fw_le hG _ _ _) ?_
    rw [e] at k hc ⊢
    exact cG_le hg ⟨h1,h2,hc,rfl,rfl⟩ k
theorem Wl.short (hg : GOk n most s) : ∀ {l : List Int} {u v t : Int},Wl s u l v t → far n (cG s) u v ≤ t
  | [], u,v,t,h=>by rw [h.1,h.2,far_self (cG_good hg)]; exact Int.le_refl _
  | id::l,u,v,t,h=>by
    obtain ⟨k1,k2,k3,t',k4,k5⟩:=h
    have hG:=cG_good hg
    have hD:=fw_dst hG n.toNat
    rw [k5,← k3]
    exact Int.le_trans (far_tri hG _ (arcQ s id).h _) (two_mono (hD _ _) (hD _ _) (arcQ_dst hg id) (Wl.dst hg k4) (far_arc hg k1 k2) (Wl.short hg k4))
/-- As short as can be: at no vertex twice. -/
theorem Wl.simple (hg : GOk n most s) {s0 : Int} : ∀ {l : List Int} {u v t : Int},Wl s u l v t → two (far n (cG s) s0 u) t = far n (cG s) s0 v → far n (cG s) s0 v ≤ 4611686018427387904 → (∀ y ∈ hds s l,far n (cG s) s0 u < far n (cG s) s0 y) ∧ (hds s l).Nodup
  | [], u,v,t,h,_,_=>⟨fun y hy=>(by cases hy),List.nodup_nil⟩
  | id::l,u,v,t,h,he,hm=>by
    obtain ⟨k1,k2,k3,t',k4,k5⟩:=h
    have hG:=cG_good hg
    have hD:=fw_dst hG n.toNat
    have hDu : Dst (far n (cG s) s0 u):=hD _ _
    have hDh : Dst (far n (cG s) s0 (arcQ s id).h):=hD _ _
    have hDt:=Wl.dst hg k4
    have hwd:=arcQ_dst hg id
    have hw1:=(arc_of hg k1).2.2.2.2.1
    have e1 : far n (cG s) s0 (arcQ s id).h ≤ two (far n (cG s) s0 u) (arcQ s id).w:=by
      refine Int.le_trans (far_tri hG _ u _) (two_mono hDu (hD _ _) hDu hwd (Int.le_refl _) ?_)
      rw [← k3]; exact far_arc hg k1 k2
    have e2 : far n (cG s) s0 v ≤ two (far n (cG s) s0 (arcQ s id).h) t':=Int.le_trans (far_tri hG _ (arcQ s id).h _) (two_mono hDh (hD _ _) hDh hDt (Int.le_refl _) (Wl.short hg k4))
    rw [k5,← two_assoc hDu hwd hDt] at he
    have e3 : two (far n (cG s) s0 (arcQ s id).h) t' = far n (cG s) s0 v ∧ far n (cG s) s0 u < far n (cG s) s0 (arcQ s id).h:=by
      generalize far n (cG s) s0 v = A at he hm e2 ⊢
      generalize far n (cG s) s0 u = B at he e1 hDu ⊢
      generalize far n (cG s) s0 (arcQ s id).h = C at e1 e2 hDh ⊢
      generalize (arcQ s id).w = W at he e1 hwd hw1
      unfold Dst at hDu hDh hDt hwd
      unfold two at he e1 e2 ⊢
      refine ⟨?_,?_⟩
      · (repeat' split at he) <;> (repeat' split at e1) <;> (repeat' split at e2) <;> (repeat' split) <;> omega
      · (repeat' split at he) <;> (repeat' split at e1) <;> (repeat' split at e2) <;> omega
    obtain ⟨i1,i2⟩:=Wl.simple hg k4 e3.1 hm
    have eh : hds s (id::l) = (arcQ s id).h::hds s l:=rfl
    rw [eh]
    refine ⟨fun y hy=>?_,List.nodup_cons.2 ⟨fun hm'=>?_,i2⟩⟩
    · rcases List.mem_cons.1 hy with rfl|hy
      · exact e3.2
      · have:=i1 y hy; have:=e3.2; omega
    · have:=i1 _ hm'; omega
/-- **Such a walk is what a path may be told as.** -/
theorem Wl.law (hg : GOk n most s) {u v t : Int} (hu : 0 ≤ u ∧ u < n) (hv : 0 ≤ v ∧ v < n) {l : List Int} (h : Wl s u l v t) (ht : t = far n (cG s) u v) (hm : t ≤ 4611686018427387904) :
    ccode n s u v l = 0 ∧ (srun s l).1 = t ∧ (vcode n s u l = 0 ∧ (vlist n s u l).Nodup):=by
  have hG:=cG_good hg
  have hr : wrun s u l = ([u] ++ hds s l,v,0):=Wl.run [u] h
  have hv0 : vcode n s u l = 0:=by unfold vcode; rw [if_neg (fun k=>k hu),hr]
  refine ⟨?_,?_,hv0,?_⟩
  · unfold ccode
    rw [if_neg (fun k=>k ⟨hu,hv⟩),hr]
    simp
  · unfold srun
    rw [Wl.sum hg (a:=0) ⟨by omega,by omega⟩ h,zero_two (Wl.dst hg h)]
  · rw [vlist_ok hv0,hr]
    obtain ⟨i1,i2⟩:=Wl.simple hg (s0:=u) h (by rw [far_self hG,zero_two (Wl.dst hg h),ht]) (by rw [← ht]; exact hm)
    exact List.nodup_cons.2 ⟨fun hmem=>by have:=i1 _ hmem; omega,i2⟩
/-- A walk is no longer than there are vertices, if it is at none twice. -/
theorem Wl.len (hg : GOk n most s) {u v t : Int} (hu : 0 ≤ u ∧ u < n) {l : List Int} (h : Wl s u l v t) (ht : t = far n (cG s) u v) (hm : t ≤ 4611686018427387904) : l.length + 1 ≤ n.toNat:=by
  have hG:=cG_good hg
  obtain ⟨i1,i2⟩:=Wl.simple hg (s0:=u) h (by rw [far_self hG,zero_two (Wl.dst hg h),ht]) (by rw [← ht]; exact hm)
  have hin : ∀ {l : List Int} {u v t : Int},Wl s u l v t → ∀ y ∈ hds s l,0 ≤ y ∧ y < n:=by
    intro l
    induction l with
    | nil=>intro u v t h y hy; cases hy
    | cons id l ih =>
      intro u v t h y hy
      obtain ⟨k1,k2,k3,t',k4,k5⟩:=h
      rcases List.mem_cons.1 (show y ∈ (arcQ s id).h::hds s l from hy) with rfl|hy
      · exact (arc_of hg k1).2.2.2.1.2
      · exact ih k4 y hy
  have hnd : (u::hds s l).Nodup:=List.nodup_cons.2 ⟨fun hmem=>by have:=i1 _ hmem; omega,i2⟩
  have:=List.Nodup.length_le_of_subset (l₂:=(List.range n.toNat).map Int.ofNat) hnd (fun x hx=>by
    have hx' : 0 ≤ x ∧ x < n:=by
      rcases List.mem_cons.1 hx with rfl|hx
      · exact hu
      · exact hin h x hx
    exact List.mem_map.2 ⟨x.toNat,List.mem_range.2 (by omega),Int.toNat_of_nonneg hx'.1⟩)
  simp [hds] at this
  omega
end
end Go.Proofs.Ytliofdfhimmjmaa
