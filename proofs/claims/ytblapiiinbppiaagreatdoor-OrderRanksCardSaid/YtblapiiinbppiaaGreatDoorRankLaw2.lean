/- The order by cost, plainly: as the document goes about it, and that it is an order. No program in sight. -/
import Derived.Test.YtblapiiinbppiaaGreatDoorRankLaw
import Derived.Test.YtblapiiinbppiaaGreatDoorPermLaw
namespace Go.Proofs.YtblapiiinbppiaaGreatDoor
open Go.Rr Go Hp Wt
set_option linter.unusedVariables false
theorem zrg_get {α : Type} [Inhabited α] {f : Nat → α} {N i : Nat} (h : i < N) : ((List.range N).map f).getD i default = f i:=by
  rw [List.getD_eq_getElem?_getD,List.getElem?_map,List.getElem?_range h]; rfl
theorem zrg_set {α : Type} {f g : Nat → α} {N o : Nat} {z : α} (h : o < N) (hz : g o = z) (hh : ∀ i,i < N → i ≠ o → g i = f i) : ((List.range N).map f).set o z = (List.range N).map g:=by
  refine List.ext_getElem? fun i=>?_
  rw [List.getElem?_set,List.length_map,List.length_range,List.getElem?_map,List.getElem?_map]
  by_cases hi : i < N
  · rw [List.getElem?_range hi]
    by_cases e : o = i
    · subst e; rw [if_pos rfl,if_pos h,← hz]; rfl
    · rw [if_neg e]; simp only [Option.map_some]; rw [hh i hi (Ne.symm e)]
  · rw [show (List.range N)[i]? = none from List.getElem?_eq_none (by rw [List.length_range]; omega)]
    rw [if_neg (by omega)]
    try rfl
theorem zrg_congr {α : Type} {f g : Nat → α} {N : Nat} (hh : ∀ i,i < N → g i = f i) : (List.range N).map f = (List.range N).map g:=List.map_congr_left fun i hi=>(hh i (List.mem_range.1 hi)).symm
theorem lst_range {s N : Nat} (hN : N ≤ 64) (h : ∀ i,i ∈ lst s → i < N) : lst s = (List.range N).filter s.testBit:=by
  have e : List.range 64 = List.range N ++ List.range' N (64 - N):=by
    have h1 : List.range' 0 64 = List.range' 0 N ++ List.range' (0 + N) (64 - N):=by
      rw [List.range'_append_1,show N + (64 - N) = 64 by omega]
    rw [List.range_eq_range',List.range_eq_range',h1,Nat.zero_add]
  have h2 : (List.range' N (64 - N)).filter s.testBit = []:=by
    rw [List.filter_eq_nil_iff]
    intro a ha hb
    have:=List.mem_range'_1.1 ha
    have:=h a ((mem_lst s a).2 ⟨by omega,hb⟩)
    omega
  unfold lst
  rw [e,List.filter_append,h2,List.append_nil]
theorem lst_without {s v : Nat} (hs : s < 18446744073709551616) (hv : v ∈ lst s) : (lst (s &&& (18446744073709551615 - bitN (v : Int)))).length + 1 = (lst s).length:=by
  have hb:=bitN_lt (v : Int)
  obtain ⟨v64,hvb⟩:=(mem_lst s v).1 hv
  have h1:=pop_split s (bitN (v : Int)) hb
  rw [pop_len,pop_len,pop_len] at h1
  have h2 : lst (s &&& bitN (v : Int)) = [v]:=by
    unfold lst
    have e1 : (List.range 64).filter (s &&& bitN (v : Int)).testBit = (List.range 64).filter (fun i=>decide (i = v)):=by
      refine List.filter_congr fun i hi=>?_
      have hi:=List.mem_range.1 hi
      rw [Nat.testBit_and,bitN_bit _ _ hi]
      by_cases e : i = v
      · subst e; rw [hvb]; simp
      · rw [decide_eq_false (by omega),decide_eq_false e,Bool.and_false]
    rw [e1,filter_split (fun i=>decide (i = v)) (fun _=>false) v (by simp) (fun i hi=>decide_eq_false (by omega)) (fun i=>by by_cases e : i = v <;> simp [e]) 64 v64]
    simp
  rw [h2] at h1
  simp only [List.length_cons,List.length_nil] at h1
  omega
section
variable {n settles : Int} {c : Int → Int → Int}
theorem pick_mem {x : RkS} (h : lst x.left ≠ []) : pickR n settles x ∈ lst x.left ∧ ∃ lo,ls (costR n settles x.c x.gone) (lst x.left) = some (pickR n settles x,lo):=by
  have h1:=ls_some (costR n settles x.c x.gone) (lst x.left) none (.inr h)
  obtain ⟨y,hy⟩:=Option.isSome_iff_exists.1 h1
  have e : pickR n settles x = y.1:=by
    unfold pickR lsV ls
    rw [hy]; rfl
  rcases ls_mem _ _ _ (show (lst x.left).foldl (lsS (costR n settles x.c x.gone)) none = some (y.1,y.2) from hy) with ⟨k,_⟩|k
  · exact ⟨e ▸ k,y.2,by rw [e]; exact hy⟩
  · cases k
theorem rk_cnt (hg : Good n c) : ∀ r,r ≤ n.toNat → (lst (rk n settles c r).left).length + r = n.toNat
  | 0, _=>by
    have n1:=hg.n1
    have n2:=hg.n2
    have ok:=rk_ok (settles:=settles) hg 0
    rw [lst_range (N:=n.toNat) (by omega) ok.sub]
    have : (List.range n.toNat).filter (rk n settles c 0).left.testBit = List.range n.toNat:=by
      rw [List.filter_eq_self]
      intro i hi
      have:=List.mem_range.1 hi
      rw [show (rk n settles c 0).left = belN n from rfl,belN_bit n i (by omega)]
      exact decide_eq_true (by omega)
    rw [this,List.length_range]; rfl
  | r + 1,hr=>by
    have ih:=rk_cnt hg r (by omega)
    have ok:=rk_ok (settles:=settles) hg r
    have hne : lst (rk n settles c r).left ≠ []:=fun e=>by rw [e] at ih; simp at ih; omega
    obtain ⟨hm,_⟩:=pick_mem (n:=n) (settles:=settles) hne
    have:=lst_without ok.lt hm
    show (lst ((rk n settles c r).left &&& (18446744073709551615 - bitN ((pickR n settles (rk n settles c r) : Nat) : Int)))).length + (r + 1) = _
    omega
theorem rk_ne (hg : Good n c) {r : Nat} (hr : r < n.toNat) : lst (rk n settles c r).left ≠ []:=fun e=>by
  have:=rk_cnt (settles:=settles) hg r (by omega)
  rw [e] at this; simp at this; omega
/-- Those that are ranked have ranks of their own, below r. -/
theorem rk_out (hg : Good n c) : ∀ r,r ≤ n.toNat → (∀ u,u < n.toNat → u ∉ lst (rk n settles c r).left → 0 ≤ (rk n settles c r).out.getD u default ∧ (rk n settles c r).out.getD u default < r) ∧
    (∀ u v,u < n.toNat → v < n.toNat → u ≠ v → u ∉ lst (rk n settles c r).left → v ∉ lst (rk n settles c r).left → (rk n settles c r).out.getD u default ≠ (rk n settles c r).out.getD v default)
  | 0, _=>by
    have n1:=hg.n1
    have n2:=hg.n2
    have key : ∀ u,u < n.toNat → u ∈ lst (rk n settles c 0).left:=fun u hu=>(mem_lst _ _).2 ⟨by omega,by
      rw [show (rk n settles c 0).left = belN n from rfl,belN_bit n u (by omega)]; exact decide_eq_true (by omega)⟩
    exact ⟨fun u hu h=>absurd (key u hu) h,fun u v hu hv _ h=>absurd (key u hu) h⟩
  | r + 1, hr=>by
    obtain ⟨h1,h2⟩:=rk_out hg r (by omega)
    have n2:=hg.n2
    have ok:=rk_ok (settles:=settles) hg r
    obtain ⟨p,hp⟩ : ∃ p,p = pickR n settles (rk n settles c r):=⟨_,rfl⟩
    have hpn : p < n.toNat:=hp ▸ pick_lt ok
    have hout : ∀ u,(rk n settles c (r + 1)).out.getD u default = if u = p then (r : Int) else (rk n settles c r).out.getD u default:=fun u=>by
      have e : (rk n settles c (r + 1)).out = (rk n settles c r).out.set p (r : Int):=by rw [hp]; rfl
      rw [e,List.getD_eq_getElem?_getD,List.getElem?_set]
      by_cases eu : p = u
      · rw [if_pos eu,if_pos eu.symm,if_pos (by rw [ok.ol]; exact hpn)]; rfl
      · rw [if_neg eu,if_neg (Ne.symm eu),List.getD_eq_getElem?_getD]
    have hleft : ∀ u,u < n.toNat → u ≠ p → u ∉ lst (rk n settles c (r + 1)).left → u ∉ lst (rk n settles c r).left:=fun u hu hne h hm=>h (by
      obtain ⟨k1,k2⟩:=(mem_lst _ _).1 hm
      refine (mem_lst _ _).2 ⟨k1,?_⟩
      have e : (rk n settles c (r + 1)).left = (rk n settles c r).left &&& (18446744073709551615 - bitN ((p : Nat) : Int)):=by rw [hp]; rfl
      rw [e,without_bit _ _ _ k1,k2,decide_eq_false (by omega)]; rfl)
    refine ⟨fun u hu hm=>?_,fun u v hu hv huv hmu hmv=>?_⟩
    · rw [hout]
      by_cases e : u = p
      · rw [if_pos e]; omega
      · rw [if_neg e]
        have:=h1 u hu (hleft u hu e hm)
        omega
    · rw [hout,hout]
      by_cases eu : u = p
      · rw [if_pos eu,if_neg (fun h=>huv (eu.trans h.symm))]
        have:=h1 v hv (hleft v hv (fun h=>huv (eu.trans h.symm)) hmv)
        omega
      · rw [if_neg eu]
        by_cases ev : v = p
        · rw [if_pos ev]
          have:=h1 u hu (hleft u hu eu hmu)
          omega
        · rw [if_neg ev]
          exact h2 u v hu hv huv (hleft u hu eu hmu) (hleft v hv ev hmv)
/-- **The order by cost is an order.** -/
theorem rankF_right (hg : Good n c) : RightP (rankF n settles c):=by
  have n2:=hg.n2
  have ok:=rk_ok (settles:=settles) hg n.toNat
  have hc:=rk_cnt (settles:=settles) hg n.toNat (Nat.le_refl _)
  have hl : lst (rk n settles c n.toNat).left = []:=List.length_eq_zero_iff.1 (by omega)
  obtain ⟨h1,h2⟩:=rk_out (settles:=settles) hg n.toNat (Nat.le_refl _)
  have hno : ∀ u,u ∉ lst (rk n settles c n.toNat).left:=fun u hu=>by rw [hl] at hu; cases hu
  have hol : (rankF n settles c).length = n.toNat:=ok.ol
  have hget : ∀ i (hi : i < (rankF n settles c).length),(rankF n settles c)[i] = (rk n settles c n.toNat).out.getD i default:=fun i hi=>by
    rw [List.getD_eq_getElem?_getD,List.getElem?_eq_getElem (show i < (rk n settles c n.toNat).out.length from hi)]; rfl
  refine ⟨by omega,fun x hx=>?_,?_⟩
  · obtain ⟨i,hi,e⟩:=List.getElem_of_mem hx
    rw [hget i hi] at e
    have:=h1 i (by omega) (hno i)
    omega
  · unfold List.Nodup
    rw [List.pairwise_iff_getElem]
    intro i j hi hj hij
    rw [hget i hi,hget j hj]
    exact h2 i j (by omega) (by omega) (by omega) (hno i) (hno j)
theorem ar_mem (c : Int → Int → Int) {v : Int} {N i : Nat} (hN : N ≤ 64) (hi : i < N) : i ∈ lst (arS c v N 2) ↔ (c v (i : Int) ≠ 4611686018427387906 ∨ c (i : Int) v ≠ 4611686018427387906):=by
  have h64 : i < 64:=by omega
  have e : arS c v N 2 = arB (fun x=>c x v) (arB (fun x=>c v x) 0 N) N:=rfl
  rw [mem_lst,e,arB_bit _ (arB_lt _ (by decide) _) _ h64,arB_bit _ (by decide) _ h64]
  simp only [Nat.zero_testBit,Bool.false_or,Bool.or_eq_true,decide_eq_true_eq]
  constructor
  · rintro ⟨_,h|h⟩
    · exact .inl h.2
    · exact .inr h.2
  · rintro (h|h)
    · exact ⟨h64,.inl ⟨hi,h⟩⟩
    · exact ⟨h64,.inr ⟨hi,h⟩⟩
end
/-- As the document looks for it. -/
def lsI (b : Option (Nat × Int)) : Int:=match b with
  | none=>-1
  | some y=>(y.1 : Int)
theorem fil_t {p : Nat → Bool} {v : Nat} (h : p v = true) : (List.range (v + 1)).filter p = (List.range v).filter p ++ [v]:=by
  rw [List.range_succ,List.filter_append]; simp [h]
theorem fil_f {p : Nat → Bool} {v : Nat} (h : p v = false) : (List.range (v + 1)).filter p = (List.range v).filter p:=by
  rw [List.range_succ,List.filter_append]; simp [h]
def bumpN (S : List Nat) (gone : List Int) (w : Nat) : List Int:=(List.range gone.length).map fun y=>gone.getD y default + (if y < w ∧ y ∈ S then 1 else 0)
theorem bumpN_zero (S : List Nat) (gone : List Int) : bumpN S gone 0 = gone:=by
  refine Eq.trans ?_ (bumpP_zero S gone)
  unfold bumpN bumpP bump
  refine zrg_congr fun i _=>?_
  rw [if_neg (by simp),if_neg (by omega)]
theorem bumpN_all (S : List Nat) (gone : List Int) : bumpN S gone gone.length = bump S gone:=by
  unfold bumpN bump
  refine zrg_congr fun i hi=>?_
  by_cases h : i ∈ S
  · rw [if_pos h,if_pos ⟨hi,h⟩]
  · rw [if_neg h,if_neg (fun k=>h k.2)]
theorem bumpN_len (S : List Nat) (gone : List Int) (w : Nat) : (bumpN S gone w).length = gone.length:=by simp [bumpN]
theorem bumpN_get (S : List Nat) (gone : List Int) {w : Nat} (h : w < gone.length) : (bumpN S gone w).getD w default = gone.getD w default:=by
  unfold bumpN
  rw [zrg_get h,if_neg (by omega)]; omega
theorem bumpN_in {S : List Nat} {gone : List Int} {w : Nat} (h : w < gone.length) (hm : w ∈ S) : (bumpN S gone w).set w (gone.getD w default + 1) = bumpN S gone (w + 1):=by
  unfold bumpN
  refine zrg_set h (by rw [if_pos ⟨by omega,hm⟩]) fun i hi hne=>?_
  by_cases e : i < w ∧ i ∈ S
  · rw [if_pos e,if_pos ⟨by omega,e.2⟩]
  · rw [if_neg e,if_neg (fun k=>e ⟨by omega,k.2⟩)]
theorem bumpN_out {S : List Nat} {gone : List Int} {w : Nat} (hm : w ∉ S) : bumpN S gone w = bumpN S gone (w + 1):=by
  unfold bumpN
  refine zrg_congr fun i hi=>?_
  by_cases e : i < w ∧ i ∈ S
  · rw [if_pos e,if_pos ⟨by omega,e.2⟩]
  · rw [if_neg e,if_neg (fun k=>e ⟨by
      rcases Nat.lt_or_ge i w with h|h
      · exact h
      · exact absurd (show w ∈ S by rw [show w = i by omega]; exact k.2) hm,k.2⟩)]
end Go.Proofs.YtblapiiinbppiaaGreatDoor
