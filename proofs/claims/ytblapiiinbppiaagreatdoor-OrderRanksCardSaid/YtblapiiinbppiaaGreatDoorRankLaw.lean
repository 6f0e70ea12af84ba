/- The order by cost, plainly: of what is left the first one of the least cost, and what that leaves. No program in sight. -/
import Derived.Test.YtblapiiinbppiaaGreatDoorOrder3
namespace Go.Proofs.YtblapiiinbppiaaGreatDoor
open Go.Rr Go Hp Wt
set_option linter.unusedVariables false
def lsS (cost : Nat → Int) (b : Option (Nat × Int)) (v : Nat) : Option (Nat × Int):=match b with
  | none=>some (v,cost v)
  | some (x,lo)=>if cost v < lo then some (v,cost v) else some (x,lo)
def ls (cost : Nat → Int) (l : List Nat) : Option (Nat × Int):=l.foldl (lsS cost) none
theorem ls_snoc (cost : Nat → Int) (l : List Nat) (v : Nat) : ls cost (l ++ [v]) = lsS cost (ls cost l) v:=by unfold ls; rw [List.foldl_append]; rfl
theorem ls_mem (cost : Nat → Int) : ∀ (l : List Nat) (b : Option (Nat × Int)) {x : Nat} {lo : Int},l.foldl (lsS cost) b = some (x,lo) → (x ∈ l ∧ lo = cost x) ∨ b = some (x,lo)
  | [], b,x,lo,h=>.inr h
  | v :: l,b,x,lo,h=>by
    rcases ls_mem cost l (lsS cost b v) h with ⟨k1,k2⟩|k
    · exact .inl ⟨List.mem_cons_of_mem _ k1,k2⟩
    · unfold lsS at k
      cases b with
      | none =>
        obtain ⟨rfl,rfl⟩:=Prod.mk.inj (Option.some.inj k)
        exact .inl ⟨List.mem_cons_self ..,rfl⟩
      | some y =>
        dsimp only at k
        by_cases hlt : cost v < y.2
        · rw [if_pos hlt] at k
          obtain ⟨rfl,rfl⟩:=Prod.mk.inj (Option.some.inj k)
          exact .inl ⟨List.mem_cons_self ..,rfl⟩
        · rw [if_neg hlt] at k
          exact .inr k
theorem ls_some (cost : Nat → Int) (l : List Nat) : ∀ (b : Option (Nat × Int)),(b.isSome = true ∨ l ≠ []) → (l.foldl (lsS cost) b).isSome = true:=by
  induction l with
  | nil => intro b h; rcases h with h|h
           · exact h
           · exact absurd rfl h
  | cons v l ih =>
    intro b _
    refine ih _ (.inl ?_)
    unfold lsS
    cases b with
    | none=>rfl
    | some y=>dsimp only; split <;> rfl
def lsV (b : Option (Nat × Int)) : Nat:=(b.map Prod.fst).getD 0
def lsL (b : Option (Nat × Int)) : Int:=(b.map Prod.snd).getD 0
/-- Where the order stands. -/
structure RkS where
  c : Int → Int → Int
  left : Nat
  gone : List Int
  out : List Int
noncomputable def costR (n settles : Int) (c : Int → Int → Int) (gone : List Int) (v : Nat) : Int:=((needN n c (v : Int) settles : Nat) : Int) - ((arC c (v : Int) n.toNat 2 : Nat) : Int) + gone.getD v default
def bump (S : List Nat) (gone : List Int) : List Int:=(List.range gone.length).map fun w=>gone.getD w default + (if w ∈ S then 1 else 0)
noncomputable def pickR (n settles : Int) (x : RkS) : Nat:=lsV (ls (costR n settles x.c x.gone) (lst x.left))
noncomputable def rkStep (n settles : Int) (r : Nat) (x : RkS) : RkS :=
  ⟨contrC n x.c (pickR n settles x : Nat),x.left &&& (18446744073709551615 - bitN ((pickR n settles x : Nat) : Int)),bump (lst (arS x.c (pickR n settles x : Nat) n.toNat 2)) x.gone,x.out.set (pickR n settles x) (r : Int)⟩
noncomputable def rk (n settles : Int) (c : Int → Int → Int) : Nat → RkS
  | 0=>⟨c,belN n,List.replicate n.toNat 0,List.replicate n.toNat 0⟩
  | r + 1=>rkStep n settles r (rk n settles c r)
noncomputable def rankF (n settles : Int) (c : Int → Int → Int) : List Int:=(rk n settles c n.toNat).out
theorem bump_len (S : List Nat) (gone : List Int) : (bump S gone).length = gone.length:=by simp [bump]
/-- What holds on the way. -/
structure RkOk (n : Int) (r : Nat) (x : RkS) : Prop where
  good : Good n x.c
  lt : x.left < 18446744073709551616
  sub : ∀ i,i ∈ lst x.left → i < n.toNat
  gl : x.gone.length = n.toNat
  ol : x.out.length = n.toNat
  gb : ∀ i,0 ≤ x.gone.getD i default ∧ x.gone.getD i default ≤ r
theorem rk_ok {n settles : Int} {c : Int → Int → Int} (hg : Good n c) : ∀ r,RkOk n r (rk n settles c r)
  | 0 => by
    have n2:=hg.n2
    refine ⟨hg,belN_lt n,fun i hi=>?_,by simp [rk],by simp [rk],fun i=>?_⟩
    · obtain ⟨h1,h2⟩:=(mem_lst _ _).1 hi
      rw [show (rk n settles c 0).left = belN n from rfl,belN_bit n i h1] at h2
      have:=of_decide_eq_true h2
      omega
    · have : (rk n settles c 0).gone.getD i default = 0:=by
        show (List.replicate n.toNat (0 : Int)).getD i default = 0
        rw [List.getD_eq_getElem?_getD,List.getElem?_replicate]
        split <;> rfl
      rw [this]; omega
  | r + 1=>by
    have ih:=rk_ok (settles:=settles) hg r
    have h0:=ih.lt
    refine ⟨good_contr ih.good _,and_lt _ _ ih.lt,fun i hi=>?_,?_,?_,fun i=>?_⟩
    · obtain ⟨h1,h2⟩:=(mem_lst _ _).1 hi
      have h3 : ((rk n settles c r).left &&& (18446744073709551615 - bitN ((pickR n settles (rk n settles c r) : Nat) : Int))).testBit i = true:=h2
      rw [without_bit _ _ _ h1] at h3
      simp only [Bool.and_eq_true] at h3
      exact ih.sub i ((mem_lst _ _).2 ⟨h1,h3.1⟩)
    · show (bump _ _).length = _
      rw [bump_len]; exact ih.gl
    · show (List.set _ _ _).length = _
      rw [List.length_set]; exact ih.ol
    · have e : (rk n settles c (r + 1)).gone = bump (lst (arS (rk n settles c r).c (pickR n settles (rk n settles c r) : Nat) n.toNat 2)) (rk n settles c r).gone:=rfl
      rw [e]
      unfold bump
      rw [List.getD_eq_getElem?_getD,List.getElem?_map]
      by_cases hi : i < (rk n settles c r).gone.length
      · rw [List.getElem?_range hi]
        simp only [Option.map_some,Option.getD_some]
        have:=ih.gb i
        split <;> omega
      · rw [List.getElem?_eq_none (by rw [List.length_range]; omega)]
        simp only [Option.map_none,Option.getD_none]
        show 0 ≤ (0 : Int) ∧ (0 : Int) ≤ _
        omega
theorem pick_lt {n settles : Int} {r : Nat} {x : RkS} (h : RkOk n r x) : pickR n settles x < n.toNat:=by
  have n1:=h.good.n1
  unfold pickR lsV
  cases e : ls (costR n settles x.c x.gone) (lst x.left) with
  | none=>show 0 < n.toNat; omega
  | some y =>
    rcases ls_mem _ _ _ (show (lst x.left).foldl (lsS (costR n settles x.c x.gone)) none = some (y.1,y.2) from e) with ⟨k,_⟩|k
    · exact h.sub _ k
    · cases k
theorem ar_lt {n : Int} {c : Int → Int → Int} (hg : Good n c) {v : Int} {i : Nat} (h : i ∈ lst (arS c v n.toNat 2)) : i < n.toNat:=by
  obtain ⟨h1,h2⟩:=(mem_lst _ _).1 h
  have e : arS c v n.toNat 2 = arB (fun x=>c x v) (arB (fun x=>c v x) 0 n.toNat) n.toNat:=rfl
  rw [e,arB_bit _ (arB_lt _ (by decide) _) _ h1,arB_bit _ (by decide) _ h1] at h2
  simp only [Nat.zero_testBit,Bool.false_or,Bool.or_eq_true,decide_eq_true_eq] at h2
  rcases h2 with h2|h2 <;> exact h2.1
/-- What is noted, so far, of those beside. -/
def bumpP (S : List Nat) (gone : List Int) (j : Nat) : List Int:=bump (S.take j) gone
theorem bumpP_zero (S : List Nat) (gone : List Int) : bumpP S gone 0 = gone:=by
  unfold bumpP bump
  refine List.ext_getElem? fun i=>?_
  rw [List.getElem?_map]
  by_cases h : i < gone.length
  · rw [List.getElem?_range h]
    simp [List.getD_eq_getElem?_getD,h]
  · rw [List.getElem?_eq_none (by rw [List.length_range]; omega),List.getElem?_eq_none (by omega)]; rfl
theorem bumpP_succ {S : List Nat} {gone : List Int} {j : Nat} (hn : S.Nodup) (hj : j < S.length) (hl : S.getD j default < gone.length) :
    (bumpP S gone j).set (S.getD j default) ((bumpP S gone j).getD (S.getD j default) default + 1) = bumpP S gone (j + 1):=by
  have e : S.getD j default = S[j]:=by rw [List.getD_eq_getElem?_getD,List.getElem?_eq_getElem hj]; rfl
  have ht : S.take (j + 1) = S.take j ++ [S.getD j default]:=by rw [List.take_succ_eq_append_getElem hj,e]
  have hnot : S.getD j default ∉ S.take j:=fun hm=>by
    rw [e] at hm
    obtain ⟨k,hk,ek⟩:=List.getElem_of_mem hm
    rw [List.length_take] at hk
    rw [List.getElem_take] at ek
    exact absurd (List.pairwise_iff_getElem.1 hn k j (by omega) hj (by omega)) (fun h=>h ek)
  have hg : ∀ i,i < gone.length → (bumpP S gone j).getD i default = gone.getD i default + (if i ∈ S.take j then 1 else 0):=fun i hi=>by
    unfold bumpP bump
    rw [List.getD_eq_getElem?_getD,List.getElem?_map,List.getElem?_range hi]; rfl
  refine List.ext_getElem? fun i=>?_
  rw [List.getElem?_set]
  have hlen : (bumpP S gone j).length = gone.length:=bump_len _ _
  have hlen2 : (bumpP S gone (j + 1)).length = gone.length:=bump_len _ _
  by_cases hi : i < gone.length
  · have e2 : (bumpP S gone (j + 1))[i]? = some (gone.getD i default + (if i ∈ S.take (j + 1) then 1 else 0)):=by
      unfold bumpP bump; rw [List.getElem?_map,List.getElem?_range hi]; rfl
    have e1 : (bumpP S gone j)[i]? = some (gone.getD i default + (if i ∈ S.take j then 1 else 0)):=by
      unfold bumpP bump; rw [List.getElem?_map,List.getElem?_range hi]; rfl
    rw [e2,e1,ht]
    by_cases ei : S.getD j default = i
    · rw [if_pos ei,if_pos (by rw [hlen,ei]; exact hi),hg _ hl,ei]
      rw [ei] at hnot
      rw [if_neg hnot,if_pos (by simp)]
      congr 1
      omega
    · rw [if_neg ei]
      congr 2
      simp only [List.mem_append,List.mem_singleton]
      by_cases hm : i ∈ S.take j
      · rw [if_pos hm,if_pos (.inl hm)]
      · rw [if_neg hm,if_neg (by rintro (k|k); exact hm k; exact ei k.symm)]
  · rw [List.getElem?_eq_none (show (bumpP S gone (j + 1)).length ≤ i by omega),List.getElem?_eq_none (show (bumpP S gone j).length ≤ i by omega)]
    split
    · rw [if_neg (by omega)]
    · rfl
theorem bumpP_all (S : List Nat) (gone : List Int) : bumpP S gone S.length = bump S gone:=by unfold bumpP; rw [List.take_length]
theorem lst_nodup (s : Nat) : (lst s).Nodup:=by
  unfold lst List.Nodup
  exact List.Pairwise.filter _ (List.Pairwise.imp (fun h=>Nat.ne_of_lt h) List.pairwise_lt_range)
theorem bumpP_get (S : List Nat) (gone : List Int) (j i : Nat) (hi : i < gone.length) : (bumpP S gone j).getD i default ≤ gone.getD i default + 1 ∧ gone.getD i default ≤ (bumpP S gone j).getD i default:=by
  unfold bumpP bump
  rw [List.getD_eq_getElem?_getD,List.getElem?_map,List.getElem?_range hi]
  simp only [Option.map_some,Option.getD_some]
  split <;> omega
end Go.Proofs.YtblapiiinbppiaaGreatDoor
