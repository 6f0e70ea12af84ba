/- Walks, plainly: where they lead, what is wrong with them, what their weights come to. No program in sight. -/
import Derived.Test.YtliofdfhimmjmaaGraph7
import Derived.Test.YtliofdfhimmjmaaMeshLaw
import Derived.Test.YtliofdfhimmjmaaBits
namespace Go.Proofs.Ytliofdfhimmjmaa
open Go.Rr Go
set_option linter.unusedVariables false
namespace Gr
def nextW (s : St) (v id : Int) : Int × Int:=if ¬ thB s id = true then (0,3) else if (arcQ s id).cl = true then (0,5) else if ¬ (arcQ s id).t = v then (0,8) else ((arcQ s id).h,0)
abbrev WS:=List Int × Int × Int
def wst (s : St) (b : WS) (id : Int) : WS:=if b.2.2 ≠ 0 then b else if (nextW s b.2.1 id).2 = 0 then (b.1 ++ [(nextW s b.2.1 id).1],(nextW s b.2.1 id).1,0) else (b.1,b.2.1,(nextW s b.2.1 id).2)
def wrun (s : St) (v : Int) (l : List Int) : WS:=l.foldl (wst s) ([v],v,0)
theorem wrun_snoc (s : St) (v : Int) (l : List Int) (id : Int) : wrun s v (l ++ [id]) = wst s (wrun s v l) id:=by unfold wrun; rw [List.foldl_append]; rfl
theorem wst_stuck {s : St} : ∀ (l : List Int) (b : WS),b.2.2 ≠ 0 → l.foldl (wst s) b = b
  | [], b,h=>rfl
  | id::l,b,h=>by
    have e : wst s b id = b:=if_pos h
    rw [List.foldl_cons,e]; exact wst_stuck l b h
theorem wrun_app (s : St) (v : Int) (l1 l2 : List Int) : wrun s v (l1 ++ l2) = l2.foldl (wst s) (wrun s v l1):=by unfold wrun; rw [List.foldl_append]
theorem wrun_stuck {s : St} {v : Int} {l : List Int} (i : Nat) (h : (wrun s v (l.take i)).2.2 ≠ 0) : wrun s v l = wrun s v (l.take i):=by
  have:=wrun_app s v (l.take i) (l.drop i)
  rw [List.take_append_drop] at this
  rw [this]; exact wst_stuck _ _ h
theorem wrun_ok {s : St} {v : Int} {l : List Int} (i : Nat) (h : (wrun s v l).2.2 = 0) : (wrun s v (l.take i)).2.2 = 0:=by
  rcases Decidable.em ((wrun s v (l.take i)).2.2 = 0) with h1|h1
  · exact h1
  · rw [wrun_stuck i h1] at h; exact absurd h h1
theorem nextW_rng {n most : Int} {s : St} (hg : GOk n most s) (v id : Int) (h : (nextW s v id).2 = 0) : 0 ≤ (nextW s v id).1 ∧ (nextW s v id).1 < n:=by
  unfold nextW at h ⊢
  by_cases h1 : thB s id = true
  · rw [if_neg (by simpa using h1)] at h ⊢
    by_cases h2 : (arcQ s id).cl = true
    · rw [if_pos h2] at h; exact absurd h (by decide)
    · rw [if_neg h2] at h ⊢
      by_cases h3 : (arcQ s id).t = v
      · rw [if_neg (by simpa using h3)]
        unfold thB at h1
        rw [Bool.and_eq_true,decide_eq_true_eq] at h1
        unfold arcQ
        rw [if_pos h1.1]
        exact (hg.arc _ h1.2).1.2
      · rw [if_pos h3] at h; exact absurd h (by decide)
  · rw [if_pos h1] at h; exact absurd h (by decide)
/-- What a good run leaves: as many vertices as arcs and one; all of them vertices; the last one is where it stands. -/
structure WOk (n : Int) (v : Int) (k : Nat) (b : WS) : Prop where
  len : b.1.length = k + 1
  last : b.1.getD k 0 = b.2.1
  rng : (0 ≤ v ∧ v < n) → ∀ x ∈ b.1,0 ≤ x ∧ x < n
theorem getD_snocW {l : List Int} {x : Int} {k : Nat} (h : l.length = k) : (l ++ [x]).getD k 0 = x:=by
  rw [List.getD_eq_getElem?_getD,List.getElem?_append_right (by omega),h,Nat.sub_self]; rfl
theorem wrun_good {n most : Int} {s : St} (hg : GOk n most s) {v : Int} {l : List Int} : ∀ (i : Nat),i ≤ l.length → (wrun s v (l.take i)).2.2 = 0 → WOk n v i (wrun s v (l.take i))
  | 0, _,_=>⟨rfl,rfl,fun hv x hx=>by
      have : x = v:=by simpa [wrun] using hx
      rw [this]; exact hv⟩
  | i + 1,hi,h=>by
    have hil : i < l.length:=by omega
    have e : l.take (i + 1) = l.take i ++ [l[i]]:=List.take_succ_eq_append_getElem hil
    have h0 : (wrun s v (l.take i)).2.2 = 0:=by
      have:=wrun_ok (l:=l.take (i + 1)) i h
      rwa [List.take_take,Nat.min_eq_left (by omega)] at this
    have ih:=wrun_good hg i (by omega) h0
    rw [e,wrun_snoc] at h ⊢
    unfold wst at h ⊢
    rw [if_neg (by omega)] at h ⊢
    by_cases hn : (nextW s (wrun s v (l.take i)).2.1 l[i]).2 = 0
    · rw [if_pos hn]
      refine ⟨by rw [List.length_append,ih.len]; rfl,getD_snocW ih.len,fun hv x hx=>?_⟩
      rcases List.mem_append.1 hx with hx|hx
      · exact ih.rng hv x hx
      · rw [List.mem_singleton.1 hx]; exact nextW_rng hg _ _ hn
    · rw [if_neg hn] at h; exact absurd h hn
abbrev vxW (n v : Int) : Prop:=0 ≤ v ∧ v < n
def vcode (n : Int) (s : St) (v : Int) (l : List Int) : Int:=if ¬ vxW n v then 1 else (wrun s v l).2.2
def vlist (n : Int) (s : St) (v : Int) (l : List Int) : List Int:=if vcode n s v l = 0 then (wrun s v l).1 else []
def ccode (n : Int) (s : St) (v u : Int) (l : List Int) : Int:=if ¬ (vxW n v ∧ vxW n u) then 1 else if (wrun s v l).2.2 ≠ 0 then (wrun s v l).2.2 else if (wrun s v l).2.1 ≠ u then 8 else 0
theorem vcode_ok {n : Int} {s : St} {v : Int} {l : List Int} (h : vcode n s v l = 0) : vxW n v ∧ (wrun s v l).2.2 = 0:=by
  unfold vcode at h
  by_cases hv : vxW n v
  · rw [if_neg (fun hh=>hh hv)] at h; exact ⟨hv,h⟩
  · rw [if_pos hv] at h; omega
theorem vlist_ok {n : Int} {s : St} {v : Int} {l : List Int} (h : vcode n s v l = 0) : vlist n s v l = (wrun s v l).1:=if_pos h
theorem wgood_all {n most : Int} {s : St} (hg : GOk n most s) {v : Int} {l : List Int} (h : (wrun s v l).2.2 = 0) : WOk n v l.length (wrun s v l):=by
  have:=wrun_good hg (v:=v) (l:=l) l.length (Nat.le_refl _) (by rw [List.take_length]; exact h)
  rwa [List.take_length] at this
theorem vlist_len {n most : Int} {s : St} (hg : GOk n most s) (v : Int) (l : List Int) : (vlist n s v l).length ≤ l.length + 1:=by
  unfold vlist
  split
  · rename_i h; rw [(wgood_all hg (vcode_ok h).2).len]; exact Nat.le_refl _
  · exact Nat.zero_le _
/-- The sum, and whether all were there. -/
def sst (s : St) (b : Int × Bool) (id : Int) : Int × Bool:=if b.2 = false then b else if thB s id = true then (two b.1 (arcQ s id).w,true) else (4611686018427387906,false)
def srun (s : St) (l : List Int) : Int × Bool:=l.foldl (sst s) (0,true)
theorem srun_snoc (s : St) (l : List Int) (id : Int) : srun s (l ++ [id]) = sst s (srun s l) id:=by unfold srun; rw [List.foldl_append]; rfl
theorem sst_stuck {s : St} : ∀ (l : List Int) (b : Int × Bool),b.2 = false → l.foldl (sst s) b = b
  | [], b,h=>rfl
  | id::l,b,h=>by
    have e : sst s b id = b:=if_pos h
    rw [List.foldl_cons,e]; exact sst_stuck l b h
theorem srun_app (s : St) (l1 l2 : List Int) : srun s (l1 ++ l2) = l2.foldl (sst s) (srun s l1):=by unfold srun; rw [List.foldl_append]
theorem srun_stuck {s : St} {l : List Int} (i : Nat) (h : (srun s (l.take i)).2 = false) : srun s l = srun s (l.take i):=by
  have:=srun_app s (l.take i) (l.drop i)
  rw [List.take_append_drop] at this
  rw [this]; exact sst_stuck _ _ h
theorem arcQ_dst {n most : Int} {s : St} (hg : GOk n most s) (id : Int) : Dst (arcQ s id).w:=by
  unfold arcQ
  split
  · rename_i hp
    cases ht : (s id.toNat).tk with
    | true=>have:=(hg.arc _ ht).2; unfold Dst; omega
    | false=>rw [hg.free _ ht]; show Dst 0; unfold Dst; omega
  · show Dst 0; unfold Dst; omega
theorem srun_dst {n most : Int} {s : St} (hg : GOk n most s) (l : List Int) : ∀ b : Int × Bool,Dst b.1 → Dst (l.foldl (sst s) b).1:=by
  induction l with
  | nil=>intro b hb; exact hb
  | cons id l ih =>
    intro b hb
    refine ih _ ?_
    unfold sst
    split
    · exact hb
    · split
      · exact two_dst hb (arcQ_dst hg id)
      · show Dst 4611686018427387906; unfold Dst; omega
/-! ### At no vertex twice -/
end Gr
end Go.Proofs.Ytliofdfhimmjmaa
