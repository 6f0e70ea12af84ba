/- How far it is by a search that settles the nearest first: what it settles is as far as it is by any steps. No program in sight. -/
import Derived.Test.YtliofdfhimmjmaaWitLaw2
namespace Go.Proofs.Ytliofdfhimmjmaa
open Go.Rr Go Hp
set_option linter.unusedVariables false
set_option linter.unusedSectionVars false
namespace Wt
section
variable {n : Int} {c : Int → Int → Int} {s0 wo : Nat}
theorem fold_le (c : Int → Int → Int) (w : Int) : ∀ (Q : List (Int × Int)) (a : Int),Q.foldl (fun a p=>min a (two p.2 (c p.1 w))) a ≤ a ∧ ∀ p ∈ Q,Q.foldl (fun a p=>min a (two p.2 (c p.1 w))) a ≤ two p.2 (c p.1 w)
  | [], a=>⟨Int.le_refl _,fun p h=>by cases h⟩
  | q::Q,a=>by
    have h:=fold_le c w Q (min a (two q.2 (c q.1 w)))
    simp only [List.foldl_cons]
    refine ⟨by have:=h.1; omega,fun p hp=>?_⟩
    rcases List.mem_cons.1 hp with rfl|hp
    · have:=h.1; omega
    · exact h.2 p hp
theorem fold_ex (c : Int → Int → Int) (w : Int) : ∀ (Q : List (Int × Int)) (a : Int),Q.foldl (fun a p=>min a (two p.2 (c p.1 w))) a = a ∨ ∃ p ∈ Q,Q.foldl (fun a p=>min a (two p.2 (c p.1 w))) a = two p.2 (c p.1 w)
  | [], a=>.inl rfl
  | q :: Q,a=>by
    simp only [List.foldl_cons]
    rcases fold_ex c w Q (min a (two q.2 (c q.1 w))) with h|⟨p,hp,h⟩
    · rw [h]
      by_cases h2 : a ≤ two q.2 (c q.1 w)
      · exact .inl (by omega)
      · exact .inr ⟨q,List.mem_cons_self ..,by omega⟩
    · exact .inr ⟨p,List.mem_cons_of_mem _ hp,h⟩
theorem sm_le {P : List (Int × Int)} {w : Int} {p : Int × Int} (h : p ∈ P) : sm c P w ≤ two p.2 (c p.1 w):=(fold_le c w P 4611686018427387906).2 p h
theorem sm_ex {P : List (Int × Int)} {w : Int} (h : sm c P w < 4611686018427387906) : ∃ p ∈ P,sm c P w = two p.2 (c p.1 w):=by
  rcases fold_ex c w P 4611686018427387906 with e|e
  · have e' : sm c P w = 4611686018427387906:=e
    omega
  · exact e
/-- What comes later is no nearer. -/
theorem st_rise (hg : Good n c) : ∀ j b,nx n.toNat c s0 wo (st n.toNat c s0 wo j) = some b → ∀ p ∈ st n.toNat c s0 wo j,p.2 ≤ smF c s0 (st n.toNat c s0 wo j) b
  | 0,b,hb,p,hp=>by cases hp
  | j + 1,b,hb,p,hp=>by
    have hokj:=st_ok (N:=n.toNat) (s0:=s0) (wo:=wo) hg j
    cases hn : nx n.toNat c s0 wo (st n.toNat c s0 wo j) with
    | none=>rw [st_none hn] at hb; rw [hn] at hb; cases hb
    | some b' =>
      have ih:=st_rise hg j b' hn
      have e:=st_some hn
      obtain ⟨g1,g2,g3,g4,g5,g6⟩:=nx_spec hn
      have hdb:=smF_dst (s0:=s0) hg hokj b'
      have hle : ∀ q ∈ st n.toNat c s0 wo (j + 1),q.2 ≤ smF c s0 (st n.toNat c s0 wo j) b':=fun q hq=>by
        rw [e] at hq
        rcases List.mem_append.1 hq with h|h
        · exact ih q h
        · rw [List.mem_singleton.1 h]; exact Int.le_refl _
      obtain ⟨k1,k2,k3,k4,k5,k6⟩:=nx_spec hb
      refine Int.le_trans (hle p hp) ?_
      have hne : (b : Nat) ≠ b':=fun h=>k2 (by rw [e,isIn_snoc]; exact .inr h)
      have hnin : ¬ isIn (st n.toNat c s0 wo j) b:=fun h=>k2 (by rw [e,isIn_snoc]; exact .inl h)
      obtain ⟨e1,e2⟩:=smF_next hn hne
      rw [← e] at e2
      rw [e2]
      have hdc:=hg.dst b' b
      have h3:=le_two_left hdb hdc
      by_cases hs : sm c (st n.toNat c s0 wo j) (b : Int) < 4611686018427387906
      · have:=g6 b k1 hnin k3 (by rw [e1]; exact hs)
        rw [e1] at this
        omega
      · omega
theorem st_far_le (hg : Good n c) : ∀ j,∀ p ∈ st n.toNat c s0 wo j,far n c s0 p.1 ≤ p.2
  | 0,p,hp=>by cases hp
  | j + 1, p,hp=>by
    have ih:=st_far_le hg j
    cases hn : nx n.toNat c s0 wo (st n.toNat c s0 wo j) with
    | none=>rw [st_none hn] at hp; exact ih p hp
    | some b =>
      rw [st_some hn] at hp
      rcases List.mem_append.1 hp with h|h
      · exact ih p h
      · rw [List.mem_singleton.1 h]
        obtain ⟨g1,g2,g3,g4,g5,g6⟩:=nx_spec hn
        dsimp only
        unfold smF at g4 ⊢
        split
        · rename_i e; rw [e.2]; unfold far; rw [fw_diag hg]; exact Int.le_refl _
        · rename_i e
          rw [if_neg e] at g4
          obtain ⟨q,hq,e2⟩:=sm_ex g4
          have hqd:=(st_ok (N:=n.toNat) (s0:=s0) (wo:=wo) hg j).rng q hq
          have hD:=fw_dst hg n.toNat
          rw [e2]
          exact Int.le_trans (far_tri hg _ q.1 _) (two_mono (hD _ _) (hD _ _) ⟨by omega,by omega⟩ (hg.dst _ _) (ih q hq) (fw_le hg _ _ _))
/-- All that is settled is no farther than over another one that is settled. -/
theorem st_relax (hg : Good n c) : ∀ j,∀ p ∈ st n.toNat c s0 wo j,∀ q ∈ st n.toNat c s0 wo j,q.2 ≤ two p.2 (c p.1 q.1)
  | 0,p,hp,q,hq=>by cases hp
  | j + 1,p,hp,q,hq=>by
    have ih:=st_relax hg j
    have hok:=st_ok (N:=n.toNat) (s0:=s0) (wo:=wo) hg j
    cases hn : nx n.toNat c s0 wo (st n.toNat c s0 wo j) with
    | none=>rw [st_none hn] at hp hq; exact ih p hp q hq
    | some b =>
      have hdb:=smF_dst (s0:=s0) hg hok b
      rw [st_some hn] at hp hq
      rcases List.mem_append.1 hp with h1|h1 <;> rcases List.mem_append.1 hq with h2|h2
      · exact ih p h1 q h2
      · rw [List.mem_singleton.1 h2]
        dsimp only
        have h3:=sm_le (c:=c) (w:=(b : Int)) h1
        unfold smF
        split
        · rename_i e; rw [e.1] at h1; cases h1
        · exact h3
      · rw [List.mem_singleton.1 h1]
        dsimp only
        exact Int.le_trans (st_rise hg j b hn q h2) (le_two_left hdb (hg.dst _ _))
      · rw [List.mem_singleton.1 h1,List.mem_singleton.1 h2]
        exact le_two_left hdb (hg.dst _ _)
theorem not_in_range {n : Int} {c : Int → Int → Int} (hg : Good n c) {x y : Int} (h : c x y ≠ 4611686018427387906) : (0 ≤ x ∧ x < n) ∧ (0 ≤ y ∧ y < n):=by
  refine Decidable.byContradiction fun hh=>h (hg.out x y (by omega))
theorem leave (hg : Good n c) {j : Nat} {B : Int} (hB : ∀ x : Nat,x < n.toNat → ¬ isIn (st n.toNat c s0 0 j) x → B ≤ smF c s0 (st n.toNat c s0 0 j) x) (hB2 : B ≤ 4611686018427387906)
    {x y s : Int} (k : Wk c x y s) : ∀ d,(x,d) ∈ st n.toNat c s0 0 j → y ∉ (st n.toNat c s0 0 j).map Prod.fst → B ≤ two d s:=by
  have hok:=st_ok (N:=n.toNat) (s0:=s0) (wo:=0) hg j
  induction k with
  | nil u=>intro d hd hy; exact absurd (List.mem_map.2 ⟨_,hd,rfl⟩) hy
  | cons u x' w s k ih =>
    intro d hd hy
    have hdd : Dst d:=by have:=hok.rng _ hd; exact ⟨by omega,by omega⟩
    have hsd:=k.dst hg
    by_cases hin : x' ∈ (st n.toNat c s0 0 j).map Prod.fst
    · obtain ⟨q,hq,rfl⟩:=List.mem_map.1 hin
      have h1:=ih q.2 hq hy
      have h2:=st_relax hg j _ hd q hq
      have hqd : Dst q.2:=by have:=hok.rng _ hq; exact ⟨by omega,by omega⟩
      rw [← two_assoc hdd (hg.dst _ _) hsd]
      exact Int.le_trans h1 (two_mono hqd hsd (two_dst hdd (hg.dst _ _)) hsd h2 (Int.le_refl _))
    · by_cases hc : c u x' = 4611686018427387906
      · rw [hc,two_none_left,two_none_right]; exact hB2
      · have hr:=not_in_range hg hc
        have h3:=hB x'.toNat (by omega) (by unfold isIn; rw [Int.toNat_of_nonneg (by omega)]; exact hin)
        have h4 : smF c s0 (st n.toNat c s0 0 j) x'.toNat ≤ two d (c u x'):=by
          unfold smF
          split
          · rename_i e; rw [e.1] at hd; cases hd
          · have:=sm_le (c:=c) (w:=x') hd
            rw [Int.toNat_of_nonneg (by omega)]; exact this
        rw [← two_assoc hdd (hg.dst _ _) hsd]
        exact Int.le_trans (Int.le_trans h3 h4) (le_two_left (two_dst hdd (hg.dst _ _)) hsd)
theorem st_head (h1 : s0 < n.toNat) : ∀ j,0 < (st n.toNat c s0 0 j).length → ((s0 : Int),(0 : Int)) ∈ st n.toNat c s0 0 j
  | 0,h=>by simp [st] at h
  | j + 1,h=>by
    have e0 : st n.toNat c s0 0 1 = [((s0 : Int),0)]:=by
      have:=st_some (N:=n.toNat) (c:=c) (s0:=s0) (wo:=0) (j:=0) (nx_start h1 (by unfold inS; rw [Nat.zero_testBit,Bool.and_false]))
      rw [this]
      show [] ++ [((s0 : Int),smF c s0 [] s0)] = _
      rw [show smF c s0 [] s0 = 0 from if_pos ⟨rfl,rfl⟩]; rfl
    obtain ⟨l,e⟩:=st_mono (N:=n.toNat) (c:=c) (s0:=s0) (wo:=0) (i:=1) (j + 1) (by omega)
    rw [e,e0]; simp
/-- **As far as it is by any steps.** -/
theorem st_far (hg : Good n c) (h1 : s0 < n.toNat) : ∀ j,∀ p ∈ st n.toNat c s0 0 j,p.2 = far n c s0 p.1
  | 0,p,hp=>by cases hp
  | j + 1, p, hp=>by
    have ih:=st_far hg h1 j
    cases hn : nx n.toNat c s0 0 (st n.toNat c s0 0 j) with
    | none=>rw [st_none hn] at hp; exact ih p hp
    | some b =>
      have hlow:=st_far_le (s0:=s0) (wo:=0) hg (j + 1) p hp
      refine Int.le_antisymm ?_ hlow
      rw [st_some hn] at hp
      rcases List.mem_append.1 hp with h|h
      · rw [ih p h]; exact Int.le_refl _
      · rw [List.mem_singleton.1 h]
        dsimp only
        obtain ⟨g1,g2,g3,g4,g5,g6⟩:=nx_spec hn
        obtain ⟨s,hs,hle⟩:=fw_walk hg n.toNat (s0 : Int) (b : Int)
        refine Int.le_trans ?_ hle
        by_cases hP : st n.toNat c s0 0 j = []
        · rw [hP] at hn ⊢
          have hb:=nx_first hn
          rw [show smF c s0 [] b = 0 from if_pos ⟨rfl,hb⟩]
          exact (hs.dst hg).1
        · have hh:=st_head (c:=c) h1 j (List.length_pos_iff.2 hP)
          have:=leave hg (B:=smF c s0 (st n.toNat c s0 0 j) b) (fun x hx hxi=>by
            by_cases hlt : smF c s0 (st n.toNat c s0 0 j) x < 4611686018427387906
            · have:=g6 x hx hxi (by unfold inS; rw [Nat.zero_testBit,Bool.and_false]) hlt
              omega
            · omega) (by omega) hs 0 hh g2
          rwa [zero_two (hs.dst hg)] at this
theorem st_none_far (hg : Good n c) (h1 : s0 < n.toNat) {j : Nat} (hn : nx n.toNat c s0 0 (st n.toNat c s0 0 j) = none) {y : Int} (hy : y ∉ (st n.toNat c s0 0 j).map Prod.fst) : far n c s0 y = 4611686018427387906:=by
  have hP : 0 < (st n.toNat c s0 0 j).length:=by
    refine List.length_pos_iff.2 fun e=>?_
    rw [e] at hn
    have:=nx_start (N:=n.toNat) (c:=c) (s0:=s0) (wo:=0) h1 (by unfold inS; rw [Nat.zero_testBit,Bool.and_false])
    rw [this] at hn; cases hn
  have hh:=st_head (c:=c) h1 j hP
  obtain ⟨s,hs,hle⟩:=fw_walk hg n.toNat (s0 : Int) y
  have:=leave hg (B:=4611686018427387906) (fun x hx hxi=>by
    have:=nx_none hn x hx hxi (by unfold inS; rw [Nat.zero_testBit,Bool.and_false])
    omega) (Int.le_refl _) hs 0 hh hy
  rw [zero_two (hs.dst hg)] at this
  have hD:=fw_dst hg n.toNat (s0 : Int) y
  have hsd:=hs.dst hg
  show fw c n.toNat (s0 : Int) y = 4611686018427387906
  have h5:=hD.2
  have h6:=hsd.2
  omega
end
end Wt
end Go.Proofs.Ytliofdfhimmjmaa
