/- From both sides at once, step by step, plainly. No program in sight. -/
import Derived.Test.YtliofdfhimmjmaaBothLaw
namespace Go.Proofs.Ytliofdfhimmjmaa
open Go.Rr Go Gr Hp
set_option linter.unusedVariables false
set_option linter.unusedSectionVars false
section
variable {n : Int} {c : Int → Int → Int} {s0 : Nat}
theorem fq_mono (hg : Good n c) (h1 : s0 < n.toNat) {j b : Nat} (hb : Wt.nx n.toNat c s0 0 (stN n c s0 j) = some b) (w : Nat) : fq n c s0 (stN n c s0 (j + 1)) w ≤ fq n c s0 (stN n c s0 j) w:=by
  rw [← fq_next hg h1 hb (r:=fun x=>c b x) (fun _ _=>rfl) w,fq_FL hg h1 hb w]
  unfold fr
  by_cases h : Wt.isIn (stN n c s0 j) w ∨ w = b
  · rw [if_pos h,if_pos h]; exact Int.le_refl _
  · rw [if_neg h,if_neg h,two_none_right]
    have hs : Wt.sm c (stN n c s0 j) (w : Int) ≤ 4611686018427387906:=(Wt.sm_dst hg (Wt.st_ok (N:=n.toNat) (s0:=s0) (wo:=0) hg j) (w : Int)).2
    omega
theorem fq_same (hg : Good n c) (h1 : s0 < n.toNat) {j b : Nat} (hb : Wt.nx n.toNat c s0 0 (stN n c s0 j) = some b) {w : Nat} (hne : w ≠ b) (hc : c b w = 4611686018427387906) : fq n c s0 (stN n c s0 (j + 1)) w = fq n c s0 (stN n c s0 j) w:=by
  rw [← fq_next hg h1 hb (r:=fun x=>c b x) (fun _ _=>rfl) w,fq_FL hg h1 hb w]
  unfold fr
  dsimp only
  rw [hc]
end
section
variable {n most : Int} {s : St}
def endL (s : St) (b : Bool) (v : Int) : List Int:=(arcsI s b v).map (fun id=>oth (arcQ s id) b) ++ [v]
theorem endL_len (s : St) (b : Bool) (v : Int) : (endL s b v).length ≤ 65:=by
  have : (arcsI s b v).length ≤ 64:=by unfold arcsI; split <;> exact lstP_len _
  unfold endL
  rw [List.length_append,List.length_map,List.length_singleton]; omega
theorem endL_rng (hg : GOk n most s) (b : Bool) {v : Int} (hv : 0 ≤ v ∧ v < n) : ∀ x ∈ endL s b v,0 ≤ x ∧ x < n.toNat:=by
  intro x hx
  have n1:=hg.n1
  rcases List.mem_append.1 hx with h|h
  · obtain ⟨id,hid,rfl⟩:=List.mem_map.1 h
    obtain ⟨m1,m2,m3⟩:=mem_arcsI.1 hid
    rw [show arcQ s id = (s id.toNat).a from if_pos m1]
    obtain ⟨⟨a1,a2⟩,_⟩:=hg.arc _ m2
    unfold oth; split <;> omega
  · rw [List.mem_singleton.1 h]; omega
theorem endL_none (hg : GOk n most s) (b : Bool) {v x : Int} (h : x ∉ endL s b v) : cD s b v x = 4611686018427387906 ∧ x ≠ v:=by
  refine ⟨Decidable.byContradiction fun hc=>?_,fun e=>h (by rw [e]; unfold endL; simp)⟩
  have key : ∃ i,i ∈ arcsI s b v ∧ oth (s i.toNat).a b = x:=by
    cases b with
    | true =>
      obtain ⟨_,i,hm,e⟩:=cG_ex hg (show cG s x v ≠ 4611686018427387906 from hc)
      exact ⟨i,mem_arcsI.2 ⟨hm.1,hm.2.1,hm.2.2.2.2⟩,hm.2.2.2.1⟩
    | false =>
      obtain ⟨_,i,hm,e⟩:=cG_ex hg (show cG s v x ≠ 4611686018427387906 from hc)
      exact ⟨i,mem_arcsI.2 ⟨hm.1,hm.2.1,hm.2.2.2.1⟩,hm.2.2.2.2⟩
  obtain ⟨i,hi,e⟩:=key
  refine h (List.mem_append_left _ (List.mem_map.2 ⟨i,hi,?_⟩))
  rw [show arcQ s i = (s i.toNat).a from if_pos (mem_arcsI.1 hi).1]; exact e
abbrev FarA (n : Int) (s : St) (b : Bool) (s0 j : Nat) : Nat → Int:=fq n (cD s b) s0 (stN n (cD s b) s0 j)
/-- How far it is over a vertex, as far as both sides know. -/
def over (n : Int) (s : St) (s0 t0 i j : Nat) (x : Int) : Int:=two (FarA n s false s0 i x.toNat) (FarA n s true t0 j x.toNat)
theorem far_true (hg : GOk n most s) (a b : Int) : far n (cD s true) b a = far n (cG s) a b:=far_flip (cG_good hg) a b
variable {s0 t0 : Nat}
theorem over_ge (hg : GOk n most s) (h1 : s0 < n.toNat) (h2 : t0 < n.toNat) (i j x : Nat) : far n (cG s) s0 t0 ≤ over n s s0 t0 i j (x : Nat):=by
  have hG:=cG_good hg
  have hD:=fw_dst hG n.toNat
  have e1:=fq_ge (cD_good hg false) h1 i x
  have e2:=fq_ge (cD_good hg true) h2 j x
  rw [far_true hg] at e2
  unfold over
  rw [Int.toNat_natCast]
  exact Int.le_trans (far_tri hG _ (x : Int) _) (two_mono (hD _ _) (hD _ _) (fq_dst (cD_good hg false) i x) (fq_dst (cD_good hg true) j x) e1 e2)
abbrev MeetB (n : Int) (s : St) (s0 t0 i j : Nat) (b : Int × Int) : Prop:=Meet n.toNat (far n (cG s) s0 t0) (fun x=>i = 0 ∧ x = s0) (over n s s0 t0 i j) b
theorem meet_start (hg : GOk n most s) (h1 : s0 < n.toNat) : MeetB n s s0 t0 0 0 (-1,4611686018427387906):=by
  refine ⟨(fw_dst (cG_good hg) n.toNat _ _).2,Int.le_refl _,fun x hx=>?_,.inl rfl⟩
  by_cases e : x = s0
  · exact .inl ⟨rfl,e⟩
  · refine .inr ?_
    unfold over
    rw [Int.toNat_natCast]
    rw [show FarA n s false s0 0 x = 4611686018427387906 from by show fq n (cD s false) s0 [] x = 4611686018427387906; rw [fq_nil,if_neg e],two_none_left]
    exact Int.le_refl _
theorem meet_fwd (hg : GOk n most s) (h1 : s0 < n.toNat) (h2 : t0 < n.toNat) {i j b : Nat} {m : Int × Int} (hb : Wt.nx n.toNat (cD s false) s0 0 (stN n (cD s false) s0 i) = some b) (h : MeetB n s s0 t0 i j m) : MeetB n s s0 t0 (i + 1) j (mtF (over n s s0 t0 (i + 1) j) m (endL s false (b : Int))):=by
  have hGf:=cD_good hg false
  have hGt:=cD_good hg true
  have hbN:=(Wt.nx_spec hb).1
  have hbn : 0 ≤ (b : Int) ∧ (b : Int) < n:=by omega
  refine (Meet.step h (endL_rng hg false hbn) (fun x hx=>?_) (fun x hx=>over_ge hg h1 h2 _ _ x) (fun x hx hno=>?_)).mono (fun x hx he=>?_)
  · unfold over
    rw [Int.toNat_natCast]
    exact two_mono (fq_dst hGf _ _) (fq_dst hGt _ _) (fq_dst hGf _ _) (fq_dst hGt _ _) (fq_mono hGf h1 hb x) (Int.le_refl _)
  · obtain ⟨k1,k2⟩:=endL_none hg false hno
    unfold over
    rw [Int.toNat_natCast,show FarA n s false s0 (i + 1) x = FarA n s false s0 i x from fq_same hGf h1 hb (fun e=>k2 (by rw [e])) k1]
  · exfalso
    obtain ⟨⟨e1,e2⟩,hno⟩:=he
    subst e1
    have hb0 : Wt.nx n.toNat (cD s false) s0 0 [] = some b:=hb
    rw [e2,← Wt.nx_first hb0] at hno
    exact (endL_none hg false hno).2 rfl
theorem meet_bwd (hg : GOk n most s) (h1 : s0 < n.toNat) (h2 : t0 < n.toNat) {i j b : Nat} {m : Int × Int} (hb : Wt.nx n.toNat (cD s true) t0 0 (stN n (cD s true) t0 j) = some b) (h : MeetB n s s0 t0 i j m) : MeetB n s s0 t0 i (j + 1) (mtF (over n s s0 t0 i (j + 1)) m (endL s true (b : Int))):=by
  have hGf:=cD_good hg false
  have hGt:=cD_good hg true
  have hbN:=(Wt.nx_spec hb).1
  have hbn : 0 ≤ (b : Int) ∧ (b : Int) < n:=by omega
  refine (Meet.step h (endL_rng hg true hbn) (fun x hx=>?_) (fun x hx=>over_ge hg h1 h2 _ _ x) (fun x hx hno=>?_)).mono (fun x hx he=>.inl he.1)
  · unfold over
    rw [Int.toNat_natCast]
    exact two_mono (fq_dst hGf _ _) (fq_dst hGt _ _) (fq_dst hGf _ _) (fq_dst hGt _ _) (Int.le_refl _) (fq_mono hGt h2 hb x)
  · obtain ⟨k1,k2⟩:=endL_none hg true hno
    unfold over
    rw [Int.toNat_natCast,show FarA n s true t0 (j + 1) x = FarA n s true t0 j x from fq_same hGt h2 hb (fun e=>k2 (by rw [e])) k1]
/-- **Where the search ends.** -/
theorem meet_end (hg : GOk n most s) (h1 : s0 < n.toNat) (h2 : t0 < n.toNat) {i j : Nat} {m : Int × Int} (h : MeetB n s s0 t0 i j m) (hi : 0 < i) (hl : (stN n (cD s false) s0 i).length = i) (hT : ¬ two (nxT n (cD s false) s0 (stN n (cD s false) s0 i)) (nxT n (cD s true) t0 (stN n (cD s true) t0 j)) < m.2) :
    m.2 = far n (cG s) s0 t0 ∧ (m.2 = 4611686018427387906 ∨ ∃ x : Nat,x < n.toNat ∧ m.1 = (x : Int) ∧ over n s s0 t0 i j (x : Nat) = far n (cG s) s0 t0):=by
  have e : m.2 = far n (cG s) s0 t0:=by
    refine Int.le_antisymm ?_ h.lb
    refine meet_le (cG_good hg) h1 h2 (i:=i) (j:=j) h.hi (by rw [show (stN n (cG s) s0 i).length = i from hl]; exact hi) (fun x hx=>?_) (by
      have hT2 : ¬ two (nxT n (cG s) s0 (stN n (cG s) s0 i)) (nxT n (fun u w=>cG s w u) t0 (stN n (fun u w=>cG s w u) t0 j)) < m.2:=hT
      omega)
    rcases h.all x hx with k|k
    · omega
    · unfold over at k
      rw [Int.toNat_natCast] at k
      exact k
  refine ⟨e,?_⟩
  rcases h.at_ with k|⟨x,k1,k2,k3⟩
  · exact .inl k
  · have:=over_ge hg h1 h2 i j x
    exact .inr ⟨x,k1,k2,by omega⟩
theorem nxT_lt {b' : Bool} (hg : Good n (cD s b')) {j : Nat} {P : List (Int × Int)} {y B : Int} (hy : Dst y) (hB : B ≤ 4611686018427387906) (h : two (nxT n (cD s b') j P) y < B ∨ two y (nxT n (cD s b') j P) < B) : ∃ b,Wt.nx n.toNat (cD s b') j 0 P = some b:=by
  cases e : Wt.nx n.toNat (cD s b') j 0 P with
  | some b=>exact ⟨b,rfl⟩
  | none =>
    rw [nxT_none e,two_none_left,two_none_right] at h
    omega
theorem len_next {c : Int → Int → Int} (hg : Good n c) (h1 : s0 < n.toNat) {j b : Nat} (hl : (stN n c s0 j).length = j) (hb : Wt.nx n.toNat c s0 0 (stN n c s0 j) = some b) : (stN n c s0 (j + 1)).length = j + 1:=by
  rw [st_next hg h1 hb,List.length_append,hl]; rfl
theorem len_le {c : Int → Int → Int} (hg : Good n c) {j : Nat} (hl : (stN n c s0 j).length = j) : j ≤ n.toNat:=by
  have:=(Wt.st_ok (N:=n.toNat) (s0:=s0) (wo:=0) hg j).len
  have e : (Wt.st n.toNat c s0 0 j).length = j:=hl
  omega
end
end Go.Proofs.Ytliofdfhimmjmaa
