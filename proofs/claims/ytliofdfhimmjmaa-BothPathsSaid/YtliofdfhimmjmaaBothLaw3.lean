/- From both sides at once: the way that is noted, plainly. No program in sight. -/
import Derived.Test.YtliofdfhimmjmaaBothLaw2
namespace Go.Proofs.Ytliofdfhimmjmaa
open Go.Rr Go Gr Hp
set_option linter.unusedVariables false
set_option linter.unusedSectionVars false
/-- So many vertices are farther. -/
def Abv (N : Nat) (av : Nat → Int) (y : Int) (k : Nat) : Prop:=∃ vs : List Nat,vs.length = k ∧ vs.Nodup ∧ ∀ u ∈ vs,u < N ∧ y < av u
theorem Abv.zero (N : Nat) (av : Nat → Int) (y : Int) : Abv N av y 0:=⟨[],rfl,List.nodup_nil,fun u h=>(by cases h)⟩
theorem Abv.le {N : Nat} {av : Nat → Int} {y : Int} {k : Nat} (h : Abv N av y k) : k ≤ N:=by
  obtain ⟨vs,h1,h2,h3⟩:=h
  have:=List.Nodup.length_le_of_subset (l₂:=List.range N) h2 (fun x hx=>List.mem_range.2 (h3 x hx).1)
  rw [List.length_range] at this
  omega
theorem Abv.step {N : Nat} {av : Nat → Int} {v k : Nat} {y : Int} (h : Abv N av (av v) k) (hv : v < N) (hy : y < av v) : Abv N av y (k + 1):=by
  obtain ⟨vs,h1,h2,h3⟩:=h
  refine ⟨v::vs,by rw [List.length_cons,h1],List.nodup_cons.2 ⟨fun hm=>?_,h2⟩,fun u hu=>?_⟩
  · have:=(h3 v hm).2; omega
  · rcases List.mem_cons.1 hu with rfl|hu
    · exact ⟨hv,hy⟩
    · have:=h3 u hu; exact ⟨this.1,by omega⟩
section
variable {n most : Int} {s : St} {s0 : Nat} {av : Nat → Int} {st : Nat → Prop} {f : Nat → Option Int}
theorem two_comm (a b : Int) : two a b = two b a:=by unfold two; simp only [or_comm,Int.add_comm]
theorem two_told {a b : Int} (ha : Dst a) (hb : Dst b) (h : two a b ≤ 4611686018427387904) : two a b = a + b:=by
  unfold two at h ⊢
  unfold Dst at ha hb
  split at h
  · omega
  · rename_i k
    rw [if_neg k]
    split at h
    · omega
    · rename_i k2; rw [if_neg k2]
/-- One step back along what is noted. -/
theorem by_back (hg : GOk n most s) {b : Bool} (h : ByOk n s b s0 av st f) (hst : ∀ u,st u → av u = far n (cD s b) s0 u) {v : Nat} (hv : v < n.toNat) {id : Int} (hf : f v = some id) (hm : av v ≤ 4611686018427387904) :
    ∃ u : Nat,u < n.toNat ∧ (u : Int) = frm (arcQ s id) b ∧ thB s id = true ∧ (arcQ s id).cl = false ∧ oth (arcQ s id) b = (v : Int) ∧ av v = two (av u) (arcQ s id).w ∧ Dst (av u) ∧ av u < av v:=by
  obtain ⟨k1,k2,k3,k4,k5,k6,k7⟩:=h.some_ v hv id hf
  have hG:=cD_good hg b
  have e : arcQ s id = (s id.toNat).a:=if_pos k2
  obtain ⟨⟨a1,a2⟩,a3⟩:=hg.arc _ k3
  have hr : 0 ≤ frm (s id.toNat).a b ∧ frm (s id.toNat).a b < n:=by unfold frm; split <;> omega
  have hu:=hst _ k6
  rw [Int.toNat_of_nonneg hr.1] at hu
  have hd : Dst (far n (cD s b) s0 (frm (s id.toNat).a b)):=fw_dst hG n.toNat _ _
  have hw : Dst (s id.toNat).a.w:=⟨by omega,by omega⟩
  refine ⟨(frm (s id.toNat).a b).toNat,by omega,by rw [e,Int.toNat_of_nonneg hr.1],?_,by rw [e]; exact k4,by rw [e]; exact k5,by rw [e,hu]; exact k7,by rw [hu]; exact hd,?_⟩
  · unfold thB; rw [decide_eq_true k2,k3]; rfl
  · rw [hu]
    rw [k7] at hm ⊢
    rw [two_told hd hw hm]; omega
theorem way_f (hg : GOk n most s) (h : ByOk n s false s0 av st f) (hst : ∀ u,st u → av u = far n (cD s false) s0 u) {v x : Nat} (hv : v < n.toNat) {id tl : Int} {l : List Int} (hf : f v = some id) (hx : av x ≤ 4611686018427387904) (hvd : Dst (av v)) (hW : Wl s (v : Int) l.reverse (x : Int) tl) (hs : two (av v) tl = av x) :
    ∃ u : Nat,u < n.toNat ∧ (u : Int) = (arcQ s id).t ∧ Dst (av u) ∧ av u < av v ∧ Wl s (u : Int) (l ++ [id]).reverse (x : Int) (two (arcQ s id).w tl) ∧ two (av u) (two (arcQ s id).w tl) = av x:=by
  have htl:=Wl.dst hg hW
  have hm : av v ≤ 4611686018427387904:=by have:=le_two_left hvd htl; omega
  obtain ⟨u,u1,u2,u3,u4,u5,u6,u7,u8⟩:=by_back hg h hst hv hf hm
  have e5 : (arcQ s id).h = (v : Int):=u5
  refine ⟨u,u1,u2,u7,u8,?_,?_⟩
  · rw [List.reverse_append,List.reverse_singleton,List.singleton_append]
    exact ⟨u3,u4,u2.symm,tl,by rw [e5]; exact hW,rfl⟩
  · rw [← two_assoc u7 (arcQ_dst hg id) htl,← u6]; exact hs
theorem way_b (hg : GOk n most s) (h : ByOk n s true s0 av st f) (hst : ∀ u,st u → av u = far n (cD s true) s0 u) {v x : Nat} (hv : v < n.toNat) {id tl : Int} {l : List Int} (hf : f v = some id) (hx : av x ≤ 4611686018427387904) (hvd : Dst (av v)) (hW : Wl s (x : Int) l (v : Int) tl) (hs : two tl (av v) = av x) :
    ∃ u : Nat,u < n.toNat ∧ (u : Int) = (arcQ s id).h ∧ Dst (av u) ∧ av u < av v ∧ Wl s (x : Int) (l ++ [id]) (u : Int) (two tl (arcQ s id).w) ∧ two (two tl (arcQ s id).w) (av u) = av x:=by
  have htl:=Wl.dst hg hW
  have hm : av v ≤ 4611686018427387904:=by have:=le_two_right htl hvd; omega
  obtain ⟨u,u1,u2,u3,u4,u5,u6,u7,u8⟩:=by_back hg h hst hv hf hm
  have e5 : (arcQ s id).t = (v : Int):=u5
  have hw:=arcQ_dst hg id
  refine ⟨u,u1,u2,u7,u8,?_,?_⟩
  · refine Wl.app hg hW ⟨u3,u4,e5,0,⟨u2.symm,rfl⟩,?_⟩
    rw [two_zero hw]
  · rw [two_assoc htl hw u7,two_comm (arcQ s id).w,← u6]; exact hs
theorem way_end {b : Bool} (h : ByOk n s b s0 av st f) {v : Nat} (hv : v < n.toNat) (hf : f v = none) (hm : av v ≤ 4611686018427387904) : v = s0:=by
  rcases h.none_ v hv hf with k|k
  · exact k
  · omega
end
end Go.Proofs.Ytliofdfhimmjmaa
