/- Several texts of the core as one: RrHeap RrWalk RrOps RrDraw RrArr RrAuto RrMore RrIn RrCel RrArrN RrAppend RrCut RrCap RrRange RrVec RrDel RrRow RrIns RrClone RrMarks RrField RrInF RrEq RrNest RrRd RrScope RrRowS. No program in sight. -/
import Derived.Below
import Derived.RangeFuncLeaves
import Derived.Orders
import Derived.IntWalk
import Derived.Laws.Strings
import Derived.OrdersIn
import Derived.Laws.AppendOwn
import Derived.RangeFuncRecord
import Derived.Deep.Slices
import Derived.WalkKit
import Derived.ProofKit
import Derived.OpenShut
import Derived.ShutString
import Derived.ChangeOld
import Derived.SizedLaws
import Derived.Lib.AppendZerosOnto
import Derived.Lib.Overlaps
import Derived.Laws.StructEq
import Derived.RangeFuncNested
set_option linter.unusedSimpArgs false
section
/- Heap assertions, separated: what blocks hold, apart from each other, with whatever else beside. No program in sight. -/
namespace Go.Rr
set_option linter.unusedVariables false
theorem cells_one {v : Value} (h : v.oneCell' = true) : v.cells = #[v]:=by cases v <;> simp_all [Value.cells,Value.oneCell']
theorem cells_agg (cs : Array Value) : (Value.agg cs).cells = cs:=rfl
abbrev Frag:=Nat → Option Obj
structure Rest where
  os : Os
  tape : Nat → Question → Nat
  output : Array (Nat × ByteArray)
def restOf (w : World) : Rest:=⟨w.os,w.tape,w.output⟩
def fragOf (w : World) : Frag:=fun b=>w.heap[b]?
def HProp:=Rest → Frag → Prop
def Frag.le (f g : Frag) : Prop:=∀ b o,f b = some o → g b = some o
def Frag.apart (f g : Frag) : Prop:=∀ b,f b = none ∨ g b = none
def Frag.join (f g : Frag) : Frag:=fun b=>match f b with|some o=>some o|none=>g b
theorem Frag.le_refl (f : Frag) : f.le f:=fun _ _ h=>h
theorem Frag.le.trans {f g h : Frag} (a : f.le g) (b : g.le h) : f.le h:=fun x o y=>b x o (a x o y)
theorem Frag.apart.symm {f g : Frag} (h : f.apart g) : g.apart f:=fun b=>(h b).symm
theorem Frag.apart.le {f g f' g' : Frag} (h : f.apart g) (a : f'.le f) (b : g'.le g) : f'.apart g':=fun x=>by
  rcases h x with h|h
  · left
    cases e : f' x with
    | none=>rfl
    | some o=>rw [a x o e] at h; cases h
  · right
    cases e : g' x with
    | none=>rfl
    | some o=>rw [b x o e] at h; cases h
theorem Frag.join_le {f g h : Frag} (a : f.le h) (b : g.le h) : (f.join g).le h:=fun x o e=>by
  unfold Frag.join at e
  split at e
  · rename_i o' h'; cases e; exact a x _ h'
  · exact b x o e
theorem Frag.le_join_left (f g : Frag) : f.le (f.join g):=fun x o e=>by unfold Frag.join; rw [e]
theorem Frag.le_join_right {f g : Frag} (h : f.apart g) : g.le (f.join g):=fun x o e=>by
  unfold Frag.join
  rcases h x with h|h
  · rw [h]; exact e
  · rw [h] at e; cases e
theorem Frag.apart_join {f g h : Frag} (a : f.apart h) (b : g.apart h) : (f.join g).apart h:=fun x=>by
  rcases a x with a|a
  · rcases b x with b|b
    · left; unfold Frag.join; rw [a]; exact b
    · exact .inr b
  · exact .inr a
/-- The assertions of a list, each on memory of its own; what is left over may be whatever. -/
def sep : List HProp → HProp
  | [], _,_=>True
  | A::L,r,f=>∃ g h : Frag,g.apart h ∧ g.le f ∧ h.le f ∧ A r g ∧ sep L r h
def Holds (w : World) (L : List HProp) : Prop:=sep L (restOf w) (fragOf w)
theorem sep_le {L : List HProp} {r : Rest} {f f' : Frag} (h : sep L r f) (a : f.le f') : sep L r f':=by
  cases L with
  | nil=>trivial
  | cons A L=>obtain ⟨g,k,h1,h2,h3,h4,h5⟩:=h; exact ⟨g,k,h1,h2.trans a,h3.trans a,h4,h5⟩
theorem sep_cons {A : HProp} {L L' : List HProp} {r : Rest} {f : Frag} (h : ∀ f,sep L r f → sep L' r f) (k : sep (A::L) r f) : sep (A::L') r f:=by
  obtain ⟨g,k,h1,h2,h3,h4,h5⟩:=k; exact ⟨g,k,h1,h2,h3,h4,h _ h5⟩
theorem sep_swap {A B : HProp} {L : List HProp} {r : Rest} {f : Frag} (h : sep (A::B::L) r f) : sep (B::A::L) r f:=by
  obtain ⟨g,k,h1,h2,h3,h4,g',k',i1,i2,i3,i4,i5⟩:=h
  have e : g.apart k':=h1.le (Frag.le_refl _) i3
  exact ⟨g',g.join k',((Frag.apart_join (h1.le (Frag.le_refl _) i2) i1.symm)).symm,i2.trans h3,Frag.join_le h2 (i3.trans h3),i4,g,k',e,Frag.le_join_left _ _,Frag.le_join_right e,h4,i5⟩
theorem sep_drop {A : HProp} {L : List HProp} {r : Rest} {f : Frag} (h : sep (A::L) r f) : sep L r f:=by
  obtain ⟨g,k,h1,h2,h3,h4,h5⟩:=h; exact sep_le h5 h3
theorem sep_mono {A B : HProp} {L : List HProp} {r : Rest} {f : Frag} (i : ∀ r f,A r f → B r f) (h : sep (A::L) r f) : sep (B::L) r f:=by
  obtain ⟨g,k,h1,h2,h3,h4,h5⟩:=h; exact ⟨g,k,h1,h2,h3,i _ _ h4,h5⟩
def star (l : List HProp) : HProp:=sep l
def hex {α : Sort _} (p : α → HProp) : HProp:=fun r f=>∃ a,p a r f
def hp (φ : Prop) : HProp:=fun _ _=>φ
def pt (b : Nat) (o : Obj) : HProp:=fun _ f=>f b = some o
/-- Whatever lay in a world lies as it lay. -/
def base (w : World) : HProp:=fun r f=>r = restOf w ∧ (fragOf w).le f
theorem sep_hex {α : Sort _} {p : α → HProp} {L : List HProp} {r : Rest} {f : Frag} : sep (hex p::L) r f ↔ ∃ a,sep (p a::L) r f:=by
  constructor
  · rintro ⟨g,k,h1,h2,h3,⟨a,h4⟩,h5⟩; exact ⟨a,g,k,h1,h2,h3,h4,h5⟩
  · rintro ⟨a,g,k,h1,h2,h3,h4,h5⟩; exact ⟨g,k,h1,h2,h3,⟨a,h4⟩,h5⟩
theorem sep_hp {φ : Prop} {L : List HProp} {r : Rest} {f : Frag} : sep (hp φ::L) r f ↔ φ ∧ sep L r f:=by
  constructor
  · rintro ⟨g,k,h1,h2,h3,h4,h5⟩; exact ⟨h4,sep_le h5 h3⟩
  · rintro ⟨h,k⟩; exact ⟨fun _=>none,f,fun _=>.inl rfl,(fun _ _ h=>by cases h),Frag.le_refl _,h,k⟩
theorem sep_star {l L : List HProp} {r : Rest} {f : Frag} : sep (star l::L) r f ↔ sep (l ++ L) r f:=by
  induction l generalizing f with
  | nil =>
    constructor
    · exact sep_drop
    · intro h; exact ⟨fun _=>none,f,fun _=>.inl rfl,(fun _ _ h=>by cases h),Frag.le_refl _,trivial,h⟩
  | cons A l ih =>
    constructor
    · rintro ⟨g,k,h1,h2,h3,⟨g',k',i1,i2,i3,i4,i5⟩,h5⟩
      have e : k'.apart k:=h1.le i3 (Frag.le_refl _)
      exact ⟨g',k'.join k,(Frag.apart_join i1.symm (h1.le i2 (Frag.le_refl _)).symm).symm,i2.trans h2,Frag.join_le (i3.trans h2) h3,i4,
        ih.1 ⟨k',k,e,Frag.le_join_left _ _,Frag.le_join_right e,i5,h5⟩⟩
    · rintro ⟨g,k,h1,h2,h3,h4,h5⟩
      obtain ⟨g',k',i1,i2,i3,i4,i5⟩:=ih.2 h5
      have e : g.apart g':=h1.le (Frag.le_refl _) i2
      exact ⟨g.join g',k',Frag.apart_join (h1.le (Frag.le_refl _) i3) i1,Frag.join_le h2 (i2.trans h3),i3.trans h3,
        ⟨g,g',e,Frag.le_join_left _ _,Frag.le_join_right e,h4,i4⟩,i5⟩
section
variable {w w' : World} {A B C D E F G A1 A2 A3 A4 A5 : HProp} {L L' : List HProp}
theorem Holds.swap (h : Holds w (A::B::L)) : Holds w (B::A::L):=sep_swap h
theorem Holds.drop (h : Holds w (A::L)) : Holds w L:=sep_drop h
theorem Holds.mono (i : ∀ r f,A r f → B r f) (h : Holds w (A::L)) : Holds w (B::L):=sep_mono i h
theorem Holds.cons (i : ∀ f,sep L (restOf w) f → sep L' (restOf w) f) (h : Holds w (A::L)) : Holds w (A::L'):=sep_cons i h
theorem Holds.hex {α : Sort _} {p : α → HProp} : Holds w (hex p::L) ↔ ∃ a,Holds w (p a::L):=sep_hex
theorem Holds.hp {φ : Prop} : Holds w (hp φ::L) ↔ φ ∧ Holds w L:=sep_hp
theorem Holds.star {l : List HProp} : Holds w (star l::L) ↔ Holds w (l ++ L):=sep_star
/-- Bring the n-th to the front. -/
theorem sep_front {r : Rest} : ∀ (n : Nat) (L : List HProp) (f : Frag) (A : HProp),L[n]? = some A → sep L r f → sep (A::L.eraseIdx n) r f
  | 0,B::L,f,A,e,h=>by simp at e; subst e; exact h
  | n + 1,B::L,f,A,e,h=>sep_swap (sep_cons (fun f h=>sep_front n L f A (by simpa using e) h) h)
  | _,[],_,_,e,_=>by simp at e
theorem Holds.front (n : Nat) (h : Holds w L) (e : L[n]? = some A:=by rfl) : Holds w (A::L.eraseIdx n):=sep_front n L _ A e h
theorem Holds.f1 (h : Holds w (A::B::L)) : Holds w (B::A::L):=h.swap
theorem Holds.f2 (h : Holds w (A::B::C::L)) : Holds w (C::A::B::L):=h.front 2
theorem Holds.f3 (h : Holds w (A::B::C::D::L)) : Holds w (D::A::B::C::L):=h.front 3
theorem Holds.f4 (h : Holds w (A::B::C::D::E::L)) : Holds w (E::A::B::C::D::L):=h.front 4
theorem Holds.f5 (h : Holds w (A::B::C::D::E::F::L)) : Holds w (F::A::B::C::D::E::L):=h.front 5
theorem Holds.f6 (h : Holds w (A::B::C::D::E::F::G::L)) : Holds w (G::A::B::C::D::E::F::L):=h.front 6
theorem Holds.f7 (h : Holds w (A::B::C::D::E::F::G::A1::L)) : Holds w (A1::A::B::C::D::E::F::G::L):=h.front 7
theorem Holds.f8 (h : Holds w (A::B::C::D::E::F::G::A1::A2::L)) : Holds w (A2::A::B::C::D::E::F::G::A1::L):=h.front 8
theorem Holds.f9 (h : Holds w (A::B::C::D::E::F::G::A1::A2::A3::L)) : Holds w (A3::A::B::C::D::E::F::G::A1::A2::L):=h.front 9
end
/-! ### What is read of a block; what is turned -/
section
variable {w w' : World} {A : HProp} {L : List HProp} {b : Nat} {o o' : Obj}
theorem Holds.get (h : Holds w (pt b o::L)) : w.heap[b]? = some o:=by
  obtain ⟨g,k,h1,h2,h3,h4,h5⟩:=h; exact h2 b o h4
theorem Holds.lt (h : Holds w (pt b o::L)) : b < w.heap.size:=(Array.getElem?_eq_some_iff.1 h.get).1
theorem Holds.ne {b' : Nat} (h : Holds w (pt b o::pt b' o'::L)) : b ≠ b':=by
  obtain ⟨g,k,h1,h2,h3,h4,g',k',i1,i2,i3,i4,i5⟩:=h
  rintro rfl
  have:=i2 b o' i4
  have h4' : g b = some o:=h4
  rcases h1 b with e|e
  · rw [e] at h4'; cases h4'
  · rw [e] at this; cases this
theorem Holds.same (h : Holds w L) (hr : restOf w' = restOf w) (hh : w'.heap = w.heap) : Holds w' L:=by
  unfold Holds fragOf at *; rw [hr,hh]; exact h
theorem Holds.drawn (h : Holds w L) (n : Nat) : Holds { w with drawn:=n } L:=h.same rfl rfl
theorem Holds.put (h : Holds w (pt b o::L)) (hr : restOf w' = restOf w) (h1 : w'.heap[b]? = some o') (h2 : ∀ k,k ≠ b → w'.heap[k]? = w.heap[k]?) : Holds w' (pt b o'::L):=by
  obtain ⟨g,k,i1,i2,i3,i4,i5⟩:=h
  have i4' : g b = some o:=i4
  have hk : k b = none:=by
    rcases i1 b with e|e
    · rw [e] at i4'; cases i4'
    · exact e
  refine ⟨fun x=>if x = b then some o' else none,k,fun x=>?_,fun x y e=>?_,fun x y e=>?_,by simp [pt],hr ▸ i5⟩
  · by_cases e : x = b
    · subst e; exact .inr hk
    · simp [e]
  · by_cases e' : x = b
    · subst e'; simp at e; subst e; exact h1
    · simp [e'] at e
  · have : x ≠ b:=by rintro rfl; rw [hk] at e; cases e
    show w'.heap[x]? = some y
    rw [h2 x this]; exact i3 x y e
theorem Holds.setCell {c : Array Value} {t : TypeId} {fr : Nat × Nat} {off : Nat} (v : Value) (h : Holds w (pt b (.cells c t fr)::L)) : Holds (w.setCell ⟨b,off,none⟩ v) (pt b (.cells (c.setIfInBounds off v) t fr)::L) :=
  h.put rfl (by simp [World.setCell,Array.getElem?_modify,h.get]) (fun k hk=>by simp [World.setCell,Array.getElem?_modify,Ne.symm hk])
theorem Holds.putObj (o' : Obj) (h : Holds w (pt b o::L)) : Holds { w with heap:=w.heap.setIfInBounds b o' } (pt b o'::L) :=
  h.put rfl (by simp [h.lt]) (fun k hk=>by simp [Ne.symm hk])
theorem Holds.alloc (o : Obj) (h : Holds w L) : Holds { w with heap:=w.heap.push o } (pt w.heap.size o::L):=by
  refine ⟨fun x=>if x = w.heap.size then some o else none,fragOf w,fun x=>?_,fun x y e=>?_,fun x y e=>?_,by simp [pt],h⟩
  · by_cases e : x = w.heap.size
    · subst e; right; show w.heap[w.heap.size]? = none; simp
    · simp [e]
  · by_cases e' : x = w.heap.size
    · subst e'; simp at e; subst e; show (w.heap.push o)[w.heap.size]? = some o; simp
    · simp [e'] at e
  · show (w.heap.push o)[x]? = some y
    have e' : w.heap[x]? = some y:=e
    have:=(Array.getElem?_eq_some_iff.1 e').1
    rw [Array.getElem?_push,if_neg (by omega)]; exact e'
theorem Holds.cell {c : Array Value} {t : TypeId} {fr : Nat × Nat} {off : Nat} {v : Value} (h : Holds w (pt b (.cells c t fr)::L)) (e : c[off]? = some v) : w.cell? ⟨b,off,none⟩ = some v:=by
  simp [World.cell?,h.get,e]
theorem Holds.frozen {c : Array Value} {t : TypeId} {off : Nat} (h : Holds w (pt b (.cells c t (0,0))::L)) : w.frozen? ⟨b,off,none⟩ = false:=by
  simp [World.frozen?,h.get]
theorem Holds.base_below {w0 : World} (h : Holds w (base w0::L)) : RowKit.Below w0.heap.size w0 w:=by
  obtain ⟨g,k,h1,h2,h3,⟨hr,h4⟩,h5⟩:=h
  have hr' : restOf w = restOf w0:=hr
  have e1:=congrArg Rest.os hr'
  have e2:=congrArg Rest.tape hr'
  have e3:=congrArg Rest.output hr'
  have hb : ∀ k o,w0.heap[k]? = some o → w.heap[k]? = some o:=fun k o e=>h2 k o (h4 k o e)
  refine ⟨e1,e2,e3,?_,fun k hk=>?_⟩
  · rcases Nat.eq_zero_or_pos w0.heap.size with hz|hz
    · omega
    · have:=hb (w0.heap.size - 1) _ (Array.getElem?_eq_getElem (by omega))
      have:=(Array.getElem?_eq_some_iff.1 this).1
      omega
  · rw [hb k _ (Array.getElem?_eq_getElem hk),Array.getElem?_eq_getElem hk]
theorem Holds.base_refl (w : World) : Holds w [base w] :=
  ⟨fragOf w,fun _=>none,fun _=>.inr rfl,Frag.le_refl _,(fun _ _ h=>by cases h),⟨rfl,Frag.le_refl _⟩,trivial⟩
theorem Holds.base_get {w0 : World} (h : Holds w (base w0::L)) (e : w0.heap[b]? = some o) : w.heap[b]? = some o:=by
  obtain ⟨g,k,h1,h2,h3,⟨hr,h4⟩,h5⟩:=h
  exact h2 b o (h4 b o e)
theorem Holds.base_cell {w0 : World} {a : Addr} {v : Value} (h : Holds w (base w0::L)) (e : w0.cell? a = some v) : w.cell? a = some v:=by
  have : w0.heap[a.block]? ≠ none:=by intro e'; simp [World.cell?,e'] at e
  cases e' : w0.heap[a.block]? with
  | none=>exact absurd e' this
  | some o=>simp only [World.cell?,h.base_get e',e'] at e ⊢; exact e
end
/-! ### One list of assertions out of another one: some of them, in another turn -/
inductive Sel : List HProp → HProp → List HProp → Prop
  | head {A : HProp} {L : List HProp} : Sel (A::L) A L
  | tail {A B : HProp} {L L' : List HProp} : Sel L A L' → Sel (B::L) A (B::L')
inductive PP : List HProp → List HProp → Prop
  | refl (L : List HProp) : PP L L
  | nil {L : List HProp} : PP L []
  | cons {A : HProp} {L L' M : List HProp} : Sel L A L' → PP L' M → PP L (A::M)
  | drop {A : HProp} {L M : List HProp} : PP L M → PP (A::L) M
theorem Sel.sep {L L' : List HProp} {A : HProp} (h : Sel L A L') {r : Rest} {f : Frag} (k : sep L r f) : sep (A::L') r f:=by
  induction h generalizing f with
  | head=>exact k
  | tail _ ih=>exact sep_swap (sep_cons (fun f h=>ih h) k)
theorem PP.sep {L M : List HProp} (h : PP L M) {r : Rest} {f : Frag} (k : sep L r f) : sep M r f:=by
  induction h generalizing f with
  | refl=>exact k
  | nil=>trivial
  | cons h _ ih=>exact sep_cons (fun f h=>ih h) (h.sep k)
  | drop _ ih=>exact ih (sep_drop k)
theorem Holds.pp {w : World} {L M : List HProp} (H : Holds w L) (h : PP L M) : Holds w M:=h.sep H
theorem PP.auto {L M : List HProp} (h : PP L M:=by
    repeat (first
      | exact PP.refl _
      | exact PP.nil
      | (apply PP.cons; first
          | exact Sel.head
          | exact Sel.tail Sel.head
          | exact Sel.tail (Sel.tail Sel.head)
          | exact Sel.tail (Sel.tail (Sel.tail Sel.head))
          | exact Sel.tail (Sel.tail (Sel.tail (Sel.tail Sel.head)))
          | exact Sel.tail (Sel.tail (Sel.tail (Sel.tail (Sel.tail Sel.head))))
          | exact Sel.tail (Sel.tail (Sel.tail (Sel.tail (Sel.tail (Sel.tail Sel.head)))))
          | exact Sel.tail (Sel.tail (Sel.tail (Sel.tail (Sel.tail (Sel.tail (Sel.tail Sel.head))))))
          | exact Sel.tail (Sel.tail (Sel.tail (Sel.tail (Sel.tail (Sel.tail (Sel.tail (Sel.tail Sel.head)))))))
          | exact Sel.tail (Sel.tail (Sel.tail (Sel.tail (Sel.tail (Sel.tail (Sel.tail (Sel.tail (Sel.tail Sel.head))))))))
          | exact Sel.tail (Sel.tail (Sel.tail (Sel.tail (Sel.tail (Sel.tail (Sel.tail (Sel.tail (Sel.tail (Sel.tail Sel.head)))))))))
          | exact Sel.tail (Sel.tail (Sel.tail (Sel.tail (Sel.tail (Sel.tail (Sel.tail (Sel.tail (Sel.tail (Sel.tail (Sel.tail Sel.head))))))))))
          | exact Sel.tail (Sel.tail (Sel.tail (Sel.tail (Sel.tail (Sel.tail (Sel.tail (Sel.tail (Sel.tail (Sel.tail (Sel.tail (Sel.tail Sel.head)))))))))))
          | exact Sel.tail (Sel.tail (Sel.tail (Sel.tail (Sel.tail (Sel.tail (Sel.tail (Sel.tail (Sel.tail (Sel.tail (Sel.tail (Sel.tail (Sel.tail Sel.head))))))))))))
          | exact Sel.tail (Sel.tail (Sel.tail (Sel.tail (Sel.tail (Sel.tail (Sel.tail (Sel.tail (Sel.tail (Sel.tail (Sel.tail (Sel.tail (Sel.tail (Sel.tail Sel.head)))))))))))))
          | exact Sel.tail (Sel.tail (Sel.tail (Sel.tail (Sel.tail (Sel.tail (Sel.tail (Sel.tail (Sel.tail (Sel.tail (Sel.tail (Sel.tail (Sel.tail (Sel.tail (Sel.tail Sel.head))))))))))))))
          | exact Sel.tail (Sel.tail (Sel.tail (Sel.tail (Sel.tail (Sel.tail (Sel.tail (Sel.tail (Sel.tail (Sel.tail (Sel.tail (Sel.tail (Sel.tail (Sel.tail (Sel.tail (Sel.tail Sel.head)))))))))))))))
          | exact Sel.tail (Sel.tail (Sel.tail (Sel.tail (Sel.tail (Sel.tail (Sel.tail (Sel.tail (Sel.tail (Sel.tail (Sel.tail (Sel.tail (Sel.tail (Sel.tail (Sel.tail (Sel.tail (Sel.tail Sel.head))))))))))))))))
          | exact Sel.tail (Sel.tail (Sel.tail (Sel.tail (Sel.tail (Sel.tail (Sel.tail (Sel.tail (Sel.tail (Sel.tail (Sel.tail (Sel.tail (Sel.tail (Sel.tail (Sel.tail (Sel.tail (Sel.tail (Sel.tail Sel.head)))))))))))))))))
          | exact Sel.tail (Sel.tail (Sel.tail (Sel.tail (Sel.tail (Sel.tail (Sel.tail (Sel.tail (Sel.tail (Sel.tail (Sel.tail (Sel.tail (Sel.tail (Sel.tail (Sel.tail (Sel.tail (Sel.tail (Sel.tail (Sel.tail Sel.head))))))))))))))))))
          | exact Sel.tail (Sel.tail (Sel.tail (Sel.tail (Sel.tail (Sel.tail (Sel.tail (Sel.tail (Sel.tail (Sel.tail (Sel.tail (Sel.tail (Sel.tail (Sel.tail (Sel.tail (Sel.tail (Sel.tail (Sel.tail (Sel.tail (Sel.tail Sel.head)))))))))))))))))))
          | exact Sel.tail (Sel.tail (Sel.tail (Sel.tail (Sel.tail (Sel.tail (Sel.tail (Sel.tail (Sel.tail (Sel.tail (Sel.tail (Sel.tail (Sel.tail (Sel.tail (Sel.tail (Sel.tail (Sel.tail (Sel.tail (Sel.tail (Sel.tail (Sel.tail Sel.head))))))))))))))))))))
          | exact Sel.tail (Sel.tail (Sel.tail (Sel.tail (Sel.tail (Sel.tail (Sel.tail (Sel.tail (Sel.tail (Sel.tail (Sel.tail (Sel.tail (Sel.tail (Sel.tail (Sel.tail (Sel.tail (Sel.tail (Sel.tail (Sel.tail (Sel.tail (Sel.tail (Sel.tail Sel.head))))))))))))))))))))))
      | apply PP.drop)
    all_goals fail) : PP L M:=h
/-- Told from what is told of this world, in another turn. -/
theorem Holds.to {w : World} {L M : List HProp} (H : Holds w L) (h : PP L M:=by
    repeat (first
      | exact PP.refl _
      | exact PP.nil
      | (apply PP.cons; first
          | exact Sel.head
          | exact Sel.tail Sel.head
          | exact Sel.tail (Sel.tail Sel.head)
          | exact Sel.tail (Sel.tail (Sel.tail Sel.head))
          | exact Sel.tail (Sel.tail (Sel.tail (Sel.tail Sel.head)))
          | exact Sel.tail (Sel.tail (Sel.tail (Sel.tail (Sel.tail Sel.head))))
          | exact Sel.tail (Sel.tail (Sel.tail (Sel.tail (Sel.tail (Sel.tail Sel.head)))))
          | exact Sel.tail (Sel.tail (Sel.tail (Sel.tail (Sel.tail (Sel.tail (Sel.tail Sel.head))))))
          | exact Sel.tail (Sel.tail (Sel.tail (Sel.tail (Sel.tail (Sel.tail (Sel.tail (Sel.tail Sel.head)))))))
          | exact Sel.tail (Sel.tail (Sel.tail (Sel.tail (Sel.tail (Sel.tail (Sel.tail (Sel.tail (Sel.tail Sel.head))))))))
          | exact Sel.tail (Sel.tail (Sel.tail (Sel.tail (Sel.tail (Sel.tail (Sel.tail (Sel.tail (Sel.tail (Sel.tail Sel.head)))))))))
          | exact Sel.tail (Sel.tail (Sel.tail (Sel.tail (Sel.tail (Sel.tail (Sel.tail (Sel.tail (Sel.tail (Sel.tail (Sel.tail Sel.head))))))))))
          | exact Sel.tail (Sel.tail (Sel.tail (Sel.tail (Sel.tail (Sel.tail (Sel.tail (Sel.tail (Sel.tail (Sel.tail (Sel.tail (Sel.tail Sel.head)))))))))))
          | exact Sel.tail (Sel.tail (Sel.tail (Sel.tail (Sel.tail (Sel.tail (Sel.tail (Sel.tail (Sel.tail (Sel.tail (Sel.tail (Sel.tail (Sel.tail Sel.head))))))))))))
          | exact Sel.tail (Sel.tail (Sel.tail (Sel.tail (Sel.tail (Sel.tail (Sel.tail (Sel.tail (Sel.tail (Sel.tail (Sel.tail (Sel.tail (Sel.tail (Sel.tail Sel.head)))))))))))))
          | exact Sel.tail (Sel.tail (Sel.tail (Sel.tail (Sel.tail (Sel.tail (Sel.tail (Sel.tail (Sel.tail (Sel.tail (Sel.tail (Sel.tail (Sel.tail (Sel.tail (Sel.tail Sel.head))))))))))))))
          | exact Sel.tail (Sel.tail (Sel.tail (Sel.tail (Sel.tail (Sel.tail (Sel.tail (Sel.tail (Sel.tail (Sel.tail (Sel.tail (Sel.tail (Sel.tail (Sel.tail (Sel.tail (Sel.tail Sel.head)))))))))))))))
          | exact Sel.tail (Sel.tail (Sel.tail (Sel.tail (Sel.tail (Sel.tail (Sel.tail (Sel.tail (Sel.tail (Sel.tail (Sel.tail (Sel.tail (Sel.tail (Sel.tail (Sel.tail (Sel.tail (Sel.tail Sel.head))))))))))))))))
          | exact Sel.tail (Sel.tail (Sel.tail (Sel.tail (Sel.tail (Sel.tail (Sel.tail (Sel.tail (Sel.tail (Sel.tail (Sel.tail (Sel.tail (Sel.tail (Sel.tail (Sel.tail (Sel.tail (Sel.tail (Sel.tail Sel.head)))))))))))))))))
          | exact Sel.tail (Sel.tail (Sel.tail (Sel.tail (Sel.tail (Sel.tail (Sel.tail (Sel.tail (Sel.tail (Sel.tail (Sel.tail (Sel.tail (Sel.tail (Sel.tail (Sel.tail (Sel.tail (Sel.tail (Sel.tail (Sel.tail Sel.head))))))))))))))))))
          | exact Sel.tail (Sel.tail (Sel.tail (Sel.tail (Sel.tail (Sel.tail (Sel.tail (Sel.tail (Sel.tail (Sel.tail (Sel.tail (Sel.tail (Sel.tail (Sel.tail (Sel.tail (Sel.tail (Sel.tail (Sel.tail (Sel.tail (Sel.tail Sel.head)))))))))))))))))))
          | exact Sel.tail (Sel.tail (Sel.tail (Sel.tail (Sel.tail (Sel.tail (Sel.tail (Sel.tail (Sel.tail (Sel.tail (Sel.tail (Sel.tail (Sel.tail (Sel.tail (Sel.tail (Sel.tail (Sel.tail (Sel.tail (Sel.tail (Sel.tail (Sel.tail Sel.head))))))))))))))))))))
          | exact Sel.tail (Sel.tail (Sel.tail (Sel.tail (Sel.tail (Sel.tail (Sel.tail (Sel.tail (Sel.tail (Sel.tail (Sel.tail (Sel.tail (Sel.tail (Sel.tail (Sel.tail (Sel.tail (Sel.tail (Sel.tail (Sel.tail (Sel.tail (Sel.tail (Sel.tail Sel.head))))))))))))))))))))))
      | apply PP.drop)
    all_goals fail) : Holds w M:=H.pp h
end Go.Rr
end
section
/- The walk's own form: what is known of the temporaries, as a list; code, region and operation by operation, over it. No program in sight. -/
namespace Go.Rr
set_option linter.unusedVariables false
abbrev Regs:=List (Nat × Value)
def look : Regs → Nat → Option Value
  | [], _=>none
  | (d,v)::r,t=>cond (Nat.beq t d) (some v) (look r t)
def subL : Regs → Regs → Prop
  | [], _=>True
  | (t,v)::r,l=>look l t = some v ∧ subL r l
structure Env (N : Nat) (a : Act) (l : Regs) : Prop where
  size : a.tmps.size = N
  get : ∀ t v,look l t = some v → a.tmps[t]? = some v
def ev (l : Regs) : Operand → Option Value
  | .tmp t=>look l t
  | .const v=>some v
  | .global g=>some (.pointer (some ⟨g,0,none⟩))
  | .func f=>some (.func (.func f) #[] #[])
def evs (l : Regs) : List Operand → Option (List Value)
  | [] => some []
  | x::xs=>match ev l x,evs l xs with
    | some v,some vs=>some (v::vs)
    | _,_=>none
theorem beq_false {a b : Nat} (h : a ≠ b) : Nat.beq a b = false:=by
  cases e : Nat.beq a b with
  | false=>rfl
  | true=>exact absurd (Nat.eq_of_beq_eq_true e) h
theorem look_cons (d : Nat) (v : Value) (r : Regs) (t : Nat) : look ((d,v)::r) t = if t = d then some v else look r t:=by
  show cond (Nat.beq t d) _ _ = _
  by_cases h : t = d
  · subst h; simp
  · rw [beq_false h,if_neg h]; rfl
theorem Env.eval {N : Nat} {a : Act} {l : Regs} (h : Env N a l) {x : Operand} {v : Value} (e : ev l x = some v) : a.eval x = v:=by
  cases x with
  | tmp t=>have:=h.get t v e; simp [Act.eval,this]
  | const c=>simpa [ev,Act.eval] using e
  | global g=>simpa [ev,Act.eval] using e
  | func f=>simpa [ev,Act.eval] using e
theorem Env.evals {N : Nat} {a : Act} {l : Regs} (h : Env N a l) : ∀ {xs : List Operand} {vs : List Value},evs l xs = some vs → xs.map a.eval = vs
  | [], vs,e=>by simpa [evs] using e
  | x :: xs,vs,e=>by
    simp only [evs] at e
    split at e
    · rename_i v vs' h1 h2
      cases e
      simp [h.eval h1,h.evals h2]
    · cases e
theorem Env.evalsA {N : Nat} {a : Act} {l : Regs} (h : Env N a l) {xs : Array Operand} {vs : List Value} (e : evs l xs.toList = some vs) : xs.map a.eval = vs.toArray:=by
  have:=h.evals e
  apply Array.ext'
  simpa using this
theorem Env.put {N : Nat} {a : Act} {l : Regs} (h : Env N a l) {d : Nat} (hd : d < N) (v : Value) : Env N (a.put (some d) v) ((d,v)::l) :=
  ⟨by simp [Act.put,h.size],fun t u e=>by
    rw [look_cons] at e
    by_cases ht : t = d
    · subst ht; rw [if_pos rfl] at e; cases e
      simp [Act.put,h.size,hd]
    · rw [if_neg ht] at e
      simp only [Act.put]
      rw [Array.getElem?_setIfInBounds_ne (Ne.symm ht)]; exact h.get t u e⟩
theorem Env.sub {N : Nat} {a : Act} {l l' : Regs} (h : Env N a l) (s : ∀ t v,look l' t = some v → look l t = some v) : Env N a l':=⟨h.size,fun t v e=>h.get t v (s t v e)⟩
theorem subL.spec : ∀ {l' l : Regs},subL l' l → ∀ t v,look l' t = some v → look l t = some v
  | [], _,_,t,v,e=>by cases e
  | (d,u)::r,l,h,t,v,e=>by
    rw [look_cons] at e
    by_cases ht : t = d
    · subst ht; rw [if_pos rfl] at e; cases e; exact h.1
    · rw [if_neg ht] at e; exact subL.spec h.2 t v e
def initRegs : Nat → List Value → Regs
  | _,[]=>[]
  | n,v::vs=>(n,v)::initRegs (n + 1) vs
theorem initRegs_spec : ∀ (vs : List Value) (n t : Nat) (v : Value),look (initRegs n vs) t = some v → n ≤ t ∧ vs[t - n]? = some v
  | [], n,t,v,e=>by cases e
  | u :: vs,n,t,v,e=>by
    simp only [initRegs] at e
    rw [look_cons] at e
    by_cases ht : t = n
    · subst ht; rw [if_pos rfl] at e; simp at e; subst e; simp
    · rw [if_neg ht] at e
      obtain ⟨h1,h2⟩:=initRegs_spec vs (n + 1) t v e
      refine ⟨by omega,?_⟩
      obtain ⟨k,rfl⟩ : ∃ k,t = n + 1 + k:=⟨t - (n + 1),by omega⟩
      rw [show n + 1 + k - n = k + 1 from by omega]
      rw [show n + 1 + k - (n + 1) = k from by omega] at h2
      simpa using h2
abbrev Q0:=Exit → Regs → List Deferred → World → Prop
def FW (ro : Option Nat) : Fence:={ fn:=fun _=>True,depth:=none,alive:=false,round:=ro }
def lift (N : Nat) (Q : Q0) : Exit → Act → World → Prop:=fun e a w=>∃ l,Env N a l ∧ Q e l a.defers w
/-- Code, from what is known of the temporaries. -/
def W (P : Program) (ro : Option Nat) (N : Nat) (c : Code) (Q : Q0) (l : Regs) (ds : List Deferred) (w : World) : Prop :=
  ∀ a,Env N a l → a.defers = ds → c.wpIn (FW ro) 0 P (lift N Q) a w
def thenQ (K : Regs → List Deferred → World → Prop) (Q : Q0) : Q0
  | .normal,l,ds,w=>K l ds w
  | .exit i,l,ds,w=>Q (.exit i) l ds w
  | .goto t,l,ds,w=>Q (.goto t) l ds w
  | .ret,l,ds,w=>Q .ret l ds w
  | .panic c,l,ds,w=>Q (.panic c) l ds w
  | .outgrown,l,ds,w=>Q .outgrown l ds w
def blockQ (id : Nat) (Q : Q0) : Q0
  | .exit i,l,ds,w=>cond (Nat.beq i id) (Q .normal l ds w) (Q (.exit i) l ds w)
  | .normal,l,ds,w=>Q .normal l ds w
  | .goto t,l,ds,w=>Q (.goto t) l ds w
  | .ret,l,ds,w=>Q .ret l ds w
  | .panic c,l,ds,w=>Q (.panic c) l ds w
  | .outgrown,l,ds,w=>Q .outgrown l ds w
section rules
variable {P : Program} {ro : Option Nat} {N : Nat} {Q : Q0} {l : Regs} {ds : List Deferred} {w : World}
theorem W.mono {c : Code} {Q' : Q0} (h : W P ro N c Q l ds w) (hq : ∀ e l ds w,Q e l ds w → Q' e l ds w) : W P ro N c Q' l ds w :=
  fun a ha hd=>wpIn_mono (h a ha hd) fun e a w ⟨l,h1,h2⟩=>⟨l,h1,hq _ _ _ _ h2⟩
theorem W.sub {c : Code} {l' : Regs} (s : subL l' l) (h : W P ro N c Q l' ds w) : W P ro N c Q l ds w:=fun a ha hd=>h a (ha.sub (subL.spec s)) hd
theorem W.skip (h : Q .normal l ds w) : W P ro N .skip Q l ds w:=fun a ha hd=>wpIn_skip ⟨l,ha,hd ▸ h⟩
theorem W.exit {id : Nat} (h : Q (.exit id) l ds w) : W P ro N (.exit id) Q l ds w:=fun a ha hd=>wpIn_exit ⟨l,ha,hd ▸ h⟩
theorem W.ret (h : Q .ret l ds w) : W P ro N .ret Q l ds w:=fun a ha hd=>wpIn_ret ⟨l,ha,hd ▸ h⟩
theorem W.seq {x y : Code} (h : ∀ K : Regs → List Deferred → World → Prop,(∀ l ds w,W P ro N y Q l ds w → K l ds w) → W P ro N x (thenQ K Q) l ds w) : W P ro N (.seq x y) Q l ds w :=
  fun a ha hd=>wpIn_seq (wpIn_mono (h (fun l ds w=>W P ro N y Q l ds w) (fun _ _ _ h=>h) a ha hd) fun e a w ⟨l,h1,h2⟩=>by
    cases e with
    | normal=>exact h2 a h1 rfl
    | _=>exact ⟨l,h1,h2⟩)
theorem W.cond_t {c : Operand} {x y : Code} (hc : ev l c = some (.bool true)) (h : W P ro N x Q l ds w) : W P ro N (.cond c x y) Q l ds w :=
  fun a ha hd=>wpIn_cond_true (ha.eval hc) (h a ha hd)
theorem W.cond_f {c : Operand} {x y : Code} (hc : ev l c = some (.bool false)) (h : W P ro N y Q l ds w) : W P ro N (.cond c x y) Q l ds w :=
  fun a ha hd=>wpIn_cond_false (ha.eval hc) (h a ha hd)
theorem W.cond_b {c : Operand} {x y : Code} {b : Bool} (hc : ev l c = some (.bool b)) (ht : b = true → W P ro N x Q l ds w) (hf : b = false → W P ro N y Q l ds w) : W P ro N (.cond c x y) Q l ds w :=
  fun a ha hd=>wpIn_cond_split (ha.eval hc) (fun h=>ht h a ha hd) (fun h=>hf h a ha hd)
theorem W.cond_p {c : Operand} {x y : Code} {φ : Prop} [Decidable φ] (hc : ev l c = some (.bool (decide φ))) (ht : φ → W P ro N x Q l ds w) (hf : ¬ φ → W P ro N y Q l ds w) : W P ro N (.cond c x y) Q l ds w :=
  W.cond_b hc (fun h=>ht (of_decide_eq_true h)) (fun h=>hf (of_decide_eq_false h))
theorem W.block {id : Nat} {c : Code} (h : W P ro N c (blockQ id Q) l ds w) : W P ro N (.block id c) Q l ds w :=
  fun a ha hd=>wpIn_block (wpIn_mono (h a ha hd) fun e a w ⟨l,h1,h2⟩=>by
    cases e with
    | exit i =>
      simp only [blockQ] at h2
      simp only [Exit.inBlock]
      by_cases hi : i = id
      · subst hi; simp at h2; simp; exact ⟨l,h1,h2⟩
      · rw [beq_false hi] at h2; simp [hi]; exact ⟨l,h1,h2⟩
    | _=>exact ⟨l,h1,h2⟩)
/-- A loop: 'regs s' what is known at the head, in state s. -/
theorem W.loop {σ : Type} {c : Code} (regs : σ → Regs) (inv : σ → List Deferred → World → Prop) (μ : σ → Nat) (s₀ : σ) (hr : subL (regs s₀) l) (hi : inv s₀ ds w)
    (round : ∀ s ds w,inv s ds w → W P ro N c (thenQ (fun l' ds' w'=>∃ s',subL (regs s') l' ∧ inv s' ds' w' ∧ μ s' < μ s) Q) (regs s) ds w) : W P ro N (.loop c) Q l ds w:=by
  intro a ha hd
  suffices h : ∀ n s,μ s = n → ∀ a ds w,Env N a (regs s) → a.defers = ds → inv s ds w → ∀ (b : Frame) (k : List Item) (cs : List Frame),b.roundOf = (FW ro).round → (FW ro).fn b.fn → (FW ro).room (cs.length + 1 + 0) →
      ∃ e a' w',lift N Q e a' w' ∧ ArrivesIn (Machine.fenced P (FW ro)) P (lone (b.atR a (.code c::.inLoop c::k)) cs w) b k cs e a' w' by
    intro b k cs hro hb hroom
    obtain ⟨e,a',w',hq,harr⟩:=h _ s₀ rfl a ds w (ha.sub (subL.spec hr)) hd hi b k cs hro hb hroom
    exact ⟨e,a',w',hq,.of_steps (.one (fenced_calm hb hroom rfl) stepR_loop) harr⟩
  intro n
  induction n using Nat.strongRecOn with
  | _ n ih =>
    intro s hs a ds w ha hd hi b k cs hro hb hroom
    obtain ⟨e,a₁,w₁,⟨l₁,he,hq⟩,harr⟩:=round s ds w hi a ha hd b (.inLoop c::k) cs hro hb hroom
    cases e with
    | normal =>
      obtain ⟨s',h1,h2,h3⟩:=hq
      obtain ⟨e₂,a₂,w₂,hq₂,harr₂⟩:=ih (μ s') (hs ▸ h3) s' rfl a₁ _ w₁ (he.sub (subL.spec h1)) rfl h2 b k cs hro hb hroom
      exact ⟨e₂,a₂,w₂,hq₂,.of_steps (StepsIn.trans harr (.one (fenced_calm hb hroom rfl) stepR_inLoop)) harr₂⟩
    | exit id=>exact ⟨_,a₁,w₁,⟨l₁,he,hq⟩,.pass (x:=.inLoop c) rfl (fun _ _=>.inl (by simp)) harr⟩
    | goto l=>exact ⟨_,a₁,w₁,⟨l₁,he,hq⟩,.pass (x:=.inLoop c) rfl (fun _ _=>.inl (by simp)) harr⟩
    | ret=>exact ⟨_,a₁,w₁,⟨l₁,he,hq⟩,.pass (x:=.inLoop c) rfl (fun _ _=>.inl (by simp)) harr⟩
    | panic ch=>exact ⟨_,a₁,w₁,⟨l₁,he,hq⟩,.pass (x:=.inLoop c) rfl (fun _ _=>.inl (by simp)) harr⟩
    | outgrown=>exact ⟨_,a₁,w₁,⟨l₁,he,hq⟩,.pass (x:=.inLoop c) rfl (fun _ _=>.inl (by simp)) harr⟩
end rules
/-! ### Regions: operation by operation -/
def opsIn (P : Program) (ro : Option Nat) (ops : Array Oper) (Q : Exit → Act → World → Prop) : List Oper → Act → World → Prop
  | [], a,w=>Q .normal a w
  | o::os,a,w=>if Region.wanted o (yielded ops a.tmps) then o.wpIn (FW ro) 0 P a w (opsIn P ro ops Q os) Q else opsIn P ro ops Q os (a.put o.dst undef) w
theorem opsIn_sound {P : Program} {ro : Option Nat} {ops : Array Oper} {Q : Exit → Act → World → Prop} : ∀ (is : List Nat) (os : List Oper),is.map (ops[·]?) = os.map some → ∀ a w,opsIn P ro ops Q os a w → wpOpsIn (FW ro) 0 P ops Q is a w
  | [], [], _,a,w,h=>h
  | i :: is, o::os,e,a,w,h=>by
    simp only [List.map_cons,List.cons.injEq] at e
    simp only [wpOpsIn,e.1]
    simp only [opsIn] at h
    split
    · rename_i hw
      rw [if_pos hw] at h
      refine ⟨fun _ _=>trivial,?_⟩
      have h2:=h.2
      generalize (o.semAt (FW ro).round a.eval).run P w = r at *
      cases r with
      | ok x w' =>
        cases x <;> simp only [Oper.uponIn] at h2 ⊢ <;>
          first
            | exact opsIn_sound is os e.2 _ _ h2
            | exact ⟨h2.1,h2.2.mono fun e' w'' he=>by cases e' <;> first|exact opsIn_sound is os e.2 _ _ he|exact he⟩
            | exact ⟨h2.1,RowsIn.mono h2.2 (fun _ _ he=>opsIn_sound is os e.2 _ _ he)⟩
      | halt x w'=>cases x <;> simp only [Oper.uponIn] at h2 ⊢ <;> exact h2
    · rename_i hw
      rw [if_neg hw] at h
      exact ⟨fun _ _=>trivial,opsIn_sound is os e.2 _ _ h⟩
  | [], _::_,e,_,_,_=>by simp at e
  | _::_,[],e,_,_,_=>by simp at e
def O (P : Program) (ro : Option Nat) (N : Nat) (ops : Array Oper) (os : List Oper) (Q : Q0) (l : Regs) (ds : List Deferred) (w : World) : Prop :=
  ∀ a,Env N a l → a.defers = ds → opsIn P ro ops (lift N Q) os a w
section
variable {P : Program} {ro : Option Nat} {N : Nat} {Q : Q0} {l : Regs} {ds : List Deferred} {w : World} {ops : Array Oper} {os : List Oper}
theorem W.region {id : Nat} {ops : Array Oper} (h : O P ro N ops ops.toList Q l ds w) : W P ro N (.region id ops false) Q l ds w:=fun a ha hd =>
  wpIn_region (opsIn_sound _ _ (by
    apply List.ext_getElem?
    intro i
    rcases Nat.lt_or_ge i ops.size with h|h
    · simp [h]
    · simp [h]) a w (h a ha hd))
theorem O.nil (h : Q .normal l ds w) : O P ro N ops [] Q l ds w:=fun a ha hd=>⟨l,ha,hd ▸ h⟩
theorem O.thenNil {K : Regs → List Deferred → World → Prop} (h : K l ds w) : O P ro N ops [] (thenQ K Q) l ds w:=O.nil (Q:=thenQ K Q) h
theorem O.sub {l' : Regs} (s : subL l' l) (h : O P ro N ops os Q l' ds w) : O P ro N ops os Q l ds w:=fun a ha hd=>h a (ha.sub (subL.spec s)) hd
theorem O.cons {dst : Option Tmp} {op : Op} {ty : TypeId} {pos : String} {af : Array Edge} (hnd : ∀ c,op ≠ .defer c)
    (h : ∀ a,Env N a l → a.defers = ds → Oper.uponIn (FW ro) 0 P ⟨dst,op,ty,pos,af,none⟩ a (opsIn P ro ops (lift N Q) os) (lift N Q) ((execOp a.eval ⟨dst,op,ty,pos,af,none⟩).run P w)) :
    O P ro N ops (⟨dst,op,ty,pos,af,none⟩::os) Q l ds w:=fun a ha hd=>by
  simp only [opsIn,Region.wanted,if_true]
  refine ⟨fun _ _=>trivial,?_⟩
  rw [Oper.semAt_eq _ _ _ hnd]
  exact h a ha hd
/-- An operation that comes to a value. -/
theorem O.val {d : Tmp} {op : Op} {ty : TypeId} {pos : String} {af : Array Edge} {v : Value} {w' : World} (hnd : ∀ c,op ≠ .defer c) (hd : d < N)
    (hx : ∀ a,Env N a l → (execOp a.eval ⟨some d,op,ty,pos,af,none⟩).run P w = .ok (.value v) w') (h : O P ro N ops os Q ((d,v)::l) ds w') :
    O P ro N ops (⟨some d,op,ty,pos,af,none⟩::os) Q l ds w :=
  O.cons hnd fun a ha hds=>by rw [hx a ha]; exact h _ (ha.put hd v) hds
theorem O.val0 {op : Op} {ty : TypeId} {pos : String} {af : Array Edge} {v : Value} {w' : World} (hnd : ∀ c,op ≠ .defer c)
    (hx : ∀ a,Env N a l → (execOp a.eval ⟨none,op,ty,pos,af,none⟩).run P w = .ok (.value v) w') (h : O P ro N ops os Q l ds w') :
    O P ro N ops (⟨none,op,ty,pos,af,none⟩::os) Q l ds w :=
  O.cons hnd fun a ha hds=>by rw [hx a ha]; exact h _ ha hds
theorem O.unit0 {op : Op} {ty : TypeId} {pos : String} {af : Array Edge} {w' : World} (hnd : ∀ c,op ≠ .defer c)
    (hx : ∀ a,Env N a l → (execOp a.eval ⟨none,op,ty,pos,af,none⟩).run P w = .ok .skip w') (h : O P ro N ops os Q l ds w') :
    O P ro N ops (⟨none,op,ty,pos,af,none⟩::os) Q l ds w :=
  O.cons hnd fun a ha hds=>by rw [hx a ha]; exact h _ ha hds
theorem O.call {dst : Option Tmp} {op : Op} {ty : TypeId} {pos : String} {af : Array Edge} {f : FuncId} {args : Array Value} {w' : World} (hnd : ∀ c,op ≠ .defer c)
    (hx : ∀ a,Env N a l → (execOp a.eval ⟨dst,op,ty,pos,af,none⟩).run P w = .ok (.enter f args) w')
    (h : CallsIn Fence.wide 0 P f args w' fun e w''=>∃ v,e = .returned v ∧ ∀ a,Env N a l → a.defers = ds → opsIn P ro ops (lift N Q) os (a.put dst v) w'') :
    O P ro N ops (⟨dst,op,ty,pos,af,none⟩::os) Q l ds w :=
  O.cons hnd fun a ha hds=>by
    rw [hx a ha]
    refine ⟨fun h=>(by cases h),?_⟩
    have h' : CallsIn (FW ro) (0 - 1) P f args w' fun e w''=>∃ v,e = .returned v ∧ ∀ a,Env N a l → a.defers = ds → opsIn P ro ops (lift N Q) os (a.put dst v) w'':=by
      cases ro with
      | none=>exact h
      | some r=>exact h
    refine h'.mono fun e w'' he=>?_
    obtain ⟨v,rfl,hk⟩:=he
    exact hk a ha hds
theorem Env.yielded {a : Act} {l : Regs} {N : Nat} (h : Env N a l) {j t : Nat} {b : Bool} (hj : (ops[j]?).bind (·.dst) = some t) (hl : look l t = some (.bool b)) : yielded ops a.tmps j = some b:=by
  have:=h.get _ _ hl
  unfold Go.yielded
  rw [hj]
  simp [this]
theorem O.guard_t {j t : Nat} {b : Bool} {dst : Option Tmp} {op : Op} {ty : TypeId} {pos : String} {af : Array Edge} (hj : (ops[j]?).bind (·.dst) = some t) (hl : look l t = some (.bool b))
    (h : O P ro N ops (⟨dst,op,ty,pos,af,none⟩::os) Q l ds w) : O P ro N ops (⟨dst,op,ty,pos,af,some (j,b)⟩::os) Q l ds w:=fun a ha hd=>by
  have hy:=ha.yielded (ops:=ops) hj hl
  have:=h a ha hd
  simp only [opsIn,Region.wanted,hy,beq_self_eq_true,if_true] at this ⊢
  exact this
theorem O.guard_f {j t : Nat} {b b' : Bool} {d : Tmp} {op : Op} {ty : TypeId} {pos : String} {af : Array Edge} (hj : (ops[j]?).bind (·.dst) = some t) (hl : look l t = some (.bool b')) (hd : Nat.blt d N = true) (hb : (b' == b) = false)
    (h : O P ro N ops os Q ((d,undef)::l) ds w) : O P ro N ops (⟨some d,op,ty,pos,af,some (j,b)⟩::os) Q l ds w:=fun a ha hds=>by
  have hy:=ha.yielded (ops:=ops) hj hl
  have hne : b' ≠ b:=by intro e; subst e; simp at hb
  simp only [opsIn,Region.wanted,hy]
  rw [if_neg (by simpa using hne)]
  exact h _ (ha.put (by simpa using hd) _) hds
theorem look_same {t : Nat} {v : Value} (hl : look l t = some v) : ∀ u x,look ((t,v)::l) u = some x → look l u = some x:=fun u x e=>by
  rw [look_cons] at e
  by_cases h : u = t
  · subst h; rw [if_pos rfl] at e; cases e; exact hl
  · rw [if_neg h] at e; exact e
theorem O.split {t : Nat} {b : Bool} (hl : look l t = some (.bool b)) (ht : b = true → O P ro N ops os Q ((t,.bool true)::l) ds w) (hf : b = false → O P ro N ops os Q ((t,.bool false)::l) ds w) : O P ro N ops os Q l ds w:=fun a ha hd=>by
  cases b with
  | true=>exact ht rfl a (ha.sub (look_same hl)) hd
  | false=>exact hf rfl a (ha.sub (look_same hl)) hd
theorem O.split_p {t : Nat} {φ : Prop} [Decidable φ] (hl : look l t = some (.bool (decide φ))) (ht : φ → O P ro N ops os Q ((t,.bool true)::l) ds w) (hf : ¬ φ → O P ro N ops os Q ((t,.bool false)::l) ds w) : O P ro N ops os Q l ds w :=
  O.split hl (fun h=>ht (of_decide_eq_true h)) (fun h=>hf (of_decide_eq_false h))
theorem O.known {t : Nat} {b c : Bool} (hl : look l t = some (.bool b)) (hb : b = c) (h : O P ro N ops os Q ((t,.bool c)::l) ds w) : O P ro N ops os Q l ds w:=by
  subst hb; exact fun a ha hd=>h a (ha.sub (look_same hl)) hd
theorem W.known_t {c : Operand} {x y : Code} {b : Bool} (hc : ev l c = some (.bool b)) (hb : b = true) (h : W P ro N x Q l ds w) : W P ro N (.cond c x y) Q l ds w:=by
  subst hb; exact W.cond_t hc h
theorem W.known_f {c : Operand} {x y : Code} {b : Bool} (hc : ev l c = some (.bool b)) (hb : b = false) (h : W P ro N y Q l ds w) : W P ro N (.cond c x y) Q l ds w:=by
  subst hb; exact W.cond_f hc h
end
end Go.Rr
end
section
/- One rule for each kind of operation. No program in sight. -/
namespace Go.Rr
set_option linter.unusedVariables false
/-- What an operation comes to, in whatever activation that fits what is known, in this world. -/
def Ex (P : Program) (N : Nat) (l : Regs) (op : Op) (ty : TypeId) (w : World) (v : Value) (w' : World) : Prop :=
  (∀ c,op ≠ .defer c) ∧ ∀ dst pos af a,Env N a l → (execOp a.eval ⟨dst,op,ty,pos,af,none⟩).run P w = .ok (.value v) w'
def SizeIs (P : Program) (t n : Nat) : Prop:=∀ w,(sizeOf t).run P w = .ok n w
def AggIs (P : Program) (t : Nat) (b : Bool) : Prop:=∀ w,(isAgg t).run P w = .ok b w
def ZeroIs (P : Program) (t : Nat) (v : Value) : Prop:=∀ w,(zeroValue t).run P w = .ok v w
def UndIs (P : Program) (t : Nat) (d : TypeDesc) : Prop:=∀ w,(underlying t).run P w = .ok d w
def InfoIs (P : Program) (t : Nat) (i : TypeInfo) : Prop:=∀ w,(typeInfo t).run P w = .ok i w
def FieldIs (P : Program) (s f n : Nat) : Prop:=∀ (w : World) (b off : Nat),(Instr.fieldAt s (.pointer (some ⟨b,off,none⟩)) f).run P w = .ok (.pointer (some ⟨b,off + n,none⟩)) w
def BuildIs (P : Program) (t : Nat) (parts : List (Nat × Value)) (v : Value) : Prop:=∀ w,(Instr.build t parts.toArray).run P w = .ok v w
theorem add_off (b off n : Nat) : (Addr.mk b off none).add n = ⟨b,off + n,none⟩:=by
  unfold Addr.add; split
  · rename_i h; subst h; rfl
  · rfl
theorem FieldIs.mk {P : Program} {s f n sz : Nat} {fields : Array Field} {fld : Field} (hu : UndIs P s (.struct fields)) (hf : fields[f]? = some fld) (hs : SizeIs P fld.type sz) (hz : (sz == 0) = false) (hn : fld.offset = n) : FieldIs P s f n:=by
  intro w b off
  have hz' : sz ≠ 0:=by simpa using hz
  unfold Instr.fieldAt
  simp [hu w,hf,Instr.sureAddr,fieldPlace,hs w,hz',add_off,hn]
section
variable {P : Program} {ro : Option Nat} {N : Nat} {Q : Q0} {l : Regs} {ds : List Deferred} {w w' : World} {ops : Array Oper} {os : List Oper}
variable {d : Tmp} {ty : TypeId} {pos : String} {af : Array Edge}
theorem O.ex {op : Op} {v : Value} (hx : Ex P N l op ty w v w') (hd : Nat.blt d N = true) (h : O P ro N ops os Q ((d,v)::l) ds w') : O P ro N ops (⟨some d,op,ty,pos,af,none⟩::os) Q l ds w :=
  O.val hx.1 (by simpa using hd) (fun a ha=>hx.2 _ _ _ a ha) h
theorem O.ex0 {op : Op} {v : Value} (hx : Ex P N l op ty w v w') (h : O P ro N ops os Q l ds w') : O P ro N ops (⟨none,op,ty,pos,af,none⟩::os) Q l ds w :=
  O.val0 hx.1 (fun a ha=>hx.2 _ _ _ a ha) h
theorem Ex.move {x : Operand} {v : Value} (e : ev l x = some v) : Ex P N l (.move x) ty w v w :=
  ⟨nofun,fun _ _ _ a ha=>by simp [execOp,ha.eval e]⟩
theorem Ex.assign {x : Operand} {v : Value} (e : ev l x = some v) : Ex P N l (.assign x) ty w v w :=
  ⟨nofun,fun _ _ _ a ha=>by simp [execOp,ha.eval e]⟩
theorem Ex.pick_t {c x y : Operand} {v : Value} (ec : ev l c = some (.bool true)) (e : ev l x = some v) : Ex P N l (.pick c x y) ty w v w :=
  ⟨nofun,fun _ _ _ a ha=>by simp [execOp,ha.eval e,ha.eval ec,asBool]⟩
theorem Ex.pick_f {c x y : Operand} {v : Value} (ec : ev l c = some (.bool false)) (e : ev l y = some v) : Ex P N l (.pick c x y) ty w v w :=
  ⟨nofun,fun _ _ _ a ha=>by simp [execOp,ha.eval e,ha.eval ec,asBool]⟩
theorem Ex.nilPtr {x : Operand} {p : Addr} (e : ev l x = some (.pointer (some p))) : Ex P N l (.nilCheck x) ty w (.pointer (some p)) w :=
  ⟨nofun,fun _ _ _ a ha=>by simp [execOp,ha.eval e]⟩
theorem Ex.nilFunc {x : Operand} {f : FuncId} {p q : Array Value} (e : ev l x = some (.func (.func f) p q)) : Ex P N l (.nilCheck x) ty w (.func (.func f) p q) w :=
  ⟨nofun,fun _ _ _ a ha=>by simp [execOp,ha.eval e]⟩
theorem Ex.nilYield {x : Operand} {f : Nat} {p q : Array Value} (e : ev l x = some (.func (.yield f) p q)) : Ex P N l (.nilCheck x) ty w (.func (.yield f) p q) w :=
  ⟨nofun,fun _ _ _ a ha=>by simp [execOp,ha.eval e]⟩
theorem Ex.makeFunc {fn : Fn} {p q : Array Operand} {ps qs : List Value} (e1 : evs l p.toList = some ps) (e2 : evs l q.toList = some qs) : Ex P N l (.makeFunc fn p q) ty w (.func fn ps.toArray qs.toArray) w :=
  ⟨nofun,fun _ _ _ a ha=>by simp [execOp,Instr.makeFunc,ha.evalsA e1,ha.evalsA e2]⟩
theorem Ex.extract {x : Operand} {i : Nat} {vs : Array Value} {v : Value} (e : ev l x = some (.tuple vs)) (hv : vs[i]? = some v) : Ex P N l (.extract x i) ty w v w :=
  ⟨nofun,fun _ _ _ a ha=>by simp [execOp,Instr.extract,ha.eval e,hv]⟩
/-! ### Numbers, truth values, texts -/
variable {x y : Operand} {k : IntKind} {m n r : Int} {t yt : TypeId} {b c : Bool}
theorem eqGuard_int {op : BinOp} {x y : Operand} : (eqGuard op t x y (.int k m) (.int k n)).run P w = .ok () w:=by
  cases op <;> simp [eqGuard]
theorem Ex.add (e1 : ev l x = some (.int k m)) (e2 : ev l y = some (.int k n)) (hr : k.wrap (m + n) = r) : Ex P N l (.binOp .add t x y yt) ty w (.int k r) w :=
  ⟨nofun,fun _ _ _ a ha=>by simp [execOp,ha.eval e1,ha.eval e2,eqGuard_int,binOp,Op.intArith,hr]⟩
theorem Ex.sub (e1 : ev l x = some (.int k m)) (e2 : ev l y = some (.int k n)) (hr : k.wrap (m - n) = r) : Ex P N l (.binOp .sub t x y yt) ty w (.int k r) w :=
  ⟨nofun,fun _ _ _ a ha=>by simp [execOp,ha.eval e1,ha.eval e2,eqGuard_int,binOp,Op.intArith,hr]⟩
theorem Ex.mul (e1 : ev l x = some (.int k m)) (e2 : ev l y = some (.int k n)) (hr : k.wrap (m * n) = r) : Ex P N l (.binOp .mul t x y yt) ty w (.int k r) w :=
  ⟨nofun,fun _ _ _ a ha=>by simp [execOp,ha.eval e1,ha.eval e2,eqGuard_int,binOp,Op.intArith,hr]⟩
theorem Ex.quo (e1 : ev l x = some (.int k m)) (e2 : ev l y = some (.int k n)) (hn : n ≠ 0) (hr : k.wrap (m.tdiv n) = r) : Ex P N l (.binOp .quo t x y yt) ty w (.int k r) w :=
  ⟨nofun,fun _ _ _ a ha=>by simp [execOp,ha.eval e1,ha.eval e2,eqGuard_int,binOp,Op.intDiv,hn,hr]⟩
theorem Ex.rem (e1 : ev l x = some (.int k m)) (e2 : ev l y = some (.int k n)) (hn : n ≠ 0) (hr : m.tmod n = r) : Ex P N l (.binOp .rem t x y yt) ty w (.int k r) w :=
  ⟨nofun,fun _ _ _ a ha=>by simp [execOp,ha.eval e1,ha.eval e2,eqGuard_int,binOp,Op.intDiv,hn,hr]⟩
theorem Ex.lss (e1 : ev l x = some (.int k m)) (e2 : ev l y = some (.int k n)) : Ex P N l (.binOp .lss t x y yt) ty w (.bool (decide (m < n))) w :=
  ⟨nofun,fun _ _ _ a ha=>by simp [execOp,ha.eval e1,ha.eval e2,eqGuard_int,binOp,Op.intCmp]⟩
theorem Ex.leq (e1 : ev l x = some (.int k m)) (e2 : ev l y = some (.int k n)) : Ex P N l (.binOp .leq t x y yt) ty w (.bool (decide (m ≤ n))) w :=
  ⟨nofun,fun _ _ _ a ha=>by simp [execOp,ha.eval e1,ha.eval e2,eqGuard_int,binOp,Op.intCmp]⟩
theorem Ex.gtr (e1 : ev l x = some (.int k m)) (e2 : ev l y = some (.int k n)) : Ex P N l (.binOp .gtr t x y yt) ty w (.bool (decide (n < m))) w :=
  ⟨nofun,fun _ _ _ a ha=>by simp [execOp,ha.eval e1,ha.eval e2,eqGuard_int,binOp,Op.intCmp]⟩
theorem Ex.geq (e1 : ev l x = some (.int k m)) (e2 : ev l y = some (.int k n)) : Ex P N l (.binOp .geq t x y yt) ty w (.bool (decide (n ≤ m))) w :=
  ⟨nofun,fun _ _ _ a ha=>by simp [execOp,ha.eval e1,ha.eval e2,eqGuard_int,binOp,Op.intCmp]⟩
theorem Ex.eqlI (e1 : ev l x = some (.int k m)) (e2 : ev l y = some (.int k n)) : Ex P N l (.binOp .eql t x y yt) ty w (.bool (decide (m = n))) w :=
  ⟨nofun,fun _ _ _ a ha=>by simp [execOp,ha.eval e1,ha.eval e2,eqGuard_int,binOp,Op.intCmp]; rfl⟩
theorem int_bne (m n : Int) : (!(m == n)) = !decide (m = n):=rfl
theorem Ex.neqI (e1 : ev l x = some (.int k m)) (e2 : ev l y = some (.int k n)) : Ex P N l (.binOp .neq t x y yt) ty w (.bool (decide (m ≠ n))) w :=
  ⟨nofun,fun _ _ _ a ha=>by simp [execOp,ha.eval e1,ha.eval e2,eqGuard_int,binOp,Op.intCmp]; rw [bne,int_bne m n]⟩
theorem equal_eq (t : TypeId) (x y : Value) : Op.equal t x y = Op.equalIn (9999 + 1) t x y:=rfl
theorem equalIn_bool {dp : Nat} (hu : UndIs P t .bool) : (Op.equalIn (dp + 1) t (.bool b) (.bool c)).run P w = .ok (b == c) w:=by
  simp [Op.equalIn,hu w]
theorem equalIn_nil {dp : Nat} {p : Option Addr} {e : TypeId} (hu : UndIs P t (.pointer e)) : (Op.equalIn (dp + 1) t (.pointer p) (.pointer none)).run P w = .ok p.isNone w:=by
  cases p <;> simp [Op.equalIn,hu w]
theorem binOp_eql {u v : Value} {r : Bool} (hx : ∀ k a,u ≠ .int k a) (h1 : ∀ k a,u ≠ .float k a) (h2 : ∀ k a b,u ≠ .complex k a b) (h3 : ∀ s,u ≠ .string s) (h : (Op.equal t u v).run P w = .ok r w) : (binOp .eql t u v).run P w = .ok (.bool r) w:=by
  cases u <;> first|exact absurd rfl (hx _ _)|exact absurd rfl (h1 _ _)|exact absurd rfl (h2 _ _ _)|exact absurd rfl (h3 _)|(show ((do pure (.bool (← Op.equal t _ v)) : Sem Value)).run P w = _; simp only [Sem.run_bind,h,Result.andThen_ok,Sem.run_pure])
theorem eqGuard_plain {op : BinOp} {x y : Operand} {u v : Value} (h1 : u ≠ .nilIface) (h2 : ∀ cs,u ≠ .agg cs) : (eqGuard op t x y u v).run P w = .ok () w:=by
  cases op <;> cases u <;> first|exact absurd rfl h1|exact absurd rfl (h2 _)|rfl
theorem Ex.eql {u v : Value} {r : Bool} (e1 : ev l x = some u) (e2 : ev l y = some v) (hg : (eqGuard .eql t x y u v).run P w = .ok () w) (h : (binOp .eql t u v).run P w = .ok (.bool r) w) : Ex P N l (.binOp .eql t x y yt) ty w (.bool r) w :=
  ⟨nofun,fun _ _ _ a ha=>by simp only [execOp,ha.eval e1,ha.eval e2,Sem.run_bind,hg,h,Result.andThen_ok,Sem.run_pure]⟩
theorem Ex.neq {u v : Value} {r : Bool} (e1 : ev l x = some u) (e2 : ev l y = some v) (hg : (eqGuard .neq t x y u v).run P w = .ok () w) (h : (binOp .neq t u v).run P w = .ok (.bool r) w) : Ex P N l (.binOp .neq t x y yt) ty w (.bool r) w :=
  ⟨nofun,fun _ _ _ a ha=>by simp only [execOp,ha.eval e1,ha.eval e2,Sem.run_bind,hg,h,Result.andThen_ok,Sem.run_pure]⟩
theorem beq_dec (b c : Bool) : (b == c) = decide (b = c):=by cases b <;> cases c <;> rfl
theorem Ex.eqlB (hu : UndIs P t .bool) (e1 : ev l x = some (.bool b)) (e2 : ev l y = some (.bool c)) : Ex P N l (.binOp .eql t x y yt) ty w (.bool (decide (b = c))) w:=by
  rw [← beq_dec]; exact Ex.eql e1 e2 (eqGuard_plain nofun nofun) (binOp_eql nofun nofun nofun nofun (by rw [equal_eq]; exact equalIn_bool hu))
theorem str_beq (s u : ByteArray) : (s.toList == u.toList) = decide (s = u):=by
  rw [ByteArray.toList_eq,ByteArray.toList_eq,Bool.eq_iff_iff]
  simp only [beq_iff_eq,decide_eq_true_eq]
  constructor
  · intro h; cases s; cases u; simp at h; simp [h]
  · rintro rfl; rfl
theorem Ex.nilEq {p : Option Addr} {e : TypeId} (hu : UndIs P t (.pointer e)) (e1 : ev l x = some (.pointer p)) (e2 : ev l y = some (.pointer none)) : Ex P N l (.binOp .eql t x y yt) ty w (.bool p.isNone) w :=
  Ex.eql e1 e2 (eqGuard_plain nofun nofun) (binOp_eql nofun nofun nofun nofun (by rw [equal_eq]; exact equalIn_nil hu))
theorem Ex.not (e1 : ev l x = some (.bool b)) : Ex P N l (.unOp .not t x) ty w (.bool (!b)) w :=
  ⟨nofun,fun _ _ _ a ha=>by simp [execOp,ha.eval e1,Op.unary]⟩
theorem Ex.notP {φ : Prop} [Decidable φ] (e1 : ev l x = some (.bool (decide φ))) : Ex P N l (.unOp .not t x) ty w (.bool (decide (¬ φ))) w :=
  ⟨nofun,fun _ _ _ a ha=>by simp [execOp,ha.eval e1,Op.unary]⟩
theorem Ex.convI {s dt : TypeId} {k' : IntKind} {sd : TypeDesc} (hs : UndIs P s sd) (hu : UndIs P dt (.int k')) (e1 : ev l x = some (.int k m)) (hr : k'.wrap m = r) : Ex P N l (.convert s dt x) ty w (.int k' r) w :=
  ⟨nofun,fun _ _ _ a ha=>by simp [execOp,ha.eval e1,convert,hs w,hu w,Conv.intToInt,hr]⟩
/-! ### Memory -/
theorem Ex.field {s f n bl off : Nat} (hf : FieldIs P s f n) (e1 : ev l x = some (.pointer (some ⟨bl,off,none⟩))) : Ex P N l (.fieldAddr s x f) ty w (.pointer (some ⟨bl,off + n,none⟩)) w :=
  ⟨nofun,fun _ _ _ a ha=>by simp [execOp,ha.eval e1,hf w bl off]⟩
theorem Ex.field0 {s f n bl : Nat} (hf : FieldIs P s f n) (e1 : ev l x = some (.pointer (some ⟨bl,0,none⟩))) : Ex P N l (.fieldAddr s x f) ty w (.pointer (some ⟨bl,n,none⟩)) w:=by
  have:=Ex.field (w:=w) (ty:=ty) (N:=N) hf e1
  rwa [Nat.zero_add] at this
theorem Ex.load {p : Addr} {v : Value} (ht : AggIs P t false) (e1 : ev l x = some (.pointer (some p))) (hc : w.cell? p = some v) : Ex P N l (.load t x) ty w v w :=
  ⟨nofun,fun _ _ _ a ha=>by simp [execOp,ha.eval e1,Instr.loadAt,Instr.sureAddr,loadVar,ht w,hc]⟩
theorem loadCellsFrom_run {p : Addr} {c : Array Value} : ∀ (n i : Nat) (acc : Array Value),(∀ j,i ≤ j → j < i + n → w.cell? (p.add j) = c[j]? ∧ j < c.size) → (loadCellsFrom p i n acc).run P w = .ok (acc ++ c.extract i (i + n)) w
  | 0,i,acc,h=>by simp [loadCellsFrom]; exact Nat.min_le_left ..
  | n + 1,i,acc,h=>by
    obtain ⟨h1,h2⟩:=h i (Nat.le_refl _) (by omega)
    have hg : c[i]? = some c[i]:=Array.getElem?_eq_getElem h2
    rw [hg] at h1
    simp only [loadCellsFrom,Sem.run_bind,run_load,h1,Result.andThen_ok]
    rw [loadCellsFrom_run n (i + 1) _ (fun j hj hj'=>h j (by omega) (by omega))]
    congr 1
    apply Array.ext'
    simp only [Array.toList_append,Array.toList_push,Array.toList_extract,List.append_assoc]
    congr 1
    rw [show i + 1 + n = i + (n + 1) from by omega]
    simp only [List.extract_eq_take_drop]
    have hd : c.toList.drop i = c[i]::c.toList.drop (i + 1):=by
      rw [List.drop_eq_getElem_cons (by simpa using h2)]; rfl
    rw [hd,show i + (n + 1) - i = n + 1 from by omega,show i + (n + 1) - (i + 1) = n from by omega]
    simp
theorem Ex.loadAgg {p : Addr} {c : Array Value} (ht : AggIs P t true) (hs : SizeIs P t c.size) (e1 : ev l x = some (.pointer (some p))) (hc : ∀ i,i < c.size → w.cell? (p.add i) = c[i]?) : Ex P N l (.load t x) ty w (.agg c) w :=
  ⟨nofun,fun _ _ _ a ha=>by
    simp [execOp,ha.eval e1,Instr.loadAt,Instr.sureAddr,loadVar,ht w,hs w,loadCells]
    rw [loadCellsFrom_run (c:=c) _ _ _ (fun j _ hj=>⟨hc j (by omega),by omega⟩)]
    simp⟩
def putAt (c : Array Value) (off : Nat) : List Value → Array Value
  | [] => c
  | v::vs=>putAt (c.setIfInBounds off v) (off + 1) vs
theorem putAt_size : ∀ (vs : List Value) (c : Array Value) (off : Nat),(putAt c off vs).size = c.size
  | [], _,_=>rfl
  | v::vs,c,off=>by rw [putAt,putAt_size vs]; simp
theorem storeCells_run {L : List HProp} {bl : Nat} {T : TypeId} : ∀ (vs : List Value) (off i : Nat) (c : Array Value) (w : World),(∀ v ∈ vs,v.oneCell' = true) → Holds w (pt bl (.cells c T (0,0))::L) → off + i + vs.length ≤ c.size →
    ∃ w',(storeCells ⟨bl,off,none⟩ vs i).run P w = .ok () w' ∧ Holds w' (pt bl (.cells (putAt c (off + i) vs) T (0,0))::L)
  | [], off,i,c,w,_,H,_=>⟨w,rfl,H⟩
  | v::vs,off,i,c,w,hv,H,hl=>by
    simp only [List.length_cons] at hl
    have hc : w.cell? ⟨bl,off + i,none⟩ = some c[off + i]:=H.cell (Array.getElem?_eq_getElem (by omega))
    obtain ⟨w',h1,h2⟩:=storeCells_run vs off (i + 1) (c.setIfInBounds (off + i) v) (w.setCell ⟨bl,off + i,none⟩ v) (fun u hu=>hv u (List.mem_cons_of_mem _ hu)) (H.setCell v) (by simp; omega)
    refine ⟨w',?_,h2⟩
    simp only [storeCells,Sem.run_bind,add_off]
    rw [run_store P w _ v .plain (hv v (List.mem_cons_self ..))]
    simp only [hc,H.frozen]
    exact h1
theorem O.store {L : List HProp} {bl off : Nat} {c : Array Value} {T : TypeId} {v : Value} (hs : SizeIs P t 1) (e1 : ev l x = some (.pointer (some ⟨bl,off,none⟩))) (e2 : ev l y = some v) (hv : v.oneCell' = true)
    (H : Holds w (pt bl (.cells c T (0,0))::L)) (ho : off < c.size) (h : ∀ w',Holds w' (pt bl (.cells (c.setIfInBounds off v) T (0,0))::L) → O P ro N ops os Q l ds w') :
    O P ro N ops (⟨none,.store t x y,ty,pos,af,none⟩::os) Q l ds w:=by
  obtain ⟨w',h1,h2⟩:=storeCells_run (P:=P) [v] off 0 c w (by simpa using hv) H (by simp; omega)
  refine O.unit0 nofun (fun a ha=>?_) (h w' h2)
  have hcs : v.cells = #[v]:=by cases v <;> simp_all [Value.cells,Value.oneCell']
  simp [execOp,ha.eval e1,ha.eval e2,Instr.storeAt,Instr.sureAddr,storeVar,hs w,hcs,h1]
theorem O.storeAgg {L : List HProp} {bl off n : Nat} {c vs : Array Value} {T : TypeId} (hs : SizeIs P t n) (hn : vs.size = n) (e1 : ev l x = some (.pointer (some ⟨bl,off,none⟩))) (e2 : ev l y = some (.agg vs)) (hv : ∀ v ∈ vs.toList,v.oneCell' = true)
    (H : Holds w (pt bl (.cells c T (0,0))::L)) (ho : off + n ≤ c.size) (h : ∀ w',Holds w' (pt bl (.cells (putAt c off vs.toList) T (0,0))::L) → O P ro N ops os Q l ds w') :
    O P ro N ops (⟨none,.store t x y,ty,pos,af,none⟩::os) Q l ds w:=by
  obtain ⟨w',h1,h2⟩:=storeCells_run (P:=P) vs.toList off 0 c w hv H (by simp; omega)
  refine O.unit0 nofun (fun a ha=>?_) (h w' h2)
  simp [execOp,ha.eval e1,ha.eval e2,Instr.storeAt,Instr.sureAddr,storeVar,hs w,Value.cells,hn,h1]
theorem O.alloc {L : List HProp} {z : Value} {e : TypeId} (hz : ZeroIs P e z) (hd : Nat.blt d N = true) (H : Holds w L) (h : ∀ bl w',Holds w' (pt bl (.cells z.cells e (0,0))::L) → O P ro N ops os Q ((d,.pointer (some ⟨bl,0,none⟩))::l) ds w') :
    O P ro N ops (⟨some d,.alloc e,ty,pos,af,none⟩::os) Q l ds w :=
  O.val nofun (by simpa using hd) (fun a ha=>by simp [execOp,Instr.alloc,hz w,newVar,newRow]) (h _ _ (H.alloc _))
theorem O.box {L : List HProp} {v : Value} {e : TypeId} (e1 : ev l x = some v) (hd : Nat.blt d N = true) (H : Holds w L) (h : ∀ bl w',Holds w' (pt bl (.cells v.cells e (0,0))::L) → O P ro N ops os Q ((d,.pointer (some ⟨bl,0,none⟩))::l) ds w') :
    O P ro N ops (⟨some d,.box e x,ty,pos,af,none⟩::os) Q l ds w :=
  O.val nofun (by simpa using hd) (fun a ha=>by simp [execOp,Instr.box,ha.eval e1,newVar,newRow]) (h _ _ (H.alloc _))
def evp (l : Regs) : List (Nat × Operand) → Option (List (Nat × Value))
  | [] => some []
  | (i,x)::xs=>match ev l x,evp l xs with
    | some v,some vs=>some ((i,v)::vs)
    | _,_=>none
theorem Env.evalp {a : Act} (h : Env N a l) : ∀ {xs : List (Nat × Operand)} {vs : List (Nat × Value)},evp l xs = some vs → xs.map (fun p=>(p.1,a.eval p.2)) = vs
  | [], vs,e=>by simpa [evp] using e
  | (i,x)::xs,vs,e=>by
    simp only [evp] at e
    split at e
    · rename_i v vs' h1 h2
      cases e
      simp [h.eval h1,h.evalp h2]
    · cases e
theorem Ex.build {parts : Array (Nat × Operand)} {vs : List (Nat × Value)} {v : Value} (e : evp l parts.toList = some vs) (hb : BuildIs P t vs v) : Ex P N l (.build t parts) ty w v w :=
  ⟨nofun,fun _ _ _ a ha=>by
    have : (parts.map fun (i,x)=>(i,a.eval x)) = vs.toArray:=by
      apply Array.ext'
      simpa using ha.evalp e
    simp only [execOp,this]
    simp [hb w]⟩
/-! ### Calls -/
/-- A function's contract. -/
def CT (P : Program) (f : FuncId) (args : List Value) (w : World) (R : Value → World → Prop) : Prop:=CallsIn Fence.wide 0 P f args.toArray w fun e w'=>∃ v,e = .returned v ∧ R v w'
theorem CT.mono {f : FuncId} {args : List Value} {R R' : Value → World → Prop} (h : CT P f args w R) (hr : ∀ v w',R v w' → R' v w') : CT P f args w R' :=
  CallsIn.mono h fun e w' ⟨v,e1,h1⟩=>⟨v,e1,hr _ _ h1⟩
def CallIs (P : Program) (f : FuncId) : Prop:=∀ (args : Array Value) (w : World),(callFunc f args).run P w = .ok (.enter f args) w
theorem O.callF {f : FuncId} {args : Array Operand} {ats : Array TypeId} {vs : List Value} (hf : CallIs P f) (e : evs l args.toList = some vs) (hd : Nat.blt d N = true) (h : CT P f vs w fun v w'=>O P ro N ops os Q ((d,v)::l) ds w') :
    O P ro N ops (⟨some d,.call ⟨.value (.func f),args,ats⟩,ty,pos,af,none⟩::os) Q l ds w :=
  O.call nofun (fun a ha=>by simp [execOp,resolve,Act.eval,Deferred.ofValue,invoke,ha.evalsA e]; exact hf _ w)
    (CallsIn.mono h fun e w' ⟨v,e1,h1⟩=>⟨v,e1,fun a ha hds=>h1 _ (ha.put (by simpa using hd) v) hds⟩)
/-! ### A function, from its body -/
/-- The marks that ranges over a function have left among the deferred calls, with their blocks. -/
def markOf (d : Deferred) : HProp:=hex fun r=>star [hp (d.target = .collected r),pt r (.deferred (some []))]
def marks (ds : List Deferred) : HProp:=star (ds.map markOf)
def RV (P : Program) (l : Regs) (w : World) : List ResultVar → List Value → Prop
  | [], vs=>vs = []
  | .tmp t::rs,vs=>∃ v vs',vs = v::vs' ∧ look l t = some v ∧ RV P l w rs vs'
  | .cell t ty::rs,vs=>∃ p v vs',vs = v::vs' ∧ look l t = some (.pointer (some p)) ∧ (loadVar ty p).run P w = .ok v w ∧ RV P l w rs vs'
def oneOf : List Value → Value
  | [v]=>v
  | vs=>.tuple vs.toArray
def resOne (a : Act) : ResultVar → Sem Value
  | .tmp t=>pure (a.tmps.getD t undef)
  | .cell r t=>do loadVar t (← asAddr (a.tmps.getD r undef))
theorem RV.run {a : Act} (ha : Env N a l) : ∀ {rs : List ResultVar} {vs : List Value},RV P l w rs vs → (rs.mapM (resOne a)).run P w = .ok vs w
  | [], vs,h=>by cases h; rfl
  | .tmp t::rs,vs,h=>by
    obtain ⟨v,vs',rfl,h1,h2⟩:=h
    have:=ha.get _ _ h1
    simp [List.mapM_cons,resOne,this,RV.run ha h2]
  | .cell t ty::rs,vs,h=>by
    obtain ⟨p,v,vs',rfl,h1,h0,h2⟩:=h
    have:=ha.get _ _ h1
    simp [List.mapM_cons,resOne,this,asAddr,h0,RV.run ha h2]
theorem results_eq (fn : Func) (a : Act) : results fn a.tmps = (do let vs ← fn.results.mapM (resOne a); pure (if h : vs.size = 1 then vs[0] else .tuple vs)):=by
  unfold Go.results
  congr 1
theorem RV.results {a : Act} {fn : Func} (ha : Env N a l) {vs : List Value} (h : RV P l w fn.results.toList vs) : (results fn a.tmps).run P w = .ok (oneOf vs) w:=by
  have:=RV.run ha h
  rw [results_eq,← Array.toArray_toList (xs:=fn.results),List.mapM_toArray]
  simp only [Sem.run_bind,Sem.run_map,this,Result.andThen_ok]
  match vs with
  | [] => simp [oneOf]
  | [v]=>simp [oneOf]
  | u::v::vs=>simp [oneOf]
/-- What is asked where the body is left. -/
def retD (P : Program) (rs : List ResultVar) (R : Value → World → Prop) (l : Regs) (w : World) : List Deferred → Prop
  | [] => ∃ vs,RV P l w rs vs ∧ R (oneOf vs) w
  | d::ds=>∃ L,Holds w (marks (d::ds)::L) ∧ ∀ w',Holds w' L → ∃ vs,RV P l w' rs vs ∧ R (oneOf vs) w'
def retQ (P : Program) (rs : List ResultVar) (R : Value → World → Prop) : Q0
  | .normal,l,ds,w=>retD P rs R l w ds
  | .ret,l,ds,w=>retD P rs R l w ds
  | .exit _,_,_,_=>False
  | .goto _,_,_,_=>False
  | .panic _,_,_,_=>False
  | .outgrown,_,_,_=>False
theorem leavesM {fn : Func} {R : Value → World → Prop} {a : Act} (ha : Env N a l) : ∀ (ds : List Deferred) (w : World) (L : List HProp),Holds w (marks ds::L) → (∀ w',Holds w' L → ∃ vs,RV P l w' fn.results.toList vs ∧ R (oneOf vs) w') →
    LeavesInM Fence.wide 0 P fn a.tmps (fun e w'=>∃ v,e = .returned v ∧ R v w') ds .returning w
  | [], w,L,H,h=>by
    obtain ⟨vs,h1,h2⟩:=h w H.drop
    exact ⟨_,RV.results ha h1,_,rfl,h2⟩
  | d::ds,w,L,H,h=>by
    have H1 : Holds w (markOf d::(ds.map markOf ++ L)):=Holds.star.1 H
    obtain ⟨r,H2⟩:=Holds.hex.1 H1
    have H3 : Holds w ([hp (d.target = .collected r),pt r (.deferred (some []))] ++ (ds.map markOf ++ L)):=Holds.star.1 H2
    obtain ⟨ht,H4⟩:=Holds.hp.1 H3
    have H5:=H4.putObj (.deferred none)
    refine ⟨nofun,.inl ⟨r,_,ht,?_,leavesM ha ds _ L (Holds.star.2 H5.drop) h⟩⟩
    have hg:=H4.get
    have hr : w.heap[r]? = some (.deferred (some [])):=hg
    simp [Instr.takeDeferred,getObj,setObj,Sem.run,hr]
theorem CT.enter {f : FuncId} {fn : Func} {c : Code} {rs : List ResultVar} {vs : List Value} {R : Value → World → Prop} (hf : P.funcs[f]? = some fn) (hb : fn.body = some c) (hN : fn.ntmps = N) (hl : Nat.ble vs.length N = true) (hr : fn.results.toList = rs)
    (h : W P none N c (retQ P rs R) (initRegs 0 vs) [] w) : CT P f vs w R:=by
  subst hr
  have hl' : vs.length ≤ N:=by simpa using hl
  refine callsIn_of_wp_marks hf hb trivial ?_ rfl
  refine wpIn_mono (h _ ⟨?_,?_⟩ rfl) ?_
  · simp [hN]; omega
  · intro t v e
    obtain ⟨_,h2⟩:=initRegs_spec vs 0 t v e
    simp only [Nat.sub_zero] at h2
    have:=(List.getElem?_eq_some_iff.1 h2).1
    rw [Array.getElem?_append_left (by simpa using this)]
    simpa using h2
  · rintro e a w' ⟨l',ha,hq⟩
    cases e <;> simp only [retQ] at hq
    all_goals
      revert hq
      generalize hds : a.defers = ds
      intro hq
      simp only [bodyPostM,hds]
      cases ds with
      | nil=>obtain ⟨vs,h1,h2⟩:=hq; exact ⟨_,RV.results ha h1,_,rfl,h2⟩
      | cons d ds=>obtain ⟨L,h1,h2⟩:=hq; exact leavesM ha _ _ L h1 h2
end
end Go.Rr
end
section
/- A region that draws its order: one plan of it, held to be as good as any order. No program in sight. -/
namespace Go.Rr
set_option linter.unusedVariables false
section
variable {P : Program} {ro : Option Nat} {ops : Array Oper}
theorem wpOpIn_ne {Q : Exit → Act → World → Prop} {K : Act → World → Prop} {i : Nat} {o : Oper} {a : Act} {w : World} (hi : ops[i]? = some o) (hnd : ∀ c,o.op ≠ .defer c) :
    wpOpIn (FW ro) 0 P ops Q i K a w ↔ if Region.wanted o (yielded ops a.tmps) then o.uponIn (FW ro) 0 P a K Q ((execOp a.eval o).run P w) else K (a.put o.dst undef) w:=by
  unfold wpOpIn
  simp only [hi]
  split
  · unfold Oper.wpIn
    rw [Oper.semAt_eq _ _ _ hnd]
    exact ⟨fun h=>h.2,fun h=>⟨fun _ _=>trivial,h⟩⟩
  · exact ⟨fun h=>h.2,fun h=>⟨fun _ _=>trivial,h⟩⟩
def YldS (P : Program) (ops : Array Oper) (S : World → Prop) (o : Oper) (v : Value) (a : Act) : Prop :=
  (Region.wanted o (yielded ops a.tmps) = true ∧ ∀ w,S w → (execOp a.eval o).run P w = .ok (.value v) w) ∨ (Region.wanted o (yielded ops a.tmps) = false ∧ v = undef)
/-- Is the one bound to come ahead of the other one, by way of others? -/
def anc (ops : Array Oper) : Nat → Nat → Nat → Bool
  | 0,_,_=>false
  | f + 1,j,k=>match ops[j]? with
    | some o=>o.after.any fun e=>Region.binds .any e && (e.on == k || anc ops f e.on k)
    | none=>false
/-- An operation that all the others are bound to come ahead of. -/
def lastAll (ops : Array Oper) (j : Nat) : Bool:=(List.range ops.size).all fun k=>k == j || anc ops ops.size j k
/-- Whatever has been done, what is bound ahead of it has been done, too. -/
def closedL (ops : Array Oper) (listed : Array Bool) : Prop:=∀ k ok,ops[k]? = some ok → listed.getD k false = true → ∀ e ∈ ok.after,Region.binds .any e = true → listed.getD e.on false = true
theorem anc_spec {listed : Array Bool} (hc : closedL ops listed) : ∀ (f j k : Nat),anc ops f j k = true → listed.getD k false = false → ∃ oj,ops[j]? = some oj ∧ ∃ e ∈ oj.after,Region.binds .any e = true ∧ listed.getD e.on false = false
  | 0,j,k,h,_=>by simp [anc] at h
  | f + 1,j,k,h,hk=>by
    simp only [anc] at h
    split at h
    · rename_i o ho
      obtain ⟨e,he,h2⟩:=Array.any_eq_true'.1 h
      simp only [Bool.and_eq_true,Bool.or_eq_true,beq_iff_eq] at h2
      obtain ⟨hb,h3|h3⟩:=h2
      · exact ⟨o,ho,e,he,hb,h3 ▸ hk⟩
      · obtain ⟨o2,ho2,e2,he2,hb2,hk2⟩:=anc_spec hc f e.on k h3 hk
        refine ⟨o,ho,e,he,hb,?_⟩
        cases hx : listed.getD e.on false with
        | false=>rfl
        | true=>rw [hc _ _ ho2 hx e2 he2 hb2] at hk2; cases hk2
    · cases h
theorem closedL.set {listed : Array Bool} (hc : closedL ops listed) {i : Nat} (hi : i ∈ Region.ready .any ops listed) : closedL ops (listed.setIfInBounds i true):=by
  obtain ⟨hu,oi,hoi,hall⟩:=mem_ready.1 hi
  have up : ∀ j,listed.getD j false = true → (listed.setIfInBounds i true).getD j false = true:=fun j h=>by
    by_cases e : i = j
    · subst e
      have : i < listed.size:=by
        rcases Nat.lt_or_ge i listed.size with h'|h'
        · exact h'
        · simp [Array.getElem?_eq_none h'] at h
      simp [this]
    · rw [getD_set_ne false e]; exact h
  intro k ok hk hl e he hb
  by_cases hki : i = k
  · subst hki
    rw [hoi] at hk; cases hk
    exact up _ (hall e he hb)
  · rw [getD_set_ne false hki] at hl
    exact up _ (hc k ok hk hl e he hb)
theorem closedL.none {n : Nat} : closedL ops (Array.replicate n false):=fun k ok hk hl=>by
  simp only [Array.getD_eq_getD_getElem?,Array.getElem?_replicate] at hl
  split at hl <;> cases hl
/-- Whatever order comes up, and S holds between any two operations. -/
def anyH (P : Program) (ro : Option Nat) (ops : Array Oper) (Q : Exit → Act → World → Prop) (S : World → Prop) : Nat → Array Bool → Act → World → Prop
  | 0,listed,a,w=>Region.ready .any ops listed = [] ∧ Q .normal a w
  | fuel + 1,listed,a,w=>(Region.ready .any ops listed = [] → Q .normal a w) ∧
    ∀ i ∈ Region.ready .any ops listed,wpOpIn (FW ro) 0 P ops Q i (fun a' w'=>(lastAll ops i = true ∨ S w') ∧ anyH P ro ops Q S fuel (listed.setIfInBounds i true) a' w') a w
variable {Q : Exit → Act → World → Prop} {S : World → Prop}
theorem anyH_any : ∀ (fuel : Nat) (listed : Array Bool) (a : Act) (w : World),anyH P ro ops Q S fuel listed a w → wpAnyIn (FW ro) 0 P .any ops Q fuel listed a w
  | 0,_,_,_,h=>h
  | fuel + 1,_,_,_,h=>⟨h.1,fun i hi=>wpOpIn_mono (fun a' w' h'=>anyH_any fuel _ a' w' h'.2) (h.2 i hi)⟩
def noDefer (ops : Array Oper) : Bool:=ops.all fun o=>match o.op with|.defer _=>false|.select ..=>false|_=>true
theorem noDefer_spec (h : noDefer ops = true) {i : Nat} {o : Oper} (hi : ops[i]? = some o) : (∀ c,o.op ≠ .defer c) ∧ ∀ cs b,o.op ≠ .select cs b:=by
  obtain ⟨hlt,rfl⟩:=Array.getElem?_eq_some_iff.1 hi
  have:=(Array.all_eq_true.1 h) i hlt
  constructor
  · intro c e; rw [e] at this; cases this
  · intro c b e; rw [e] at this; cases this
theorem YldS.same {o : Oper} {v : Value} {a a' : Act} (hy : YldS P ops S o v a) (he : execOp a'.eval o = execOp a.eval o) (hw : Region.wanted o (yielded ops a'.tmps) = Region.wanted o (yielded ops a.tmps)) : YldS P ops S o v a':=by
  unfold YldS at *; rw [he,hw]; exact hy
theorem wpOpIn_putS {j : Nat} {oi oj : Oper} {v : Value} (hj : ops[j]? = some oj) (hap : oi.apart ops oj = true) (hn : ∀ c,oj.op ≠ .defer c)
    (hsi : ∀ cs b,oi.op ≠ .select cs b) (hsj : ∀ cs b,oj.op ≠ .select cs b) (hQ : ∀ c a w,Q (.panic c) (a.put oi.dst v) w → Q (.panic c) a w) {K : Act → World → Prop} {a : Act} {w : World}
    (hy : YldS P ops S oi v a) (h : wpOpIn (FW ro) 0 P ops Q j K (a.put oi.dst v) w) :
    wpOpIn (FW ro) 0 P ops Q j (fun a' w'=>YldS P ops S oi v a' ∧ K (a'.put oi.dst v) w') a w:=by
  obtain ⟨h1,h2,h3⟩:=Oper.apart_spec hap
  have keep : ∀ (a : Act),YldS P ops S oi v a → ∀ u,YldS P ops S oi v (a.put oj.dst u):=fun a hy u =>
    hy.same (execOp_put oi hsi a oj.dst u h3) (wanted_put oi a oj.dst u h3)
  have keepD : ∀ d,YldS P ops S oi v { a with defers:=d::a.defers }:=fun d=>hy.same rfl rfl
  rw [wpOpIn_ne hj hn] at h ⊢
  rw [wanted_put oj a oi.dst v h1] at h
  split
  · rename_i hw
    rw [if_pos hw,execOp_put oj hsj a oi.dst v h1] at h
    generalize (execOp a.eval oj).run P w = r at *
    cases r with
    | ok x w' =>
      cases x <;> simp only [Oper.uponIn] at h ⊢
      case value u=>exact ⟨keep a hy u,by rw [← Act.put_comm a v u h2]; exact h⟩
      case skip=>exact ⟨keep a hy _,by rw [← Act.put_comm a v undef h2]; exact h⟩
      case defer d =>
        refine ⟨keep _ (keepD d) _,?_⟩
        rw [← Act.put_comm _ v undef h2,← Act.put_defers]
        exact h
      case enter f args =>
        refine ⟨h.1,CallsIn.mono h.2 fun e w'' he=>?_⟩
        cases e with
        | returned u=>exact ⟨keep a hy u,by rw [← Act.put_comm a v u h2]; exact he⟩
        | panicked c=>exact hQ _ _ _ he
        | outgrown=>exact he
      case row row args=>exact ⟨h.1,RowsIn.mono h.2 fun u w'' he=>⟨keep a hy u,by rw [← Act.put_comm a v u h2]; exact he⟩⟩
      case round l f tmps assign body =>
        refine ⟨h.1,RoundIn.mono h.2 fun e w'' he=>?_⟩
        cases e with
        | returned u=>exact ⟨keep a hy u,by rw [← Act.put_comm a v u h2]; exact he⟩
        | panicked c=>exact hQ _ _ _ he
        | outgrown=>exact he
    | halt x w' =>
      cases x <;> simp only [Oper.uponIn] at h ⊢
      case panic u=>exact hQ _ _ _ h
  · rename_i hw
    rw [if_neg hw] at h
    exact ⟨keep a hy _,by rw [← Act.put_comm a v undef h2]; exact h⟩
theorem YldS.op {i : Nat} {o : Oper} {v : Value} {a : Act} (hi : ops[i]? = some o) (hn : ∀ c,o.op ≠ .defer c) (hy : YldS P ops S o v a) {K : Act → World → Prop} {w : World} (hS : S w) (h : K (a.put o.dst v) w) : wpOpIn (FW ro) 0 P ops Q i K a w:=by
  rw [wpOpIn_ne hi hn]
  rcases hy with ⟨hw,hv⟩|⟨hw,rfl⟩
  · rw [if_pos hw,hv w hS]; exact h
  · rw [if_neg (by simp [hw])]; exact h
theorem anyH_first {i : Nat} {oi : Oper} {v : Value} (hi : ops[i]? = some oi) (hsel : noDefer ops = true) (hQ : ∀ c a w,Q (.panic c) (a.put oi.dst v) w → Q (.panic c) a w) :
    ∀ (fuel : Nat) (listed : Array Bool) (a : Act) (w : World),closedL ops listed →
      (∀ j oj,ops[j]? = some oj → j ≠ i → listed.getD j true = false → (∀ e ∈ oj.after,Region.binds .any e = true → e.on ≠ i) → oi.apart ops oj = true) →
      i ∈ Region.ready .any ops listed → YldS P ops S oi v a → S w →
      anyH P ro ops Q S fuel (listed.setIfInBounds i true) (a.put oi.dst v) w → anyH P ro ops Q S (fuel + 1) listed a w:=by
  have hni:=noDefer_spec hsel hi
  intro fuel
  induction fuel with
  | zero =>
    intro listed a w _ _ hr hy hS H
    refine ⟨fun h=>(by rw [h] at hr; cases hr),fun j hj=>?_⟩
    by_cases hji : j = i
    · subst hji; exact hy.op hi hni.1 hS ⟨.inr hS,H⟩
    · have:=ready_mono hj hji
      rw [H.1] at this
      cases this
  | succ fuel ih =>
    intro listed a w hcl hfree hr hy hS H
    refine ⟨fun h=>(by rw [h] at hr; cases hr),fun j hj=>?_⟩
    by_cases hji : j = i
    · subst hji; exact hy.op hi hni.1 hS ⟨.inr hS,H⟩
    · have h1:=H.2 j (ready_mono hj hji)
      obtain ⟨hjun,oj,hoj,hall⟩:=mem_ready.1 hj
      have hnj:=noDefer_spec hsel hoj
      have hnot : ∀ e ∈ oj.after,Region.binds .any e = true → e.on ≠ i:=fun e he hb heq=>by
        have h1:=hall e he hb
        have h0:=(mem_ready.1 hr).1
        rw [heq] at h1
        rcases Nat.lt_or_ge i listed.size with h'|h'
        · simp [h'] at h0 h1; rw [h0] at h1; cases h1
        · simp [Array.getElem?_eq_none h'] at h1
      have h2:=wpOpIn_putS hoj (hfree j oj hoj hji hjun hnot) hnj.1 hni.2 hnj.2 hQ hy h1
      have hfree' : ∀ k ok,ops[k]? = some ok → k ≠ i → (listed.setIfInBounds j true).getD k true = false →
          (∀ e ∈ ok.after,Region.binds .any e = true → e.on ≠ i) → oi.apart ops ok = true:=fun k ok hk hki hun hno=>by
        refine hfree k ok hk hki ?_ hno
        by_cases hjk : j = k
        · subst hjk; exact hjun
        · rw [getD_set_ne true hjk] at hun; exact hun
      have hiu : listed.getD i false = false:=by
        have h0:=(mem_ready.1 hr).1
        rcases Nat.lt_or_ge i listed.size with h'|h'
        · simp [h'] at h0 ⊢; exact h0
        · simp [Array.getElem?_eq_none h'] at h0
      have hla : ¬ lastAll ops j = true:=fun hl=>by
        simp only [lastAll,List.all_eq_true,List.mem_range,Bool.or_eq_true,beq_iff_eq] at hl
        rcases hl i (Array.getElem?_eq_some_iff.1 hi).1 with h|h
        · exact hji h.symm
        · obtain ⟨o2,ho2,e,he,hb,hun⟩:=anc_spec hcl _ _ _ h hiu
          rw [hoj] at ho2; cases ho2
          rw [hall e he hb] at hun; cases hun
      refine wpOpIn_mono (fun a' w' h3=>⟨h3.2.1,ih (listed.setIfInBounds j true) a' w' (hcl.set hj) hfree' (ready_mono hr (Ne.symm hji)) h3.1 (h3.2.1.resolve_left hla) ?_⟩) h2
      rw [Array.setIfInBounds_comm _ _ hji]
      exact h3.2.2
end
/-! ### A plan -/
/-- Each operation once, in turn. 'take': it looks at nothing that another one may turn · 'one': it is the only one that may come up then · 'two': these two may. -/
inductive Plan where
  | nil
  | take (i : Nat) (p : Plan)
  | one (i : Nat) (p : Plan)
  | two (i j : Nat) (p q : Plan)
def Plan.len : Plan → Nat
  | .nil=>0
  | .take _ p=>p.len + 1
  | .one _ p=>p.len + 1
  | .two _ _ p _=>p.len + 1
def planOk (ops : Array Oper) : Plan → Array Bool → Bool
  | .nil,listed=>(Region.ready .any ops listed).isEmpty
  | .take i r,listed=>(Region.ready .any ops listed).contains i && Region.free .any ops listed i && planOk ops r (listed.setIfInBounds i true)
  | .one i r,listed=>(Region.ready .any ops listed == [i]) && planOk ops r (listed.setIfInBounds i true)
  | .two i j r q,listed=>(Region.ready .any ops listed == [i,j]) && (r.len == q.len) && planOk ops r (listed.setIfInBounds i true) && planOk ops q (listed.setIfInBounds j true)
def OQ (P : Program) (ro : Option Nat) (N : Nat) (ops : Array Oper) (S : World → Prop) (plan : Plan) (Q : Q0) (l : Regs) (ds : List Deferred) (w : World) : Prop :=
  noDefer ops = true → (∀ c l ds w,¬ Q (.panic c) l ds w) → ∀ listed,closedL ops listed → planOk ops plan listed = true → S w → ∀ a,Env N a l → a.defers = ds → anyH P ro ops (lift N Q) S plan.len listed a w
section
variable {P : Program} {ro : Option Nat} {N : Nat} {Q : Q0} {l : Regs} {ds : List Deferred} {w : World} {ops : Array Oper} {plan : Plan} {S : World → Prop}
variable {d : Tmp} {ty : TypeId} {pos : String} {af : Array Edge} {i : Nat} {op : Op} {v : Value}
theorem W.draw {id : Nat} {L : List HProp} (S : World → Prop) (plan : Plan) (hm : P.follows .mixedOrders = true) (hp : (noDefer ops && (plan.len == ops.size) && planOk ops plan (Array.replicate ops.size false)) = true)
    (hQ : ∀ c l ds w,¬ Q (.panic c) l ds w) (H : Holds w L) (hS : ∀ w',Holds w' L → S w') (h : ∀ w',Holds w' L → OQ P ro N ops S plan Q l ds w') : W P ro N (.region id ops true) Q l ds w:=fun a ha hd=>by
  simp only [Bool.and_eq_true,beq_iff_eq] at hp
  have H':=H.drawn (w.drawn + 1)
  refine wpIn_region_any hm (anyH_any _ _ _ _ (S:=S) ?_)
  rw [← hp.1.2]
  exact h _ H' hp.1.1 hQ _ closedL.none (by rw [hp.1.2]; exact hp.2) (hS _ H') a ha hd
theorem W.drawTo {id : Nat} {L : List HProp} (M : List HProp) (plan : Plan) (hm : P.follows .mixedOrders = true) (hQ : ∀ c l ds w,¬ Q (.panic c) l ds w) (H : Holds w L) (hM : PP L M)
    (hp : (noDefer ops && (plan.len == ops.size) && planOk ops plan (Array.replicate ops.size false)) = true) (h : ∀ w',Holds w' L → OQ P ro N ops (fun w'=>Holds w' M) plan Q l ds w') : W P ro N (.region id ops true) Q l ds w :=
  W.draw _ plan hm hp hQ H (fun w' H'=>H'.pp hM) h
theorem OQ.nil (h : S w → Q .normal l ds w) : OQ P ro N ops S .nil Q l ds w:=fun hn hQ listed hc hp hS a ha hd =>
  ⟨by simpa [planOk] using hp,l,ha,hd ▸ h hS⟩
theorem OQ.done (h : Q .normal l ds w) : OQ P ro N ops S .nil Q l ds w:=OQ.nil fun _=>h
theorem OQ.thenNil {K : Regs → List Deferred → World → Prop} (h : S w → K l ds w) : OQ P ro N ops S .nil (thenQ K Q) l ds w:=OQ.nil (Q:=thenQ K Q) h
theorem OQ.take {o : Oper} {l' : Regs} (hi : ops[i]? = some o) (hy : ∀ a,Env N a l → YldS P ops S o v a) (he : ∀ a,Env N a l → ∀ ds,a.defers = ds → Env N (a.put o.dst v) l' ∧ (a.put o.dst v).defers = ds) (h : OQ P ro N ops S plan Q l' ds w) : OQ P ro N ops S (.take i plan) Q l ds w :=
  fun hn hQ listed hc hp hS a ha hd=>by
    simp only [planOk,Bool.and_eq_true] at hp
    obtain ⟨he1,he2⟩:=he a ha ds hd
    exact anyH_first hi hn (fun c a w ⟨l,_,hq⟩=>absurd hq (hQ _ _ _ _)) _ listed a w hc (Region.free_spec hi hp.1.2) (by simpa using hp.1.1) (hy a ha) hS (h hn hQ _ (hc.set (by simpa using hp.1.1)) hp.2 hS _ he1 he2)
theorem OQ.ex (hi : ops[i]? = some ⟨some d,op,ty,pos,af,none⟩) (hx : ∀ w',S w' → Ex P N l op ty w' v w') (hd : Nat.blt d N = true) (h : OQ P ro N ops S plan Q ((d,v)::l) ds w) : OQ P ro N ops S (.take i plan) Q l ds w :=
  OQ.take hi (fun a ha=>.inl ⟨rfl,fun w' hS=>(hx w' hS).2 _ _ _ a ha⟩) (fun a ha ds hds=>⟨ha.put (by simpa using hd) v,hds⟩) h
theorem OQ.exT {j t : Nat} {b : Bool} (hi : ops[i]? = some ⟨some d,op,ty,pos,af,some (j,b)⟩) (hj : (ops[j]?).bind (·.dst) = some t) (hl : look l t = some (.bool b)) (hx : ∀ w',S w' → Ex P N l op ty w' v w') (hd : Nat.blt d N = true) (h : OQ P ro N ops S plan Q ((d,v)::l) ds w) : OQ P ro N ops S (.take i plan) Q l ds w :=
  OQ.take hi (fun a ha=>.inl ⟨by simp [Region.wanted,ha.yielded (ops:=ops) hj hl],fun w' hS=>(hx w' hS).2 (some d) pos af a ha⟩) (fun a ha ds hds=>⟨ha.put (by simpa using hd) v,hds⟩) h
theorem OQ.exF {j t : Nat} {b b' : Bool} (hi : ops[i]? = some ⟨some d,op,ty,pos,af,some (j,b)⟩) (hj : (ops[j]?).bind (·.dst) = some t) (hl : look l t = some (.bool b')) (hb : (b' == b) = false) (hd : Nat.blt d N = true) (h : OQ P ro N ops S plan Q ((d,undef)::l) ds w) : OQ P ro N ops S (.take i plan) Q l ds w :=
  OQ.take hi (fun a ha=>.inr ⟨by have hne : b' ≠ b:=(by intro e; subst e; simp at hb); simp [Region.wanted,ha.yielded (ops:=ops) hj hl,hne],rfl⟩) (fun a ha ds hds=>⟨ha.put (by simpa using hd) undef,hds⟩) h
theorem OQ.stepOne {o : Oper} (hi : ops[i]? = some o) (h : O P ro N ops [o] (thenQ (fun l' ds' w'=>S w' ∧ OQ P ro N ops S plan Q l' ds' w') Q) l ds w) (hn : noDefer ops = true) (hQ : ∀ c l ds w,¬ Q (.panic c) l ds w) {listed : Array Bool} (hc : closedL ops (listed.setIfInBounds i true)) (hp : planOk ops plan (listed.setIfInBounds i true) = true)
    {a : Act} (ha : Env N a l) (hd : a.defers = ds) : wpOpIn (FW ro) 0 P ops (lift N Q) i (fun a' w'=>(lastAll ops i = true ∨ S w') ∧ anyH P ro ops (lift N Q) S plan.len (listed.setIfInBounds i true) a' w') a w:=by
  have h':=h a ha hd
  simp only [opsIn] at h'
  have hni:=noDefer_spec hn hi
  rw [wpOpIn_ne hi hni.1]
  have fin : ∀ a' w',lift N (thenQ (fun l' ds' w'=>S w' ∧ OQ P ro N ops S plan Q l' ds' w') Q) .normal a' w' → (lastAll ops i = true ∨ S w') ∧ anyH P ro ops (lift N Q) S plan.len (listed.setIfInBounds i true) a' w':=fun a' w' ⟨l',h1,h2,h3⟩ =>
    ⟨.inr h2,h3 hn hQ _ hc hp h2 a' h1 rfl⟩
  split
  · rename_i hw
    rw [if_pos hw] at h'
    have h2:=h'.2
    rw [Oper.semAt_eq _ _ _ hni.1] at h2
    generalize (execOp a.eval o).run P w = r at *
    cases r with
    | ok x w' =>
      cases x <;> simp only [Oper.uponIn] at h2 ⊢ <;>
        first
          | exact fin _ _ h2
          | exact ⟨h2.1,h2.2.mono fun e' w'' he=>by cases e' <;> first|exact fin _ _ he|exact he⟩
          | exact ⟨h2.1,RowsIn.mono h2.2 (fun _ _ he=>fin _ _ he)⟩
    | halt x w'=>cases x <;> simp only [Oper.uponIn] at h2 ⊢ <;> exact h2
  · rename_i hw
    rw [if_neg hw] at h'
    exact fin _ _ h'
/-- An operation that turns something, the only one that may come up: by the rules of a plain region. -/
theorem OQ.step {o : Oper} (hi : ops[i]? = some o) (h : O P ro N ops [o] (thenQ (fun l' ds' w'=>S w' ∧ OQ P ro N ops S plan Q l' ds' w') Q) l ds w) : OQ P ro N ops S (.one i plan) Q l ds w :=
  fun hn hQ listed hc hp hS a ha hd=>by
    simp only [planOk,Bool.and_eq_true,beq_iff_eq] at hp
    refine ⟨fun e=>(by rw [e] at hp; cases hp.1),fun j hj=>?_⟩
    rw [hp.1] at hj
    obtain rfl : j = i:=by simpa using hj
    exact OQ.stepOne hi h hn hQ (hc.set (by rw [hp.1]; simp)) hp.2 ha hd
/-- The last one, which all the others come ahead of: what is kept up to it need not be kept behind it. -/
theorem OQ.last {o : Oper} (hi : ops[i]? = some o) (hla : lastAll ops i = true) (h : O P ro N ops [o] Q l ds w) : OQ P ro N ops S (.one i .nil) Q l ds w :=
  fun hn hQ listed hc hp hS a ha hd=>by
    simp only [planOk,Bool.and_eq_true,beq_iff_eq] at hp
    refine ⟨fun e=>(by rw [e] at hp; cases hp.1),fun j hj=>?_⟩
    rw [hp.1] at hj
    obtain rfl : j = i:=by simpa using hj
    have h':=h a ha hd
    simp only [opsIn] at h'
    have hni:=noDefer_spec hn hi
    rw [wpOpIn_ne hi hni.1]
    have fin : ∀ a' w',lift N Q .normal a' w' → (lastAll ops j = true ∨ S w') ∧ anyH P ro ops (lift N Q) S Plan.nil.len (listed.setIfInBounds j true) a' w':=fun a' w' hq =>
      ⟨.inl hla,by simpa using hp.2,hq⟩
    split
    · rename_i hw
      rw [if_pos hw] at h'
      have h2:=h'.2
      rw [Oper.semAt_eq _ _ _ hni.1] at h2
      generalize (execOp a.eval o).run P w = r at *
      cases r with
      | ok x w' =>
        cases x <;> simp only [Oper.uponIn] at h2 ⊢ <;>
          first
            | exact fin _ _ h2
            | exact ⟨h2.1,h2.2.mono fun e' w'' he=>by cases e' <;> first|exact fin _ _ he|exact he⟩
            | exact ⟨h2.1,RowsIn.mono h2.2 (fun _ _ he=>fin _ _ he)⟩
      | halt x w'=>cases x <;> simp only [Oper.uponIn] at h2 ⊢ <;> exact h2
    · rename_i hw
      rw [if_neg hw] at h'
      exact fin _ _ h'
theorem OQ.two {j : Nat} {q : Plan} {o o' : Oper} (hi : ops[i]? = some o) (hj : ops[j]? = some o') (h : O P ro N ops [o] (thenQ (fun l' ds' w'=>S w' ∧ OQ P ro N ops S plan Q l' ds' w') Q) l ds w)
    (h' : O P ro N ops [o'] (thenQ (fun l' ds' w'=>S w' ∧ OQ P ro N ops S q Q l' ds' w') Q) l ds w) : OQ P ro N ops S (.two i j plan q) Q l ds w :=
  fun hn hQ listed hc hp hS a ha hd=>by
    simp only [planOk,Bool.and_eq_true,beq_iff_eq] at hp
    obtain ⟨⟨⟨hp1,hp2⟩,hp3⟩,hp4⟩:=hp
    refine ⟨fun e=>(by rw [e] at hp1; cases hp1),fun k hk=>?_⟩
    rw [hp1] at hk
    simp only [List.mem_cons,List.not_mem_nil,or_false] at hk
    rcases hk with rfl|rfl
    · exact OQ.stepOne hi h hn hQ (hc.set (by rw [hp1]; simp)) hp3 ha hd
    · have:=OQ.stepOne (listed:=listed) hj h' hn hQ (hc.set (by rw [hp1]; simp)) hp4 ha hd
      rw [← hp2] at this
      exact this
theorem OQ.split {t : Nat} {b : Bool} (hl : look l t = some (.bool b)) (ht : b = true → OQ P ro N ops S plan Q ((t,.bool true)::l) ds w) (hf : b = false → OQ P ro N ops S plan Q ((t,.bool false)::l) ds w) : OQ P ro N ops S plan Q l ds w:=fun hn hQ listed hc hp hS a ha hd=>by
  cases b with
  | true=>exact ht rfl hn hQ listed hc hp hS a (ha.sub (look_same hl)) hd
  | false=>exact hf rfl hn hQ listed hc hp hS a (ha.sub (look_same hl)) hd
theorem OQ.split_p {t : Nat} {φ : Prop} [Decidable φ] (hl : look l t = some (.bool (decide φ))) (ht : φ → OQ P ro N ops S plan Q ((t,.bool true)::l) ds w) (hf : ¬ φ → OQ P ro N ops S plan Q ((t,.bool false)::l) ds w) : OQ P ro N ops S plan Q l ds w :=
  OQ.split hl (fun h=>ht (of_decide_eq_true h)) (fun h=>hf (of_decide_eq_false h))
theorem OQ.known {t : Nat} {b c : Bool} (hl : look l t = some (.bool b)) (hb : b = c) (h : OQ P ro N ops S plan Q ((t,.bool c)::l) ds w) : OQ P ro N ops S plan Q l ds w:=by
  subst hb; exact fun hn hQ listed hc hp hS a ha hd=>h hn hQ listed hc hp hS a (ha.sub (look_same hl)) hd
end
end Go.Rr
end
section
/- Slices whose elements take one cell each, owned: their rules. No program in sight. -/
namespace Go.Rr
set_option linter.unusedVariables false
/-- v is a slice that owns its row, of elements e x for the x of xs; T: the elements' type. -/
def arr {α : Type} (T : TypeId) (e : α → Value) (v : Value) (xs : List α) : HProp:=fun _ f =>
  (v = .slice none 0 0 ∧ xs = []) ∨ ∃ b cap rest,v = .slice (some ⟨b,0,none⟩) xs.length cap ∧ xs.length + rest.length = cap ∧ f b = some (.cells (xs.map e ++ rest).toArray T (0,0))
/-- The place of the i-th element. -/
def aAt (v : Value) (i : Nat) : Addr:=match v with|.slice (some a) _ _=>⟨a.block,i,none⟩|_=>⟨0,0,none⟩
section
variable {P : Program} {ro : Option Nat} {N : Nat} {Q : Q0} {l : Regs} {ds : List Deferred} {w w' : World} {ops : Array Oper} {os : List Oper}
variable {d : Tmp} {ty : TypeId} {pos : String} {af : Array Edge} {x y : Operand} {t T : TypeId} {α : Type} {e : α → Value} {v : Value} {xs : List α} {L : List HProp}
theorem arr_cases (H : Holds w (arr T e v xs::L)) : (v = .slice none 0 0 ∧ xs = [] ∧ Holds w L) ∨ ∃ b cap rest,v = .slice (some ⟨b,0,none⟩) xs.length cap ∧ xs.length + rest.length = cap ∧ Holds w (pt b (.cells (xs.map e ++ rest).toArray T (0,0))::L):=by
  obtain ⟨g,k,h1,h2,h3,h4,h5⟩:=H
  rcases h4 with ⟨a,b⟩|⟨b,cap,rest,h6,h7,h8⟩
  · exact .inl ⟨a,b,sep_le h5 h3⟩
  · exact .inr ⟨b,cap,rest,h6,h7,g,k,h1,h2,h3,h8,h5⟩
theorem arr_mk {b cap : Nat} {rest : List Value} (h : xs.length + rest.length = cap) (H : Holds w (pt b (.cells (xs.map e ++ rest).toArray T (0,0))::L)) : Holds w (arr T e (.slice (some ⟨b,0,none⟩) xs.length cap) xs::L):=by
  obtain ⟨g,k,h1,h2,h3,h4,h5⟩:=H
  exact ⟨g,k,h1,h2,h3,.inr ⟨b,cap,rest,rfl,h,h4⟩,h5⟩
theorem arr_nil (H : Holds w L) : Holds w (arr T e (.slice none 0 0) ([] : List α)::L) :=
  ⟨fun _=>none,fragOf w,fun _=>.inl rfl,(fun _ _ h=>by cases h),Frag.le_refl _,.inl ⟨rfl,rfl⟩,H⟩
theorem arr_len (H : Holds w (arr T e v xs::L)) : ∃ a c,v = .slice a xs.length c:=by
  rcases arr_cases H with ⟨rfl,rfl,_⟩|⟨b,cap,rest,rfl,_,_⟩
  · exact ⟨_,_,rfl⟩
  · exact ⟨_,_,rfl⟩
theorem arr_some (H : Holds w (arr T e v xs::L)) (h : 0 < xs.length) : ∃ b cap rest,v = .slice (some ⟨b,0,none⟩) xs.length cap ∧ xs.length + rest.length = cap ∧ Holds w (pt b (.cells (xs.map e ++ rest).toArray T (0,0))::L):=by
  rcases arr_cases H with ⟨rfl,rfl,_⟩|h
  · simp at h
  · exact h
theorem Ex.len {ats : Array TypeId} {a : Option Addr} {n c : Nat} {E : TypeId} (ht : ats[0]? = some t) (hu : UndIs P t (.slice E)) (e1 : ev l x = some (.slice a n c)) : Ex P N l (.call ⟨.builtin .len,#[x],ats⟩) ty w (.int .i64 n) w :=
  ⟨nofun,fun _ _ _ r hr=>by simp [execOp,resolve,invoke,builtin,Builtin.len_,hr.eval e1,ht,hu w,goInt]⟩
theorem Ex.lenA {ats : Array TypeId} {E : TypeId} (ht : ats[0]? = some t) (hu : UndIs P t (.slice E)) (e1 : ev l x = some v) (H : Holds w (arr T e v xs::L)) : Ex P N l (.call ⟨.builtin .len,#[x],ats⟩) ty w (.int .i64 xs.length) w:=by
  obtain ⟨a,c,rfl⟩:=arr_len H
  exact Ex.len ht hu e1
theorem Ex.lenS {ats : Array TypeId} {s : ByteArray} (ht : ats[0]? = some t) (hu : UndIs P t .string) (e1 : ev l x = some (.string s)) : Ex P N l (.call ⟨.builtin .len,#[x],ats⟩) ty w (.int .i64 s.size) w :=
  ⟨nofun,fun _ _ _ r hr=>by simp [execOp,resolve,invoke,builtin,Builtin.len_,hr.eval e1,ht,hu w,goInt]⟩
theorem Ex.idx {E sz b off n c : Nat} {i : Int} {k : IntKind} (hu : UndIs P t (.slice E)) (hs : SizeIs P E sz) (e1 : ev l x = some (.slice (some ⟨b,off,none⟩) n c)) (e2 : ev l y = some (.int k i)) (h0 : 0 ≤ i) (h1 : i < n) :
    Ex P N l (.indexAddr t x y) ty w (.pointer (some ⟨b,off + i.toNat * sz,none⟩)) w :=
  ⟨nofun,fun _ _ _ r hr=>by simp [execOp,Instr.indexAt,hr.eval e1,hr.eval e2,asIntOf,hu w,hs w,h0,h1,add_off]⟩
theorem Ex.idxA {E : Nat} {i : Int} {k : IntKind} (hu : UndIs P t (.slice E)) (hs : SizeIs P E 1) (e1 : ev l x = some v) (e2 : ev l y = some (.int k i)) (H : Holds w (arr T e v xs::L)) (h0 : 0 ≤ i) (h1 : i < xs.length) :
    Ex P N l (.indexAddr t x y) ty w (.pointer (some (aAt v i.toNat))) w:=by
  obtain ⟨b,cap,rest,rfl,_,_⟩:=arr_some H (by omega)
  have:=Ex.idx (w:=w) (ty:=ty) (N:=N) hu hs e1 e2 h0 h1
  simpa [aAt] using this
theorem arr_cell [Inhabited α] {i : Nat} (H : Holds w (arr T e v xs::L)) (h : i < xs.length) : w.cell? (aAt v i) = some (e (xs.getD i default)):=by
  obtain ⟨b,cap,rest,rfl,_,H⟩:=arr_some H (by omega)
  refine H.cell ?_
  simp [h,List.getElem?_append_left]
theorem Ex.loadA [Inhabited α] {i : Nat} (ht : AggIs P t false) (e1 : ev l x = some (.pointer (some (aAt v i)))) (H : Holds w (arr T e v xs::L)) (h : i < xs.length) : Ex P N l (.load t x) ty w (e (xs.getD i default)) w :=
  Ex.load ht e1 (arr_cell H h)
theorem arr_set {i : Nat} (z : α) (h : i < xs.length) (rest : List Value) : ((xs.map e ++ rest).toArray.setIfInBounds i (e z)) = ((xs.set i z).map e ++ rest).toArray:=by
  apply Array.ext'
  simp [h,List.map_set]
theorem O.storeA {i : Nat} {u : Value} {z : α} (hs : SizeIs P t 1) (e1 : ev l x = some (.pointer (some (aAt v i)))) (e2 : ev l y = some u) (hv : u = e z) (hv1 : u.oneCell' = true) (H : Holds w (arr T e v xs::L)) (hi : i < xs.length)
    (h : ∀ w',Holds w' (arr T e v (xs.set i z)::L) → O P ro N ops os Q l ds w') : O P ro N ops (⟨none,.store t x y,ty,pos,af,none⟩::os) Q l ds w:=by
  subst hv
  obtain ⟨b,cap,rest,rfl,hl,H⟩:=arr_some H (by omega)
  refine O.store hs (show ev l x = some (.pointer (some ⟨b,i,none⟩)) from e1) e2 hv1 H (by simp; omega) fun w' H'=>h w' ?_
  rw [arr_set z hi] at H'
  have:=arr_mk (xs:=xs.set i z) (cap:=cap) (by simpa using hl) H'
  simpa using this
theorem zeros_one (z : Value) (n : Nat) (hz : z.oneCell' = true) : ((Array.range n).map fun x=>z.cells[x % z.cells.size]!) = (List.replicate n z).toArray:=by
  have hc : z.cells = #[z]:=by cases z <;> simp_all [Value.cells,Value.oneCell']
  apply Array.ext
  · simp
  · intro i h1 h2
    simp [hc,Nat.mod_one]
theorem O.makeA {E : TypeId} {n : Int} {z : α} {info : TypeInfo} (hu : UndIs P t (.slice E)) (hs : SizeIs P E 1) (hz : ZeroIs P E (e z)) (hz1 : (e z).oneCell' = true) (hI : InfoIs P E info) (e1 : ev l x = some (.int .i64 n)) (e2 : ev l y = some (.int .i64 n))
    (h0 : 0 ≤ n) (hb : info.bytes * n ≤ 140737488355328) (hn : n ≤ 9223372036854775807) (hd : Nat.blt d N = true) (H : Holds w L)
    (h : ∀ v w',Holds w' (arr E e v (List.replicate n.toNat z)::L) → O P ro N ops os Q ((d,v)::l) ds w') : O P ro N ops (⟨some d,.makeSlice t x y,ty,pos,af,none⟩::os) Q l ds w:=by
  have hw : IntKind.i64.wrap n = n:=IntWalk.i64_in n ⟨by omega,hn⟩
  refine O.val (w':={ w with heap:=w.heap.push (.cells (List.replicate n.toNat (e z)).toArray E) }) (v:=.slice (some ⟨w.heap.size,0,none⟩) n.toNat n.toNat) nofun (by simpa using hd) (fun a ha=>?_) (h _ _ ?_)
  · have hnl : ¬ ((2 : Int) ^ 48 < info.bytes * n) := by have : (2:Int)^48 = 281474976710656:=by decide
                                                         omega
    simp only [execOp,ha.eval e1,ha.eval e2,Instr.makeSlice,asInt,asIntOf,Sem.run_bind,hu w,hI w,Result.andThen_ok,Sem.run_pure,hw]
    rw [if_neg (by simp; omega)]
    simp only [Sem.run_bind,Result.andThen_ok,run_askRoom,hs w,Nat.mul_one,newRow]
    by_cases h0 : n.toNat = 0
    · simp [h0,show Array.range 0 = #[] from by simp]
    · simp [hz w,zeros_one _ _ hz1]; intro h1; exact absurd (by omega) h0
  · have:=arr_mk (e:=e) (xs:=List.replicate n.toNat z) (rest:=[]) (cap:=n.toNat) (by simp) (by
      have:=H.alloc (.cells (List.replicate n.toNat (e z)).toArray E)
      simpa using this)
    simpa using this
end
end Go.Rr
end
section
/- The rules once more, their side conditions found by themselves. No program in sight. -/
namespace Go.Rr
set_option linter.unusedVariables false
section
variable {P : Program} {ro : Option Nat} {N : Nat} {Q : Q0} {l : Regs} {ds : List Deferred} {w w' : World} {ops : Array Oper} {os : List Oper}
variable {d : Tmp} {ty : TypeId} {pos : String} {af : Array Edge} {x y : Operand} {t T yt : TypeId} {α : Type} {e : α → Value} {v : Value} {xs : List α} {L : List HProp} {m n : Int} {k : IntKind}
theorem Ex.addI (e1 : ev l x = some (.int .i64 m)) (e2 : ev l y = some (.int .i64 n)) (h1 : -9223372036854775808 ≤ m + n:=by omega) (h2 : m + n ≤ 9223372036854775807:=by omega) : Ex P N l (.binOp .add t x y yt) ty w (.int .i64 (m + n)) w:=Ex.add e1 e2 (IntWalk.i64_in _ ⟨h1,h2⟩)
theorem Ex.subI (e1 : ev l x = some (.int .i64 m)) (e2 : ev l y = some (.int .i64 n)) (h1 : -9223372036854775808 ≤ m - n:=by omega) (h2 : m - n ≤ 9223372036854775807:=by omega) : Ex P N l (.binOp .sub t x y yt) ty w (.int .i64 (m - n)) w:=Ex.sub e1 e2 (IntWalk.i64_in _ ⟨h1,h2⟩)
theorem Ex.remI (e1 : ev l x = some (.int k m)) (e2 : ev l y = some (.int k n)) (h1 : 0 ≤ m:=by omega) (h2 : 0 < n:=by omega) : Ex P N l (.binOp .rem t x y yt) ty w (.int k (m % n)) w:=Ex.rem e1 e2 (by omega) (Int.tmod_eq_emod_of_nonneg h1)
theorem Ex.quoI (e1 : ev l x = some (.int .i64 m)) (e2 : ev l y = some (.int .i64 n)) (h1 : 0 ≤ m:=by omega) (h2 : 0 < n:=by omega) (h3 : m ≤ 9223372036854775807:=by omega) : Ex P N l (.binOp .quo t x y yt) ty w (.int .i64 (m / n)) w :=
  Ex.quo e1 e2 (by omega) (IntWalk.i64_quo _ _ ⟨h1,h3,by omega⟩)
theorem Ex.convW {s dt : TypeId} {k' : IntKind} {sd : TypeDesc} (hs : UndIs P s sd) (hu : UndIs P dt (.int k')) (e1 : ev l x = some (.int k m)) : Ex P N l (.convert s dt x) ty w (.int k' (k'.wrap m)) w:=Ex.convI hs hu e1 rfl
theorem Ex.convToI {s dt : TypeId} {sd : TypeDesc} (hs : UndIs P s sd) (hu : UndIs P dt (.int .i64)) (e1 : ev l x = some (.int k m)) (h1 : -9223372036854775808 ≤ m:=by omega) (h2 : m ≤ 9223372036854775807:=by omega) : Ex P N l (.convert s dt x) ty w (.int .i64 m) w:=Ex.convI hs hu e1 (IntWalk.i64_in _ ⟨h1,h2⟩)
/-- A cell, out of what is told of this world. -/
theorem Ex.loadP {p : Addr} {u : Value} (ht : AggIs P t false) (e1 : ev l x = some (.pointer (some p)))
    (hc : w.cell? p = some u:=by first
      | exact Holds.cell (by assumption) rfl
      | exact Holds.cell (Holds.f1 (by assumption)) rfl
      | exact Holds.cell (Holds.f2 (by assumption)) rfl
      | exact Holds.cell (Holds.f3 (by assumption)) rfl
      | exact Holds.cell (Holds.f4 (by assumption)) rfl
      | exact Holds.cell (Holds.f5 (by assumption)) rfl
      | exact Holds.cell (Holds.f6 (by assumption)) rfl
      | exact Holds.cell (Holds.f7 (by assumption)) rfl
      | exact Holds.cell (Holds.f8 (by assumption)) rfl
      | exact Holds.cell (Holds.f9 (by assumption)) rfl) : Ex P N l (.load t x) ty w u w:=Ex.load ht e1 hc
theorem Ex.loadR [Inhabited α] {i : Nat} (ht : AggIs P t false) (e1 : ev l x = some (.pointer (some (aAt v i))))
    (H : Holds w (arr T e v xs::L):=by first
      | assumption
      | exact Holds.f1 (by assumption)
      | exact Holds.f2 (by assumption)
      | exact Holds.f3 (by assumption)
      | exact Holds.f4 (by assumption)
      | exact Holds.f5 (by assumption)
      | exact Holds.f6 (by assumption)
      | exact Holds.f7 (by assumption)
      | exact Holds.f8 (by assumption)
      | exact Holds.f9 (by assumption))
    (h : i < xs.length:=by first|assumption|omega) : Ex P N l (.load t x) ty w (e (xs.getD i default)) w:=Ex.loadA ht e1 H h
theorem Ex.idxR {E : Nat} {i : Int} (hu : UndIs P t (.slice E)) (hs : SizeIs P E 1) (e1 : ev l x = some v) (e2 : ev l y = some (.int k i))
    (H : Holds w (arr T e v xs::L):=by first
      | assumption
      | exact Holds.f1 (by assumption)
      | exact Holds.f2 (by assumption)
      | exact Holds.f3 (by assumption)
      | exact Holds.f4 (by assumption)
      | exact Holds.f5 (by assumption)
      | exact Holds.f6 (by assumption)
      | exact Holds.f7 (by assumption)
      | exact Holds.f8 (by assumption)
      | exact Holds.f9 (by assumption))
    (h0 : 0 ≤ i:=by first|assumption|omega) (h1 : i < xs.length:=by first|assumption|omega) : Ex P N l (.indexAddr t x y) ty w (.pointer (some (aAt v i.toNat))) w:=Ex.idxA hu hs e1 e2 H h0 h1
theorem Ex.lenR {ats : Array TypeId} {E : TypeId} (hu : UndIs P t (.slice E)) (e1 : ev l x = some v) (ht : ats[0]? = some t:=by rfl)
    (H : Holds w (arr T e v xs::L):=by first
      | assumption
      | exact Holds.f1 (by assumption)
      | exact Holds.f2 (by assumption)
      | exact Holds.f3 (by assumption)
      | exact Holds.f4 (by assumption)
      | exact Holds.f5 (by assumption)
      | exact Holds.f6 (by assumption)
      | exact Holds.f7 (by assumption)
      | exact Holds.f8 (by assumption)
      | exact Holds.f9 (by assumption)) : Ex P N l (.call ⟨.builtin .len,#[x],ats⟩) ty w (.int .i64 xs.length) w:=Ex.lenA ht hu e1 H
theorem O.storeP {bl off : Nat} {c : Array Value} {u : Value} (hs : SizeIs P t 1) (e1 : ev l x = some (.pointer (some ⟨bl,off,none⟩))) (e2 : ev l y = some u)
    (h : ∀ w',Holds w' (pt bl (.cells (c.setIfInBounds off u) T (0,0))::L) → O P ro N ops os Q l ds w')
    (H : Holds w (pt bl (.cells c T (0,0))::L):=by first
      | assumption
      | exact Holds.f1 (by assumption)
      | exact Holds.f2 (by assumption)
      | exact Holds.f3 (by assumption)
      | exact Holds.f4 (by assumption)
      | exact Holds.f5 (by assumption)
      | exact Holds.f6 (by assumption)
      | exact Holds.f7 (by assumption)
      | exact Holds.f8 (by assumption)
      | exact Holds.f9 (by assumption))
    (hv : u.oneCell' = true:=by first|rfl|assumption) (ho : Nat.blt off c.size = true:=by rfl) :
    O P ro N ops (⟨none,.store t x y,ty,pos,af,none⟩::os) Q l ds w:=O.store hs e1 e2 hv H (by simpa using ho) h
theorem O.storeR {i : Nat} {u : Value} {z : α} (hs : SizeIs P t 1) (e1 : ev l x = some (.pointer (some (aAt v i)))) (e2 : ev l y = some u)
    (h : ∀ w',Holds w' (arr T e v (xs.set i z)::L) → O P ro N ops os Q l ds w')
    (H : Holds w (arr T e v xs::L):=by first
      | assumption
      | exact Holds.f1 (by assumption)
      | exact Holds.f2 (by assumption)
      | exact Holds.f3 (by assumption)
      | exact Holds.f4 (by assumption)
      | exact Holds.f5 (by assumption)
      | exact Holds.f6 (by assumption)
      | exact Holds.f7 (by assumption)
      | exact Holds.f8 (by assumption)
      | exact Holds.f9 (by assumption))
    (hv : u = e z:=by rfl) (hv1 : u.oneCell' = true:=by rfl) (hi : i < xs.length:=by first|assumption|omega) :
    O P ro N ops (⟨none,.store t x y,ty,pos,af,none⟩::os) Q l ds w:=O.storeA hs e1 e2 hv hv1 H hi h
theorem O.allocP {z : Value} {E : TypeId} (hz : ZeroIs P E z) (h : ∀ bl w',Holds w' (pt bl (.cells z.cells E (0,0))::L) → O P ro N ops os Q ((d,.pointer (some ⟨bl,0,none⟩))::l) ds w')
    (H : Holds w L:=by assumption) (hd : Nat.blt d N = true:=by rfl) : O P ro N ops (⟨some d,.alloc E,ty,pos,af,none⟩::os) Q l ds w:=O.alloc hz hd H h
theorem O.boxP {E : TypeId} {u : Value} (e1 : ev l x = some u) (h : ∀ bl w',Holds w' (pt bl (.cells u.cells E (0,0))::L) → O P ro N ops os Q ((d,.pointer (some ⟨bl,0,none⟩))::l) ds w')
    (H : Holds w L:=by assumption) (hd : Nat.blt d N = true:=by rfl) : O P ro N ops (⟨some d,.box E x,ty,pos,af,none⟩::os) Q l ds w:=O.box e1 hd H h
theorem O.makeR {E : TypeId} (z : α) {info : TypeInfo} {bt : Nat} (hu : UndIs P t (.slice E)) (hs : SizeIs P E 1) (hz : ZeroIs P E (e z)) (hI : InfoIs P E info) (hbt : info.bytes = bt) (e1 : ev l x = some (.int .i64 n)) (e2 : ev l y = some (.int .i64 n))
    (h : ∀ v w',v.oneCell' = true → Holds w' (arr E e v (List.replicate n.toNat z)::L) → O P ro N ops os Q ((d,v)::l) ds w')
    (H : Holds w L:=by assumption) (h0 : 0 ≤ n:=by omega) (hb : bt * n ≤ 140737488355328:=by omega) (hn : n ≤ 9223372036854775807:=by omega)
    (hz1 : (e z).oneCell' = true:=by rfl) (hd : Nat.blt d N = true:=by rfl) : O P ro N ops (⟨some d,.makeSlice t x y,ty,pos,af,none⟩::os) Q l ds w:=by
  subst hbt
  refine O.makeA hu hs hz hz1 hI e1 e2 h0 hb hn hd H fun v w' H'=>h v w' ?_ H'
  obtain ⟨a,c,rfl⟩:=arr_len H'
  rfl
/-- What is told of a pure condition: a contract's answer, in the form that a test wants. -/
theorem Ex.notD {φ : Prop} [Decidable φ] (e1 : ev l x = some (.bool (decide φ))) : Ex P N l (.unOp .not t x) ty w (.bool (decide (¬ φ))) w:=Ex.notP e1
end
end Go.Rr
end
section
/- More rules: append, clear, cut, min and max, what is read of arguments. No program in sight. -/
namespace Go.Rr
set_option linter.unusedVariables false
section
variable {P : Program} {ro : Option Nat} {N : Nat} {Q : Q0} {l : Regs} {ds : List Deferred} {w w' : World} {ops : Array Oper} {os : List Oper}
variable {d : Tmp} {ty : TypeId} {pos : String} {af : Array Edge} {x y : Operand} {t T yt : TypeId} {α : Type} {e : α → Value} {v : Value} {xs : List α} {L : List HProp} {m n : Int} {k : IntKind}
theorem Ex.minI {ats : Array TypeId} (e1 : ev l x = some (.int k m)) (e2 : ev l y = some (.int k n)) : Ex P N l (.call ⟨.builtin .min,#[x,y],ats⟩) ty w (.int k (min m n)) w :=
  ⟨nofun,fun _ _ _ r hr=>by
    simp [execOp,resolve,invoke,builtin,Builtin.min_,Builtin.min2,hr.eval e1,hr.eval e2]
    rw [Int.min_def]; split <;> split <;> omega⟩
theorem Ex.maxI {ats : Array TypeId} (e1 : ev l x = some (.int k m)) (e2 : ev l y = some (.int k n)) : Ex P N l (.call ⟨.builtin .max,#[x,y],ats⟩) ty w (.int k (max m n)) w :=
  ⟨nofun,fun _ _ _ r hr=>by
    simp [execOp,resolve,invoke,builtin,Builtin.max_,Builtin.max2,hr.eval e1,hr.eval e2]
    rw [Int.max_def]; split <;> split <;> omega⟩
/-- A slice that is there, of n elements, from its block's first cell on. -/
def isSl (v : Value) (n : Nat) : Prop:=∃ b cap,v = .slice (some ⟨b,0,none⟩) n cap
theorem arr_sl (H : Holds w (arr T e v xs::L)) (h : 0 < xs.length) : isSl v xs.length:=by
  obtain ⟨b,cap,rest,h1,_,_⟩:=arr_some H h
  exact ⟨b,cap,h1⟩
theorem Ex.idxS {E j : Nat} {i : Int} {k : IntKind} (hu : UndIs P t (.slice E)) (hs : SizeIs P E 1) (e1 : ev l x = some v) (e2 : ev l y = some (.int k i)) (hv : isSl v j:=by assumption) (h0 : 0 ≤ i:=by first|assumption|omega) (h1 : i < j:=by first|assumption|omega) :
    Ex P N l (.indexAddr t x y) ty w (.pointer (some (aAt v i.toNat))) w:=by
  obtain ⟨b,cap,rfl⟩:=hv
  have:=Ex.idx (w:=w) (ty:=ty) (N:=N) hu hs e1 e2 h0 h1
  simpa [aAt] using this
theorem Ex.lenL {ats : Array TypeId} {E j : Nat} (hu : UndIs P t (.slice E)) (e1 : ev l x = some v) (ht : ats[0]? = some t:=by rfl) (hv : isSl v j:=by assumption) : Ex P N l (.call ⟨.builtin .len,#[x],ats⟩) ty w (.int .i64 j) w:=by
  obtain ⟨b,cap,rfl⟩:=hv
  exact Ex.len ht hu e1
/-! ### clear -/
theorem putAt_list : ∀ (vs : List Value) (c : List Value) (off : Nat),off + vs.length ≤ c.length → putAt c.toArray off vs = (c.take off ++ vs ++ c.drop (off + vs.length)).toArray
  | [], c,off,h=>by simp [putAt]
  | u::vs,c,off,h=>by
    simp only [List.length_cons] at h
    simp only [putAt]
    rw [show (c.toArray.setIfInBounds off u) = (c.set off u).toArray from by apply Array.ext'; simp,putAt_list vs _ _ (by simp; omega)]
    congr 1
    rw [List.take_succ_eq_append_getElem (by simp; omega),List.take_set,List.set_eq_of_length_le (by simp; omega),List.getElem_set_self,List.drop_set_of_lt (by omega)]
    simp [Nat.add_assoc,Nat.add_comm 1]
theorem storeCells_list {b : Nat} {vs : List Value} (c : List Value) (hv : ∀ v ∈ vs,v.oneCell' = true) (H : Holds w (pt b (.cells c.toArray T (0,0))::L)) (off : Nat) (h : off + vs.length ≤ c.length) :
    ∃ w',(storeCells ⟨b,off,none⟩ vs).run P w = .ok () w' ∧ Holds w' (pt b (.cells (c.take off ++ vs ++ c.drop (off + vs.length)).toArray T (0,0))::L):=by
  obtain ⟨w',h1,h2⟩:=storeCells_run (P:=P) vs off 0 c.toArray w hv H (by simpa using h)
  refine ⟨w',h1,?_⟩
  rw [Nat.add_zero,putAt_list vs c off h] at h2
  exact h2
theorem zeroCells_one (z : Value) (n : Nat) (hz : z.oneCell' = true) : (Builtin.zeroCells z.cells n).toList = List.replicate n z:=by
  have hc : z.cells = #[z]:=by cases z <;> simp_all [Value.cells,Value.oneCell']
  unfold Builtin.zeroCells
  apply List.ext_getElem
  · simp [hc]
  · intro i h1 h2; simp [hc,Nat.mod_one]
end
end Go.Rr
end
section
/- What lay in memory ahead of a call and is only read: slices among the arguments. No program in sight. -/
namespace Go.Rr
set_option linter.unusedVariables false
/-- v is a slice in w of the elements xs, each laid out by enc in sz cells. -/
def SlIn {α : Type} (w : World) (sz : Nat) (enc : α → List Value) (v : Value) (xs : List α) : Prop :=
  ∃ a cap,v = .slice a xs.length cap ∧ ∀ i (h : i < xs.length),∃ b off,a = some ⟨b,off,none⟩ ∧ (enc xs[i]).length = sz ∧ ∀ j,j < sz → w.cell? ⟨b,off + i * sz + j,none⟩ = (enc xs[i])[j]?
/-- The place of the cell k of a slice. -/
def aIn (v : Value) (k : Nat) : Addr:=match v with|.slice (some a) _ _=>⟨a.block,a.off + k,none⟩|_=>⟨0,0,none⟩
theorem SlIn.cells {α : Type} {w : World} {sz : Nat} {enc : α → List Value} {v : Value} {xs : List α} (h : SlIn w sz enc v xs) : v.cells = #[v]:=by
  obtain ⟨a,cap,rfl,_⟩:=h; rfl
theorem SlIn.one {α : Type} {w : World} {sz : Nat} {enc : α → List Value} {v : Value} {xs : List α} (h : SlIn w sz enc v xs) : v.oneCell' = true:=by
  obtain ⟨a,cap,rfl,_⟩:=h; rfl
section
variable {P : Program} {ro : Option Nat} {N : Nat} {Q : Q0} {l : Regs} {ds : List Deferred} {w w0 : World} {ops : Array Oper} {os : List Oper}
variable {d : Tmp} {ty : TypeId} {pos : String} {af : Array Edge} {x y : Operand} {t T : TypeId} {α : Type} {enc : α → List Value} {e : α → Value} {v : Value} {xs : List α} {L : List HProp} {sz : Nat} {k : IntKind}
theorem Ex.lenIn {ats : Array TypeId} {E : TypeId} (hu : UndIs P t (.slice E)) (e1 : ev l x = some v) (hs : SlIn w0 sz enc v xs:=by assumption) (ht : ats[0]? = some t:=by rfl) : Ex P N l (.call ⟨.builtin .len,#[x],ats⟩) ty w (.int .i64 xs.length) w:=by
  obtain ⟨a,cap,rfl,_⟩:=hs
  exact Ex.len ht hu e1
theorem Ex.idxIn {E : Nat} {i : Int} (hu : UndIs P t (.slice E)) (hz : SizeIs P E sz) (e1 : ev l x = some v) (e2 : ev l y = some (.int k i)) (hs : SlIn w0 sz enc v xs:=by assumption) (h0 : 0 ≤ i:=by first|assumption|omega) (h1 : i < xs.length:=by first|assumption|omega) :
    Ex P N l (.indexAddr t x y) ty w (.pointer (some (aIn v (i.toNat * sz)))) w:=by
  obtain ⟨a,cap,rfl,h⟩:=hs
  obtain ⟨b,off,rfl,_⟩:=h i.toNat (by omega)
  exact Ex.idx hu hz e1 e2 h0 h1
theorem SlIn.cell [Inhabited α] (hs : SlIn w0 sz enc v xs) {i j : Nat} (h : i < xs.length) (hj : j < sz) : w0.cell? ⟨(aIn v (i * sz)).block,(aIn v (i * sz)).off + j,none⟩ = (enc (xs.getD i default))[j]?:=by
  obtain ⟨a,cap,rfl,h'⟩:=hs
  obtain ⟨b,off,rfl,h1,h2⟩:=h' i h
  have:=h2 j hj
  simp only [aIn]
  rw [this]
  simp [List.getD_eq_getElem?_getD,h]
theorem Ex.loadIn1 [Inhabited α] {i : Nat} (ht : AggIs P t false) (e1 : ev l x = some (.pointer (some (aIn v (i * 1))))) (H : Holds w (base w0::L)) (hs : SlIn w0 1 (fun a=>[e a]) v xs:=by assumption) (h : i < xs.length:=by first|assumption|omega) :
    Ex P N l (.load t x) ty w (e (xs.getD i default)) w:=by
  have hc:=hs.cell h (j:=0) (by omega)
  refine Ex.load ht e1 (H.base_cell ?_)
  obtain ⟨a,cap,rfl,h'⟩:=hs
  obtain ⟨b,off,rfl,_⟩:=h' i h
  exact hc
theorem Ex.loadIn [Inhabited α] {i : Nat} (ht : AggIs P t true) (hz : SizeIs P t sz) (e1 : ev l x = some (.pointer (some (aIn v (i * sz))))) (H : Holds w (base w0::L)) (hs : SlIn w0 sz enc v xs:=by assumption) (h : i < xs.length:=by first|assumption|omega) :
    Ex P N l (.load t x) ty w (.agg (enc (xs.getD i default)).toArray) w:=by
  have hl : (enc (xs.getD i default)).length = sz:=by
    obtain ⟨a,cap,rfl,h'⟩:=hs
    obtain ⟨b,off,rfl,h1,_⟩:=h' i h
    simpa [List.getD_eq_getElem?_getD,h] using h1
  refine Ex.loadAgg (c:=(enc (xs.getD i default)).toArray) ht (by rw [List.size_toArray,hl]; exact hz) e1 fun j hj=>?_
  have hj' : j < sz:=by rw [List.size_toArray,hl] at hj; exact hj
  have hc:=hs.cell h hj'
  have : (aIn v (i * sz)).add j = ⟨(aIn v (i * sz)).block,(aIn v (i * sz)).off + j,none⟩:=by
    obtain ⟨a,cap,rfl,h'⟩:=hs
    obtain ⟨b,off,rfl,_⟩:=h' i h
    exact add_off _ _ _
  rw [this]
  have hlt : j < (enc (xs.getD i default)).length:=by omega
  rw [List.getElem?_eq_getElem hlt] at hc
  rw [H.base_cell hc]
  simp only [List.getElem?_toArray]
  rw [List.getElem?_eq_getElem hlt]
/-- A struct or an array stored where one lies. -/
theorem O.storeAggP {bl off n : Nat} {c vs : Array Value} (hs : SizeIs P t n) (e1 : ev l x = some (.pointer (some ⟨bl,off,none⟩))) (e2 : ev l y = some (.agg vs)) (hn : vs.size = n) (hv : vs.toList.all Value.oneCell' = true)
    (h : ∀ w',Holds w' (pt bl (.cells (putAt c off vs.toList) T (0,0))::L) → O P ro N ops os Q l ds w')
    (H : Holds w (pt bl (.cells c T (0,0))::L):=by first
      | assumption
      | exact Holds.f1 (by assumption)
      | exact Holds.f2 (by assumption)
      | exact Holds.f3 (by assumption)
      | exact Holds.f4 (by assumption)
      | exact Holds.f5 (by assumption)
      | exact Holds.f6 (by assumption)
      | exact Holds.f7 (by assumption)) (ho : Nat.ble (off + n) c.size = true:=by rfl) :
    O P ro N ops (⟨none,.store t x y,ty,pos,af,none⟩::os) Q l ds w :=
  O.storeAgg hs hn e1 e2 (List.all_eq_true.1 hv) H (by simpa using ho) h
theorem Ex.loadAggP {bl off n : Nat} {c : Array Value} {fr : Nat × Nat} (ht : AggIs P t true) (hz : SizeIs P t n) (e1 : ev l x = some (.pointer (some ⟨bl,off,none⟩)))
    (H : Holds w (pt bl (.cells c T fr)::L):=by first
      | assumption
      | exact Holds.f1 (by assumption)
      | exact Holds.f2 (by assumption)
      | exact Holds.f3 (by assumption)
      | exact Holds.f4 (by assumption)
      | exact Holds.f5 (by assumption)
      | exact Holds.f6 (by assumption)
      | exact Holds.f7 (by assumption)) (ho : Nat.ble (off + n) c.size = true:=by rfl) : Ex P N l (.load t x) ty w (.agg (c.extract off (off + n))) w:=by
  have ho' : off + n ≤ c.size:=by simpa using ho
  have hsz : (c.extract off (off + n)).size = n:=by simp; omega
  refine Ex.loadAgg ht (by rw [hsz]; exact hz) e1 fun i hi=>?_
  rw [hsz] at hi
  rw [add_off,H.cell (v:=c[off + i]) (Array.getElem?_eq_getElem (by omega)),Array.getElem?_extract]
  simp [show off + i < c.size from by omega]
  omega
/-! ### Results that lie in memory -/
theorem loadVar_one {p : Addr} {u : Value} (ht : AggIs P t false) (hc : w.cell? p = some u:=by first
      | exact Holds.cell (by assumption) rfl
      | exact Holds.cell (Holds.f1 (by assumption)) rfl
      | exact Holds.cell (Holds.f2 (by assumption)) rfl
      | exact Holds.cell (Holds.f3 (by assumption)) rfl
      | exact Holds.cell (Holds.f4 (by assumption)) rfl
      | exact Holds.cell (Holds.f5 (by assumption)) rfl
      | exact Holds.cell (Holds.f6 (by assumption)) rfl
      | exact Holds.cell (Holds.f7 (by assumption)) rfl) : (loadVar t p).run P w = .ok u w:=by
  simp [loadVar,ht w,hc]
theorem loadVar_agg {bl off n : Nat} {c : Array Value} {fr : Nat × Nat} (ht : AggIs P t true) (hz : SizeIs P t n)
    (H : Holds w (pt bl (.cells c T fr)::L):=by first
      | assumption
      | exact Holds.f1 (by assumption)
      | exact Holds.f2 (by assumption)
      | exact Holds.f3 (by assumption)
      | exact Holds.f4 (by assumption)
      | exact Holds.f5 (by assumption)
      | exact Holds.f6 (by assumption)
      | exact Holds.f7 (by assumption)) (ho : Nat.ble (off + n) c.size = true:=by rfl) : (loadVar t ⟨bl,off,none⟩).run P w = .ok (.agg (c.extract off (off + n))) w:=by
  have ho' : off + n ≤ c.size:=by simpa using ho
  simp only [loadVar,Sem.run_bind,ht w,Result.andThen_ok,if_true,hz w,loadCells]
  rw [loadCellsFrom_run (c:=c.extract off (off + n)) _ _ _ (fun j _ hj=>?_)]
  · simp only [Result.andThen_ok,Sem.run_pure]
    congr 2
    simp
  · rw [add_off,H.cell (v:=c[off + j]) (Array.getElem?_eq_getElem (by omega)),Array.getElem?_extract]
    simp only [Array.size_extract]
    constructor
    · simp [show off + j < c.size from by omega]
      omega
    · omega
end
end Go.Rr
end
section
/- A block's cells as a function of their places; a row of assertions, one taken out. No program in sight. -/
namespace Go.Rr
set_option linter.unusedVariables false
/-- n cells. -/
def cs (n : Nat) (f : Nat → Value) : Array Value:=((List.range n).map f).toArray
theorem cs_size (n : Nat) (f : Nat → Value) : (cs n f).size = n:=by simp [cs]
theorem cs_get {n : Nat} {f : Nat → Value} {i : Nat} (h : i < n) : (cs n f)[i]? = some (f i):=by simp [cs,h]
theorem cs_congr {n : Nat} {f g : Nat → Value} (h : ∀ i,i < n → f i = g i) : cs n f = cs n g:=by
  unfold cs; congr 1; exact List.map_congr_left fun i hi=>h i (List.mem_range.1 hi)
theorem cs_ext {n : Nat} {f : Nat → Value} {c : Array Value} (hs : c.size = n) (h : ∀ i,i < n → c[i]? = some (f i)) : c = cs n f:=by
  refine Array.ext_getElem? fun i=>?_
  by_cases hi : i < n
  · rw [h i hi,cs_get hi]
  · rw [Array.getElem?_eq_none (by omega),Array.getElem?_eq_none (by rw [cs_size]; omega)]
theorem cs_set {n : Nat} {f : Nat → Value} {q : Nat} {v : Value} (h : q < n) : (cs n f).setIfInBounds q v = cs n (fun i=>if i = q then v else f i):=by
  refine cs_ext (by simp [cs_size]) fun i hi=>?_
  rw [Array.getElem?_setIfInBounds]
  by_cases e : q = i
  · subst e; simp [cs_size,h]
  · rw [if_neg e,if_neg (Ne.symm e),cs_get hi]
theorem putAt_get : ∀ (vs : List Value) (c : Array Value) (q i : Nat),q + vs.length ≤ c.size → (putAt c q vs)[i]? = if q ≤ i ∧ i < q + vs.length then vs[i - q]? else c[i]?
  | [], c,q,i,h=>by simp only [putAt,List.length_nil,Nat.add_zero]; rw [if_neg (by omega)]
  | v :: vs,c,q,i,h=>by
    simp only [List.length_cons] at h
    simp only [putAt]
    rw [putAt_get vs _ (q + 1) i (by simp; omega)]
    simp only [List.length_cons]
    by_cases e : i = q
    · subst e
      have hc : i < c.size:=by omega
      rw [if_neg (by omega),if_pos (by omega),Nat.sub_self]
      simp [Array.getElem?_setIfInBounds,hc]
    · by_cases h1 : q + 1 ≤ i ∧ i < q + 1 + vs.length
      · rw [if_pos h1,if_pos (by omega),show i - q = (i - (q + 1)) + 1 by omega]; simp
      · rw [if_neg h1,if_neg (by omega)]
        rw [Array.getElem?_setIfInBounds_ne (Ne.symm e)]
theorem cs_put {n : Nat} {f : Nat → Value} {q : Nat} {vs : List Value} (h : q + vs.length ≤ n) : putAt (cs n f) q vs = cs n (fun i=>if q ≤ i ∧ i < q + vs.length then vs.getD (i - q) default else f i):=by
  refine cs_ext (by rw [putAt_size,cs_size]) fun i hi=>?_
  rw [putAt_get _ _ _ _ (by rw [cs_size]; exact h)]
  split
  · rw [List.getElem?_eq_getElem (by omega),List.getD_eq_getElem?_getD,List.getElem?_eq_getElem (by omega)]; rfl
  · exact cs_get hi
def cval (n : Nat) (f : Nat → Value) : Value:=.agg (cs n f)
def cel (b T n : Nat) (f : Nat → Value) : HProp:=hex fun c=>star [pt b (.cells c T (0,0)),hp (c = cs n f)]
section
variable {P : Program} {ro : Option Nat} {N : Nat} {Q : Q0} {l : Regs} {ds : List Deferred} {w w' : World} {ops : Array Oper} {os : List Oper}
variable {d : Tmp} {ty : TypeId} {pos : String} {af : Array Edge} {x y : Operand} {t T yt : TypeId} {L : List HProp} {k : IntKind} {n : Nat} {f g : Nat → Value}
theorem cel_pt {b : Nat} : Holds w (cel b T n f::L) ↔ Holds w (pt b (.cells (cs n f) T (0,0))::L):=by
  unfold cel
  simp only [Holds.hex,Holds.star,List.cons_append,List.nil_append]
  constructor
  · rintro ⟨c,H⟩
    obtain ⟨rfl,H⟩:=Holds.hp.1 H.swap
    exact H
  · intro H
    exact ⟨_,Holds.swap (Holds.hp.2 ⟨rfl,H⟩)⟩
theorem cel_congr {b : Nat} (h : ∀ i,i < n → f i = g i) : cel b T n f = cel b T n g:=by
  unfold cel; rw [cs_congr h]
theorem Holds.celTo {b : Nat} (H : Holds w (cel b T n f::L)) (h : ∀ i,i < n → f i = g i) : Holds w (cel b T n g::L):=by rw [← cel_congr h]; exact H
theorem cel_get {b q : Nat} (H : Holds w (cel b T n f::L)) (h : q < n) : w.cell? ⟨b,q,none⟩ = some (f q):=Holds.cell (cel_pt.1 H) (cs_get h)
theorem Ex.loadC {b q : Nat} {u : Value} (ht : AggIs P t false) (e1 : ev l x = some (.pointer (some ⟨b,q,none⟩))) (H : Holds w (cel b T n f::L)) (h : q < n) (hu : f q = u) : Ex P N l (.load t x) ty w u w :=
  Ex.load ht e1 (hu ▸ cel_get H h)
theorem Ex.loadAggC {b q m : Nat} (ht : AggIs P t true) (hz : SizeIs P t m) (e1 : ev l x = some (.pointer (some ⟨b,q,none⟩))) (H : Holds w (cel b T n f::L)) (h : q + m ≤ n) : Ex P N l (.load t x) ty w (cval m fun k=>f (q + k)) w:=by
  refine Ex.loadAgg (c:=cs m fun k=>f (q + k)) ht (by rw [cs_size]; exact hz) e1 fun i hi=>?_
  rw [cs_size] at hi
  rw [cs_get hi,add_off]
  exact cel_get H (by omega)
theorem O.storeC {b q : Nat} {v : Value} (hs : SizeIs P t 1) (e1 : ev l x = some (.pointer (some ⟨b,q,none⟩))) (e2 : ev l y = some v) (hv : v.oneCell' = true) (H : Holds w (cel b T n f::L)) (h : q < n)
    (hk : ∀ w',Holds w' (cel b T n (fun i=>if i = q then v else f i)::L) → O P ro N ops os Q l ds w') : O P ro N ops (⟨none,.store t x y,ty,pos,af,none⟩::os) Q l ds w :=
  O.store hs e1 e2 hv (cel_pt.1 H) (by rw [cs_size]; exact h) fun w' H'=>hk w' (cel_pt.2 (by rw [cs_set h] at H'; exact H'))
theorem O.storeAggC {b q m : Nat} {vs : Array Value} (hs : SizeIs P t m) (e1 : ev l x = some (.pointer (some ⟨b,q,none⟩))) (e2 : ev l y = some (.agg vs)) (hn : vs.size = m) (hv : ∀ v ∈ vs.toList,v.oneCell' = true) (H : Holds w (cel b T n f::L)) (h : q + m ≤ n)
    (hk : ∀ w',Holds w' (cel b T n (fun i=>if q ≤ i ∧ i < q + m then vs.toList.getD (i - q) default else f i)::L) → O P ro N ops os Q l ds w') : O P ro N ops (⟨none,.store t x y,ty,pos,af,none⟩::os) Q l ds w:=by
  subst hn
  refine O.storeAgg hs rfl e1 e2 hv (cel_pt.1 H) (by rw [cs_size]; exact h) fun w' H'=>hk w' (cel_pt.2 ?_)
  rw [cs_put (by simpa using h)] at H'
  simpa using H'
theorem O.boxC {e : TypeId} (e1 : ev l x = some (cval n f)) (h : ∀ bl w',Holds w' (cel bl e n f::L) → O P ro N ops os Q ((d,.pointer (some ⟨bl,0,none⟩))::l) ds w') (H : Holds w L:=by assumption) (hd : Nat.blt d N = true:=by rfl) :
    O P ro N ops (⟨some d,.box e x,ty,pos,af,none⟩::os) Q l ds w :=
  O.box e1 hd H fun bl w' H'=>h bl w' (cel_pt.2 H')
/-- A cell of a variable, however far down it stands. -/
theorem O.storeQ {bl off : Nat} {c : Array Value} {v : Value} (hs : SizeIs P t 1) (e1 : ev l x = some (.pointer (some ⟨bl,off,none⟩))) (e2 : ev l y = some v)
    (h : ∀ w',Holds w' (pt bl (.cells (c.setIfInBounds off v) T (0,0))::L) → O P ro N ops os Q l ds w')
    (H : Holds w (pt bl (.cells c T (0,0))::L):=by exact Holds.to (by assumption)) (hv : v.oneCell' = true:=by first|rfl|assumption) (hb : Nat.blt off c.size = true:=by rfl) : O P ro N ops (⟨none,.store t x y,ty,pos,af,none⟩::os) Q l ds w :=
  O.store hs e1 e2 hv H (by simpa using hb) h
theorem fill_one {pls : Nat → Option (Nat × Nat)} {i o : Nat} {v : Value} {rest : List (Nat × Value)} (hp : pls i = some (o,1)) (hv : v.oneCell' = true) (ho : o < n) :
    Instr.fill pls (cs n f) ((i,v)::rest) = Instr.fill pls (cs n fun q=>if q = o then v else f q) rest:=by
  have hc : v.cells = #[v]:=cells_one hv
  rw [Instr.fill,hp]
  simp only [hc]
  rw [if_neg (by rw [cs_size]; simp; omega)]
  congr 1
  show (cs n f).setIfInBounds (o + 0) v = _
  rw [Nat.add_zero,cs_set ho]
/-- A struct, two of its fields given. -/
theorem Ex.buildC2 {fs : Array Field} {i1 i2 o1 o2 : Nat} {u v z : Value} {pls : Array (Nat × Nat)} (hu : UndIs P t (.struct fs)) (hz : ZeroIs P t z) (hzc : z.cells = cs n f) (hsz : ∀ w,(fs.mapM fun (f : Field)=>(do pure (f.offset,← sizeOf f.type) : Sem (Nat × Nat))).run P w = .ok pls w)
    (p1 : pls[i1]? = some (o1,1)) (p2 : pls[i2]? = some (o2,1)) (l1 : o1 < n) (l2 : o2 < n) (e1 : ev l x = some u) (e2 : ev l y = some v) (h1 : u.oneCell' = true) (h2 : v.oneCell' = true) :
    Ex P N l (.build t #[(i1,x),(i2,y)]) ty w (cval n fun q=>if q = o2 then v else if q = o1 then u else f q) w :=
  ⟨nofun,fun _ _ _ r hr=>by
    simp only [execOp,List.map_toArray,List.map_cons,List.map_nil,hr.eval e1,hr.eval e2,Instr.build,Sem.run_bind,hz w,Result.andThen_ok,hu w,hsz w,hzc]
    rw [fill_one p1 h1 l1,fill_one p2 h2 l2]
    rfl⟩
end
/-! ### Many assertions, one taken out -/
def big (f : Nat → HProp) (l : List Nat) : HProp:=star (l.map f)
def bigBut (f : Nat → HProp) (l : List Nat) (j : Nat) : HProp:=star ((l.filter (· ≠ j)).map f)
section
variable {w : World} {L : List HProp} {f g : Nat → HProp} {j : Nat}
theorem big_sep {r : Rest} : ∀ (l : List Nat),j ∈ l → l.Nodup → ∀ h,sep (big f l::L) r h → sep (f j::bigBut f l j::L) r h
  | [], hj,_,h,k=>by cases hj
  | a :: l,hj,hn,h,k=>by
    have hn':=List.nodup_cons.1 hn
    have k1 : sep (f a::big f l::L) r h:=sep_cons (fun h k=>sep_star.2 k) (sep_star.1 k)
    by_cases e : a = j
    · subst e
      refine sep_cons (fun h k=>?_) k1
      have : bigBut f (a::l) a = big f l:=by
        unfold bigBut big
        rw [List.filter_cons_of_neg (by simp),List.filter_eq_self.2 (fun x hx=>by
          have : x ≠ a:=fun e=>hn'.1 (e ▸ hx)
          simpa using this)]
      rw [this]; exact k
    · have hj' : j ∈ l:=by
        rcases List.mem_cons.1 hj with h|h
        · exact absurd h.symm e
        · exact h
      have k2:=sep_swap (sep_cons (fun h k=>big_sep l hj' hn'.2 h k) k1)
      have : bigBut f (a::l) j = star (f a::(l.filter (· ≠ j)).map f):=by
        unfold bigBut
        rw [List.filter_cons_of_pos (by simpa using e)]; rfl
      rw [this]
      exact sep_cons (fun h k=>sep_star.2 (sep_cons (fun h k=>sep_star.1 k) k)) k2
theorem big_sep2 {r : Rest} : ∀ (l : List Nat),j ∈ l → l.Nodup → ∀ h,sep (f j::bigBut f l j::L) r h → sep (big f l::L) r h
  | [], hj,_,h,k=>by cases hj
  | a :: l,hj,hn,h,k=>by
    have hn':=List.nodup_cons.1 hn
    suffices k1 : sep (f a::big f l::L) r h from sep_star.2 (sep_cons (fun h k=>sep_star.1 k) k1)
    by_cases e : a = j
    · subst e
      refine sep_cons (fun h k=>?_) k
      have : bigBut f (a::l) a = big f l:=by
        unfold bigBut big
        rw [List.filter_cons_of_neg (by simp),List.filter_eq_self.2 (fun x hx=>by
          have : x ≠ a:=fun e=>hn'.1 (e ▸ hx)
          simpa using this)]
      rw [← this]; exact k
    · have hj' : j ∈ l:=by
        rcases List.mem_cons.1 hj with h|h
        · exact absurd h.symm e
        · exact h
      have : bigBut f (a::l) j = star (f a::(l.filter (· ≠ j)).map f):=by
        unfold bigBut
        rw [List.filter_cons_of_pos (by simpa using e)]; rfl
      rw [this] at k
      have k2 : sep (f j::f a::bigBut f l j::L) r h:=sep_cons (fun h k=>sep_cons (fun h k=>sep_star.2 k) (sep_star.1 k)) k
      exact sep_cons (fun h k=>big_sep2 l hj' hn'.2 h k) (sep_swap k2)
theorem big_take {n : Nat} (hj : j < n) (H : Holds w (big f (List.range n)::L)) : Holds w (f j::bigBut f (List.range n) j::L):=big_sep _ (List.mem_range.2 hj) List.nodup_range _ H
theorem big_put {n : Nat} (hj : j < n) (H : Holds w (f j::bigBut f (List.range n) j::L)) : Holds w (big f (List.range n)::L):=big_sep2 _ (List.mem_range.2 hj) List.nodup_range _ H
theorem bigBut_congr {l : List Nat} (h : ∀ k,k ∈ l → k ≠ j → f k = g k) : bigBut f l j = bigBut g l j:=by
  unfold bigBut; congr 1
  refine List.map_congr_left fun k hk=>?_
  have:=List.mem_filter.1 hk
  exact h k this.1 (by simpa using this.2)
theorem big_congr {l : List Nat} (h : ∀ k,k ∈ l → f k = g k) : big f l = big g l:=by
  unfold big; congr 1; exact List.map_congr_left h
theorem big_nil : Holds w (big f (List.range 0)::L) ↔ Holds w L:=by
  unfold big; exact Holds.star
theorem big_succ {n : Nat} (H : Holds w (f n::big f (List.range n)::L)) : Holds w (big f (List.range (n + 1))::L):=by
  refine big_put (j:=n) (by omega) ?_
  have : bigBut f (List.range (n + 1)) n = big f (List.range n):=by
    unfold bigBut big
    rw [List.range_succ,List.filter_append,List.filter_eq_self.2 (fun x hx=>by
      have:=List.mem_range.1 hx
      simp; omega)]
    simp
  rw [this]; exact H
end
end Go.Rr
end
section
/- Slices whose elements take several cells each, owned: their rules. No program in sight. -/
namespace Go.Rr
set_option linter.unusedVariables false
section lists
variable {α : Type} {e : α → List Value} {sz : Nat}
theorem flat_len (he : ∀ x,(e x).length = sz) : ∀ (xs : List α),(xs.flatMap e).length = xs.length * sz
  | [] => by simp
  | x::xs=>by simp [flat_len he xs,he,Nat.add_mul,Nat.add_comm]
theorem flat_get (he : ∀ x,(e x).length = sz) : ∀ (xs : List α) (i j : Nat) (h : i < xs.length),j < sz → (xs.flatMap e)[i * sz + j]? = (e xs[i])[j]?
  | x::xs,0,j,h,hj=>by simp [List.flatMap_cons,List.getElem?_append_left (show j < (e x).length by rw [he]; exact hj)]
  | x::xs,i + 1,j,h,hj=>by
    rw [List.flatMap_cons,List.getElem?_append_right (by rw [he,Nat.add_mul]; omega),he,show (i + 1) * sz + j - sz = i * sz + j from by rw [Nat.add_mul]; omega,flat_get he xs i j (by simpa using h) hj]
    rfl
theorem flat_take (he : ∀ x,(e x).length = sz) : ∀ (xs : List α) (i : Nat),(xs.flatMap e).take (i * sz) = (xs.take i).flatMap e
  | [], i=>by simp
  | x::xs,0=>by simp
  | x::xs,i + 1=>by
    rw [List.flatMap_cons,List.take_succ_cons,List.flatMap_cons,List.take_append,List.take_of_length_le (by rw [he,Nat.add_mul]; omega),he,show (i + 1) * sz - sz = i * sz from by rw [Nat.add_mul]; omega,flat_take he xs i]
theorem flat_drop (he : ∀ x,(e x).length = sz) : ∀ (xs : List α) (i : Nat),(xs.flatMap e).drop (i * sz) = (xs.drop i).flatMap e
  | [], i=>by simp
  | x::xs,0=>by simp
  | x::xs,i + 1=>by
    rw [List.flatMap_cons,List.drop_succ_cons,List.drop_append,he,List.drop_eq_nil_of_le (by rw [he,Nat.add_mul]; omega),show (i + 1) * sz - sz = i * sz from by rw [Nat.add_mul]; omega,flat_drop he xs i]
    simp
theorem flat_set (he : ∀ x,(e x).length = sz) (xs : List α) (i : Nat) (h : i < xs.length) (z : α) (rest : List Value) :
    ((xs.flatMap e ++ rest).take (i * sz) ++ e z ++ (xs.flatMap e ++ rest).drop (i * sz + (e z).length)) = (xs.set i z).flatMap e ++ rest:=by
  have h1 : i * sz + sz ≤ (xs.flatMap e).length:=by
    rw [flat_len he,← Nat.succ_mul]; exact Nat.mul_le_mul_right _ h
  rw [he,List.take_append_of_le_length (by omega),List.drop_append_of_le_length h1,flat_take he,← Nat.succ_mul,flat_drop he,List.set_eq_take_append_cons_drop]
  rw [if_pos h]
  simp [List.append_assoc]
end lists
/-- v is a slice that owns its row, of elements of sz cells each. -/
def arrN {α : Type} (T : TypeId) (sz : Nat) (e : α → List Value) (v : Value) (xs : List α) : HProp:=fun _ f =>
  (v = .slice none 0 0 ∧ xs = []) ∨ ∃ b cap rest,v = .slice (some ⟨b,0,none⟩) xs.length cap ∧ xs.length * sz + rest.length = cap * sz ∧ xs.length ≤ cap ∧ f b = some (.cells (xs.flatMap e ++ rest).toArray T (0,0))
section
variable {P : Program} {ro : Option Nat} {N : Nat} {Q : Q0} {l : Regs} {ds : List Deferred} {w w' : World} {ops : Array Oper} {os : List Oper}
variable {d : Tmp} {ty : TypeId} {pos : String} {af : Array Edge} {x y : Operand} {t T : TypeId} {α : Type} {sz : Nat} {e : α → List Value} {v : Value} {xs : List α} {L : List HProp} {k : IntKind}
theorem arrN_cases (H : Holds w (arrN T sz e v xs::L)) : (v = .slice none 0 0 ∧ xs = [] ∧ Holds w L) ∨ ∃ b cap rest,v = .slice (some ⟨b,0,none⟩) xs.length cap ∧ xs.length * sz + rest.length = cap * sz ∧ xs.length ≤ cap ∧ Holds w (pt b (.cells (xs.flatMap e ++ rest).toArray T (0,0))::L):=by
  obtain ⟨g,k,h1,h2,h3,h4,h5⟩:=H
  rcases h4 with ⟨a,b⟩|⟨b,cap,rest,h6,h7,h9,h8⟩
  · exact .inl ⟨a,b,sep_le h5 h3⟩
  · exact .inr ⟨b,cap,rest,h6,h7,h9,g,k,h1,h2,h3,h8,h5⟩
theorem arrN_mk {b cap : Nat} {rest : List Value} (h : xs.length * sz + rest.length = cap * sz) (hc : xs.length ≤ cap) (H : Holds w (pt b (.cells (xs.flatMap e ++ rest).toArray T (0,0))::L)) : Holds w (arrN T sz e (.slice (some ⟨b,0,none⟩) xs.length cap) xs::L):=by
  obtain ⟨g,k,h1,h2,h3,h4,h5⟩:=H
  exact ⟨g,k,h1,h2,h3,.inr ⟨b,cap,rest,rfl,h,hc,h4⟩,h5⟩
theorem arrN_some (H : Holds w (arrN T sz e v xs::L)) (h : 0 < xs.length) : ∃ b cap rest,v = .slice (some ⟨b,0,none⟩) xs.length cap ∧ xs.length * sz + rest.length = cap * sz ∧ xs.length ≤ cap ∧ Holds w (pt b (.cells (xs.flatMap e ++ rest).toArray T (0,0))::L):=by
  rcases arrN_cases H with ⟨rfl,rfl,_⟩|h
  · simp at h
  · exact h
theorem arrN_sl (H : Holds w (arrN T sz e v xs::L)) (h : 0 < xs.length) : isSl v xs.length:=by
  obtain ⟨b,cap,rest,h1,_,_,_⟩:=arrN_some H h
  exact ⟨b,cap,h1⟩
theorem arr_one {e : α → Value} (H : Holds w (arr T e v xs::L)) : v.oneCell' = true:=by
  rcases arr_cases H with ⟨rfl,_,_⟩|⟨b,cap,rest,rfl,_⟩ <;> rfl
theorem Ex.lenN {ats : Array TypeId} {E : TypeId} (hu : UndIs P t (.slice E)) (e1 : ev l x = some v) (ht : ats[0]? = some t:=by rfl)
    (H : Holds w (arrN T sz e v xs::L):=by exact Holds.to (by assumption)) : Ex P N l (.call ⟨.builtin .len,#[x],ats⟩) ty w (.int .i64 xs.length) w:=by
  rcases arrN_cases H with ⟨rfl,rfl,_⟩|⟨b,cap,rest,rfl,_,_⟩
  · exact Ex.len ht hu e1
  · exact Ex.len ht hu e1
/-- The place of an element's first cell. -/
theorem Ex.idxSN {E j : Nat} {i : Int} (hu : UndIs P t (.slice E)) (hs : SizeIs P E sz) (e1 : ev l x = some v) (e2 : ev l y = some (.int k i)) (hv : isSl v j:=by assumption) (h0 : 0 ≤ i:=by first|assumption|omega) (h1 : i < j:=by first|assumption|omega) :
    Ex P N l (.indexAddr t x y) ty w (.pointer (some (aAt v (i.toNat * sz)))) w:=by
  obtain ⟨b,cap,rfl⟩:=hv
  have:=Ex.idx (w:=w) (ty:=ty) (N:=N) hu hs e1 e2 h0 h1
  simpa [aAt] using this
theorem Ex.idxN {E : Nat} {i : Int} (hu : UndIs P t (.slice E)) (hs : SizeIs P E sz) (e1 : ev l x = some v) (e2 : ev l y = some (.int k i))
    (H : Holds w (arrN T sz e v xs::L):=by exact Holds.to (by assumption)) (h0 : 0 ≤ i:=by first|assumption|omega) (h1 : i < xs.length:=by first|assumption|omega) :
    Ex P N l (.indexAddr t x y) ty w (.pointer (some (aAt v (i.toNat * sz)))) w:=Ex.idxSN hu hs e1 e2 (arrN_sl H (by omega)) h0 h1
/-- A field of a struct that lies in a slice. -/
theorem Ex.fieldS {s f n i j : Nat} (hf : FieldIs P s f n) (e1 : ev l x = some (.pointer (some (aAt v i)))) (hv : isSl v j:=by assumption) : Ex P N l (.fieldAddr s x f) ty w (.pointer (some (aAt v (i + n)))) w:=by
  obtain ⟨b,cap,rfl⟩:=hv
  exact Ex.field hf e1
theorem arrN_cell [Inhabited α] {i j : Nat} {u : Value} (he : ∀ x,(e x).length = sz) (H : Holds w (arrN T sz e v xs::L)) (h : i < xs.length) (hu : (e (xs.getD i default))[j]? = some u) : w.cell? (aAt v (i * sz + j)) = some u:=by
  obtain ⟨b,cap,rest,rfl,_,_,H⟩:=arrN_some H (by omega)
  have hj : j < sz:=by rw [← he (xs.getD i default)]; exact (List.getElem?_eq_some_iff.1 hu).1
  refine H.cell ?_
  rw [List.getElem?_toArray,List.getElem?_append_left,flat_get he xs i j h hj]
  · simpa [List.getD_eq_getElem?_getD,h] using hu
  · rw [flat_len he]
    have:=Nat.mul_le_mul_right sz h
    rw [Nat.succ_mul] at this
    omega
theorem Ex.loadAggN [Inhabited α] {i : Nat} (ht : AggIs P t true) (hs : SizeIs P t sz) (e1 : ev l x = some (.pointer (some (aAt v (i * sz)))))
    (H : Holds w (arrN T sz e v xs::L):=by exact Holds.to (by assumption)) (he : ∀ x,(e x).length = sz:=by intro _; rfl) (h : i < xs.length:=by first|assumption|omega) : Ex P N l (.load t x) ty w (.agg (e (xs.getD i default)).toArray) w:=by
  refine Ex.loadAgg (c:=(e (xs.getD i default)).toArray) ht (by rw [List.size_toArray,he]; exact hs) e1 fun j hj=>?_
  rw [List.size_toArray,he] at hj
  have hc:=arrN_cell (j:=j) (u:=(e (xs.getD i default))[j]'(by rw [he]; exact hj)) he H h (List.getElem?_eq_getElem _)
  obtain ⟨b,cap,rest,rfl,_,_,_⟩:=arrN_some H (by omega)
  show w.cell? ((Addr.mk b (i * sz) none).add j) = _
  rw [add_off,List.getElem?_toArray,List.getElem?_eq_getElem (by rw [he]; exact hj)]
  exact hc
theorem O.storeAggN {i : Nat} {vs : Array Value} {z : α} (hs : SizeIs P t sz) (e1 : ev l x = some (.pointer (some (aAt v (i * sz))))) (e2 : ev l y = some (.agg vs)) (hz : vs.toList = e z)
    (h : ∀ w',Holds w' (arrN T sz e v (xs.set i z)::L) → O P ro N ops os Q l ds w') (hv : vs.toList.all Value.oneCell' = true)
    (H : Holds w (arrN T sz e v xs::L):=by exact Holds.to (by assumption)) (he : ∀ x,(e x).length = sz:=by intro _; rfl) (hi : i < xs.length:=by first|assumption|omega) :
    O P ro N ops (⟨none,.store t x y,ty,pos,af,none⟩::os) Q l ds w:=by
  obtain ⟨b,cap,rest,rfl,hl,hc,H⟩:=arrN_some H (by omega)
  have hn : vs.size = sz:=by rw [← he z,← hz,Array.length_toList]
  have hle : i * sz + sz ≤ xs.length * sz:=by rw [← Nat.succ_mul]; exact Nat.mul_le_mul_right _ hi
  refine O.storeAgg hs hn e1 e2 (List.all_eq_true.1 hv) H (by rw [List.size_toArray,List.length_append,flat_len he]; show i * sz + sz ≤ _; omega) fun w' H'=>h w' ?_
  rw [putAt_list _ _ _ (by rw [List.length_append,flat_len he,hz,he]; show i * sz + sz ≤ _; omega),hz] at H'
  have:=flat_set he xs i hi z rest
  rw [this] at H'
  have:=arrN_mk (xs:=xs.set i z) (cap:=cap) (by simpa using hl) (by simpa using hc) H'
  simpa using this
theorem flat_replicate (he : ∀ x,(e x).length = sz) (hz : 0 < sz) (z : α) (n : Nat) (c : Array Value) (hc : c.toList = e z) : ((Array.range (n * sz)).map fun x=>c[x % c.size]!) = ((List.replicate n z).flatMap e).toArray:=by
  have hcs : c.size = sz:=by rw [← he z,← hc,Array.length_toList]
  apply Array.ext'
  apply List.ext_getElem?
  intro i
  simp only [Array.toList_map,Array.toList_range,List.getElem?_map]
  rcases Nat.lt_or_ge i (n * sz) with h|h
  · have hd:=Nat.div_add_mod i sz
    have hm:=Nat.mod_lt i hz
    have hq : i / sz < n:=Nat.div_lt_of_lt_mul (by rw [Nat.mul_comm]; exact h)
    have h2:=flat_get he (List.replicate n z) (i / sz) (i % sz) (by simpa using hq) hm
    rw [Nat.mul_comm,hd] at h2
    rw [h2]
    simp only [List.getElem_replicate,List.getElem?_range h,Option.map_some]
    rw [← hc,hcs]
    simp [show i % sz < c.size from by omega]
  · rw [List.getElem?_eq_none (by simpa using h),List.getElem?_eq_none (by rw [flat_len he]; simpa using h)]
    rfl
theorem O.makeN {E : TypeId} {n : Int} (z : α) {zv : Value} {info : TypeInfo} {bt : Nat} (hu : UndIs P t (.slice E)) (hs : SizeIs P E sz) (hz : ZeroIs P E zv) (hI : InfoIs P E info) (hbt : info.bytes = bt) (e1 : ev l x = some (.int .i64 n)) (e2 : ev l y = some (.int .i64 n))
    (hzv : zv.cells.toList = e z) (hsz : 0 < sz)
    (h : ∀ v w',v.oneCell' = true → Holds w' (arrN E sz e v (List.replicate n.toNat z)::L) → O P ro N ops os Q ((d,v)::l) ds w')
    (H : Holds w L:=by assumption) (h0 : 0 ≤ n:=by omega) (hb : bt * n ≤ 140737488355328:=by omega) (hn : n ≤ 9223372036854775807:=by omega)
    (he : ∀ x,(e x).length = sz:=by intro _; rfl) (hd : Nat.blt d N = true:=by rfl) : O P ro N ops (⟨some d,.makeSlice t x y,ty,pos,af,none⟩::os) Q l ds w:=by
  subst hbt
  have hw : IntKind.i64.wrap n = n:=IntWalk.i64_in n ⟨by omega,hn⟩
  refine O.val (w':={ w with heap:=w.heap.push (.cells ((List.replicate n.toNat z).flatMap e).toArray E) }) (v:=.slice (some ⟨w.heap.size,0,none⟩) n.toNat n.toNat) nofun (by simpa using hd) (fun a ha=>?_) (h _ _ rfl ?_)
  · have hnl : ¬ ((2 : Int) ^ 48 < info.bytes * n) := by have : (2:Int)^48 = 281474976710656:=by decide
                                                         omega
    simp only [execOp,ha.eval e1,ha.eval e2,Instr.makeSlice,asInt,asIntOf,Sem.run_bind,hu w,hI w,Result.andThen_ok,Sem.run_pure,hw]
    rw [if_neg (by simp; omega)]
    simp only [Sem.run_bind,Result.andThen_ok,run_askRoom,hs w,newRow]
    by_cases h0 : n.toNat * sz = 0
    · have h1 : n.toNat = 0:=by
        rcases Nat.eq_zero_or_pos n.toNat with h|h
        · exact h
        · have:=Nat.mul_pos h hsz; omega
      simp [h1,show Array.range 0 = #[] from by simp]
    · simp only [if_neg h0,Sem.run_bind,hz w,Result.andThen_ok,Sem.run_pure,run_newObj,flat_replicate he hsz z n.toNat zv.cells hzv]
  · have:=arrN_mk (T:=E) (sz:=sz) (e:=e) (xs:=List.replicate n.toNat z) (rest:=[]) (cap:=n.toNat) (by simp) (by simp) (by
      have:=H.alloc (.cells ((List.replicate n.toNat z).flatMap e).toArray E)
      simpa using this)
    simpa using this
end
end Go.Rr
end
section
/- append, copy, cuts: of owned slices. No program in sight. -/
namespace Go.Rr
set_option linter.unusedVariables false
theorem UndIs.pure {P : Program} {t : TypeId} {d : TypeDesc} (h : UndIs P t d) : P.underlying t = some d:=by
  have h0:=h default
  simp only [underlying,Sem.run_bind,run_program,Result.andThen_ok] at h0
  split at h0
  · rename_i e; simp only [Sem.run_pure,Result.ok.injEq] at h0; rw [e,h0.1]
  · simp at h0
theorem InfoIs.pure {P : Program} {t : TypeId} {i : TypeInfo} (h : InfoIs P t i) : P.info? t = some i:=by
  have h0:=h default
  simp only [typeInfo,Sem.run_bind,run_program,Result.andThen_ok] at h0
  split at h0
  · rename_i e; simp only [Sem.run_pure,Result.ok.injEq] at h0; rw [e,h0.1]
  · simp at h0
theorem SizeIs.of {P : Program} {t n : Nat} {i : TypeInfo} (h : SizeIs P t n) (hi : InfoIs P t i) : i.size = n:=by
  have h0:=h default
  simp only [sizeOf,Sem.run_bind,hi default,Result.andThen_ok,Sem.run_pure,Result.ok.injEq] at h0
  exact h0.1
theorem ZeroIs.of {P : Program} {t : Nat} {z : Value} {i : TypeInfo} (h : ZeroIs P t z) (hi : InfoIs P t i) : i.zero = some z:=by
  have h0:=h default
  simp only [zeroValue,Sem.run_bind,hi default,Result.andThen_ok] at h0
  split at h0
  · rename_i e; simp only [Sem.run_pure,Result.ok.injEq] at h0; rw [e,h0.1]
  · simp at h0
section
variable {P : Program} {ro : Option Nat} {N : Nat} {Q : Q0} {l : Regs} {ds : List Deferred} {w w' : World} {ops : Array Oper} {os : List Oper}
variable {d : Tmp} {ty : TypeId} {pos : String} {af : Array Edge} {x y : Operand} {t T : TypeId} {α : Type} {L : List HProp} {info : TypeInfo} {zv : Value} {sz : Nat}
theorem pt_cells {b : Nat} {olds rest : List Value} (H : Holds w (pt b (.cells (olds ++ rest).toArray T (0,0))::L)) (off : Nat) : ∀ j u,(olds.drop off)[j]? = some u → w.cell? ((Addr.mk b off none).add j) = some u:=by
  intro j u e
  rw [add_off]
  refine H.cell ?_
  rw [List.getElem?_drop] at e
  have h1:=(List.getElem?_eq_some_iff.1 e).1
  rw [List.getElem?_toArray,List.getElem?_append_left h1]; exact e
theorem append_some {g n cap b off m c : Nat} {olds rest news : List Value} (hu : UndIs P t (.slice T)) (hI : InfoIs P T info) (hs : SizeIs P T sz) (hz : ZeroIs P T zv) (hzc : zv.cells.size = sz)
    (hlo : olds.length = n * sz) (hr : olds.length + rest.length = cap * sz) (hnc : n ≤ cap) (hln : news.length = m * sz) (hnews : ∀ j u,news[j]? = some u → w.cell? ((Addr.mk b off none).add j) = some u) (h1 : ∀ u ∈ news,u.oneCell' = true)
    (H : Holds w (pt g (.cells (olds ++ rest).toArray T (0,0))::L)) (h63 : (n + m : Nat) ≤ 9223372036854775807) (hb : (n + m) * info.bytes ≤ 140737488355328) :
    ∃ g' cap' rest' w',(Builtin.append_ #[t,t] ty #[.slice (some ⟨g,0,none⟩) n cap,.slice (some ⟨b,off,none⟩) m c]).run P w = .ok (.slice (some ⟨g',0,none⟩) (n + m) cap') w' ∧
      (olds ++ news).length + rest'.length = cap' * sz ∧ n + m ≤ cap' ∧ Holds w' (pt g' (.cells (olds ++ news ++ rest').toArray T (0,0))::L):=by
  have hisz:=hs.of hI
  have hfc:=run_firstCells_some (P:=P) w sz m ⟨b,off,none⟩ m c news hln hnews
  rcases Nat.lt_or_ge cap (n + m) with hg|hroom
  · have hold:=pt_cells H 0
    rw [List.drop_zero] at hold
    have hrun:=run_append_grow (P:=P) w t ty T info zv hu.pure hI.pure (hz.of hI) ⟨g,0,none⟩ n cap olds (by rw [hisz]; exact hlo) hold ⟨b,off,none⟩ m c news (by rw [hisz]; exact hln) hnews hg (by omega) (growslice_fits hg hb)
    have hge:=grownCap_ge w (n + m) cap T
    refine ⟨_,_,(Builtin.zeroCells zv.cells (grownCap w (n + m) cap T - (n + m))).toList,_,hrun,?_,hge,?_⟩
    · have : (Builtin.zeroCells zv.cells (grownCap w (n + m) cap T - (n + m))).size = (grownCap w (n + m) cap T - (n + m)) * sz:=by simp [Builtin.zeroCells,hzc]
      have h2 : (Builtin.zeroCells zv.cells (grownCap w (n + m) cap T - (n + m))).toList.length = (grownCap w (n + m) cap T - (n + m)) * sz:=by rw [Array.length_toList]; exact this
      rw [List.length_append,hlo,hln,h2,← Nat.add_mul,← Nat.add_mul]
      congr 1; omega
    · have H2 : Holds w.drew L:=H.drop.same rfl rfl
      have:=H2.alloc (.cells (olds.toArray ++ news.toArray ++ Builtin.zeroCells zv.cells (grownCap w (n + m) cap T - (n + m))) T)
      have e : (olds ++ news ++ (Builtin.zeroCells zv.cells (grownCap w (n + m) cap T - (n + m))).toList).toArray = olds.toArray ++ news.toArray ++ Builtin.zeroCells zv.cells (grownCap w (n + m) cap T - (n + m)):=by
        apply Array.ext'; simp
      rw [e]
      exact this
  · have hm : m * sz ≤ rest.length:=by
      have:=Nat.mul_le_mul_right sz hroom
      rw [Nat.add_mul] at this; omega
    obtain ⟨w',hst,H'⟩:=storeCells_list (P:=P) (vs:=news) (olds ++ rest) h1 H (n * sz) (by rw [List.length_append]; omega)
    refine ⟨g,cap,rest.drop (m * sz),w',?_,?_,hroom,?_⟩
    · simp [Builtin.append_,run_underlying hu.pure,hs w,Builtin.lenOf,hroom,hfc,Addr.add_lit,hst]
    · rw [List.length_append,List.length_drop]; omega
    · rw [List.take_append_of_le_length (by omega),← hlo,List.take_of_length_le (by omega),List.drop_append,List.drop_eq_nil_of_le (by omega),hln] at H'
      simpa [Nat.add_sub_cancel_left] using H'
theorem append_none {b off m c : Nat} {news : List Value} (hu : UndIs P t (.slice T)) (hI : InfoIs P T info) (hs : SizeIs P T sz) (hz : ZeroIs P T zv) (hzc : zv.cells.size = sz)
    (hln : news.length = m * sz) (hnews : ∀ j u,news[j]? = some u → w.cell? ((Addr.mk b off none).add j) = some u) (hm : 0 < m)
    (H : Holds w L) (h63 : m ≤ 9223372036854775807) (hb : m * info.bytes ≤ 140737488355328) :
    ∃ g' cap' rest' w',(Builtin.append_ #[t,t] ty #[.slice none 0 0,.slice (some ⟨b,off,none⟩) m c]).run P w = .ok (.slice (some ⟨g',0,none⟩) m cap') w' ∧
      news.length + rest'.length = cap' * sz ∧ m ≤ cap' ∧ Holds w' (pt g' (.cells (news ++ rest').toArray T (0,0))::L):=by
  have hisz:=hs.of hI
  have hrun:=run_append_nil (P:=P) w t ty T info zv hu.pure hI.pure (hz.of hI) ⟨b,off,none⟩ m c news (by rw [hisz]; exact hln) hnews hm (by omega) (by omega)
  have hge:=grownCap_ge w m 0 T
  refine ⟨_,_,(Builtin.zeroCells zv.cells (grownCap w m 0 T - m)).toList,_,hrun,?_,hge,?_⟩
  · have : (Builtin.zeroCells zv.cells (grownCap w m 0 T - m)).size = (grownCap w m 0 T - m) * sz:=by simp [Builtin.zeroCells,hzc]
    have h2 : (Builtin.zeroCells zv.cells (grownCap w m 0 T - m)).toList.length = (grownCap w m 0 T - m) * sz:=by rw [Array.length_toList]; exact this
    rw [hln,h2,← Nat.add_mul]
    congr 1; omega
  · have H2 : Holds w.drew L:=H.same rfl rfl
    have:=H2.alloc (.cells (news.toArray ++ Builtin.zeroCells zv.cells (grownCap w m 0 T - m)) T)
    have e : (news ++ (Builtin.zeroCells zv.cells (grownCap w m 0 T - m)).toList).toArray = news.toArray ++ Builtin.zeroCells zv.cells (grownCap w m 0 T - m):=by
      apply Array.ext'; simp
    rw [e]
    exact this
theorem append_zero {v : Value} {g : Option Addr} {n cap m c : Nat} {a : Option Addr} (hu : UndIs P t (.slice T)) (hs : SizeIs P T sz) (hm : m = 0) (hc : n ≤ cap) : (Builtin.append_ #[t,t] ty #[.slice g n cap,.slice a m c]).run P w = .ok (.slice g n cap) w:=by
  subst hm
  have hf : (Builtin.firstCells sz 0 (.slice a 0 c)).run P w = .ok #[] w:=by
    cases a with
    | none=>simp [Builtin.firstCells]
    | some a=>exact run_firstCells_some (P:=P) w sz 0 a 0 c [] (by simp) (by simp)
  cases g with
  | none=>simp [Builtin.append_,run_underlying hu.pure,hs w,Builtin.lenOf,hc,hf]
  | some g=>simp [Builtin.append_,run_underlying hu.pure,hs w,Builtin.lenOf,hc,hf,storeCells]
/-! ### One-cell elements -/
theorem append_arr {e : α → Value} {v u : Value} {xs ys : List α} (hu : UndIs P t (.slice T)) (hI : InfoIs P T info) (hs : SizeIs P T 1) (hz : ZeroIs P T zv) (hzc : zv.oneCell' = true) (he : ∀ x,(e x).oneCell' = true)
    (H : Holds w (arr T e v xs::arr T e u ys::L)) (h63 : xs.length + ys.length ≤ 9223372036854775807) (hb : (xs.length + ys.length) * info.bytes ≤ 140737488355328) :
    ∃ v' w',(Builtin.append_ #[t,t] ty #[v,u]).run P w = .ok v' w' ∧ Holds w' (arr T e v' (xs ++ ys)::L):=by
  have hzs : zv.cells.size = 1:=by rw [cells_one hzc]; rfl
  rcases arr_cases H.swap with ⟨rfl,rfl,H1⟩|⟨b,c,rest2,rfl,hc,H1⟩
  · rcases arr_cases H1 with ⟨rfl,rfl,H2⟩|⟨g,cap,rest,rfl,hcap,H2⟩
    · exact ⟨_,_,append_zero (v:=.slice none 0 0) hu hs rfl (Nat.le_refl _),by simpa using H1⟩
    · exact ⟨_,_,append_zero (v:=.slice none 0 0) hu hs rfl (by omega),by simpa using H1⟩
  · have hnews:=pt_cells H1 0
    rw [List.drop_zero] at hnews
    rcases arr_cases H1.swap with ⟨rfl,rfl,H2⟩|⟨g,cap,rest,rfl,hcap,H2⟩
    · rcases Nat.eq_zero_or_pos ys.length with h0|h0
      · obtain rfl : ys = []:=List.length_eq_zero_iff.1 h0
        exact ⟨_,_,append_zero (v:=.slice none 0 0) hu hs rfl (Nat.le_refl _),by simpa using H1.drop⟩
      · obtain ⟨g',cap',rest',w',hrun,hl,hcl,H3⟩:=append_none (ty:=ty) hu hI hs hz hzs (news:=ys.map e) (m:=ys.length) (c:=c) (by simp) hnews h0 H2.drop (by simpa using h63) (by simpa using hb)
        refine ⟨_,_,hrun,?_⟩
        exact arr_mk (by simpa using hl) H3
    · obtain ⟨g',cap',rest',w',hrun,hl,hcl,H3⟩:=append_some (ty:=ty) hu hI hs hz hzs (olds:=xs.map e) (n:=xs.length) (cap:=cap) (m:=ys.length) (c:=c) (news:=ys.map e) (by simp) (by simpa using hcap) (by omega) (by simp) hnews (by intro u hu; obtain ⟨a,_,rfl⟩:=List.mem_map.1 hu; exact he a) H2 (by simpa using h63) (by simpa using hb)
      have H4 : Holds w' (pt g' (.cells ((xs ++ ys).map e ++ rest').toArray T (0,0))::L):=by
        have:=H3.cons (fun f h=>sep_drop h)
        rw [List.map_append]; exact this
      have:=arr_mk (cap:=cap') (xs:=xs ++ ys) (by simpa using hl) H4
      rw [List.length_append] at this
      exact ⟨_,_,hrun,this⟩
theorem O.appendR {e : α → Value} {v u : Value} {xs ys : List α} {ats : Array TypeId} {bt : Nat} (hu : UndIs P t (.slice T)) (hI : InfoIs P T info) (hbt : info.bytes = bt) (hs : SizeIs P T 1) (hz : ZeroIs P T zv)
    (e1 : ev l x = some v) (e2 : ev l y = some u)
    (h : ∀ v' w',v'.oneCell' = true → Holds w' (arr T e v' (xs ++ ys)::L) → O P ro N ops os Q ((d,v')::l) ds w')
    (H : Holds w (arr T e v xs::arr T e u ys::L):=by exact Holds.to (by assumption))
    (h63 : xs.length + ys.length ≤ 9223372036854775807:=by first|omega|(simp only [List.length_cons,List.length_nil]; omega)) (hb : (xs.length + ys.length) * bt ≤ 140737488355328:=by first|omega|(simp only [List.length_cons,List.length_nil]; omega))
    (ht : ats = #[t,t]:=by rfl) (hzc : zv.oneCell' = true:=by rfl) (he : ∀ x,(e x).oneCell' = true:=by intros; rfl) (hd : Nat.blt d N = true:=by rfl) :
    O P ro N ops (⟨some d,.call ⟨.builtin .append,#[x,y],ats⟩,ty,pos,af,none⟩::os) Q l ds w:=by
  subst ht hbt
  obtain ⟨v',w',h1,h2⟩:=append_arr (P:=P) (ty:=ty) hu hI hs hz hzc he H h63 hb
  refine O.val nofun (by simpa using hd) (fun a ha=>?_) (h _ _ (arr_one h2) h2)
  simp only [execOp,resolve,invoke,builtin,List.map_toArray,List.map_cons,List.map_nil,ha.eval e1,ha.eval e2,Sem.run_bind,Sem.run_pure,Result.andThen_ok,h1]
/-- A slice of one element, laid out for append. -/
theorem O.build1 {e : α → Value} {z : α} (hu : UndIs P t (.slice T)) (hs : SizeIs P T 1) (hz : ZeroIs P T zv) (e1 : ev l x = some (e z))
    (h : ∀ v w',v.oneCell' = true → Holds w' (arr T e v [z]::L) → O P ro N ops os Q ((d,v)::l) ds w')
    (H : Holds w L:=by assumption) (he : (e z).oneCell' = true:=by rfl) (hzc : zv.oneCell' = true:=by rfl) (hd : Nat.blt d N = true:=by rfl) :
    O P ro N ops (⟨some d,.buildSlice t 1 #[(0,x)],ty,pos,af,none⟩::os) Q l ds w:=by
  have hc : zv.cells = #[zv]:=cells_one hzc
  refine O.val (w':={ w with heap:=w.heap.push (.cells #[e z] T) }) (v:=.slice (some ⟨w.heap.size,0,none⟩) 1 1) nofun (by simpa using hd) (fun a ha=>?_) (h _ _ rfl ?_)
  · simp [execOp,Instr.buildSlice,hu w,hs w,hz w,hc,Instr.fill,ha.eval e1,cells_one he,newRow]
    congr 2
    apply Array.ext'
    simp [show Array.range 1 = #[0] from rfl]
  · exact arr_mk (e:=e) (xs:=[z]) (rest:=[]) (cap:=1) (by simp) (by
      have:=H.alloc (.cells #[e z] T)
      simpa using this)
/-! ### Elements of several cells -/
end
end Go.Rr
end
section
/- Cuts of owned slices. No program in sight. -/
namespace Go.Rr
set_option linter.unusedVariables false
/-- x[lo:], x[:hi] of a slice that lies from its block's first cell on. -/
def cutV (v : Value) (lo : Nat) (sz : Nat) : Value:=match v with
  | .slice a n cap=>.slice (if cap = lo then a else a.map (·.add (lo * sz))) (n - lo) (cap - lo)
  | _=>v
def hiV (v : Value) (hi : Nat) : Value:=match v with
  | .slice a n cap=>.slice a hi cap
  | _=>v
section
variable {P : Program} {ro : Option Nat} {N : Nat} {Q : Q0} {l : Regs} {ds : List Deferred} {w w' : World} {ops : Array Oper} {os : List Oper}
variable {d : Tmp} {ty : TypeId} {pos : String} {af : Array Edge} {x y z : Operand} {t T : TypeId} {α : Type} {L : List HProp} {info : TypeInfo} {zv : Value} {sz : Nat} {k : IntKind} {v u : Value}
theorem Ex.sliceLoN {n cap : Nat} {a : Option Addr} {i : Int} (hu : UndIs P t (.slice T)) (hs : SizeIs P T sz) (e1 : ev l x = some (.slice a n cap)) (e2 : ev l y = some (.int k i)) (h0 : 0 ≤ i) (h1 : i ≤ n) :
    Ex P N l (.slice t x (some y) none none) ty w (cutV (.slice a n cap) i.toNat sz) w :=
  ⟨nofun,fun _ _ _ r hr=>by
    simp [execOp,Instr.sliceAt,Instr.slice,Instr.sliceBounds,Instr.sliceBound,hr.eval e1,hr.eval e2,asIntOf,hu w,hs w,h0,h1,cutV]⟩
theorem Ex.sliceHiN {n cap : Nat} {a : Option Addr} {i : Int} (hu : UndIs P t (.slice T)) (hs : SizeIs P T sz) (e1 : ev l x = some (.slice a n cap)) (e2 : ev l y = some (.int k i)) (h0 : 0 ≤ i) (h1 : i ≤ cap) :
    Ex P N l (.slice t x none (some y) none) ty w (hiV (.slice a n cap) i.toNat) w :=
  ⟨nofun,fun _ _ _ r hr=>by
    simp [execOp,Instr.sliceAt,Instr.slice,Instr.sliceBounds,Instr.sliceBound,hr.eval e1,hr.eval e2,asIntOf,hu w,hs w,h0,h1,hiV]
    cases a <;> simp [Addr.add]⟩
theorem arr_cap {e : α → Value} {xs : List α} (H : Holds w (arr T e v xs::L)) : ∃ a cap,v = .slice a xs.length cap ∧ xs.length ≤ cap:=by
  rcases arr_cases H with ⟨rfl,rfl,_⟩|⟨b,cap,rest,rfl,h,_⟩
  · exact ⟨_,_,rfl,Nat.le_refl _⟩
  · exact ⟨_,_,rfl,by omega⟩
theorem Ex.sliceLo {e : α → Value} {xs : List α} {i : Int} (hu : UndIs P t (.slice T)) (hs : SizeIs P T 1) (e1 : ev l x = some v) (e2 : ev l y = some (.int k i))
    (H : Holds w (arr T e v xs::L):=by exact Holds.to (by assumption)) (h0 : 0 ≤ i:=by first|assumption|omega) (h1 : i ≤ xs.length:=by first|assumption|omega) :
    Ex P N l (.slice t x (some y) none none) ty w (cutV v i.toNat 1) w:=by
  obtain ⟨a,cap,rfl,h⟩:=arr_cap H
  exact Ex.sliceLoN hu hs e1 e2 h0 h1
theorem Ex.sliceHi {e : α → Value} {xs : List α} {i : Int} (hu : UndIs P t (.slice T)) (hs : SizeIs P T 1) (e1 : ev l x = some v) (e2 : ev l y = some (.int k i))
    (H : Holds w (arr T e v xs::L):=by exact Holds.to (by assumption)) (h0 : 0 ≤ i:=by first|assumption|omega) (h1 : i ≤ xs.length:=by first|assumption|omega) :
    Ex P N l (.slice t x none (some y) none) ty w (hiV v i.toNat) w:=by
  obtain ⟨a,cap,rfl,h⟩:=arr_cap H
  exact Ex.sliceHiN hu hs e1 e2 h0 (by omega)
theorem arr_hi_one {e : α → Value} {xs : List α} (H : Holds w (arr T e v xs::L)) (hi : Nat) : (hiV v hi).oneCell' = true:=by
  obtain ⟨a,cap,rfl,h⟩:=arr_cap H; rfl
theorem arr_take {e : α → Value} {xs : List α} {hi : Nat} (H : Holds w (arr T e v xs::L)) (h : hi ≤ xs.length) : Holds w (arr T e (hiV v hi) (xs.take hi)::L):=by
  rcases arr_cases H with ⟨rfl,rfl,H'⟩|⟨b,cap,rest,rfl,hc,H'⟩
  · obtain rfl : hi = 0:=by simpa using h
    exact H
  · have:=arr_mk (e:=e) (xs:=xs.take hi) (rest:=(xs.drop hi).map e ++ rest) (cap:=cap) (by simp; omega) (by
      rw [← List.append_assoc,← List.map_append,List.take_append_drop]; exact H')
    simpa [hiV,Nat.min_eq_left h] using this
/-- []T{} -/
theorem O.build0 {e : α → Value} (hu : UndIs P t (.slice T)) (hs : SizeIs P T sz)
    (h : ∀ v w',v.oneCell' = true → Holds w' (arr T e v ([] : List α)::L) → O P ro N ops os Q ((d,v)::l) ds w')
    (H : Holds w L:=by assumption) (hd : Nat.blt d N = true:=by rfl) :
    O P ro N ops (⟨some d,.buildSlice t 0 #[],ty,pos,af,none⟩::os) Q l ds w:=by
  refine O.val (w':={ w with heap:=w.heap.push (.cells #[] T) }) (v:=.slice (some ⟨w.heap.size,0,none⟩) 0 0) nofun (by simpa using hd) (fun a ha=>?_) (h _ _ rfl ?_)
  · simp [execOp,Instr.buildSlice,hu w,hs w,Instr.fill,newRow,show Array.range 0 = #[] from rfl]
  · exact arr_mk (e:=e) (xs:=([] : List α)) (rest:=[]) (cap:=0) (by simp) (by
      have:=H.alloc (.cells #[] T)
      simpa using this)
end
end Go.Rr
end
section
/- make with a room of its own; a slice in a variable. No program in sight. -/
namespace Go.Rr
set_option linter.unusedVariables false
section
variable {P : Program} {ro : Option Nat} {N : Nat} {Q : Q0} {l : Regs} {ds : List Deferred} {w w' : World} {ops : Array Oper} {os : List Oper}
variable {d : Tmp} {ty : TypeId} {pos : String} {af : Array Edge} {x y : Operand} {t T yt : TypeId} {α : Type} {e : α → Value} {v : Value} {xs : List α} {L : List HProp} {m n : Int} {k : IntKind}
variable {zv : Value} {info : TypeInfo}
end
end Go.Rr
end
section
/- A range over a function: its record, its rounds, the statement; the call of a function value, whichever it is. No program in sight. -/
namespace Go.Rr
set_option linter.unusedVariables false
/-- A loop's record. -/
def lrec (N : Nat) (l : Regs) (ps : Array Tmp) (assign body : Code) (D : Nat) (st : LoopState) (pe : Option Code) (k : Nat) : HProp :=
  hex fun fn=>hex fun tmps=>star [hp (Env N { tmps:=tmps,defers:=[] } l),pt k (.loop { state:=st,pending:=pe,fn:=fn,tmps:=tmps,params:=ps,assign:=assign,body:=body,defers:=D })]
/-- The block for the deferred calls of an outermost loop's rounds: none. -/
def dblk (D : Nat) : HProp:=pt D (.deferred (some []))
section
variable {P : Program} {ro : Option Nat} {N : Nat} {Q : Q0} {l : Regs} {ds : List Deferred} {w w' : World} {ops : Array Oper} {os : List Oper}
variable {d : Tmp} {ty : TypeId} {pos : String} {af : Array Edge} {L : List HProp} {ps : Array Tmp} {assign body : Code} {D k : Nat} {st : LoopState} {pe : Option Code}
theorem lrec.open (H : Holds w (lrec N l ps assign body D st pe k::L)) : ∃ fn tmps,Env N { tmps:=tmps,defers:=[] } l ∧ Holds w (pt k (.loop { state:=st,pending:=pe,fn:=fn,tmps:=tmps,params:=ps,assign:=assign,body:=body,defers:=D })::L):=by
  obtain ⟨fn,H1⟩:=Holds.hex.1 H
  obtain ⟨tmps,H2⟩:=Holds.hex.1 H1
  have H3:=Holds.star.1 H2
  obtain ⟨he,H4⟩:=Holds.hp.1 H3
  exact ⟨fn,tmps,he,H4⟩
theorem lrec.shut {fn : FuncId} {tmps : Array Value} (he : Env N { tmps:=tmps,defers:=[] } l) (H : Holds w (pt k (.loop { state:=st,pending:=pe,fn:=fn,tmps:=tmps,params:=ps,assign:=assign,body:=body,defers:=D })::L)) : Holds w (lrec N l ps assign body D st pe k::L) :=
  Holds.hex.2 ⟨fn,Holds.hex.2 ⟨tmps,Holds.star.2 (Holds.hp.2 ⟨he,H⟩)⟩⟩
/-- What the call of a function value comes to. -/
def VT (P : Program) : Value → List Value → World → (Value → World → Prop) → Prop
  | .func (.func f) p q,args,w,R=>CallIs P f ∧ CT P f (p.toList ++ args ++ q.toList) w R
  | .func (.yield k) p q,args,w,R=>p = #[] ∧ q = #[] ∧ ∃ fn tmps assign body w',(Instr.yield k args.toArray).run P w = .ok (.round k fn tmps assign body) w' ∧ RoundIn Fence.wide 0 P k fn tmps assign body w' (fun e w''=>∃ v,e = .returned v ∧ R v w'')
  | _,_,_,_=>False
theorem VT.mono {fv : Value} {args : List Value} {R R' : Value → World → Prop} (h : VT P fv args w R) (hr : ∀ v w',R v w' → R' v w') : VT P fv args w R':=by
  match fv,h with
  | .func (.func f) p q,h=>exact ⟨h.1,h.2.mono hr⟩
  | .func (.yield k) p q,⟨h1,h2,fn,tmps,a,b,w',h3,h4⟩=>exact ⟨h1,h2,fn,tmps,a,b,w',h3,RoundIn.mono h4 fun e w'' ⟨v,e1,h⟩=>⟨v,e1,hr _ _ h⟩⟩
theorem VT.fn {f : FuncId} {p q : Array Value} {args : List Value} {R : Value → World → Prop} (hc : CallIs P f) (h : CT P f (p.toList ++ args ++ q.toList) w R) : VT P (.func (.func f) p q) args w R:=⟨hc,h⟩
/-- A yield's two answers, with what either leaves. -/
theorem VT.two {fv : Value} {args : List Value} {A B C : World → Prop} (h : VT P fv args w fun u w'=>(u = .bool true ∧ A w') ∨ (u = .bool false ∧ B w')) (hA : ∀ w,A w → C w) (hB : ∀ w,B w → C w) :
    VT P fv args w fun u w'=>∃ b,u = .bool b ∧ C w' ∧ ((b = true ∧ A w') ∨ (b = false ∧ B w')):=by
  refine h.mono fun u w' h=>?_
  rcases h with ⟨h1,h2⟩|⟨h1,h2⟩
  · exact ⟨true,h1,hA _ h2,.inl ⟨rfl,h2⟩⟩
  · exact ⟨false,h1,hB _ h2,.inr ⟨rfl,h2⟩⟩
theorem O.callVT0 {dst : Option Tmp} {t : Tmp} {fv : Value} {args : Array Operand} {ats : Array TypeId} {vs : List Value} (ef : look l t = some fv) (e : evs l args.toList = some vs)
    (h : VT P fv vs w fun v w'=>∀ a,Env N a l → a.defers = ds → opsIn P ro ops (lift N Q) os (a.put dst v) w') :
    O P ro N ops (⟨dst,.call ⟨.value (.tmp t),args,ats⟩,ty,pos,af,none⟩::os) Q l ds w:=by
  match fv,h with
  | .func (.func f) p q,⟨hf,h⟩ =>
    exact O.call nofun (fun a ha=>by
      have hv : a.eval (.tmp t) = _:=ha.eval (x:=.tmp t) ef
      simp [execOp,resolve,hv,Deferred.ofValue,invoke,ha.evalsA e]
      rw [hf]
      congr 2
      apply Array.ext'; simp)
      (CallsIn.mono h fun e w' ⟨v,e1,h1⟩=>⟨v,e1,h1⟩)
  | .func (.yield k) p q,⟨h1,h2,fn,tmps,as,bo,w',h3,h4⟩ =>
    subst h1 h2
    refine O.cons nofun fun a ha hds=>?_
    have hv : a.eval (.tmp t) = _:=ha.eval (x:=.tmp t) ef
    have hx : (execOp a.eval ⟨dst,.call ⟨.value (.tmp t),args,ats⟩,ty,pos,af,none⟩).run P w = .ok (.round k fn tmps as bo) w':=by
      simp [execOp,resolve,hv,Deferred.ofValue,invoke,ha.evalsA e]
      exact h3
    rw [hx]
    refine ⟨fun h=>(by cases h),?_⟩
    have h' : RoundIn (FW ro) (0 - 1) P k fn tmps as bo w' fun e w''=>∃ v,e = .returned v ∧ ∀ a,Env N a l → a.defers = ds → opsIn P ro ops (lift N Q) os (a.put dst v) w'':=by
      cases ro with
      | none=>exact h4
      | some r=>exact h4
    exact h'.mono fun e w'' he=>by
      obtain ⟨v,rfl,hk⟩:=he
      exact hk a ha hds
theorem O.callVT {t : Tmp} {fv : Value} {args : Array Operand} {ats : Array TypeId} {vs : List Value} (ef : look l t = some fv) (e : evs l args.toList = some vs) (hd : Nat.blt d N = true)
    (h : VT P fv vs w fun v w'=>O P ro N ops os Q ((d,v)::l) ds w') :
    O P ro N ops (⟨some d,.call ⟨.value (.tmp t),args,ats⟩,ty,pos,af,none⟩::os) Q l ds w :=
  O.callVT0 ef e (h.mono fun v w' hk a ha hds=>hk _ (ha.put (by simpa using hd) v) hds)
def falseQ : Q0:=fun _ _ _ _=>False
/-- How a round may be left, and what is asked then. LR: the loop's record, in a state and with a pending jump. -/
def roundQ (LR : LoopState → Option Code → HProp) (R : Value → World → Prop) : Q0
  | .normal,_,_,w=>∃ L,Holds w (LR .busy none::L) ∧ ∀ w',Holds w' (LR .ready none::L) → R (.bool true) w'
  | .ret,_,_,w=>∃ L,Holds w (LR .busy none::L) ∧ ∀ w',Holds w' (LR .done (some .ret)::L) → R (.bool false) w'
  | .exit i,_,_,w=>∃ L,Holds w (LR .busy none::L) ∧ ∀ w',Holds w' (LR .done (some (.exit i))::L) → R (.bool false) w'
  | .goto t,_,_,w=>∃ L,Holds w (LR .busy none::L) ∧ ∀ w',Holds w' (LR .done (some (.goto t))::L) → R (.bool false) w'
  | .panic _,_,_,_=>False
  | .outgrown,_,_,_=>False
def putRegs : List Tmp → List Value → Regs → Regs
  | t::ts,v::vs,l=>putRegs ts vs ((t,v)::l)
  | _,_,l=>l
theorem putRegs_env : ∀ (ts : List Tmp) (vs : List Value) (l : Regs) (tmps : Array Value),(∀ t ∈ ts,t < N) → Env N { tmps:=tmps,defers:=[] } l → Env N { tmps:=(ts.zip vs).foldl (fun tmps (t,a)=>tmps.setIfInBounds t a) tmps,defers:=[] } (putRegs ts vs l)
  | [], vs,l,tmps,h,he=>by simpa [putRegs] using he
  | t::ts,[],l,tmps,h,he=>by simpa [putRegs] using he
  | t::ts,v::vs,l,tmps,h,he=>by
    simp only [List.zip_cons_cons,List.foldl_cons,putRegs]
    exact putRegs_env ts vs _ _ (fun x hx=>h x (by simp [hx])) (he.put (h t (by simp)) v)
theorem roundBody {R : Value → World → Prop} {l1 : Regs} {ds1 : List Deferred} (h : W P (some k) N body (roundQ (fun st pe=>lrec N l ps assign body D st pe k) R) l1 ds1 w) {a : Act} (ha : Env N a l1) (hd : a.defers = ds1) :
    body.wpIn (Fence.wide.inRound k) 0 P (roundPost P k (fun e w'=>∃ v,e = .returned v ∧ R v w')) a w:=by
  refine wpIn_mono (h a ha hd) ?_
  rintro e a w' ⟨l',_,hq⟩
  cases e with
  | panic c=>exact hq
  | outgrown=>exact hq
  | _ =>
    obtain ⟨L,H,hR⟩:=hq
    obtain ⟨fn,tmps,he,H⟩:=lrec.open H
    refine ⟨_,_,run_endRound _ H.get,_,rfl,hR _ (lrec.shut (fn:=fn) he ?_)⟩
    exact H.putObj _
/-- **A call of yield, out of the walk of its round.** -/
theorem VT.round {LR : LoopState → Option Code → HProp} {R : Value → World → Prop} {args : List Value} (hLR : LR = fun st pe=>lrec N l ps assign body D st pe k) (H : Holds w (LR .ready none::L)) (hs : args.length = ps.size) (hl : (ps.toList.all fun t=>Nat.blt t N) = true)
    (h : W P (some k) N assign (thenQ (fun l1 ds1 w2=>∃ L1,Holds w2 (LR .ready none::L1) ∧ ∀ w3,Holds w3 (LR .busy none::L1) →
        W P (some k) N body (roundQ LR R) l1 ds1 w3) falseQ) (putRegs ps.toList args l) [] w) :
    VT P (.func (.yield k) #[] #[]) args w R:=by
  subst hLR
  obtain ⟨fn,tmps,he,H0⟩:=lrec.open H
  refine ⟨rfl,rfl,fn,_,assign,body,w,run_yield H0.get (by simpa using hs),?_⟩
  refine roundIn_of_wpIn trivial ?_
  have hl' : ∀ t ∈ ps.toList,t < N:=fun t ht=>by have:=List.all_eq_true.1 hl t ht; simpa using this
  have hE:=putRegs_env (N:=N) ps.toList args l tmps hl' he
  have e0 : (ps.zip args.toArray).foldl (fun tmps (t,a)=>tmps.setIfInBounds t a) tmps = (ps.toList.zip args).foldl (fun tmps (t,a)=>tmps.setIfInBounds t a) tmps:=by
    rw [← Array.foldl_toList,Array.toList_zip]
  refine wpIn_mono (h _ (e0 ▸ hE) rfl) ?_
  rintro e a w2 ⟨l1,ha,hq⟩
  cases e with
  | normal =>
    obtain ⟨L1,H2,h2⟩:=hq
    obtain ⟨fn',tmps',he',H3⟩:=lrec.open H2
    exact ⟨_,run_beginRound H3.get rfl,roundBody (h2 _ (lrec.shut he' (H3.putObj _))) ha rfl⟩
  | _=>exact hq.elim
/-- What is gone on with behind the statement. -/
def behind (P : Program) (N : Nat) (Q : Q0) (l : Regs) (ds : List Deferred) : Option Code → World → Prop
  | none,w=>Q .normal l ds w
  | some c,w=>W P none N c Q l ds w
/-- **THE STATEMENT, an outermost one.** -/
theorem W.rangeFunc {g : Operand} {f : FuncId} {p q : Array Value} (hg : ev l g = some (.func (.func f) p q)) (hf : CallIs P f) (H : Holds w L)
    (h : ∀ (LR : LoopState → Option Code → HProp) k D w1,(LR = fun st pe=>lrec N l ps assign body D st pe k) → Holds w1 (LR .ready none::dblk D::L) →
      CT P f (p.toList ++ [.func (.yield k) #[] #[]] ++ q.toList) w1 fun _ w2=>∃ st pe L2,st ≠ .busy ∧ Holds w2 (LR st pe::L2) ∧ ∀ w3,Holds w3 L2 →
        behind P N Q l (⟨.collected D,#[]⟩::ds) pe w3) : W P none N (.rangeFunc g ps assign body) Q l ds w:=by
  intro a ha hd
  refine wpIn_rangeFunc fun fn _=>?_
  have hv : a.eval g = _:=ha.eval hg
  have H1:=(H.alloc (.deferred (some []))).alloc (.loop { state:=.ready,pending:=none,fn:=fn,tmps:=a.tmps,params:=ps,assign:=assign,body:=body,defers:=w.heap.size })
  have he : Env N { tmps:=a.tmps,defers:=[] } l:=⟨ha.size,ha.get⟩
  have H2:=lrec.shut he H1
  have hc:=h _ _ _ _ rfl H2
  refine ⟨_,_,(w.alloc (.deferred (some []))).alloc (.loop { state:=.ready,pending:=none,fn:=fn,tmps:=a.tmps,params:=ps,assign:=assign,body:=body,defers:=w.heap.size }),⟨.fn (.func f) q,p ++ #[Value.func (.yield (w.heap.size + 1)) #[] #[]]⟩,
    (w.alloc (.deferred (some []))).alloc (.loop { state:=.ready,pending:=none,fn:=fn,tmps:=a.tmps,params:=ps,assign:=assign,body:=body,defers:=w.heap.size }),f,(p.toList ++ [Value.func (.yield (w.heap.size + 1)) #[] #[]] ++ q.toList).toArray,
    (w.alloc (.deferred (some []))).alloc (.loop { state:=.ready,pending:=none,fn:=fn,tmps:=a.tmps,params:=ps,assign:=assign,body:=body,defers:=w.heap.size }),run_enterLoop_outer fn a.tmps ps assign body,?_,fun _ _=>trivial,?_,fun h=>(by cases h),?_⟩
  · simp only [resolve,hv,Deferred.ofValue,Sem.run_pure]
    simp [Act.eval]
  · simp only [invoke]
    rw [hf]
    congr 2
    apply Array.ext'; simp
  · have e1 : (w.heap.push (.deferred (some []))).size = w.heap.size + 1:=by simp
    simp only [e1] at hc
    refine CallsIn.mono hc fun e w2 ⟨v,e1,st,pe,L2,hst,H3,hk⟩=>?_
    subst e1
    obtain ⟨fn',tmps',he',H4⟩:=lrec.open H3
    refine ⟨_,_,run_endLoop H4.get hst,?_⟩
    have H5 : Holds _ L2:=(H4.putObj (.loop { state:=.exhausted,pending:=pe,fn:=fn',tmps:=tmps',params:=ps,assign:=assign,body:=body,defers:=w.heap.size })).drop
    have hk5:=hk _ H5
    have ha' : Env N { a with defers:=[⟨.collected w.heap.size,#[]⟩] ++ a.defers } l:=⟨ha.size,ha.get⟩
    cases pe with
    | none=>exact ⟨l,ha',hd ▸ hk5⟩
    | some c=>exact hk5 _ ha' (by simp [hd])
theorem rangeEnd {LR : LoopState → Option Code → HProp} {w2 : World} {L2 : List HProp} (H : Holds w2 (LR st pe::L2)) (hst : st ≠ .busy)
    (h : ∀ w3,Holds w3 L2 → behind P N Q l (⟨.collected D,#[]⟩::ds) pe w3) :
    ∃ st pe L2,st ≠ .busy ∧ Holds w2 (LR st pe::L2) ∧ ∀ w3,Holds w3 L2 → behind P N Q l (⟨.collected D,#[]⟩::ds) pe w3:=⟨st,pe,L2,hst,H,h⟩
theorem retD_mark {rs : List ResultVar} {R : Value → World → Prop} (h : ∀ w',Holds w' L → ∃ vs,RV P l w' rs vs ∧ R (oneOf vs) w') (H : Holds w (dblk D::L):=by exact Holds.to (by assumption)) : retD P rs R l w [⟨.collected D,#[]⟩] :=
  ⟨L,Holds.star.2 (Holds.hex.2 ⟨D,Holds.star.2 (Holds.hp.2 ⟨rfl,H⟩)⟩),h⟩
theorem retD_mark2 {E : Nat} {rs : List ResultVar} {R : Value → World → Prop} (h : ∀ w',Holds w' L → ∃ vs,RV P l w' rs vs ∧ R (oneOf vs) w') (H : Holds w (dblk D::dblk E::L):=by exact Holds.to (by assumption)) : retD P rs R l w [⟨.collected D,#[]⟩,⟨.collected E,#[]⟩]:=by
  refine ⟨L,Holds.star.2 (Holds.hex.2 ⟨D,Holds.star.2 (Holds.hp.2 ⟨rfl,?_⟩)⟩),h⟩
  refine Holds.swap (Holds.hex.2 ⟨E,Holds.star.2 (Holds.hp.2 ⟨rfl,?_⟩)⟩)
  exact H.swap
/-! ### An operation whose guard was itself passed over -/
theorem Env.yieldedU {a : Act} {l : Regs} {N : Nat} (h : Env N a l) {j t : Nat} (hj : (ops[j]?).bind (·.dst) = some t) (hl : look l t = some undef) : Go.yielded ops a.tmps j = none:=by
  have:=h.get _ _ hl
  unfold Go.yielded
  rw [hj]
  simp [this,undef]
theorem O.guard_u {j t : Nat} {b : Bool} {d : Tmp} {op : Op} {ty : TypeId} {pos : String} {af : Array Edge} (hj : (ops[j]?).bind (·.dst) = some t) (hl : look l t = some undef) (hd : Nat.blt d N = true)
    (h : O P ro N ops os Q ((d,undef)::l) ds w) : O P ro N ops (⟨some d,op,ty,pos,af,some (j,b)⟩::os) Q l ds w:=fun a ha hds=>by
  have hy:=Env.yieldedU (ops:=ops) ha hj hl
  simp only [opsIn,Region.wanted,hy]
  rw [if_neg (by simp)]
  exact h _ (ha.put (by simpa using hd) _) hds
end
end Go.Rr
end
section
/- Arrays in variables: a row of cells behind a head; a square of 24 times 24 numbers. No program in sight. -/
namespace Go.Rr
set_option linter.unusedVariables false
/-- A head's cells, and n cells behind them. -/
def vcs (hd : List Value) (n : Nat) (g : Nat → Value) : Array Value:=(hd ++ (List.range n).map g).toArray
section
variable {hd hd' : List Value} {n k : Nat} {g g' : Nat → Value} {v : Value}
theorem vcs_size : (vcs hd n g).size = hd.length + n:=by simp [vcs]
theorem vcs_get (h : k < n) : (vcs hd n g)[hd.length + k]? = some (g k):=by
  simp only [vcs,List.getElem?_toArray]
  rw [List.getElem?_append_right (by omega),show hd.length + k - hd.length = k from by omega]
  simp [h]
theorem vcs_congr (h : ∀ i,i < n → g i = g' i) : vcs hd n g = vcs hd n g':=by
  unfold vcs
  congr 2
  apply List.map_congr_left
  intro a ha
  exact h a (List.mem_range.1 ha)
theorem vcs_set (h : k < n) : (vcs hd n g).setIfInBounds (hd.length + k) v = vcs hd n (fun i=>if i = k then v else g i):=by
  apply Array.ext'
  simp only [vcs,List.setIfInBounds_toArray]
  rw [List.set_append_right _ _ (by omega),show hd.length + k - hd.length = k from by omega]
  congr 1
  apply List.ext_getElem
  · simp
  · intro i h1 h2
    simp only [List.getElem_set,List.getElem_map,List.getElem_range]
    by_cases e : i = k
    · subst e; simp
    · rw [if_neg (Ne.symm e),if_neg e]
theorem vcs_all : (vcs hd n g).extract 0 (0 + (hd.length + n)) = vcs hd n g:=by
  apply Array.ext'
  simp only [vcs,Array.toList_extract,List.extract_eq_take_drop]
  simp only [List.drop_zero]
  exact List.take_of_length_le (by simp)
theorem vcs_put (c : Array Value) (h : c.size = hd.length + n) : putAt c 0 (vcs hd n g).toList = vcs hd n g:=by
  have:=putAt_list (vcs hd n g).toList c.toList 0 (by simp [vcs_size,h])
  rw [Array.toArray_toList] at this
  rw [this]
  apply Array.ext'
  simp only [List.take_zero,List.nil_append]
  rw [List.drop_eq_nil_of_le (by simp [vcs_size,h]),List.append_nil]
end
/-- So a block's cells are: not unfolded where it is compared. -/
inductive IsV (c : Array Value) (hd : List Value) (n : Nat) (g : Nat → Value) : Prop
  | mk : c = vcs hd n g → IsV c hd n g
def vec {α : Type} (b T : Nat) (hd : List Value) (n : Nat) (e : α → Value) (f : Nat → α) : HProp:=hex fun c=>star [pt b (.cells c T (0,0)),hp (IsV c hd n fun i=>e (f i))]
def sq (d : Int → Int → Int) : Nat → Value:=fun i=>.int .i64 (d ((i / 24 : Nat) : Int) ((i % 24 : Nat) : Int))
/-- A square of numbers, behind a head. -/
def mtx (b T : Nat) (hd : List Value) (d : Int → Int → Int) : HProp:=hex fun c=>star [pt b (.cells c T (0,0)),hp (IsV c hd 576 (sq d))]
def mval (hd : List Value) (d : Int → Int → Int) : Value:=.agg (vcs hd 576 (sq d))
def upd2 (d : Int → Int → Int) (u w z : Int) : Int → Int → Int:=fun a b=>if a = u ∧ b = w then z else d a b
section
variable {P : Program} {ro : Option Nat} {N : Nat} {Q : Q0} {l : Regs} {ds : List Deferred} {w w' : World} {ops : Array Oper} {os : List Oper}
variable {d : Tmp} {ty : TypeId} {pos : String} {af : Array Edge} {x y : Operand} {t T yt : TypeId} {α : Type} {e : α → Value} {v : Value} {L : List HProp} {m n : Int} {k : IntKind} {hd hd' : List Value} {D D' : Int → Int → Int} {f : Nat → α}
theorem mtx_pt {b : Nat} : Holds w (mtx b T hd D::L) ↔ Holds w (pt b (.cells (vcs hd 576 (sq D)) T (0,0))::L):=by
  unfold mtx
  simp only [Holds.hex,Holds.star,List.cons_append,List.nil_append]
  constructor
  · rintro ⟨c,h⟩
    obtain ⟨⟨e⟩,h⟩:=Holds.hp.1 h.swap
    exact e ▸ h
  · exact fun h=>⟨_,(Holds.hp.2 ⟨⟨rfl⟩,h⟩).swap⟩
theorem vec_pt {b q : Nat} : Holds w (vec b T hd q e f::L) ↔ Holds w (pt b (.cells (vcs hd q fun i=>e (f i)) T (0,0))::L):=by
  unfold vec
  simp only [Holds.hex,Holds.star,List.cons_append,List.nil_append]
  constructor
  · rintro ⟨c,h⟩
    obtain ⟨⟨e⟩,h⟩:=Holds.hp.1 h.swap
    exact e ▸ h
  · exact fun h=>⟨_,(Holds.hp.2 ⟨⟨rfl⟩,h⟩).swap⟩
theorem mtx_congr {b : Nat} (h : ∀ u v : Int,0 ≤ u → u < 24 → 0 ≤ v → v < 24 → D u v = D' u v) : mtx b T hd D = mtx b T hd D':=by
  have e : ∀ c,IsV c hd 576 (sq D) ↔ IsV c hd 576 (sq D'):=fun c=>by
    have hv : vcs hd 576 (sq D) = vcs hd 576 (sq D'):=vcs_congr fun i hi=>by
      unfold sq
      rw [h _ _ (by omega) (by omega) (by omega) (by omega)]
    exact ⟨fun ⟨e⟩=>⟨e.trans hv⟩,fun ⟨e⟩=>⟨e.trans hv.symm⟩⟩
  unfold mtx
  congr 1
  funext c
  rw [propext (e c)]
theorem mtx_get {b c : Nat} {u v : Int} (H : Holds w (mtx b T hd D::L)) (hc : c = hd.length) (h0 : 0 ≤ u) (h1 : u < 24) (h2 : 0 ≤ v) (h3 : v < 24) : w.cell? ⟨b,c + u.toNat * 24 + v.toNat * 1,none⟩ = some (.int .i64 (D u v)):=by
  refine Holds.cell (mtx_pt.1 H) ?_
  subst hc
  rw [show hd.length + u.toNat * 24 + v.toNat * 1 = hd.length + (u.toNat * 24 + v.toNat) from by omega,vcs_get (by omega)]
  unfold sq
  rw [show (((u.toNat * 24 + v.toNat) / 24 : Nat) : Int) = u from by omega,show (((u.toNat * 24 + v.toNat) % 24 : Nat) : Int) = v from by omega]
theorem Ex.loadM {b c : Nat} {u v : Int} (ht : AggIs P t false) (e1 : ev l x = some (.pointer (some ⟨b,c + u.toNat * 24 + v.toNat * 1,none⟩)))
    (H : Holds w (mtx b T hd D::L):=by first
      | assumption
      | exact Holds.f1 (by assumption)
      | exact Holds.f2 (by assumption)
      | exact Holds.f3 (by assumption)
      | exact Holds.f4 (by assumption)
      | exact Holds.f5 (by assumption)
      | exact Holds.f6 (by assumption)
      | exact Holds.f7 (by assumption)
      | exact Holds.f8 (by assumption)
      | exact Holds.f9 (by assumption)) (hc : c = hd.length:=by rfl) (h0 : 0 ≤ u:=by first|assumption|omega) (h1 : u < 24:=by first|assumption|omega) (h2 : 0 ≤ v:=by first|assumption|omega) (h3 : v < 24:=by first|assumption|omega) :
    Ex P N l (.load t x) ty w (.int .i64 (D u v)) w:=Ex.load ht e1 (mtx_get H hc h0 h1 h2 h3)
theorem O.storeM {b c : Nat} {u v z : Int} (hs : SizeIs P t 1) (e1 : ev l x = some (.pointer (some ⟨b,c + u.toNat * 24 + v.toNat * 1,none⟩))) (e2 : ev l y = some (.int .i64 z))
    (h : ∀ w',Holds w' (mtx b T hd (upd2 D u v z)::L) → O P ro N ops os Q l ds w')
    (H : Holds w (mtx b T hd D::L):=by first
      | assumption
      | exact Holds.f1 (by assumption)
      | exact Holds.f2 (by assumption)
      | exact Holds.f3 (by assumption)
      | exact Holds.f4 (by assumption)
      | exact Holds.f5 (by assumption)
      | exact Holds.f6 (by assumption)
      | exact Holds.f7 (by assumption)
      | exact Holds.f8 (by assumption)
      | exact Holds.f9 (by assumption)) (hc : c = hd.length:=by rfl) (h0 : 0 ≤ u:=by first|assumption|omega) (h1 : u < 24:=by first|assumption|omega) (h2 : 0 ≤ v:=by first|assumption|omega) (h3 : v < 24:=by first|assumption|omega) :
    O P ro N ops (⟨none,.store t x y,ty,pos,af,none⟩::os) Q l ds w:=by
  subst hc
  refine O.store hs e1 e2 rfl (mtx_pt.1 H) (by rw [vcs_size]; omega) fun w' H'=>h w' (mtx_pt.2 ?_)
  rw [show hd.length + u.toNat * 24 + v.toNat * 1 = hd.length + (u.toNat * 24 + v.toNat) from by omega,vcs_set (by omega),vcs_congr (g':=sq (upd2 D u v z))] at H'
  · exact H'
  · intro i hi
    unfold sq upd2
    by_cases e : i = u.toNat * 24 + v.toNat
    · rw [if_pos e,if_pos (by omega)]
    · rw [if_neg e,if_neg (by omega)]
theorem vcs_cells (hh : ∀ v ∈ hd,v.oneCell' = true) : ∀ v ∈ (vcs hd 576 (sq D)).toList,v.oneCell' = true:=by
  intro v hv
  simp only [vcs,List.mem_append,List.mem_map,List.mem_range] at hv
  rcases hv with hv|⟨i,_,rfl⟩
  · exact hh v hv
  · rfl
/-- The square itself, or all with its head. -/
theorem Ex.loadMall {b s : Nat} (ht : AggIs P t true) (hz : SizeIs P t s) (hs : s = hd.length + 576) (e1 : ev l x = some (.pointer (some ⟨b,0,none⟩))) (H : Holds w (mtx b T hd D::L):=by exact Holds.to (by assumption)) : Ex P N l (.load t x) ty w (mval hd D) w:=by
  have:=Ex.loadAggP (N:=N) (ty:=ty) ht hz e1 (mtx_pt.1 H) (by subst hs; rw [vcs_size]; simp)
  subst hs
  rw [vcs_all] at this
  exact this
theorem O.storeMall {b s : Nat} (hz : SizeIs P t s) (hs : s = hd.length + 576) (e1 : ev l x = some (.pointer (some ⟨b,0,none⟩))) (e2 : ev l y = some (mval hd' D')) (hl : hd'.length = hd.length) (hh : hd'.all Value.oneCell' = true)
    (h : ∀ w',Holds w' (mtx b T hd' D'::L) → O P ro N ops os Q l ds w') (H : Holds w (mtx b T hd D::L):=by exact Holds.to (by assumption)) :
    O P ro N ops (⟨none,.store t x y,ty,pos,af,none⟩::os) Q l ds w:=by
  subst hs
  refine O.storeAgg hz (by rw [vcs_size,hl]) e1 e2 (vcs_cells (fun v hv=>List.all_eq_true.1 hh v hv)) (mtx_pt.1 H) (by rw [vcs_size]; omega) fun w' H'=>h w' (mtx_pt.2 ?_)
  rw [vcs_put _ (by rw [vcs_size,hl])] at H'
  exact H'
theorem O.allocM {E : TypeId} (hd : List Value) (hz : ZeroIs P E (mval hd fun _ _=>0)) (h : ∀ bl w',Holds w' (mtx bl E hd (fun _ _=>0)::L) → O P ro N ops os Q ((d,.pointer (some ⟨bl,0,none⟩))::l) ds w')
    (H : Holds w L:=by assumption) (hd : Nat.blt d N = true:=by rfl) : O P ro N ops (⟨some d,.alloc E,ty,pos,af,none⟩::os) Q l ds w:=O.alloc hz hd H fun bl w' H'=>h bl w' (mtx_pt.2 H')
theorem loadVar_mtx {b : Nat} (ht : AggIs P t true) (hz : SizeIs P t 576) (H : Holds w (mtx b T [] D::L):=by exact Holds.to (by assumption)) : (loadVar t ⟨b,0,none⟩).run P w = .ok (mval [] D) w:=by
  have:=loadVar_agg (off:=0) ht hz (mtx_pt.1 H) (by rw [vcs_size]; simp)
  rw [show (0 : Nat) + 576 = 0 + (([] : List Value).length + 576) from rfl,vcs_all] at this
  exact this
/-! ### A row of cells in a variable -/
theorem vec_get {b c q : Nat} (H : Holds w (vec b T hd q e f::L)) {i : Int} (hc : c = hd.length) (h0 : 0 ≤ i) (h1 : i < q) : w.cell? ⟨b,c + i.toNat * 1,none⟩ = some (e (f i.toNat)):=by
  refine Holds.cell (vec_pt.1 H) ?_
  subst hc
  rw [Nat.mul_one,vcs_get (by omega)]
theorem Ex.loadVc {b c q : Nat} {i : Int} (ht : AggIs P t false) (e1 : ev l x = some (.pointer (some ⟨b,c + i.toNat * 1,none⟩)))
    (H : Holds w (vec b T hd q e f::L):=by first
      | assumption
      | exact Holds.f1 (by assumption)
      | exact Holds.f2 (by assumption)
      | exact Holds.f3 (by assumption)
      | exact Holds.f4 (by assumption)
      | exact Holds.f5 (by assumption)
      | exact Holds.f6 (by assumption)
      | exact Holds.f7 (by assumption)
      | exact Holds.f8 (by assumption)
      | exact Holds.f9 (by assumption)) (hc : c = hd.length:=by rfl) (h0 : 0 ≤ i:=by first|assumption|omega) (h1 : i < q:=by first|assumption|omega) :
    Ex P N l (.load t x) ty w (e (f i.toNat)) w:=Ex.load ht e1 (vec_get H hc h0 h1)
theorem Ex.loadMh {b q : Nat} {u : Value} (ht : AggIs P t false) (e1 : ev l x = some (.pointer (some ⟨b,q,none⟩)))
    (H : Holds w (mtx b T hd D::L):=by first
      | assumption
      | exact Holds.f1 (by assumption)
      | exact Holds.f2 (by assumption)
      | exact Holds.f3 (by assumption)
      | exact Holds.f4 (by assumption)
      | exact Holds.f5 (by assumption)
      | exact Holds.f6 (by assumption)
      | exact Holds.f7 (by assumption)
      | exact Holds.f8 (by assumption)
      | exact Holds.f9 (by assumption)) (hu : hd[q]? = some u:=by rfl) : Ex P N l (.load t x) ty w u w:=by
  refine Ex.load ht e1 (Holds.cell (mtx_pt.1 H) ?_)
  have hq : q < hd.length:=(List.getElem?_eq_some_iff.1 hu).1
  simp only [vcs,List.getElem?_toArray]
  rw [List.getElem?_append_left hq,hu]
/-- A cell of a variable, however far down it stands. -/
theorem Ex.loadQ {b q : Nat} {c : Array Value} {fr : Nat × Nat} {u : Value} (ht : AggIs P t false) (e1 : ev l x = some (.pointer (some ⟨b,q,none⟩))) (H : Holds w (pt b (.cells c T fr)::L):=by exact Holds.to (by assumption)) (hu : c[q]? = some u:=by rfl) : Ex P N l (.load t x) ty w u w :=
  Ex.load ht e1 (Holds.cell H hu)
def upd1 (f : Nat → α) (k : Nat) (z : α) : Nat → α:=fun i=>if i = k then z else f i
theorem O.storeVc {b c q : Nat} {i : Int} {z : α} (hs : SizeIs P t 1) (e1 : ev l x = some (.pointer (some ⟨b,c + i.toNat * 1,none⟩))) (e2 : ev l y = some (e z))
    (h : ∀ w',Holds w' (vec b T hd q e (upd1 f i.toNat z)::L) → O P ro N ops os Q l ds w')
    (H : Holds w (vec b T hd q e f::L):=by first
      | assumption
      | exact Holds.f1 (by assumption)
      | exact Holds.f2 (by assumption)
      | exact Holds.f3 (by assumption)
      | exact Holds.f4 (by assumption)
      | exact Holds.f5 (by assumption)
      | exact Holds.f6 (by assumption)
      | exact Holds.f7 (by assumption)
      | exact Holds.f8 (by assumption)
      | exact Holds.f9 (by assumption)) (hv : (e z).oneCell' = true:=by rfl) (hc : c = hd.length:=by rfl) (h0 : 0 ≤ i:=by first|assumption|omega) (h1 : i < q:=by first|assumption|omega) :
    O P ro N ops (⟨none,.store t x y,ty,pos,af,none⟩::os) Q l ds w:=by
  subst hc
  refine O.store hs e1 e2 hv (vec_pt.1 H) (by rw [vcs_size]; omega) fun w' H'=>h w' (vec_pt.2 ?_)
  rw [Nat.mul_one,vcs_set (by omega),vcs_congr (g':=fun j=>e (upd1 f i.toNat z j))] at H'
  · exact H'
  · intro j _
    unfold upd1
    split <;> rfl
end
end Go.Rr
end
section
/- A cut of a slice moved down within it, and what is left over cleared (slices.Delete). No program in sight. -/
namespace Go.Rr
set_option linter.unusedVariables false
section
variable {P : Program} {ro : Option Nat} {N : Nat} {Q : Q0} {l : Regs} {ds : List Deferred} {w w' : World} {ops : Array Oper} {os : List Oper}
variable {d : Tmp} {ty : TypeId} {pos : String} {af : Array Edge} {x y z u : Operand} {t T : TypeId} {α : Type} {L : List HProp} {info : TypeInfo} {zv : Value} {k k2 k3 : IntKind} {e : α → Value} {xs : List α} {rest : List Value}
def cut3 (a : Option Addr) (lo hi mx sz : Nat) : Value:=.slice (if mx = lo then a else a.map (·.add (lo * sz))) (hi - lo) (mx - lo)
theorem Ex.slice3N {n cap sz : Nat} {a : Option Addr} {i j m : Int} (hu : UndIs P t (.slice T)) (hs : SizeIs P T sz) (e1 : ev l x = some (.slice a n cap)) (e2 : ev l y = some (.int k i)) (e3 : ev l z = some (.int k2 j)) (e4 : ev l u = some (.int k3 m)) (h0 : 0 ≤ i:=by omega) (h1 : i ≤ j:=by omega) (h2 : j ≤ m:=by omega) (h3 : m ≤ cap:=by omega) :
    Ex P N l (.slice t x (some y) (some z) (some u)) ty w (cut3 a i.toNat j.toNat m.toNat sz) w :=
  ⟨nofun,fun _ _ _ r hr=>by
    have hj : 0 ≤ j:=by omega
    have hm : 0 ≤ m:=by omega
    simp [execOp,Instr.sliceAt,Instr.slice,Instr.sliceBounds,Instr.sliceBound,hr.eval e1,hr.eval e2,hr.eval e3,hr.eval e4,asIntOf,hu w,hs w,h0,h1,h2,h3,hj,hm,cut3,show max j 0 = j by omega,show max m 0 = m by omega]⟩
theorem Ex.sliceLHN {n cap sz : Nat} {a : Option Addr} {i j : Int} (hu : UndIs P t (.slice T)) (hs : SizeIs P T sz) (e1 : ev l x = some (.slice a n cap)) (e2 : ev l y = some (.int k i)) (e3 : ev l z = some (.int k2 j)) (h0 : 0 ≤ i:=by omega) (h1 : i ≤ j:=by omega) (h3 : j ≤ cap:=by omega) :
    Ex P N l (.slice t x (some y) (some z) none) ty w (cut3 a i.toNat j.toNat cap sz) w :=
  ⟨nofun,fun _ _ _ r hr=>by
    have hj : 0 ≤ j:=by omega
    simp [execOp,Instr.sliceAt,Instr.slice,Instr.sliceBounds,Instr.sliceBound,hr.eval e1,hr.eval e2,hr.eval e3,asIntOf,hu w,hs w,h0,h1,h3,hj,cut3,show max j 0 = j by omega]⟩
theorem append_self {b n cap i j : Nat} (hu : UndIs P t (.slice T)) (hs : SizeIs P T 1) (he : ∀ x,(e x).oneCell' = true) (hn : n = xs.length) (hr : n + rest.length = cap) (hij : i ≤ j) (hjn : j ≤ n)
    (H : Holds w (pt b (.cells (xs.map e ++ rest).toArray T (0,0))::L)) :
    ∃ w',(Builtin.append_ #[t,t] ty #[.slice (some ⟨b,0,none⟩) i cap,cutV (.slice (some ⟨b,0,none⟩) n cap) j 1]).run P w = .ok (.slice (some ⟨b,0,none⟩) (i + (n - j)) cap) w' ∧
      Holds w' (pt b (.cells ((xs.take i ++ xs.drop j).map e ++ (xs.map e ++ rest).drop (i + (n - j))).toArray T (0,0))::L):=by
  subst hn
  rcases Nat.eq_zero_or_pos (xs.length - j) with h0|h0
  · refine ⟨w,?_,?_⟩
    · rw [h0]; exact append_zero (v:=.slice none 0 0) hu hs h0 (by omega)
    · have hd : xs.drop j = []:=List.drop_eq_nil_of_le (by omega)
      rw [hd,h0,List.append_nil,Nat.add_zero,List.map_take]
      have : List.take i (List.map e xs) ++ List.drop i (List.map e xs ++ rest) = List.map e xs ++ rest:=by
        rw [← List.take_append_of_le_length (l₂:=rest) (by simp; omega),List.take_append_drop]
      rw [this]; exact H
  · have hc : ¬ cap = j:=by omega
    have hnews : ∀ q u,((xs.drop j).map e)[q]? = some u → w.cell? ((Addr.mk b j none).add q) = some u:=fun q u h=>pt_cells H j q u (by rw [List.map_drop] at h; exact h)
    have hfc:=run_firstCells_some (P:=P) w 1 (xs.length - j) ⟨b,j,none⟩ (xs.length - j) (cap - j) ((xs.drop j).map e) (by simp) hnews
    obtain ⟨w',hst,H'⟩:=storeCells_list (P:=P) (vs:=(xs.drop j).map e) (xs.map e ++ rest) (by intro v hv; obtain ⟨a,_,rfl⟩:=List.mem_map.1 hv; exact he a) H i (by simp; omega)
    have hroom : i + (xs.length - j) ≤ cap:=by omega
    refine ⟨w',?_,?_⟩
    · have hst2:=hst
      rw [List.map_drop] at hst2
      simp [cutV,hc,Builtin.append_,run_underlying hu.pure,hs w,Builtin.lenOf,hroom,Addr.add_lit,hfc,hst2]
    · rw [List.map_append,List.map_take]
      rw [List.take_append_of_le_length (by simp; omega)] at H'
      simpa using H'
theorem O.appendSelf {b n cap i j bt : Nat} {ats : Array TypeId} (hu : UndIs P t (.slice T)) (hs : SizeIs P T 1) (e1 : ev l x = some (.slice (some ⟨b,0,none⟩) i cap)) (e2 : ev l y = some (cutV (.slice (some ⟨b,0,none⟩) n cap) j 1)) (hn : n = xs.length) (hr : n + rest.length = cap)
    (h : ∀ w',Holds w' (pt b (.cells ((xs.take i ++ xs.drop j).map e ++ (xs.map e ++ rest).drop (i + (n - j))).toArray T (0,0))::L) → O P ro N ops os Q ((d,.slice (some ⟨b,0,none⟩) (i + (n - j)) cap)::l) ds w')
    (H : Holds w (pt b (.cells (xs.map e ++ rest).toArray T (0,0))::L):=by exact Holds.to (by assumption)) (hij : i ≤ j:=by omega) (hjn : j ≤ n:=by omega) (he : ∀ x,(e x).oneCell' = true:=by intros; rfl) (ht : ats = #[t,t]:=by rfl) (hd : Nat.blt d N = true:=by rfl) :
    O P ro N ops (⟨some d,.call ⟨.builtin .append,#[x,y],ats⟩,ty,pos,af,none⟩::os) Q l ds w:=by
  subst ht
  obtain ⟨w',h1,h2⟩:=append_self (P:=P) (ty:=ty) hu hs he hn hr hij hjn H
  refine O.val nofun (by simpa using hd) (fun a ha=>?_) (h w' h2)
  simp only [execOp,resolve,invoke,builtin,List.map_toArray,List.map_cons,List.map_nil,ha.eval e1,ha.eval e2,Sem.run_bind,Sem.run_pure,Result.andThen_ok,h1]
/-- clear of a cut of a slice. -/
theorem O.clearCut {b off m c : Nat} {zs : α} {ats : Array TypeId} {cs : List Value} (hu : UndIs P t (.slice T)) (hz : ZeroIs P T (e zs)) (hz1 : (e zs).oneCell' = true) (e1 : ev l x = some (.slice (some ⟨b,off,none⟩) m c)) (hm : 0 < m)
    (h : ∀ w',Holds w' (pt b (.cells (cs.take off ++ List.replicate m (e zs) ++ cs.drop (off + m)).toArray T (0,0))::L) → O P ro N ops os Q l ds w')
    (H : Holds w (pt b (.cells cs.toArray T (0,0))::L)) (hle : off + m ≤ cs.length) (ht : ats[0]? = some t:=by rfl) :
    O P ro N ops (⟨none,.call ⟨.builtin .clear,#[x],ats⟩,ty,pos,af,none⟩::os) Q l ds w:=by
  obtain ⟨w',h1,h2⟩:=storeCells_list (P:=P) (vs:=List.replicate m (e zs)) cs (by intro v hv; have e' : v = e zs:=List.eq_of_mem_replicate hv; rw [e']; exact hz1) H off (by simpa using hle)
  rw [List.length_replicate] at h2
  obtain ⟨m',rfl⟩ : ∃ m',m = m' + 1:=⟨m - 1,by omega⟩
  refine O.ex0 (v:=.tuple #[]) ⟨nofun,fun _ _ _ a ha=>?_⟩ (h w' h2)
  simp [execOp,resolve,invoke,builtin,Builtin.clear_,ha.eval e1,ht,hu w,hz w,zeroCells_one _ _ hz1,h1]
end
end Go.Rr
end
section
/- From a reading of the arguments to what the walk is told of them. No program in sight. -/
namespace Go.Rr
set_option linter.unusedVariables false
section
variable {H : Type} {enc : TypeId × Value → H} {P : Program} {w : World} {base : Nat} {held : Bool}
/-- Cells that read as a value of type e are laid out as some x. -/
def ElemOk {α : Type} (P : Program) (e : TypeId) (lay : α → List Value) (φ : α → Prop) : Prop :=
  ∀ (H : Type) (enc : TypeId × Value → H) (w : World) (base : Nat) (spare : Nat → Bool) (held : Bool) (fuel : Nat) (cs : List Value) (x : DataW H × List MemPlace),DataW.trod enc P w base spare held fuel e cs = some x → ∃ a,cs = lay a ∧ φ a
theorem ElemOk.int {e : TypeId} {k : IntKind} (hu : P.underlying e = some (.int k)) : ElemOk P e (fun n : Int=>[.int k n]) (fun n=>(Lit.int k n).wf = true):=fun _ _ _ _ _ _ _ _ _ h=>by
  obtain ⟨n,h1,_,h2⟩:=DataW.trod_int hu h; exact ⟨n,h1,h2⟩
theorem ElemOk.bool {e : TypeId} (hu : P.underlying e = some .bool) : ElemOk P e (fun b : Bool=>[.bool b]) (fun _=>True):=fun _ _ _ _ _ _ _ _ _ h=>by
  obtain ⟨n,h1,_⟩:=DataW.trod_bool hu h; exact ⟨n,h1,trivial⟩
theorem ElemOk.string {e : TypeId} (hu : P.underlying e = some .string) : ElemOk P e (fun s : ByteArray=>[.string s]) (fun s=>s.size ≤ maxLen):=fun _ _ _ _ _ _ _ _ _ h=>by
  obtain ⟨n,h1,_,h2⟩:=DataW.trod_string hu h; exact ⟨n,h1,h2⟩
theorem slIn_of_trod {α : Type} [Inhabited α] {lay : α → List Value} {φ : α → Prop} {t e sz : Nat} {v : Value} {d : DataW H} {ps : List MemPlace} (ht : P.underlying t = some (.slice e)) (hc : P.cellsOf e = sz) (hz : 0 < sz) (hl : ∀ a,(lay a).length = sz)
    (he : ElemOk P e lay φ) (hv : ∃ a len cap,v = .slice a len cap) (h : DataW.Trod enc P w 0 (fun _=>true) true t v d ps) : ∃ xs : List α,SlIn w sz lay v xs ∧ (∀ x ∈ xs,φ x) ∧ xs.length ≤ maxLen:=by
  obtain ⟨a,len,cap,rfl⟩:=hv
  obtain ⟨fuel,hf⟩:=h
  rcases Deep.open_slice ht hf with ⟨h1,h2⟩|⟨a',len',cap',m,n,D,Pl,h1,hb,hlc,hm,hmm,hx,hel⟩
  · simp [Value.cells] at h1
    obtain ⟨rfl,rfl,rfl⟩:=h1
    exact ⟨[],⟨none,0,rfl,fun i h=>absurd h (Nat.not_lt_zero _)⟩,(fun x hx=>by cases hx),Nat.zero_le _⟩
  · simp [Value.cells] at h1
    obtain ⟨rfl,rfl,rfl⟩:=h1
    have hlm : len ≤ m:=by rw [hmm]; simpa using hlc
    have hch : ∀ i,i < len → ∃ x : α,φ x ∧ w.cells? 0 (a'.add (i * sz)) sz = some (lay x):=fun i hi=>by
      obtain ⟨cs,h1,h2⟩:=hel i (by omega)
      obtain ⟨x,h3,h4⟩:=he _ _ _ _ _ _ _ _ _ h2
      rw [hc] at h1
      exact ⟨x,h4,h3 ▸ h1⟩
    obtain ⟨f,hf⟩:=Deep.choose_lt hch
    refine ⟨(List.range len).map f,⟨some a',cap,by simp,fun i hi=>?_⟩,fun x hx=>?_,?_⟩
    · simp only [List.length_map,List.length_range] at hi
      obtain ⟨h1,h2⟩:=hf i hi
      obtain ⟨_,h3,h4⟩:=World.cells?_some h2
      have hspot : a'.spot = none:=by
        have h5:=h4 0 hz
        rw [List.getElem?_eq_getElem (by omega)] at h5
        have:=World.cell?_spot h5
        unfold Addr.add at this
        split at this
        · split at this
          · exact this
          · rename_i h7 h6
            cases h8 : a'.spot with
            | none=>rfl
            | some s =>
              have h0:=(hf 0 (by omega)).2
              obtain ⟨_,h3',h4'⟩:=World.cells?_some h0
              have h5':=h4' 0 hz
              rw [List.getElem?_eq_getElem (by omega)] at h5'
              have:=World.cell?_spot h5'
              simp [Addr.add,h8] at this
        · cases h8 : a'.spot with
          | none=>rfl
          | some s =>
            have h0:=(hf 0 (by omega)).2
            obtain ⟨_,h3',h4'⟩:=World.cells?_some h0
            have h5':=h4' 0 hz
            rw [List.getElem?_eq_getElem (by omega)] at h5'
            have:=World.cell?_spot h5'
            simp [Addr.add,h8] at this
      obtain ⟨b,off,spot⟩:=a'
      simp only at hspot
      subst hspot
      refine ⟨b,off,rfl,by simp [hl],fun j hj=>?_⟩
      have:=h4 j hj
      rw [add_off,add_off] at this
      simpa [Nat.add_assoc] using this
    · simp only [List.mem_map,List.mem_range] at hx
      obtain ⟨i,hi,rfl⟩:=hx
      exact (hf i hi).1
    · simp; omega
end
end Go.Rr
end
section
/- What slices.Insert asks: copy, append of a made row, cap, the call of one of the model's own functions. No program in sight. -/
namespace Go.Rr
set_option linter.unusedVariables false
section
variable {P : Program} {ro : Option Nat} {N : Nat} {Q : Q0} {l : Regs} {ds : List Deferred} {w w' : World} {ops : Array Oper} {os : List Oper}
variable {d : Tmp} {ty : TypeId} {pos : String} {af : Array Edge} {x y z : Operand} {t T : TypeId} {α : Type} {L : List HProp} {info : TypeInfo} {zv : Value} {sz : Nat} {k : IntKind} {v u : Value}
theorem Ex.cap {ats : Array TypeId} {a : Option Addr} {n c : Nat} {E : TypeId} (hu : UndIs P t (.slice E)) (e1 : ev l x = some (.slice a n c)) (ht : ats[0]? = some t:=by rfl) : Ex P N l (.call ⟨.builtin .cap,#[x],ats⟩) ty w (.int .i64 c) w :=
  ⟨nofun,fun _ _ _ a ha=>by simp [execOp,resolve,invoke,builtin,Builtin.cap_,ha.eval e1,ht,hu w,goInt]⟩
theorem cutV_mk {b off n cap lo : Nat} (h : lo < cap) : cutV (.slice (some ⟨b,off,none⟩) n cap) lo 1 = .slice (some ⟨b,off + lo,none⟩) (n - lo) (cap - lo):=by
  simp only [cutV]
  rw [if_neg (by omega),Nat.mul_one,Option.map_some,add_off]
/-- copy, of cells that lie wherever they lie. -/
theorem copy_cells {b od ld cd bs oo ls cs : Nat} {c vs : List Value} (hu : UndIs P t (.slice T)) (hs : SizeIs P T 1) (hl : vs.length = min ls ld) (hsrc : ∀ j u,vs[j]? = some u → w.cell? ((Addr.mk bs oo none).add j) = some u) (h1 : ∀ u ∈ vs,u.oneCell' = true)
    (H : Holds w (pt b (.cells c.toArray T (0,0))::L)) (hfit : od + vs.length ≤ c.length) :
    ∃ w',(Builtin.copy_ #[t,t] ty #[.slice (some ⟨b,od,none⟩) ld cd,.slice (some ⟨bs,oo,none⟩) ls cs]).run P w = .ok (.int .i64 vs.length) w' ∧ Holds w' (pt b (.cells (c.take od ++ vs ++ c.drop (od + vs.length)).toArray T (0,0))::L):=by
  obtain ⟨w',hst,H'⟩:=storeCells_list (P:=P) (vs:=vs) c h1 H od hfit
  refine ⟨w',?_,H'⟩
  have hfc:=run_firstCells_some (P:=P) w 1 vs.length ⟨bs,oo,none⟩ ls cs vs (by omega) hsrc
  have hm : Nat.min ls ld = vs.length:=by rw [hl]
  simp [Builtin.copy_,run_underlying hu.pure,hs w,Builtin.lenOf,hm,hfc,hst,goInt]
theorem O.copyE {b od ld cd bs oo ls cs : Nat} {c : List Value} {ats : Array TypeId} (hu : UndIs P t (.slice T)) (hs : SizeIs P T 1) (e1 : ev l x = some (.slice (some ⟨b,od,none⟩) ld cd)) (e2 : ev l y = some (.slice (some ⟨bs,oo,none⟩) ls cs))
    (vs : List Value) (hl : vs.length = min ls ld) (hsrc : ∀ j u,vs[j]? = some u → w.cell? ((Addr.mk bs oo none).add j) = some u) (h1 : ∀ u ∈ vs,u.oneCell' = true)
    (H : Holds w (pt b (.cells c.toArray T (0,0))::L)) (hfit : od + vs.length ≤ c.length)
    (h : ∀ w',Holds w' (pt b (.cells (c.take od ++ vs ++ c.drop (od + vs.length)).toArray T (0,0))::L) → O P ro N ops os Q ((d,.int .i64 vs.length)::l) ds w')
    (ht : ats = #[t,t]:=by rfl) (hd : Nat.blt d N = true:=by rfl) :
    O P ro N ops (⟨some d,.call ⟨.builtin .copy,#[x,y],ats⟩,ty,pos,af,none⟩::os) Q l ds w:=by
  subst ht
  obtain ⟨w',hr,H'⟩:=copy_cells (P:=P) (ty:=ty) (ld:=ld) (cd:=cd) (ls:=ls) (cs:=cs) hu hs hl hsrc h1 H hfit
  refine O.val nofun (by simpa using hd) (fun a ha=>?_) (h _ H')
  simp only [execOp,resolve,invoke,builtin,List.map_toArray,List.map_cons,List.map_nil,ha.eval e1,ha.eval e2,Sem.run_bind,Sem.run_pure,Result.andThen_ok,hr]
/-- append(s[:n], make([]T, k)...), where there is no room. -/
theorem O.appendZ {b n cap kk : Nat} {olds rest : List Value} {tn : TypeId} {kn : IntKind} {ats : Array TypeId} {bt : Nat} {q : Int} (hu : UndIs P t (.slice T)) (hun : UndIs P tn (.int kn)) (hI : InfoIs P T info) (hbt : info.bytes = bt) (hs : SizeIs P T 1) (hz : ZeroIs P T zv)
    (e1 : ev l x = some (.slice (some ⟨b,0,none⟩) n cap)) (e2 : ev l y = some (.int k q)) (hq : q = (kk : Nat)) (ho : olds.length = n) (hk : 0 < kk) (hg : cap < n + kk) (h63 : n + kk ≤ 9223372036854775807) (hb : (n + kk) * bt ≤ 140737488355328)
    (H : Holds w (pt b (.cells (olds ++ rest).toArray T (0,0))::L))
    (h : ∀ g cap' rest' w',(olds ++ List.replicate kk zv).length + rest'.length = cap' → Holds w' (pt g (.cells (olds ++ List.replicate kk zv ++ rest').toArray T (0,0))::pt b (.cells (olds ++ rest).toArray T (0,0))::L) → O P ro N ops os Q ((d,.slice (some ⟨g,0,none⟩) (n + kk) cap')::l) ds w')
    (ht : ats = #[t,tn]:=by rfl) (hzc : zv.oneCell' = true:=by rfl) (hd : Nat.blt d N = true:=by rfl) :
    O P ro N ops (⟨some d,.call ⟨.builtin .append,#[x,y],ats⟩,ty,pos,af,none⟩::os) Q l ds w:=by
  subst ht hbt hq
  have hisz:=hs.of hI
  have hcells:=pt_cells H 0
  rw [List.drop_zero] at hcells
  have hold : (Builtin.firstCells info.size n (.slice (some ⟨b,0,none⟩) n cap)).run P w.drew = .ok olds.toArray w.drew:=by
    rw [hisz]
    exact run_firstCells_some (P:=P) w.drew 1 n ⟨b,0,none⟩ n cap olds (by omega) hcells
  have hfit:=growslice_fits hg hb
  have hkb : kk * info.bytes ≤ 281474976710656:=by
    have:=Nat.mul_le_mul_right info.bytes (show kk ≤ n + kk by omega); omega
  have hrun:=Lib.run_append_grow_zeros (P:=P) w t tn ty T info zv k kn hu.pure hun.pure hI.pure (hz.of hI) (some ⟨b,0,none⟩) n cap olds hold kk hk (by omega) hg (by omega) hkb hfit
  have hge:=grownCap_ge w (n + kk) cap T
  have hz1 : ∀ m,(Builtin.zeroCells zv.cells m).toList = List.replicate m zv:=fun m=>zeroCells_one zv m hzc
  refine O.val (w':=w.drew.alloc (.cells (olds.toArray ++ Builtin.zeroCells zv.cells kk ++ Builtin.zeroCells zv.cells (grownCap w (n + kk) cap T - (n + kk))) T)) nofun (by simpa using hd) (fun a ha=>?_) (h w.heap.size (grownCap w (n + kk) cap T) (List.replicate (grownCap w (n + kk) cap T - (n + kk)) zv) _ (by simp; omega) ?_)
  · simp only [execOp,resolve,invoke,builtin,List.map_toArray,List.map_cons,List.map_nil,ha.eval e1,ha.eval e2,Sem.run_bind,Sem.run_pure,Result.andThen_ok,hrun]
  · have H2 : Holds w.drew (pt b (.cells (olds ++ rest).toArray T (0,0))::L):=H.same rfl rfl
    have:=H2.alloc (.cells (olds.toArray ++ Builtin.zeroCells zv.cells kk ++ Builtin.zeroCells zv.cells (grownCap w (n + kk) cap T - (n + kk))) T)
    have e : (olds ++ List.replicate kk zv ++ List.replicate (grownCap w (n + kk) cap T - (n + kk)) zv).toArray = olds.toArray ++ Builtin.zeroCells zv.cells kk ++ Builtin.zeroCells zv.cells (grownCap w (n + kk) cap T - (n + kk)):=by
      apply Array.ext'; simp [hz1]
    rw [e]
    exact this
/-- The call of one of the model's own functions, which hands a value back and leaves all as it was. -/
theorem O.callE {f : FuncId} {args : Array Operand} {ats : Array TypeId} {vs : List Value} {r : Value} (e : evs l args.toList = some vs) (hf : (callFunc f vs.toArray).run P w = .ok (.value r) w) (h : O P ro N ops os Q ((d,r)::l) ds w) (hd : Nat.blt d N = true:=by rfl) :
    O P ro N ops (⟨some d,.call ⟨.value (.func f),args,ats⟩,ty,pos,af,none⟩::os) Q l ds w :=
  O.val nofun (by simpa using hd) (fun a ha=>by simp [execOp,resolve,Act.eval,Deferred.ofValue,invoke,ha.evalsA e]; exact hf) h
end
end Go.Rr
end
section
/- A slice held against nil. No program in sight. -/
namespace Go.Rr
set_option linter.unusedVariables false
section
variable {P : Program} {N : Nat} {l : Regs} {w : World} {ty : TypeId} {x y : Operand} {t yt : TypeId}
end
section
variable {P : Program} {ro : Option Nat} {N : Nat} {Q : Q0} {l : Regs} {ds : List Deferred} {w w' w0 : World} {ops : Array Oper} {os : List Oper}
variable {d : Tmp} {ty : TypeId} {pos : String} {af : Array Edge} {x y : Operand} {t T yt : TypeId} {α : Type} {L : List HProp} {zv : Value} {info : TypeInfo}
end
end Go.Rr
end
section
/- The marks that ranges over functions leave, however many. No program in sight. -/
namespace Go.Rr
set_option linter.unusedVariables false
section
variable {P : Program} {w : World} {L : List HProp} {l : Regs} {ds : List Deferred} {D : Nat}
theorem marks_nil (H : Holds w L) : Holds w (marks []::L):=Holds.star.2 H
theorem marks_push (H : Holds w (dblk D::marks ds::L)) : Holds w (marks (⟨.collected D,#[]⟩::ds)::L):=by
  have H1 : Holds w (marks ds::dblk D::L):=H.swap
  have H2 : Holds w (ds.map markOf ++ (dblk D::L)):=Holds.star.1 H1
  have key : ∀ (A : List HProp) (w : World) (B : HProp) (L : List HProp),Holds w (A ++ (B::L)) → Holds w (B::(A ++ L)):=by
    intro A
    induction A with
    | nil=>intro w B L h; exact h
    | cons a A ih =>
      intro w B L h
      exact Holds.swap (Holds.cons (fun f hf=>by
        have hk : ∀ (r : Rest) (A : List HProp) (f : Frag),sep (A ++ (B::L)) r f → sep (B::(A ++ L)) r f:=by
          intro r A
          induction A with
          | nil=>intro f h; exact h
          | cons a A ih=>intro f h; exact sep_swap (sep_cons (fun f h=>ih f h) h)
        exact hk _ A f hf) h)
  have H3:=key _ _ _ _ H2
  have H4 : Holds w (markOf ⟨.collected D,#[]⟩::(ds.map markOf ++ L)):=Holds.hex.2 ⟨D,Holds.star.2 (Holds.hp.2 ⟨rfl,H3⟩)⟩
  exact Holds.star.2 H4
theorem retD_gen {rs : List ResultVar} {R : Value → World → Prop} (H : Holds w (marks ds::L)) (h : ∀ w',Holds w' L → ∃ vs,RV P l w' rs vs ∧ R (oneOf vs) w') : retD P rs R l w ds:=by
  cases ds with
  | nil=>exact h w H.drop
  | cons d ds=>exact ⟨L,H,h⟩
end
end Go.Rr
end
section
/- A field of a struct that is not in memory. No program in sight. -/
namespace Go.Rr
set_option linter.unusedVariables false
section
variable {P : Program} {N : Nat} {l : Regs} {w : World} {ty : TypeId} {x : Operand}
end
end Go.Rr
end
section
/- A field of a struct that lies in a slice among the arguments. No program in sight. -/
namespace Go.Rr
set_option linter.unusedVariables false
section
variable {P : Program} {N : Nat} {l : Regs} {w w0 : World} {ty : TypeId} {x : Operand} {t : TypeId} {α : Type} {enc : α → List Value} {v : Value} {xs : List α} {L : List HProp} {sz : Nat}
theorem Ex.fieldIn {s f n q : Nat} (hf : FieldIs P s f n) (e1 : ev l x = some (.pointer (some (aIn v q)))) (hs : SlIn w0 sz enc v xs:=by assumption) (h : 0 < xs.length:=by omega) : Ex P N l (.fieldAddr s x f) ty w (.pointer (some (aIn v (q + n)))) w:=by
  obtain ⟨a,cap,rfl,h'⟩:=hs
  obtain ⟨b,off,rfl,_⟩:=h' 0 h
  have:=Ex.field (N:=N) (ty:=ty) (w:=w) hf e1
  rw [Nat.add_assoc] at this
  exact this
theorem Ex.loadInF [Inhabited α] {i j : Nat} {u : Value} (ht : AggIs P t false) (e1 : ev l x = some (.pointer (some (aIn v (i * sz + j))))) (H : Holds w (base w0::L)) (hs : SlIn w0 sz enc v xs:=by assumption) (h : i < xs.length:=by first|assumption|omega) (hj : j < sz:=by decide) (hu : (enc (xs.getD i default))[j]? = some u:=by rfl) :
    Ex P N l (.load t x) ty w u w:=by
  have hc:=hs.cell h hj
  refine Ex.load ht e1 (H.base_cell ?_)
  obtain ⟨a,cap,rfl,h'⟩:=hs
  obtain ⟨b,off,rfl,_⟩:=h' i h
  rw [hu] at hc
  rw [← hc]
  show w0.cell? ⟨b,off + (i * sz + j),none⟩ = w0.cell? ⟨b,off + i * sz + j,none⟩
  rw [Nat.add_assoc]
end
end Go.Rr
end
section
/- Structs compared, field by field. No program in sight. -/
namespace Go.Rr
open Go
end Go.Rr
end
section
/- A range over a function within a round of another one. No program in sight. -/
namespace Go.Rr
set_option linter.unusedVariables false
section
variable {P : Program} {N : Nat} {Q : Q0} {l : Regs} {ds : List Deferred} {w w' : World} {L : List HProp} {ps : Array Tmp} {assign body : Code} {k0 : Nat}
variable {N0 D0 : Nat} {l0 : Regs} {ps0 : Array Tmp} {as0 bo0 : Code} {st0 : LoopState} {pe0 : Option Code}
end
end Go.Rr
end
section
/- A slice of numbers that is only read, whatever holds its cells. No program in sight. -/
namespace Go.Rr
set_option linter.unusedVariables false
def Rd (S : HProp) (v : Value) (xs : List Int) : Prop :=
  ∀ w L,Holds w (S::L) → (∃ a cap,v = .slice a xs.length cap ∧ (0 < xs.length → ∃ b off,a = some ⟨b,off,none⟩)) ∧ ∀ i,i < xs.length → w.cell? (aIn v i) = some (.int .i64 (xs.getD i default))
theorem Rd.form {w : World} {L : List HProp} {S : HProp} {v : Value} {xs : List Int} (h : Rd S v xs) (H : Holds w (S::L)) : ∃ a cap,v = .slice a xs.length cap:=by
  obtain ⟨⟨a,cap,h1,_⟩,_⟩:=h w L H
  exact ⟨a,cap,h1⟩
theorem Rd.nil {S : HProp} : Rd S (.slice none 0 0) []:=fun w L H=>⟨⟨none,0,rfl,fun h=>absurd h (Nat.lt_irrefl _)⟩,fun i h=>absurd h (Nat.not_lt_zero _)⟩
theorem Rd.ofArr {T : Nat} {v : Value} {xs : List Int} : Rd (arr T (Value.int .i64) v xs) v xs:=fun w L H=>by
  rcases arr_cases H with ⟨rfl,rfl,_⟩|⟨b,cap,rest,rfl,hc,H'⟩
  · exact ⟨⟨none,0,rfl,fun h=>absurd h (Nat.lt_irrefl _)⟩,fun i h=>absurd h (Nat.not_lt_zero _)⟩
  · refine ⟨⟨_,cap,rfl,fun _=>⟨b,0,rfl⟩⟩,fun i hi=>?_⟩
    have:=arr_cell H hi
    show w.cell? (⟨b,0 + i,none⟩ : Addr) = _
    rw [Nat.zero_add]
    exact this
/-- The first part of a slice of one's own. -/
theorem Rd.cut {T b cap i : Nat} {xs : List Int} (hi : i ≤ xs.length) : Rd (arr T (Value.int .i64) (.slice (some ⟨b,0,none⟩) xs.length cap) xs) (.slice (some ⟨b,0,none⟩) i cap) (xs.take i):=fun w L H=>by
  obtain ⟨-,h⟩:=Rd.ofArr w L H
  refine ⟨⟨_,cap,by rw [List.length_take,Nat.min_eq_left hi],fun _=>⟨b,0,rfl⟩⟩,fun j hj=>?_⟩
  rw [List.length_take] at hj
  have:=h j (by omega)
  rw [show (xs.take i).getD j default = xs.getD j default by rw [List.getD_eq_getElem?_getD,List.getD_eq_getElem?_getD,List.getElem?_take_of_lt (by omega)]]
  exact this
theorem Rd.hi {T i : Nat} {v : Value} {xs : List Int} (hi : i ≤ xs.length) : Rd (arr T (Value.int .i64) v xs) (hiV v i) (xs.take i):=fun w L H=>by
  rcases arr_cases H with ⟨rfl,rfl,_⟩|⟨b,cap,rest,rfl,hc,H'⟩
  · obtain rfl : i = 0:=by simpa using hi
    exact Rd.nil w L H
  · exact Rd.cut hi w L H
section
variable {P : Program} {ro : Option Nat} {N : Nat} {Q : Q0} {l : Regs} {ds : List Deferred} {w w' : World} {ops : Array Oper} {os : List Oper}
variable {d : Tmp} {ty : TypeId} {pos : String} {af : Array Edge} {x y : Operand} {t T yt : TypeId} {L : List HProp} {k : IntKind} {S : HProp} {v : Value} {xs : List Int}
theorem Ex.idxRd {E : Nat} {i : Int} (hR : Rd S v xs) (hu : UndIs P t (.slice E)) (hz : SizeIs P E 1) (e1 : ev l x = some v) (e2 : ev l y = some (.int k i)) (H : Holds w (S::L):=by exact Holds.to (by assumption)) (h0 : 0 ≤ i:=by first|assumption|omega) (h1 : i < xs.length:=by first|assumption|omega) :
    Ex P N l (.indexAddr t x y) ty w (.pointer (some (aIn v i.toNat))) w:=by
  obtain ⟨⟨a,cap,rfl,h⟩,_⟩:=hR w L H
  obtain ⟨b,off,rfl⟩:=h (by omega)
  have:=Ex.idx (w:=w) (ty:=ty) (N:=N) hu hz e1 e2 h0 h1
  simpa [aIn] using this
theorem Ex.loadRd {i : Nat} (hR : Rd S v xs) (ht : AggIs P t false) (e1 : ev l x = some (.pointer (some (aIn v i)))) (H : Holds w (S::L):=by exact Holds.to (by assumption)) (h1 : i < xs.length:=by first|assumption|omega) :
    Ex P N l (.load t x) ty w (.int .i64 (xs.getD i default)) w:=by
  obtain ⟨_,h⟩:=hR w L H
  exact Ex.load ht e1 (h i h1)
end
end Go.Rr
end
section
/- A scope that nobody jumps into. No program in sight. -/
namespace Go.Rr
set_option linter.unusedVariables false
section
variable {P : Program} {b : Frame} {a : Act} {k : List Item} {cs : List Frame} {w : World} {F : Fence} {n : Nat} {Q : Exit → Act → World → Prop}
theorem stepR_scope {c : Code} : step P (lone (b.atR a (.code (.scope c)::k)) cs w) = .next (lone (b.atR a (.code c::.inScope c::k)) cs w) :=
  step_lone_go (by simp [stepG,stepG.exec,Frame.atR])
theorem stepR_inScope {c : Code} : step P (lone (b.atR a (.inScope c::k)) cs w) = .next (lone (b.atR a k) cs w) :=
  step_lone_go (by simp [stepG,stepG.exec,Frame.atR])
theorem wpIn_scope {c : Code} (h : c.wpIn F n P Q a w) (hn : ∀ l a w,¬ Q (.goto l) a w) : (Code.scope c).wpIn F n P Q a w:=by
  intro b k cs hro hb hr
  have h0 : (lone (b.atR a (.code (.scope c)::k)) cs w).fenced P F:=fenced_calm hb hr rfl
  obtain ⟨e,a₁,w₁,hq,harr⟩:=h b (.inScope c::k) cs hro hb hr
  cases e with
  | normal=>exact ⟨.normal,a₁,w₁,hq,.head h0 stepR_scope (StepsIn.trans harr (.one (fenced_calm hb hr rfl) stepR_inScope))⟩
  | exit id =>
    have hx : exitTo id (.inScope c::k) = exitTo id k:=by simp [exitTo]
    exact ⟨.exit id,a₁,w₁,hq,fun k' hk=>.head h0 stepR_scope (harr.1 k' (by rw [hx]; exact hk)),
      fun hr' hk=>let ⟨k₁,h1,h2⟩:=harr.2 hr' (by rw [hx]; exact hk); ⟨k₁,h1,.head h0 stepR_scope h2⟩⟩
  | goto l=>exact absurd hq (hn _ _ _)
  | ret=>exact ⟨_,a₁,w₁,hq,.of_steps (.one h0 stepR_scope) harr⟩
  | panic ch=>exact ⟨_,a₁,w₁,hq,.of_steps (.one h0 stepR_scope) harr⟩
  | outgrown=>exact ⟨_,a₁,w₁,hq,.of_steps (.one h0 stepR_scope) harr⟩
end
/-- No jump leaves it. -/
def scopeQ (Q : Q0) : Q0
  | .exit i,l,ds,w=>Q (.exit i) l ds w
  | .normal,l,ds,w=>Q .normal l ds w
  | .goto t,l,ds,w=>False
  | .ret,l,ds,w=>Q .ret l ds w
  | .panic c,l,ds,w=>Q (.panic c) l ds w
  | .outgrown,l,ds,w=>Q .outgrown l ds w
theorem W.scope {P : Program} {ro : Option Nat} {N : Nat} {Q : Q0} {l : Regs} {ds : List Deferred} {w : World} {c : Code} (h : W P ro N c (scopeQ Q) l ds w) : W P ro N (.scope c) Q l ds w :=
  fun a ha hd=>wpIn_mono (wpIn_scope (h a ha hd) fun t a w ⟨l,h1,h2⟩=>h2) fun e a w ⟨l,h1,h2⟩=>by
    cases e with
    | goto t=>exact h2.elim
    | _=>exact ⟨l,h1,h2⟩
end Go.Rr
end
section
/- A struct among the arguments: out of its reading. No program in sight. -/
namespace Go.Rr
open Go.ChangeShapes Go.WideShapes Go.ChangeAt Go.RowKit
set_option linter.unusedVariables false
end Go.Rr
end
