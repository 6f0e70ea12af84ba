/- Heap assertions, separated: what blocks hold, apart from each other, with whatever else beside. No program in sight. -/
import Derived.Below
namespace Go.Rr
set_option linter.unusedVariables false

theorem cells_one {v : Value} (h : v.oneCell' = true) : v.cells = #[v] := by cases v <;> simp_all [Value.cells, Value.oneCell']
theorem cells_agg (cs : Array Value) : (Value.agg cs).cells = cs := rfl
abbrev Frag := Nat → Option Obj
structure Rest where
  os : Os
  tape : Nat → Question → Nat
  output : Array (Nat × ByteArray)
def restOf (w : World) : Rest := ⟨w.os, w.tape, w.output⟩
def fragOf (w : World) : Frag := fun b => w.heap[b]?
def HProp := Rest → Frag → Prop
def Frag.le (f g : Frag) : Prop := ∀ b o, f b = some o → g b = some o
def Frag.apart (f g : Frag) : Prop := ∀ b, f b = none ∨ g b = none
def Frag.join (f g : Frag) : Frag := fun b => match f b with | some o => some o | none => g b

theorem Frag.le_refl (f : Frag) : f.le f := fun _ _ h => h
theorem Frag.le.trans {f g h : Frag} (a : f.le g) (b : g.le h) : f.le h := fun x o y => b x o (a x o y)
theorem Frag.apart.symm {f g : Frag} (h : f.apart g) : g.apart f := fun b => (h b).symm
theorem Frag.apart.le {f g f' g' : Frag} (h : f.apart g) (a : f'.le f) (b : g'.le g) : f'.apart g' := fun x => by
  rcases h x with h | h
  · left
    cases e : f' x with
    | none => rfl
    | some o => rw [a x o e] at h; cases h
  · right
    cases e : g' x with
    | none => rfl
    | some o => rw [b x o e] at h; cases h
theorem Frag.join_le {f g h : Frag} (a : f.le h) (b : g.le h) : (f.join g).le h := fun x o e => by
  unfold Frag.join at e
  split at e
  · rename_i o' h'; cases e; exact a x _ h'
  · exact b x o e
theorem Frag.le_join_left (f g : Frag) : f.le (f.join g) := fun x o e => by unfold Frag.join; rw [e]
theorem Frag.le_join_right {f g : Frag} (h : f.apart g) : g.le (f.join g) := fun x o e => by
  unfold Frag.join
  rcases h x with h | h
  · rw [h]; exact e
  · rw [h] at e; cases e
theorem Frag.apart_join {f g h : Frag} (a : f.apart h) (b : g.apart h) : (f.join g).apart h := fun x => by
  rcases a x with a | a
  · rcases b x with b | b
    · left; unfold Frag.join; rw [a]; exact b
    · exact .inr b
  · exact .inr a

/-- The assertions of a list, each on memory of its own; what is left over may be whatever. -/
def sep : List HProp → HProp
  | [], _, _ => True
  | A :: L, r, f => ∃ g h : Frag, g.apart h ∧ g.le f ∧ h.le f ∧ A r g ∧ sep L r h
def Holds (w : World) (L : List HProp) : Prop := sep L (restOf w) (fragOf w)

theorem sep_le {L : List HProp} {r : Rest} {f f' : Frag} (h : sep L r f) (a : f.le f') : sep L r f' := by
  cases L with
  | nil => trivial
  | cons A L => obtain ⟨g, k, h1, h2, h3, h4, h5⟩ := h; exact ⟨g, k, h1, h2.trans a, h3.trans a, h4, h5⟩
theorem sep_cons {A : HProp} {L L' : List HProp} {r : Rest} {f : Frag} (h : ∀ f, sep L r f → sep L' r f) (k : sep (A :: L) r f) : sep (A :: L') r f := by
  obtain ⟨g, k, h1, h2, h3, h4, h5⟩ := k; exact ⟨g, k, h1, h2, h3, h4, h _ h5⟩
theorem sep_swap {A B : HProp} {L : List HProp} {r : Rest} {f : Frag} (h : sep (A :: B :: L) r f) : sep (B :: A :: L) r f := by
  obtain ⟨g, k, h1, h2, h3, h4, g', k', i1, i2, i3, i4, i5⟩ := h
  have e : g.apart k' := h1.le (Frag.le_refl _) i3
  exact ⟨g', g.join k', ((Frag.apart_join (h1.le (Frag.le_refl _) i2) i1.symm)).symm, i2.trans h3, Frag.join_le h2 (i3.trans h3), i4, g, k', e, Frag.le_join_left _ _, Frag.le_join_right e, h4, i5⟩
theorem sep_drop {A : HProp} {L : List HProp} {r : Rest} {f : Frag} (h : sep (A :: L) r f) : sep L r f := by
  obtain ⟨g, k, h1, h2, h3, h4, h5⟩ := h; exact sep_le h5 h3
theorem sep_mono {A B : HProp} {L : List HProp} {r : Rest} {f : Frag} (i : ∀ r f, A r f → B r f) (h : sep (A :: L) r f) : sep (B :: L) r f := by
  obtain ⟨g, k, h1, h2, h3, h4, h5⟩ := h; exact ⟨g, k, h1, h2, h3, i _ _ h4, h5⟩

def star (l : List HProp) : HProp := sep l
def hex {α : Sort _} (p : α → HProp) : HProp := fun r f => ∃ a, p a r f
def hp (φ : Prop) : HProp := fun _ _ => φ
def pt (b : Nat) (o : Obj) : HProp := fun _ f => f b = some o
/-- Whatever lay in a world lies as it lay. -/
def base (w : World) : HProp := fun r f => r = restOf w ∧ (fragOf w).le f
/-- All that lay in a world but for one block. -/
def baseBut (w : World) (s : Nat → Prop) : HProp := fun r f => r = restOf w ∧ ∀ b o, ¬ s b → w.heap[b]? = some o → f b = some o

theorem sep_hex {α : Sort _} {p : α → HProp} {L : List HProp} {r : Rest} {f : Frag} : sep (hex p :: L) r f ↔ ∃ a, sep (p a :: L) r f := by
  constructor
  · rintro ⟨g, k, h1, h2, h3, ⟨a, h4⟩, h5⟩; exact ⟨a, g, k, h1, h2, h3, h4, h5⟩
  · rintro ⟨a, g, k, h1, h2, h3, h4, h5⟩; exact ⟨g, k, h1, h2, h3, ⟨a, h4⟩, h5⟩
theorem sep_hp {φ : Prop} {L : List HProp} {r : Rest} {f : Frag} : sep (hp φ :: L) r f ↔ φ ∧ sep L r f := by
  constructor
  · rintro ⟨g, k, h1, h2, h3, h4, h5⟩; exact ⟨h4, sep_le h5 h3⟩
  · rintro ⟨h, k⟩; exact ⟨fun _ => none, f, fun _ => .inl rfl, (fun _ _ h => by cases h), Frag.le_refl _, h, k⟩
theorem sep_star {l L : List HProp} {r : Rest} {f : Frag} : sep (star l :: L) r f ↔ sep (l ++ L) r f := by
  induction l generalizing f with
  | nil =>
    constructor
    · exact sep_drop
    · intro h; exact ⟨fun _ => none, f, fun _ => .inl rfl, (fun _ _ h => by cases h), Frag.le_refl _, trivial, h⟩
  | cons A l ih =>
    constructor
    · rintro ⟨g, k, h1, h2, h3, ⟨g', k', i1, i2, i3, i4, i5⟩, h5⟩
      have e : k'.apart k := h1.le i3 (Frag.le_refl _)
      exact ⟨g', k'.join k, (Frag.apart_join i1.symm (h1.le i2 (Frag.le_refl _)).symm).symm, i2.trans h2, Frag.join_le (i3.trans h2) h3, i4,
        ih.1 ⟨k', k, e, Frag.le_join_left _ _, Frag.le_join_right e, i5, h5⟩⟩
    · rintro ⟨g, k, h1, h2, h3, h4, h5⟩
      obtain ⟨g', k', i1, i2, i3, i4, i5⟩ := ih.2 h5
      have e : g.apart g' := h1.le (Frag.le_refl _) i2
      exact ⟨g.join g', k', Frag.apart_join (h1.le (Frag.le_refl _) i3) i1, Frag.join_le h2 (i2.trans h3), i3.trans h3,
        ⟨g, g', e, Frag.le_join_left _ _, Frag.le_join_right e, h4, i4⟩, i5⟩

section
variable {w w' : World} {A B C D E F G A1 A2 A3 A4 A5 : HProp} {L L' : List HProp}
theorem Holds.swap (h : Holds w (A :: B :: L)) : Holds w (B :: A :: L) := sep_swap h
theorem Holds.drop (h : Holds w (A :: L)) : Holds w L := sep_drop h
theorem Holds.mono (i : ∀ r f, A r f → B r f) (h : Holds w (A :: L)) : Holds w (B :: L) := sep_mono i h
theorem Holds.cons (i : ∀ f, sep L (restOf w) f → sep L' (restOf w) f) (h : Holds w (A :: L)) : Holds w (A :: L') := sep_cons i h
theorem Holds.hex {α : Sort _} {p : α → HProp} : Holds w (hex p :: L) ↔ ∃ a, Holds w (p a :: L) := sep_hex
theorem Holds.hp {φ : Prop} : Holds w (hp φ :: L) ↔ φ ∧ Holds w L := sep_hp
theorem Holds.star {l : List HProp} : Holds w (star l :: L) ↔ Holds w (l ++ L) := sep_star

/-- Bring the n-th to the front. -/
theorem sep_front {r : Rest} : ∀ (n : Nat) (L : List HProp) (f : Frag) (A : HProp), L[n]? = some A → sep L r f → sep (A :: L.eraseIdx n) r f
  | 0, B :: L, f, A, e, h => by simp at e; subst e; exact h
  | n + 1, B :: L, f, A, e, h => sep_swap (sep_cons (fun f h => sep_front n L f A (by simpa using e) h) h)
  | _, [], _, _, e, _ => by simp at e
/-- Put the first one at place n. -/
theorem sep_back {r : Rest} : ∀ (n : Nat) (L : List HProp) (f : Frag) (A : HProp), n ≤ L.length → sep (A :: L) r f → sep (L.insertIdx n A) r f
  | 0, L, f, A, e, h => by simpa using h
  | n + 1, B :: L, f, A, e, h => by
    rw [List.insertIdx_succ_cons]
    exact sep_cons (fun f h => sep_back n L f A (by simpa using e) h) (sep_swap h)
  | _ + 1, [], _, _, e, _ => by simp at e
theorem Holds.front (n : Nat) (h : Holds w L) (e : L[n]? = some A := by rfl) : Holds w (A :: L.eraseIdx n) := sep_front n L _ A e h

theorem Holds.f1 (h : Holds w (A :: B :: L)) : Holds w (B :: A :: L) := h.swap
theorem Holds.f2 (h : Holds w (A :: B :: C :: L)) : Holds w (C :: A :: B :: L) := h.front 2
theorem Holds.f3 (h : Holds w (A :: B :: C :: D :: L)) : Holds w (D :: A :: B :: C :: L) := h.front 3
theorem Holds.f4 (h : Holds w (A :: B :: C :: D :: E :: L)) : Holds w (E :: A :: B :: C :: D :: L) := h.front 4
theorem Holds.f5 (h : Holds w (A :: B :: C :: D :: E :: F :: L)) : Holds w (F :: A :: B :: C :: D :: E :: L) := h.front 5
theorem Holds.f6 (h : Holds w (A :: B :: C :: D :: E :: F :: G :: L)) : Holds w (G :: A :: B :: C :: D :: E :: F :: L) := h.front 6
theorem Holds.f7 (h : Holds w (A :: B :: C :: D :: E :: F :: G :: A1 :: L)) : Holds w (A1 :: A :: B :: C :: D :: E :: F :: G :: L) := h.front 7
theorem Holds.f8 (h : Holds w (A :: B :: C :: D :: E :: F :: G :: A1 :: A2 :: L)) : Holds w (A2 :: A :: B :: C :: D :: E :: F :: G :: A1 :: L) := h.front 8
theorem Holds.f9 (h : Holds w (A :: B :: C :: D :: E :: F :: G :: A1 :: A2 :: A3 :: L)) : Holds w (A3 :: A :: B :: C :: D :: E :: F :: G :: A1 :: A2 :: L) := h.front 9
end

/-! ### What is read of a block; what is turned -/
section
variable {w w' : World} {A : HProp} {L : List HProp} {b : Nat} {o o' : Obj}
theorem Holds.get (h : Holds w (pt b o :: L)) : w.heap[b]? = some o := by
  obtain ⟨g, k, h1, h2, h3, h4, h5⟩ := h; exact h2 b o h4
theorem Holds.lt (h : Holds w (pt b o :: L)) : b < w.heap.size := (Array.getElem?_eq_some_iff.1 h.get).1
theorem Holds.ne {b' : Nat} (h : Holds w (pt b o :: pt b' o' :: L)) : b ≠ b' := by
  obtain ⟨g, k, h1, h2, h3, h4, g', k', i1, i2, i3, i4, i5⟩ := h
  rintro rfl
  have := i2 b o' i4
  have h4' : g b = some o := h4
  rcases h1 b with e | e
  · rw [e] at h4'; cases h4'
  · rw [e] at this; cases this
theorem Holds.same (h : Holds w L) (hr : restOf w' = restOf w) (hh : w'.heap = w.heap) : Holds w' L := by
  unfold Holds fragOf at *; rw [hr, hh]; exact h
theorem Holds.drawn (h : Holds w L) (n : Nat) : Holds { w with drawn := n } L := h.same rfl rfl
theorem Holds.put (h : Holds w (pt b o :: L)) (hr : restOf w' = restOf w) (h1 : w'.heap[b]? = some o') (h2 : ∀ k, k ≠ b → w'.heap[k]? = w.heap[k]?) : Holds w' (pt b o' :: L) := by
  obtain ⟨g, k, i1, i2, i3, i4, i5⟩ := h
  have i4' : g b = some o := i4
  have hk : k b = none := by
    rcases i1 b with e | e
    · rw [e] at i4'; cases i4'
    · exact e
  refine ⟨fun x => if x = b then some o' else none, k, fun x => ?_, fun x y e => ?_, fun x y e => ?_, by simp [pt], hr ▸ i5⟩
  · by_cases e : x = b
    · subst e; exact .inr hk
    · simp [e]
  · by_cases e' : x = b
    · subst e'; simp at e; subst e; exact h1
    · simp [e'] at e
  · have : x ≠ b := by rintro rfl; rw [hk] at e; cases e
    show w'.heap[x]? = some y
    rw [h2 x this]; exact i3 x y e
theorem Holds.setCell {c : Array Value} {t : TypeId} {fr : Nat × Nat} {off : Nat} (v : Value) (h : Holds w (pt b (.cells c t fr) :: L)) : Holds (w.setCell ⟨b, off, none⟩ v) (pt b (.cells (c.setIfInBounds off v) t fr) :: L) :=
  h.put rfl (by simp [World.setCell, Array.getElem?_modify, h.get]) (fun k hk => by simp [World.setCell, Array.getElem?_modify, Ne.symm hk])
theorem Holds.putObj (o' : Obj) (h : Holds w (pt b o :: L)) : Holds { w with heap := w.heap.setIfInBounds b o' } (pt b o' :: L) :=
  h.put rfl (by simp [h.lt]) (fun k hk => by simp [Ne.symm hk])
theorem Holds.alloc (o : Obj) (h : Holds w L) : Holds { w with heap := w.heap.push o } (pt w.heap.size o :: L) := by
  refine ⟨fun x => if x = w.heap.size then some o else none, fragOf w, fun x => ?_, fun x y e => ?_, fun x y e => ?_, by simp [pt], h⟩
  · by_cases e : x = w.heap.size
    · subst e; right; show w.heap[w.heap.size]? = none; simp
    · simp [e]
  · by_cases e' : x = w.heap.size
    · subst e'; simp at e; subst e; show (w.heap.push o)[w.heap.size]? = some o; simp
    · simp [e'] at e
  · show (w.heap.push o)[x]? = some y
    have e' : w.heap[x]? = some y := e
    have := (Array.getElem?_eq_some_iff.1 e').1
    rw [Array.getElem?_push, if_neg (by omega)]; exact e'
theorem Holds.cell {c : Array Value} {t : TypeId} {fr : Nat × Nat} {off : Nat} {v : Value} (h : Holds w (pt b (.cells c t fr) :: L)) (e : c[off]? = some v) : w.cell? ⟨b, off, none⟩ = some v := by
  simp [World.cell?, h.get, e]
theorem Holds.frozen {c : Array Value} {t : TypeId} {off : Nat} (h : Holds w (pt b (.cells c t (0, 0)) :: L)) : w.frozen? ⟨b, off, none⟩ = false := by
  simp [World.frozen?, h.get]
theorem Holds.base_below {w0 : World} (h : Holds w (base w0 :: L)) : RowKit.Below w0.heap.size w0 w := by
  obtain ⟨g, k, h1, h2, h3, ⟨hr, h4⟩, h5⟩ := h
  have hr' : restOf w = restOf w0 := hr
  have e1 := congrArg Rest.os hr'
  have e2 := congrArg Rest.tape hr'
  have e3 := congrArg Rest.output hr'
  have hb : ∀ k o, w0.heap[k]? = some o → w.heap[k]? = some o := fun k o e => h2 k o (h4 k o e)
  refine ⟨e1, e2, e3, ?_, fun k hk => ?_⟩
  · rcases Nat.eq_zero_or_pos w0.heap.size with hz | hz
    · omega
    · have := hb (w0.heap.size - 1) _ (Array.getElem?_eq_getElem (by omega))
      have := (Array.getElem?_eq_some_iff.1 this).1
      omega
  · rw [hb k _ (Array.getElem?_eq_getElem hk), Array.getElem?_eq_getElem hk]
theorem Holds.base_refl (w : World) : Holds w [base w] :=
  ⟨fragOf w, fun _ => none, fun _ => .inr rfl, Frag.le_refl _, (fun _ _ h => by cases h), ⟨rfl, Frag.le_refl _⟩, trivial⟩
theorem Holds.base_get {w0 : World} (h : Holds w (base w0 :: L)) (e : w0.heap[b]? = some o) : w.heap[b]? = some o := by
  obtain ⟨g, k, h1, h2, h3, ⟨hr, h4⟩, h5⟩ := h
  exact h2 b o (h4 b o e)
theorem Holds.base_cell {w0 : World} {a : Addr} {v : Value} (h : Holds w (base w0 :: L)) (e : w0.cell? a = some v) : w.cell? a = some v := by
  have : w0.heap[a.block]? ≠ none := by intro e'; simp [World.cell?, e'] at e
  cases e' : w0.heap[a.block]? with
  | none => exact absurd e' this
  | some o => simp only [World.cell?, h.base_get e', e'] at e ⊢; exact e
/-- One block of the old ones, taken out. -/
theorem Holds.carve {w0 : World} (h : Holds w (base w0 :: L)) (e : w0.heap[b]? = some o) : Holds w (pt b o :: baseBut w0 (· = b) :: L) := by
  obtain ⟨g, k, h1, h2, h3, ⟨hr, h4⟩, h5⟩ := h
  refine ⟨fun x => if x = b then some o else none, Frag.join (fun x => if x = b then none else g x) k, fun x => ?_, fun x y e' => ?_, ?_, by simp [pt], ?_⟩
  · by_cases hx : x = b
    · subst hx; right
      rcases h1 x with h | h
      · rw [h4 x o e] at h; cases h
      · unfold Frag.join; simp [h]
    · simp [hx]
  · by_cases hx : x = b
    · subst hx; simp at e'; subst e'; exact h2 _ _ (h4 _ _ e)
    · simp [hx] at e'
  · refine Frag.join_le (fun x y e' => ?_) h3
    by_cases hx : x = b
    · simp [hx] at e'
    · simp [hx] at e'; exact h2 x y e'
  · have hap : Frag.apart (fun x => if x = b then none else g x) k := fun x => by
      by_cases hx : x = b
      · simp [hx]
      · simp [hx]; exact h1 x
    exact ⟨_, k, hap, Frag.le_join_left _ _, Frag.le_join_right hap, ⟨hr, fun x y hx e' => by simp [hx]; exact h4 x y e'⟩, h5⟩
theorem Holds.uncarve {w0 : World} (h : Holds w (pt b o :: baseBut w0 (· = b) :: L)) (e : w0.heap[b]? = some o) : Holds w (base w0 :: L) := by
  obtain ⟨g, k, h1, h2, h3, h4, g', k', i1, i2, i3, ⟨hr, i4⟩, i5⟩ := h
  have e1 : g.apart g' := h1.le (Frag.le_refl _) i2
  refine ⟨g.join g', k', Frag.apart_join (h1.le (Frag.le_refl _) i3) i1, Frag.join_le h2 (i2.trans h3), i3.trans h3, ⟨hr, fun x y hx => ?_⟩, i5⟩
  by_cases hxb : x = b
  · subst hxb
    have hx' : w0.heap[x]? = some y := hx
    rw [e] at hx'; cases hx'
    exact Frag.le_join_left _ _ _ _ h4
  · exact Frag.le_join_right e1 _ _ (i4 x y hxb hx)
end

/-! ### One list of assertions out of another one: some of them, in another turn -/
inductive Sel : List HProp → HProp → List HProp → Prop
  | head {A : HProp} {L : List HProp} : Sel (A :: L) A L
  | tail {A B : HProp} {L L' : List HProp} : Sel L A L' → Sel (B :: L) A (B :: L')
inductive PP : List HProp → List HProp → Prop
  | refl (L : List HProp) : PP L L
  | nil {L : List HProp} : PP L []
  | cons {A : HProp} {L L' M : List HProp} : Sel L A L' → PP L' M → PP L (A :: M)
  | drop {A : HProp} {L M : List HProp} : PP L M → PP (A :: L) M
theorem Sel.sep {L L' : List HProp} {A : HProp} (h : Sel L A L') {r : Rest} {f : Frag} (k : sep L r f) : sep (A :: L') r f := by
  induction h generalizing f with
  | head => exact k
  | tail _ ih => exact sep_swap (sep_cons (fun f h => ih h) k)
theorem PP.sep {L M : List HProp} (h : PP L M) {r : Rest} {f : Frag} (k : sep L r f) : sep M r f := by
  induction h generalizing f with
  | refl => exact k
  | nil => trivial
  | cons h _ ih => exact sep_cons (fun f h => ih h) (h.sep k)
  | drop _ ih => exact ih (sep_drop k)
theorem Holds.pp {w : World} {L M : List HProp} (H : Holds w L) (h : PP L M) : Holds w M := h.sep H
theorem PP.auto {L M : List HProp} (h : PP L M := by
    repeat (first
      | exact PP.refl _
      | exact PP.nil
      | (apply PP.cons; first
          | exact Sel.head
          | exact Sel.tail Sel.head
          | exact Sel.tail (Sel.tail Sel.head)
          | exact Sel.tail (Sel.tail (Sel.tail Sel.head))
          | exact Sel.tail (Sel.tail (Sel.tail (Sel.tail Sel.head)))
          | exact Sel.tail (Sel.tail (Sel.tail (Sel.tail (Sel.tail Sel.head))))
          | exact Sel.tail (Sel.tail (Sel.tail (Sel.tail (Sel.tail (Sel.tail Sel.head)))))
          | exact Sel.tail (Sel.tail (Sel.tail (Sel.tail (Sel.tail (Sel.tail (Sel.tail Sel.head))))))
          | exact Sel.tail (Sel.tail (Sel.tail (Sel.tail (Sel.tail (Sel.tail (Sel.tail (Sel.tail Sel.head)))))))
          | exact Sel.tail (Sel.tail (Sel.tail (Sel.tail (Sel.tail (Sel.tail (Sel.tail (Sel.tail (Sel.tail Sel.head))))))))
          | exact Sel.tail (Sel.tail (Sel.tail (Sel.tail (Sel.tail (Sel.tail (Sel.tail (Sel.tail (Sel.tail (Sel.tail Sel.head)))))))))
          | exact Sel.tail (Sel.tail (Sel.tail (Sel.tail (Sel.tail (Sel.tail (Sel.tail (Sel.tail (Sel.tail (Sel.tail (Sel.tail Sel.head))))))))))
          | exact Sel.tail (Sel.tail (Sel.tail (Sel.tail (Sel.tail (Sel.tail (Sel.tail (Sel.tail (Sel.tail (Sel.tail (Sel.tail (Sel.tail Sel.head)))))))))))
          | exact Sel.tail (Sel.tail (Sel.tail (Sel.tail (Sel.tail (Sel.tail (Sel.tail (Sel.tail (Sel.tail (Sel.tail (Sel.tail (Sel.tail (Sel.tail Sel.head))))))))))))
          | exact Sel.tail (Sel.tail (Sel.tail (Sel.tail (Sel.tail (Sel.tail (Sel.tail (Sel.tail (Sel.tail (Sel.tail (Sel.tail (Sel.tail (Sel.tail (Sel.tail Sel.head)))))))))))))
          | exact Sel.tail (Sel.tail (Sel.tail (Sel.tail (Sel.tail (Sel.tail (Sel.tail (Sel.tail (Sel.tail (Sel.tail (Sel.tail (Sel.tail (Sel.tail (Sel.tail (Sel.tail Sel.head))))))))))))))
          | exact Sel.tail (Sel.tail (Sel.tail (Sel.tail (Sel.tail (Sel.tail (Sel.tail (Sel.tail (Sel.tail (Sel.tail (Sel.tail (Sel.tail (Sel.tail (Sel.tail (Sel.tail (Sel.tail Sel.head)))))))))))))))
          | exact Sel.tail (Sel.tail (Sel.tail (Sel.tail (Sel.tail (Sel.tail (Sel.tail (Sel.tail (Sel.tail (Sel.tail (Sel.tail (Sel.tail (Sel.tail (Sel.tail (Sel.tail (Sel.tail (Sel.tail Sel.head))))))))))))))))
          | exact Sel.tail (Sel.tail (Sel.tail (Sel.tail (Sel.tail (Sel.tail (Sel.tail (Sel.tail (Sel.tail (Sel.tail (Sel.tail (Sel.tail (Sel.tail (Sel.tail (Sel.tail (Sel.tail (Sel.tail (Sel.tail Sel.head)))))))))))))))))
          | exact Sel.tail (Sel.tail (Sel.tail (Sel.tail (Sel.tail (Sel.tail (Sel.tail (Sel.tail (Sel.tail (Sel.tail (Sel.tail (Sel.tail (Sel.tail (Sel.tail (Sel.tail (Sel.tail (Sel.tail (Sel.tail (Sel.tail Sel.head))))))))))))))))))
          | exact Sel.tail (Sel.tail (Sel.tail (Sel.tail (Sel.tail (Sel.tail (Sel.tail (Sel.tail (Sel.tail (Sel.tail (Sel.tail (Sel.tail (Sel.tail (Sel.tail (Sel.tail (Sel.tail (Sel.tail (Sel.tail (Sel.tail (Sel.tail Sel.head)))))))))))))))))))
          | exact Sel.tail (Sel.tail (Sel.tail (Sel.tail (Sel.tail (Sel.tail (Sel.tail (Sel.tail (Sel.tail (Sel.tail (Sel.tail (Sel.tail (Sel.tail (Sel.tail (Sel.tail (Sel.tail (Sel.tail (Sel.tail (Sel.tail (Sel.tail (Sel.tail Sel.head))))))))))))))))))))
          | exact Sel.tail (Sel.tail (Sel.tail (Sel.tail (Sel.tail (Sel.tail (Sel.tail (Sel.tail (Sel.tail (Sel.tail (Sel.tail (Sel.tail (Sel.tail (Sel.tail (Sel.tail (Sel.tail (Sel.tail (Sel.tail (Sel.tail (Sel.tail (Sel.tail (Sel.tail Sel.head))))))))))))))))))))))
      | apply PP.drop)
    all_goals fail) : PP L M := h
/-- Told from what is told of this world, in another turn. -/
theorem Holds.to {w : World} {L M : List HProp} (H : Holds w L) (h : PP L M := by
    repeat (first
      | exact PP.refl _
      | exact PP.nil
      | (apply PP.cons; first
          | exact Sel.head
          | exact Sel.tail Sel.head
          | exact Sel.tail (Sel.tail Sel.head)
          | exact Sel.tail (Sel.tail (Sel.tail Sel.head))
          | exact Sel.tail (Sel.tail (Sel.tail (Sel.tail Sel.head)))
          | exact Sel.tail (Sel.tail (Sel.tail (Sel.tail (Sel.tail Sel.head))))
          | exact Sel.tail (Sel.tail (Sel.tail (Sel.tail (Sel.tail (Sel.tail Sel.head)))))
          | exact Sel.tail (Sel.tail (Sel.tail (Sel.tail (Sel.tail (Sel.tail (Sel.tail Sel.head))))))
          | exact Sel.tail (Sel.tail (Sel.tail (Sel.tail (Sel.tail (Sel.tail (Sel.tail (Sel.tail Sel.head)))))))
          | exact Sel.tail (Sel.tail (Sel.tail (Sel.tail (Sel.tail (Sel.tail (Sel.tail (Sel.tail (Sel.tail Sel.head))))))))
          | exact Sel.tail (Sel.tail (Sel.tail (Sel.tail (Sel.tail (Sel.tail (Sel.tail (Sel.tail (Sel.tail (Sel.tail Sel.head)))))))))
          | exact Sel.tail (Sel.tail (Sel.tail (Sel.tail (Sel.tail (Sel.tail (Sel.tail (Sel.tail (Sel.tail (Sel.tail (Sel.tail Sel.head))))))))))
          | exact Sel.tail (Sel.tail (Sel.tail (Sel.tail (Sel.tail (Sel.tail (Sel.tail (Sel.tail (Sel.tail (Sel.tail (Sel.tail (Sel.tail Sel.head)))))))))))
          | exact Sel.tail (Sel.tail (Sel.tail (Sel.tail (Sel.tail (Sel.tail (Sel.tail (Sel.tail (Sel.tail (Sel.tail (Sel.tail (Sel.tail (Sel.tail Sel.head))))))))))))
          | exact Sel.tail (Sel.tail (Sel.tail (Sel.tail (Sel.tail (Sel.tail (Sel.tail (Sel.tail (Sel.tail (Sel.tail (Sel.tail (Sel.tail (Sel.tail (Sel.tail Sel.head)))))))))))))
          | exact Sel.tail (Sel.tail (Sel.tail (Sel.tail (Sel.tail (Sel.tail (Sel.tail (Sel.tail (Sel.tail (Sel.tail (Sel.tail (Sel.tail (Sel.tail (Sel.tail (Sel.tail Sel.head))))))))))))))
          | exact Sel.tail (Sel.tail (Sel.tail (Sel.tail (Sel.tail (Sel.tail (Sel.tail (Sel.tail (Sel.tail (Sel.tail (Sel.tail (Sel.tail (Sel.tail (Sel.tail (Sel.tail (Sel.tail Sel.head)))))))))))))))
          | exact Sel.tail (Sel.tail (Sel.tail (Sel.tail (Sel.tail (Sel.tail (Sel.tail (Sel.tail (Sel.tail (Sel.tail (Sel.tail (Sel.tail (Sel.tail (Sel.tail (Sel.tail (Sel.tail (Sel.tail Sel.head))))))))))))))))
          | exact Sel.tail (Sel.tail (Sel.tail (Sel.tail (Sel.tail (Sel.tail (Sel.tail (Sel.tail (Sel.tail (Sel.tail (Sel.tail (Sel.tail (Sel.tail (Sel.tail (Sel.tail (Sel.tail (Sel.tail (Sel.tail Sel.head)))))))))))))))))
          | exact Sel.tail (Sel.tail (Sel.tail (Sel.tail (Sel.tail (Sel.tail (Sel.tail (Sel.tail (Sel.tail (Sel.tail (Sel.tail (Sel.tail (Sel.tail (Sel.tail (Sel.tail (Sel.tail (Sel.tail (Sel.tail (Sel.tail Sel.head))))))))))))))))))
          | exact Sel.tail (Sel.tail (Sel.tail (Sel.tail (Sel.tail (Sel.tail (Sel.tail (Sel.tail (Sel.tail (Sel.tail (Sel.tail (Sel.tail (Sel.tail (Sel.tail (Sel.tail (Sel.tail (Sel.tail (Sel.tail (Sel.tail (Sel.tail Sel.head)))))))))))))))))))
          | exact Sel.tail (Sel.tail (Sel.tail (Sel.tail (Sel.tail (Sel.tail (Sel.tail (Sel.tail (Sel.tail (Sel.tail (Sel.tail (Sel.tail (Sel.tail (Sel.tail (Sel.tail (Sel.tail (Sel.tail (Sel.tail (Sel.tail (Sel.tail (Sel.tail Sel.head))))))))))))))))))))
          | exact Sel.tail (Sel.tail (Sel.tail (Sel.tail (Sel.tail (Sel.tail (Sel.tail (Sel.tail (Sel.tail (Sel.tail (Sel.tail (Sel.tail (Sel.tail (Sel.tail (Sel.tail (Sel.tail (Sel.tail (Sel.tail (Sel.tail (Sel.tail (Sel.tail (Sel.tail Sel.head))))))))))))))))))))))
      | apply PP.drop)
    all_goals fail) : Holds w M := H.pp h
end Go.Rr
