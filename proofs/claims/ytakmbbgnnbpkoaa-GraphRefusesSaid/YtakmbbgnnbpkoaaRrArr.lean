/- Slices whose elements take one cell each, owned: their rules. No program in sight. -/
import Derived.Test.YtakmbbgnnbpkoaaRrDraw
namespace Go.Rr
set_option linter.unusedVariables false

/-- v is a slice that owns its row, of elements e x for the x of xs; T: the elements' type. -/
def arr {α : Type} (T : TypeId) (e : α → Value) (v : Value) (xs : List α) : HProp := fun _ f =>
  (v = .slice none 0 0 ∧ xs = []) ∨ ∃ b cap rest, v = .slice (some ⟨b, 0, none⟩) xs.length cap ∧ xs.length + rest.length = cap ∧ f b = some (.cells (xs.map e ++ rest).toArray T (0, 0))
/-- The place of the i-th element. -/
def aAt (v : Value) (i : Nat) : Addr := match v with | .slice (some a) _ _ => ⟨a.block, i, none⟩ | _ => ⟨0, 0, none⟩

section
variable {P : Program} {ro : Option Nat} {N : Nat} {Q : Q0} {l : Regs} {ds : List Deferred} {w w' : World} {ops : Array Oper} {os : List Oper}
variable {d : Tmp} {ty : TypeId} {pos : String} {af : Array Edge} {x y : Operand} {t T : TypeId} {α : Type} {e : α → Value} {v : Value} {xs : List α} {L : List HProp}

theorem arr_cases (H : Holds w (arr T e v xs :: L)) : (v = .slice none 0 0 ∧ xs = [] ∧ Holds w L) ∨ ∃ b cap rest, v = .slice (some ⟨b, 0, none⟩) xs.length cap ∧ xs.length + rest.length = cap ∧ Holds w (pt b (.cells (xs.map e ++ rest).toArray T (0, 0)) :: L) := by
  obtain ⟨g, k, h1, h2, h3, h4, h5⟩ := H
  rcases h4 with ⟨a, b⟩ | ⟨b, cap, rest, h6, h7, h8⟩
  · exact .inl ⟨a, b, sep_le h5 h3⟩
  · exact .inr ⟨b, cap, rest, h6, h7, g, k, h1, h2, h3, h8, h5⟩
theorem arr_mk {b cap : Nat} {rest : List Value} (h : xs.length + rest.length = cap) (H : Holds w (pt b (.cells (xs.map e ++ rest).toArray T (0, 0)) :: L)) : Holds w (arr T e (.slice (some ⟨b, 0, none⟩) xs.length cap) xs :: L) := by
  obtain ⟨g, k, h1, h2, h3, h4, h5⟩ := H
  exact ⟨g, k, h1, h2, h3, .inr ⟨b, cap, rest, rfl, h, h4⟩, h5⟩
theorem arr_nil (H : Holds w L) : Holds w (arr T e (.slice none 0 0) ([] : List α) :: L) :=
  ⟨fun _ => none, fragOf w, fun _ => .inl rfl, (fun _ _ h => by cases h), Frag.le_refl _, .inl ⟨rfl, rfl⟩, H⟩
theorem arr_len (H : Holds w (arr T e v xs :: L)) : ∃ a c, v = .slice a xs.length c := by
  rcases arr_cases H with ⟨rfl, rfl, _⟩ | ⟨b, cap, rest, rfl, _, _⟩
  · exact ⟨_, _, rfl⟩
  · exact ⟨_, _, rfl⟩
theorem arr_some (H : Holds w (arr T e v xs :: L)) (h : 0 < xs.length) : ∃ b cap rest, v = .slice (some ⟨b, 0, none⟩) xs.length cap ∧ xs.length + rest.length = cap ∧ Holds w (pt b (.cells (xs.map e ++ rest).toArray T (0, 0)) :: L) := by
  rcases arr_cases H with ⟨rfl, rfl, _⟩ | h
  · simp at h
  · exact h

theorem Ex.len {ats : Array TypeId} {a : Option Addr} {n c : Nat} {E : TypeId} (ht : ats[0]? = some t) (hu : UndIs P t (.slice E)) (e1 : ev l x = some (.slice a n c)) : Ex P N l (.call ⟨.builtin .len, #[x], ats⟩) ty w (.int .i64 n) w :=
  ⟨nofun, fun _ _ _ r hr => by simp [execOp, resolve, invoke, builtin, Builtin.len_, hr.eval e1, ht, hu w, goInt]⟩
theorem Ex.lenA {ats : Array TypeId} {E : TypeId} (ht : ats[0]? = some t) (hu : UndIs P t (.slice E)) (e1 : ev l x = some v) (H : Holds w (arr T e v xs :: L)) : Ex P N l (.call ⟨.builtin .len, #[x], ats⟩) ty w (.int .i64 xs.length) w := by
  obtain ⟨a, c, rfl⟩ := arr_len H
  exact Ex.len ht hu e1
theorem Ex.lenS {ats : Array TypeId} {s : ByteArray} (ht : ats[0]? = some t) (hu : UndIs P t .string) (e1 : ev l x = some (.string s)) : Ex P N l (.call ⟨.builtin .len, #[x], ats⟩) ty w (.int .i64 s.size) w :=
  ⟨nofun, fun _ _ _ r hr => by simp [execOp, resolve, invoke, builtin, Builtin.len_, hr.eval e1, ht, hu w, goInt]⟩
theorem Ex.idx {E sz b off n c : Nat} {i : Int} {k : IntKind} (hu : UndIs P t (.slice E)) (hs : SizeIs P E sz) (e1 : ev l x = some (.slice (some ⟨b, off, none⟩) n c)) (e2 : ev l y = some (.int k i)) (h0 : 0 ≤ i) (h1 : i < n) :
    Ex P N l (.indexAddr t x y) ty w (.pointer (some ⟨b, off + i.toNat * sz, none⟩)) w :=
  ⟨nofun, fun _ _ _ r hr => by simp [execOp, Instr.indexAt, hr.eval e1, hr.eval e2, asIntOf, hu w, hs w, h0, h1, add_off]⟩
theorem Ex.idxA {E : Nat} {i : Int} {k : IntKind} (hu : UndIs P t (.slice E)) (hs : SizeIs P E 1) (e1 : ev l x = some v) (e2 : ev l y = some (.int k i)) (H : Holds w (arr T e v xs :: L)) (h0 : 0 ≤ i) (h1 : i < xs.length) :
    Ex P N l (.indexAddr t x y) ty w (.pointer (some (aAt v i.toNat))) w := by
  obtain ⟨b, cap, rest, rfl, _, _⟩ := arr_some H (by omega)
  have := Ex.idx (w := w) (ty := ty) (N := N) hu hs e1 e2 h0 h1
  simpa [aAt] using this
theorem arr_cell [Inhabited α] {i : Nat} (H : Holds w (arr T e v xs :: L)) (h : i < xs.length) : w.cell? (aAt v i) = some (e (xs.getD i default)) := by
  obtain ⟨b, cap, rest, rfl, _, H⟩ := arr_some H (by omega)
  refine H.cell ?_
  simp [h, List.getElem?_append_left]
theorem Ex.loadA [Inhabited α] {i : Nat} (ht : AggIs P t false) (e1 : ev l x = some (.pointer (some (aAt v i)))) (H : Holds w (arr T e v xs :: L)) (h : i < xs.length) : Ex P N l (.load t x) ty w (e (xs.getD i default)) w :=
  Ex.load ht e1 (arr_cell H h)
theorem arr_set {i : Nat} (z : α) (h : i < xs.length) (rest : List Value) : ((xs.map e ++ rest).toArray.setIfInBounds i (e z)) = ((xs.set i z).map e ++ rest).toArray := by
  apply Array.ext'
  simp [h, List.map_set]
theorem O.storeA {i : Nat} {u : Value} {z : α} (hs : SizeIs P t 1) (e1 : ev l x = some (.pointer (some (aAt v i)))) (e2 : ev l y = some u) (hv : u = e z) (hv1 : u.oneCell' = true) (H : Holds w (arr T e v xs :: L)) (hi : i < xs.length)
    (h : ∀ w', Holds w' (arr T e v (xs.set i z) :: L) → O P ro N ops os Q l ds w') : O P ro N ops (⟨none, .store t x y, ty, pos, af, none⟩ :: os) Q l ds w := by
  subst hv
  obtain ⟨b, cap, rest, rfl, hl, H⟩ := arr_some H (by omega)
  refine O.store hs (show ev l x = some (.pointer (some ⟨b, i, none⟩)) from e1) e2 hv1 H (by simp; omega) fun w' H' => h w' ?_
  rw [arr_set z hi] at H'
  have := arr_mk (xs := xs.set i z) (cap := cap) (by simpa using hl) H'
  simpa using this
theorem zeros_one (z : Value) (n : Nat) (hz : z.oneCell' = true) : ((Array.range n).map fun x => z.cells[x % z.cells.size]!) = (List.replicate n z).toArray := by
  have hc : z.cells = #[z] := by cases z <;> simp_all [Value.cells, Value.oneCell']
  apply Array.ext
  · simp
  · intro i h1 h2
    simp [hc, Nat.mod_one]
theorem O.makeA {E : TypeId} {n : Int} {z : α} {info : TypeInfo} (hu : UndIs P t (.slice E)) (hs : SizeIs P E 1) (hz : ZeroIs P E (e z)) (hz1 : (e z).oneCell' = true) (hI : InfoIs P E info) (e1 : ev l x = some (.int .i64 n)) (e2 : ev l y = some (.int .i64 n))
    (h0 : 0 ≤ n) (hb : info.bytes * n ≤ 140737488355328) (hn : n ≤ 9223372036854775807) (hd : Nat.blt d N = true) (H : Holds w L)
    (h : ∀ v w', Holds w' (arr E e v (List.replicate n.toNat z) :: L) → O P ro N ops os Q ((d, v) :: l) ds w') : O P ro N ops (⟨some d, .makeSlice t x y, ty, pos, af, none⟩ :: os) Q l ds w := by
  have hw : IntKind.i64.wrap n = n := IntWalk.i64_in n ⟨by omega, hn⟩
  refine O.val (w' := { w with heap := w.heap.push (.cells (List.replicate n.toNat (e z)).toArray E) }) (v := .slice (some ⟨w.heap.size, 0, none⟩) n.toNat n.toNat) nofun (by simpa using hd) (fun a ha => ?_) (h _ _ ?_)
  · have hnl : ¬ ((2 : Int) ^ 48 < info.bytes * n) := by have : (2:Int)^48 = 281474976710656 := by decide
                                                         omega
    simp only [execOp, ha.eval e1, ha.eval e2, Instr.makeSlice, asInt, asIntOf, Sem.run_bind, hu w, hI w, Result.andThen_ok, Sem.run_pure, hw]
    rw [if_neg (by simp; omega)]
    simp only [Sem.run_bind, Result.andThen_ok, run_askRoom, hs w, Nat.mul_one, newRow]
    by_cases h0 : n.toNat = 0
    · simp [h0, show Array.range 0 = #[] from by simp]
    · simp [hz w, zeros_one _ _ hz1]; intro h1; exact absurd (by omega) h0
  · have := arr_mk (e := e) (xs := List.replicate n.toNat z) (rest := []) (cap := n.toNat) (by simp) (by
      have := H.alloc (.cells (List.replicate n.toNat (e z)).toArray E)
      simpa using this)
    simpa using this
end
end Go.Rr
