/- Slices whose elements take several cells each, owned: their rules. No program in sight. -/
import Derived.Test.YtakmbbgnnbpkoaaRrIn
namespace Go.Rr
set_option linter.unusedVariables false
section lists
variable {α : Type} {e : α → List Value} {sz : Nat}
theorem flat_len (he : ∀ x, (e x).length = sz) : ∀ (xs : List α), (xs.flatMap e).length = xs.length * sz
  | [] => by simp
  | x :: xs => by simp [flat_len he xs, he, Nat.add_mul, Nat.add_comm]
theorem flat_get (he : ∀ x, (e x).length = sz) : ∀ (xs : List α) (i j : Nat) (h : i < xs.length), j < sz → (xs.flatMap e)[i * sz + j]? = (e xs[i])[j]?
  | x :: xs, 0, j, h, hj => by simp [List.flatMap_cons, List.getElem?_append_left (show j < (e x).length by rw [he]; exact hj)]
  | x :: xs, i + 1, j, h, hj => by
    rw [List.flatMap_cons, List.getElem?_append_right (by rw [he, Nat.add_mul]; omega), he, show (i + 1) * sz + j - sz = i * sz + j from by rw [Nat.add_mul]; omega, flat_get he xs i j (by simpa using h) hj]
    rfl
theorem flat_take (he : ∀ x, (e x).length = sz) : ∀ (xs : List α) (i : Nat), (xs.flatMap e).take (i * sz) = (xs.take i).flatMap e
  | [], i => by simp
  | x :: xs, 0 => by simp
  | x :: xs, i + 1 => by
    rw [List.flatMap_cons, List.take_succ_cons, List.flatMap_cons, List.take_append, List.take_of_length_le (by rw [he, Nat.add_mul]; omega), he, show (i + 1) * sz - sz = i * sz from by rw [Nat.add_mul]; omega, flat_take he xs i]
theorem flat_drop (he : ∀ x, (e x).length = sz) : ∀ (xs : List α) (i : Nat), (xs.flatMap e).drop (i * sz) = (xs.drop i).flatMap e
  | [], i => by simp
  | x :: xs, 0 => by simp
  | x :: xs, i + 1 => by
    rw [List.flatMap_cons, List.drop_succ_cons, List.drop_append, he, List.drop_eq_nil_of_le (by rw [he, Nat.add_mul]; omega), show (i + 1) * sz - sz = i * sz from by rw [Nat.add_mul]; omega, flat_drop he xs i]
    simp
theorem flat_set (he : ∀ x, (e x).length = sz) (xs : List α) (i : Nat) (h : i < xs.length) (z : α) (rest : List Value) :
    ((xs.flatMap e ++ rest).take (i * sz) ++ e z ++ (xs.flatMap e ++ rest).drop (i * sz + (e z).length)) = (xs.set i z).flatMap e ++ rest := by
  have h1 : i * sz + sz ≤ (xs.flatMap e).length := by
    rw [flat_len he, ← Nat.succ_mul]; exact Nat.mul_le_mul_right _ h
  rw [he, List.take_append_of_le_length (by omega), List.drop_append_of_le_length h1, flat_take he, ← Nat.succ_mul, flat_drop he, List.set_eq_take_append_cons_drop]
  rw [if_pos h]
  simp [List.append_assoc]
end lists

/-- v is a slice that owns its row, of elements of sz cells each. -/
def arrN {α : Type} (T : TypeId) (sz : Nat) (e : α → List Value) (v : Value) (xs : List α) : HProp := fun _ f =>
  (v = .slice none 0 0 ∧ xs = []) ∨ ∃ b cap rest, v = .slice (some ⟨b, 0, none⟩) xs.length cap ∧ xs.length * sz + rest.length = cap * sz ∧ xs.length ≤ cap ∧ f b = some (.cells (xs.flatMap e ++ rest).toArray T (0, 0))
section
variable {P : Program} {ro : Option Nat} {N : Nat} {Q : Q0} {l : Regs} {ds : List Deferred} {w w' : World} {ops : Array Oper} {os : List Oper}
variable {d : Tmp} {ty : TypeId} {pos : String} {af : Array Edge} {x y : Operand} {t T : TypeId} {α : Type} {sz : Nat} {e : α → List Value} {v : Value} {xs : List α} {L : List HProp} {k : IntKind}
theorem arrN_cases (H : Holds w (arrN T sz e v xs :: L)) : (v = .slice none 0 0 ∧ xs = [] ∧ Holds w L) ∨ ∃ b cap rest, v = .slice (some ⟨b, 0, none⟩) xs.length cap ∧ xs.length * sz + rest.length = cap * sz ∧ xs.length ≤ cap ∧ Holds w (pt b (.cells (xs.flatMap e ++ rest).toArray T (0, 0)) :: L) := by
  obtain ⟨g, k, h1, h2, h3, h4, h5⟩ := H
  rcases h4 with ⟨a, b⟩ | ⟨b, cap, rest, h6, h7, h9, h8⟩
  · exact .inl ⟨a, b, sep_le h5 h3⟩
  · exact .inr ⟨b, cap, rest, h6, h7, h9, g, k, h1, h2, h3, h8, h5⟩
theorem arrN_mk {b cap : Nat} {rest : List Value} (h : xs.length * sz + rest.length = cap * sz) (hc : xs.length ≤ cap) (H : Holds w (pt b (.cells (xs.flatMap e ++ rest).toArray T (0, 0)) :: L)) : Holds w (arrN T sz e (.slice (some ⟨b, 0, none⟩) xs.length cap) xs :: L) := by
  obtain ⟨g, k, h1, h2, h3, h4, h5⟩ := H
  exact ⟨g, k, h1, h2, h3, .inr ⟨b, cap, rest, rfl, h, hc, h4⟩, h5⟩
theorem arrN_nil (H : Holds w L) : Holds w (arrN T sz e (.slice none 0 0) ([] : List α) :: L) :=
  ⟨fun _ => none, fragOf w, fun _ => .inl rfl, (fun _ _ h => by cases h), Frag.le_refl _, .inl ⟨rfl, rfl⟩, H⟩
theorem arrN_some (H : Holds w (arrN T sz e v xs :: L)) (h : 0 < xs.length) : ∃ b cap rest, v = .slice (some ⟨b, 0, none⟩) xs.length cap ∧ xs.length * sz + rest.length = cap * sz ∧ xs.length ≤ cap ∧ Holds w (pt b (.cells (xs.flatMap e ++ rest).toArray T (0, 0)) :: L) := by
  rcases arrN_cases H with ⟨rfl, rfl, _⟩ | h
  · simp at h
  · exact h
theorem arrN_sl (H : Holds w (arrN T sz e v xs :: L)) (h : 0 < xs.length) : isSl v xs.length := by
  obtain ⟨b, cap, rest, h1, _, _, _⟩ := arrN_some H h
  exact ⟨b, cap, h1⟩
theorem arrN_one (H : Holds w (arrN T sz e v xs :: L)) : v.oneCell' = true := by
  rcases arrN_cases H with ⟨rfl, _, _⟩ | ⟨b, cap, rest, rfl, _⟩ <;> rfl
theorem arr_one {e : α → Value} (H : Holds w (arr T e v xs :: L)) : v.oneCell' = true := by
  rcases arr_cases H with ⟨rfl, _, _⟩ | ⟨b, cap, rest, rfl, _⟩ <;> rfl
theorem Ex.lenN {ats : Array TypeId} {E : TypeId} (hu : UndIs P t (.slice E)) (e1 : ev l x = some v) (ht : ats[0]? = some t := by rfl)
    (H : Holds w (arrN T sz e v xs :: L) := by exact Holds.to (by assumption)) : Ex P N l (.call ⟨.builtin .len, #[x], ats⟩) ty w (.int .i64 xs.length) w := by
  rcases arrN_cases H with ⟨rfl, rfl, _⟩ | ⟨b, cap, rest, rfl, _, _⟩
  · exact Ex.len ht hu e1
  · exact Ex.len ht hu e1
/-- The place of an element's first cell. -/
theorem Ex.idxSN {E j : Nat} {i : Int} (hu : UndIs P t (.slice E)) (hs : SizeIs P E sz) (e1 : ev l x = some v) (e2 : ev l y = some (.int k i)) (hv : isSl v j := by assumption) (h0 : 0 ≤ i := by first | assumption | omega) (h1 : i < j := by first | assumption | omega) :
    Ex P N l (.indexAddr t x y) ty w (.pointer (some (aAt v (i.toNat * sz)))) w := by
  obtain ⟨b, cap, rfl⟩ := hv
  have := Ex.idx (w := w) (ty := ty) (N := N) hu hs e1 e2 h0 h1
  simpa [aAt] using this
theorem Ex.idxN {E : Nat} {i : Int} (hu : UndIs P t (.slice E)) (hs : SizeIs P E sz) (e1 : ev l x = some v) (e2 : ev l y = some (.int k i))
    (H : Holds w (arrN T sz e v xs :: L) := by exact Holds.to (by assumption)) (h0 : 0 ≤ i := by first | assumption | omega) (h1 : i < xs.length := by first | assumption | omega) :
    Ex P N l (.indexAddr t x y) ty w (.pointer (some (aAt v (i.toNat * sz)))) w := Ex.idxSN hu hs e1 e2 (arrN_sl H (by omega)) h0 h1
/-- A field of a struct that lies in a slice. -/
theorem Ex.fieldS {s f n i j : Nat} (hf : FieldIs P s f n) (e1 : ev l x = some (.pointer (some (aAt v i)))) (hv : isSl v j := by assumption) : Ex P N l (.fieldAddr s x f) ty w (.pointer (some (aAt v (i + n)))) w := by
  obtain ⟨b, cap, rfl⟩ := hv
  exact Ex.field hf e1
theorem arrN_cell [Inhabited α] {i j : Nat} {u : Value} (he : ∀ x, (e x).length = sz) (H : Holds w (arrN T sz e v xs :: L)) (h : i < xs.length) (hu : (e (xs.getD i default))[j]? = some u) : w.cell? (aAt v (i * sz + j)) = some u := by
  obtain ⟨b, cap, rest, rfl, _, _, H⟩ := arrN_some H (by omega)
  have hj : j < sz := by rw [← he (xs.getD i default)]; exact (List.getElem?_eq_some_iff.1 hu).1
  refine H.cell ?_
  rw [List.getElem?_toArray, List.getElem?_append_left, flat_get he xs i j h hj]
  · simpa [List.getD_eq_getElem?_getD, h] using hu
  · rw [flat_len he]
    have := Nat.mul_le_mul_right sz h
    rw [Nat.succ_mul] at this
    omega
theorem Ex.loadN [Inhabited α] {i j : Nat} {u : Value} (ht : AggIs P t false) (e1 : ev l x = some (.pointer (some (aAt v (i * sz + j)))))
    (H : Holds w (arrN T sz e v xs :: L) := by exact Holds.to (by assumption)) (he : ∀ x, (e x).length = sz := by intro _; rfl) (h : i < xs.length := by first | assumption | omega) (hu : (e (xs.getD i default))[j]? = some u := by rfl) : Ex P N l (.load t x) ty w u w :=
  Ex.load ht e1 (arrN_cell he H h hu)
theorem Ex.loadN0 [Inhabited α] {i : Nat} {u : Value} (ht : AggIs P t false) (e1 : ev l x = some (.pointer (some (aAt v (i * sz)))))
    (H : Holds w (arrN T sz e v xs :: L) := by exact Holds.to (by assumption)) (he : ∀ x, (e x).length = sz := by intro _; rfl) (h : i < xs.length := by first | assumption | omega) (hu : (e (xs.getD i default))[0]? = some u := by rfl) : Ex P N l (.load t x) ty w u w :=
  Ex.load ht e1 (arrN_cell (j := 0) he H h hu)
theorem Ex.loadAggN [Inhabited α] {i : Nat} (ht : AggIs P t true) (hs : SizeIs P t sz) (e1 : ev l x = some (.pointer (some (aAt v (i * sz)))))
    (H : Holds w (arrN T sz e v xs :: L) := by exact Holds.to (by assumption)) (he : ∀ x, (e x).length = sz := by intro _; rfl) (h : i < xs.length := by first | assumption | omega) : Ex P N l (.load t x) ty w (.agg (e (xs.getD i default)).toArray) w := by
  refine Ex.loadAgg (c := (e (xs.getD i default)).toArray) ht (by rw [List.size_toArray, he]; exact hs) e1 fun j hj => ?_
  rw [List.size_toArray, he] at hj
  have hc := arrN_cell (j := j) (u := (e (xs.getD i default))[j]'(by rw [he]; exact hj)) he H h (List.getElem?_eq_getElem _)
  obtain ⟨b, cap, rest, rfl, _, _, _⟩ := arrN_some H (by omega)
  show w.cell? ((Addr.mk b (i * sz) none).add j) = _
  rw [add_off, List.getElem?_toArray, List.getElem?_eq_getElem (by rw [he]; exact hj)]
  exact hc
theorem O.storeAggN {i : Nat} {vs : Array Value} {z : α} (hs : SizeIs P t sz) (e1 : ev l x = some (.pointer (some (aAt v (i * sz))))) (e2 : ev l y = some (.agg vs)) (hz : vs.toList = e z)
    (h : ∀ w', Holds w' (arrN T sz e v (xs.set i z) :: L) → O P ro N ops os Q l ds w') (hv : vs.toList.all Value.oneCell' = true)
    (H : Holds w (arrN T sz e v xs :: L) := by exact Holds.to (by assumption)) (he : ∀ x, (e x).length = sz := by intro _; rfl) (hi : i < xs.length := by first | assumption | omega) :
    O P ro N ops (⟨none, .store t x y, ty, pos, af, none⟩ :: os) Q l ds w := by
  obtain ⟨b, cap, rest, rfl, hl, hc, H⟩ := arrN_some H (by omega)
  have hn : vs.size = sz := by rw [← he z, ← hz, Array.length_toList]
  have hle : i * sz + sz ≤ xs.length * sz := by rw [← Nat.succ_mul]; exact Nat.mul_le_mul_right _ hi
  refine O.storeAgg hs hn e1 e2 (List.all_eq_true.1 hv) H (by rw [List.size_toArray, List.length_append, flat_len he]; show i * sz + sz ≤ _; omega) fun w' H' => h w' ?_
  rw [putAt_list _ _ _ (by rw [List.length_append, flat_len he, hz, he]; show i * sz + sz ≤ _; omega), hz] at H'
  have := flat_set he xs i hi z rest
  rw [this] at H'
  have := arrN_mk (xs := xs.set i z) (cap := cap) (by simpa using hl) (by simpa using hc) H'
  simpa using this
theorem flat_replicate (he : ∀ x, (e x).length = sz) (hz : 0 < sz) (z : α) (n : Nat) (c : Array Value) (hc : c.toList = e z) : ((Array.range (n * sz)).map fun x => c[x % c.size]!) = ((List.replicate n z).flatMap e).toArray := by
  have hcs : c.size = sz := by rw [← he z, ← hc, Array.length_toList]
  apply Array.ext'
  apply List.ext_getElem?
  intro i
  simp only [Array.toList_map, Array.toList_range, List.getElem?_map]
  rcases Nat.lt_or_ge i (n * sz) with h | h
  · have hd := Nat.div_add_mod i sz
    have hm := Nat.mod_lt i hz
    have hq : i / sz < n := Nat.div_lt_of_lt_mul (by rw [Nat.mul_comm]; exact h)
    have h2 := flat_get he (List.replicate n z) (i / sz) (i % sz) (by simpa using hq) hm
    rw [Nat.mul_comm, hd] at h2
    rw [h2]
    simp only [List.getElem_replicate, List.getElem?_range h, Option.map_some]
    rw [← hc, hcs]
    simp [show i % sz < c.size from by omega]
  · rw [List.getElem?_eq_none (by simpa using h), List.getElem?_eq_none (by rw [flat_len he]; simpa using h)]
    rfl
theorem O.makeN {E : TypeId} {n : Int} (z : α) {zv : Value} {info : TypeInfo} {bt : Nat} (hu : UndIs P t (.slice E)) (hs : SizeIs P E sz) (hz : ZeroIs P E zv) (hI : InfoIs P E info) (hbt : info.bytes = bt) (e1 : ev l x = some (.int .i64 n)) (e2 : ev l y = some (.int .i64 n))
    (hzv : zv.cells.toList = e z) (hsz : 0 < sz)
    (h : ∀ v w', v.oneCell' = true → Holds w' (arrN E sz e v (List.replicate n.toNat z) :: L) → O P ro N ops os Q ((d, v) :: l) ds w')
    (H : Holds w L := by assumption) (h0 : 0 ≤ n := by omega) (hb : bt * n ≤ 140737488355328 := by omega) (hn : n ≤ 9223372036854775807 := by omega)
    (he : ∀ x, (e x).length = sz := by intro _; rfl) (hd : Nat.blt d N = true := by rfl) : O P ro N ops (⟨some d, .makeSlice t x y, ty, pos, af, none⟩ :: os) Q l ds w := by
  subst hbt
  have hw : IntKind.i64.wrap n = n := IntWalk.i64_in n ⟨by omega, hn⟩
  refine O.val (w' := { w with heap := w.heap.push (.cells ((List.replicate n.toNat z).flatMap e).toArray E) }) (v := .slice (some ⟨w.heap.size, 0, none⟩) n.toNat n.toNat) nofun (by simpa using hd) (fun a ha => ?_) (h _ _ rfl ?_)
  · have hnl : ¬ ((2 : Int) ^ 48 < info.bytes * n) := by have : (2:Int)^48 = 281474976710656 := by decide
                                                         omega
    simp only [execOp, ha.eval e1, ha.eval e2, Instr.makeSlice, asInt, asIntOf, Sem.run_bind, hu w, hI w, Result.andThen_ok, Sem.run_pure, hw]
    rw [if_neg (by simp; omega)]
    simp only [Sem.run_bind, Result.andThen_ok, run_askRoom, hs w, newRow]
    by_cases h0 : n.toNat * sz = 0
    · have h1 : n.toNat = 0 := by
        rcases Nat.eq_zero_or_pos n.toNat with h | h
        · exact h
        · have := Nat.mul_pos h hsz; omega
      simp [h1, show Array.range 0 = #[] from by simp]
    · simp only [if_neg h0, Sem.run_bind, hz w, Result.andThen_ok, Sem.run_pure, run_newObj, flat_replicate he hsz z n.toNat zv.cells hzv]
  · have := arrN_mk (T := E) (sz := sz) (e := e) (xs := List.replicate n.toNat z) (rest := []) (cap := n.toNat) (by simp) (by simp) (by
      have := H.alloc (.cells ((List.replicate n.toNat z).flatMap e).toArray E)
      simpa using this)
    simpa using this
end
end Go.Rr
