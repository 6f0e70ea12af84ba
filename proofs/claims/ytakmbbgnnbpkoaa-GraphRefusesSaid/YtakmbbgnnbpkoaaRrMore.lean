/- More rules: append, clear, cut, min and max, what is read of arguments. No program in sight. -/
import Derived.Test.YtakmbbgnnbpkoaaRrAuto
namespace Go.Rr
set_option linter.unusedVariables false
section
variable {P : Program} {ro : Option Nat} {N : Nat} {Q : Q0} {l : Regs} {ds : List Deferred} {w w' : World} {ops : Array Oper} {os : List Oper}
variable {d : Tmp} {ty : TypeId} {pos : String} {af : Array Edge} {x y : Operand} {t T yt : TypeId} {α : Type} {e : α → Value} {v : Value} {xs : List α} {L : List HProp} {m n : Int} {k : IntKind}

theorem Ex.minI {ats : Array TypeId} (e1 : ev l x = some (.int k m)) (e2 : ev l y = some (.int k n)) : Ex P N l (.call ⟨.builtin .min, #[x, y], ats⟩) ty w (.int k (min m n)) w :=
  ⟨nofun, fun _ _ _ r hr => by
    simp [execOp, resolve, invoke, builtin, Builtin.min_, Builtin.min2, hr.eval e1, hr.eval e2]
    rw [Int.min_def]; split <;> split <;> omega⟩
theorem Ex.maxI {ats : Array TypeId} (e1 : ev l x = some (.int k m)) (e2 : ev l y = some (.int k n)) : Ex P N l (.call ⟨.builtin .max, #[x, y], ats⟩) ty w (.int k (max m n)) w :=
  ⟨nofun, fun _ _ _ r hr => by
    simp [execOp, resolve, invoke, builtin, Builtin.max_, Builtin.max2, hr.eval e1, hr.eval e2]
    rw [Int.max_def]; split <;> split <;> omega⟩

/-- A slice that is there, of n elements, from its block's first cell on. -/
def isSl (v : Value) (n : Nat) : Prop := ∃ b cap, v = .slice (some ⟨b, 0, none⟩) n cap
theorem arr_sl (H : Holds w (arr T e v xs :: L)) (h : 0 < xs.length) : isSl v xs.length := by
  obtain ⟨b, cap, rest, h1, _, _⟩ := arr_some H h
  exact ⟨b, cap, h1⟩
theorem Ex.idxS {E j : Nat} {i : Int} {k : IntKind} (hu : UndIs P t (.slice E)) (hs : SizeIs P E 1) (e1 : ev l x = some v) (e2 : ev l y = some (.int k i)) (hv : isSl v j := by assumption) (h0 : 0 ≤ i := by first | assumption | omega) (h1 : i < j := by first | assumption | omega) :
    Ex P N l (.indexAddr t x y) ty w (.pointer (some (aAt v i.toNat))) w := by
  obtain ⟨b, cap, rfl⟩ := hv
  have := Ex.idx (w := w) (ty := ty) (N := N) hu hs e1 e2 h0 h1
  simpa [aAt] using this
theorem Ex.lenL {ats : Array TypeId} {E j : Nat} (hu : UndIs P t (.slice E)) (e1 : ev l x = some v) (ht : ats[0]? = some t := by rfl) (hv : isSl v j := by assumption) : Ex P N l (.call ⟨.builtin .len, #[x], ats⟩) ty w (.int .i64 j) w := by
  obtain ⟨b, cap, rfl⟩ := hv
  exact Ex.len ht hu e1

/-! ### clear -/
theorem putAt_list : ∀ (vs : List Value) (c : List Value) (off : Nat), off + vs.length ≤ c.length → putAt c.toArray off vs = (c.take off ++ vs ++ c.drop (off + vs.length)).toArray
  | [], c, off, h => by simp [putAt]
  | u :: vs, c, off, h => by
    simp only [List.length_cons] at h
    simp only [putAt]
    rw [show (c.toArray.setIfInBounds off u) = (c.set off u).toArray from by apply Array.ext'; simp, putAt_list vs _ _ (by simp; omega)]
    congr 1
    rw [List.take_succ_eq_append_getElem (by simp; omega), List.take_set, List.set_eq_of_length_le (by simp; omega), List.getElem_set_self, List.drop_set_of_lt (by omega)]
    simp [Nat.add_assoc, Nat.add_comm 1]
theorem storeCells_list {b : Nat} {vs : List Value} (c : List Value) (hv : ∀ v ∈ vs, v.oneCell' = true) (H : Holds w (pt b (.cells c.toArray T (0, 0)) :: L)) (off : Nat) (h : off + vs.length ≤ c.length) :
    ∃ w', (storeCells ⟨b, off, none⟩ vs).run P w = .ok () w' ∧ Holds w' (pt b (.cells (c.take off ++ vs ++ c.drop (off + vs.length)).toArray T (0, 0)) :: L) := by
  obtain ⟨w', h1, h2⟩ := storeCells_run (P := P) vs off 0 c.toArray w hv H (by simpa using h)
  refine ⟨w', h1, ?_⟩
  rw [Nat.add_zero, putAt_list vs c off h] at h2
  exact h2
theorem zeroCells_one (z : Value) (n : Nat) (hz : z.oneCell' = true) : (Builtin.zeroCells z.cells n).toList = List.replicate n z := by
  have hc : z.cells = #[z] := by cases z <;> simp_all [Value.cells, Value.oneCell']
  unfold Builtin.zeroCells
  apply List.ext_getElem
  · simp [hc]
  · intro i h1 h2; simp [hc, Nat.mod_one]
theorem Ex.clearA {ats : Array TypeId} {z : α} (ht : ats[0]? = some t) (hu : UndIs P t (.slice T)) (hz : ZeroIs P T (e z)) (hz1 : (e z).oneCell' = true) (he : ∀ x ∈ xs, (e x).oneCell' = true) (e1 : ev l x = some v) (H : Holds w (arr T e v xs :: L)) :
    ∃ w', Ex P N l (.call ⟨.builtin .clear, #[x], ats⟩) ty w (.tuple #[]) w' ∧ Holds w' (arr T e v (List.replicate xs.length z) :: L) := by
  rcases arr_cases H with ⟨rfl, rfl, H'⟩ | ⟨b, cap, rest, rfl, hl, H'⟩
  · exact ⟨w, ⟨nofun, fun _ _ _ r hr => by simp [execOp, resolve, invoke, builtin, Builtin.clear_, hr.eval e1, ht, hu w]⟩, H⟩
  · obtain ⟨w', h1, h2⟩ := storeCells_list (P := P) (vs := List.replicate xs.length (e z)) (xs.map e ++ rest) (by simp; intro _; exact hz1) H' 0 (by simp)
    by_cases hn : xs.length = 0
    · have : xs = [] := List.length_eq_zero_iff.1 hn
      subst this
      exact ⟨w, ⟨nofun, fun _ _ _ r hr => by simp [execOp, resolve, invoke, builtin, Builtin.clear_, hr.eval e1, ht, hu w]⟩, H⟩
    · refine ⟨w', ⟨nofun, fun _ _ _ r hr => ?_⟩, ?_⟩
      · obtain ⟨k, hk⟩ : ∃ k, xs.length = k + 1 := ⟨xs.length - 1, by omega⟩
        rw [hk] at h1 e1
        simp only [execOp, resolve, invoke, builtin, Builtin.clear_, List.map_toArray, List.map_cons, List.map_nil, hr.eval e1, ht, Sem.run_bind, Sem.run_pure, Result.andThen_ok, List.getElem?_toArray, List.getElem?_cons_zero, hu w]
        simp only [hz w, Result.andThen_ok, zeroCells_one _ _ hz1, h1]
      · have := arr_mk (e := e) (T := T) (xs := List.replicate xs.length z) (rest := rest) (cap := cap) (by simpa using hl) (by simpa using h2)
        simpa using this
theorem O.clearR {ats : Array TypeId} (z : α) (hu : UndIs P t (.slice T)) (hz : ZeroIs P T (e z)) (e1 : ev l x = some v) (h : ∀ w', Holds w' (arr T e v (List.replicate xs.length z) :: L) → O P ro N ops os Q l ds w')
    (H : Holds w (arr T e v xs :: L) := by first
      | assumption
      | exact Holds.f1 (by assumption)
      | exact Holds.f2 (by assumption)
      | exact Holds.f3 (by assumption)
      | exact Holds.f4 (by assumption)
      | exact Holds.f5 (by assumption)
      | exact Holds.f6 (by assumption)
      | exact Holds.f7 (by assumption))
    (he : ∀ x ∈ xs, (e x).oneCell' = true := by intros; rfl) (ht : ats[0]? = some t := by rfl) (hz1 : (e z).oneCell' = true := by rfl) :
    O P ro N ops (⟨none, .call ⟨.builtin .clear, #[x], ats⟩, ty, pos, af, none⟩ :: os) Q l ds w := by
  obtain ⟨w', h1, h2⟩ := Ex.clearA (P := P) (N := N) (l := l) (ty := ty) ht hu hz hz1 he e1 H
  exact O.ex0 h1 (h w' h2)
end
end Go.Rr
