/- What lay in memory ahead of a call and is only read: slices among the arguments. No program in sight. -/
import Derived.Test.YtakmbbgnnbpkoaaRrMore
namespace Go.Rr
set_option linter.unusedVariables false
/-- v is a slice in w of the elements xs, each laid out by enc in sz cells. -/
def SlIn {α : Type} (w : World) (sz : Nat) (enc : α → List Value) (v : Value) (xs : List α) : Prop :=
  ∃ a cap, v = .slice a xs.length cap ∧ ∀ i (h : i < xs.length), ∃ b off, a = some ⟨b, off, none⟩ ∧ (enc xs[i]).length = sz ∧ ∀ j, j < sz → w.cell? ⟨b, off + i * sz + j, none⟩ = (enc xs[i])[j]?
/-- The place of the cell k of a slice. -/
def aIn (v : Value) (k : Nat) : Addr := match v with | .slice (some a) _ _ => ⟨a.block, a.off + k, none⟩ | _ => ⟨0, 0, none⟩
theorem SlIn.cells {α : Type} {w : World} {sz : Nat} {enc : α → List Value} {v : Value} {xs : List α} (h : SlIn w sz enc v xs) : v.cells = #[v] := by
  obtain ⟨a, cap, rfl, _⟩ := h; rfl
theorem SlIn.one {α : Type} {w : World} {sz : Nat} {enc : α → List Value} {v : Value} {xs : List α} (h : SlIn w sz enc v xs) : v.oneCell' = true := by
  obtain ⟨a, cap, rfl, _⟩ := h; rfl
section
variable {P : Program} {ro : Option Nat} {N : Nat} {Q : Q0} {l : Regs} {ds : List Deferred} {w w0 : World} {ops : Array Oper} {os : List Oper}
variable {d : Tmp} {ty : TypeId} {pos : String} {af : Array Edge} {x y : Operand} {t T : TypeId} {α : Type} {enc : α → List Value} {e : α → Value} {v : Value} {xs : List α} {L : List HProp} {sz : Nat} {k : IntKind}
theorem Ex.lenIn {ats : Array TypeId} {E : TypeId} (hu : UndIs P t (.slice E)) (e1 : ev l x = some v) (hs : SlIn w0 sz enc v xs := by assumption) (ht : ats[0]? = some t := by rfl) : Ex P N l (.call ⟨.builtin .len, #[x], ats⟩) ty w (.int .i64 xs.length) w := by
  obtain ⟨a, cap, rfl, _⟩ := hs
  exact Ex.len ht hu e1
theorem Ex.idxIn {E : Nat} {i : Int} (hu : UndIs P t (.slice E)) (hz : SizeIs P E sz) (e1 : ev l x = some v) (e2 : ev l y = some (.int k i)) (hs : SlIn w0 sz enc v xs := by assumption) (h0 : 0 ≤ i := by first | assumption | omega) (h1 : i < xs.length := by first | assumption | omega) :
    Ex P N l (.indexAddr t x y) ty w (.pointer (some (aIn v (i.toNat * sz)))) w := by
  obtain ⟨a, cap, rfl, h⟩ := hs
  obtain ⟨b, off, rfl, _⟩ := h i.toNat (by omega)
  exact Ex.idx hu hz e1 e2 h0 h1
theorem SlIn.cell [Inhabited α] (hs : SlIn w0 sz enc v xs) {i j : Nat} (h : i < xs.length) (hj : j < sz) : w0.cell? ⟨(aIn v (i * sz)).block, (aIn v (i * sz)).off + j, none⟩ = (enc (xs.getD i default))[j]? := by
  obtain ⟨a, cap, rfl, h'⟩ := hs
  obtain ⟨b, off, rfl, h1, h2⟩ := h' i h
  have := h2 j hj
  simp only [aIn]
  rw [this]
  simp [List.getD_eq_getElem?_getD, h]
theorem Ex.loadIn1 [Inhabited α] {i : Nat} (ht : AggIs P t false) (e1 : ev l x = some (.pointer (some (aIn v (i * 1))))) (H : Holds w (base w0 :: L)) (hs : SlIn w0 1 (fun a => [e a]) v xs := by assumption) (h : i < xs.length := by first | assumption | omega) :
    Ex P N l (.load t x) ty w (e (xs.getD i default)) w := by
  have hc := hs.cell h (j := 0) (by omega)
  refine Ex.load ht e1 (H.base_cell ?_)
  obtain ⟨a, cap, rfl, h'⟩ := hs
  obtain ⟨b, off, rfl, _⟩ := h' i h
  exact hc
theorem Ex.loadIn [Inhabited α] {i : Nat} (ht : AggIs P t true) (hz : SizeIs P t sz) (e1 : ev l x = some (.pointer (some (aIn v (i * sz))))) (H : Holds w (base w0 :: L)) (hs : SlIn w0 sz enc v xs := by assumption) (h : i < xs.length := by first | assumption | omega) :
    Ex P N l (.load t x) ty w (.agg (enc (xs.getD i default)).toArray) w := by
  have hl : (enc (xs.getD i default)).length = sz := by
    obtain ⟨a, cap, rfl, h'⟩ := hs
    obtain ⟨b, off, rfl, h1, _⟩ := h' i h
    simpa [List.getD_eq_getElem?_getD, h] using h1
  refine Ex.loadAgg (c := (enc (xs.getD i default)).toArray) ht (by rw [List.size_toArray, hl]; exact hz) e1 fun j hj => ?_
  have hj' : j < sz := by rw [List.size_toArray, hl] at hj; exact hj
  have hc := hs.cell h hj'
  have : (aIn v (i * sz)).add j = ⟨(aIn v (i * sz)).block, (aIn v (i * sz)).off + j, none⟩ := by
    obtain ⟨a, cap, rfl, h'⟩ := hs
    obtain ⟨b, off, rfl, _⟩ := h' i h
    exact add_off _ _ _
  rw [this]
  have hlt : j < (enc (xs.getD i default)).length := by omega
  rw [List.getElem?_eq_getElem hlt] at hc
  rw [H.base_cell hc]
  simp only [List.getElem?_toArray]
  rw [List.getElem?_eq_getElem hlt]
/-- A struct or an array stored where one lies. -/
theorem O.storeAggP {bl off n : Nat} {c vs : Array Value} (hs : SizeIs P t n) (e1 : ev l x = some (.pointer (some ⟨bl, off, none⟩))) (e2 : ev l y = some (.agg vs)) (hn : vs.size = n) (hv : vs.toList.all Value.oneCell' = true)
    (h : ∀ w', Holds w' (pt bl (.cells (putAt c off vs.toList) T (0, 0)) :: L) → O P ro N ops os Q l ds w')
    (H : Holds w (pt bl (.cells c T (0, 0)) :: L) := by first
      | assumption
      | exact Holds.f1 (by assumption)
      | exact Holds.f2 (by assumption)
      | exact Holds.f3 (by assumption)
      | exact Holds.f4 (by assumption)
      | exact Holds.f5 (by assumption)
      | exact Holds.f6 (by assumption)
      | exact Holds.f7 (by assumption)) (ho : Nat.ble (off + n) c.size = true := by rfl) :
    O P ro N ops (⟨none, .store t x y, ty, pos, af, none⟩ :: os) Q l ds w :=
  O.storeAgg hs hn e1 e2 (List.all_eq_true.1 hv) H (by simpa using ho) h
theorem Ex.loadAggP {bl off n : Nat} {c : Array Value} {fr : Nat × Nat} (ht : AggIs P t true) (hz : SizeIs P t n) (e1 : ev l x = some (.pointer (some ⟨bl, off, none⟩)))
    (H : Holds w (pt bl (.cells c T fr) :: L) := by first
      | assumption
      | exact Holds.f1 (by assumption)
      | exact Holds.f2 (by assumption)
      | exact Holds.f3 (by assumption)
      | exact Holds.f4 (by assumption)
      | exact Holds.f5 (by assumption)
      | exact Holds.f6 (by assumption)
      | exact Holds.f7 (by assumption)) (ho : Nat.ble (off + n) c.size = true := by rfl) : Ex P N l (.load t x) ty w (.agg (c.extract off (off + n))) w := by
  have ho' : off + n ≤ c.size := by simpa using ho
  have hsz : (c.extract off (off + n)).size = n := by simp; omega
  refine Ex.loadAgg ht (by rw [hsz]; exact hz) e1 fun i hi => ?_
  rw [hsz] at hi
  rw [add_off, H.cell (v := c[off + i]) (Array.getElem?_eq_getElem (by omega)), Array.getElem?_extract]
  simp [show off + i < c.size from by omega]
  omega
/-! ### Results that lie in memory -/
theorem loadVar_one {p : Addr} {u : Value} (ht : AggIs P t false) (hc : w.cell? p = some u := by first
      | exact Holds.cell (by assumption) rfl
      | exact Holds.cell (Holds.f1 (by assumption)) rfl
      | exact Holds.cell (Holds.f2 (by assumption)) rfl
      | exact Holds.cell (Holds.f3 (by assumption)) rfl
      | exact Holds.cell (Holds.f4 (by assumption)) rfl
      | exact Holds.cell (Holds.f5 (by assumption)) rfl
      | exact Holds.cell (Holds.f6 (by assumption)) rfl
      | exact Holds.cell (Holds.f7 (by assumption)) rfl) : (loadVar t p).run P w = .ok u w := by
  simp [loadVar, ht w, hc]
theorem loadVar_agg {bl off n : Nat} {c : Array Value} {fr : Nat × Nat} (ht : AggIs P t true) (hz : SizeIs P t n)
    (H : Holds w (pt bl (.cells c T fr) :: L) := by first
      | assumption
      | exact Holds.f1 (by assumption)
      | exact Holds.f2 (by assumption)
      | exact Holds.f3 (by assumption)
      | exact Holds.f4 (by assumption)
      | exact Holds.f5 (by assumption)
      | exact Holds.f6 (by assumption)
      | exact Holds.f7 (by assumption)) (ho : Nat.ble (off + n) c.size = true := by rfl) : (loadVar t ⟨bl, off, none⟩).run P w = .ok (.agg (c.extract off (off + n))) w := by
  have ho' : off + n ≤ c.size := by simpa using ho
  simp only [loadVar, Sem.run_bind, ht w, Result.andThen_ok, if_true, hz w, loadCells]
  rw [loadCellsFrom_run (c := c.extract off (off + n)) _ _ _ (fun j _ hj => ?_)]
  · simp only [Result.andThen_ok, Sem.run_pure]
    congr 2
    simp
  · rw [add_off, H.cell (v := c[off + j]) (Array.getElem?_eq_getElem (by omega)), Array.getElem?_extract]
    simp only [Array.size_extract]
    constructor
    · simp [show off + j < c.size from by omega]
      omega
    · omega
end
end Go.Rr
