/- Cuts of owned slices. No program in sight. -/
import Derived.Test.YtakmbbgnnbpkoaaRrAppend
namespace Go.Rr
set_option linter.unusedVariables false
/-- x[lo:], x[:hi] of a slice that lies from its block's first cell on. -/
def cutV (v : Value) (lo : Nat) (sz : Nat) : Value := match v with
  | .slice a n cap => .slice (if cap = lo then a else a.map (·.add (lo * sz))) (n - lo) (cap - lo)
  | _ => v
def hiV (v : Value) (hi : Nat) : Value := match v with
  | .slice a n cap => .slice a hi cap
  | _ => v
section
variable {P : Program} {ro : Option Nat} {N : Nat} {Q : Q0} {l : Regs} {ds : List Deferred} {w w' : World} {ops : Array Oper} {os : List Oper}
variable {d : Tmp} {ty : TypeId} {pos : String} {af : Array Edge} {x y z : Operand} {t T : TypeId} {α : Type} {L : List HProp} {info : TypeInfo} {zv : Value} {sz : Nat} {k : IntKind} {v u : Value}
theorem Ex.sliceLoN {n cap : Nat} {a : Option Addr} {i : Int} (hu : UndIs P t (.slice T)) (hs : SizeIs P T sz) (e1 : ev l x = some (.slice a n cap)) (e2 : ev l y = some (.int k i)) (h0 : 0 ≤ i) (h1 : i ≤ n) :
    Ex P N l (.slice t x (some y) none none) ty w (cutV (.slice a n cap) i.toNat sz) w :=
  ⟨nofun, fun _ _ _ r hr => by
    simp [execOp, Instr.sliceAt, Instr.slice, Instr.sliceBounds, Instr.sliceBound, hr.eval e1, hr.eval e2, asIntOf, hu w, hs w, h0, h1, cutV]⟩
theorem Ex.sliceHiN {n cap : Nat} {a : Option Addr} {i : Int} (hu : UndIs P t (.slice T)) (hs : SizeIs P T sz) (e1 : ev l x = some (.slice a n cap)) (e2 : ev l y = some (.int k i)) (h0 : 0 ≤ i) (h1 : i ≤ cap) :
    Ex P N l (.slice t x none (some y) none) ty w (hiV (.slice a n cap) i.toNat) w :=
  ⟨nofun, fun _ _ _ r hr => by
    simp [execOp, Instr.sliceAt, Instr.slice, Instr.sliceBounds, Instr.sliceBound, hr.eval e1, hr.eval e2, asIntOf, hu w, hs w, h0, h1, hiV]
    cases a <;> simp [Addr.add]⟩
theorem arr_cap {e : α → Value} {xs : List α} (H : Holds w (arr T e v xs :: L)) : ∃ a cap, v = .slice a xs.length cap ∧ xs.length ≤ cap := by
  rcases arr_cases H with ⟨rfl, rfl, _⟩ | ⟨b, cap, rest, rfl, h, _⟩
  · exact ⟨_, _, rfl, Nat.le_refl _⟩
  · exact ⟨_, _, rfl, by omega⟩
theorem Ex.sliceLo {e : α → Value} {xs : List α} {i : Int} (hu : UndIs P t (.slice T)) (hs : SizeIs P T 1) (e1 : ev l x = some v) (e2 : ev l y = some (.int k i))
    (H : Holds w (arr T e v xs :: L) := by exact Holds.to (by assumption)) (h0 : 0 ≤ i := by first | assumption | omega) (h1 : i ≤ xs.length := by first | assumption | omega) :
    Ex P N l (.slice t x (some y) none none) ty w (cutV v i.toNat 1) w := by
  obtain ⟨a, cap, rfl, h⟩ := arr_cap H
  exact Ex.sliceLoN hu hs e1 e2 h0 h1
theorem Ex.sliceHi {e : α → Value} {xs : List α} {i : Int} (hu : UndIs P t (.slice T)) (hs : SizeIs P T 1) (e1 : ev l x = some v) (e2 : ev l y = some (.int k i))
    (H : Holds w (arr T e v xs :: L) := by exact Holds.to (by assumption)) (h0 : 0 ≤ i := by first | assumption | omega) (h1 : i ≤ xs.length := by first | assumption | omega) :
    Ex P N l (.slice t x none (some y) none) ty w (hiV v i.toNat) w := by
  obtain ⟨a, cap, rfl, h⟩ := arr_cap H
  exact Ex.sliceHiN hu hs e1 e2 h0 (by omega)
theorem hiV_one {n cap : Nat} {a : Option Addr} {i : Nat} : (hiV (.slice a n cap) i).oneCell' = true := rfl
theorem arr_hi_one {e : α → Value} {xs : List α} (H : Holds w (arr T e v xs :: L)) (hi : Nat) : (hiV v hi).oneCell' = true := by
  obtain ⟨a, cap, rfl, h⟩ := arr_cap H; rfl
theorem arr_take {e : α → Value} {xs : List α} {hi : Nat} (H : Holds w (arr T e v xs :: L)) (h : hi ≤ xs.length) : Holds w (arr T e (hiV v hi) (xs.take hi) :: L) := by
  rcases arr_cases H with ⟨rfl, rfl, H'⟩ | ⟨b, cap, rest, rfl, hc, H'⟩
  · obtain rfl : hi = 0 := by simpa using h
    exact H
  · have := arr_mk (e := e) (xs := xs.take hi) (rest := (xs.drop hi).map e ++ rest) (cap := cap) (by simp; omega) (by
      rw [← List.append_assoc, ← List.map_append, List.take_append_drop]; exact H')
    simpa [hiV, Nat.min_eq_left h] using this
/-- append(v, u[lo:]...) -/
theorem append_cut {e : α → Value} {xs ys : List α} {lo : Nat} (hu : UndIs P t (.slice T)) (hI : InfoIs P T info) (hs : SizeIs P T 1) (hz : ZeroIs P T zv) (hzc : zv.oneCell' = true) (he : ∀ x, (e x).oneCell' = true)
    (H : Holds w (arr T e v xs :: arr T e u ys :: L)) (hlo : lo ≤ ys.length) (h63 : xs.length + ys.length ≤ 9223372036854775807) (hb : (xs.length + ys.length) * info.bytes ≤ 140737488355328) :
    ∃ v' w', (Builtin.append_ #[t, t] ty #[v, cutV u lo 1]).run P w = .ok v' w' ∧ Holds w' (arr T e v' (xs ++ ys.drop lo) :: arr T e u ys :: L) := by
  have hzs : zv.cells.size = 1 := by rw [cells_one hzc]; rfl
  have hlen : (ys.drop lo).length = ys.length - lo := by simp
  have hm : (xs.length + (ys.length - lo)) * info.bytes ≤ 140737488355328 := Nat.le_trans (Nat.mul_le_mul_right _ (by omega)) hb
  have hm2 : (ys.length - lo) * info.bytes ≤ 140737488355328 := Nat.le_trans (Nat.mul_le_mul_right _ (by omega)) hb
  -- nothing is added
  rcases Nat.eq_zero_or_pos (ys.length - lo) with h0 | h0
  · have hd : ys.drop lo = [] := List.length_eq_zero_iff.1 (by omega)
    rw [hd, List.append_nil]
    obtain ⟨a, c, rfl, hc⟩ := arr_cap H
    obtain ⟨a', c', rfl, hc'⟩ := arr_cap H.swap
    exact ⟨_, _, append_zero (v := .slice none 0 0) (n := xs.length) (cap := c) (g := a) hu hs h0 hc, H⟩
  · obtain ⟨b, c, rest2, rfl, hc, H1⟩ := arr_some H.swap (by omega)
    have hcut : cutV (.slice (some ⟨b, 0, none⟩) ys.length c) lo 1 = .slice (some ⟨b, lo, none⟩) (ys.length - lo) (c - lo) := by
      simp only [cutV]
      rw [if_neg (by omega)]
      simp [add_off]
    have hnews := pt_cells H1 lo
    rw [← List.map_drop] at hnews
    rw [hcut]
    rcases arr_cases H1.swap with ⟨rfl, rfl, H2⟩ | ⟨g, cap, rest, rfl, hcap, H2⟩
    · obtain ⟨g', cap', rest', w', hrun, hl, hcl, H3⟩ := append_none (ty := ty) hu hI hs hz hzs (news := (ys.drop lo).map e) (m := ys.length - lo) (c := c - lo) (by simp) hnews h0 H2 (by omega) hm2
      refine ⟨_, _, hrun, ?_⟩
      have H4 := arr_mk (cap := cap') (xs := ys.drop lo) (by simpa using hl) H3
      rw [hlen] at H4
      exact Holds.cons (fun f h => h) (Holds.swap (arr_mk (xs := ys) hc H4.swap))
    · obtain ⟨g', cap', rest', w', hrun, hl, hcl, H3⟩ := append_some (ty := ty) hu hI hs hz hzs (olds := xs.map e) (n := xs.length) (cap := cap) (m := ys.length - lo) (c := c - lo) (news := (ys.drop lo).map e) (by simp) (by simpa using hcap) (by omega) (by simp) hnews (by intro u hu; obtain ⟨a, _, rfl⟩ := List.mem_map.1 hu; exact he a) H2 (by omega) hm
      have H4 : Holds w' (pt g' (.cells ((xs ++ ys.drop lo).map e ++ rest').toArray T (0, 0)) :: pt b (.cells (ys.map e ++ rest2).toArray T (0, 0)) :: L) := by
        rw [List.map_append]; exact H3
      have H5 := arr_mk (cap := cap') (xs := xs ++ ys.drop lo) (by simpa using hl) H4
      rw [List.length_append, hlen] at H5
      exact ⟨_, _, hrun, Holds.swap (arr_mk (xs := ys) hc H5.swap)⟩
theorem O.appendCut {e : α → Value} {xs ys : List α} {lo : Nat} {ats : Array TypeId} {bt : Nat} (hu : UndIs P t (.slice T)) (hI : InfoIs P T info) (hbt : info.bytes = bt) (hs : SizeIs P T 1) (hz : ZeroIs P T zv)
    (e1 : ev l x = some v) (e2 : ev l y = some (cutV u lo 1))
    (h : ∀ v' w', v'.oneCell' = true → Holds w' (arr T e v' (xs ++ ys.drop lo) :: arr T e u ys :: L) → O P ro N ops os Q ((d, v') :: l) ds w')
    (H : Holds w (arr T e v xs :: arr T e u ys :: L) := by exact Holds.to (by assumption)) (hlo : lo ≤ ys.length := by first | assumption | omega)
    (h63 : xs.length + ys.length ≤ 9223372036854775807 := by first | omega | (simp only [List.length_cons, List.length_nil]; omega)) (hb : (xs.length + ys.length) * bt ≤ 140737488355328 := by first | omega | (simp only [List.length_cons, List.length_nil]; omega))
    (ht : ats = #[t, t] := by rfl) (hzc : zv.oneCell' = true := by rfl) (he : ∀ x, (e x).oneCell' = true := by intros; rfl) (hd : Nat.blt d N = true := by rfl) :
    O P ro N ops (⟨some d, .call ⟨.builtin .append, #[x, y], ats⟩, ty, pos, af, none⟩ :: os) Q l ds w := by
  subst ht hbt
  obtain ⟨v', w', h1, h2⟩ := append_cut (P := P) (ty := ty) hu hI hs hz hzc he H hlo h63 hb
  refine O.val nofun (by simpa using hd) (fun a ha => ?_) (h _ _ (arr_one h2) h2)
  simp only [execOp, resolve, invoke, builtin, List.map_toArray, List.map_cons, List.map_nil, ha.eval e1, ha.eval e2, Sem.run_bind, Sem.run_pure, Result.andThen_ok, h1]
/-- []T{} -/
theorem O.build0 {e : α → Value} (hu : UndIs P t (.slice T)) (hs : SizeIs P T sz)
    (h : ∀ v w', v.oneCell' = true → Holds w' (arr T e v ([] : List α) :: L) → O P ro N ops os Q ((d, v) :: l) ds w')
    (H : Holds w L := by assumption) (hd : Nat.blt d N = true := by rfl) :
    O P ro N ops (⟨some d, .buildSlice t 0 #[], ty, pos, af, none⟩ :: os) Q l ds w := by
  refine O.val (w' := { w with heap := w.heap.push (.cells #[] T) }) (v := .slice (some ⟨w.heap.size, 0, none⟩) 0 0) nofun (by simpa using hd) (fun a ha => ?_) (h _ _ rfl ?_)
  · simp [execOp, Instr.buildSlice, hu w, hs w, Instr.fill, newRow, show Array.range 0 = #[] from rfl]
  · exact arr_mk (e := e) (xs := ([] : List α)) (rest := []) (cap := 0) (by simp) (by
      have := H.alloc (.cells #[] T)
      simpa using this)
end
end Go.Rr
