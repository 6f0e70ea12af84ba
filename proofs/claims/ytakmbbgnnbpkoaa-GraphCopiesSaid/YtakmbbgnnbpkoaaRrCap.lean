/- make with a room of its own; a slice in a variable. No program in sight. -/
import Derived.Test.YtakmbbgnnbpkoaaRrAppend
import Derived.Test.YtakmbbgnnbpkoaaRrCut
namespace Go.Rr
set_option linter.unusedVariables false
section
variable {P : Program} {ro : Option Nat} {N : Nat} {Q : Q0} {l : Regs} {ds : List Deferred} {w w' : World} {ops : Array Oper} {os : List Oper}
variable {d : Tmp} {ty : TypeId} {pos : String} {af : Array Edge} {x y : Operand} {t T yt : TypeId} {α : Type} {e : α → Value} {v : Value} {xs : List α} {L : List HProp} {m n : Int} {k : IntKind}
/-- make([]T, m, n). -/
theorem O.makeC {E : TypeId} (z : α) {info : TypeInfo} {bt : Nat} (hu : UndIs P t (.slice E)) (hs : SizeIs P E 1) (hz : ZeroIs P E (e z)) (hI : InfoIs P E info) (hbt : info.bytes = bt) (e1 : ev l x = some (.int .i64 m)) (e2 : ev l y = some (.int .i64 n))
    (h : ∀ v w', v.oneCell' = true → Holds w' (arr E e v (List.replicate m.toNat z) :: L) → O P ro N ops os Q ((d, v) :: l) ds w')
    (H : Holds w L := by assumption) (h0 : 0 ≤ m := by omega) (hmn : m ≤ n := by omega) (hb : bt * n ≤ 140737488355328 := by omega) (hn : n ≤ 9223372036854775807 := by omega)
    (hz1 : (e z).oneCell' = true := by rfl) (hd : Nat.blt d N = true := by rfl) : O P ro N ops (⟨some d, .makeSlice t x y, ty, pos, af, none⟩ :: os) Q l ds w := by
  subst hbt
  have hw : IntKind.i64.wrap n = n := IntWalk.i64_in n ⟨by omega, hn⟩
  have hw2 : IntKind.i64.wrap m = m := IntWalk.i64_in m ⟨by omega, by omega⟩
  refine O.val (w' := { w with heap := w.heap.push (.cells (List.replicate n.toNat (e z)).toArray E) }) (v := .slice (some ⟨w.heap.size, 0, none⟩) m.toNat n.toNat) nofun (by simpa using hd) (fun a ha => ?_) (h _ _ rfl ?_)
  · have hnl : ¬ ((2 : Int) ^ 48 < info.bytes * n) := by have : (2:Int)^48 = 281474976710656 := by decide
                                                         omega
    simp only [execOp, ha.eval e1, ha.eval e2, Instr.makeSlice, asInt, asIntOf, Sem.run_bind, hu w, hI w, Result.andThen_ok, Sem.run_pure, hw, hw2]
    rw [if_neg (by simp; omega)]
    simp only [Sem.run_bind, Result.andThen_ok, run_askRoom, hs w, Nat.mul_one, newRow]
    by_cases h0 : n.toNat = 0
    · simp [h0, show Array.range 0 = #[] from by simp]
    · simp [hz w, zeros_one _ _ hz1]; intro h1; exact absurd (by omega) h0
  · have := arr_mk (e := e) (xs := List.replicate m.toNat z) (rest := List.replicate (n.toNat - m.toNat) (e z)) (cap := n.toNat) (by simp; omega) (by
      have := H.alloc (.cells (List.replicate n.toNat (e z)).toArray E)
      rw [List.map_replicate, List.replicate_append_replicate, show m.toNat + (n.toNat - m.toNat) = n.toNat from by omega]
      simpa using this)
    simpa using this
variable {zv : Value} {info : TypeInfo}
/-- append(v, u...): what is appended stays, too. -/
theorem append_arrK {e : α → Value} {v u : Value} {xs ys : List α} (hu : UndIs P t (.slice T)) (hI : InfoIs P T info) (hs : SizeIs P T 1) (hz : ZeroIs P T zv) (hzc : zv.oneCell' = true) (he : ∀ x, (e x).oneCell' = true)
    (H : Holds w (arr T e v xs :: arr T e u ys :: L)) (h63 : xs.length + ys.length ≤ 9223372036854775807) (hb : (xs.length + ys.length) * info.bytes ≤ 140737488355328) :
    ∃ v' w', (Builtin.append_ #[t, t] ty #[v, u]).run P w = .ok v' w' ∧ Holds w' (arr T e v' (xs ++ ys) :: arr T e u ys :: L) := by
  have hzs : zv.cells.size = 1 := by rw [cells_one hzc]; rfl
  rcases arr_cases H.swap with ⟨rfl, rfl, H1⟩ | ⟨b, c, rest2, rfl, hc, H1⟩
  · rcases arr_cases H1 with ⟨rfl, rfl, H2⟩ | ⟨g, cap, rest, rfl, hcap, H2⟩
    · exact ⟨_, _, append_zero (v := .slice none 0 0) hu hs rfl (Nat.le_refl _), by simpa using (arr_nil H1).swap⟩
    · exact ⟨_, _, append_zero (v := .slice none 0 0) hu hs rfl (by omega), by simpa using (arr_nil H1).swap⟩
  · have hnews := pt_cells H1 0
    rw [List.drop_zero] at hnews
    rcases arr_cases H1.swap with ⟨rfl, rfl, H2⟩ | ⟨g, cap, rest, rfl, hcap, H2⟩
    · rcases Nat.eq_zero_or_pos ys.length with h0 | h0
      · obtain rfl : ys = [] := List.length_eq_zero_iff.1 h0
        exact ⟨_, _, append_zero (v := .slice none 0 0) hu hs rfl (Nat.le_refl _), by simpa using (arr_mk hc H1).swap⟩
      · obtain ⟨g', cap', rest', w', hrun, hl, hcl, H3⟩ := append_none (ty := ty) hu hI hs hz hzs (news := ys.map e) (m := ys.length) (c := c) (by simp) hnews h0 H2 (by simpa using h63) (by simpa using hb)
        refine ⟨_, _, hrun, ?_⟩
        have := (arr_mk (cap := cap') (xs := ys) (by simpa using hl) H3).swap
        exact (arr_mk hc this).swap
    · obtain ⟨g', cap', rest', w', hrun, hl, hcl, H3⟩ := append_some (ty := ty) hu hI hs hz hzs (olds := xs.map e) (n := xs.length) (cap := cap) (m := ys.length) (c := c) (news := ys.map e) (by simp) (by simpa using hcap) (by omega) (by simp) hnews (by intro u hu; obtain ⟨a, _, rfl⟩ := List.mem_map.1 hu; exact he a) H2 (by simpa using h63) (by simpa using hb)
      rw [← List.map_append] at H3
      have := arr_mk (cap := cap') (xs := xs ++ ys) (by simpa using hl) H3
      rw [List.length_append] at this
      exact ⟨_, _, hrun, (arr_mk hc this.swap).swap⟩
theorem O.appendK {e : α → Value} {v u : Value} {xs ys : List α} {ats : Array TypeId} {bt : Nat} (hu : UndIs P t (.slice T)) (hI : InfoIs P T info) (hbt : info.bytes = bt) (hs : SizeIs P T 1) (hz : ZeroIs P T zv)
    (e1 : ev l x = some v) (e2 : ev l y = some u)
    (h : ∀ v' w', v'.oneCell' = true → Holds w' (arr T e v' (xs ++ ys) :: arr T e u ys :: L) → O P ro N ops os Q ((d, v') :: l) ds w')
    (H : Holds w (arr T e v xs :: arr T e u ys :: L) := by exact Holds.to (by assumption))
    (h63 : xs.length + ys.length ≤ 9223372036854775807 := by first | omega | (simp only [List.length_cons, List.length_nil]; omega)) (hb : (xs.length + ys.length) * bt ≤ 140737488355328 := by first | omega | (simp only [List.length_cons, List.length_nil]; omega))
    (ht : ats = #[t, t] := by rfl) (hzc : zv.oneCell' = true := by rfl) (he : ∀ x, (e x).oneCell' = true := by intros; rfl) (hd : Nat.blt d N = true := by rfl) :
    O P ro N ops (⟨some d, .call ⟨.builtin .append, #[x, y], ats⟩, ty, pos, af, none⟩ :: os) Q l ds w := by
  subst ht hbt
  obtain ⟨v', w', h1, h2⟩ := append_arrK (P := P) (ty := ty) hu hI hs hz hzc he H h63 hb
  refine O.val nofun (by simpa using hd) (fun a ha => ?_) (h _ _ (arr_one h2) h2)
  simp only [execOp, resolve, invoke, builtin, List.map_toArray, List.map_cons, List.map_nil, ha.eval e1, ha.eval e2, Sem.run_bind, Sem.run_pure, Result.andThen_ok, h1]
/-- A slice of one's own in a variable. -/
def slV (b : Nat) (TS T : TypeId) (e : α → Value) (xs : List α) : HProp := hex fun va => star [pt b (.cells #[va] TS (0, 0)), arr T e va xs]
theorem slV_open {b : Nat} {TS : TypeId} : Holds w (slV b TS T e xs :: L) ↔ ∃ va, Holds w (pt b (.cells #[va] TS (0, 0)) :: arr T e va xs :: L) := by
  unfold slV
  simp only [Holds.hex, Holds.star, List.cons_append, List.nil_append]
end
end Go.Rr
