/- Cuts of owned slices whose elements take several cells. No program in sight. -/
import Derived.Test.YtakmbbgnnbpkoaaRrBase
namespace Go.Rr
set_option linter.unusedVariables false
theorem flat_drop_list {α : Type} {e : α → List Value} {sz : Nat} (he : ∀ x, (e x).length = sz) : ∀ (ys : List α) (lo : Nat), (ys.flatMap e).drop (lo * sz) = (ys.drop lo).flatMap e
  | ys, 0 => by simp
  | [], lo + 1 => by simp
  | y :: ys, lo + 1 => by
    rw [List.flatMap_cons, Nat.succ_mul, Nat.add_comm, ← List.drop_drop, List.drop_left' (he y), flat_drop_list he ys lo, List.drop_succ_cons]
section
variable {P : Program} {ro : Option Nat} {N : Nat} {Q : Q0} {l : Regs} {ds : List Deferred} {w w' : World} {ops : Array Oper} {os : List Oper}
variable {d : Tmp} {ty : TypeId} {pos : String} {af : Array Edge} {x y z : Operand} {t T : TypeId} {α : Type} {L : List HProp} {info : TypeInfo} {zv : Value} {sz : Nat} {k : IntKind} {v u : Value} {e : α → List Value}
theorem arrN_cap {xs : List α} (H : Holds w (arrN T sz e v xs :: L)) : ∃ a cap, v = .slice a xs.length cap ∧ xs.length ≤ cap := by
  rcases arrN_cases H with ⟨rfl, rfl, _⟩ | ⟨b, cap, rest, rfl, _, h, _⟩
  · exact ⟨_, _, rfl, Nat.le_refl _⟩
  · exact ⟨_, _, rfl, h⟩
theorem Ex.sliceLoA {xs : List α} {i : Int} (hu : UndIs P t (.slice T)) (hs : SizeIs P T sz) (e1 : ev l x = some v) (e2 : ev l y = some (.int k i))
    (H : Holds w (arrN T sz e v xs :: L) := by exact Holds.to (by assumption)) (h0 : 0 ≤ i := by first | assumption | omega) (h1 : i ≤ xs.length := by first | assumption | omega) :
    Ex P N l (.slice t x (some y) none none) ty w (cutV v i.toNat sz) w := by
  obtain ⟨a, cap, rfl, h⟩ := arrN_cap H
  exact Ex.sliceLoN hu hs e1 e2 h0 h1
theorem Ex.sliceHiA {xs : List α} {i : Int} (hu : UndIs P t (.slice T)) (hs : SizeIs P T sz) (e1 : ev l x = some v) (e2 : ev l y = some (.int k i))
    (H : Holds w (arrN T sz e v xs :: L) := by exact Holds.to (by assumption)) (h0 : 0 ≤ i := by first | assumption | omega) (h1 : i ≤ xs.length := by first | assumption | omega) :
    Ex P N l (.slice t x none (some y) none) ty w (hiV v i.toNat) w := by
  obtain ⟨a, cap, rfl, h⟩ := arrN_cap H
  exact Ex.sliceHiN hu hs e1 e2 h0 (by omega)
theorem arrN_hi_one {xs : List α} (H : Holds w (arrN T sz e v xs :: L)) (hi : Nat) : (hiV v hi).oneCell' = true := by
  obtain ⟨a, cap, rfl, h⟩ := arrN_cap H; rfl
theorem arrN_take {xs : List α} {hi : Nat} (he : ∀ x, (e x).length = sz) (H : Holds w (arrN T sz e v xs :: L)) (h : hi ≤ xs.length) : Holds w (arrN T sz e (hiV v hi) (xs.take hi) :: L) := by
  rcases arrN_cases H with ⟨rfl, rfl, H'⟩ | ⟨b, cap, rest, rfl, hc, hc', H'⟩
  · obtain rfl : hi = 0 := by simpa using h
    exact H
  · have hl : (xs.take hi).length = hi := by rw [List.length_take]; omega
    have := arrN_mk (e := e) (sz := sz) (xs := xs.take hi) (rest := (xs.drop hi).flatMap e ++ rest) (cap := cap) (by
        rw [List.length_append, flat_len he, hl, List.length_drop, ← Nat.add_assoc, ← Nat.add_mul, Nat.add_sub_cancel' h]; exact hc) (by omega) (by
      rw [← List.append_assoc, ← List.flatMap_append, List.take_append_drop]; exact H')
    simpa [hiV, Nat.min_eq_left h] using this
/-- append(v, u[lo:]...) -/
theorem append_cutN {xs ys : List α} {lo : Nat} (hu : UndIs P t (.slice T)) (hI : InfoIs P T info) (hs : SizeIs P T sz) (hz : ZeroIs P T zv) (hzs : zv.cells.size = sz) (he : ∀ x, (e x).length = sz) (he1 : ∀ x, ∀ c ∈ e x, c.oneCell' = true)
    (H : Holds w (arrN T sz e v xs :: arrN T sz e u ys :: L)) (hlo : lo ≤ ys.length) (h63 : xs.length + ys.length ≤ 9223372036854775807) (hb : (xs.length + ys.length) * info.bytes ≤ 140737488355328) :
    ∃ v' w', (Builtin.append_ #[t, t] ty #[v, cutV u lo sz]).run P w = .ok v' w' ∧ Holds w' (arrN T sz e v' (xs ++ ys.drop lo) :: arrN T sz e u ys :: L) := by
  have hlen : (ys.drop lo).length = ys.length - lo := by simp
  have hm : (xs.length + (ys.length - lo)) * info.bytes ≤ 140737488355328 := Nat.le_trans (Nat.mul_le_mul_right _ (by omega)) hb
  have hm2 : (ys.length - lo) * info.bytes ≤ 140737488355328 := Nat.le_trans (Nat.mul_le_mul_right _ (by omega)) hb
  rcases Nat.eq_zero_or_pos (ys.length - lo) with h0 | h0
  · have hd : ys.drop lo = [] := List.length_eq_zero_iff.1 (by omega)
    rw [hd, List.append_nil]
    obtain ⟨a, c, rfl, hc⟩ := arrN_cap H
    obtain ⟨a', c', rfl, hc'⟩ := arrN_cap H.swap
    exact ⟨_, _, append_zero (v := .slice none 0 0) (n := xs.length) (cap := c) (g := a) hu hs h0 hc, H⟩
  · obtain ⟨b, c, rest2, rfl, hc, hc', H1⟩ := arrN_some H.swap (by omega)
    have hcut : cutV (.slice (some ⟨b, 0, none⟩) ys.length c) lo sz = .slice (some ⟨b, lo * sz, none⟩) (ys.length - lo) (c - lo) := by
      simp only [cutV]
      rw [if_neg (by omega)]
      simp [add_off]
    have hnews := pt_cells H1 (lo * sz)
    rw [flat_drop_list he] at hnews
    have hnl : ((ys.drop lo).flatMap e).length = (ys.length - lo) * sz := by rw [flat_len he, hlen]
    rw [hcut]
    rcases arrN_cases H1.swap with ⟨rfl, rfl, H2⟩ | ⟨g, cap, rest, rfl, hcap, hcap', H2⟩
    · obtain ⟨g', cap', rest', w', hrun, hl, hcl, H3⟩ := append_none (ty := ty) hu hI hs hz hzs (news := (ys.drop lo).flatMap e) (m := ys.length - lo) (c := c - lo) hnl hnews h0 H2 (by omega) hm2
      refine ⟨_, _, hrun, ?_⟩
      have H4 := arrN_mk (e := e) (sz := sz) (cap := cap') (xs := ys.drop lo) (by rw [hlen, ← hnl]; exact hl) (by rw [hlen]; exact hcl) H3
      rw [hlen] at H4
      exact Holds.cons (fun f h => h) (Holds.swap (arrN_mk (xs := ys) hc hc' H4.swap))
    · obtain ⟨g', cap', rest', w', hrun, hl, hcl, H3⟩ := append_some (ty := ty) hu hI hs hz hzs (olds := xs.flatMap e) (n := xs.length) (cap := cap) (m := ys.length - lo) (c := c - lo) (news := (ys.drop lo).flatMap e) (flat_len he xs) (by rw [flat_len he]; exact hcap) hcap' hnl hnews (by intro u hu; obtain ⟨a, _, ha⟩ := List.mem_flatMap.1 hu; exact he1 a u ha) H2 (by omega) hm
      have H4 : Holds w' (pt g' (.cells ((xs ++ ys.drop lo).flatMap e ++ rest').toArray T (0, 0)) :: pt b (.cells (ys.flatMap e ++ rest2).toArray T (0, 0)) :: L) := by
        rw [List.flatMap_append]; exact H3
      have H5 := arrN_mk (e := e) (sz := sz) (cap := cap') (xs := xs ++ ys.drop lo) (by rw [List.length_append, Nat.add_mul, hlen, ← hnl, ← flat_len he xs, ← List.length_append]; exact hl) (by rw [List.length_append, hlen]; exact hcl) H4
      rw [List.length_append, hlen] at H5
      exact ⟨_, _, hrun, Holds.swap (arrN_mk (xs := ys) hc hc' H5.swap)⟩
theorem O.appendCutN {xs ys : List α} {lo : Nat} {ats : Array TypeId} {bt : Nat} (hu : UndIs P t (.slice T)) (hI : InfoIs P T info) (hbt : info.bytes = bt) (hs : SizeIs P T sz) (hz : ZeroIs P T zv)
    (e1 : ev l x = some v) (e2 : ev l y = some (cutV u lo sz))
    (h : ∀ v' w', v'.oneCell' = true → Holds w' (arrN T sz e v' (xs ++ ys.drop lo) :: arrN T sz e u ys :: L) → O P ro N ops os Q ((d, v') :: l) ds w')
    (he : ∀ x, (e x).length = sz) (he1 : ∀ x, ∀ c ∈ e x, c.oneCell' = true)
    (H : Holds w (arrN T sz e v xs :: arrN T sz e u ys :: L) := by exact Holds.to (by assumption)) (hlo : lo ≤ ys.length := by first | assumption | omega)
    (h63 : xs.length + ys.length ≤ 9223372036854775807 := by first | omega | (simp only [List.length_cons, List.length_nil]; omega)) (hb : (xs.length + ys.length) * bt ≤ 140737488355328 := by first | omega | (simp only [List.length_cons, List.length_nil]; omega))
    (ht : ats = #[t, t] := by rfl) (hzs : zv.cells.size = sz := by rfl) (hd : Nat.blt d N = true := by rfl) :
    O P ro N ops (⟨some d, .call ⟨.builtin .append, #[x, y], ats⟩, ty, pos, af, none⟩ :: os) Q l ds w := by
  subst ht hbt
  obtain ⟨v', w', h1, h2⟩ := append_cutN (P := P) (ty := ty) hu hI hs hz hzs he he1 H hlo h63 hb
  refine O.val nofun (by simpa using hd) (fun a ha => ?_) (h _ _ (arrN_one h2) h2)
  simp only [execOp, resolve, invoke, builtin, List.map_toArray, List.map_cons, List.map_nil, ha.eval e1, ha.eval e2, Sem.run_bind, Sem.run_pure, Result.andThen_ok, h1]
/-- []T{} -/
theorem O.build0N (hu : UndIs P t (.slice T)) (hs : SizeIs P T sz)
    (h : ∀ v w', v.oneCell' = true → Holds w' (arrN T sz e v ([] : List α) :: L) → O P ro N ops os Q ((d, v) :: l) ds w')
    (H : Holds w L := by assumption) (hd : Nat.blt d N = true := by rfl) :
    O P ro N ops (⟨some d, .buildSlice t 0 #[], ty, pos, af, none⟩ :: os) Q l ds w := by
  refine O.val (w' := { w with heap := w.heap.push (.cells #[] T) }) (v := .slice (some ⟨w.heap.size, 0, none⟩) 0 0) nofun (by simpa using hd) (fun a ha => ?_) (h _ _ rfl ?_)
  · simp [execOp, Instr.buildSlice, hu w, hs w, Instr.fill, newRow, show Array.range 0 = #[] from rfl]
  · exact arrN_mk (e := e) (sz := sz) (xs := ([] : List α)) (rest := []) (cap := 0) (by simp) (by simp) (by
      have := H.alloc (.cells #[] T)
      simpa using this)
end
end Go.Rr
