/- append, copy, cuts: of owned slices. No program in sight. -/
import Derived.Laws.AppendOwn
import Derived.Test.YtakmbbgnnbpkoaaRrArrN
namespace Go.Rr
set_option linter.unusedVariables false
theorem UndIs.pure {P : Program} {t : TypeId} {d : TypeDesc} (h : UndIs P t d) : P.underlying t = some d := by
  have h0 := h default
  simp only [underlying, Sem.run_bind, run_program, Result.andThen_ok] at h0
  split at h0
  · rename_i e; simp only [Sem.run_pure, Result.ok.injEq] at h0; rw [e, h0.1]
  · simp at h0
theorem InfoIs.pure {P : Program} {t : TypeId} {i : TypeInfo} (h : InfoIs P t i) : P.info? t = some i := by
  have h0 := h default
  simp only [typeInfo, Sem.run_bind, run_program, Result.andThen_ok] at h0
  split at h0
  · rename_i e; simp only [Sem.run_pure, Result.ok.injEq] at h0; rw [e, h0.1]
  · simp at h0
theorem SizeIs.of {P : Program} {t n : Nat} {i : TypeInfo} (h : SizeIs P t n) (hi : InfoIs P t i) : i.size = n := by
  have h0 := h default
  simp only [sizeOf, Sem.run_bind, hi default, Result.andThen_ok, Sem.run_pure, Result.ok.injEq] at h0
  exact h0.1
theorem ZeroIs.of {P : Program} {t : Nat} {z : Value} {i : TypeInfo} (h : ZeroIs P t z) (hi : InfoIs P t i) : i.zero = some z := by
  have h0 := h default
  simp only [zeroValue, Sem.run_bind, hi default, Result.andThen_ok] at h0
  split at h0
  · rename_i e; simp only [Sem.run_pure, Result.ok.injEq] at h0; rw [e, h0.1]
  · simp at h0
section
variable {P : Program} {ro : Option Nat} {N : Nat} {Q : Q0} {l : Regs} {ds : List Deferred} {w w' : World} {ops : Array Oper} {os : List Oper}
variable {d : Tmp} {ty : TypeId} {pos : String} {af : Array Edge} {x y : Operand} {t T : TypeId} {α : Type} {L : List HProp} {info : TypeInfo} {zv : Value} {sz : Nat}
theorem pt_cells {b : Nat} {olds rest : List Value} (H : Holds w (pt b (.cells (olds ++ rest).toArray T (0, 0)) :: L)) (off : Nat) : ∀ j u, (olds.drop off)[j]? = some u → w.cell? ((Addr.mk b off none).add j) = some u := by
  intro j u e
  rw [add_off]
  refine H.cell ?_
  rw [List.getElem?_drop] at e
  have h1 := (List.getElem?_eq_some_iff.1 e).1
  rw [List.getElem?_toArray, List.getElem?_append_left h1]; exact e
theorem append_some {g n cap b off m c : Nat} {olds rest news : List Value} (hu : UndIs P t (.slice T)) (hI : InfoIs P T info) (hs : SizeIs P T sz) (hz : ZeroIs P T zv) (hzc : zv.cells.size = sz)
    (hlo : olds.length = n * sz) (hr : olds.length + rest.length = cap * sz) (hnc : n ≤ cap) (hln : news.length = m * sz) (hnews : ∀ j u, news[j]? = some u → w.cell? ((Addr.mk b off none).add j) = some u) (h1 : ∀ u ∈ news, u.oneCell' = true)
    (H : Holds w (pt g (.cells (olds ++ rest).toArray T (0, 0)) :: L)) (h63 : (n + m : Nat) ≤ 9223372036854775807) (hb : (n + m) * info.bytes ≤ 140737488355328) :
    ∃ g' cap' rest' w', (Builtin.append_ #[t, t] ty #[.slice (some ⟨g, 0, none⟩) n cap, .slice (some ⟨b, off, none⟩) m c]).run P w = .ok (.slice (some ⟨g', 0, none⟩) (n + m) cap') w' ∧
      (olds ++ news).length + rest'.length = cap' * sz ∧ n + m ≤ cap' ∧ Holds w' (pt g' (.cells (olds ++ news ++ rest').toArray T (0, 0)) :: L) := by
  have hisz := hs.of hI
  have hfc := run_firstCells_some (P := P) w sz m ⟨b, off, none⟩ m c news hln hnews
  rcases Nat.lt_or_ge cap (n + m) with hg | hroom
  · have hold := pt_cells H 0
    rw [List.drop_zero] at hold
    have hrun := run_append_grow (P := P) w t ty T info zv hu.pure hI.pure (hz.of hI) ⟨g, 0, none⟩ n cap olds (by rw [hisz]; exact hlo) hold ⟨b, off, none⟩ m c news (by rw [hisz]; exact hln) hnews hg (by omega) (growslice_fits hg hb)
    have hge := grownCap_ge w (n + m) cap T
    refine ⟨_, _, (Builtin.zeroCells zv.cells (grownCap w (n + m) cap T - (n + m))).toList, _, hrun, ?_, hge, ?_⟩
    · have : (Builtin.zeroCells zv.cells (grownCap w (n + m) cap T - (n + m))).size = (grownCap w (n + m) cap T - (n + m)) * sz := by simp [Builtin.zeroCells, hzc]
      have h2 : (Builtin.zeroCells zv.cells (grownCap w (n + m) cap T - (n + m))).toList.length = (grownCap w (n + m) cap T - (n + m)) * sz := by rw [Array.length_toList]; exact this
      rw [List.length_append, hlo, hln, h2, ← Nat.add_mul, ← Nat.add_mul]
      congr 1; omega
    · have H2 : Holds w.drew L := H.drop.same rfl rfl
      have := H2.alloc (.cells (olds.toArray ++ news.toArray ++ Builtin.zeroCells zv.cells (grownCap w (n + m) cap T - (n + m))) T)
      have e : (olds ++ news ++ (Builtin.zeroCells zv.cells (grownCap w (n + m) cap T - (n + m))).toList).toArray = olds.toArray ++ news.toArray ++ Builtin.zeroCells zv.cells (grownCap w (n + m) cap T - (n + m)) := by
        apply Array.ext'; simp
      rw [e]
      exact this
  · have hm : m * sz ≤ rest.length := by
      have := Nat.mul_le_mul_right sz hroom
      rw [Nat.add_mul] at this; omega
    obtain ⟨w', hst, H'⟩ := storeCells_list (P := P) (vs := news) (olds ++ rest) h1 H (n * sz) (by rw [List.length_append]; omega)
    refine ⟨g, cap, rest.drop (m * sz), w', ?_, ?_, hroom, ?_⟩
    · simp [Builtin.append_, run_underlying hu.pure, hs w, Builtin.lenOf, hroom, hfc, Addr.add_lit, hst]
    · rw [List.length_append, List.length_drop]; omega
    · rw [List.take_append_of_le_length (by omega), ← hlo, List.take_of_length_le (by omega), List.drop_append, List.drop_eq_nil_of_le (by omega), hln] at H'
      simpa [Nat.add_sub_cancel_left] using H'
theorem append_none {b off m c : Nat} {news : List Value} (hu : UndIs P t (.slice T)) (hI : InfoIs P T info) (hs : SizeIs P T sz) (hz : ZeroIs P T zv) (hzc : zv.cells.size = sz)
    (hln : news.length = m * sz) (hnews : ∀ j u, news[j]? = some u → w.cell? ((Addr.mk b off none).add j) = some u) (hm : 0 < m)
    (H : Holds w L) (h63 : m ≤ 9223372036854775807) (hb : m * info.bytes ≤ 140737488355328) :
    ∃ g' cap' rest' w', (Builtin.append_ #[t, t] ty #[.slice none 0 0, .slice (some ⟨b, off, none⟩) m c]).run P w = .ok (.slice (some ⟨g', 0, none⟩) m cap') w' ∧
      news.length + rest'.length = cap' * sz ∧ m ≤ cap' ∧ Holds w' (pt g' (.cells (news ++ rest').toArray T (0, 0)) :: L) := by
  have hisz := hs.of hI
  have hrun := run_append_nil (P := P) w t ty T info zv hu.pure hI.pure (hz.of hI) ⟨b, off, none⟩ m c news (by rw [hisz]; exact hln) hnews hm (by omega) (by omega)
  have hge := grownCap_ge w m 0 T
  refine ⟨_, _, (Builtin.zeroCells zv.cells (grownCap w m 0 T - m)).toList, _, hrun, ?_, hge, ?_⟩
  · have : (Builtin.zeroCells zv.cells (grownCap w m 0 T - m)).size = (grownCap w m 0 T - m) * sz := by simp [Builtin.zeroCells, hzc]
    have h2 : (Builtin.zeroCells zv.cells (grownCap w m 0 T - m)).toList.length = (grownCap w m 0 T - m) * sz := by rw [Array.length_toList]; exact this
    rw [hln, h2, ← Nat.add_mul]
    congr 1; omega
  · have H2 : Holds w.drew L := H.same rfl rfl
    have := H2.alloc (.cells (news.toArray ++ Builtin.zeroCells zv.cells (grownCap w m 0 T - m)) T)
    have e : (news ++ (Builtin.zeroCells zv.cells (grownCap w m 0 T - m)).toList).toArray = news.toArray ++ Builtin.zeroCells zv.cells (grownCap w m 0 T - m) := by
      apply Array.ext'; simp
    rw [e]
    exact this
theorem append_zero {v : Value} {g : Option Addr} {n cap m c : Nat} {a : Option Addr} (hu : UndIs P t (.slice T)) (hs : SizeIs P T sz) (hm : m = 0) (hc : n ≤ cap) : (Builtin.append_ #[t, t] ty #[.slice g n cap, .slice a m c]).run P w = .ok (.slice g n cap) w := by
  subst hm
  have hf : (Builtin.firstCells sz 0 (.slice a 0 c)).run P w = .ok #[] w := by
    cases a with
    | none => simp [Builtin.firstCells]
    | some a => exact run_firstCells_some (P := P) w sz 0 a 0 c [] (by simp) (by simp)
  cases g with
  | none => simp [Builtin.append_, run_underlying hu.pure, hs w, Builtin.lenOf, hc, hf]
  | some g => simp [Builtin.append_, run_underlying hu.pure, hs w, Builtin.lenOf, hc, hf, storeCells]

/-! ### One-cell elements -/
theorem append_arr {e : α → Value} {v u : Value} {xs ys : List α} (hu : UndIs P t (.slice T)) (hI : InfoIs P T info) (hs : SizeIs P T 1) (hz : ZeroIs P T zv) (hzc : zv.oneCell' = true) (he : ∀ x, (e x).oneCell' = true)
    (H : Holds w (arr T e v xs :: arr T e u ys :: L)) (h63 : xs.length + ys.length ≤ 9223372036854775807) (hb : (xs.length + ys.length) * info.bytes ≤ 140737488355328) :
    ∃ v' w', (Builtin.append_ #[t, t] ty #[v, u]).run P w = .ok v' w' ∧ Holds w' (arr T e v' (xs ++ ys) :: L) := by
  have hzs : zv.cells.size = 1 := by rw [cells_one hzc]; rfl
  rcases arr_cases H.swap with ⟨rfl, rfl, H1⟩ | ⟨b, c, rest2, rfl, hc, H1⟩
  · rcases arr_cases H1 with ⟨rfl, rfl, H2⟩ | ⟨g, cap, rest, rfl, hcap, H2⟩
    · exact ⟨_, _, append_zero (v := .slice none 0 0) hu hs rfl (Nat.le_refl _), by simpa using H1⟩
    · exact ⟨_, _, append_zero (v := .slice none 0 0) hu hs rfl (by omega), by simpa using H1⟩
  · have hnews := pt_cells H1 0
    rw [List.drop_zero] at hnews
    rcases arr_cases H1.swap with ⟨rfl, rfl, H2⟩ | ⟨g, cap, rest, rfl, hcap, H2⟩
    · rcases Nat.eq_zero_or_pos ys.length with h0 | h0
      · obtain rfl : ys = [] := List.length_eq_zero_iff.1 h0
        exact ⟨_, _, append_zero (v := .slice none 0 0) hu hs rfl (Nat.le_refl _), by simpa using H1.drop⟩
      · obtain ⟨g', cap', rest', w', hrun, hl, hcl, H3⟩ := append_none (ty := ty) hu hI hs hz hzs (news := ys.map e) (m := ys.length) (c := c) (by simp) hnews h0 H2.drop (by simpa using h63) (by simpa using hb)
        refine ⟨_, _, hrun, ?_⟩
        exact arr_mk (by simpa using hl) H3
    · obtain ⟨g', cap', rest', w', hrun, hl, hcl, H3⟩ := append_some (ty := ty) hu hI hs hz hzs (olds := xs.map e) (n := xs.length) (cap := cap) (m := ys.length) (c := c) (news := ys.map e) (by simp) (by simpa using hcap) (by omega) (by simp) hnews (by intro u hu; obtain ⟨a, _, rfl⟩ := List.mem_map.1 hu; exact he a) H2 (by simpa using h63) (by simpa using hb)
      have H4 : Holds w' (pt g' (.cells ((xs ++ ys).map e ++ rest').toArray T (0, 0)) :: L) := by
        have := H3.cons (fun f h => sep_drop h)
        rw [List.map_append]; exact this
      have := arr_mk (cap := cap') (xs := xs ++ ys) (by simpa using hl) H4
      rw [List.length_append] at this
      exact ⟨_, _, hrun, this⟩
theorem O.appendR {e : α → Value} {v u : Value} {xs ys : List α} {ats : Array TypeId} {bt : Nat} (hu : UndIs P t (.slice T)) (hI : InfoIs P T info) (hbt : info.bytes = bt) (hs : SizeIs P T 1) (hz : ZeroIs P T zv)
    (e1 : ev l x = some v) (e2 : ev l y = some u)
    (h : ∀ v' w', v'.oneCell' = true → Holds w' (arr T e v' (xs ++ ys) :: L) → O P ro N ops os Q ((d, v') :: l) ds w')
    (H : Holds w (arr T e v xs :: arr T e u ys :: L) := by exact Holds.to (by assumption))
    (h63 : xs.length + ys.length ≤ 9223372036854775807 := by first | omega | (simp only [List.length_cons, List.length_nil]; omega)) (hb : (xs.length + ys.length) * bt ≤ 140737488355328 := by first | omega | (simp only [List.length_cons, List.length_nil]; omega))
    (ht : ats = #[t, t] := by rfl) (hzc : zv.oneCell' = true := by rfl) (he : ∀ x, (e x).oneCell' = true := by intros; rfl) (hd : Nat.blt d N = true := by rfl) :
    O P ro N ops (⟨some d, .call ⟨.builtin .append, #[x, y], ats⟩, ty, pos, af, none⟩ :: os) Q l ds w := by
  subst ht hbt
  obtain ⟨v', w', h1, h2⟩ := append_arr (P := P) (ty := ty) hu hI hs hz hzc he H h63 hb
  refine O.val nofun (by simpa using hd) (fun a ha => ?_) (h _ _ (arr_one h2) h2)
  simp only [execOp, resolve, invoke, builtin, List.map_toArray, List.map_cons, List.map_nil, ha.eval e1, ha.eval e2, Sem.run_bind, Sem.run_pure, Result.andThen_ok, h1]
/-- A slice of one element, laid out for append. -/
theorem O.build1 {e : α → Value} {z : α} (hu : UndIs P t (.slice T)) (hs : SizeIs P T 1) (hz : ZeroIs P T zv) (e1 : ev l x = some (e z))
    (h : ∀ v w', v.oneCell' = true → Holds w' (arr T e v [z] :: L) → O P ro N ops os Q ((d, v) :: l) ds w')
    (H : Holds w L := by assumption) (he : (e z).oneCell' = true := by rfl) (hzc : zv.oneCell' = true := by rfl) (hd : Nat.blt d N = true := by rfl) :
    O P ro N ops (⟨some d, .buildSlice t 1 #[(0, x)], ty, pos, af, none⟩ :: os) Q l ds w := by
  have hc : zv.cells = #[zv] := cells_one hzc
  refine O.val (w' := { w with heap := w.heap.push (.cells #[e z] T) }) (v := .slice (some ⟨w.heap.size, 0, none⟩) 1 1) nofun (by simpa using hd) (fun a ha => ?_) (h _ _ rfl ?_)
  · simp [execOp, Instr.buildSlice, hu w, hs w, hz w, hc, Instr.fill, ha.eval e1, cells_one he, newRow]
    congr 2
    apply Array.ext'
    simp [show Array.range 1 = #[0] from rfl]
  · exact arr_mk (e := e) (xs := [z]) (rest := []) (cap := 1) (by simp) (by
      have := H.alloc (.cells #[e z] T)
      simpa using this)

/-! ### Elements of several cells -/
theorem append_arrN {e : α → List Value} {v u : Value} {xs ys : List α} (hu : UndIs P t (.slice T)) (hI : InfoIs P T info) (hs : SizeIs P T sz) (hz : ZeroIs P T zv) (hzs : zv.cells.size = sz) (he : ∀ x, (e x).length = sz) (he1 : ∀ x, ∀ c ∈ e x, c.oneCell' = true)
    (H : Holds w (arrN T sz e v xs :: arrN T sz e u ys :: L)) (h63 : xs.length + ys.length ≤ 9223372036854775807) (hb : (xs.length + ys.length) * info.bytes ≤ 140737488355328) :
    ∃ v' w', (Builtin.append_ #[t, t] ty #[v, u]).run P w = .ok v' w' ∧ Holds w' (arrN T sz e v' (xs ++ ys) :: L) := by
  rcases arrN_cases H.swap with ⟨rfl, rfl, H1⟩ | ⟨b, c, rest2, rfl, hc, hc', H1⟩
  · rcases arrN_cases H1 with ⟨rfl, rfl, H2⟩ | ⟨g, cap, rest, rfl, hcap, hcap', H2⟩
    · exact ⟨_, _, append_zero (v := .slice none 0 0) hu hs rfl (Nat.le_refl _), by simpa using H1⟩
    · exact ⟨_, _, append_zero (v := .slice none 0 0) hu hs rfl (by omega), by simpa using H1⟩
  · have hnews := pt_cells H1 0
    rw [List.drop_zero] at hnews
    rcases arrN_cases H1.swap with ⟨rfl, rfl, H2⟩ | ⟨g, cap, rest, rfl, hcap, hcap', H2⟩
    · rcases Nat.eq_zero_or_pos ys.length with h0 | h0
      · obtain rfl : ys = [] := List.length_eq_zero_iff.1 h0
        exact ⟨_, _, append_zero (v := .slice none 0 0) hu hs rfl (Nat.le_refl _), by simpa using H1.drop⟩
      · obtain ⟨g', cap', rest', w', hrun, hl, hcl, H3⟩ := append_none (ty := ty) hu hI hs hz hzs (news := ys.flatMap e) (m := ys.length) (c := c) (flat_len he ys) hnews h0 H2.drop (by simpa using h63) (by simpa using hb)
        rw [flat_len he] at hl
        refine ⟨_, _, hrun, ?_⟩
        exact arrN_mk hl hcl H3
    · obtain ⟨g', cap', rest', w', hrun, hl, hcl, H3⟩ := append_some (ty := ty) hu hI hs hz hzs (olds := xs.flatMap e) (n := xs.length) (cap := cap) (m := ys.length) (c := c) (news := ys.flatMap e) (flat_len he xs) (by rw [flat_len he]; exact hcap) hcap' (flat_len he ys) hnews (by intro u hu; obtain ⟨a, _, ha⟩ := List.mem_flatMap.1 hu; exact he1 a u ha) H2 (by simpa using h63) (by simpa using hb)
      have H4 : Holds w' (pt g' (.cells ((xs ++ ys).flatMap e ++ rest').toArray T (0, 0)) :: L) := by
        have := H3.cons (fun f h => sep_drop h)
        rw [List.flatMap_append]; exact this
      have := arrN_mk (sz := sz) (cap := cap') (xs := xs ++ ys) (by rw [← List.flatMap_append, flat_len he] at hl; exact hl) (by simpa using hcl) H4
      rw [List.length_append] at this
      exact ⟨_, _, hrun, this⟩
theorem O.appendN {e : α → List Value} {v u : Value} {xs ys : List α} {ats : Array TypeId} {bt : Nat} (hu : UndIs P t (.slice T)) (hI : InfoIs P T info) (hbt : info.bytes = bt) (hs : SizeIs P T sz) (hz : ZeroIs P T zv)
    (e1 : ev l x = some v) (e2 : ev l y = some u)
    (h : ∀ v' w', v'.oneCell' = true → Holds w' (arrN T sz e v' (xs ++ ys) :: L) → O P ro N ops os Q ((d, v') :: l) ds w')
    (H : Holds w (arrN T sz e v xs :: arrN T sz e u ys :: L) := by exact Holds.to (by assumption))
    (h63 : xs.length + ys.length ≤ 9223372036854775807 := by first | omega | (simp only [List.length_cons, List.length_nil]; omega)) (hb : (xs.length + ys.length) * bt ≤ 140737488355328 := by first | omega | (simp only [List.length_cons, List.length_nil]; omega))
    (ht : ats = #[t, t] := by rfl) (hzs : zv.cells.size = sz := by rfl) (he : ∀ x, (e x).length = sz := by intro _; rfl) (he1 : ∀ x, ∀ c ∈ e x, c.oneCell' = true := by first | exact fun x => List.all_eq_true.1 rfl | (intro x c hc; simp at hc; (repeat' (rcases hc with rfl | hc)) <;> first | rfl | (subst hc; rfl))) (hd : Nat.blt d N = true := by rfl) :
    O P ro N ops (⟨some d, .call ⟨.builtin .append, #[x, y], ats⟩, ty, pos, af, none⟩ :: os) Q l ds w := by
  subst ht hbt
  obtain ⟨v', w', h1, h2⟩ := append_arrN (P := P) (ty := ty) hu hI hs hz hzs he he1 H h63 hb
  refine O.val nofun (by simpa using hd) (fun a ha => ?_) (h _ _ (arrN_one h2) h2)
  simp only [execOp, resolve, invoke, builtin, List.map_toArray, List.map_cons, List.map_nil, ha.eval e1, ha.eval e2, Sem.run_bind, Sem.run_pure, Result.andThen_ok, h1]
theorem foldl_cells : ∀ (c : List Value) (off : Nat) (cs : Array Value), (c.zipIdx off).foldl (fun cs (p : Value × Nat) => cs.setIfInBounds p.2 p.1) cs = putAt cs off c
  | [], off, cs => by simp [putAt]
  | u :: c, off, cs => by
    rw [List.zipIdx_cons, List.foldl_cons, foldl_cells c (off + 1)]
    simp only [putAt]
theorem O.build1N {e : α → List Value} {z : α} {vs : Array Value} (hu : UndIs P t (.slice T)) (hs : SizeIs P T sz) (hz : ZeroIs P T zv) (e1 : ev l x = some (.agg vs)) (hvs : vs.toList = e z)
    (h : ∀ v w', v.oneCell' = true → Holds w' (arrN T sz e v [z] :: L) → O P ro N ops os Q ((d, v) :: l) ds w')
    (H : Holds w L := by assumption) (he : (e z).length = sz := by rfl) (hsz : Nat.blt 0 sz = true := by rfl) (hsz2 : Nat.ble sz 1000 = true := by rfl) (hzc : zv.cells.size = sz := by rfl) (hd : Nat.blt d N = true := by rfl) :
    O P ro N ops (⟨some d, .buildSlice t 1 #[(0, x)], ty, pos, af, none⟩ :: os) Q l ds w := by
  have hvs' : vs.size = sz := by rw [← he, ← hvs, Array.length_toList]
  have h0 : sz ≠ 0 := by have : 0 < sz := by simpa using hsz
                         omega
  have h1 : sz ≤ 1000 := by simpa using hsz2
  refine O.val (w' := { w with heap := w.heap.push (.cells vs T) }) (v := .slice (some ⟨w.heap.size, 0, none⟩) 1 1) nofun (by simpa using hd) (fun a ha => ?_) (h _ _ rfl ?_)
  · have hn : ¬ (16777216 < sz) := by omega
    have hf : ∀ cs : Array Value, cs.size = sz → vs.zipIdx.foldl (fun cs (p : Value × Nat) => cs.setIfInBounds p.2 p.1) cs 0 sz = vs := by
      intro cs hcs
      rw [show sz = vs.zipIdx.size from by simp [hvs'], ← Array.foldl_toList, Array.toList_zipIdx]
      have := foldl_cells vs.toList 0 cs
      rw [this]
      have h2 := putAt_list vs.toList cs.toList 0 (by simp [hcs, hvs'])
      rw [show cs.toList.toArray = cs from by simp] at h2
      rw [h2]
      apply Array.ext'
      simp [hcs, hvs']
    simp [execOp, Instr.buildSlice, hu w, hs w, hz w, Instr.fill, ha.eval e1, cells_agg, hvs', newRow, h0, hn]
    rw [hf _ (by simp)]
  · exact arrN_mk (e := e) (sz := sz) (xs := [z]) (rest := []) (cap := 1) (by simp) (by simp) (by
      have := H.alloc (.cells vs T)
      simpa [← hvs] using this)
end
end Go.Rr
