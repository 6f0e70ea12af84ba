/- Arrays in variables: a row of cells behind a head; a square of 24 times 24 numbers. No program in sight. -/
import Derived.Test.YtakmbbgnnbpkoaaRrCap
import Derived.Test.YtakmbbgnnbpkoaaRrIn
namespace Go.Rr
set_option linter.unusedVariables false
/-- A head's cells, and n cells behind them. -/
def vcs (hd : List Value) (n : Nat) (g : Nat → Value) : Array Value := (hd ++ (List.range n).map g).toArray
section
variable {hd hd' : List Value} {n k : Nat} {g g' : Nat → Value} {v : Value}
theorem vcs_size : (vcs hd n g).size = hd.length + n := by simp [vcs]
theorem vcs_get (h : k < n) : (vcs hd n g)[hd.length + k]? = some (g k) := by
  simp only [vcs, List.getElem?_toArray]
  rw [List.getElem?_append_right (by omega), show hd.length + k - hd.length = k from by omega]
  simp [h]
theorem vcs_congr (h : ∀ i, i < n → g i = g' i) : vcs hd n g = vcs hd n g' := by
  unfold vcs
  congr 2
  apply List.map_congr_left
  intro a ha
  exact h a (List.mem_range.1 ha)
theorem vcs_set (h : k < n) : (vcs hd n g).setIfInBounds (hd.length + k) v = vcs hd n (fun i => if i = k then v else g i) := by
  apply Array.ext'
  simp only [vcs, List.setIfInBounds_toArray]
  rw [List.set_append_right _ _ (by omega), show hd.length + k - hd.length = k from by omega]
  congr 1
  apply List.ext_getElem
  · simp
  · intro i h1 h2
    simp only [List.getElem_set, List.getElem_map, List.getElem_range]
    by_cases e : i = k
    · subst e; simp
    · rw [if_neg (Ne.symm e), if_neg e]
theorem vcs_all : (vcs hd n g).extract 0 (0 + (hd.length + n)) = vcs hd n g := by
  apply Array.ext'
  simp only [vcs, Array.toList_extract, List.extract_eq_take_drop]
  simp only [List.drop_zero]
  exact List.take_of_length_le (by simp)
theorem vcs_tail : (vcs hd n g).extract hd.length (hd.length + n) = vcs [] n g := by
  apply Array.ext'
  simp only [vcs, Array.toList_extract, List.extract_eq_take_drop]
  rw [List.drop_left, List.nil_append]
  exact List.take_of_length_le (by simp)
theorem vcs_put (c : Array Value) (h : c.size = hd.length + n) : putAt c 0 (vcs hd n g).toList = vcs hd n g := by
  have := putAt_list (vcs hd n g).toList c.toList 0 (by simp [vcs_size, h])
  rw [Array.toArray_toList] at this
  rw [this]
  apply Array.ext'
  simp only [List.take_zero, List.nil_append]
  rw [List.drop_eq_nil_of_le (by simp [vcs_size, h]), List.append_nil]
theorem vcs_row {m : Nat} {vs : List Value} (hm : vs = List.replicate m v) (h : k + m ≤ n) : putAt (vcs hd n g) (hd.length + k) vs = vcs hd n (fun i => if k ≤ i ∧ i < k + m then v else g i) := by
  subst hm
  have := putAt_list (List.replicate m v) (vcs hd n g).toList (hd.length + k) (by simp [vcs_size]; omega)
  rw [Array.toArray_toList] at this
  rw [this]
  apply Array.ext'
  apply List.ext_getElem
  · simp [vcs]; omega
  · intro i h1 h2
    simp only [vcs, List.getElem_append, List.getElem_take, List.getElem_drop, List.getElem_replicate, List.getElem_map, List.getElem_range, List.length_append, List.length_take, List.length_replicate, List.length_map, List.length_range]
    simp only [vcs, List.length_append, List.length_map, List.length_range] at h2
    by_cases c1 : i < hd.length
    · rw [dif_pos (by omega), dif_pos (by omega), dif_pos c1, dif_pos c1]
    · by_cases c2 : i < hd.length + k
      · rw [dif_pos (by omega), dif_pos (by omega), dif_neg c1, dif_neg c1, if_neg (by omega)]
      · by_cases c3 : i < hd.length + k + m
        · rw [dif_pos (by omega), dif_neg (by omega), dif_neg c1, if_pos (by omega)]
        · rw [dif_neg (by omega), dif_neg (by omega), dif_neg c1, if_neg (by omega)]
          congr 1; omega
end
/-- So a block's cells are: not unfolded where it is compared. -/
inductive IsV (c : Array Value) (hd : List Value) (n : Nat) (g : Nat → Value) : Prop
  | mk : c = vcs hd n g → IsV c hd n g
def vec {α : Type} (b T : Nat) (hd : List Value) (n : Nat) (e : α → Value) (f : Nat → α) : HProp := hex fun c => star [pt b (.cells c T (0, 0)), hp (IsV c hd n fun i => e (f i))]
def sq (d : Int → Int → Int) : Nat → Value := fun i => .int .i64 (d ((i / 24 : Nat) : Int) ((i % 24 : Nat) : Int))
/-- A square of numbers, behind a head. -/
def mtx (b T : Nat) (hd : List Value) (d : Int → Int → Int) : HProp := hex fun c => star [pt b (.cells c T (0, 0)), hp (IsV c hd 576 (sq d))]
def mval (hd : List Value) (d : Int → Int → Int) : Value := .agg (vcs hd 576 (sq d))
def upd2 (d : Int → Int → Int) (u w z : Int) : Int → Int → Int := fun a b => if a = u ∧ b = w then z else d a b
section
variable {P : Program} {ro : Option Nat} {N : Nat} {Q : Q0} {l : Regs} {ds : List Deferred} {w w' : World} {ops : Array Oper} {os : List Oper}
variable {d : Tmp} {ty : TypeId} {pos : String} {af : Array Edge} {x y : Operand} {t T yt : TypeId} {α : Type} {e : α → Value} {v : Value} {L : List HProp} {m n : Int} {k : IntKind} {hd hd' : List Value} {D D' : Int → Int → Int} {f : Nat → α}
theorem mtx_pt {b : Nat} : Holds w (mtx b T hd D :: L) ↔ Holds w (pt b (.cells (vcs hd 576 (sq D)) T (0, 0)) :: L) := by
  unfold mtx
  simp only [Holds.hex, Holds.star, List.cons_append, List.nil_append]
  constructor
  · rintro ⟨c, h⟩
    obtain ⟨⟨e⟩, h⟩ := Holds.hp.1 h.swap
    exact e ▸ h
  · exact fun h => ⟨_, (Holds.hp.2 ⟨⟨rfl⟩, h⟩).swap⟩
theorem vec_pt {b q : Nat} : Holds w (vec b T hd q e f :: L) ↔ Holds w (pt b (.cells (vcs hd q fun i => e (f i)) T (0, 0)) :: L) := by
  unfold vec
  simp only [Holds.hex, Holds.star, List.cons_append, List.nil_append]
  constructor
  · rintro ⟨c, h⟩
    obtain ⟨⟨e⟩, h⟩ := Holds.hp.1 h.swap
    exact e ▸ h
  · exact fun h => ⟨_, (Holds.hp.2 ⟨⟨rfl⟩, h⟩).swap⟩
theorem mtx_congr {b : Nat} (h : ∀ u v : Int, 0 ≤ u → u < 24 → 0 ≤ v → v < 24 → D u v = D' u v) : mtx b T hd D = mtx b T hd D' := by
  have e : ∀ c, IsV c hd 576 (sq D) ↔ IsV c hd 576 (sq D') := fun c => by
    have hv : vcs hd 576 (sq D) = vcs hd 576 (sq D') := vcs_congr fun i hi => by
      unfold sq
      rw [h _ _ (by omega) (by omega) (by omega) (by omega)]
    exact ⟨fun ⟨e⟩ => ⟨e.trans hv⟩, fun ⟨e⟩ => ⟨e.trans hv.symm⟩⟩
  unfold mtx
  congr 1
  funext c
  rw [propext (e c)]
theorem mval_congr (h : ∀ u v : Int, 0 ≤ u → u < 24 → 0 ≤ v → v < 24 → D u v = D' u v) : mval hd D = mval hd D' := by
  unfold mval
  rw [vcs_congr (g' := sq D')]
  intro i hi
  unfold sq
  rw [h _ _ (by omega) (by omega) (by omega) (by omega)]
theorem mtx_get {b c : Nat} {u v : Int} (H : Holds w (mtx b T hd D :: L)) (hc : c = hd.length) (h0 : 0 ≤ u) (h1 : u < 24) (h2 : 0 ≤ v) (h3 : v < 24) : w.cell? ⟨b, c + u.toNat * 24 + v.toNat * 1, none⟩ = some (.int .i64 (D u v)) := by
  refine Holds.cell (mtx_pt.1 H) ?_
  subst hc
  rw [show hd.length + u.toNat * 24 + v.toNat * 1 = hd.length + (u.toNat * 24 + v.toNat) from by omega, vcs_get (by omega)]
  unfold sq
  rw [show (((u.toNat * 24 + v.toNat) / 24 : Nat) : Int) = u from by omega, show (((u.toNat * 24 + v.toNat) % 24 : Nat) : Int) = v from by omega]
theorem Ex.loadM {b c : Nat} {u v : Int} (ht : AggIs P t false) (e1 : ev l x = some (.pointer (some ⟨b, c + u.toNat * 24 + v.toNat * 1, none⟩)))
    (H : Holds w (mtx b T hd D :: L) := by first
      | assumption
      | exact Holds.f1 (by assumption)
      | exact Holds.f2 (by assumption)
      | exact Holds.f3 (by assumption)
      | exact Holds.f4 (by assumption)
      | exact Holds.f5 (by assumption)
      | exact Holds.f6 (by assumption)
      | exact Holds.f7 (by assumption)
      | exact Holds.f8 (by assumption)
      | exact Holds.f9 (by assumption)) (hc : c = hd.length := by rfl) (h0 : 0 ≤ u := by first | assumption | omega) (h1 : u < 24 := by first | assumption | omega) (h2 : 0 ≤ v := by first | assumption | omega) (h3 : v < 24 := by first | assumption | omega) :
    Ex P N l (.load t x) ty w (.int .i64 (D u v)) w := Ex.load ht e1 (mtx_get H hc h0 h1 h2 h3)
theorem O.storeM {b c : Nat} {u v z : Int} (hs : SizeIs P t 1) (e1 : ev l x = some (.pointer (some ⟨b, c + u.toNat * 24 + v.toNat * 1, none⟩))) (e2 : ev l y = some (.int .i64 z))
    (h : ∀ w', Holds w' (mtx b T hd (upd2 D u v z) :: L) → O P ro N ops os Q l ds w')
    (H : Holds w (mtx b T hd D :: L) := by first
      | assumption
      | exact Holds.f1 (by assumption)
      | exact Holds.f2 (by assumption)
      | exact Holds.f3 (by assumption)
      | exact Holds.f4 (by assumption)
      | exact Holds.f5 (by assumption)
      | exact Holds.f6 (by assumption)
      | exact Holds.f7 (by assumption)
      | exact Holds.f8 (by assumption)
      | exact Holds.f9 (by assumption)) (hc : c = hd.length := by rfl) (h0 : 0 ≤ u := by first | assumption | omega) (h1 : u < 24 := by first | assumption | omega) (h2 : 0 ≤ v := by first | assumption | omega) (h3 : v < 24 := by first | assumption | omega) :
    O P ro N ops (⟨none, .store t x y, ty, pos, af, none⟩ :: os) Q l ds w := by
  subst hc
  refine O.store hs e1 e2 rfl (mtx_pt.1 H) (by rw [vcs_size]; omega) fun w' H' => h w' (mtx_pt.2 ?_)
  rw [show hd.length + u.toNat * 24 + v.toNat * 1 = hd.length + (u.toNat * 24 + v.toNat) from by omega, vcs_set (by omega), vcs_congr (g' := sq (upd2 D u v z))] at H'
  · exact H'
  · intro i hi
    unfold sq upd2
    by_cases e : i = u.toNat * 24 + v.toNat
    · rw [if_pos e, if_pos (by omega)]
    · rw [if_neg e, if_neg (by omega)]
def rowZ (D : Int → Int → Int) (u z : Int) : Int → Int → Int := fun a b => if a = u then z else D a b
theorem O.storeMrow {b c : Nat} {u : Int} {vs : Array Value} (z : Int) (hs : SizeIs P t 24) (e1 : ev l x = some (.pointer (some ⟨b, c + u.toNat * 24, none⟩))) (e2 : ev l y = some (.agg vs)) (hv : vs = (List.replicate 24 (Value.int .i64 z)).toArray)
    (h : ∀ w', Holds w' (mtx b T hd (rowZ D u z) :: L) → O P ro N ops os Q l ds w')
    (H : Holds w (mtx b T hd D :: L) := by exact Holds.to (by assumption)) (hc : c = hd.length := by rfl) (h0 : 0 ≤ u := by first | assumption | omega) (h1 : u < 24 := by first | assumption | omega) :
    O P ro N ops (⟨none, .store t x y, ty, pos, af, none⟩ :: os) Q l ds w := by
  subst hc hv
  refine O.storeAgg hs (by simp) e1 e2 (by intro v hv; have e := List.eq_of_mem_replicate (show v ∈ List.replicate 24 (Value.int .i64 z) by simpa using hv); subst e; rfl) (mtx_pt.1 H) (by rw [vcs_size]; omega) fun w' H' => h w' (mtx_pt.2 ?_)
  rw [vcs_row (m := 24) (v := .int .i64 z) (by simp) (by omega), vcs_congr (g' := sq (rowZ D u z))] at H'
  · exact H'
  · intro i hi
    unfold sq rowZ
    by_cases e : u.toNat * 24 ≤ i ∧ i < u.toNat * 24 + 24
    · rw [if_pos e, if_pos (by omega)]
    · rw [if_neg e, if_neg (by omega)]
theorem vcs_cells (hh : ∀ v ∈ hd, v.oneCell' = true) : ∀ v ∈ (vcs hd 576 (sq D)).toList, v.oneCell' = true := by
  intro v hv
  simp only [vcs, List.mem_append, List.mem_map, List.mem_range] at hv
  rcases hv with hv | ⟨i, _, rfl⟩
  · exact hh v hv
  · rfl
/-- The square itself, or all with its head. -/
theorem Ex.loadMall {b s : Nat} (ht : AggIs P t true) (hz : SizeIs P t s) (hs : s = hd.length + 576) (e1 : ev l x = some (.pointer (some ⟨b, 0, none⟩))) (H : Holds w (mtx b T hd D :: L) := by exact Holds.to (by assumption)) : Ex P N l (.load t x) ty w (mval hd D) w := by
  have := Ex.loadAggP (N := N) (ty := ty) ht hz e1 (mtx_pt.1 H) (by subst hs; rw [vcs_size]; simp)
  subst hs
  rw [vcs_all] at this
  exact this
theorem Ex.loadMsq {b c : Nat} (ht : AggIs P t true) (hz : SizeIs P t 576) (e1 : ev l x = some (.pointer (some ⟨b, c, none⟩))) (hc : c = hd.length := by rfl) (H : Holds w (mtx b T hd D :: L) := by exact Holds.to (by assumption)) : Ex P N l (.load t x) ty w (mval [] D) w := by
  subst hc
  have := Ex.loadAggP (N := N) (ty := ty) ht hz e1 (mtx_pt.1 H) (by rw [vcs_size]; simp)
  rw [vcs_tail] at this
  exact this
theorem O.storeMall {b s : Nat} (hz : SizeIs P t s) (hs : s = hd.length + 576) (e1 : ev l x = some (.pointer (some ⟨b, 0, none⟩))) (e2 : ev l y = some (mval hd' D')) (hl : hd'.length = hd.length) (hh : hd'.all Value.oneCell' = true)
    (h : ∀ w', Holds w' (mtx b T hd' D' :: L) → O P ro N ops os Q l ds w') (H : Holds w (mtx b T hd D :: L) := by exact Holds.to (by assumption)) :
    O P ro N ops (⟨none, .store t x y, ty, pos, af, none⟩ :: os) Q l ds w := by
  subst hs
  refine O.storeAgg hz (by rw [vcs_size, hl]) e1 e2 (vcs_cells (fun v hv => List.all_eq_true.1 hh v hv)) (mtx_pt.1 H) (by rw [vcs_size]; omega) fun w' H' => h w' (mtx_pt.2 ?_)
  rw [vcs_put _ (by rw [vcs_size, hl])] at H'
  exact H'
theorem O.allocM {E : TypeId} (hd : List Value) (hz : ZeroIs P E (mval hd fun _ _ => 0)) (h : ∀ bl w', Holds w' (mtx bl E hd (fun _ _ => 0) :: L) → O P ro N ops os Q ((d, .pointer (some ⟨bl, 0, none⟩)) :: l) ds w')
    (H : Holds w L := by assumption) (hd : Nat.blt d N = true := by rfl) : O P ro N ops (⟨some d, .alloc E, ty, pos, af, none⟩ :: os) Q l ds w := O.alloc hz hd H fun bl w' H' => h bl w' (mtx_pt.2 H')
theorem O.boxM {E : TypeId} (e1 : ev l x = some (mval hd D)) (h : ∀ bl w', Holds w' (mtx bl E hd D :: L) → O P ro N ops os Q ((d, .pointer (some ⟨bl, 0, none⟩)) :: l) ds w')
    (H : Holds w L := by assumption) (hdd : Nat.blt d N = true := by rfl) : O P ro N ops (⟨some d, .box E x, ty, pos, af, none⟩ :: os) Q l ds w := O.box e1 hdd H fun bl w' H' => h bl w' (mtx_pt.2 H')
/-- &S{n: v}, its square zero. -/
theorem Ex.buildM {fs : Array Field} {u z : Value} (hu : UndIs P t (.struct fs)) (hz : ZeroIs P t (mval [z] fun _ _ => 0)) (hsz : ∀ w, (fs.mapM fun (f : Field) => (do pure (f.offset, ← sizeOf f.type) : Sem (Nat × Nat))).run P w = .ok #[(0, 1), (1, 576)] w) (e1 : ev l x = some u) (h1 : u.oneCell' = true) :
    Ex P N l (.build t #[(0, x)]) ty w (mval [u] fun _ _ => 0) w :=
  ⟨nofun, fun _ _ _ r hr => by
    have hc : u.cells = #[u] := cells_one h1
    have hcs : (mval [z] fun _ _ => 0).cells = vcs [z] 576 (sq fun _ _ => 0) := rfl
    simp only [execOp, List.map_toArray, List.map_cons, List.map_nil, hr.eval e1, Instr.build, Sem.run_bind, hz w, Result.andThen_ok, hu w, hsz w, hcs]
    have : Instr.fill (fun x => (#[(0, 1), (1, 576)] : Array (Nat × Nat))[x]?) (vcs [z] 576 (sq fun _ _ => 0)) [(0, u)] = some (vcs [u] 576 (sq fun _ _ => 0)) := by
      simp only [Instr.fill, hc, vcs_size]
      simp
      unfold vcs
      generalize List.map (sq fun _ _ => 0) (List.range 576) = q
      rw [List.setIfInBounds_toArray]
      rfl
    simp only [this]
    rfl⟩
theorem loadVar_mtx {b : Nat} (ht : AggIs P t true) (hz : SizeIs P t 576) (H : Holds w (mtx b T [] D :: L) := by exact Holds.to (by assumption)) : (loadVar t ⟨b, 0, none⟩).run P w = .ok (mval [] D) w := by
  have := loadVar_agg (off := 0) ht hz (mtx_pt.1 H) (by rw [vcs_size]; simp)
  rw [show (0 : Nat) + 576 = 0 + (([] : List Value).length + 576) from rfl, vcs_all] at this
  exact this
/-! ### A row of cells in a variable -/
theorem vec_get {b c q : Nat} (H : Holds w (vec b T hd q e f :: L)) {i : Int} (hc : c = hd.length) (h0 : 0 ≤ i) (h1 : i < q) : w.cell? ⟨b, c + i.toNat * 1, none⟩ = some (e (f i.toNat)) := by
  refine Holds.cell (vec_pt.1 H) ?_
  subst hc
  rw [Nat.mul_one, vcs_get (by omega)]
theorem Ex.loadVc {b c q : Nat} {i : Int} (ht : AggIs P t false) (e1 : ev l x = some (.pointer (some ⟨b, c + i.toNat * 1, none⟩)))
    (H : Holds w (vec b T hd q e f :: L) := by first
      | assumption
      | exact Holds.f1 (by assumption)
      | exact Holds.f2 (by assumption)
      | exact Holds.f3 (by assumption)
      | exact Holds.f4 (by assumption)
      | exact Holds.f5 (by assumption)
      | exact Holds.f6 (by assumption)
      | exact Holds.f7 (by assumption)
      | exact Holds.f8 (by assumption)
      | exact Holds.f9 (by assumption)) (hc : c = hd.length := by rfl) (h0 : 0 ≤ i := by first | assumption | omega) (h1 : i < q := by first | assumption | omega) :
    Ex P N l (.load t x) ty w (e (f i.toNat)) w := Ex.load ht e1 (vec_get H hc h0 h1)
theorem Ex.loadMh {b q : Nat} {u : Value} (ht : AggIs P t false) (e1 : ev l x = some (.pointer (some ⟨b, q, none⟩)))
    (H : Holds w (mtx b T hd D :: L) := by first
      | assumption
      | exact Holds.f1 (by assumption)
      | exact Holds.f2 (by assumption)
      | exact Holds.f3 (by assumption)
      | exact Holds.f4 (by assumption)
      | exact Holds.f5 (by assumption)
      | exact Holds.f6 (by assumption)
      | exact Holds.f7 (by assumption)
      | exact Holds.f8 (by assumption)
      | exact Holds.f9 (by assumption)) (hu : hd[q]? = some u := by rfl) : Ex P N l (.load t x) ty w u w := by
  refine Ex.load ht e1 (Holds.cell (mtx_pt.1 H) ?_)
  have hq : q < hd.length := (List.getElem?_eq_some_iff.1 hu).1
  simp only [vcs, List.getElem?_toArray]
  rw [List.getElem?_append_left hq, hu]
/-- A cell of a variable, however far down it stands. -/
theorem Ex.loadQ {b q : Nat} {c : Array Value} {fr : Nat × Nat} {u : Value} (ht : AggIs P t false) (e1 : ev l x = some (.pointer (some ⟨b, q, none⟩))) (H : Holds w (pt b (.cells c T fr) :: L) := by exact Holds.to (by assumption)) (hu : c[q]? = some u := by rfl) : Ex P N l (.load t x) ty w u w :=
  Ex.load ht e1 (Holds.cell H hu)
def upd1 (f : Nat → α) (k : Nat) (z : α) : Nat → α := fun i => if i = k then z else f i
theorem O.storeVc {b c q : Nat} {i : Int} {z : α} (hs : SizeIs P t 1) (e1 : ev l x = some (.pointer (some ⟨b, c + i.toNat * 1, none⟩))) (e2 : ev l y = some (e z))
    (h : ∀ w', Holds w' (vec b T hd q e (upd1 f i.toNat z) :: L) → O P ro N ops os Q l ds w')
    (H : Holds w (vec b T hd q e f :: L) := by first
      | assumption
      | exact Holds.f1 (by assumption)
      | exact Holds.f2 (by assumption)
      | exact Holds.f3 (by assumption)
      | exact Holds.f4 (by assumption)
      | exact Holds.f5 (by assumption)
      | exact Holds.f6 (by assumption)
      | exact Holds.f7 (by assumption)
      | exact Holds.f8 (by assumption)
      | exact Holds.f9 (by assumption)) (hv : (e z).oneCell' = true := by rfl) (hc : c = hd.length := by rfl) (h0 : 0 ≤ i := by first | assumption | omega) (h1 : i < q := by first | assumption | omega) :
    O P ro N ops (⟨none, .store t x y, ty, pos, af, none⟩ :: os) Q l ds w := by
  subst hc
  refine O.store hs e1 e2 hv (vec_pt.1 H) (by rw [vcs_size]; omega) fun w' H' => h w' (vec_pt.2 ?_)
  rw [Nat.mul_one, vcs_set (by omega), vcs_congr (g' := fun j => e (upd1 f i.toNat z j))] at H'
  · exact H'
  · intro j _
    unfold upd1
    split <;> rfl
end
end Go.Rr
