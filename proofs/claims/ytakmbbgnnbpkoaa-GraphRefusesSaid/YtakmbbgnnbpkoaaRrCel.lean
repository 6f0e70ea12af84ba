/- A block's cells as a function of their places; a row of assertions, one taken out. No program in sight. -/
import Derived.Test.YtakmbbgnnbpkoaaRrIn
namespace Go.Rr
set_option linter.unusedVariables false
/-- n cells. -/
def cs (n : Nat) (f : Nat → Value) : Array Value := ((List.range n).map f).toArray
theorem cs_size (n : Nat) (f : Nat → Value) : (cs n f).size = n := by simp [cs]
theorem cs_get {n : Nat} {f : Nat → Value} {i : Nat} (h : i < n) : (cs n f)[i]? = some (f i) := by simp [cs, h]
theorem cs_congr {n : Nat} {f g : Nat → Value} (h : ∀ i, i < n → f i = g i) : cs n f = cs n g := by
  unfold cs; congr 1; exact List.map_congr_left fun i hi => h i (List.mem_range.1 hi)
theorem cs_ext {n : Nat} {f : Nat → Value} {c : Array Value} (hs : c.size = n) (h : ∀ i, i < n → c[i]? = some (f i)) : c = cs n f := by
  refine Array.ext_getElem? fun i => ?_
  by_cases hi : i < n
  · rw [h i hi, cs_get hi]
  · rw [Array.getElem?_eq_none (by omega), Array.getElem?_eq_none (by rw [cs_size]; omega)]
theorem cs_set {n : Nat} {f : Nat → Value} {q : Nat} {v : Value} (h : q < n) : (cs n f).setIfInBounds q v = cs n (fun i => if i = q then v else f i) := by
  refine cs_ext (by simp [cs_size]) fun i hi => ?_
  rw [Array.getElem?_setIfInBounds]
  by_cases e : q = i
  · subst e; simp [cs_size, h]
  · rw [if_neg e, if_neg (Ne.symm e), cs_get hi]
theorem putAt_get : ∀ (vs : List Value) (c : Array Value) (q i : Nat), q + vs.length ≤ c.size → (putAt c q vs)[i]? = if q ≤ i ∧ i < q + vs.length then vs[i - q]? else c[i]?
  | [], c, q, i, h => by simp only [putAt, List.length_nil, Nat.add_zero]; rw [if_neg (by omega)]
  | v :: vs, c, q, i, h => by
    simp only [List.length_cons] at h
    simp only [putAt]
    rw [putAt_get vs _ (q + 1) i (by simp; omega)]
    simp only [List.length_cons]
    by_cases e : i = q
    · subst e
      have hc : i < c.size := by omega
      rw [if_neg (by omega), if_pos (by omega), Nat.sub_self]
      simp [Array.getElem?_setIfInBounds, hc]
    · by_cases h1 : q + 1 ≤ i ∧ i < q + 1 + vs.length
      · rw [if_pos h1, if_pos (by omega), show i - q = (i - (q + 1)) + 1 by omega]; simp
      · rw [if_neg h1, if_neg (by omega)]
        rw [Array.getElem?_setIfInBounds_ne (Ne.symm e)]
theorem cs_put {n : Nat} {f : Nat → Value} {q : Nat} {vs : List Value} (h : q + vs.length ≤ n) : putAt (cs n f) q vs = cs n (fun i => if q ≤ i ∧ i < q + vs.length then vs.getD (i - q) default else f i) := by
  refine cs_ext (by rw [putAt_size, cs_size]) fun i hi => ?_
  rw [putAt_get _ _ _ _ (by rw [cs_size]; exact h)]
  split
  · rw [List.getElem?_eq_getElem (by omega), List.getD_eq_getElem?_getD, List.getElem?_eq_getElem (by omega)]; rfl
  · exact cs_get hi
def cval (n : Nat) (f : Nat → Value) : Value := .agg (cs n f)
def cel (b T n : Nat) (f : Nat → Value) : HProp := hex fun c => star [pt b (.cells c T (0, 0)), hp (c = cs n f)]
section
variable {P : Program} {ro : Option Nat} {N : Nat} {Q : Q0} {l : Regs} {ds : List Deferred} {w w' : World} {ops : Array Oper} {os : List Oper}
variable {d : Tmp} {ty : TypeId} {pos : String} {af : Array Edge} {x y : Operand} {t T yt : TypeId} {L : List HProp} {k : IntKind} {n : Nat} {f g : Nat → Value}
theorem cel_pt {b : Nat} : Holds w (cel b T n f :: L) ↔ Holds w (pt b (.cells (cs n f) T (0, 0)) :: L) := by
  unfold cel
  simp only [Holds.hex, Holds.star, List.cons_append, List.nil_append]
  constructor
  · rintro ⟨c, H⟩
    obtain ⟨rfl, H⟩ := Holds.hp.1 H.swap
    exact H
  · intro H
    exact ⟨_, Holds.swap (Holds.hp.2 ⟨rfl, H⟩)⟩
theorem cel_congr {b : Nat} (h : ∀ i, i < n → f i = g i) : cel b T n f = cel b T n g := by
  unfold cel; rw [cs_congr h]
theorem cval_congr (h : ∀ i, i < n → f i = g i) : cval n f = cval n g := by unfold cval; rw [cs_congr h]
theorem Holds.celTo {b : Nat} (H : Holds w (cel b T n f :: L)) (h : ∀ i, i < n → f i = g i) : Holds w (cel b T n g :: L) := by rw [← cel_congr h]; exact H
theorem cel_get {b q : Nat} (H : Holds w (cel b T n f :: L)) (h : q < n) : w.cell? ⟨b, q, none⟩ = some (f q) := Holds.cell (cel_pt.1 H) (cs_get h)
theorem Ex.loadC {b q : Nat} {u : Value} (ht : AggIs P t false) (e1 : ev l x = some (.pointer (some ⟨b, q, none⟩))) (H : Holds w (cel b T n f :: L)) (h : q < n) (hu : f q = u) : Ex P N l (.load t x) ty w u w :=
  Ex.load ht e1 (hu ▸ cel_get H h)
theorem Ex.loadAggC {b q m : Nat} (ht : AggIs P t true) (hz : SizeIs P t m) (e1 : ev l x = some (.pointer (some ⟨b, q, none⟩))) (H : Holds w (cel b T n f :: L)) (h : q + m ≤ n) : Ex P N l (.load t x) ty w (cval m fun k => f (q + k)) w := by
  refine Ex.loadAgg (c := cs m fun k => f (q + k)) ht (by rw [cs_size]; exact hz) e1 fun i hi => ?_
  rw [cs_size] at hi
  rw [cs_get hi, add_off]
  exact cel_get H (by omega)
theorem O.storeC {b q : Nat} {v : Value} (hs : SizeIs P t 1) (e1 : ev l x = some (.pointer (some ⟨b, q, none⟩))) (e2 : ev l y = some v) (hv : v.oneCell' = true) (H : Holds w (cel b T n f :: L)) (h : q < n)
    (hk : ∀ w', Holds w' (cel b T n (fun i => if i = q then v else f i) :: L) → O P ro N ops os Q l ds w') : O P ro N ops (⟨none, .store t x y, ty, pos, af, none⟩ :: os) Q l ds w :=
  O.store hs e1 e2 hv (cel_pt.1 H) (by rw [cs_size]; exact h) fun w' H' => hk w' (cel_pt.2 (by rw [cs_set h] at H'; exact H'))
theorem O.storeAggC {b q m : Nat} {vs : Array Value} (hs : SizeIs P t m) (e1 : ev l x = some (.pointer (some ⟨b, q, none⟩))) (e2 : ev l y = some (.agg vs)) (hn : vs.size = m) (hv : ∀ v ∈ vs.toList, v.oneCell' = true) (H : Holds w (cel b T n f :: L)) (h : q + m ≤ n)
    (hk : ∀ w', Holds w' (cel b T n (fun i => if q ≤ i ∧ i < q + m then vs.toList.getD (i - q) default else f i) :: L) → O P ro N ops os Q l ds w') : O P ro N ops (⟨none, .store t x y, ty, pos, af, none⟩ :: os) Q l ds w := by
  subst hn
  refine O.storeAgg hs rfl e1 e2 hv (cel_pt.1 H) (by rw [cs_size]; exact h) fun w' H' => hk w' (cel_pt.2 ?_)
  rw [cs_put (by simpa using h)] at H'
  simpa using H'
/-- All of it, out of a value. -/
theorem O.storeAllC {b : Nat} {g : Nat → Value} (hs : SizeIs P t n) (e1 : ev l x = some (.pointer (some ⟨b, 0, none⟩))) (e2 : ev l y = some (cval n g)) (hv : ∀ i, i < n → (g i).oneCell' = true) (H : Holds w (cel b T n f :: L))
    (hk : ∀ w', Holds w' (cel b T n g :: L) → O P ro N ops os Q l ds w') : O P ro N ops (⟨none, .store t x y, ty, pos, af, none⟩ :: os) Q l ds w := by
  refine O.storeAggC hs e1 e2 (cs_size _ _) (fun v hm => ?_) H (by omega) fun w' H' => hk w' (H'.celTo fun i hi => ?_)
  · unfold cs at hm
    obtain ⟨i, hi, rfl⟩ := List.mem_map.1 hm
    exact hv i (List.mem_range.1 hi)
  · rw [if_pos (by omega), Nat.sub_zero]
    unfold cs
    rw [List.getD_eq_getElem?_getD, List.getElem?_map, List.getElem?_range hi]; rfl
theorem O.allocC {z : Value} {e : TypeId} (hz : ZeroIs P e z) (hc : z.cells = cs n f) (h : ∀ bl w', Holds w' (cel bl e n f :: L) → O P ro N ops os Q ((d, .pointer (some ⟨bl, 0, none⟩)) :: l) ds w') (H : Holds w L := by assumption) (hd : Nat.blt d N = true := by rfl) :
    O P ro N ops (⟨some d, .alloc e, ty, pos, af, none⟩ :: os) Q l ds w :=
  O.alloc hz hd H fun bl w' H' => h bl w' (cel_pt.2 (hc ▸ H'))
theorem O.boxC {e : TypeId} (e1 : ev l x = some (cval n f)) (h : ∀ bl w', Holds w' (cel bl e n f :: L) → O P ro N ops os Q ((d, .pointer (some ⟨bl, 0, none⟩)) :: l) ds w') (H : Holds w L := by assumption) (hd : Nat.blt d N = true := by rfl) :
    O P ro N ops (⟨some d, .box e x, ty, pos, af, none⟩ :: os) Q l ds w :=
  O.box e1 hd H fun bl w' H' => h bl w' (cel_pt.2 H')
theorem O.boxAC {e : TypeId} {c : Array Value} (e1 : ev l x = some (.agg c)) (hc : c = cs n f) (h : ∀ bl w', Holds w' (cel bl e n f :: L) → O P ro N ops os Q ((d, .pointer (some ⟨bl, 0, none⟩)) :: l) ds w') (H : Holds w L := by assumption) (hd : Nat.blt d N = true := by rfl) :
    O P ro N ops (⟨some d, .box e x, ty, pos, af, none⟩ :: os) Q l ds w :=
  O.box e1 hd H fun bl w' H' => h bl w' (cel_pt.2 (hc ▸ H'))
/-- A cell of a variable, however far down it stands. -/
theorem O.storeQ {bl off : Nat} {c : Array Value} {v : Value} (hs : SizeIs P t 1) (e1 : ev l x = some (.pointer (some ⟨bl, off, none⟩))) (e2 : ev l y = some v)
    (h : ∀ w', Holds w' (pt bl (.cells (c.setIfInBounds off v) T (0, 0)) :: L) → O P ro N ops os Q l ds w')
    (H : Holds w (pt bl (.cells c T (0, 0)) :: L) := by exact Holds.to (by assumption)) (hv : v.oneCell' = true := by first | rfl | assumption) (hb : Nat.blt off c.size = true := by rfl) : O P ro N ops (⟨none, .store t x y, ty, pos, af, none⟩ :: os) Q l ds w :=
  O.store hs e1 e2 hv H (by simpa using hb) h
theorem fill_one {pls : Nat → Option (Nat × Nat)} {i o : Nat} {v : Value} {rest : List (Nat × Value)} (hp : pls i = some (o, 1)) (hv : v.oneCell' = true) (ho : o < n) :
    Instr.fill pls (cs n f) ((i, v) :: rest) = Instr.fill pls (cs n fun q => if q = o then v else f q) rest := by
  have hc : v.cells = #[v] := cells_one hv
  rw [Instr.fill, hp]
  simp only [hc]
  rw [if_neg (by rw [cs_size]; simp; omega)]
  congr 1
  show (cs n f).setIfInBounds (o + 0) v = _
  rw [Nat.add_zero, cs_set ho]
theorem cs_extract {a m : Nat} (h : a + m ≤ n) : (cs n f).extract a (a + m) = cs m fun k => f (a + k) := by
  refine cs_ext (by rw [Array.size_extract, cs_size]; omega) fun i hi => ?_
  rw [Array.getElem?_extract, if_pos (by rw [cs_size]; omega), cs_get (by omega)]
/-- An element of an array that is not in memory. -/
theorem Ex.indexC {E m q : Nat} {i : Int} (hu : UndIs P t (.array q E)) (ha : AggIs P E true) (hs : SizeIs P E m) (e1 : ev l x = some (cval n f)) (e2 : ev l y = some (.int k i)) (h0 : 0 ≤ i) (h1 : i < q) (h2 : i.toNat * m + m ≤ n) :
    Ex P N l (.index t x y) ty w (cval m fun j => f (i.toNat * m + j)) w :=
  ⟨nofun, fun _ _ _ r hr => by
    have := cs_extract (f := f) h2
    simp only [execOp, hr.eval e1, hr.eval e2, Instr.index, asIntOf, Sem.run_bind, Sem.run_pure, Result.andThen_ok, hu w, cval]
    rw [if_pos ⟨h0, h1⟩]
    simp only [Sem.run_bind, hs w, Result.andThen_ok, part, ha w, if_true, this]
    rfl⟩
/-- A struct, two of its fields given. -/
theorem Ex.buildC2 {fs : Array Field} {i1 i2 o1 o2 : Nat} {u v z : Value} {pls : Array (Nat × Nat)} (hu : UndIs P t (.struct fs)) (hz : ZeroIs P t z) (hzc : z.cells = cs n f) (hsz : ∀ w, (fs.mapM fun (f : Field) => (do pure (f.offset, ← sizeOf f.type) : Sem (Nat × Nat))).run P w = .ok pls w)
    (p1 : pls[i1]? = some (o1, 1)) (p2 : pls[i2]? = some (o2, 1)) (l1 : o1 < n) (l2 : o2 < n) (e1 : ev l x = some u) (e2 : ev l y = some v) (h1 : u.oneCell' = true) (h2 : v.oneCell' = true) :
    Ex P N l (.build t #[(i1, x), (i2, y)]) ty w (cval n fun q => if q = o2 then v else if q = o1 then u else f q) w :=
  ⟨nofun, fun _ _ _ r hr => by
    simp only [execOp, List.map_toArray, List.map_cons, List.map_nil, hr.eval e1, hr.eval e2, Instr.build, Sem.run_bind, hz w, Result.andThen_ok, hu w, hsz w, hzc]
    rw [fill_one p1 h1 l1, fill_one p2 h2 l2]
    rfl⟩
end
/-! ### Many assertions, one taken out -/
def big (f : Nat → HProp) (l : List Nat) : HProp := star (l.map f)
def bigBut (f : Nat → HProp) (l : List Nat) (j : Nat) : HProp := star ((l.filter (· ≠ j)).map f)
theorem sep_cons2 {A B : HProp} {L : List HProp} {r : Rest} {h : Frag} (k : sep (star (A :: L) :: [B]) r h) : sep (A :: star L :: [B]) r h := by
  have := sep_star.1 k
  exact sep_cons (fun f h => sep_star.2 h) this
section
variable {w : World} {L : List HProp} {f g : Nat → HProp} {j : Nat}
theorem big_sep {r : Rest} : ∀ (l : List Nat), j ∈ l → l.Nodup → ∀ h, sep (big f l :: L) r h → sep (f j :: bigBut f l j :: L) r h
  | [], hj, _, h, k => by cases hj
  | a :: l, hj, hn, h, k => by
    have hn' := List.nodup_cons.1 hn
    have k1 : sep (f a :: big f l :: L) r h := sep_cons (fun h k => sep_star.2 k) (sep_star.1 k)
    by_cases e : a = j
    · subst e
      refine sep_cons (fun h k => ?_) k1
      have : bigBut f (a :: l) a = big f l := by
        unfold bigBut big
        rw [List.filter_cons_of_neg (by simp), List.filter_eq_self.2 (fun x hx => by
          have : x ≠ a := fun e => hn'.1 (e ▸ hx)
          simpa using this)]
      rw [this]; exact k
    · have hj' : j ∈ l := by
        rcases List.mem_cons.1 hj with h | h
        · exact absurd h.symm e
        · exact h
      have k2 := sep_swap (sep_cons (fun h k => big_sep l hj' hn'.2 h k) k1)
      have : bigBut f (a :: l) j = star (f a :: (l.filter (· ≠ j)).map f) := by
        unfold bigBut
        rw [List.filter_cons_of_pos (by simpa using e)]; rfl
      rw [this]
      exact sep_cons (fun h k => sep_star.2 (sep_cons (fun h k => sep_star.1 k) k)) k2
theorem big_sep2 {r : Rest} : ∀ (l : List Nat), j ∈ l → l.Nodup → ∀ h, sep (f j :: bigBut f l j :: L) r h → sep (big f l :: L) r h
  | [], hj, _, h, k => by cases hj
  | a :: l, hj, hn, h, k => by
    have hn' := List.nodup_cons.1 hn
    suffices k1 : sep (f a :: big f l :: L) r h from sep_star.2 (sep_cons (fun h k => sep_star.1 k) k1)
    by_cases e : a = j
    · subst e
      refine sep_cons (fun h k => ?_) k
      have : bigBut f (a :: l) a = big f l := by
        unfold bigBut big
        rw [List.filter_cons_of_neg (by simp), List.filter_eq_self.2 (fun x hx => by
          have : x ≠ a := fun e => hn'.1 (e ▸ hx)
          simpa using this)]
      rw [← this]; exact k
    · have hj' : j ∈ l := by
        rcases List.mem_cons.1 hj with h | h
        · exact absurd h.symm e
        · exact h
      have : bigBut f (a :: l) j = star (f a :: (l.filter (· ≠ j)).map f) := by
        unfold bigBut
        rw [List.filter_cons_of_pos (by simpa using e)]; rfl
      rw [this] at k
      have k2 : sep (f j :: f a :: bigBut f l j :: L) r h := sep_cons (fun h k => sep_cons (fun h k => sep_star.2 k) (sep_star.1 k)) k
      exact sep_cons (fun h k => big_sep2 l hj' hn'.2 h k) (sep_swap k2)
theorem big_take {n : Nat} (hj : j < n) (H : Holds w (big f (List.range n) :: L)) : Holds w (f j :: bigBut f (List.range n) j :: L) := big_sep _ (List.mem_range.2 hj) List.nodup_range _ H
theorem big_put {n : Nat} (hj : j < n) (H : Holds w (f j :: bigBut f (List.range n) j :: L)) : Holds w (big f (List.range n) :: L) := big_sep2 _ (List.mem_range.2 hj) List.nodup_range _ H
theorem bigBut_congr {l : List Nat} (h : ∀ k, k ∈ l → k ≠ j → f k = g k) : bigBut f l j = bigBut g l j := by
  unfold bigBut; congr 1
  refine List.map_congr_left fun k hk => ?_
  have := List.mem_filter.1 hk
  exact h k this.1 (by simpa using this.2)
theorem big_congr {l : List Nat} (h : ∀ k, k ∈ l → f k = g k) : big f l = big g l := by
  unfold big; congr 1; exact List.map_congr_left h
theorem big_nil : Holds w (big f (List.range 0) :: L) ↔ Holds w L := by
  unfold big; exact Holds.star
theorem big_succ {n : Nat} (H : Holds w (f n :: big f (List.range n) :: L)) : Holds w (big f (List.range (n + 1)) :: L) := by
  refine big_put (j := n) (by omega) ?_
  have : bigBut f (List.range (n + 1)) n = big f (List.range n) := by
    unfold bigBut big
    rw [List.range_succ, List.filter_append, List.filter_eq_self.2 (fun x hx => by
      have := List.mem_range.1 hx
      simp; omega)]
    simp
  rw [this]; exact H
end
end Go.Rr
