/- The rules once more, their side conditions found by themselves. No program in sight. -/
import Derived.Test.YtakmbbgnnbpkoaaRrArr
namespace Go.Rr
set_option linter.unusedVariables false
section
variable {P : Program} {ro : Option Nat} {N : Nat} {Q : Q0} {l : Regs} {ds : List Deferred} {w w' : World} {ops : Array Oper} {os : List Oper}
variable {d : Tmp} {ty : TypeId} {pos : String} {af : Array Edge} {x y : Operand} {t T yt : TypeId} {α : Type} {e : α → Value} {v : Value} {xs : List α} {L : List HProp} {m n : Int} {k : IntKind}

theorem Ex.addI (e1 : ev l x = some (.int .i64 m)) (e2 : ev l y = some (.int .i64 n)) (h1 : -9223372036854775808 ≤ m + n := by omega) (h2 : m + n ≤ 9223372036854775807 := by omega) : Ex P N l (.binOp .add t x y yt) ty w (.int .i64 (m + n)) w := Ex.add e1 e2 (IntWalk.i64_in _ ⟨h1, h2⟩)
theorem Ex.subI (e1 : ev l x = some (.int .i64 m)) (e2 : ev l y = some (.int .i64 n)) (h1 : -9223372036854775808 ≤ m - n := by omega) (h2 : m - n ≤ 9223372036854775807 := by omega) : Ex P N l (.binOp .sub t x y yt) ty w (.int .i64 (m - n)) w := Ex.sub e1 e2 (IntWalk.i64_in _ ⟨h1, h2⟩)
theorem Ex.remI (e1 : ev l x = some (.int k m)) (e2 : ev l y = some (.int k n)) (h1 : 0 ≤ m := by omega) (h2 : 0 < n := by omega) : Ex P N l (.binOp .rem t x y yt) ty w (.int k (m % n)) w := Ex.rem e1 e2 (by omega) (Int.tmod_eq_emod_of_nonneg h1)
theorem Ex.quoI (e1 : ev l x = some (.int .i64 m)) (e2 : ev l y = some (.int .i64 n)) (h1 : 0 ≤ m := by omega) (h2 : 0 < n := by omega) (h3 : m ≤ 9223372036854775807 := by omega) : Ex P N l (.binOp .quo t x y yt) ty w (.int .i64 (m / n)) w :=
  Ex.quo e1 e2 (by omega) (IntWalk.i64_quo _ _ ⟨h1, h3, by omega⟩)
theorem Ex.convW {s dt : TypeId} {k' : IntKind} {sd : TypeDesc} (hs : UndIs P s sd) (hu : UndIs P dt (.int k')) (e1 : ev l x = some (.int k m)) : Ex P N l (.convert s dt x) ty w (.int k' (k'.wrap m)) w := Ex.convI hs hu e1 rfl
theorem Ex.convToI {s dt : TypeId} {sd : TypeDesc} (hs : UndIs P s sd) (hu : UndIs P dt (.int .i64)) (e1 : ev l x = some (.int k m)) (h1 : -9223372036854775808 ≤ m := by omega) (h2 : m ≤ 9223372036854775807 := by omega) : Ex P N l (.convert s dt x) ty w (.int .i64 m) w := Ex.convI hs hu e1 (IntWalk.i64_in _ ⟨h1, h2⟩)

/-- A cell, out of what is told of this world. -/
theorem Ex.loadP {p : Addr} {u : Value} (ht : AggIs P t false) (e1 : ev l x = some (.pointer (some p)))
    (hc : w.cell? p = some u := by first
      | exact Holds.cell (by assumption) rfl
      | exact Holds.cell (Holds.f1 (by assumption)) rfl
      | exact Holds.cell (Holds.f2 (by assumption)) rfl
      | exact Holds.cell (Holds.f3 (by assumption)) rfl
      | exact Holds.cell (Holds.f4 (by assumption)) rfl
      | exact Holds.cell (Holds.f5 (by assumption)) rfl
      | exact Holds.cell (Holds.f6 (by assumption)) rfl
      | exact Holds.cell (Holds.f7 (by assumption)) rfl
      | exact Holds.cell (Holds.f8 (by assumption)) rfl
      | exact Holds.cell (Holds.f9 (by assumption)) rfl) : Ex P N l (.load t x) ty w u w := Ex.load ht e1 hc
theorem Ex.loadR [Inhabited α] {i : Nat} (ht : AggIs P t false) (e1 : ev l x = some (.pointer (some (aAt v i))))
    (H : Holds w (arr T e v xs :: L) := by first
      | assumption
      | exact Holds.f1 (by assumption)
      | exact Holds.f2 (by assumption)
      | exact Holds.f3 (by assumption)
      | exact Holds.f4 (by assumption)
      | exact Holds.f5 (by assumption)
      | exact Holds.f6 (by assumption)
      | exact Holds.f7 (by assumption)
      | exact Holds.f8 (by assumption)
      | exact Holds.f9 (by assumption))
    (h : i < xs.length := by first | assumption | omega) : Ex P N l (.load t x) ty w (e (xs.getD i default)) w := Ex.loadA ht e1 H h
theorem Ex.idxR {E : Nat} {i : Int} (hu : UndIs P t (.slice E)) (hs : SizeIs P E 1) (e1 : ev l x = some v) (e2 : ev l y = some (.int k i))
    (H : Holds w (arr T e v xs :: L) := by first
      | assumption
      | exact Holds.f1 (by assumption)
      | exact Holds.f2 (by assumption)
      | exact Holds.f3 (by assumption)
      | exact Holds.f4 (by assumption)
      | exact Holds.f5 (by assumption)
      | exact Holds.f6 (by assumption)
      | exact Holds.f7 (by assumption)
      | exact Holds.f8 (by assumption)
      | exact Holds.f9 (by assumption))
    (h0 : 0 ≤ i := by first | assumption | omega) (h1 : i < xs.length := by first | assumption | omega) : Ex P N l (.indexAddr t x y) ty w (.pointer (some (aAt v i.toNat))) w := Ex.idxA hu hs e1 e2 H h0 h1
theorem Ex.lenR {ats : Array TypeId} {E : TypeId} (hu : UndIs P t (.slice E)) (e1 : ev l x = some v) (ht : ats[0]? = some t := by rfl)
    (H : Holds w (arr T e v xs :: L) := by first
      | assumption
      | exact Holds.f1 (by assumption)
      | exact Holds.f2 (by assumption)
      | exact Holds.f3 (by assumption)
      | exact Holds.f4 (by assumption)
      | exact Holds.f5 (by assumption)
      | exact Holds.f6 (by assumption)
      | exact Holds.f7 (by assumption)
      | exact Holds.f8 (by assumption)
      | exact Holds.f9 (by assumption)) : Ex P N l (.call ⟨.builtin .len, #[x], ats⟩) ty w (.int .i64 xs.length) w := Ex.lenA ht hu e1 H
theorem O.storeP {bl off : Nat} {c : Array Value} {u : Value} (hs : SizeIs P t 1) (e1 : ev l x = some (.pointer (some ⟨bl, off, none⟩))) (e2 : ev l y = some u)
    (h : ∀ w', Holds w' (pt bl (.cells (c.setIfInBounds off u) T (0, 0)) :: L) → O P ro N ops os Q l ds w')
    (H : Holds w (pt bl (.cells c T (0, 0)) :: L) := by first
      | assumption
      | exact Holds.f1 (by assumption)
      | exact Holds.f2 (by assumption)
      | exact Holds.f3 (by assumption)
      | exact Holds.f4 (by assumption)
      | exact Holds.f5 (by assumption)
      | exact Holds.f6 (by assumption)
      | exact Holds.f7 (by assumption)
      | exact Holds.f8 (by assumption)
      | exact Holds.f9 (by assumption))
    (hv : u.oneCell' = true := by first | rfl | assumption) (ho : Nat.blt off c.size = true := by rfl) :
    O P ro N ops (⟨none, .store t x y, ty, pos, af, none⟩ :: os) Q l ds w := O.store hs e1 e2 hv H (by simpa using ho) h
theorem O.storeR {i : Nat} {u : Value} {z : α} (hs : SizeIs P t 1) (e1 : ev l x = some (.pointer (some (aAt v i)))) (e2 : ev l y = some u)
    (h : ∀ w', Holds w' (arr T e v (xs.set i z) :: L) → O P ro N ops os Q l ds w')
    (H : Holds w (arr T e v xs :: L) := by first
      | assumption
      | exact Holds.f1 (by assumption)
      | exact Holds.f2 (by assumption)
      | exact Holds.f3 (by assumption)
      | exact Holds.f4 (by assumption)
      | exact Holds.f5 (by assumption)
      | exact Holds.f6 (by assumption)
      | exact Holds.f7 (by assumption)
      | exact Holds.f8 (by assumption)
      | exact Holds.f9 (by assumption))
    (hv : u = e z := by rfl) (hv1 : u.oneCell' = true := by rfl) (hi : i < xs.length := by first | assumption | omega) :
    O P ro N ops (⟨none, .store t x y, ty, pos, af, none⟩ :: os) Q l ds w := O.storeA hs e1 e2 hv hv1 H hi h
theorem O.allocP {z : Value} {E : TypeId} (hz : ZeroIs P E z) (h : ∀ bl w', Holds w' (pt bl (.cells z.cells E (0, 0)) :: L) → O P ro N ops os Q ((d, .pointer (some ⟨bl, 0, none⟩)) :: l) ds w')
    (H : Holds w L := by assumption) (hd : Nat.blt d N = true := by rfl) : O P ro N ops (⟨some d, .alloc E, ty, pos, af, none⟩ :: os) Q l ds w := O.alloc hz hd H h
theorem O.boxP {E : TypeId} {u : Value} (e1 : ev l x = some u) (h : ∀ bl w', Holds w' (pt bl (.cells u.cells E (0, 0)) :: L) → O P ro N ops os Q ((d, .pointer (some ⟨bl, 0, none⟩)) :: l) ds w')
    (H : Holds w L := by assumption) (hd : Nat.blt d N = true := by rfl) : O P ro N ops (⟨some d, .box E x, ty, pos, af, none⟩ :: os) Q l ds w := O.box e1 hd H h
theorem O.makeR {E : TypeId} (z : α) {info : TypeInfo} {bt : Nat} (hu : UndIs P t (.slice E)) (hs : SizeIs P E 1) (hz : ZeroIs P E (e z)) (hI : InfoIs P E info) (hbt : info.bytes = bt) (e1 : ev l x = some (.int .i64 n)) (e2 : ev l y = some (.int .i64 n))
    (h : ∀ v w', v.oneCell' = true → Holds w' (arr E e v (List.replicate n.toNat z) :: L) → O P ro N ops os Q ((d, v) :: l) ds w')
    (H : Holds w L := by assumption) (h0 : 0 ≤ n := by omega) (hb : bt * n ≤ 140737488355328 := by omega) (hn : n ≤ 9223372036854775807 := by omega)
    (hz1 : (e z).oneCell' = true := by rfl) (hd : Nat.blt d N = true := by rfl) : O P ro N ops (⟨some d, .makeSlice t x y, ty, pos, af, none⟩ :: os) Q l ds w := by
  subst hbt
  refine O.makeA hu hs hz hz1 hI e1 e2 h0 hb hn hd H fun v w' H' => h v w' ?_ H'
  obtain ⟨a, c, rfl⟩ := arr_len H'
  rfl
/-- What is told of a pure condition: a contract's answer, in the form that a test wants. -/
theorem Ex.notD {φ : Prop} [Decidable φ] (e1 : ev l x = some (.bool (decide φ))) : Ex P N l (.unOp .not t x) ty w (.bool (decide (¬ φ))) w := Ex.notP e1
end
end Go.Rr
