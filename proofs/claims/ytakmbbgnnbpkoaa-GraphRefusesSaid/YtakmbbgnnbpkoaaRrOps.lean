/- One rule for each kind of operation. No program in sight. -/
import Derived.IntWalk
import Derived.Laws.Strings
import Derived.Test.YtakmbbgnnbpkoaaRrWalk
namespace Go.Rr
set_option linter.unusedVariables false

/-- What an operation comes to, in whatever activation that fits what is known, in this world. -/
def Ex (P : Program) (N : Nat) (l : Regs) (op : Op) (ty : TypeId) (w : World) (v : Value) (w' : World) : Prop :=
  (∀ c, op ≠ .defer c) ∧ ∀ dst pos af a, Env N a l → (execOp a.eval ⟨dst, op, ty, pos, af, none⟩).run P w = .ok (.value v) w'
def SizeIs (P : Program) (t n : Nat) : Prop := ∀ w, (sizeOf t).run P w = .ok n w
def AggIs (P : Program) (t : Nat) (b : Bool) : Prop := ∀ w, (isAgg t).run P w = .ok b w
def ZeroIs (P : Program) (t : Nat) (v : Value) : Prop := ∀ w, (zeroValue t).run P w = .ok v w
def UndIs (P : Program) (t : Nat) (d : TypeDesc) : Prop := ∀ w, (underlying t).run P w = .ok d w
def InfoIs (P : Program) (t : Nat) (i : TypeInfo) : Prop := ∀ w, (typeInfo t).run P w = .ok i w
def FieldIs (P : Program) (s f n : Nat) : Prop := ∀ (w : World) (b off : Nat), (Instr.fieldAt s (.pointer (some ⟨b, off, none⟩)) f).run P w = .ok (.pointer (some ⟨b, off + n, none⟩)) w
def BuildIs (P : Program) (t : Nat) (parts : List (Nat × Value)) (v : Value) : Prop := ∀ w, (Instr.build t parts.toArray).run P w = .ok v w

theorem add_off (b off n : Nat) : (Addr.mk b off none).add n = ⟨b, off + n, none⟩ := by
  unfold Addr.add; split
  · rename_i h; subst h; rfl
  · rfl
theorem FieldIs.mk {P : Program} {s f n sz : Nat} {fields : Array Field} {fld : Field} (hu : UndIs P s (.struct fields)) (hf : fields[f]? = some fld) (hs : SizeIs P fld.type sz) (hz : (sz == 0) = false) (hn : fld.offset = n) : FieldIs P s f n := by
  intro w b off
  have hz' : sz ≠ 0 := by simpa using hz
  unfold Instr.fieldAt
  simp [hu w, hf, Instr.sureAddr, fieldPlace, hs w, hz', add_off, hn]

section
variable {P : Program} {ro : Option Nat} {N : Nat} {Q : Q0} {l : Regs} {ds : List Deferred} {w w' : World} {ops : Array Oper} {os : List Oper}
variable {d : Tmp} {ty : TypeId} {pos : String} {af : Array Edge}
theorem O.ex {op : Op} {v : Value} (hx : Ex P N l op ty w v w') (hd : Nat.blt d N = true) (h : O P ro N ops os Q ((d, v) :: l) ds w') : O P ro N ops (⟨some d, op, ty, pos, af, none⟩ :: os) Q l ds w :=
  O.val hx.1 (by simpa using hd) (fun a ha => hx.2 _ _ _ a ha) h
theorem O.ex0 {op : Op} {v : Value} (hx : Ex P N l op ty w v w') (h : O P ro N ops os Q l ds w') : O P ro N ops (⟨none, op, ty, pos, af, none⟩ :: os) Q l ds w :=
  O.val0 hx.1 (fun a ha => hx.2 _ _ _ a ha) h

theorem Ex.move {x : Operand} {v : Value} (e : ev l x = some v) : Ex P N l (.move x) ty w v w :=
  ⟨nofun, fun _ _ _ a ha => by simp [execOp, ha.eval e]⟩
theorem Ex.assign {x : Operand} {v : Value} (e : ev l x = some v) : Ex P N l (.assign x) ty w v w :=
  ⟨nofun, fun _ _ _ a ha => by simp [execOp, ha.eval e]⟩
theorem Ex.pick_t {c x y : Operand} {v : Value} (ec : ev l c = some (.bool true)) (e : ev l x = some v) : Ex P N l (.pick c x y) ty w v w :=
  ⟨nofun, fun _ _ _ a ha => by simp [execOp, ha.eval e, ha.eval ec, asBool]⟩
theorem Ex.pick_f {c x y : Operand} {v : Value} (ec : ev l c = some (.bool false)) (e : ev l y = some v) : Ex P N l (.pick c x y) ty w v w :=
  ⟨nofun, fun _ _ _ a ha => by simp [execOp, ha.eval e, ha.eval ec, asBool]⟩
theorem Ex.nilPtr {x : Operand} {p : Addr} (e : ev l x = some (.pointer (some p))) : Ex P N l (.nilCheck x) ty w (.pointer (some p)) w :=
  ⟨nofun, fun _ _ _ a ha => by simp [execOp, ha.eval e]⟩
theorem Ex.nilFunc {x : Operand} {f : FuncId} {p q : Array Value} (e : ev l x = some (.func (.func f) p q)) : Ex P N l (.nilCheck x) ty w (.func (.func f) p q) w :=
  ⟨nofun, fun _ _ _ a ha => by simp [execOp, ha.eval e]⟩
theorem Ex.nilYield {x : Operand} {f : Nat} {p q : Array Value} (e : ev l x = some (.func (.yield f) p q)) : Ex P N l (.nilCheck x) ty w (.func (.yield f) p q) w :=
  ⟨nofun, fun _ _ _ a ha => by simp [execOp, ha.eval e]⟩
theorem Ex.makeFunc {fn : Fn} {p q : Array Operand} {ps qs : List Value} (e1 : evs l p.toList = some ps) (e2 : evs l q.toList = some qs) : Ex P N l (.makeFunc fn p q) ty w (.func fn ps.toArray qs.toArray) w :=
  ⟨nofun, fun _ _ _ a ha => by simp [execOp, Instr.makeFunc, ha.evalsA e1, ha.evalsA e2]⟩
theorem Ex.extract {x : Operand} {i : Nat} {vs : Array Value} {v : Value} (e : ev l x = some (.tuple vs)) (hv : vs[i]? = some v) : Ex P N l (.extract x i) ty w v w :=
  ⟨nofun, fun _ _ _ a ha => by simp [execOp, Instr.extract, ha.eval e, hv]⟩

/-! ### Numbers, truth values, texts -/
variable {x y : Operand} {k : IntKind} {m n r : Int} {t yt : TypeId} {b c : Bool}
theorem eqGuard_ne {op : BinOp} {u v : Value} {x y : Operand} (h : (op matches .eql | .neq) = false) : (eqGuard op t x y u v).run P w = .ok () w := by
  cases op <;> simp at h <;> simp [eqGuard]
theorem eqGuard_int {op : BinOp} {x y : Operand} : (eqGuard op t x y (.int k m) (.int k n)).run P w = .ok () w := by
  cases op <;> simp [eqGuard]
theorem Ex.add (e1 : ev l x = some (.int k m)) (e2 : ev l y = some (.int k n)) (hr : k.wrap (m + n) = r) : Ex P N l (.binOp .add t x y yt) ty w (.int k r) w :=
  ⟨nofun, fun _ _ _ a ha => by simp [execOp, ha.eval e1, ha.eval e2, eqGuard_int, binOp, Op.intArith, hr]⟩
theorem Ex.sub (e1 : ev l x = some (.int k m)) (e2 : ev l y = some (.int k n)) (hr : k.wrap (m - n) = r) : Ex P N l (.binOp .sub t x y yt) ty w (.int k r) w :=
  ⟨nofun, fun _ _ _ a ha => by simp [execOp, ha.eval e1, ha.eval e2, eqGuard_int, binOp, Op.intArith, hr]⟩
theorem Ex.mul (e1 : ev l x = some (.int k m)) (e2 : ev l y = some (.int k n)) (hr : k.wrap (m * n) = r) : Ex P N l (.binOp .mul t x y yt) ty w (.int k r) w :=
  ⟨nofun, fun _ _ _ a ha => by simp [execOp, ha.eval e1, ha.eval e2, eqGuard_int, binOp, Op.intArith, hr]⟩
theorem Ex.quo (e1 : ev l x = some (.int k m)) (e2 : ev l y = some (.int k n)) (hn : n ≠ 0) (hr : k.wrap (m.tdiv n) = r) : Ex P N l (.binOp .quo t x y yt) ty w (.int k r) w :=
  ⟨nofun, fun _ _ _ a ha => by simp [execOp, ha.eval e1, ha.eval e2, eqGuard_int, binOp, Op.intDiv, hn, hr]⟩
theorem Ex.rem (e1 : ev l x = some (.int k m)) (e2 : ev l y = some (.int k n)) (hn : n ≠ 0) (hr : m.tmod n = r) : Ex P N l (.binOp .rem t x y yt) ty w (.int k r) w :=
  ⟨nofun, fun _ _ _ a ha => by simp [execOp, ha.eval e1, ha.eval e2, eqGuard_int, binOp, Op.intDiv, hn, hr]⟩
theorem Ex.lss (e1 : ev l x = some (.int k m)) (e2 : ev l y = some (.int k n)) : Ex P N l (.binOp .lss t x y yt) ty w (.bool (decide (m < n))) w :=
  ⟨nofun, fun _ _ _ a ha => by simp [execOp, ha.eval e1, ha.eval e2, eqGuard_int, binOp, Op.intCmp]⟩
theorem Ex.leq (e1 : ev l x = some (.int k m)) (e2 : ev l y = some (.int k n)) : Ex P N l (.binOp .leq t x y yt) ty w (.bool (decide (m ≤ n))) w :=
  ⟨nofun, fun _ _ _ a ha => by simp [execOp, ha.eval e1, ha.eval e2, eqGuard_int, binOp, Op.intCmp]⟩
theorem Ex.gtr (e1 : ev l x = some (.int k m)) (e2 : ev l y = some (.int k n)) : Ex P N l (.binOp .gtr t x y yt) ty w (.bool (decide (n < m))) w :=
  ⟨nofun, fun _ _ _ a ha => by simp [execOp, ha.eval e1, ha.eval e2, eqGuard_int, binOp, Op.intCmp]⟩
theorem Ex.geq (e1 : ev l x = some (.int k m)) (e2 : ev l y = some (.int k n)) : Ex P N l (.binOp .geq t x y yt) ty w (.bool (decide (n ≤ m))) w :=
  ⟨nofun, fun _ _ _ a ha => by simp [execOp, ha.eval e1, ha.eval e2, eqGuard_int, binOp, Op.intCmp]⟩
theorem Ex.eqlI (e1 : ev l x = some (.int k m)) (e2 : ev l y = some (.int k n)) : Ex P N l (.binOp .eql t x y yt) ty w (.bool (decide (m = n))) w :=
  ⟨nofun, fun _ _ _ a ha => by simp [execOp, ha.eval e1, ha.eval e2, eqGuard_int, binOp, Op.intCmp]; rfl⟩
theorem int_bne (m n : Int) : (!(m == n)) = !decide (m = n) := rfl
theorem Ex.neqI (e1 : ev l x = some (.int k m)) (e2 : ev l y = some (.int k n)) : Ex P N l (.binOp .neq t x y yt) ty w (.bool (decide (m ≠ n))) w :=
  ⟨nofun, fun _ _ _ a ha => by simp [execOp, ha.eval e1, ha.eval e2, eqGuard_int, binOp, Op.intCmp]; rw [bne, int_bne m n]⟩
theorem equal_eq (t : TypeId) (x y : Value) : Op.equal t x y = Op.equalIn (9999 + 1) t x y := rfl
theorem equalIn_bool {dp : Nat} (hu : UndIs P t .bool) : (Op.equalIn (dp + 1) t (.bool b) (.bool c)).run P w = .ok (b == c) w := by
  simp [Op.equalIn, hu w]
theorem equalIn_nil {dp : Nat} {p : Option Addr} {e : TypeId} (hu : UndIs P t (.pointer e)) : (Op.equalIn (dp + 1) t (.pointer p) (.pointer none)).run P w = .ok p.isNone w := by
  cases p <;> simp [Op.equalIn, hu w]
theorem binOp_eql {u v : Value} {r : Bool} (hx : ∀ k a, u ≠ .int k a) (h1 : ∀ k a, u ≠ .float k a) (h2 : ∀ k a b, u ≠ .complex k a b) (h3 : ∀ s, u ≠ .string s) (h : (Op.equal t u v).run P w = .ok r w) : (binOp .eql t u v).run P w = .ok (.bool r) w := by
  cases u <;> first | exact absurd rfl (hx _ _) | exact absurd rfl (h1 _ _) | exact absurd rfl (h2 _ _ _) | exact absurd rfl (h3 _) | (show ((do pure (.bool (← Op.equal t _ v)) : Sem Value)).run P w = _; simp only [Sem.run_bind, h, Result.andThen_ok, Sem.run_pure])
theorem binOp_neq {u v : Value} {r : Bool} (hx : ∀ k a, u ≠ .int k a) (h1 : ∀ k a, u ≠ .float k a) (h2 : ∀ k a b, u ≠ .complex k a b) (h3 : ∀ s, u ≠ .string s) (h : (Op.equal t u v).run P w = .ok r w) : (binOp .neq t u v).run P w = .ok (.bool (!r)) w := by
  cases u <;> first | exact absurd rfl (hx _ _) | exact absurd rfl (h1 _ _) | exact absurd rfl (h2 _ _ _) | exact absurd rfl (h3 _) | (show ((do pure (.bool (!(← Op.equal t _ v))) : Sem Value)).run P w = _; simp only [Sem.run_bind, h, Result.andThen_ok, Sem.run_pure])
theorem eqGuard_plain {op : BinOp} {x y : Operand} {u v : Value} (h1 : u ≠ .nilIface) (h2 : ∀ cs, u ≠ .agg cs) : (eqGuard op t x y u v).run P w = .ok () w := by
  cases op <;> cases u <;> first | exact absurd rfl h1 | exact absurd rfl (h2 _) | rfl
theorem Ex.eql {u v : Value} {r : Bool} (e1 : ev l x = some u) (e2 : ev l y = some v) (hg : (eqGuard .eql t x y u v).run P w = .ok () w) (h : (binOp .eql t u v).run P w = .ok (.bool r) w) : Ex P N l (.binOp .eql t x y yt) ty w (.bool r) w :=
  ⟨nofun, fun _ _ _ a ha => by simp only [execOp, ha.eval e1, ha.eval e2, Sem.run_bind, hg, h, Result.andThen_ok, Sem.run_pure]⟩
theorem Ex.neq {u v : Value} {r : Bool} (e1 : ev l x = some u) (e2 : ev l y = some v) (hg : (eqGuard .neq t x y u v).run P w = .ok () w) (h : (binOp .neq t u v).run P w = .ok (.bool r) w) : Ex P N l (.binOp .neq t x y yt) ty w (.bool r) w :=
  ⟨nofun, fun _ _ _ a ha => by simp only [execOp, ha.eval e1, ha.eval e2, Sem.run_bind, hg, h, Result.andThen_ok, Sem.run_pure]⟩
theorem beq_dec (b c : Bool) : (b == c) = decide (b = c) := by cases b <;> cases c <;> rfl
theorem bne_dec (b c : Bool) : (!(b == c)) = decide (b ≠ c) := by cases b <;> cases c <;> rfl
theorem Ex.eqlB (hu : UndIs P t .bool) (e1 : ev l x = some (.bool b)) (e2 : ev l y = some (.bool c)) : Ex P N l (.binOp .eql t x y yt) ty w (.bool (decide (b = c))) w := by
  rw [← beq_dec]; exact Ex.eql e1 e2 (eqGuard_plain nofun nofun) (binOp_eql nofun nofun nofun nofun (by rw [equal_eq]; exact equalIn_bool hu))
theorem Ex.neqB (hu : UndIs P t .bool) (e1 : ev l x = some (.bool b)) (e2 : ev l y = some (.bool c)) : Ex P N l (.binOp .neq t x y yt) ty w (.bool (decide (b ≠ c))) w := by
  rw [← bne_dec]; exact Ex.neq e1 e2 (eqGuard_plain nofun nofun) (binOp_neq nofun nofun nofun nofun (by rw [equal_eq]; exact equalIn_bool hu))
theorem str_beq (s u : ByteArray) : (s.toList == u.toList) = decide (s = u) := by
  rw [ByteArray.toList_eq, ByteArray.toList_eq, Bool.eq_iff_iff]
  simp only [beq_iff_eq, decide_eq_true_eq]
  constructor
  · intro h; cases s; cases u; simp at h; simp [h]
  · rintro rfl; rfl
theorem Ex.eqlS {s u : ByteArray} (e1 : ev l x = some (.string s)) (e2 : ev l y = some (.string u)) : Ex P N l (.binOp .eql t x y yt) ty w (.bool (decide (s = u))) w :=
  ⟨nofun, fun _ _ _ a ha => by simp [execOp, ha.eval e1, ha.eval e2, eqGuard, binOp, Op.stringOp, str_beq]⟩
theorem Ex.neqS {s u : ByteArray} (e1 : ev l x = some (.string s)) (e2 : ev l y = some (.string u)) : Ex P N l (.binOp .neq t x y yt) ty w (.bool (decide (s ≠ u))) w :=
  ⟨nofun, fun _ _ _ a ha => by simp [execOp, ha.eval e1, ha.eval e2, eqGuard, binOp, Op.stringOp, str_beq]⟩
theorem Ex.lssS {s u : ByteArray} (e1 : ev l x = some (.string s)) (e2 : ev l y = some (.string u)) : Ex P N l (.binOp .lss t x y yt) ty w (.bool (Op.bytesLess s.toList u.toList)) w :=
  ⟨nofun, fun _ _ _ a ha => by simp [execOp, ha.eval e1, ha.eval e2, eqGuard, binOp, Op.stringOp]⟩
theorem Ex.nilEq {p : Option Addr} {e : TypeId} (hu : UndIs P t (.pointer e)) (e1 : ev l x = some (.pointer p)) (e2 : ev l y = some (.pointer none)) : Ex P N l (.binOp .eql t x y yt) ty w (.bool p.isNone) w :=
  Ex.eql e1 e2 (eqGuard_plain nofun nofun) (binOp_eql nofun nofun nofun nofun (by rw [equal_eq]; exact equalIn_nil hu))
theorem Ex.nilNe {p : Option Addr} {e : TypeId} (hu : UndIs P t (.pointer e)) (e1 : ev l x = some (.pointer p)) (e2 : ev l y = some (.pointer none)) : Ex P N l (.binOp .neq t x y yt) ty w (.bool p.isSome) w := by
  have : (!p.isNone) = p.isSome := by cases p <;> rfl
  rw [← this]; exact Ex.neq e1 e2 (eqGuard_plain nofun nofun) (binOp_neq nofun nofun nofun nofun (by rw [equal_eq]; exact equalIn_nil hu))
theorem Ex.not (e1 : ev l x = some (.bool b)) : Ex P N l (.unOp .not t x) ty w (.bool (!b)) w :=
  ⟨nofun, fun _ _ _ a ha => by simp [execOp, ha.eval e1, Op.unary]⟩
theorem Ex.notP {φ : Prop} [Decidable φ] (e1 : ev l x = some (.bool (decide φ))) : Ex P N l (.unOp .not t x) ty w (.bool (decide (¬ φ))) w :=
  ⟨nofun, fun _ _ _ a ha => by simp [execOp, ha.eval e1, Op.unary]⟩
theorem Ex.neg (e1 : ev l x = some (.int k m)) (hr : k.wrap (0 - m) = r) : Ex P N l (.unOp .neg t x) ty w (.int k r) w :=
  ⟨nofun, fun _ _ _ a ha => by simp [execOp, ha.eval e1, Op.unary, Op.intArith]; simpa using hr⟩
theorem Ex.convI {s dt : TypeId} {k' : IntKind} {sd : TypeDesc} (hs : UndIs P s sd) (hu : UndIs P dt (.int k')) (e1 : ev l x = some (.int k m)) (hr : k'.wrap m = r) : Ex P N l (.convert s dt x) ty w (.int k' r) w :=
  ⟨nofun, fun _ _ _ a ha => by simp [execOp, ha.eval e1, convert, hs w, hu w, Conv.intToInt, hr]⟩

/-! ### Memory -/
theorem Ex.field {s f n bl off : Nat} (hf : FieldIs P s f n) (e1 : ev l x = some (.pointer (some ⟨bl, off, none⟩))) : Ex P N l (.fieldAddr s x f) ty w (.pointer (some ⟨bl, off + n, none⟩)) w :=
  ⟨nofun, fun _ _ _ a ha => by simp [execOp, ha.eval e1, hf w bl off]⟩
theorem Ex.field0 {s f n bl : Nat} (hf : FieldIs P s f n) (e1 : ev l x = some (.pointer (some ⟨bl, 0, none⟩))) : Ex P N l (.fieldAddr s x f) ty w (.pointer (some ⟨bl, n, none⟩)) w := by
  have := Ex.field (w := w) (ty := ty) (N := N) hf e1
  rwa [Nat.zero_add] at this
theorem Ex.load {p : Addr} {v : Value} (ht : AggIs P t false) (e1 : ev l x = some (.pointer (some p))) (hc : w.cell? p = some v) : Ex P N l (.load t x) ty w v w :=
  ⟨nofun, fun _ _ _ a ha => by simp [execOp, ha.eval e1, Instr.loadAt, Instr.sureAddr, loadVar, ht w, hc]⟩
theorem loadCellsFrom_run {p : Addr} {c : Array Value} : ∀ (n i : Nat) (acc : Array Value), (∀ j, i ≤ j → j < i + n → w.cell? (p.add j) = c[j]? ∧ j < c.size) → (loadCellsFrom p i n acc).run P w = .ok (acc ++ c.extract i (i + n)) w
  | 0, i, acc, h => by simp [loadCellsFrom]; exact Nat.min_le_left ..
  | n + 1, i, acc, h => by
    obtain ⟨h1, h2⟩ := h i (Nat.le_refl _) (by omega)
    have hg : c[i]? = some c[i] := Array.getElem?_eq_getElem h2
    rw [hg] at h1
    simp only [loadCellsFrom, Sem.run_bind, run_load, h1, Result.andThen_ok]
    rw [loadCellsFrom_run n (i + 1) _ (fun j hj hj' => h j (by omega) (by omega))]
    congr 1
    apply Array.ext'
    simp only [Array.toList_append, Array.toList_push, Array.toList_extract, List.append_assoc]
    congr 1
    rw [show i + 1 + n = i + (n + 1) from by omega]
    simp only [List.extract_eq_take_drop]
    have hd : c.toList.drop i = c[i] :: c.toList.drop (i + 1) := by
      rw [List.drop_eq_getElem_cons (by simpa using h2)]; rfl
    rw [hd, show i + (n + 1) - i = n + 1 from by omega, show i + (n + 1) - (i + 1) = n from by omega]
    simp
theorem Ex.loadAgg {p : Addr} {c : Array Value} (ht : AggIs P t true) (hs : SizeIs P t c.size) (e1 : ev l x = some (.pointer (some p))) (hc : ∀ i, i < c.size → w.cell? (p.add i) = c[i]?) : Ex P N l (.load t x) ty w (.agg c) w :=
  ⟨nofun, fun _ _ _ a ha => by
    simp [execOp, ha.eval e1, Instr.loadAt, Instr.sureAddr, loadVar, ht w, hs w, loadCells]
    rw [loadCellsFrom_run (c := c) _ _ _ (fun j _ hj => ⟨hc j (by omega), by omega⟩)]
    simp⟩
def putAt (c : Array Value) (off : Nat) : List Value → Array Value
  | [] => c
  | v :: vs => putAt (c.setIfInBounds off v) (off + 1) vs
theorem putAt_size : ∀ (vs : List Value) (c : Array Value) (off : Nat), (putAt c off vs).size = c.size
  | [], _, _ => rfl
  | v :: vs, c, off => by rw [putAt, putAt_size vs]; simp
def setCells (w : World) (b off : Nat) : List Value → World
  | [] => w
  | v :: vs => setCells (w.setCell ⟨b, off, none⟩ v) b (off + 1) vs
theorem storeCells_run {L : List HProp} {bl : Nat} {T : TypeId} : ∀ (vs : List Value) (off i : Nat) (c : Array Value) (w : World), (∀ v ∈ vs, v.oneCell' = true) → Holds w (pt bl (.cells c T (0, 0)) :: L) → off + i + vs.length ≤ c.size →
    ∃ w', (storeCells ⟨bl, off, none⟩ vs i).run P w = .ok () w' ∧ Holds w' (pt bl (.cells (putAt c (off + i) vs) T (0, 0)) :: L)
  | [], off, i, c, w, _, H, _ => ⟨w, rfl, H⟩
  | v :: vs, off, i, c, w, hv, H, hl => by
    simp only [List.length_cons] at hl
    have hc : w.cell? ⟨bl, off + i, none⟩ = some c[off + i] := H.cell (Array.getElem?_eq_getElem (by omega))
    obtain ⟨w', h1, h2⟩ := storeCells_run vs off (i + 1) (c.setIfInBounds (off + i) v) (w.setCell ⟨bl, off + i, none⟩ v) (fun u hu => hv u (List.mem_cons_of_mem _ hu)) (H.setCell v) (by simp; omega)
    refine ⟨w', ?_, h2⟩
    simp only [storeCells, Sem.run_bind, add_off]
    rw [run_store P w _ v .plain (hv v (List.mem_cons_self ..))]
    simp only [hc, H.frozen]
    exact h1
theorem O.store {L : List HProp} {bl off : Nat} {c : Array Value} {T : TypeId} {v : Value} (hs : SizeIs P t 1) (e1 : ev l x = some (.pointer (some ⟨bl, off, none⟩))) (e2 : ev l y = some v) (hv : v.oneCell' = true)
    (H : Holds w (pt bl (.cells c T (0, 0)) :: L)) (ho : off < c.size) (h : ∀ w', Holds w' (pt bl (.cells (c.setIfInBounds off v) T (0, 0)) :: L) → O P ro N ops os Q l ds w') :
    O P ro N ops (⟨none, .store t x y, ty, pos, af, none⟩ :: os) Q l ds w := by
  obtain ⟨w', h1, h2⟩ := storeCells_run (P := P) [v] off 0 c w (by simpa using hv) H (by simp; omega)
  refine O.unit0 nofun (fun a ha => ?_) (h w' h2)
  have hcs : v.cells = #[v] := by cases v <;> simp_all [Value.cells, Value.oneCell']
  simp [execOp, ha.eval e1, ha.eval e2, Instr.storeAt, Instr.sureAddr, storeVar, hs w, hcs, h1]
theorem O.storeAgg {L : List HProp} {bl off n : Nat} {c vs : Array Value} {T : TypeId} (hs : SizeIs P t n) (hn : vs.size = n) (e1 : ev l x = some (.pointer (some ⟨bl, off, none⟩))) (e2 : ev l y = some (.agg vs)) (hv : ∀ v ∈ vs.toList, v.oneCell' = true)
    (H : Holds w (pt bl (.cells c T (0, 0)) :: L)) (ho : off + n ≤ c.size) (h : ∀ w', Holds w' (pt bl (.cells (putAt c off vs.toList) T (0, 0)) :: L) → O P ro N ops os Q l ds w') :
    O P ro N ops (⟨none, .store t x y, ty, pos, af, none⟩ :: os) Q l ds w := by
  obtain ⟨w', h1, h2⟩ := storeCells_run (P := P) vs.toList off 0 c w hv H (by simp; omega)
  refine O.unit0 nofun (fun a ha => ?_) (h w' h2)
  simp [execOp, ha.eval e1, ha.eval e2, Instr.storeAt, Instr.sureAddr, storeVar, hs w, Value.cells, hn, h1]
theorem O.alloc {L : List HProp} {z : Value} {e : TypeId} (hz : ZeroIs P e z) (hd : Nat.blt d N = true) (H : Holds w L) (h : ∀ bl w', Holds w' (pt bl (.cells z.cells e (0, 0)) :: L) → O P ro N ops os Q ((d, .pointer (some ⟨bl, 0, none⟩)) :: l) ds w') :
    O P ro N ops (⟨some d, .alloc e, ty, pos, af, none⟩ :: os) Q l ds w :=
  O.val nofun (by simpa using hd) (fun a ha => by simp [execOp, Instr.alloc, hz w, newVar, newRow]) (h _ _ (H.alloc _))
theorem O.box {L : List HProp} {v : Value} {e : TypeId} (e1 : ev l x = some v) (hd : Nat.blt d N = true) (H : Holds w L) (h : ∀ bl w', Holds w' (pt bl (.cells v.cells e (0, 0)) :: L) → O P ro N ops os Q ((d, .pointer (some ⟨bl, 0, none⟩)) :: l) ds w') :
    O P ro N ops (⟨some d, .box e x, ty, pos, af, none⟩ :: os) Q l ds w :=
  O.val nofun (by simpa using hd) (fun a ha => by simp [execOp, Instr.box, ha.eval e1, newVar, newRow]) (h _ _ (H.alloc _))
def evp (l : Regs) : List (Nat × Operand) → Option (List (Nat × Value))
  | [] => some []
  | (i, x) :: xs => match ev l x, evp l xs with
    | some v, some vs => some ((i, v) :: vs)
    | _, _ => none
theorem Env.evalp {a : Act} (h : Env N a l) : ∀ {xs : List (Nat × Operand)} {vs : List (Nat × Value)}, evp l xs = some vs → xs.map (fun p => (p.1, a.eval p.2)) = vs
  | [], vs, e => by simpa [evp] using e
  | (i, x) :: xs, vs, e => by
    simp only [evp] at e
    split at e
    · rename_i v vs' h1 h2
      cases e
      simp [h.eval h1, h.evalp h2]
    · cases e
theorem Ex.build {parts : Array (Nat × Operand)} {vs : List (Nat × Value)} {v : Value} (e : evp l parts.toList = some vs) (hb : BuildIs P t vs v) : Ex P N l (.build t parts) ty w v w :=
  ⟨nofun, fun _ _ _ a ha => by
    have : (parts.map fun (i, x) => (i, a.eval x)) = vs.toArray := by
      apply Array.ext'
      simpa using ha.evalp e
    simp only [execOp, this]
    simp [hb w]⟩

/-! ### Calls -/
/-- A function's contract. -/
def CT (P : Program) (f : FuncId) (args : List Value) (w : World) (R : Value → World → Prop) : Prop := CallsIn Fence.wide 0 P f args.toArray w fun e w' => ∃ v, e = .returned v ∧ R v w'
theorem CT.mono {f : FuncId} {args : List Value} {R R' : Value → World → Prop} (h : CT P f args w R) (hr : ∀ v w', R v w' → R' v w') : CT P f args w R' :=
  CallsIn.mono h fun e w' ⟨v, e1, h1⟩ => ⟨v, e1, hr _ _ h1⟩
def CallIs (P : Program) (f : FuncId) : Prop := ∀ (args : Array Value) (w : World), (callFunc f args).run P w = .ok (.enter f args) w
theorem O.callF {f : FuncId} {args : Array Operand} {ats : Array TypeId} {vs : List Value} (hf : CallIs P f) (e : evs l args.toList = some vs) (hd : Nat.blt d N = true) (h : CT P f vs w fun v w' => O P ro N ops os Q ((d, v) :: l) ds w') :
    O P ro N ops (⟨some d, .call ⟨.value (.func f), args, ats⟩, ty, pos, af, none⟩ :: os) Q l ds w :=
  O.call nofun (fun a ha => by simp [execOp, resolve, Act.eval, Deferred.ofValue, invoke, ha.evalsA e]; exact hf _ w)
    (CallsIn.mono h fun e w' ⟨v, e1, h1⟩ => ⟨v, e1, fun a ha hds => h1 _ (ha.put (by simpa using hd) v) hds⟩)
theorem O.callF0 {f : FuncId} {args : Array Operand} {ats : Array TypeId} {vs : List Value} (hf : CallIs P f) (e : evs l args.toList = some vs) (h : CT P f vs w fun v w' => O P ro N ops os Q l ds w') :
    O P ro N ops (⟨none, .call ⟨.value (.func f), args, ats⟩, ty, pos, af, none⟩ :: os) Q l ds w :=
  O.call nofun (fun a ha => by simp [execOp, resolve, Act.eval, Deferred.ofValue, invoke, ha.evalsA e]; exact hf _ w)
    (CallsIn.mono h fun e w' ⟨v, e1, h1⟩ => ⟨v, e1, fun a ha hds => h1 _ ha hds⟩)
theorem O.callV {t : Tmp} {f : FuncId} {args : Array Operand} {ats : Array TypeId} {vs : List Value} {p q : Array Value} (hf : CallIs P f) (ef : look l t = some (.func (.func f) p q)) (e : evs l args.toList = some vs) (hd : Nat.blt d N = true) (h : CT P f (p.toList ++ vs ++ q.toList) w fun v w' => O P ro N ops os Q ((d, v) :: l) ds w') :
    O P ro N ops (⟨some d, .call ⟨.value (.tmp t), args, ats⟩, ty, pos, af, none⟩ :: os) Q l ds w :=
  O.call nofun (fun a ha => by
    have hv : a.eval (.tmp t) = _ := ha.eval (x := .tmp t) ef
    simp [execOp, resolve, hv, Deferred.ofValue, invoke, ha.evalsA e]
    rw [hf]
    congr 2
    apply Array.ext'; simp)
    (CallsIn.mono h fun e w' ⟨v, e1, h1⟩ => ⟨v, e1, fun a ha hds => h1 _ (ha.put (by simpa using hd) v) hds⟩)
theorem O.callV0 {t : Tmp} {f : FuncId} {args : Array Operand} {ats : Array TypeId} {vs : List Value} {p q : Array Value} (hf : CallIs P f) (ef : look l t = some (.func (.func f) p q)) (e : evs l args.toList = some vs) (h : CT P f (p.toList ++ vs ++ q.toList) w fun v w' => O P ro N ops os Q l ds w') :
    O P ro N ops (⟨none, .call ⟨.value (.tmp t), args, ats⟩, ty, pos, af, none⟩ :: os) Q l ds w :=
  O.call nofun (fun a ha => by
    have hv : a.eval (.tmp t) = _ := ha.eval (x := .tmp t) ef
    simp [execOp, resolve, hv, Deferred.ofValue, invoke, ha.evalsA e]
    rw [hf]
    congr 2
    apply Array.ext'; simp)
    (CallsIn.mono h fun e w' ⟨v, e1, h1⟩ => ⟨v, e1, fun a ha hds => h1 _ ha hds⟩)

/-! ### A function, from its body -/
/-- The marks that ranges over a function have left among the deferred calls, with their blocks. -/
def markOf (d : Deferred) : HProp := hex fun r => star [hp (d.target = .collected r), pt r (.deferred (some []))]
def marks (ds : List Deferred) : HProp := star (ds.map markOf)
def RV (P : Program) (l : Regs) (w : World) : List ResultVar → List Value → Prop
  | [], vs => vs = []
  | .tmp t :: rs, vs => ∃ v vs', vs = v :: vs' ∧ look l t = some v ∧ RV P l w rs vs'
  | .cell t ty :: rs, vs => ∃ p v vs', vs = v :: vs' ∧ look l t = some (.pointer (some p)) ∧ (loadVar ty p).run P w = .ok v w ∧ RV P l w rs vs'
def oneOf : List Value → Value
  | [v] => v
  | vs => .tuple vs.toArray
def resOne (a : Act) : ResultVar → Sem Value
  | .tmp t => pure (a.tmps.getD t undef)
  | .cell r t => do loadVar t (← asAddr (a.tmps.getD r undef))
theorem RV.run {a : Act} (ha : Env N a l) : ∀ {rs : List ResultVar} {vs : List Value}, RV P l w rs vs → (rs.mapM (resOne a)).run P w = .ok vs w
  | [], vs, h => by cases h; rfl
  | .tmp t :: rs, vs, h => by
    obtain ⟨v, vs', rfl, h1, h2⟩ := h
    have := ha.get _ _ h1
    simp [List.mapM_cons, resOne, this, RV.run ha h2]
  | .cell t ty :: rs, vs, h => by
    obtain ⟨p, v, vs', rfl, h1, h0, h2⟩ := h
    have := ha.get _ _ h1
    simp [List.mapM_cons, resOne, this, asAddr, h0, RV.run ha h2]
theorem results_eq (fn : Func) (a : Act) : results fn a.tmps = (do let vs ← fn.results.mapM (resOne a); pure (if h : vs.size = 1 then vs[0] else .tuple vs)) := by
  unfold Go.results
  congr 1
theorem RV.results {a : Act} {fn : Func} (ha : Env N a l) {vs : List Value} (h : RV P l w fn.results.toList vs) : (results fn a.tmps).run P w = .ok (oneOf vs) w := by
  have := RV.run ha h
  rw [results_eq, ← Array.toArray_toList (xs := fn.results), List.mapM_toArray]
  simp only [Sem.run_bind, Sem.run_map, this, Result.andThen_ok]
  match vs with
  | [] => simp [oneOf]
  | [v] => simp [oneOf]
  | u :: v :: vs => simp [oneOf]
/-- What is asked where the body is left. -/
def retD (P : Program) (rs : List ResultVar) (R : Value → World → Prop) (l : Regs) (w : World) : List Deferred → Prop
  | [] => ∃ vs, RV P l w rs vs ∧ R (oneOf vs) w
  | d :: ds => ∃ L, Holds w (marks (d :: ds) :: L) ∧ ∀ w', Holds w' L → ∃ vs, RV P l w' rs vs ∧ R (oneOf vs) w'
def retQ (P : Program) (rs : List ResultVar) (R : Value → World → Prop) : Q0
  | .normal, l, ds, w => retD P rs R l w ds
  | .ret, l, ds, w => retD P rs R l w ds
  | .exit _, _, _, _ => False
  | .goto _, _, _, _ => False
  | .panic _, _, _, _ => False
  | .outgrown, _, _, _ => False
theorem leavesM {fn : Func} {R : Value → World → Prop} {a : Act} (ha : Env N a l) : ∀ (ds : List Deferred) (w : World) (L : List HProp), Holds w (marks ds :: L) → (∀ w', Holds w' L → ∃ vs, RV P l w' fn.results.toList vs ∧ R (oneOf vs) w') →
    LeavesInM Fence.wide 0 P fn a.tmps (fun e w' => ∃ v, e = .returned v ∧ R v w') ds .returning w
  | [], w, L, H, h => by
    obtain ⟨vs, h1, h2⟩ := h w H.drop
    exact ⟨_, RV.results ha h1, _, rfl, h2⟩
  | d :: ds, w, L, H, h => by
    have H1 : Holds w (markOf d :: (ds.map markOf ++ L)) := Holds.star.1 H
    obtain ⟨r, H2⟩ := Holds.hex.1 H1
    have H3 : Holds w ([hp (d.target = .collected r), pt r (.deferred (some []))] ++ (ds.map markOf ++ L)) := Holds.star.1 H2
    obtain ⟨ht, H4⟩ := Holds.hp.1 H3
    have H5 := H4.putObj (.deferred none)
    refine ⟨nofun, .inl ⟨r, _, ht, ?_, leavesM ha ds _ L (Holds.star.2 H5.drop) h⟩⟩
    have hg := H4.get
    have hr : w.heap[r]? = some (.deferred (some [])) := hg
    simp [Instr.takeDeferred, getObj, setObj, Sem.run, hr]
theorem CT.enter {f : FuncId} {fn : Func} {c : Code} {rs : List ResultVar} {vs : List Value} {R : Value → World → Prop} (hf : P.funcs[f]? = some fn) (hb : fn.body = some c) (hN : fn.ntmps = N) (hl : Nat.ble vs.length N = true) (hr : fn.results.toList = rs)
    (h : W P none N c (retQ P rs R) (initRegs 0 vs) [] w) : CT P f vs w R := by
  subst hr
  have hl' : vs.length ≤ N := by simpa using hl
  refine callsIn_of_wp_marks hf hb trivial ?_ rfl
  refine wpIn_mono (h _ ⟨?_, ?_⟩ rfl) ?_
  · simp [hN]; omega
  · intro t v e
    obtain ⟨_, h2⟩ := initRegs_spec vs 0 t v e
    simp only [Nat.sub_zero] at h2
    have := (List.getElem?_eq_some_iff.1 h2).1
    rw [Array.getElem?_append_left (by simpa using this)]
    simpa using h2
  · rintro e a w' ⟨l', ha, hq⟩
    cases e <;> simp only [retQ] at hq
    all_goals
      revert hq
      generalize hds : a.defers = ds
      intro hq
      simp only [bodyPostM, hds]
      cases ds with
      | nil => obtain ⟨vs, h1, h2⟩ := hq; exact ⟨_, RV.results ha h1, _, rfl, h2⟩
      | cons d ds => obtain ⟨L, h1, h2⟩ := hq; exact leavesM ha _ _ L h1 h2
end
end Go.Rr
