/- The walk's own form: what is known of the temporaries, as a list; code, region and operation by operation, over it. No program in sight. -/
import Derived.RangeFuncLeaves
import Derived.Orders
import Derived.Test.YtakmbbgnnbpkoaaRrHeap
namespace Go.Rr
set_option linter.unusedVariables false

abbrev Regs := List (Nat × Value)
def look : Regs → Nat → Option Value
  | [], _ => none
  | (d, v) :: r, t => cond (Nat.beq t d) (some v) (look r t)
def subL : Regs → Regs → Prop
  | [], _ => True
  | (t, v) :: r, l => look l t = some v ∧ subL r l
structure Env (N : Nat) (a : Act) (l : Regs) : Prop where
  size : a.tmps.size = N
  get : ∀ t v, look l t = some v → a.tmps[t]? = some v
def ev (l : Regs) : Operand → Option Value
  | .tmp t => look l t
  | .const v => some v
  | .global g => some (.pointer (some ⟨g, 0, none⟩))
  | .func f => some (.func (.func f) #[] #[])
def evs (l : Regs) : List Operand → Option (List Value)
  | [] => some []
  | x :: xs => match ev l x, evs l xs with
    | some v, some vs => some (v :: vs)
    | _, _ => none

theorem beq_false {a b : Nat} (h : a ≠ b) : Nat.beq a b = false := by
  cases e : Nat.beq a b with
  | false => rfl
  | true => exact absurd (Nat.eq_of_beq_eq_true e) h
theorem look_cons (d : Nat) (v : Value) (r : Regs) (t : Nat) : look ((d, v) :: r) t = if t = d then some v else look r t := by
  show cond (Nat.beq t d) _ _ = _
  by_cases h : t = d
  · subst h; simp
  · rw [beq_false h, if_neg h]; rfl
theorem Env.eval {N : Nat} {a : Act} {l : Regs} (h : Env N a l) {x : Operand} {v : Value} (e : ev l x = some v) : a.eval x = v := by
  cases x with
  | tmp t => have := h.get t v e; simp [Act.eval, this]
  | const c => simpa [ev, Act.eval] using e
  | global g => simpa [ev, Act.eval] using e
  | func f => simpa [ev, Act.eval] using e
theorem Env.evals {N : Nat} {a : Act} {l : Regs} (h : Env N a l) : ∀ {xs : List Operand} {vs : List Value}, evs l xs = some vs → xs.map a.eval = vs
  | [], vs, e => by simpa [evs] using e
  | x :: xs, vs, e => by
    simp only [evs] at e
    split at e
    · rename_i v vs' h1 h2
      cases e
      simp [h.eval h1, h.evals h2]
    · cases e
theorem Env.evalsA {N : Nat} {a : Act} {l : Regs} (h : Env N a l) {xs : Array Operand} {vs : List Value} (e : evs l xs.toList = some vs) : xs.map a.eval = vs.toArray := by
  have := h.evals e
  apply Array.ext'
  simpa using this
theorem Env.put {N : Nat} {a : Act} {l : Regs} (h : Env N a l) {d : Nat} (hd : d < N) (v : Value) : Env N (a.put (some d) v) ((d, v) :: l) :=
  ⟨by simp [Act.put, h.size], fun t u e => by
    rw [look_cons] at e
    by_cases ht : t = d
    · subst ht; rw [if_pos rfl] at e; cases e
      simp [Act.put, h.size, hd]
    · rw [if_neg ht] at e
      simp only [Act.put]
      rw [Array.getElem?_setIfInBounds_ne (Ne.symm ht)]; exact h.get t u e⟩
theorem Env.sub {N : Nat} {a : Act} {l l' : Regs} (h : Env N a l) (s : ∀ t v, look l' t = some v → look l t = some v) : Env N a l' := ⟨h.size, fun t v e => h.get t v (s t v e)⟩
theorem subL.spec : ∀ {l' l : Regs}, subL l' l → ∀ t v, look l' t = some v → look l t = some v
  | [], _, _, t, v, e => by cases e
  | (d, u) :: r, l, h, t, v, e => by
    rw [look_cons] at e
    by_cases ht : t = d
    · subst ht; rw [if_pos rfl] at e; cases e; exact h.1
    · rw [if_neg ht] at e; exact subL.spec h.2 t v e
def initRegs : Nat → List Value → Regs
  | _, [] => []
  | n, v :: vs => (n, v) :: initRegs (n + 1) vs
theorem initRegs_spec : ∀ (vs : List Value) (n t : Nat) (v : Value), look (initRegs n vs) t = some v → n ≤ t ∧ vs[t - n]? = some v
  | [], n, t, v, e => by cases e
  | u :: vs, n, t, v, e => by
    simp only [initRegs] at e
    rw [look_cons] at e
    by_cases ht : t = n
    · subst ht; rw [if_pos rfl] at e; simp at e; subst e; simp
    · rw [if_neg ht] at e
      obtain ⟨h1, h2⟩ := initRegs_spec vs (n + 1) t v e
      refine ⟨by omega, ?_⟩
      obtain ⟨k, rfl⟩ : ∃ k, t = n + 1 + k := ⟨t - (n + 1), by omega⟩
      rw [show n + 1 + k - n = k + 1 from by omega]
      rw [show n + 1 + k - (n + 1) = k from by omega] at h2
      simpa using h2

abbrev Q0 := Exit → Regs → List Deferred → World → Prop
def FW (ro : Option Nat) : Fence := { fn := fun _ => True, depth := none, alive := false, round := ro }
def lift (N : Nat) (Q : Q0) : Exit → Act → World → Prop := fun e a w => ∃ l, Env N a l ∧ Q e l a.defers w
theorem room_FW (ro : Option Nat) (n : Nat) : (FW ro).room n := fun _ h => by cases h
theorem FW_none : FW none = Fence.wide := rfl

/-- Code, from what is known of the temporaries. -/
def W (P : Program) (ro : Option Nat) (N : Nat) (c : Code) (Q : Q0) (l : Regs) (ds : List Deferred) (w : World) : Prop :=
  ∀ a, Env N a l → a.defers = ds → c.wpIn (FW ro) 0 P (lift N Q) a w
def thenQ (K : Regs → List Deferred → World → Prop) (Q : Q0) : Q0
  | .normal, l, ds, w => K l ds w
  | .exit i, l, ds, w => Q (.exit i) l ds w
  | .goto t, l, ds, w => Q (.goto t) l ds w
  | .ret, l, ds, w => Q .ret l ds w
  | .panic c, l, ds, w => Q (.panic c) l ds w
  | .outgrown, l, ds, w => Q .outgrown l ds w
def blockQ (id : Nat) (Q : Q0) : Q0
  | .exit i, l, ds, w => cond (Nat.beq i id) (Q .normal l ds w) (Q (.exit i) l ds w)
  | .normal, l, ds, w => Q .normal l ds w
  | .goto t, l, ds, w => Q (.goto t) l ds w
  | .ret, l, ds, w => Q .ret l ds w
  | .panic c, l, ds, w => Q (.panic c) l ds w
  | .outgrown, l, ds, w => Q .outgrown l ds w

section rules
variable {P : Program} {ro : Option Nat} {N : Nat} {Q : Q0} {l : Regs} {ds : List Deferred} {w : World}
theorem W.mono {c : Code} {Q' : Q0} (h : W P ro N c Q l ds w) (hq : ∀ e l ds w, Q e l ds w → Q' e l ds w) : W P ro N c Q' l ds w :=
  fun a ha hd => wpIn_mono (h a ha hd) fun e a w ⟨l, h1, h2⟩ => ⟨l, h1, hq _ _ _ _ h2⟩
theorem W.sub {c : Code} {l' : Regs} (s : subL l' l) (h : W P ro N c Q l' ds w) : W P ro N c Q l ds w := fun a ha hd => h a (ha.sub (subL.spec s)) hd
theorem W.skip (h : Q .normal l ds w) : W P ro N .skip Q l ds w := fun a ha hd => wpIn_skip ⟨l, ha, hd ▸ h⟩
theorem W.label {t : Nat} (h : Q .normal l ds w) : W P ro N (.label t) Q l ds w := fun a ha hd => wpIn_label ⟨l, ha, hd ▸ h⟩
theorem W.exit {id : Nat} (h : Q (.exit id) l ds w) : W P ro N (.exit id) Q l ds w := fun a ha hd => wpIn_exit ⟨l, ha, hd ▸ h⟩
theorem W.ret (h : Q .ret l ds w) : W P ro N .ret Q l ds w := fun a ha hd => wpIn_ret ⟨l, ha, hd ▸ h⟩
theorem W.seq {x y : Code} (h : ∀ K : Regs → List Deferred → World → Prop, (∀ l ds w, W P ro N y Q l ds w → K l ds w) → W P ro N x (thenQ K Q) l ds w) : W P ro N (.seq x y) Q l ds w :=
  fun a ha hd => wpIn_seq (wpIn_mono (h (fun l ds w => W P ro N y Q l ds w) (fun _ _ _ h => h) a ha hd) fun e a w ⟨l, h1, h2⟩ => by
    cases e with
    | normal => exact h2 a h1 rfl
    | _ => exact ⟨l, h1, h2⟩)
theorem W.cond_t {c : Operand} {x y : Code} (hc : ev l c = some (.bool true)) (h : W P ro N x Q l ds w) : W P ro N (.cond c x y) Q l ds w :=
  fun a ha hd => wpIn_cond_true (ha.eval hc) (h a ha hd)
theorem W.cond_f {c : Operand} {x y : Code} (hc : ev l c = some (.bool false)) (h : W P ro N y Q l ds w) : W P ro N (.cond c x y) Q l ds w :=
  fun a ha hd => wpIn_cond_false (ha.eval hc) (h a ha hd)
theorem W.cond_b {c : Operand} {x y : Code} {b : Bool} (hc : ev l c = some (.bool b)) (ht : b = true → W P ro N x Q l ds w) (hf : b = false → W P ro N y Q l ds w) : W P ro N (.cond c x y) Q l ds w :=
  fun a ha hd => wpIn_cond_split (ha.eval hc) (fun h => ht h a ha hd) (fun h => hf h a ha hd)
theorem W.cond_p {c : Operand} {x y : Code} {φ : Prop} [Decidable φ] (hc : ev l c = some (.bool (decide φ))) (ht : φ → W P ro N x Q l ds w) (hf : ¬ φ → W P ro N y Q l ds w) : W P ro N (.cond c x y) Q l ds w :=
  W.cond_b hc (fun h => ht (of_decide_eq_true h)) (fun h => hf (of_decide_eq_false h))
theorem W.block {id : Nat} {c : Code} (h : W P ro N c (blockQ id Q) l ds w) : W P ro N (.block id c) Q l ds w :=
  fun a ha hd => wpIn_block (wpIn_mono (h a ha hd) fun e a w ⟨l, h1, h2⟩ => by
    cases e with
    | exit i =>
      simp only [blockQ] at h2
      simp only [Exit.inBlock]
      by_cases hi : i = id
      · subst hi; simp at h2; simp; exact ⟨l, h1, h2⟩
      · rw [beq_false hi] at h2; simp [hi]; exact ⟨l, h1, h2⟩
    | _ => exact ⟨l, h1, h2⟩)
/-- A loop: 'regs s' what is known at the head, in state s. -/
theorem W.loop {σ : Type} {c : Code} (regs : σ → Regs) (inv : σ → List Deferred → World → Prop) (μ : σ → Nat) (s₀ : σ) (hr : subL (regs s₀) l) (hi : inv s₀ ds w)
    (round : ∀ s ds w, inv s ds w → W P ro N c (thenQ (fun l' ds' w' => ∃ s', subL (regs s') l' ∧ inv s' ds' w' ∧ μ s' < μ s) Q) (regs s) ds w) : W P ro N (.loop c) Q l ds w := by
  intro a ha hd
  -- the measure is of the state: carried along as a ghost through the least state that fits
  suffices h : ∀ n s, μ s = n → ∀ a ds w, Env N a (regs s) → a.defers = ds → inv s ds w → ∀ (b : Frame) (k : List Item) (cs : List Frame), b.roundOf = (FW ro).round → (FW ro).fn b.fn → (FW ro).room (cs.length + 1 + 0) →
      ∃ e a' w', lift N Q e a' w' ∧ ArrivesIn (Machine.fenced P (FW ro)) P (lone (b.atR a (.code c :: .inLoop c :: k)) cs w) b k cs e a' w' by
    intro b k cs hro hb hroom
    obtain ⟨e, a', w', hq, harr⟩ := h _ s₀ rfl a ds w (ha.sub (subL.spec hr)) hd hi b k cs hro hb hroom
    exact ⟨e, a', w', hq, .of_steps (.one (fenced_calm hb hroom rfl) stepR_loop) harr⟩
  intro n
  induction n using Nat.strongRecOn with
  | _ n ih =>
    intro s hs a ds w ha hd hi b k cs hro hb hroom
    obtain ⟨e, a₁, w₁, ⟨l₁, he, hq⟩, harr⟩ := round s ds w hi a ha hd b (.inLoop c :: k) cs hro hb hroom
    cases e with
    | normal =>
      obtain ⟨s', h1, h2, h3⟩ := hq
      obtain ⟨e₂, a₂, w₂, hq₂, harr₂⟩ := ih (μ s') (hs ▸ h3) s' rfl a₁ _ w₁ (he.sub (subL.spec h1)) rfl h2 b k cs hro hb hroom
      exact ⟨e₂, a₂, w₂, hq₂, .of_steps (StepsIn.trans harr (.one (fenced_calm hb hroom rfl) stepR_inLoop)) harr₂⟩
    | exit id => exact ⟨_, a₁, w₁, ⟨l₁, he, hq⟩, .pass (x := .inLoop c) rfl (fun _ _ => .inl (by simp)) harr⟩
    | goto l => exact ⟨_, a₁, w₁, ⟨l₁, he, hq⟩, .pass (x := .inLoop c) rfl (fun _ _ => .inl (by simp)) harr⟩
    | ret => exact ⟨_, a₁, w₁, ⟨l₁, he, hq⟩, .pass (x := .inLoop c) rfl (fun _ _ => .inl (by simp)) harr⟩
    | panic ch => exact ⟨_, a₁, w₁, ⟨l₁, he, hq⟩, .pass (x := .inLoop c) rfl (fun _ _ => .inl (by simp)) harr⟩
    | outgrown => exact ⟨_, a₁, w₁, ⟨l₁, he, hq⟩, .pass (x := .inLoop c) rfl (fun _ _ => .inl (by simp)) harr⟩
end rules

/-! ### Regions: operation by operation -/
def opsIn (P : Program) (ro : Option Nat) (ops : Array Oper) (Q : Exit → Act → World → Prop) : List Oper → Act → World → Prop
  | [], a, w => Q .normal a w
  | o :: os, a, w => if Region.wanted o (yielded ops a.tmps) then o.wpIn (FW ro) 0 P a w (opsIn P ro ops Q os) Q else opsIn P ro ops Q os (a.put o.dst undef) w
theorem opsIn_sound {P : Program} {ro : Option Nat} {ops : Array Oper} {Q : Exit → Act → World → Prop} : ∀ (is : List Nat) (os : List Oper), is.map (ops[·]?) = os.map some → ∀ a w, opsIn P ro ops Q os a w → wpOpsIn (FW ro) 0 P ops Q is a w
  | [], [], _, a, w, h => h
  | i :: is, o :: os, e, a, w, h => by
    simp only [List.map_cons, List.cons.injEq] at e
    simp only [wpOpsIn, e.1]
    simp only [opsIn] at h
    split
    · rename_i hw
      rw [if_pos hw] at h
      refine ⟨fun _ _ => trivial, ?_⟩
      have h2 := h.2
      generalize (o.semAt (FW ro).round a.eval).run P w = r at *
      cases r with
      | ok x w' =>
        cases x <;> simp only [Oper.uponIn] at h2 ⊢ <;>
          first
            | exact opsIn_sound is os e.2 _ _ h2
            | exact ⟨h2.1, h2.2.mono fun e' w'' he => by cases e' <;> first | exact opsIn_sound is os e.2 _ _ he | exact he⟩
            | exact ⟨h2.1, RowsIn.mono h2.2 (fun _ _ he => opsIn_sound is os e.2 _ _ he)⟩
      | halt x w' => cases x <;> simp only [Oper.uponIn] at h2 ⊢ <;> exact h2
    · rename_i hw
      rw [if_neg hw] at h
      exact ⟨fun _ _ => trivial, opsIn_sound is os e.2 _ _ h⟩
  | [], _ :: _, e, _, _, _ => by simp at e
  | _ :: _, [], e, _, _, _ => by simp at e

def O (P : Program) (ro : Option Nat) (N : Nat) (ops : Array Oper) (os : List Oper) (Q : Q0) (l : Regs) (ds : List Deferred) (w : World) : Prop :=
  ∀ a, Env N a l → a.defers = ds → opsIn P ro ops (lift N Q) os a w

section
variable {P : Program} {ro : Option Nat} {N : Nat} {Q : Q0} {l : Regs} {ds : List Deferred} {w : World} {ops : Array Oper} {os : List Oper}
theorem W.region {id : Nat} {ops : Array Oper} (h : O P ro N ops ops.toList Q l ds w) : W P ro N (.region id ops false) Q l ds w := fun a ha hd =>
  wpIn_region (opsIn_sound _ _ (by
    apply List.ext_getElem?
    intro i
    rcases Nat.lt_or_ge i ops.size with h | h
    · simp [h]
    · simp [h]) a w (h a ha hd))
theorem O.nil (h : Q .normal l ds w) : O P ro N ops [] Q l ds w := fun a ha hd => ⟨l, ha, hd ▸ h⟩
theorem O.thenNil {K : Regs → List Deferred → World → Prop} (h : K l ds w) : O P ro N ops [] (thenQ K Q) l ds w := O.nil (Q := thenQ K Q) h
theorem O.sub {l' : Regs} (s : subL l' l) (h : O P ro N ops os Q l' ds w) : O P ro N ops os Q l ds w := fun a ha hd => h a (ha.sub (subL.spec s)) hd
theorem O.cons {dst : Option Tmp} {op : Op} {ty : TypeId} {pos : String} {af : Array Edge} (hnd : ∀ c, op ≠ .defer c)
    (h : ∀ a, Env N a l → a.defers = ds → Oper.uponIn (FW ro) 0 P ⟨dst, op, ty, pos, af, none⟩ a (opsIn P ro ops (lift N Q) os) (lift N Q) ((execOp a.eval ⟨dst, op, ty, pos, af, none⟩).run P w)) :
    O P ro N ops (⟨dst, op, ty, pos, af, none⟩ :: os) Q l ds w := fun a ha hd => by
  simp only [opsIn, Region.wanted, if_true]
  refine ⟨fun _ _ => trivial, ?_⟩
  rw [Oper.semAt_eq _ _ _ hnd]
  exact h a ha hd
/-- An operation that comes to a value. -/
theorem O.val {d : Tmp} {op : Op} {ty : TypeId} {pos : String} {af : Array Edge} {v : Value} {w' : World} (hnd : ∀ c, op ≠ .defer c) (hd : d < N)
    (hx : ∀ a, Env N a l → (execOp a.eval ⟨some d, op, ty, pos, af, none⟩).run P w = .ok (.value v) w') (h : O P ro N ops os Q ((d, v) :: l) ds w') :
    O P ro N ops (⟨some d, op, ty, pos, af, none⟩ :: os) Q l ds w :=
  O.cons hnd fun a ha hds => by rw [hx a ha]; exact h _ (ha.put hd v) hds
theorem O.val0 {op : Op} {ty : TypeId} {pos : String} {af : Array Edge} {v : Value} {w' : World} (hnd : ∀ c, op ≠ .defer c)
    (hx : ∀ a, Env N a l → (execOp a.eval ⟨none, op, ty, pos, af, none⟩).run P w = .ok (.value v) w') (h : O P ro N ops os Q l ds w') :
    O P ro N ops (⟨none, op, ty, pos, af, none⟩ :: os) Q l ds w :=
  O.cons hnd fun a ha hds => by rw [hx a ha]; exact h _ ha hds
theorem O.unit0 {op : Op} {ty : TypeId} {pos : String} {af : Array Edge} {w' : World} (hnd : ∀ c, op ≠ .defer c)
    (hx : ∀ a, Env N a l → (execOp a.eval ⟨none, op, ty, pos, af, none⟩).run P w = .ok .skip w') (h : O P ro N ops os Q l ds w') :
    O P ro N ops (⟨none, op, ty, pos, af, none⟩ :: os) Q l ds w :=
  O.cons hnd fun a ha hds => by rw [hx a ha]; exact h _ ha hds
theorem O.call {dst : Option Tmp} {op : Op} {ty : TypeId} {pos : String} {af : Array Edge} {f : FuncId} {args : Array Value} {w' : World} (hnd : ∀ c, op ≠ .defer c)
    (hx : ∀ a, Env N a l → (execOp a.eval ⟨dst, op, ty, pos, af, none⟩).run P w = .ok (.enter f args) w')
    (h : CallsIn Fence.wide 0 P f args w' fun e w'' => ∃ v, e = .returned v ∧ ∀ a, Env N a l → a.defers = ds → opsIn P ro ops (lift N Q) os (a.put dst v) w'') :
    O P ro N ops (⟨dst, op, ty, pos, af, none⟩ :: os) Q l ds w :=
  O.cons hnd fun a ha hds => by
    rw [hx a ha]
    refine ⟨fun h => (by cases h), ?_⟩
    have h' : CallsIn (FW ro) (0 - 1) P f args w' fun e w'' => ∃ v, e = .returned v ∧ ∀ a, Env N a l → a.defers = ds → opsIn P ro ops (lift N Q) os (a.put dst v) w'' := by
      cases ro with
      | none => exact h
      | some r => exact h
    refine h'.mono fun e w'' he => ?_
    obtain ⟨v, rfl, hk⟩ := he
    exact hk a ha hds
theorem Env.yielded {a : Act} {l : Regs} {N : Nat} (h : Env N a l) {j t : Nat} {b : Bool} (hj : (ops[j]?).bind (·.dst) = some t) (hl : look l t = some (.bool b)) : yielded ops a.tmps j = some b := by
  have := h.get _ _ hl
  unfold Go.yielded
  rw [hj]
  simp [this]
theorem O.guard_t {j t : Nat} {b : Bool} {dst : Option Tmp} {op : Op} {ty : TypeId} {pos : String} {af : Array Edge} (hj : (ops[j]?).bind (·.dst) = some t) (hl : look l t = some (.bool b))
    (h : O P ro N ops (⟨dst, op, ty, pos, af, none⟩ :: os) Q l ds w) : O P ro N ops (⟨dst, op, ty, pos, af, some (j, b)⟩ :: os) Q l ds w := fun a ha hd => by
  have hy := ha.yielded (ops := ops) hj hl
  have := h a ha hd
  simp only [opsIn, Region.wanted, hy, beq_self_eq_true, if_true] at this ⊢
  exact this
theorem O.guard_f {j t : Nat} {b b' : Bool} {d : Tmp} {op : Op} {ty : TypeId} {pos : String} {af : Array Edge} (hj : (ops[j]?).bind (·.dst) = some t) (hl : look l t = some (.bool b')) (hd : Nat.blt d N = true) (hb : (b' == b) = false)
    (h : O P ro N ops os Q ((d, undef) :: l) ds w) : O P ro N ops (⟨some d, op, ty, pos, af, some (j, b)⟩ :: os) Q l ds w := fun a ha hds => by
  have hy := ha.yielded (ops := ops) hj hl
  have hne : b' ≠ b := by intro e; subst e; simp at hb
  simp only [opsIn, Region.wanted, hy]
  rw [if_neg (by simpa using hne)]
  exact h _ (ha.put (by simpa using hd) _) hds
theorem O.guard_f0 {j t : Nat} {b b' : Bool} {op : Op} {ty : TypeId} {pos : String} {af : Array Edge} (hj : (ops[j]?).bind (·.dst) = some t) (hl : look l t = some (.bool b')) (hb : (b' == b) = false)
    (h : O P ro N ops os Q l ds w) : O P ro N ops (⟨none, op, ty, pos, af, some (j, b)⟩ :: os) Q l ds w := fun a ha hds => by
  have hy := ha.yielded (ops := ops) hj hl
  have hne : b' ≠ b := by intro e; subst e; simp at hb
  simp only [opsIn, Region.wanted, hy]
  rw [if_neg (by simpa using hne)]
  exact h _ ha hds
theorem look_same {t : Nat} {v : Value} (hl : look l t = some v) : ∀ u x, look ((t, v) :: l) u = some x → look l u = some x := fun u x e => by
  rw [look_cons] at e
  by_cases h : u = t
  · subst h; rw [if_pos rfl] at e; cases e; exact hl
  · rw [if_neg h] at e; exact e
theorem O.split {t : Nat} {b : Bool} (hl : look l t = some (.bool b)) (ht : b = true → O P ro N ops os Q ((t, .bool true) :: l) ds w) (hf : b = false → O P ro N ops os Q ((t, .bool false) :: l) ds w) : O P ro N ops os Q l ds w := fun a ha hd => by
  cases b with
  | true => exact ht rfl a (ha.sub (look_same hl)) hd
  | false => exact hf rfl a (ha.sub (look_same hl)) hd
theorem O.split_p {t : Nat} {φ : Prop} [Decidable φ] (hl : look l t = some (.bool (decide φ))) (ht : φ → O P ro N ops os Q ((t, .bool true) :: l) ds w) (hf : ¬ φ → O P ro N ops os Q ((t, .bool false) :: l) ds w) : O P ro N ops os Q l ds w :=
  O.split hl (fun h => ht (of_decide_eq_true h)) (fun h => hf (of_decide_eq_false h))
theorem O.known {t : Nat} {b c : Bool} (hl : look l t = some (.bool b)) (hb : b = c) (h : O P ro N ops os Q ((t, .bool c) :: l) ds w) : O P ro N ops os Q l ds w := by
  subst hb; exact fun a ha hd => h a (ha.sub (look_same hl)) hd
theorem W.known_t {c : Operand} {x y : Code} {b : Bool} (hc : ev l c = some (.bool b)) (hb : b = true) (h : W P ro N x Q l ds w) : W P ro N (.cond c x y) Q l ds w := by
  subst hb; exact W.cond_t hc h
theorem W.known_f {c : Operand} {x y : Code} {b : Bool} (hc : ev l c = some (.bool b)) (hb : b = false) (h : W P ro N y Q l ds w) : W P ro N (.cond c x y) Q l ds w := by
  subst hb; exact W.cond_f hc h
end
end Go.Rr
