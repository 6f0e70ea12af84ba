/- A range over a function: its record, its rounds, the statement; the call of a function value, whichever it is. No program in sight. -/
import Derived.RangeFuncRecord
import Derived.Test.YtakmbbgnnbpkoaaRrMore
namespace Go.Rr
set_option linter.unusedVariables false

/-- A loop's record. -/
def lrec (N : Nat) (l : Regs) (ps : Array Tmp) (assign body : Code) (D : Nat) (st : LoopState) (pe : Option Code) (k : Nat) : HProp :=
  hex fun fn => hex fun tmps => star [hp (Env N { tmps := tmps, defers := [] } l), pt k (.loop { state := st, pending := pe, fn := fn, tmps := tmps, params := ps, assign := assign, body := body, defers := D })]
/-- The block for the deferred calls of an outermost loop's rounds: none. -/
def dblk (D : Nat) : HProp := pt D (.deferred (some []))
section
variable {P : Program} {ro : Option Nat} {N : Nat} {Q : Q0} {l : Regs} {ds : List Deferred} {w w' : World} {ops : Array Oper} {os : List Oper}
variable {d : Tmp} {ty : TypeId} {pos : String} {af : Array Edge} {L : List HProp} {ps : Array Tmp} {assign body : Code} {D k : Nat} {st : LoopState} {pe : Option Code}
theorem lrec.open (H : Holds w (lrec N l ps assign body D st pe k :: L)) : ∃ fn tmps, Env N { tmps := tmps, defers := [] } l ∧ Holds w (pt k (.loop { state := st, pending := pe, fn := fn, tmps := tmps, params := ps, assign := assign, body := body, defers := D }) :: L) := by
  obtain ⟨fn, H1⟩ := Holds.hex.1 H
  obtain ⟨tmps, H2⟩ := Holds.hex.1 H1
  have H3 := Holds.star.1 H2
  obtain ⟨he, H4⟩ := Holds.hp.1 H3
  exact ⟨fn, tmps, he, H4⟩
theorem lrec.shut {fn : FuncId} {tmps : Array Value} (he : Env N { tmps := tmps, defers := [] } l) (H : Holds w (pt k (.loop { state := st, pending := pe, fn := fn, tmps := tmps, params := ps, assign := assign, body := body, defers := D }) :: L)) : Holds w (lrec N l ps assign body D st pe k :: L) :=
  Holds.hex.2 ⟨fn, Holds.hex.2 ⟨tmps, Holds.star.2 (Holds.hp.2 ⟨he, H⟩)⟩⟩

/-- What the call of a function value comes to. -/
def VT (P : Program) : Value → List Value → World → (Value → World → Prop) → Prop
  | .func (.func f) p q, args, w, R => CallIs P f ∧ CT P f (p.toList ++ args ++ q.toList) w R
  | .func (.yield k) p q, args, w, R => p = #[] ∧ q = #[] ∧ ∃ fn tmps assign body w', (Instr.yield k args.toArray).run P w = .ok (.round k fn tmps assign body) w' ∧ RoundIn Fence.wide 0 P k fn tmps assign body w' (fun e w'' => ∃ v, e = .returned v ∧ R v w'')
  | _, _, _, _ => False
theorem VT.mono {fv : Value} {args : List Value} {R R' : Value → World → Prop} (h : VT P fv args w R) (hr : ∀ v w', R v w' → R' v w') : VT P fv args w R' := by
  match fv, h with
  | .func (.func f) p q, h => exact ⟨h.1, h.2.mono hr⟩
  | .func (.yield k) p q, ⟨h1, h2, fn, tmps, a, b, w', h3, h4⟩ => exact ⟨h1, h2, fn, tmps, a, b, w', h3, RoundIn.mono h4 fun e w'' ⟨v, e1, h⟩ => ⟨v, e1, hr _ _ h⟩⟩
theorem VT.fn {f : FuncId} {p q : Array Value} {args : List Value} {R : Value → World → Prop} (hc : CallIs P f) (h : CT P f (p.toList ++ args ++ q.toList) w R) : VT P (.func (.func f) p q) args w R := ⟨hc, h⟩
/-- A yield's two answers, with what either leaves. -/
theorem VT.two {fv : Value} {args : List Value} {A B C : World → Prop} (h : VT P fv args w fun u w' => (u = .bool true ∧ A w') ∨ (u = .bool false ∧ B w')) (hA : ∀ w, A w → C w) (hB : ∀ w, B w → C w) :
    VT P fv args w fun u w' => ∃ b, u = .bool b ∧ C w' ∧ ((b = true ∧ A w') ∨ (b = false ∧ B w')) := by
  refine h.mono fun u w' h => ?_
  rcases h with ⟨h1, h2⟩ | ⟨h1, h2⟩
  · exact ⟨true, h1, hA _ h2, .inl ⟨rfl, h2⟩⟩
  · exact ⟨false, h1, hB _ h2, .inr ⟨rfl, h2⟩⟩
theorem O.callVT0 {dst : Option Tmp} {t : Tmp} {fv : Value} {args : Array Operand} {ats : Array TypeId} {vs : List Value} (ef : look l t = some fv) (e : evs l args.toList = some vs)
    (h : VT P fv vs w fun v w' => ∀ a, Env N a l → a.defers = ds → opsIn P ro ops (lift N Q) os (a.put dst v) w') :
    O P ro N ops (⟨dst, .call ⟨.value (.tmp t), args, ats⟩, ty, pos, af, none⟩ :: os) Q l ds w := by
  match fv, h with
  | .func (.func f) p q, ⟨hf, h⟩ =>
    exact O.call nofun (fun a ha => by
      have hv : a.eval (.tmp t) = _ := ha.eval (x := .tmp t) ef
      simp [execOp, resolve, hv, Deferred.ofValue, invoke, ha.evalsA e]
      rw [hf]
      congr 2
      apply Array.ext'; simp)
      (CallsIn.mono h fun e w' ⟨v, e1, h1⟩ => ⟨v, e1, h1⟩)
  | .func (.yield k) p q, ⟨h1, h2, fn, tmps, as, bo, w', h3, h4⟩ =>
    subst h1 h2
    refine O.cons nofun fun a ha hds => ?_
    have hv : a.eval (.tmp t) = _ := ha.eval (x := .tmp t) ef
    have hx : (execOp a.eval ⟨dst, .call ⟨.value (.tmp t), args, ats⟩, ty, pos, af, none⟩).run P w = .ok (.round k fn tmps as bo) w' := by
      simp [execOp, resolve, hv, Deferred.ofValue, invoke, ha.evalsA e]
      exact h3
    rw [hx]
    refine ⟨fun h => (by cases h), ?_⟩
    have h' : RoundIn (FW ro) (0 - 1) P k fn tmps as bo w' fun e w'' => ∃ v, e = .returned v ∧ ∀ a, Env N a l → a.defers = ds → opsIn P ro ops (lift N Q) os (a.put dst v) w'' := by
      cases ro with
      | none => exact h4
      | some r => exact h4
    exact h'.mono fun e w'' he => by
      obtain ⟨v, rfl, hk⟩ := he
      exact hk a ha hds
theorem O.callVT {t : Tmp} {fv : Value} {args : Array Operand} {ats : Array TypeId} {vs : List Value} (ef : look l t = some fv) (e : evs l args.toList = some vs) (hd : Nat.blt d N = true)
    (h : VT P fv vs w fun v w' => O P ro N ops os Q ((d, v) :: l) ds w') :
    O P ro N ops (⟨some d, .call ⟨.value (.tmp t), args, ats⟩, ty, pos, af, none⟩ :: os) Q l ds w :=
  O.callVT0 ef e (h.mono fun v w' hk a ha hds => hk _ (ha.put (by simpa using hd) v) hds)

def falseQ : Q0 := fun _ _ _ _ => False
/-- How a round may be left, and what is asked then. LR: the loop's record, in a state and with a pending jump. -/
def roundQ (LR : LoopState → Option Code → HProp) (R : Value → World → Prop) : Q0
  | .normal, _, _, w => ∃ L, Holds w (LR .busy none :: L) ∧ ∀ w', Holds w' (LR .ready none :: L) → R (.bool true) w'
  | .ret, _, _, w => ∃ L, Holds w (LR .busy none :: L) ∧ ∀ w', Holds w' (LR .done (some .ret) :: L) → R (.bool false) w'
  | .exit i, _, _, w => ∃ L, Holds w (LR .busy none :: L) ∧ ∀ w', Holds w' (LR .done (some (.exit i)) :: L) → R (.bool false) w'
  | .goto t, _, _, w => ∃ L, Holds w (LR .busy none :: L) ∧ ∀ w', Holds w' (LR .done (some (.goto t)) :: L) → R (.bool false) w'
  | .panic _, _, _, _ => False
  | .outgrown, _, _, _ => False
def putRegs : List Tmp → List Value → Regs → Regs
  | t :: ts, v :: vs, l => putRegs ts vs ((t, v) :: l)
  | _, _, l => l
theorem putRegs_env : ∀ (ts : List Tmp) (vs : List Value) (l : Regs) (tmps : Array Value), (∀ t ∈ ts, t < N) → Env N { tmps := tmps, defers := [] } l → Env N { tmps := (ts.zip vs).foldl (fun tmps (t, a) => tmps.setIfInBounds t a) tmps, defers := [] } (putRegs ts vs l)
  | [], vs, l, tmps, h, he => by simpa [putRegs] using he
  | t :: ts, [], l, tmps, h, he => by simpa [putRegs] using he
  | t :: ts, v :: vs, l, tmps, h, he => by
    simp only [List.zip_cons_cons, List.foldl_cons, putRegs]
    exact putRegs_env ts vs _ _ (fun x hx => h x (by simp [hx])) (he.put (h t (by simp)) v)
theorem roundBody {R : Value → World → Prop} {l1 : Regs} {ds1 : List Deferred} (h : W P (some k) N body (roundQ (fun st pe => lrec N l ps assign body D st pe k) R) l1 ds1 w) {a : Act} (ha : Env N a l1) (hd : a.defers = ds1) :
    body.wpIn (Fence.wide.inRound k) 0 P (roundPost P k (fun e w' => ∃ v, e = .returned v ∧ R v w')) a w := by
  refine wpIn_mono (h a ha hd) ?_
  rintro e a w' ⟨l', _, hq⟩
  cases e with
  | panic c => exact hq
  | outgrown => exact hq
  | _ =>
    obtain ⟨L, H, hR⟩ := hq
    obtain ⟨fn, tmps, he, H⟩ := lrec.open H
    refine ⟨_, _, run_endRound _ H.get, _, rfl, hR _ (lrec.shut (fn := fn) he ?_)⟩
    exact H.putObj _
/-- **A call of yield, out of the walk of its round.** -/
theorem VT.round {LR : LoopState → Option Code → HProp} {R : Value → World → Prop} {args : List Value} (hLR : LR = fun st pe => lrec N l ps assign body D st pe k) (H : Holds w (LR .ready none :: L)) (hs : args.length = ps.size) (hl : (ps.toList.all fun t => Nat.blt t N) = true)
    (h : W P (some k) N assign (thenQ (fun l1 ds1 w2 => ∃ L1, Holds w2 (LR .ready none :: L1) ∧ ∀ w3, Holds w3 (LR .busy none :: L1) →
        W P (some k) N body (roundQ LR R) l1 ds1 w3) falseQ) (putRegs ps.toList args l) [] w) :
    VT P (.func (.yield k) #[] #[]) args w R := by
  subst hLR
  obtain ⟨fn, tmps, he, H0⟩ := lrec.open H
  refine ⟨rfl, rfl, fn, _, assign, body, w, run_yield H0.get (by simpa using hs), ?_⟩
  refine roundIn_of_wpIn trivial ?_
  have hl' : ∀ t ∈ ps.toList, t < N := fun t ht => by have := List.all_eq_true.1 hl t ht; simpa using this
  have hE := putRegs_env (N := N) ps.toList args l tmps hl' he
  have e0 : (ps.zip args.toArray).foldl (fun tmps (t, a) => tmps.setIfInBounds t a) tmps = (ps.toList.zip args).foldl (fun tmps (t, a) => tmps.setIfInBounds t a) tmps := by
    rw [← Array.foldl_toList, Array.toList_zip]
  refine wpIn_mono (h _ (e0 ▸ hE) rfl) ?_
  rintro e a w2 ⟨l1, ha, hq⟩
  cases e with
  | normal =>
    obtain ⟨L1, H2, h2⟩ := hq
    obtain ⟨fn', tmps', he', H3⟩ := lrec.open H2
    exact ⟨_, run_beginRound H3.get rfl, roundBody (h2 _ (lrec.shut he' (H3.putObj _))) ha rfl⟩
  | _ => exact hq.elim
/-- What is gone on with behind the statement. -/
def behind (P : Program) (N : Nat) (Q : Q0) (l : Regs) (ds : List Deferred) : Option Code → World → Prop
  | none, w => Q .normal l ds w
  | some c, w => W P none N c Q l ds w
/-- **THE STATEMENT, an outermost one.** -/
theorem W.rangeFunc {g : Operand} {f : FuncId} {p q : Array Value} (hg : ev l g = some (.func (.func f) p q)) (hf : CallIs P f) (H : Holds w L)
    (h : ∀ (LR : LoopState → Option Code → HProp) k D w1, (LR = fun st pe => lrec N l ps assign body D st pe k) → Holds w1 (LR .ready none :: dblk D :: L) →
      CT P f (p.toList ++ [.func (.yield k) #[] #[]] ++ q.toList) w1 fun _ w2 => ∃ st pe L2, st ≠ .busy ∧ Holds w2 (LR st pe :: L2) ∧ ∀ w3, Holds w3 L2 →
        behind P N Q l (⟨.collected D, #[]⟩ :: ds) pe w3) : W P none N (.rangeFunc g ps assign body) Q l ds w := by
  intro a ha hd
  refine wpIn_rangeFunc fun fn _ => ?_
  have hv : a.eval g = _ := ha.eval hg
  have H1 := (H.alloc (.deferred (some []))).alloc (.loop { state := .ready, pending := none, fn := fn, tmps := a.tmps, params := ps, assign := assign, body := body, defers := w.heap.size })
  have he : Env N { tmps := a.tmps, defers := [] } l := ⟨ha.size, ha.get⟩
  have H2 := lrec.shut he H1
  have hc := h _ _ _ _ rfl H2
  refine ⟨_, _, (w.alloc (.deferred (some []))).alloc (.loop { state := .ready, pending := none, fn := fn, tmps := a.tmps, params := ps, assign := assign, body := body, defers := w.heap.size }), ⟨.fn (.func f) q, p ++ #[Value.func (.yield (w.heap.size + 1)) #[] #[]]⟩,
    (w.alloc (.deferred (some []))).alloc (.loop { state := .ready, pending := none, fn := fn, tmps := a.tmps, params := ps, assign := assign, body := body, defers := w.heap.size }), f, (p.toList ++ [Value.func (.yield (w.heap.size + 1)) #[] #[]] ++ q.toList).toArray,
    (w.alloc (.deferred (some []))).alloc (.loop { state := .ready, pending := none, fn := fn, tmps := a.tmps, params := ps, assign := assign, body := body, defers := w.heap.size }), run_enterLoop_outer fn a.tmps ps assign body, ?_, fun _ _ => trivial, ?_, fun h => (by cases h), ?_⟩
  · simp only [resolve, hv, Deferred.ofValue, Sem.run_pure]
    simp [Act.eval]
  · simp only [invoke]
    rw [hf]
    congr 2
    apply Array.ext'; simp
  · have e1 : (w.heap.push (.deferred (some []))).size = w.heap.size + 1 := by simp
    simp only [e1] at hc
    refine CallsIn.mono hc fun e w2 ⟨v, e1, st, pe, L2, hst, H3, hk⟩ => ?_
    subst e1
    obtain ⟨fn', tmps', he', H4⟩ := lrec.open H3
    refine ⟨_, _, run_endLoop H4.get hst, ?_⟩
    have H5 : Holds _ L2 := (H4.putObj (.loop { state := .exhausted, pending := pe, fn := fn', tmps := tmps', params := ps, assign := assign, body := body, defers := w.heap.size })).drop
    have hk5 := hk _ H5
    have ha' : Env N { a with defers := [⟨.collected w.heap.size, #[]⟩] ++ a.defers } l := ⟨ha.size, ha.get⟩
    cases pe with
    | none => exact ⟨l, ha', hd ▸ hk5⟩
    | some c => exact hk5 _ ha' (by simp [hd])
theorem rangeEnd {LR : LoopState → Option Code → HProp} {w2 : World} {L2 : List HProp} (H : Holds w2 (LR st pe :: L2)) (hst : st ≠ .busy)
    (h : ∀ w3, Holds w3 L2 → behind P N Q l (⟨.collected D, #[]⟩ :: ds) pe w3) :
    ∃ st pe L2, st ≠ .busy ∧ Holds w2 (LR st pe :: L2) ∧ ∀ w3, Holds w3 L2 → behind P N Q l (⟨.collected D, #[]⟩ :: ds) pe w3 := ⟨st, pe, L2, hst, H, h⟩
theorem retD_mark {rs : List ResultVar} {R : Value → World → Prop} (h : ∀ w', Holds w' L → ∃ vs, RV P l w' rs vs ∧ R (oneOf vs) w') (H : Holds w (dblk D :: L) := by exact Holds.to (by assumption)) : retD P rs R l w [⟨.collected D, #[]⟩] :=
  ⟨L, Holds.star.2 (Holds.hex.2 ⟨D, Holds.star.2 (Holds.hp.2 ⟨rfl, H⟩)⟩), h⟩
theorem retD_mark2 {E : Nat} {rs : List ResultVar} {R : Value → World → Prop} (h : ∀ w', Holds w' L → ∃ vs, RV P l w' rs vs ∧ R (oneOf vs) w') (H : Holds w (dblk D :: dblk E :: L) := by exact Holds.to (by assumption)) : retD P rs R l w [⟨.collected D, #[]⟩, ⟨.collected E, #[]⟩] := by
  refine ⟨L, Holds.star.2 (Holds.hex.2 ⟨D, Holds.star.2 (Holds.hp.2 ⟨rfl, ?_⟩)⟩), h⟩
  refine Holds.swap (Holds.hex.2 ⟨E, Holds.star.2 (Holds.hp.2 ⟨rfl, ?_⟩)⟩)
  exact H.swap
/-! ### An operation whose guard was itself passed over -/
theorem Env.yieldedU {a : Act} {l : Regs} {N : Nat} (h : Env N a l) {j t : Nat} (hj : (ops[j]?).bind (·.dst) = some t) (hl : look l t = some undef) : Go.yielded ops a.tmps j = none := by
  have := h.get _ _ hl
  unfold Go.yielded
  rw [hj]
  simp [this, undef]
theorem O.guard_u {j t : Nat} {b : Bool} {d : Tmp} {op : Op} {ty : TypeId} {pos : String} {af : Array Edge} (hj : (ops[j]?).bind (·.dst) = some t) (hl : look l t = some undef) (hd : Nat.blt d N = true)
    (h : O P ro N ops os Q ((d, undef) :: l) ds w) : O P ro N ops (⟨some d, op, ty, pos, af, some (j, b)⟩ :: os) Q l ds w := fun a ha hds => by
  have hy := Env.yieldedU (ops := ops) ha hj hl
  simp only [opsIn, Region.wanted, hy]
  rw [if_neg (by simp)]
  exact h _ (ha.put (by simpa using hd) _) hds
theorem O.guard_u0 {j t : Nat} {b : Bool} {op : Op} {ty : TypeId} {pos : String} {af : Array Edge} (hj : (ops[j]?).bind (·.dst) = some t) (hl : look l t = some undef)
    (h : O P ro N ops os Q l ds w) : O P ro N ops (⟨none, op, ty, pos, af, some (j, b)⟩ :: os) Q l ds w := fun a ha hds => by
  have hy := Env.yieldedU (ops := ops) ha hj hl
  simp only [opsIn, Region.wanted, hy]
  rw [if_neg (by simp)]
  exact h _ ha hds
theorem OQ.exU {S : World → Prop} {plan : Plan} {i : Nat} {op : Op} {j t : Nat} {b : Bool} (hi : ops[i]? = some ⟨some d, op, ty, pos, af, some (j, b)⟩) (hj : (ops[j]?).bind (·.dst) = some t) (hl : look l t = some undef) (hd : Nat.blt d N = true) (h : OQ P ro N ops S plan Q ((d, undef) :: l) ds w) : OQ P ro N ops S (.take i plan) Q l ds w :=
  OQ.take hi (fun a ha => .inr ⟨by simp [Region.wanted, Env.yieldedU (ops := ops) ha hj hl], rfl⟩) (fun a ha ds hds => ⟨ha.put (by simpa using hd) undef, hds⟩) h
end
end Go.Rr
