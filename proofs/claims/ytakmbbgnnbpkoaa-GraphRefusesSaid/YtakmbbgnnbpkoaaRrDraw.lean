/- A region that draws its order: one plan of it, held to be as good as any order. No program in sight. -/
import Derived.OrdersIn
import Derived.Test.YtakmbbgnnbpkoaaRrOps
namespace Go.Rr
set_option linter.unusedVariables false

section
variable {P : Program} {ro : Option Nat} {ops : Array Oper}
theorem wpOpIn_ne {Q : Exit → Act → World → Prop} {K : Act → World → Prop} {i : Nat} {o : Oper} {a : Act} {w : World} (hi : ops[i]? = some o) (hnd : ∀ c, o.op ≠ .defer c) :
    wpOpIn (FW ro) 0 P ops Q i K a w ↔ if Region.wanted o (yielded ops a.tmps) then o.uponIn (FW ro) 0 P a K Q ((execOp a.eval o).run P w) else K (a.put o.dst undef) w := by
  unfold wpOpIn
  simp only [hi]
  split
  · unfold Oper.wpIn
    rw [Oper.semAt_eq _ _ _ hnd]
    exact ⟨fun h => h.2, fun h => ⟨fun _ _ => trivial, h⟩⟩
  · exact ⟨fun h => h.2, fun h => ⟨fun _ _ => trivial, h⟩⟩
def YldS (P : Program) (ops : Array Oper) (S : World → Prop) (o : Oper) (v : Value) (a : Act) : Prop :=
  (Region.wanted o (yielded ops a.tmps) = true ∧ ∀ w, S w → (execOp a.eval o).run P w = .ok (.value v) w) ∨ (Region.wanted o (yielded ops a.tmps) = false ∧ v = undef)
/-- Is the one bound to come ahead of the other one, by way of others? -/
def anc (ops : Array Oper) : Nat → Nat → Nat → Bool
  | 0, _, _ => false
  | f + 1, j, k => match ops[j]? with
    | some o => o.after.any fun e => Region.binds .any e && (e.on == k || anc ops f e.on k)
    | none => false
/-- An operation that all the others are bound to come ahead of. -/
def lastAll (ops : Array Oper) (j : Nat) : Bool := (List.range ops.size).all fun k => k == j || anc ops ops.size j k
/-- Whatever has been done, what is bound ahead of it has been done, too. -/
def closedL (ops : Array Oper) (listed : Array Bool) : Prop := ∀ k ok, ops[k]? = some ok → listed.getD k false = true → ∀ e ∈ ok.after, Region.binds .any e = true → listed.getD e.on false = true
theorem anc_spec {listed : Array Bool} (hc : closedL ops listed) : ∀ (f j k : Nat), anc ops f j k = true → listed.getD k false = false → ∃ oj, ops[j]? = some oj ∧ ∃ e ∈ oj.after, Region.binds .any e = true ∧ listed.getD e.on false = false
  | 0, j, k, h, _ => by simp [anc] at h
  | f + 1, j, k, h, hk => by
    simp only [anc] at h
    split at h
    · rename_i o ho
      obtain ⟨e, he, h2⟩ := Array.any_eq_true'.1 h
      simp only [Bool.and_eq_true, Bool.or_eq_true, beq_iff_eq] at h2
      obtain ⟨hb, h3 | h3⟩ := h2
      · exact ⟨o, ho, e, he, hb, h3 ▸ hk⟩
      · obtain ⟨o2, ho2, e2, he2, hb2, hk2⟩ := anc_spec hc f e.on k h3 hk
        refine ⟨o, ho, e, he, hb, ?_⟩
        cases hx : listed.getD e.on false with
        | false => rfl
        | true => rw [hc _ _ ho2 hx e2 he2 hb2] at hk2; cases hk2
    · cases h
theorem closedL.set {listed : Array Bool} (hc : closedL ops listed) {i : Nat} (hi : i ∈ Region.ready .any ops listed) : closedL ops (listed.setIfInBounds i true) := by
  obtain ⟨hu, oi, hoi, hall⟩ := mem_ready.1 hi
  have up : ∀ j, listed.getD j false = true → (listed.setIfInBounds i true).getD j false = true := fun j h => by
    by_cases e : i = j
    · subst e
      have : i < listed.size := by
        rcases Nat.lt_or_ge i listed.size with h' | h'
        · exact h'
        · simp [Array.getElem?_eq_none h'] at h
      simp [this]
    · rw [getD_set_ne false e]; exact h
  intro k ok hk hl e he hb
  by_cases hki : i = k
  · subst hki
    rw [hoi] at hk; cases hk
    exact up _ (hall e he hb)
  · rw [getD_set_ne false hki] at hl
    exact up _ (hc k ok hk hl e he hb)
theorem closedL.none {n : Nat} : closedL ops (Array.replicate n false) := fun k ok hk hl => by
  simp only [Array.getD_eq_getD_getElem?, Array.getElem?_replicate] at hl
  split at hl <;> cases hl
/-- Whatever order comes up, and S holds between any two operations. -/
def anyH (P : Program) (ro : Option Nat) (ops : Array Oper) (Q : Exit → Act → World → Prop) (S : World → Prop) : Nat → Array Bool → Act → World → Prop
  | 0, listed, a, w => Region.ready .any ops listed = [] ∧ Q .normal a w
  | fuel + 1, listed, a, w => (Region.ready .any ops listed = [] → Q .normal a w) ∧
    ∀ i ∈ Region.ready .any ops listed, wpOpIn (FW ro) 0 P ops Q i (fun a' w' => (lastAll ops i = true ∨ S w') ∧ anyH P ro ops Q S fuel (listed.setIfInBounds i true) a' w') a w
variable {Q : Exit → Act → World → Prop} {S : World → Prop}
theorem anyH_any : ∀ (fuel : Nat) (listed : Array Bool) (a : Act) (w : World), anyH P ro ops Q S fuel listed a w → wpAnyIn (FW ro) 0 P .any ops Q fuel listed a w
  | 0, _, _, _, h => h
  | fuel + 1, _, _, _, h => ⟨h.1, fun i hi => wpOpIn_mono (fun a' w' h' => anyH_any fuel _ a' w' h'.2) (h.2 i hi)⟩
def noDefer (ops : Array Oper) : Bool := ops.all fun o => match o.op with | .defer _ => false | .select .. => false | _ => true
theorem noDefer_spec (h : noDefer ops = true) {i : Nat} {o : Oper} (hi : ops[i]? = some o) : (∀ c, o.op ≠ .defer c) ∧ ∀ cs b, o.op ≠ .select cs b := by
  obtain ⟨hlt, rfl⟩ := Array.getElem?_eq_some_iff.1 hi
  have := (Array.all_eq_true.1 h) i hlt
  constructor
  · intro c e; rw [e] at this; cases this
  · intro c b e; rw [e] at this; cases this
theorem YldS.same {o : Oper} {v : Value} {a a' : Act} (hy : YldS P ops S o v a) (he : execOp a'.eval o = execOp a.eval o) (hw : Region.wanted o (yielded ops a'.tmps) = Region.wanted o (yielded ops a.tmps)) : YldS P ops S o v a' := by
  unfold YldS at *; rw [he, hw]; exact hy
theorem wpOpIn_putS {j : Nat} {oi oj : Oper} {v : Value} (hj : ops[j]? = some oj) (hap : oi.apart ops oj = true) (hn : ∀ c, oj.op ≠ .defer c)
    (hsi : ∀ cs b, oi.op ≠ .select cs b) (hsj : ∀ cs b, oj.op ≠ .select cs b) (hQ : ∀ c a w, Q (.panic c) (a.put oi.dst v) w → Q (.panic c) a w) {K : Act → World → Prop} {a : Act} {w : World}
    (hy : YldS P ops S oi v a) (h : wpOpIn (FW ro) 0 P ops Q j K (a.put oi.dst v) w) :
    wpOpIn (FW ro) 0 P ops Q j (fun a' w' => YldS P ops S oi v a' ∧ K (a'.put oi.dst v) w') a w := by
  obtain ⟨h1, h2, h3⟩ := Oper.apart_spec hap
  have keep : ∀ (a : Act), YldS P ops S oi v a → ∀ u, YldS P ops S oi v (a.put oj.dst u) := fun a hy u =>
    hy.same (execOp_put oi hsi a oj.dst u h3) (wanted_put oi a oj.dst u h3)
  have keepD : ∀ d, YldS P ops S oi v { a with defers := d :: a.defers } := fun d => hy.same rfl rfl
  rw [wpOpIn_ne hj hn] at h ⊢
  rw [wanted_put oj a oi.dst v h1] at h
  split
  · rename_i hw
    rw [if_pos hw, execOp_put oj hsj a oi.dst v h1] at h
    generalize (execOp a.eval oj).run P w = r at *
    cases r with
    | ok x w' =>
      cases x <;> simp only [Oper.uponIn] at h ⊢
      case value u => exact ⟨keep a hy u, by rw [← Act.put_comm a v u h2]; exact h⟩
      case skip => exact ⟨keep a hy _, by rw [← Act.put_comm a v undef h2]; exact h⟩
      case defer d =>
        refine ⟨keep _ (keepD d) _, ?_⟩
        rw [← Act.put_comm _ v undef h2, ← Act.put_defers]
        exact h
      case enter f args =>
        refine ⟨h.1, CallsIn.mono h.2 fun e w'' he => ?_⟩
        cases e with
        | returned u => exact ⟨keep a hy u, by rw [← Act.put_comm a v u h2]; exact he⟩
        | panicked c => exact hQ _ _ _ he
        | outgrown => exact he
      case row row args => exact ⟨h.1, RowsIn.mono h.2 fun u w'' he => ⟨keep a hy u, by rw [← Act.put_comm a v u h2]; exact he⟩⟩
      case round l f tmps assign body =>
        refine ⟨h.1, RoundIn.mono h.2 fun e w'' he => ?_⟩
        cases e with
        | returned u => exact ⟨keep a hy u, by rw [← Act.put_comm a v u h2]; exact he⟩
        | panicked c => exact hQ _ _ _ he
        | outgrown => exact he
    | halt x w' =>
      cases x <;> simp only [Oper.uponIn] at h ⊢
      case panic u => exact hQ _ _ _ h
  · rename_i hw
    rw [if_neg hw] at h
    exact ⟨keep a hy _, by rw [← Act.put_comm a v undef h2]; exact h⟩
theorem YldS.op {i : Nat} {o : Oper} {v : Value} {a : Act} (hi : ops[i]? = some o) (hn : ∀ c, o.op ≠ .defer c) (hy : YldS P ops S o v a) {K : Act → World → Prop} {w : World} (hS : S w) (h : K (a.put o.dst v) w) : wpOpIn (FW ro) 0 P ops Q i K a w := by
  rw [wpOpIn_ne hi hn]
  rcases hy with ⟨hw, hv⟩ | ⟨hw, rfl⟩
  · rw [if_pos hw, hv w hS]; exact h
  · rw [if_neg (by simp [hw])]; exact h
theorem anyH_first {i : Nat} {oi : Oper} {v : Value} (hi : ops[i]? = some oi) (hsel : noDefer ops = true) (hQ : ∀ c a w, Q (.panic c) (a.put oi.dst v) w → Q (.panic c) a w) :
    ∀ (fuel : Nat) (listed : Array Bool) (a : Act) (w : World), closedL ops listed →
      (∀ j oj, ops[j]? = some oj → j ≠ i → listed.getD j true = false → (∀ e ∈ oj.after, Region.binds .any e = true → e.on ≠ i) → oi.apart ops oj = true) →
      i ∈ Region.ready .any ops listed → YldS P ops S oi v a → S w →
      anyH P ro ops Q S fuel (listed.setIfInBounds i true) (a.put oi.dst v) w → anyH P ro ops Q S (fuel + 1) listed a w := by
  have hni := noDefer_spec hsel hi
  intro fuel
  induction fuel with
  | zero =>
    intro listed a w _ _ hr hy hS H
    refine ⟨fun h => (by rw [h] at hr; cases hr), fun j hj => ?_⟩
    by_cases hji : j = i
    · subst hji; exact hy.op hi hni.1 hS ⟨.inr hS, H⟩
    · have := ready_mono hj hji
      rw [H.1] at this
      cases this
  | succ fuel ih =>
    intro listed a w hcl hfree hr hy hS H
    refine ⟨fun h => (by rw [h] at hr; cases hr), fun j hj => ?_⟩
    by_cases hji : j = i
    · subst hji; exact hy.op hi hni.1 hS ⟨.inr hS, H⟩
    · have h1 := H.2 j (ready_mono hj hji)
      obtain ⟨hjun, oj, hoj, hall⟩ := mem_ready.1 hj
      have hnj := noDefer_spec hsel hoj
      have hnot : ∀ e ∈ oj.after, Region.binds .any e = true → e.on ≠ i := fun e he hb heq => by
        have h1 := hall e he hb
        have h0 := (mem_ready.1 hr).1
        rw [heq] at h1
        rcases Nat.lt_or_ge i listed.size with h' | h'
        · simp [h'] at h0 h1; rw [h0] at h1; cases h1
        · simp [Array.getElem?_eq_none h'] at h1
      have h2 := wpOpIn_putS hoj (hfree j oj hoj hji hjun hnot) hnj.1 hni.2 hnj.2 hQ hy h1
      have hfree' : ∀ k ok, ops[k]? = some ok → k ≠ i → (listed.setIfInBounds j true).getD k true = false →
          (∀ e ∈ ok.after, Region.binds .any e = true → e.on ≠ i) → oi.apart ops ok = true := fun k ok hk hki hun hno => by
        refine hfree k ok hk hki ?_ hno
        by_cases hjk : j = k
        · subst hjk; exact hjun
        · rw [getD_set_ne true hjk] at hun; exact hun
      have hiu : listed.getD i false = false := by
        have h0 := (mem_ready.1 hr).1
        rcases Nat.lt_or_ge i listed.size with h' | h'
        · simp [h'] at h0 ⊢; exact h0
        · simp [Array.getElem?_eq_none h'] at h0
      have hla : ¬ lastAll ops j = true := fun hl => by
        simp only [lastAll, List.all_eq_true, List.mem_range, Bool.or_eq_true, beq_iff_eq] at hl
        rcases hl i (Array.getElem?_eq_some_iff.1 hi).1 with h | h
        · exact hji h.symm
        · obtain ⟨o2, ho2, e, he, hb, hun⟩ := anc_spec hcl _ _ _ h hiu
          rw [hoj] at ho2; cases ho2
          rw [hall e he hb] at hun; cases hun
      refine wpOpIn_mono (fun a' w' h3 => ⟨h3.2.1, ih (listed.setIfInBounds j true) a' w' (hcl.set hj) hfree' (ready_mono hr (Ne.symm hji)) h3.1 (h3.2.1.resolve_left hla) ?_⟩) h2
      rw [Array.setIfInBounds_comm _ _ hji]
      exact h3.2.2
end

/-! ### A plan -/
/-- Each operation once, in turn. 'take': it looks at nothing that another one may turn · 'one': it is the only one that may come up then · 'two': these two may. -/
inductive Plan where
  | nil
  | take (i : Nat) (p : Plan)
  | one (i : Nat) (p : Plan)
  | two (i j : Nat) (p q : Plan)
def Plan.len : Plan → Nat
  | .nil => 0
  | .take _ p => p.len + 1
  | .one _ p => p.len + 1
  | .two _ _ p _ => p.len + 1
def planOk (ops : Array Oper) : Plan → Array Bool → Bool
  | .nil, listed => (Region.ready .any ops listed).isEmpty
  | .take i r, listed => (Region.ready .any ops listed).contains i && Region.free .any ops listed i && planOk ops r (listed.setIfInBounds i true)
  | .one i r, listed => (Region.ready .any ops listed == [i]) && planOk ops r (listed.setIfInBounds i true)
  | .two i j r q, listed => (Region.ready .any ops listed == [i, j]) && (r.len == q.len) && planOk ops r (listed.setIfInBounds i true) && planOk ops q (listed.setIfInBounds j true)
def OQ (P : Program) (ro : Option Nat) (N : Nat) (ops : Array Oper) (S : World → Prop) (plan : Plan) (Q : Q0) (l : Regs) (ds : List Deferred) (w : World) : Prop :=
  noDefer ops = true → (∀ c l ds w, ¬ Q (.panic c) l ds w) → ∀ listed, closedL ops listed → planOk ops plan listed = true → S w → ∀ a, Env N a l → a.defers = ds → anyH P ro ops (lift N Q) S plan.len listed a w
section
variable {P : Program} {ro : Option Nat} {N : Nat} {Q : Q0} {l : Regs} {ds : List Deferred} {w : World} {ops : Array Oper} {plan : Plan} {S : World → Prop}
variable {d : Tmp} {ty : TypeId} {pos : String} {af : Array Edge} {i : Nat} {op : Op} {v : Value}
theorem W.draw {id : Nat} {L : List HProp} (S : World → Prop) (plan : Plan) (hm : P.follows .mixedOrders = true) (hp : (noDefer ops && (plan.len == ops.size) && planOk ops plan (Array.replicate ops.size false)) = true)
    (hQ : ∀ c l ds w, ¬ Q (.panic c) l ds w) (H : Holds w L) (hS : ∀ w', Holds w' L → S w') (h : ∀ w', Holds w' L → OQ P ro N ops S plan Q l ds w') : W P ro N (.region id ops true) Q l ds w := fun a ha hd => by
  simp only [Bool.and_eq_true, beq_iff_eq] at hp
  have H' := H.drawn (w.drawn + 1)
  refine wpIn_region_any hm (anyH_any _ _ _ _ (S := S) ?_)
  rw [← hp.1.2]
  exact h _ H' hp.1.1 hQ _ closedL.none (by rw [hp.1.2]; exact hp.2) (hS _ H') a ha hd
theorem W.drawTo {id : Nat} {L : List HProp} (M : List HProp) (plan : Plan) (hm : P.follows .mixedOrders = true) (hQ : ∀ c l ds w, ¬ Q (.panic c) l ds w) (H : Holds w L) (hM : PP L M)
    (hp : (noDefer ops && (plan.len == ops.size) && planOk ops plan (Array.replicate ops.size false)) = true) (h : ∀ w', Holds w' L → OQ P ro N ops (fun w' => Holds w' M) plan Q l ds w') : W P ro N (.region id ops true) Q l ds w :=
  W.draw _ plan hm hp hQ H (fun w' H' => H'.pp hM) h
theorem OQ.nil (h : S w → Q .normal l ds w) : OQ P ro N ops S .nil Q l ds w := fun hn hQ listed hc hp hS a ha hd =>
  ⟨by simpa [planOk] using hp, l, ha, hd ▸ h hS⟩
theorem OQ.done (h : Q .normal l ds w) : OQ P ro N ops S .nil Q l ds w := OQ.nil fun _ => h
theorem OQ.thenNil {K : Regs → List Deferred → World → Prop} (h : S w → K l ds w) : OQ P ro N ops S .nil (thenQ K Q) l ds w := OQ.nil (Q := thenQ K Q) h
theorem OQ.take {o : Oper} {l' : Regs} (hi : ops[i]? = some o) (hy : ∀ a, Env N a l → YldS P ops S o v a) (he : ∀ a, Env N a l → ∀ ds, a.defers = ds → Env N (a.put o.dst v) l' ∧ (a.put o.dst v).defers = ds) (h : OQ P ro N ops S plan Q l' ds w) : OQ P ro N ops S (.take i plan) Q l ds w :=
  fun hn hQ listed hc hp hS a ha hd => by
    simp only [planOk, Bool.and_eq_true] at hp
    obtain ⟨he1, he2⟩ := he a ha ds hd
    exact anyH_first hi hn (fun c a w ⟨l, _, hq⟩ => absurd hq (hQ _ _ _ _)) _ listed a w hc (Region.free_spec hi hp.1.2) (by simpa using hp.1.1) (hy a ha) hS (h hn hQ _ (hc.set (by simpa using hp.1.1)) hp.2 hS _ he1 he2)
theorem OQ.ex (hi : ops[i]? = some ⟨some d, op, ty, pos, af, none⟩) (hx : ∀ w', S w' → Ex P N l op ty w' v w') (hd : Nat.blt d N = true) (h : OQ P ro N ops S plan Q ((d, v) :: l) ds w) : OQ P ro N ops S (.take i plan) Q l ds w :=
  OQ.take hi (fun a ha => .inl ⟨rfl, fun w' hS => (hx w' hS).2 _ _ _ a ha⟩) (fun a ha ds hds => ⟨ha.put (by simpa using hd) v, hds⟩) h
theorem OQ.exT {j t : Nat} {b : Bool} (hi : ops[i]? = some ⟨some d, op, ty, pos, af, some (j, b)⟩) (hj : (ops[j]?).bind (·.dst) = some t) (hl : look l t = some (.bool b)) (hx : ∀ w', S w' → Ex P N l op ty w' v w') (hd : Nat.blt d N = true) (h : OQ P ro N ops S plan Q ((d, v) :: l) ds w) : OQ P ro N ops S (.take i plan) Q l ds w :=
  OQ.take hi (fun a ha => .inl ⟨by simp [Region.wanted, ha.yielded (ops := ops) hj hl], fun w' hS => (hx w' hS).2 (some d) pos af a ha⟩) (fun a ha ds hds => ⟨ha.put (by simpa using hd) v, hds⟩) h
theorem OQ.exF {j t : Nat} {b b' : Bool} (hi : ops[i]? = some ⟨some d, op, ty, pos, af, some (j, b)⟩) (hj : (ops[j]?).bind (·.dst) = some t) (hl : look l t = some (.bool b')) (hb : (b' == b) = false) (hd : Nat.blt d N = true) (h : OQ P ro N ops S plan Q ((d, undef) :: l) ds w) : OQ P ro N ops S (.take i plan) Q l ds w :=
  OQ.take hi (fun a ha => .inr ⟨by have hne : b' ≠ b := (by intro e; subst e; simp at hb); simp [Region.wanted, ha.yielded (ops := ops) hj hl, hne], rfl⟩) (fun a ha ds hds => ⟨ha.put (by simpa using hd) undef, hds⟩) h
theorem OQ.stepOne {o : Oper} (hi : ops[i]? = some o) (h : O P ro N ops [o] (thenQ (fun l' ds' w' => S w' ∧ OQ P ro N ops S plan Q l' ds' w') Q) l ds w) (hn : noDefer ops = true) (hQ : ∀ c l ds w, ¬ Q (.panic c) l ds w) {listed : Array Bool} (hc : closedL ops (listed.setIfInBounds i true)) (hp : planOk ops plan (listed.setIfInBounds i true) = true)
    {a : Act} (ha : Env N a l) (hd : a.defers = ds) : wpOpIn (FW ro) 0 P ops (lift N Q) i (fun a' w' => (lastAll ops i = true ∨ S w') ∧ anyH P ro ops (lift N Q) S plan.len (listed.setIfInBounds i true) a' w') a w := by
  have h' := h a ha hd
  simp only [opsIn] at h'
  have hni := noDefer_spec hn hi
  rw [wpOpIn_ne hi hni.1]
  have fin : ∀ a' w', lift N (thenQ (fun l' ds' w' => S w' ∧ OQ P ro N ops S plan Q l' ds' w') Q) .normal a' w' → (lastAll ops i = true ∨ S w') ∧ anyH P ro ops (lift N Q) S plan.len (listed.setIfInBounds i true) a' w' := fun a' w' ⟨l', h1, h2, h3⟩ =>
    ⟨.inr h2, h3 hn hQ _ hc hp h2 a' h1 rfl⟩
  split
  · rename_i hw
    rw [if_pos hw] at h'
    have h2 := h'.2
    rw [Oper.semAt_eq _ _ _ hni.1] at h2
    generalize (execOp a.eval o).run P w = r at *
    cases r with
    | ok x w' =>
      cases x <;> simp only [Oper.uponIn] at h2 ⊢ <;>
        first
          | exact fin _ _ h2
          | exact ⟨h2.1, h2.2.mono fun e' w'' he => by cases e' <;> first | exact fin _ _ he | exact he⟩
          | exact ⟨h2.1, RowsIn.mono h2.2 (fun _ _ he => fin _ _ he)⟩
    | halt x w' => cases x <;> simp only [Oper.uponIn] at h2 ⊢ <;> exact h2
  · rename_i hw
    rw [if_neg hw] at h'
    exact fin _ _ h'
/-- An operation that turns something, the only one that may come up: by the rules of a plain region. -/
theorem OQ.step {o : Oper} (hi : ops[i]? = some o) (h : O P ro N ops [o] (thenQ (fun l' ds' w' => S w' ∧ OQ P ro N ops S plan Q l' ds' w') Q) l ds w) : OQ P ro N ops S (.one i plan) Q l ds w :=
  fun hn hQ listed hc hp hS a ha hd => by
    simp only [planOk, Bool.and_eq_true, beq_iff_eq] at hp
    refine ⟨fun e => (by rw [e] at hp; cases hp.1), fun j hj => ?_⟩
    rw [hp.1] at hj
    obtain rfl : j = i := by simpa using hj
    exact OQ.stepOne hi h hn hQ (hc.set (by rw [hp.1]; simp)) hp.2 ha hd
/-- The last one, which all the others come ahead of: what is kept up to it need not be kept behind it. -/
theorem OQ.last {o : Oper} (hi : ops[i]? = some o) (hla : lastAll ops i = true) (h : O P ro N ops [o] Q l ds w) : OQ P ro N ops S (.one i .nil) Q l ds w :=
  fun hn hQ listed hc hp hS a ha hd => by
    simp only [planOk, Bool.and_eq_true, beq_iff_eq] at hp
    refine ⟨fun e => (by rw [e] at hp; cases hp.1), fun j hj => ?_⟩
    rw [hp.1] at hj
    obtain rfl : j = i := by simpa using hj
    have h' := h a ha hd
    simp only [opsIn] at h'
    have hni := noDefer_spec hn hi
    rw [wpOpIn_ne hi hni.1]
    have fin : ∀ a' w', lift N Q .normal a' w' → (lastAll ops j = true ∨ S w') ∧ anyH P ro ops (lift N Q) S Plan.nil.len (listed.setIfInBounds j true) a' w' := fun a' w' hq =>
      ⟨.inl hla, by simpa using hp.2, hq⟩
    split
    · rename_i hw
      rw [if_pos hw] at h'
      have h2 := h'.2
      rw [Oper.semAt_eq _ _ _ hni.1] at h2
      generalize (execOp a.eval o).run P w = r at *
      cases r with
      | ok x w' =>
        cases x <;> simp only [Oper.uponIn] at h2 ⊢ <;>
          first
            | exact fin _ _ h2
            | exact ⟨h2.1, h2.2.mono fun e' w'' he => by cases e' <;> first | exact fin _ _ he | exact he⟩
            | exact ⟨h2.1, RowsIn.mono h2.2 (fun _ _ he => fin _ _ he)⟩
      | halt x w' => cases x <;> simp only [Oper.uponIn] at h2 ⊢ <;> exact h2
    · rename_i hw
      rw [if_neg hw] at h'
      exact fin _ _ h'
theorem OQ.two {j : Nat} {q : Plan} {o o' : Oper} (hi : ops[i]? = some o) (hj : ops[j]? = some o') (h : O P ro N ops [o] (thenQ (fun l' ds' w' => S w' ∧ OQ P ro N ops S plan Q l' ds' w') Q) l ds w)
    (h' : O P ro N ops [o'] (thenQ (fun l' ds' w' => S w' ∧ OQ P ro N ops S q Q l' ds' w') Q) l ds w) : OQ P ro N ops S (.two i j plan q) Q l ds w :=
  fun hn hQ listed hc hp hS a ha hd => by
    simp only [planOk, Bool.and_eq_true, beq_iff_eq] at hp
    obtain ⟨⟨⟨hp1, hp2⟩, hp3⟩, hp4⟩ := hp
    refine ⟨fun e => (by rw [e] at hp1; cases hp1), fun k hk => ?_⟩
    rw [hp1] at hk
    simp only [List.mem_cons, List.not_mem_nil, or_false] at hk
    rcases hk with rfl | rfl
    · exact OQ.stepOne hi h hn hQ (hc.set (by rw [hp1]; simp)) hp3 ha hd
    · have := OQ.stepOne (listed := listed) hj h' hn hQ (hc.set (by rw [hp1]; simp)) hp4 ha hd
      rw [← hp2] at this
      exact this
theorem OQ.split {t : Nat} {b : Bool} (hl : look l t = some (.bool b)) (ht : b = true → OQ P ro N ops S plan Q ((t, .bool true) :: l) ds w) (hf : b = false → OQ P ro N ops S plan Q ((t, .bool false) :: l) ds w) : OQ P ro N ops S plan Q l ds w := fun hn hQ listed hc hp hS a ha hd => by
  cases b with
  | true => exact ht rfl hn hQ listed hc hp hS a (ha.sub (look_same hl)) hd
  | false => exact hf rfl hn hQ listed hc hp hS a (ha.sub (look_same hl)) hd
theorem OQ.split_p {t : Nat} {φ : Prop} [Decidable φ] (hl : look l t = some (.bool (decide φ))) (ht : φ → OQ P ro N ops S plan Q ((t, .bool true) :: l) ds w) (hf : ¬ φ → OQ P ro N ops S plan Q ((t, .bool false) :: l) ds w) : OQ P ro N ops S plan Q l ds w :=
  OQ.split hl (fun h => ht (of_decide_eq_true h)) (fun h => hf (of_decide_eq_false h))
theorem OQ.known {t : Nat} {b c : Bool} (hl : look l t = some (.bool b)) (hb : b = c) (h : OQ P ro N ops S plan Q ((t, .bool c) :: l) ds w) : OQ P ro N ops S plan Q l ds w := by
  subst hb; exact fun hn hQ listed hc hp hS a ha hd => h hn hQ listed hc hp hS a (ha.sub (look_same hl)) hd
end
end Go.Rr
