import Derived.Test.YtakmbbgnnbpkoaaUndoLaw2
import Derived.Test.YtakmbbgnnbpkoaaRrCutN
--ARR
--DEEP
namespace Go.Proofs.Ytakmbbgnnbpkoaa
open Go.Rr Go Gr
set_option linter.unusedVariables false
set_option linter.unusedSimpArgs false
instance : Inhabited Sl := ⟨Sl.zero⟩
def gE (n most : Int) (s : St) : List Value := (List.range 322).map (rf n most s s)
theorem gE_len {n most : Int} (s : St) : (gE n most s).length = 322 := by unfold gE; rw [List.length_map, List.length_range]
theorem gE_one {n most : Int} (s : St) : ∀ c ∈ gE n most s, c.oneCell' = true := by
  intro c hc
  obtain ⟨i, _, rfl⟩ := List.mem_map.1 hc
  exact rf_one i
theorem gE_val {n most : Int} (s : St) : Value.agg (gE n most s).toArray = cval 322 (rf n most s s) := rfl
def aE (a : Arc) : List Value := [.int .i64 a.t, .int .i64 a.h, .int .i64 a.w, .bool a.cl]
theorem aE_len (a : Arc) : (aE a).length = 4 := rfl
theorem aE_one (a : Arc) : ∀ c ∈ aE a, c.oneCell' = true := List.all_eq_true.1 rfl
abbrev TG : Nat := 54
abbrev TA : Nat := 31
abbrev rbc (g k : Nat) (v1 v2 : Value) : Array Value := #[.pointer (some ⟨g, 0, none⟩), .int .i64 (k : Int), v1, v2]
def RBO (r g k : Nat) (v1 v2 : Value) (n most : Int) (s : St) (ws : List St) (az : List Arc) : HProp := star [pt r (.cells (rbc g k v1 v2) 107 (0, 0)), Rg g n most s, arrN TG 322 (gE n most) v1 ws, arrN TA 4 aE v2 az]
theorem rbo_open {w : World} {r g k : Nat} {v1 v2 : Value} {n most : Int} {s : St} {ws : List St} {az : List Arc} {L : List HProp} : Holds w (RBO r g k v1 v2 n most s ws az :: L) ↔ Holds w (pt r (.cells (rbc g k v1 v2) 107 (0, 0)) :: Rg g n most s :: arrN TG 322 (gE n most) v1 ws :: arrN TA 4 aE v2 az :: L) := by
  unfold RBO
  simp only [Holds.star, List.cons_append, List.nil_append]
/-- The document's book: of each change that is noted, the graph ahead of it, and its arc. -/
def RB (r k : Nat) (n most : Int) (s : St) (hs : List (St × Arc)) : HProp := hex fun g => hex fun v1 => hex fun v2 => RBO r g k v1 v2 n most s (hs.map Prod.fst) (hs.map Prod.snd)
theorem rb_open {w : World} {r k : Nat} {n most : Int} {s : St} {hs : List (St × Arc)} {L : List HProp} : Holds w (RB r k n most s hs :: L) ↔ ∃ g v1 v2, Holds w (RBO r g k v1 v2 n most s (hs.map Prod.fst) (hs.map Prod.snd) :: L) := by
  unfold RB
  simp only [Holds.hex]
section
variable {P : Program} {ro : Option Nat} {N : Nat} {Q : Q0} {l : Regs} {ds : List Deferred} {w w' : World} {ops : Array Oper} {os : List Oper}
variable {d : Tmp} {ty : TypeId} {pos : String} {af : Array Edge} {x y : Operand} {t T : TypeId} {L : List HProp} {n most : Int} {s : St} {r : Nat}
theorem Ex.loadRg (ht : AggIs P t true) (hz : SizeIs P t 322) (e1 : ev l x = some (.pointer (some ⟨r, 0, none⟩))) (H : Holds w (Rg r n most s :: L) := by exact Holds.to (by assumption)) : Ex P N l (.load t x) ty w (.agg (gE n most s).toArray) w := by
  have h := Ex.loadAggC (N := N) (ty := ty) (m := 322) (b := r) (q := 0) (f := rf n most s s) ht hz e1 H (by omega)
  rw [show cval 322 (fun k => rf n most s s (0 + k)) = cval 322 (rf n most s s) from cval_congr fun i _ => by rw [Nat.zero_add]] at h
  exact h
theorem O.storeRg {f : Nat → Value} (hs : SizeIs P t 322) (e1 : ev l x = some (.pointer (some ⟨r, 0, none⟩))) (e2 : ev l y = some (.agg (gE n most s).toArray)) (hk : ∀ w', Holds w' (Rg r n most s :: L) → O P ro N ops os Q l ds w')
    (H : Holds w (cel r 54 322 f :: L)) : O P ro N ops (⟨none, .store t x y, ty, pos, af, none⟩ :: os) Q l ds w :=
  O.storeAllC (g := rf n most s s) hs e1 e2 (fun i hi => rf_one _) H hk
theorem Ex.loadLastN {α : Type} [Inhabited α] {T sz : Nat} {e : α → List Value} {v : Value} {xs : List α} {z : α} {i : Int} (ht : AggIs P t true) (hs : SizeIs P t sz) (e1 : ev l x = some (.pointer (some (aAt v (i.toNat * sz))))) (he : ∀ x, (e x).length = sz) (hi : i.toNat = xs.length)
    (H : Holds w (arrN T sz e v (xs ++ [z]) :: L) := by exact Holds.to (by assumption)) : Ex P N l (.load t x) ty w (.agg (e z).toArray) w := by
  have hl : (xs ++ [z]).length = xs.length + 1 := by simp
  have h := Ex.loadAggN (N := N) (ty := ty) ht hs e1 H he (by omega)
  have e2 : (xs ++ [z]).getD i.toNat default = z := by
    rw [hi]; simp
  rw [e2] at h
  exact h
theorem arrN_pop {α : Type} {T sz : Nat} {e : α → List Value} {v : Value} {xs : List α} {z : α} {i : Int} (he : ∀ x, (e x).length = sz) (hi : i.toNat = xs.length) (H : Holds w (arrN T sz e v (xs ++ [z]) :: L)) : Holds w (arrN T sz e (hiV v i.toNat) xs :: L) := by
  have hl : (xs ++ [z]).length = xs.length + 1 := by simp
  have h := arrN_take (hi := xs.length) he H (by omega)
  rw [List.take_left] at h
  rw [hi]
  exact h
end
theorem new24_ct {w : World} {n most room : Int} {L : List HProp} (h0 : 0 ≤ room) (H : Holds w L) :
    CT Try.prog 54 [.int .i64 n, .int .i64 most, .int .i64 room] w fun u w' => ∃ r, u = .pointer (some ⟨r, 0, none⟩) ∧ Holds w' (RB r room.toNat n most noS [] :: L) := by
  refine CT.enter (N := 13) Try.func54 rfl rfl rfl rfl ?_
  refine W.seq (fun K0 hK0 => ?_)
  refine W.region ?_
  refine O.ex (Ex.assign rfl) rfl ?_
  refine O.nil ?_
  refine hK0 _ _ _ ?_
  refine W.seq (fun K1 hK1 => ?_)
  refine W.region ?_
  refine O.ex (Ex.move rfl) rfl ?_
  refine O.ex (Ex.move rfl) rfl ?_
  refine O.callF Try.call27 rfl rfl (CT.mono (rnew_ct (Holds.to (by assumption))) ?_)
  rintro _ w ⟨g, rfl, H⟩
  refine O.ex (Ex.move rfl) rfl ?_
  refine O.ex (Ex.build rfl (bld107_0_1 _ _ (by first | rfl | assumption) (by first | rfl | assumption))) rfl ?_
  refine O.boxP rfl (fun b12 w H => ?_)
  refine O.ex (Ex.assign rfl) rfl ?_
  refine O.nil ?_
  refine hK1 _ _ _ ?_
  refine W.ret ?_
  try dsimp only [thenQ, blockQ, retQ]
  first | refine ⟨_, ⟨_, _, rfl, rfl, rfl⟩, ?_⟩ | (refine retD_mark ?_; intro w H; refine ⟨_, ⟨_, _, rfl, rfl, rfl⟩, ?_⟩) | (refine retD_mark2 ?_; intro w H; refine ⟨_, ⟨_, _, rfl, rfl, rfl⟩, ?_⟩)
  have H := arrN_nil (T := TG) (sz := 322) (e := gE n most) (arrN_nil (T := TA) (sz := 4) (e := aE) H)
  refine ⟨b12, rfl, rb_open.2 ⟨g, .slice none 0 0, .slice none 0 0, rbo_open.2 ?_⟩⟩
  have e : ((room.toNat : Nat) : Int) = room := by omega
  unfold rbc
  rw [e]
  exact Holds.to H
theorem rends_ct {w : World} {r1 r2 : Nat} {n most : Int} {s s' : St} {a : Arc} {L : List HProp} (H : Holds w (Rg r1 n most s :: Rg r2 n most s' :: L)) :
    CT Try.prog 96 [a.val, .pointer (some ⟨r1, 0, none⟩), .pointer (some ⟨r2, 0, none⟩)] w fun u w' => u = .agg (ecs s s' a) ∧ Holds w' (Rg r1 n most s :: Rg r2 n most s' :: L) := by
  refine CT.enter (N := 49) Try.func96 rfl rfl rfl rfl ?_
  refine W.seq (fun K0 hK0 => ?_)
  refine W.region ?_
  refine O.boxP rfl (fun b3 w H => ?_)
  have H : Holds w (pt b3 (.cells (acs a) 31 (0, 0)) :: Rg r1 n most s :: Rg r2 n most s' :: L) := H
  refine O.allocP Try.zeroValue96 (fun b6 w H => ?_)
  have H : Holds w (pt b6 (.cells ezc 96 (0, 0)) :: pt b3 (.cells (acs a) 31 (0, 0)) :: Rg r1 n most s :: Rg r2 n most s' :: L) := H
  refine O.nil ?_
  refine hK0 _ _ _ ?_
  refine W.seq (fun K1 hK1 => ?_)
  refine W.region ?_
  refine O.ex (Ex.move rfl) rfl ?_
  refine O.ex (by first | exact Ex.field0 fld31_0 rfl | exact Ex.field fld31_0 rfl | exact Ex.fieldS fld31_0 rfl) rfl ?_
  refine O.ex (by first | exact Ex.loadMh Try.isAgg3 rfl | exact Ex.loadP Try.isAgg3 rfl | exact Ex.loadM Try.isAgg3 rfl | exact Ex.loadIn1 Try.isAgg3 rfl (Holds.to (by assumption)) | exact Ex.loadVc Try.isAgg3 rfl | exact Ex.loadR Try.isAgg3 rfl | exact Ex.loadQ Try.isAgg3 rfl) rfl ?_
  refine O.ex (by first | exact Ex.field0 fld31_1 rfl | exact Ex.field fld31_1 rfl | exact Ex.fieldS fld31_1 rfl) rfl ?_
  refine O.ex (by first | exact Ex.loadMh Try.isAgg3 rfl | exact Ex.loadP Try.isAgg3 rfl | exact Ex.loadM Try.isAgg3 rfl | exact Ex.loadIn1 Try.isAgg3 rfl (Holds.to (by assumption)) | exact Ex.loadVc Try.isAgg3 rfl | exact Ex.loadR Try.isAgg3 rfl | exact Ex.loadQ Try.isAgg3 rfl) rfl ?_
  refine O.callF Try.call22 rfl rfl (CT.mono (rbest_ct (r := r1) (Holds.to (by assumption))) ?_)
  rintro _ w ⟨rfl, H⟩
  refine O.ex (Ex.move rfl) rfl ?_
  refine O.ex (Ex.extract rfl rfl) rfl ?_
  refine O.ex (Ex.extract rfl rfl) rfl ?_
  refine O.ex (Ex.assign rfl) rfl ?_
  refine O.ex (Ex.assign rfl) rfl ?_
  refine O.nil ?_
  refine hK1 _ _ _ ?_
  refine W.seq (fun K2 hK2 => ?_)
  refine W.region ?_
  refine O.ex (Ex.move rfl) rfl ?_
  refine O.ex (by first | exact Ex.field0 fld31_0 rfl | exact Ex.field fld31_0 rfl | exact Ex.fieldS fld31_0 rfl) rfl ?_
  refine O.ex (by first | exact Ex.loadMh Try.isAgg3 rfl | exact Ex.loadP Try.isAgg3 rfl | exact Ex.loadM Try.isAgg3 rfl | exact Ex.loadIn1 Try.isAgg3 rfl (Holds.to (by assumption)) | exact Ex.loadVc Try.isAgg3 rfl | exact Ex.loadR Try.isAgg3 rfl | exact Ex.loadQ Try.isAgg3 rfl) rfl ?_
  refine O.ex (by first | exact Ex.field0 fld31_1 rfl | exact Ex.field fld31_1 rfl | exact Ex.fieldS fld31_1 rfl) rfl ?_
  refine O.ex (by first | exact Ex.loadMh Try.isAgg3 rfl | exact Ex.loadP Try.isAgg3 rfl | exact Ex.loadM Try.isAgg3 rfl | exact Ex.loadIn1 Try.isAgg3 rfl (Holds.to (by assumption)) | exact Ex.loadVc Try.isAgg3 rfl | exact Ex.loadR Try.isAgg3 rfl | exact Ex.loadQ Try.isAgg3 rfl) rfl ?_
  refine O.callF Try.call22 rfl rfl (CT.mono (rbest_ct (r := r2) (Holds.to (by assumption))) ?_)
  rintro _ w ⟨rfl, H⟩
  refine O.ex (Ex.move rfl) rfl ?_
  refine O.ex (Ex.extract rfl rfl) rfl ?_
  refine O.ex (Ex.extract rfl rfl) rfl ?_
  refine O.ex (Ex.assign rfl) rfl ?_
  refine O.ex (Ex.assign rfl) rfl ?_
  refine O.nil ?_
  refine hK2 _ _ _ ?_
  refine W.seq (fun K3 hK3 => ?_)
  refine W.region ?_
  refine O.ex (by first | exact Ex.field0 fld31_0 rfl | exact Ex.field fld31_0 rfl | exact Ex.fieldS fld31_0 rfl) rfl ?_
  refine O.ex (by first | exact Ex.loadMh Try.isAgg3 rfl | exact Ex.loadP Try.isAgg3 rfl | exact Ex.loadM Try.isAgg3 rfl | exact Ex.loadIn1 Try.isAgg3 rfl (Holds.to (by assumption)) | exact Ex.loadVc Try.isAgg3 rfl | exact Ex.loadR Try.isAgg3 rfl | exact Ex.loadQ Try.isAgg3 rfl) rfl ?_
  refine O.ex (by first | exact Ex.field0 fld31_1 rfl | exact Ex.field fld31_1 rfl | exact Ex.fieldS fld31_1 rfl) rfl ?_
  refine O.ex (by first | exact Ex.loadMh Try.isAgg3 rfl | exact Ex.loadP Try.isAgg3 rfl | exact Ex.loadM Try.isAgg3 rfl | exact Ex.loadIn1 Try.isAgg3 rfl (Holds.to (by assumption)) | exact Ex.loadVc Try.isAgg3 rfl | exact Ex.loadR Try.isAgg3 rfl | exact Ex.loadQ Try.isAgg3 rfl) rfl ?_
  refine O.ex (by first | exact Ex.field0 fld31_0 rfl | exact Ex.field fld31_0 rfl | exact Ex.fieldS fld31_0 rfl) rfl ?_
  refine O.ex (by first | exact Ex.loadMh Try.isAgg3 rfl | exact Ex.loadP Try.isAgg3 rfl | exact Ex.loadM Try.isAgg3 rfl | exact Ex.loadIn1 Try.isAgg3 rfl (Holds.to (by assumption)) | exact Ex.loadVc Try.isAgg3 rfl | exact Ex.loadR Try.isAgg3 rfl | exact Ex.loadQ Try.isAgg3 rfl) rfl ?_
  refine O.ex (by first | exact Ex.field0 fld31_1 rfl | exact Ex.field fld31_1 rfl | exact Ex.fieldS fld31_1 rfl) rfl ?_
  refine O.ex (by first | exact Ex.loadMh Try.isAgg3 rfl | exact Ex.loadP Try.isAgg3 rfl | exact Ex.loadM Try.isAgg3 rfl | exact Ex.loadIn1 Try.isAgg3 rfl (Holds.to (by assumption)) | exact Ex.loadVc Try.isAgg3 rfl | exact Ex.loadR Try.isAgg3 rfl | exact Ex.loadQ Try.isAgg3 rfl) rfl ?_
  refine O.ex (Ex.neqI rfl rfl) rfl ?_
  refine O.ex (Ex.move rfl) rfl ?_
  first | refine O.split_p (t := 38) rfl (fun hne => ?_) (fun heq => ?_) | refine O.split (t := 38) rfl (fun hne => ?_) (fun heq => ?_)
  · refine O.guard_t rfl rfl ?_
    refine O.ex (Ex.move rfl) rfl ?_
    refine O.guard_t rfl rfl ?_
    refine O.ex (Ex.move rfl) rfl ?_
    refine O.guard_t rfl rfl ?_
    refine O.ex (Ex.neqI rfl rfl) rfl ?_
    refine O.guard_t rfl rfl ?_
    refine O.ex (Ex.move rfl) rfl ?_
    first | refine O.split_p (t := 42) rfl (fun hA => ?_) (fun hB => ?_) | refine O.split (t := 42) rfl (fun hA => ?_) (fun hB => ?_)
    · refine O.guard_f rfl rfl rfl rfl ?_
      refine O.guard_f rfl rfl rfl rfl ?_
      refine O.guard_f rfl rfl rfl rfl ?_
      refine O.guard_t rfl rfl ?_
      refine O.ex (Ex.pick_t rfl rfl) rfl ?_
      refine O.ex (Ex.pick_t rfl rfl) rfl ?_
      refine O.ex (Ex.build rfl (bld96_0_1_2 _ _ _ (by first | rfl | assumption) (by first | rfl | assumption) (by first | rfl | assumption))) rfl ?_
      first | refine O.storeAggP Try.sizeOf96 rfl rfl rfl rfl (fun w H => ?_) | refine O.storeAggN Try.sizeOf96 rfl rfl rfl (fun w H => ?_) rfl
      refine O.nil ?_
      refine hK3 _ _ _ ?_
      refine W.ret ?_
      try dsimp only [thenQ, blockQ, retQ]
      first | refine ⟨_, ⟨_, _, _, rfl, rfl, (by first | exact loadVar_mtx Try.isAgg96 Try.sizeOf96 | exact loadVar_agg Try.isAgg96 Try.sizeOf96), rfl⟩, ?_⟩ | (refine retD_mark ?_; intro w H; refine ⟨_, ⟨_, _, _, rfl, rfl, (by first | exact loadVar_mtx Try.isAgg96 Try.sizeOf96 | exact loadVar_agg Try.isAgg96 Try.sizeOf96), rfl⟩, ?_⟩) | (refine retD_mark2 ?_; intro w H; refine ⟨_, ⟨_, _, _, rfl, rfl, (by first | exact loadVar_mtx Try.isAgg96 Try.sizeOf96 | exact loadVar_agg Try.isAgg96 Try.sizeOf96), rfl⟩, ?_⟩)
      refine ⟨?_, Holds.to (by assumption)⟩
      unfold ecs tnd
      first
      | (have hA' : ¬ (best s a.t a.h).1 = (best s' a.t a.h).1 := hA
         have e : ¬ ((best s' a.t a.h).1 = (best s a.t a.h).1 ∧ (best s' a.t a.h).2 = (best s a.t a.h).2) := fun hh => hA' hh.1.symm
         rw [decide_eq_true (show a.t ≠ a.h from hne), Bool.true_and, decide_eq_true e]; rfl)
      | (have hB' : (best s a.t a.h).1 = (best s' a.t a.h).1 := Decidable.not_not.1 hB
         rw [decide_eq_true (show a.t ≠ a.h from hne), Bool.true_and]
         refine congrArg (fun b => Value.agg #[.int .i64 a.t, .int .i64 a.h, .bool b]) ?_
         by_cases h2 : (best s a.t a.h).2 = (best s' a.t a.h).2
         · have e : ¬ (¬ ((best s' a.t a.h).1 = (best s a.t a.h).1 ∧ (best s' a.t a.h).2 = (best s a.t a.h).2)) := fun k => k ⟨hB'.symm, h2.symm⟩
           have e2 : ¬ ¬ (best s a.t a.h).2 = (best s' a.t a.h).2 := fun k => k h2
           rw [decide_eq_false e, decide_eq_false e2]
         · have e : ¬ ((best s' a.t a.h).1 = (best s a.t a.h).1 ∧ (best s' a.t a.h).2 = (best s a.t a.h).2) := fun k => h2 k.2.symm
           rw [decide_eq_true e, decide_eq_true h2])
      | (rw [decide_eq_false (show ¬ a.t ≠ a.h from heq), Bool.false_and]; rfl)
    · refine O.guard_t rfl rfl ?_
      refine O.ex (Ex.move rfl) rfl ?_
      refine O.guard_t rfl rfl ?_
      refine O.ex (Ex.move rfl) rfl ?_
      refine O.guard_t rfl rfl ?_
      refine O.ex (Ex.neqI rfl rfl) rfl ?_
      refine O.guard_t rfl rfl ?_
      refine O.ex (Ex.pick_f rfl rfl) rfl ?_
      refine O.ex (Ex.pick_t rfl rfl) rfl ?_
      refine O.ex (Ex.build rfl (bld96_0_1_2 _ _ _ (by first | rfl | assumption) (by first | rfl | assumption) (by first | rfl | assumption))) rfl ?_
      first | refine O.storeAggP Try.sizeOf96 rfl rfl rfl rfl (fun w H => ?_) | refine O.storeAggN Try.sizeOf96 rfl rfl rfl (fun w H => ?_) rfl
      refine O.nil ?_
      refine hK3 _ _ _ ?_
      refine W.ret ?_
      try dsimp only [thenQ, blockQ, retQ]
      first | refine ⟨_, ⟨_, _, _, rfl, rfl, (by first | exact loadVar_mtx Try.isAgg96 Try.sizeOf96 | exact loadVar_agg Try.isAgg96 Try.sizeOf96), rfl⟩, ?_⟩ | (refine retD_mark ?_; intro w H; refine ⟨_, ⟨_, _, _, rfl, rfl, (by first | exact loadVar_mtx Try.isAgg96 Try.sizeOf96 | exact loadVar_agg Try.isAgg96 Try.sizeOf96), rfl⟩, ?_⟩) | (refine retD_mark2 ?_; intro w H; refine ⟨_, ⟨_, _, _, rfl, rfl, (by first | exact loadVar_mtx Try.isAgg96 Try.sizeOf96 | exact loadVar_agg Try.isAgg96 Try.sizeOf96), rfl⟩, ?_⟩)
      refine ⟨?_, Holds.to (by assumption)⟩
      unfold ecs tnd
      first
      | (have hA' : ¬ (best s a.t a.h).1 = (best s' a.t a.h).1 := hA
         have e : ¬ ((best s' a.t a.h).1 = (best s a.t a.h).1 ∧ (best s' a.t a.h).2 = (best s a.t a.h).2) := fun hh => hA' hh.1.symm
         rw [decide_eq_true (show a.t ≠ a.h from hne), Bool.true_and, decide_eq_true e]; rfl)
      | (have hB' : (best s a.t a.h).1 = (best s' a.t a.h).1 := Decidable.not_not.1 hB
         rw [decide_eq_true (show a.t ≠ a.h from hne), Bool.true_and]
         refine congrArg (fun b => Value.agg #[.int .i64 a.t, .int .i64 a.h, .bool b]) ?_
         by_cases h2 : (best s a.t a.h).2 = (best s' a.t a.h).2
         · have e : ¬ (¬ ((best s' a.t a.h).1 = (best s a.t a.h).1 ∧ (best s' a.t a.h).2 = (best s a.t a.h).2)) := fun k => k ⟨hB'.symm, h2.symm⟩
           have e2 : ¬ ¬ (best s a.t a.h).2 = (best s' a.t a.h).2 := fun k => k h2
           rw [decide_eq_false e, decide_eq_false e2]
         · have e : ¬ ((best s' a.t a.h).1 = (best s a.t a.h).1 ∧ (best s' a.t a.h).2 = (best s a.t a.h).2) := fun k => h2 k.2.symm
           rw [decide_eq_true e, decide_eq_true h2])
      | (rw [decide_eq_false (show ¬ a.t ≠ a.h from heq), Bool.false_and]; rfl)
  · refine O.guard_f rfl rfl rfl rfl ?_
    refine O.guard_f rfl rfl rfl rfl ?_
    refine O.guard_f rfl rfl rfl rfl ?_
    refine O.guard_f rfl rfl rfl rfl ?_
    refine O.guard_u rfl rfl rfl ?_
    refine O.guard_u rfl rfl rfl ?_
    refine O.guard_u rfl rfl rfl ?_
    refine O.guard_f rfl rfl rfl rfl ?_
    refine O.ex (Ex.pick_f rfl rfl) rfl ?_
    refine O.ex (Ex.build rfl (bld96_0_1_2 _ _ _ (by first | rfl | assumption) (by first | rfl | assumption) (by first | rfl | assumption))) rfl ?_
    first | refine O.storeAggP Try.sizeOf96 rfl rfl rfl rfl (fun w H => ?_) | refine O.storeAggN Try.sizeOf96 rfl rfl rfl (fun w H => ?_) rfl
    refine O.nil ?_
    refine hK3 _ _ _ ?_
    refine W.ret ?_
    try dsimp only [thenQ, blockQ, retQ]
    first | refine ⟨_, ⟨_, _, _, rfl, rfl, (by first | exact loadVar_mtx Try.isAgg96 Try.sizeOf96 | exact loadVar_agg Try.isAgg96 Try.sizeOf96), rfl⟩, ?_⟩ | (refine retD_mark ?_; intro w H; refine ⟨_, ⟨_, _, _, rfl, rfl, (by first | exact loadVar_mtx Try.isAgg96 Try.sizeOf96 | exact loadVar_agg Try.isAgg96 Try.sizeOf96), rfl⟩, ?_⟩) | (refine retD_mark2 ?_; intro w H; refine ⟨_, ⟨_, _, _, rfl, rfl, (by first | exact loadVar_mtx Try.isAgg96 Try.sizeOf96 | exact loadVar_agg Try.isAgg96 Try.sizeOf96), rfl⟩, ?_⟩)
    refine ⟨?_, Holds.to (by assumption)⟩
    unfold ecs tnd
    first
    | (have hA' : ¬ (best s a.t a.h).1 = (best s' a.t a.h).1 := hA
       have e : ¬ ((best s' a.t a.h).1 = (best s a.t a.h).1 ∧ (best s' a.t a.h).2 = (best s a.t a.h).2) := fun hh => hA' hh.1.symm
       rw [decide_eq_true (show a.t ≠ a.h from hne), Bool.true_and, decide_eq_true e]; rfl)
    | (have hB' : (best s a.t a.h).1 = (best s' a.t a.h).1 := Decidable.not_not.1 hB
       rw [decide_eq_true (show a.t ≠ a.h from hne), Bool.true_and]
       refine congrArg (fun b => Value.agg #[.int .i64 a.t, .int .i64 a.h, .bool b]) ?_
       by_cases h2 : (best s a.t a.h).2 = (best s' a.t a.h).2
       · have e : ¬ (¬ ((best s' a.t a.h).1 = (best s a.t a.h).1 ∧ (best s' a.t a.h).2 = (best s a.t a.h).2)) := fun k => k ⟨hB'.symm, h2.symm⟩
         have e2 : ¬ ¬ (best s a.t a.h).2 = (best s' a.t a.h).2 := fun k => k h2
         rw [decide_eq_false e, decide_eq_false e2]
       · have e : ¬ ((best s' a.t a.h).1 = (best s a.t a.h).1 ∧ (best s' a.t a.h).2 = (best s a.t a.h).2) := fun k => h2 k.2.symm
         rw [decide_eq_true e, decide_eq_true h2])
    | (rw [decide_eq_false (show ¬ a.t ≠ a.h from heq), Bool.false_and]; rfl)
set_option maxHeartbeats 1000000 in
theorem do24_ct {w : World} {r : Nat} {n most : Int} {s : St} {op : OpM} {L : List HProp} (h0 : 0 ≤ op.f_W) (H : Holds w (Rg r n most s :: L)) :
    CT Try.prog 102 [.pointer (some ⟨r, 0, none⟩), op.val] w fun u w' => u = .int .i64 (opC n most s op) ∧ Holds w' (Rg r n most (opS n most s op) :: L) := by
  refine CT.enter (N := 44) Try.func102 rfl rfl rfl rfl ?_
  refine W.seq (fun K0 hK0 => ?_)
  refine W.region ?_
  refine O.boxP rfl (fun b3 w H => ?_)
  have H : Holds w (pt b3 (.cells op.cs 91 (0, 0)) :: Rg r n most s :: L) := H
  refine O.ex (Ex.assign rfl) rfl ?_
  refine O.nil ?_
  refine hK0 _ _ _ ?_
  refine W.seq (fun K1 hK1 => ?_)
  refine W.seq (fun K2 hK2 => ?_)
  refine W.region ?_
  refine O.ex (by first | exact Ex.field0 fld91_0 rfl | exact Ex.field fld91_0 rfl | exact Ex.fieldS fld91_0 rfl) rfl ?_
  refine O.ex (by first | exact Ex.loadMh Try.isAgg3 rfl | exact Ex.loadP Try.isAgg3 rfl | exact Ex.loadM Try.isAgg3 rfl | exact Ex.loadIn1 Try.isAgg3 rfl (Holds.to (by assumption)) | exact Ex.loadVc Try.isAgg3 rfl | exact Ex.loadR Try.isAgg3 rfl | exact Ex.loadQ Try.isAgg3 rfl) rfl ?_
  refine O.nil ?_
  refine hK2 _ _ _ ?_
  refine W.block ?_
  refine W.seq (fun K3 hK3 => ?_)
  refine W.region ?_
  refine O.ex (Ex.eqlI rfl rfl) rfl ?_
  refine O.ex (Ex.assign rfl) rfl ?_
  refine O.nil ?_
  refine hK3 _ _ _ ?_
  first | refine W.cond_p rfl (fun h1 => ?_) (fun h1 => ?_) | refine W.cond_b rfl (fun h1 => ?_) (fun h1 => ?_)
  · refine W.seq (fun K4 hK4 => ?_)
    refine W.drawTo (pt b3 (.cells op.cs 91 (0, 0)) :: []) (.take 0 (.take 1 (.take 2 (.take 3 (.take 4 (.take 5 (.take 6 (.take 7 (.one 8 (.take 9 (.one 10 (.take 11 .nil)))))))))))) (mixed) (fun _ _ _ _ h => h) (by assumption) PP.auto (by decide +kernel) (fun w H => ?_)
    refine OQ.ex rfl (fun w H => (Ex.move rfl)) rfl ?_
    refine OQ.ex rfl (fun w H => (by first | exact Ex.field0 fld91_1 rfl | exact Ex.field fld91_1 rfl | exact Ex.fieldS fld91_1 rfl)) rfl ?_
    refine OQ.ex rfl (fun w H => (by first | exact Ex.loadMh Try.isAgg3 rfl | exact Ex.loadP Try.isAgg3 rfl | exact Ex.loadM Try.isAgg3 rfl | exact Ex.loadIn1 Try.isAgg3 rfl (Holds.to (by assumption)) | exact Ex.loadVc Try.isAgg3 rfl | exact Ex.loadR Try.isAgg3 rfl | exact Ex.loadQ Try.isAgg3 rfl)) rfl ?_
    refine OQ.ex rfl (fun w H => (by first | exact Ex.field0 fld91_2 rfl | exact Ex.field fld91_2 rfl | exact Ex.fieldS fld91_2 rfl)) rfl ?_
    refine OQ.ex rfl (fun w H => (by first | exact Ex.loadMh Try.isAgg3 rfl | exact Ex.loadP Try.isAgg3 rfl | exact Ex.loadM Try.isAgg3 rfl | exact Ex.loadIn1 Try.isAgg3 rfl (Holds.to (by assumption)) | exact Ex.loadVc Try.isAgg3 rfl | exact Ex.loadR Try.isAgg3 rfl | exact Ex.loadQ Try.isAgg3 rfl)) rfl ?_
    refine OQ.ex rfl (fun w H => (by first | exact Ex.field0 fld91_3 rfl | exact Ex.field fld91_3 rfl | exact Ex.fieldS fld91_3 rfl)) rfl ?_
    refine OQ.ex rfl (fun w H => (by first | exact Ex.loadMh Try.isAgg3 rfl | exact Ex.loadP Try.isAgg3 rfl | exact Ex.loadM Try.isAgg3 rfl | exact Ex.loadIn1 Try.isAgg3 rfl (Holds.to (by assumption)) | exact Ex.loadVc Try.isAgg3 rfl | exact Ex.loadR Try.isAgg3 rfl | exact Ex.loadQ Try.isAgg3 rfl)) rfl ?_
    refine OQ.ex rfl (fun w H => (by first | exact Ex.loadAggP Try.isAgg91 Try.sizeOf91 rfl | exact Ex.loadAggN Try.isAgg91 Try.sizeOf91 rfl | exact Ex.loadIn Try.isAgg91 Try.sizeOf91 rfl (Holds.to (by assumption)))) rfl ?_
    refine OQ.step rfl ?_
    refine O.callF Try.call132 rfl rfl (CT.mono (refWeight24_ct (op := op) h0 (Holds.to (by assumption))) ?_)
    rintro _ w ⟨rfl, H⟩
    refine O.thenNil ⟨(by first | exact Holds.to (by assumption) | assumption), ?_⟩
    refine OQ.ex rfl (fun w H => (Ex.build rfl (bld31_0_1_2 _ _ _ (by first | rfl | assumption) (by first | rfl | assumption) (by first | rfl | assumption)))) rfl ?_
    refine OQ.step rfl ?_
    refine O.callF Try.call67 rfl rfl (CT.mono (rinsert_ct (a := op.ar) (Holds.to (by assumption))) ?_)
    rintro _ w ⟨rfl, H⟩
    refine O.thenNil ⟨(by first | exact Holds.to (by assumption) | assumption), ?_⟩
    refine OQ.ex rfl (fun w H => (Ex.assign rfl)) rfl ?_
    refine OQ.done ?_
    refine hK4 _ _ _ ?_
    refine W.ret ?_
    try dsimp only [thenQ, blockQ, retQ]
    first | refine ⟨_, ⟨_, _, rfl, rfl, rfl⟩, ?_⟩ | (refine retD_mark ?_; intro w H; refine ⟨_, ⟨_, _, rfl, rfl, rfl⟩, ?_⟩) | (refine retD_mark2 ?_; intro w H; refine ⟨_, ⟨_, _, rfl, rfl, rfl⟩, ?_⟩)
    unfold opC opS
    first
    | (have k1 : op.f_Kind = 1 := h1
       rw [if_pos k1, if_pos k1]; exact ⟨rfl, Holds.to (by assumption)⟩)
    | (have k2 : op.f_Kind = 2 := h2
       rw [if_neg h1, if_neg h1, if_pos k2, if_pos k2]; exact ⟨rfl, Holds.to (by assumption)⟩)
    | (exact absurd (show op.f_Kind = 3 by assumption) (show ¬ op.f_Kind = 3 by assumption))
    | (have k3 : op.f_Kind = 3 := by assumption
       rw [if_neg h1, if_neg h1, if_neg h2, if_neg h2, if_pos k3, if_pos k3]; rw [decide_eq_true k3] at H; rw [decide_eq_true k3]; exact ⟨rfl, Holds.to (by assumption)⟩)
    | (have k3 : ¬ op.f_Kind = 3 := by assumption
       have k4 : op.f_Kind = 4 := by assumption
       rw [if_neg h1, if_neg h1, if_neg h2, if_neg h2, if_neg k3, if_neg k3, if_pos k4, if_pos k4]; rw [decide_eq_false k3] at H; rw [decide_eq_false k3]; exact ⟨rfl, Holds.to (by assumption)⟩)
    | (have k3 : ¬ op.f_Kind = 3 := by assumption
       have k4 : ¬ op.f_Kind = 4 := by assumption
       have k5 : op.f_Kind = 5 := h5
       rw [if_neg h1, if_neg h1, if_neg h2, if_neg h2, if_neg k3, if_neg k3, if_neg k4, if_neg k4, if_pos k5, if_pos k5]; exact ⟨rfl, Holds.to (by assumption)⟩)
    | (have k3 : ¬ op.f_Kind = 3 := by assumption
       have k4 : ¬ op.f_Kind = 4 := by assumption
       have k5 : ¬ op.f_Kind = 5 := h5
       rw [if_neg h1, if_neg h1, if_neg h2, if_neg h2, if_neg k3, if_neg k3, if_neg k4, if_neg k4, if_neg k5, if_neg k5]; exact ⟨rfl, Holds.to (by assumption)⟩)
  · refine W.seq (fun K5 hK5 => ?_)
    refine W.region ?_
    refine O.ex (Ex.eqlI rfl rfl) rfl ?_
    refine O.ex (Ex.assign rfl) rfl ?_
    refine O.nil ?_
    refine hK5 _ _ _ ?_
    first | refine W.cond_p rfl (fun h2 => ?_) (fun h2 => ?_) | refine W.cond_b rfl (fun h2 => ?_) (fun h2 => ?_)
    · refine W.seq (fun K6 hK6 => ?_)
      refine W.region ?_
      refine O.ex (Ex.move rfl) rfl ?_
      refine O.ex (by first | exact Ex.field0 fld91_1 rfl | exact Ex.field fld91_1 rfl | exact Ex.fieldS fld91_1 rfl) rfl ?_
      refine O.ex (by first | exact Ex.loadMh Try.isAgg3 rfl | exact Ex.loadP Try.isAgg3 rfl | exact Ex.loadM Try.isAgg3 rfl | exact Ex.loadIn1 Try.isAgg3 rfl (Holds.to (by assumption)) | exact Ex.loadVc Try.isAgg3 rfl | exact Ex.loadR Try.isAgg3 rfl | exact Ex.loadQ Try.isAgg3 rfl) rfl ?_
      refine O.callF Try.call68 rfl rfl (CT.mono (rdelete_ct (Holds.to (by assumption))) ?_)
      rintro _ w ⟨rfl, H⟩
      refine O.ex (Ex.assign rfl) rfl ?_
      refine O.nil ?_
      refine hK6 _ _ _ ?_
      refine W.ret ?_
      try dsimp only [thenQ, blockQ, retQ]
      first | refine ⟨_, ⟨_, _, rfl, rfl, rfl⟩, ?_⟩ | (refine retD_mark ?_; intro w H; refine ⟨_, ⟨_, _, rfl, rfl, rfl⟩, ?_⟩) | (refine retD_mark2 ?_; intro w H; refine ⟨_, ⟨_, _, rfl, rfl, rfl⟩, ?_⟩)
      unfold opC opS
      first
      | (have k1 : op.f_Kind = 1 := h1
         rw [if_pos k1, if_pos k1]; exact ⟨rfl, Holds.to (by assumption)⟩)
      | (have k2 : op.f_Kind = 2 := h2
         rw [if_neg h1, if_neg h1, if_pos k2, if_pos k2]; exact ⟨rfl, Holds.to (by assumption)⟩)
      | (exact absurd (show op.f_Kind = 3 by assumption) (show ¬ op.f_Kind = 3 by assumption))
      | (have k3 : op.f_Kind = 3 := by assumption
         rw [if_neg h1, if_neg h1, if_neg h2, if_neg h2, if_pos k3, if_pos k3]; rw [decide_eq_true k3] at H; rw [decide_eq_true k3]; exact ⟨rfl, Holds.to (by assumption)⟩)
      | (have k3 : ¬ op.f_Kind = 3 := by assumption
         have k4 : op.f_Kind = 4 := by assumption
         rw [if_neg h1, if_neg h1, if_neg h2, if_neg h2, if_neg k3, if_neg k3, if_pos k4, if_pos k4]; rw [decide_eq_false k3] at H; rw [decide_eq_false k3]; exact ⟨rfl, Holds.to (by assumption)⟩)
      | (have k3 : ¬ op.f_Kind = 3 := by assumption
         have k4 : ¬ op.f_Kind = 4 := by assumption
         have k5 : op.f_Kind = 5 := h5
         rw [if_neg h1, if_neg h1, if_neg h2, if_neg h2, if_neg k3, if_neg k3, if_neg k4, if_neg k4, if_pos k5, if_pos k5]; exact ⟨rfl, Holds.to (by assumption)⟩)
      | (have k3 : ¬ op.f_Kind = 3 := by assumption
         have k4 : ¬ op.f_Kind = 4 := by assumption
         have k5 : ¬ op.f_Kind = 5 := h5
         rw [if_neg h1, if_neg h1, if_neg h2, if_neg h2, if_neg k3, if_neg k3, if_neg k4, if_neg k4, if_neg k5, if_neg k5]; exact ⟨rfl, Holds.to (by assumption)⟩)
    · refine W.seq (fun K7 hK7 => ?_)
      refine W.seq (fun K8 hK8 => ?_)
      refine W.region ?_
      refine O.ex (Ex.eqlI rfl rfl) rfl ?_
      refine O.ex (Ex.assign rfl) rfl ?_
      refine O.nil ?_
      refine hK8 _ _ _ ?_
      first | refine W.cond_p rfl (fun h3 => ?_) (fun h3 => ?_) | refine W.cond_b rfl (fun h3 => ?_) (fun h3 => ?_)
      · refine W.skip ?_
        refine hK7 _ _ _ ?_
        first | refine W.cond_p rfl (fun h3 => ?_) (fun h3 => ?_) | refine W.cond_b rfl (fun h3 => ?_) (fun h3 => ?_)
        · refine W.seq (fun K9 hK9 => ?_)
          refine W.region ?_
          refine O.ex (Ex.move rfl) rfl ?_
          refine O.ex (by first | exact Ex.field0 fld91_1 rfl | exact Ex.field fld91_1 rfl | exact Ex.fieldS fld91_1 rfl) rfl ?_
          refine O.ex (by first | exact Ex.loadMh Try.isAgg3 rfl | exact Ex.loadP Try.isAgg3 rfl | exact Ex.loadM Try.isAgg3 rfl | exact Ex.loadIn1 Try.isAgg3 rfl (Holds.to (by assumption)) | exact Ex.loadVc Try.isAgg3 rfl | exact Ex.loadR Try.isAgg3 rfl | exact Ex.loadQ Try.isAgg3 rfl) rfl ?_
          refine O.ex (by first | exact Ex.field0 fld91_0 rfl | exact Ex.field fld91_0 rfl | exact Ex.fieldS fld91_0 rfl) rfl ?_
          refine O.ex (by first | exact Ex.loadMh Try.isAgg3 rfl | exact Ex.loadP Try.isAgg3 rfl | exact Ex.loadM Try.isAgg3 rfl | exact Ex.loadIn1 Try.isAgg3 rfl (Holds.to (by assumption)) | exact Ex.loadVc Try.isAgg3 rfl | exact Ex.loadR Try.isAgg3 rfl | exact Ex.loadQ Try.isAgg3 rfl) rfl ?_
          refine O.ex (Ex.eqlI rfl rfl) rfl ?_
          refine O.callF Try.call69 rfl rfl (CT.mono (rturn_ct (Holds.to (by assumption))) ?_)
          rintro _ w ⟨rfl, H⟩
          refine O.ex (Ex.assign rfl) rfl ?_
          refine O.nil ?_
          refine hK9 _ _ _ ?_
          refine W.ret ?_
          try dsimp only [thenQ, blockQ, retQ]
          first | refine ⟨_, ⟨_, _, rfl, rfl, rfl⟩, ?_⟩ | (refine retD_mark ?_; intro w H; refine ⟨_, ⟨_, _, rfl, rfl, rfl⟩, ?_⟩) | (refine retD_mark2 ?_; intro w H; refine ⟨_, ⟨_, _, rfl, rfl, rfl⟩, ?_⟩)
          unfold opC opS
          first
          | (have k1 : op.f_Kind = 1 := h1
             rw [if_pos k1, if_pos k1]; exact ⟨rfl, Holds.to (by assumption)⟩)
          | (have k2 : op.f_Kind = 2 := h2
             rw [if_neg h1, if_neg h1, if_pos k2, if_pos k2]; exact ⟨rfl, Holds.to (by assumption)⟩)
          | (exact absurd (show op.f_Kind = 3 by assumption) (show ¬ op.f_Kind = 3 by assumption))
          | (have k3 : op.f_Kind = 3 := by assumption
             rw [if_neg h1, if_neg h1, if_neg h2, if_neg h2, if_pos k3, if_pos k3]; rw [decide_eq_true k3] at H; rw [decide_eq_true k3]; exact ⟨rfl, Holds.to (by assumption)⟩)
          | (have k3 : ¬ op.f_Kind = 3 := by assumption
             have k4 : op.f_Kind = 4 := by assumption
             rw [if_neg h1, if_neg h1, if_neg h2, if_neg h2, if_neg k3, if_neg k3, if_pos k4, if_pos k4]; rw [decide_eq_false k3] at H; rw [decide_eq_false k3]; exact ⟨rfl, Holds.to (by assumption)⟩)
          | (have k3 : ¬ op.f_Kind = 3 := by assumption
             have k4 : ¬ op.f_Kind = 4 := by assumption
             have k5 : op.f_Kind = 5 := h5
             rw [if_neg h1, if_neg h1, if_neg h2, if_neg h2, if_neg k3, if_neg k3, if_neg k4, if_neg k4, if_pos k5, if_pos k5]; exact ⟨rfl, Holds.to (by assumption)⟩)
          | (have k3 : ¬ op.f_Kind = 3 := by assumption
             have k4 : ¬ op.f_Kind = 4 := by assumption
             have k5 : ¬ op.f_Kind = 5 := h5
             rw [if_neg h1, if_neg h1, if_neg h2, if_neg h2, if_neg k3, if_neg k3, if_neg k4, if_neg k4, if_neg k5, if_neg k5]; exact ⟨rfl, Holds.to (by assumption)⟩)
        · refine W.seq (fun K10 hK10 => ?_)
          refine W.region ?_
          refine O.ex (Ex.eqlI rfl rfl) rfl ?_
          refine O.ex (Ex.assign rfl) rfl ?_
          refine O.nil ?_
          refine hK10 _ _ _ ?_
          first | refine W.cond_p rfl (fun h5 => ?_) (fun h5 => ?_) | refine W.cond_b rfl (fun h5 => ?_) (fun h5 => ?_)
          · refine W.seq (fun K11 hK11 => ?_)
            refine W.drawTo (pt b3 (.cells op.cs 91 (0, 0)) :: []) (.take 0 (.take 1 (.take 2 (.take 3 (.one 4 (.one 5 (.take 6 .nil))))))) (mixed) (fun _ _ _ _ h => h) (by assumption) PP.auto (by decide +kernel) (fun w H => ?_)
            refine OQ.ex rfl (fun w H => (Ex.move rfl)) rfl ?_
            refine OQ.ex rfl (fun w H => (by first | exact Ex.field0 fld91_1 rfl | exact Ex.field fld91_1 rfl | exact Ex.fieldS fld91_1 rfl)) rfl ?_
            refine OQ.ex rfl (fun w H => (by first | exact Ex.loadMh Try.isAgg3 rfl | exact Ex.loadP Try.isAgg3 rfl | exact Ex.loadM Try.isAgg3 rfl | exact Ex.loadIn1 Try.isAgg3 rfl (Holds.to (by assumption)) | exact Ex.loadVc Try.isAgg3 rfl | exact Ex.loadR Try.isAgg3 rfl | exact Ex.loadQ Try.isAgg3 rfl)) rfl ?_
            refine OQ.ex rfl (fun w H => (by first | exact Ex.loadAggP Try.isAgg91 Try.sizeOf91 rfl | exact Ex.loadAggN Try.isAgg91 Try.sizeOf91 rfl | exact Ex.loadIn Try.isAgg91 Try.sizeOf91 rfl (Holds.to (by assumption)))) rfl ?_
            refine OQ.step rfl ?_
            refine O.callF Try.call132 rfl rfl (CT.mono (refWeight24_ct (op := op) h0 (Holds.to (by assumption))) ?_)
            rintro _ w ⟨rfl, H⟩
            refine O.thenNil ⟨(by first | exact Holds.to (by assumption) | assumption), ?_⟩
            refine OQ.step rfl ?_
            refine O.callF Try.call70 rfl rfl (CT.mono (rweigh_ct (Holds.to (by assumption))) ?_)
            rintro _ w ⟨rfl, H⟩
            refine O.thenNil ⟨(by first | exact Holds.to (by assumption) | assumption), ?_⟩
            refine OQ.ex rfl (fun w H => (Ex.assign rfl)) rfl ?_
            refine OQ.done ?_
            refine hK11 _ _ _ ?_
            refine W.ret ?_
            try dsimp only [thenQ, blockQ, retQ]
            first | refine ⟨_, ⟨_, _, rfl, rfl, rfl⟩, ?_⟩ | (refine retD_mark ?_; intro w H; refine ⟨_, ⟨_, _, rfl, rfl, rfl⟩, ?_⟩) | (refine retD_mark2 ?_; intro w H; refine ⟨_, ⟨_, _, rfl, rfl, rfl⟩, ?_⟩)
            unfold opC opS
            first
            | (have k1 : op.f_Kind = 1 := h1
               rw [if_pos k1, if_pos k1]; exact ⟨rfl, Holds.to (by assumption)⟩)
            | (have k2 : op.f_Kind = 2 := h2
               rw [if_neg h1, if_neg h1, if_pos k2, if_pos k2]; exact ⟨rfl, Holds.to (by assumption)⟩)
            | (exact absurd (show op.f_Kind = 3 by assumption) (show ¬ op.f_Kind = 3 by assumption))
            | (have k3 : op.f_Kind = 3 := by assumption
               rw [if_neg h1, if_neg h1, if_neg h2, if_neg h2, if_pos k3, if_pos k3]; rw [decide_eq_true k3] at H; rw [decide_eq_true k3]; exact ⟨rfl, Holds.to (by assumption)⟩)
            | (have k3 : ¬ op.f_Kind = 3 := by assumption
               have k4 : op.f_Kind = 4 := by assumption
               rw [if_neg h1, if_neg h1, if_neg h2, if_neg h2, if_neg k3, if_neg k3, if_pos k4, if_pos k4]; rw [decide_eq_false k3] at H; rw [decide_eq_false k3]; exact ⟨rfl, Holds.to (by assumption)⟩)
            | (have k3 : ¬ op.f_Kind = 3 := by assumption
               have k4 : ¬ op.f_Kind = 4 := by assumption
               have k5 : op.f_Kind = 5 := h5
               rw [if_neg h1, if_neg h1, if_neg h2, if_neg h2, if_neg k3, if_neg k3, if_neg k4, if_neg k4, if_pos k5, if_pos k5]; exact ⟨rfl, Holds.to (by assumption)⟩)
            | (have k3 : ¬ op.f_Kind = 3 := by assumption
               have k4 : ¬ op.f_Kind = 4 := by assumption
               have k5 : ¬ op.f_Kind = 5 := h5
               rw [if_neg h1, if_neg h1, if_neg h2, if_neg h2, if_neg k3, if_neg k3, if_neg k4, if_neg k4, if_neg k5, if_neg k5]; exact ⟨rfl, Holds.to (by assumption)⟩)
          · refine W.skip ?_
            refine hK1 _ _ _ ?_
            refine W.seq (fun K12 hK12 => ?_)
            refine W.region ?_
            refine O.ex (Ex.assign rfl) rfl ?_
            refine O.nil ?_
            refine hK12 _ _ _ ?_
            refine W.ret ?_
            try dsimp only [thenQ, blockQ, retQ]
            first | refine ⟨_, ⟨_, _, rfl, rfl, rfl⟩, ?_⟩ | (refine retD_mark ?_; intro w H; refine ⟨_, ⟨_, _, rfl, rfl, rfl⟩, ?_⟩) | (refine retD_mark2 ?_; intro w H; refine ⟨_, ⟨_, _, rfl, rfl, rfl⟩, ?_⟩)
            unfold opC opS
            first
            | (have k1 : op.f_Kind = 1 := h1
               rw [if_pos k1, if_pos k1]; exact ⟨rfl, Holds.to (by assumption)⟩)
            | (have k2 : op.f_Kind = 2 := h2
               rw [if_neg h1, if_neg h1, if_pos k2, if_pos k2]; exact ⟨rfl, Holds.to (by assumption)⟩)
            | (exact absurd (show op.f_Kind = 3 by assumption) (show ¬ op.f_Kind = 3 by assumption))
            | (have k3 : op.f_Kind = 3 := by assumption
               rw [if_neg h1, if_neg h1, if_neg h2, if_neg h2, if_pos k3, if_pos k3]; rw [decide_eq_true k3] at H; rw [decide_eq_true k3]; exact ⟨rfl, Holds.to (by assumption)⟩)
            | (have k3 : ¬ op.f_Kind = 3 := by assumption
               have k4 : op.f_Kind = 4 := by assumption
               rw [if_neg h1, if_neg h1, if_neg h2, if_neg h2, if_neg k3, if_neg k3, if_pos k4, if_pos k4]; rw [decide_eq_false k3] at H; rw [decide_eq_false k3]; exact ⟨rfl, Holds.to (by assumption)⟩)
            | (have k3 : ¬ op.f_Kind = 3 := by assumption
               have k4 : ¬ op.f_Kind = 4 := by assumption
               have k5 : op.f_Kind = 5 := h5
               rw [if_neg h1, if_neg h1, if_neg h2, if_neg h2, if_neg k3, if_neg k3, if_neg k4, if_neg k4, if_pos k5, if_pos k5]; exact ⟨rfl, Holds.to (by assumption)⟩)
            | (have k3 : ¬ op.f_Kind = 3 := by assumption
               have k4 : ¬ op.f_Kind = 4 := by assumption
               have k5 : ¬ op.f_Kind = 5 := h5
               rw [if_neg h1, if_neg h1, if_neg h2, if_neg h2, if_neg k3, if_neg k3, if_neg k4, if_neg k4, if_neg k5, if_neg k5]; exact ⟨rfl, Holds.to (by assumption)⟩)
      · refine W.region ?_
        refine O.ex (Ex.eqlI rfl rfl) rfl ?_
        refine O.ex (Ex.assign rfl) rfl ?_
        refine O.nil ?_
        refine hK7 _ _ _ ?_
        first | refine W.cond_p rfl (fun h3 => ?_) (fun h3 => ?_) | refine W.cond_b rfl (fun h3 => ?_) (fun h3 => ?_)
        · refine W.seq (fun K13 hK13 => ?_)
          refine W.region ?_
          refine O.ex (Ex.move rfl) rfl ?_
          refine O.ex (by first | exact Ex.field0 fld91_1 rfl | exact Ex.field fld91_1 rfl | exact Ex.fieldS fld91_1 rfl) rfl ?_
          refine O.ex (by first | exact Ex.loadMh Try.isAgg3 rfl | exact Ex.loadP Try.isAgg3 rfl | exact Ex.loadM Try.isAgg3 rfl | exact Ex.loadIn1 Try.isAgg3 rfl (Holds.to (by assumption)) | exact Ex.loadVc Try.isAgg3 rfl | exact Ex.loadR Try.isAgg3 rfl | exact Ex.loadQ Try.isAgg3 rfl) rfl ?_
          refine O.ex (by first | exact Ex.field0 fld91_0 rfl | exact Ex.field fld91_0 rfl | exact Ex.fieldS fld91_0 rfl) rfl ?_
          refine O.ex (by first | exact Ex.loadMh Try.isAgg3 rfl | exact Ex.loadP Try.isAgg3 rfl | exact Ex.loadM Try.isAgg3 rfl | exact Ex.loadIn1 Try.isAgg3 rfl (Holds.to (by assumption)) | exact Ex.loadVc Try.isAgg3 rfl | exact Ex.loadR Try.isAgg3 rfl | exact Ex.loadQ Try.isAgg3 rfl) rfl ?_
          refine O.ex (Ex.eqlI rfl rfl) rfl ?_
          refine O.callF Try.call69 rfl rfl (CT.mono (rturn_ct (Holds.to (by assumption))) ?_)
          rintro _ w ⟨rfl, H⟩
          refine O.ex (Ex.assign rfl) rfl ?_
          refine O.nil ?_
          refine hK13 _ _ _ ?_
          refine W.ret ?_
          try dsimp only [thenQ, blockQ, retQ]
          first | refine ⟨_, ⟨_, _, rfl, rfl, rfl⟩, ?_⟩ | (refine retD_mark ?_; intro w H; refine ⟨_, ⟨_, _, rfl, rfl, rfl⟩, ?_⟩) | (refine retD_mark2 ?_; intro w H; refine ⟨_, ⟨_, _, rfl, rfl, rfl⟩, ?_⟩)
          unfold opC opS
          first
          | (have k1 : op.f_Kind = 1 := h1
             rw [if_pos k1, if_pos k1]; exact ⟨rfl, Holds.to (by assumption)⟩)
          | (have k2 : op.f_Kind = 2 := h2
             rw [if_neg h1, if_neg h1, if_pos k2, if_pos k2]; exact ⟨rfl, Holds.to (by assumption)⟩)
          | (exact absurd (show op.f_Kind = 3 by assumption) (show ¬ op.f_Kind = 3 by assumption))
          | (have k3 : op.f_Kind = 3 := by assumption
             rw [if_neg h1, if_neg h1, if_neg h2, if_neg h2, if_pos k3, if_pos k3]; rw [decide_eq_true k3] at H; rw [decide_eq_true k3]; exact ⟨rfl, Holds.to (by assumption)⟩)
          | (have k3 : ¬ op.f_Kind = 3 := by assumption
             have k4 : op.f_Kind = 4 := by assumption
             rw [if_neg h1, if_neg h1, if_neg h2, if_neg h2, if_neg k3, if_neg k3, if_pos k4, if_pos k4]; rw [decide_eq_false k3] at H; rw [decide_eq_false k3]; exact ⟨rfl, Holds.to (by assumption)⟩)
          | (have k3 : ¬ op.f_Kind = 3 := by assumption
             have k4 : ¬ op.f_Kind = 4 := by assumption
             have k5 : op.f_Kind = 5 := h5
             rw [if_neg h1, if_neg h1, if_neg h2, if_neg h2, if_neg k3, if_neg k3, if_neg k4, if_neg k4, if_pos k5, if_pos k5]; exact ⟨rfl, Holds.to (by assumption)⟩)
          | (have k3 : ¬ op.f_Kind = 3 := by assumption
             have k4 : ¬ op.f_Kind = 4 := by assumption
             have k5 : ¬ op.f_Kind = 5 := h5
             rw [if_neg h1, if_neg h1, if_neg h2, if_neg h2, if_neg k3, if_neg k3, if_neg k4, if_neg k4, if_neg k5, if_neg k5]; exact ⟨rfl, Holds.to (by assumption)⟩)
        · refine W.seq (fun K14 hK14 => ?_)
          refine W.region ?_
          refine O.ex (Ex.eqlI rfl rfl) rfl ?_
          refine O.ex (Ex.assign rfl) rfl ?_
          refine O.nil ?_
          refine hK14 _ _ _ ?_
          first | refine W.cond_p rfl (fun h5 => ?_) (fun h5 => ?_) | refine W.cond_b rfl (fun h5 => ?_) (fun h5 => ?_)
          · refine W.seq (fun K15 hK15 => ?_)
            refine W.drawTo (pt b3 (.cells op.cs 91 (0, 0)) :: []) (.take 0 (.take 1 (.take 2 (.take 3 (.one 4 (.one 5 (.take 6 .nil))))))) (mixed) (fun _ _ _ _ h => h) (by assumption) PP.auto (by decide +kernel) (fun w H => ?_)
            refine OQ.ex rfl (fun w H => (Ex.move rfl)) rfl ?_
            refine OQ.ex rfl (fun w H => (by first | exact Ex.field0 fld91_1 rfl | exact Ex.field fld91_1 rfl | exact Ex.fieldS fld91_1 rfl)) rfl ?_
            refine OQ.ex rfl (fun w H => (by first | exact Ex.loadMh Try.isAgg3 rfl | exact Ex.loadP Try.isAgg3 rfl | exact Ex.loadM Try.isAgg3 rfl | exact Ex.loadIn1 Try.isAgg3 rfl (Holds.to (by assumption)) | exact Ex.loadVc Try.isAgg3 rfl | exact Ex.loadR Try.isAgg3 rfl | exact Ex.loadQ Try.isAgg3 rfl)) rfl ?_
            refine OQ.ex rfl (fun w H => (by first | exact Ex.loadAggP Try.isAgg91 Try.sizeOf91 rfl | exact Ex.loadAggN Try.isAgg91 Try.sizeOf91 rfl | exact Ex.loadIn Try.isAgg91 Try.sizeOf91 rfl (Holds.to (by assumption)))) rfl ?_
            refine OQ.step rfl ?_
            refine O.callF Try.call132 rfl rfl (CT.mono (refWeight24_ct (op := op) h0 (Holds.to (by assumption))) ?_)
            rintro _ w ⟨rfl, H⟩
            refine O.thenNil ⟨(by first | exact Holds.to (by assumption) | assumption), ?_⟩
            refine OQ.step rfl ?_
            refine O.callF Try.call70 rfl rfl (CT.mono (rweigh_ct (Holds.to (by assumption))) ?_)
            rintro _ w ⟨rfl, H⟩
            refine O.thenNil ⟨(by first | exact Holds.to (by assumption) | assumption), ?_⟩
            refine OQ.ex rfl (fun w H => (Ex.assign rfl)) rfl ?_
            refine OQ.done ?_
            refine hK15 _ _ _ ?_
            refine W.ret ?_
            try dsimp only [thenQ, blockQ, retQ]
            first | refine ⟨_, ⟨_, _, rfl, rfl, rfl⟩, ?_⟩ | (refine retD_mark ?_; intro w H; refine ⟨_, ⟨_, _, rfl, rfl, rfl⟩, ?_⟩) | (refine retD_mark2 ?_; intro w H; refine ⟨_, ⟨_, _, rfl, rfl, rfl⟩, ?_⟩)
            unfold opC opS
            first
            | (have k1 : op.f_Kind = 1 := h1
               rw [if_pos k1, if_pos k1]; exact ⟨rfl, Holds.to (by assumption)⟩)
            | (have k2 : op.f_Kind = 2 := h2
               rw [if_neg h1, if_neg h1, if_pos k2, if_pos k2]; exact ⟨rfl, Holds.to (by assumption)⟩)
            | (exact absurd (show op.f_Kind = 3 by assumption) (show ¬ op.f_Kind = 3 by assumption))
            | (have k3 : op.f_Kind = 3 := by assumption
               rw [if_neg h1, if_neg h1, if_neg h2, if_neg h2, if_pos k3, if_pos k3]; rw [decide_eq_true k3] at H; rw [decide_eq_true k3]; exact ⟨rfl, Holds.to (by assumption)⟩)
            | (have k3 : ¬ op.f_Kind = 3 := by assumption
               have k4 : op.f_Kind = 4 := by assumption
               rw [if_neg h1, if_neg h1, if_neg h2, if_neg h2, if_neg k3, if_neg k3, if_pos k4, if_pos k4]; rw [decide_eq_false k3] at H; rw [decide_eq_false k3]; exact ⟨rfl, Holds.to (by assumption)⟩)
            | (have k3 : ¬ op.f_Kind = 3 := by assumption
               have k4 : ¬ op.f_Kind = 4 := by assumption
               have k5 : op.f_Kind = 5 := h5
               rw [if_neg h1, if_neg h1, if_neg h2, if_neg h2, if_neg k3, if_neg k3, if_neg k4, if_neg k4, if_pos k5, if_pos k5]; exact ⟨rfl, Holds.to (by assumption)⟩)
            | (have k3 : ¬ op.f_Kind = 3 := by assumption
               have k4 : ¬ op.f_Kind = 4 := by assumption
               have k5 : ¬ op.f_Kind = 5 := h5
               rw [if_neg h1, if_neg h1, if_neg h2, if_neg h2, if_neg k3, if_neg k3, if_neg k4, if_neg k4, if_neg k5, if_neg k5]; exact ⟨rfl, Holds.to (by assumption)⟩)
          · refine W.skip ?_
            refine hK1 _ _ _ ?_
            refine W.seq (fun K16 hK16 => ?_)
            refine W.region ?_
            refine O.ex (Ex.assign rfl) rfl ?_
            refine O.nil ?_
            refine hK16 _ _ _ ?_
            refine W.ret ?_
            try dsimp only [thenQ, blockQ, retQ]
            first | refine ⟨_, ⟨_, _, rfl, rfl, rfl⟩, ?_⟩ | (refine retD_mark ?_; intro w H; refine ⟨_, ⟨_, _, rfl, rfl, rfl⟩, ?_⟩) | (refine retD_mark2 ?_; intro w H; refine ⟨_, ⟨_, _, rfl, rfl, rfl⟩, ?_⟩)
            unfold opC opS
            first
            | (have k1 : op.f_Kind = 1 := h1
               rw [if_pos k1, if_pos k1]; exact ⟨rfl, Holds.to (by assumption)⟩)
            | (have k2 : op.f_Kind = 2 := h2
               rw [if_neg h1, if_neg h1, if_pos k2, if_pos k2]; exact ⟨rfl, Holds.to (by assumption)⟩)
            | (exact absurd (show op.f_Kind = 3 by assumption) (show ¬ op.f_Kind = 3 by assumption))
            | (have k3 : op.f_Kind = 3 := by assumption
               rw [if_neg h1, if_neg h1, if_neg h2, if_neg h2, if_pos k3, if_pos k3]; rw [decide_eq_true k3] at H; rw [decide_eq_true k3]; exact ⟨rfl, Holds.to (by assumption)⟩)
            | (have k3 : ¬ op.f_Kind = 3 := by assumption
               have k4 : op.f_Kind = 4 := by assumption
               rw [if_neg h1, if_neg h1, if_neg h2, if_neg h2, if_neg k3, if_neg k3, if_pos k4, if_pos k4]; rw [decide_eq_false k3] at H; rw [decide_eq_false k3]; exact ⟨rfl, Holds.to (by assumption)⟩)
            | (have k3 : ¬ op.f_Kind = 3 := by assumption
               have k4 : ¬ op.f_Kind = 4 := by assumption
               have k5 : op.f_Kind = 5 := h5
               rw [if_neg h1, if_neg h1, if_neg h2, if_neg h2, if_neg k3, if_neg k3, if_neg k4, if_neg k4, if_pos k5, if_pos k5]; exact ⟨rfl, Holds.to (by assumption)⟩)
            | (have k3 : ¬ op.f_Kind = 3 := by assumption
               have k4 : ¬ op.f_Kind = 4 := by assumption
               have k5 : ¬ op.f_Kind = 5 := h5
               rw [if_neg h1, if_neg h1, if_neg h2, if_neg h2, if_neg k3, if_neg k3, if_neg k4, if_neg k4, if_neg k5, if_neg k5]; exact ⟨rfl, Holds.to (by assumption)⟩)
end Go.Proofs.Ytakmbbgnnbpkoaa
