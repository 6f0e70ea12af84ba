import Derived.Test.YtliofdfhimmjmaaGraph6
--ARR
--LOADS loadRT loadRA loadRN loadRM
--AGGLOADS loadRArc
namespace Go.Proofs.Ytliofdfhimmjmaa
open Go.Rr Go Gr
set_option linter.unusedVariables false
def rf (n most : Int) (st sa : St) : Nat → Value := fun q => if q = 0 then .int .i64 n else if q = 1 then .int .i64 most else if q < 66 then .bool (st (q - 2)).tk else arcc (sa ((q - 66) / 4)).a ((q - 66) % 4)
/-- The document's graph: which places are taken, and the arcs. -/
def Rg2 (r : Nat) (n most : Int) (st sa : St) : HProp := cel r 45 322 (rf n most st sa)
abbrev Rg (r : Nat) (n most : Int) (s : St) : HProp := Rg2 r n most s s
theorem rf_tk {n most : Int} {st sa : St} {i : Nat} (hi : i < 64) : rf n most st sa (2 + i * 1) = .bool (st i).tk := by
  unfold rf
  rw [if_neg (by omega), if_neg (by omega), if_pos (by omega), show 2 + i * 1 - 2 = i by omega]
theorem rf_arc {n most : Int} {st sa : St} {i k : Nat} (hi : i < 64) (hk : k < 4) : rf n most st sa (66 + i * 4 + k) = arcc (sa i).a k := by
  unfold rf
  rw [if_neg (by omega), if_neg (by omega), if_neg (by omega), show (66 + i * 4 + k - 66) / 4 = i by omega, show (66 + i * 4 + k - 66) % 4 = k by omega]
theorem arcc_one (a : Arc) (k : Nat) : (arcc a k).oneCell' = true := by unfold arcc; split <;> rfl
theorem rf_one {n most : Int} {st sa : St} (q : Nat) : (rf n most st sa q).oneCell' = true := by
  unfold rf
  split
  · rfl
  · split
    · rfl
    · split
      · rfl
      · exact arcc_one _ _
section
variable {P : Program} {ro : Option Nat} {N : Nat} {Q : Q0} {l : Regs} {ds : List Deferred} {w w' : World} {ops : Array Oper} {os : List Oper}
variable {d : Tmp} {ty : TypeId} {pos : String} {af : Array Edge} {x y : Operand} {t T yt : TypeId} {L : List HProp} {st sa : St} {n most : Int} {r : Nat}
theorem Ex.loadRT {i : Int} (ht : AggIs P t false) (e1 : ev l x = some (.pointer (some ⟨r, 2 + i.toNat * 1, none⟩))) (H : Holds w (Rg2 r n most st sa :: L) := by exact Holds.to (by assumption)) (h0 : 0 ≤ i := by first | assumption | omega) (h1 : i < 64 := by first | assumption | omega) :
    Ex P N l (.load t x) ty w (.bool (st i.toNat).tk) w := Ex.loadC ht e1 H (by omega) (rf_tk (by omega))
theorem Ex.loadRA {i : Int} {k : Nat} (ht : AggIs P t false) (e1 : ev l x = some (.pointer (some ⟨r, 66 + i.toNat * 4 + k, none⟩))) (H : Holds w (Rg2 r n most st sa :: L) := by exact Holds.to (by assumption)) (h0 : 0 ≤ i := by first | assumption | omega) (h1 : i < 64 := by first | assumption | omega) (hk : k < 4 := by decide) :
    Ex P N l (.load t x) ty w (arcc (sa i.toNat).a k) w := Ex.loadC ht e1 H (by omega) (rf_arc (by omega) hk)
theorem Ex.loadRN (ht : AggIs P t false) (e1 : ev l x = some (.pointer (some ⟨r, 0, none⟩))) (H : Holds w (Rg2 r n most st sa :: L) := by exact Holds.to (by assumption)) : Ex P N l (.load t x) ty w (.int .i64 n) w := Ex.loadC ht e1 H (by omega) rfl
theorem Ex.loadRM (ht : AggIs P t false) (e1 : ev l x = some (.pointer (some ⟨r, 1, none⟩))) (H : Holds w (Rg2 r n most st sa :: L) := by exact Holds.to (by assumption)) : Ex P N l (.load t x) ty w (.int .i64 most) w := Ex.loadC ht e1 H (by omega) rfl
theorem Ex.loadRArc {i : Int} (ht : AggIs P t true) (hz : SizeIs P t 4) (e1 : ev l x = some (.pointer (some ⟨r, 66 + i.toNat * 4, none⟩))) (H : Holds w (Rg2 r n most st sa :: L) := by exact Holds.to (by assumption)) (h0 : 0 ≤ i := by first | assumption | omega) (h1 : i < 64 := by first | assumption | omega) :
    Ex P N l (.load t x) ty w (sa i.toNat).a.val w := by
  have := Ex.loadAggC (N := N) (m := 4) (ty := ty) ht hz e1 H (by omega)
  rw [show cval 4 (fun k => rf n most st sa (66 + i.toNat * 4 + k)) = (sa i.toNat).a.val from ?_] at this
  · exact this
  · unfold cval
    rw [cs_congr (g := fun k => arcc (sa i.toNat).a k) (fun k hk => rf_arc (by omega) hk)]
    rfl
/-- Whether a place is taken, anew. -/
theorem O.storeRT {i : Int} {b : Bool} {st' : St} (hs : SizeIs P t 1) (e1 : ev l x = some (.pointer (some ⟨r, 2 + i.toNat * 1, none⟩))) (e2 : ev l y = some (.bool b)) (hst : ∀ k, (st' k).tk = if k = i.toNat then b else (st k).tk)
    (hk : ∀ w', Holds w' (Rg2 r n most st' sa :: L) → O P ro N ops os Q l ds w') (H : Holds w (Rg2 r n most st sa :: L) := by exact Holds.to (by assumption)) (h0 : 0 ≤ i := by first | assumption | omega) (h1 : i < 64 := by first | assumption | omega) :
    O P ro N ops (⟨none, .store t x y, ty, pos, af, none⟩ :: os) Q l ds w :=
  O.storeC hs e1 e2 rfl H (by omega) fun w' H' => hk w' (H'.celTo fun q hq => by
    unfold rf
    by_cases e : q = 2 + i.toNat * 1
    · rw [if_pos e, if_neg (by omega), if_neg (by omega), if_pos (by omega), hst, if_pos (by omega)]
    · rw [if_neg e]
      by_cases e0 : q = 0
      · rw [if_pos e0, if_pos e0]
      · rw [if_neg e0, if_neg e0]
        by_cases e1 : q = 1
        · rw [if_pos e1, if_pos e1]
        · rw [if_neg e1, if_neg e1]
          by_cases e2 : q < 66
          · rw [if_pos e2, if_pos e2, hst, if_neg (by omega)]
          · rw [if_neg e2, if_neg e2])
theorem rf_up {i q : Nat} {z : Arc} {sa' : St} (hsa : ∀ k, (sa' k).a = if k = i then z else (sa k).a) (hq : ¬ (66 + i * 4 ≤ q ∧ q < 66 + i * 4 + 4)) : rf n most st sa q = rf n most st sa' q := by
  unfold rf
  by_cases e0 : q = 0
  · rw [if_pos e0, if_pos e0]
  · rw [if_neg e0, if_neg e0]
    by_cases e1 : q = 1
    · rw [if_pos e1, if_pos e1]
    · rw [if_neg e1, if_neg e1]
      by_cases e2 : q < 66
      · rw [if_pos e2, if_pos e2]
      · rw [if_neg e2, if_neg e2, hsa, if_neg (by omega)]
/-- An arc, anew. -/
theorem O.storeRArc {i : Int} {z : Arc} {sa' : St} {vs : Array Value} (hs : SizeIs P t 4) (e1 : ev l x = some (.pointer (some ⟨r, 66 + i.toNat * 4, none⟩))) (e2 : ev l y = some (.agg vs)) (hz : vs = #[.int .i64 z.t, .int .i64 z.h, .int .i64 z.w, .bool z.cl]) (hsa : ∀ k, (sa' k).a = if k = i.toNat then z else (sa k).a)
    (hk : ∀ w', Holds w' (Rg2 r n most st sa' :: L) → O P ro N ops os Q l ds w') (H : Holds w (Rg2 r n most st sa :: L) := by exact Holds.to (by assumption)) (h0 : 0 ≤ i := by first | assumption | omega) (h1 : i < 64 := by first | assumption | omega) :
    O P ro N ops (⟨none, .store t x y, ty, pos, af, none⟩ :: os) Q l ds w := by
  subst hz
  refine O.storeAggC hs e1 e2 rfl (fun v hv => ?_) H (by omega) fun w' H' => hk w' (H'.celTo fun q hq => ?_)
  · simp at hv; rcases hv with rfl | rfl | rfl | rfl <;> rfl
  · by_cases e : 66 + i.toNat * 4 ≤ q ∧ q < 66 + i.toNat * 4 + 4
    · rw [if_pos e]
      have hq2 : q = 66 + i.toNat * 4 + (q - (66 + i.toNat * 4)) := by omega
      have hr := rf_arc (n := n) (most := most) (st := st) (sa := sa') (i := i.toNat) (k := q - (66 + i.toNat * 4)) (by omega) (by omega)
      rw [← hq2, hsa, if_pos rfl] at hr
      rw [hr]
      have : q - (66 + i.toNat * 4) = 0 ∨ q - (66 + i.toNat * 4) = 1 ∨ q - (66 + i.toNat * 4) = 2 ∨ q - (66 + i.toNat * 4) = 3 := by omega
      rcases this with e | e | e | e <;> rw [e] <;> rfl
    · rw [if_neg e]
      exact rf_up hsa e
theorem O.storeRA {i : Int} {k : Nat} {z : Arc} {sa' : St} {v : Value} (hs : SizeIs P t 1) (e1 : ev l x = some (.pointer (some ⟨r, 66 + i.toNat * 4 + k, none⟩))) (e2 : ev l y = some v) (hk4 : k < 4) (hv : arcc z k = v) (ho : ∀ j, j < 4 → j ≠ k → arcc z j = arcc (sa i.toNat).a j) (hsa : ∀ k, (sa' k).a = if k = i.toNat then z else (sa k).a)
    (hk : ∀ w', Holds w' (Rg2 r n most st sa' :: L) → O P ro N ops os Q l ds w') (H : Holds w (Rg2 r n most st sa :: L) := by exact Holds.to (by assumption)) (h0 : 0 ≤ i := by first | assumption | omega) (h1 : i < 64 := by first | assumption | omega) :
    O P ro N ops (⟨none, .store t x y, ty, pos, af, none⟩ :: os) Q l ds w := by
  subst hv
  refine O.storeC hs e1 e2 (arcc_one _ _) H (by omega) fun w' H' => hk w' (H'.celTo fun q hq => ?_)
  by_cases e : 66 + i.toNat * 4 ≤ q ∧ q < 66 + i.toNat * 4 + 4
  · have hq2 : q = 66 + i.toNat * 4 + (q - (66 + i.toNat * 4)) := by omega
    have hr := rf_arc (n := n) (most := most) (st := st) (sa := sa') (i := i.toNat) (k := q - (66 + i.toNat * 4)) (by omega) (by omega)
    have hr0 := rf_arc (n := n) (most := most) (st := st) (sa := sa) (i := i.toNat) (k := q - (66 + i.toNat * 4)) (by omega) (by omega)
    rw [← hq2, hsa, if_pos rfl] at hr
    rw [← hq2] at hr0
    rw [hr, hr0]
    by_cases e2 : q = 66 + i.toNat * 4 + k
    · rw [if_pos e2, show q - (66 + i.toNat * 4) = k by omega]
    · rw [if_neg e2]; exact (ho _ (by omega) (by omega)).symm
  · rw [if_neg (by omega)]
    exact rf_up hsa e
end
theorem rg_to {w : World} {r : Nat} {n most : Int} {st sa s : St} {L : List HProp} (h1 : ∀ k, (st k).tk = (s k).tk) (h2 : ∀ k, (sa k).a = (s k).a) (H : Holds w (Rg2 r n most st sa :: L)) : Holds w (Rg r n most s :: L) := H.celTo fun q hq => by unfold rf; rw [h1, h2]
theorem rzero : Try.zeroCells45 = cs 322 (rf 0 0 noS noS) := by kernel_rfl
theorem rZ : ZeroIs Try.prog 45 (cval 322 (rf 0 0 noS noS)) := fun w => (Try.zeroValue45 w).trans (by rw [rzero]; rfl)
theorem rnew_ct {w : World} {n most : Int} {L : List HProp} (H : Holds w L) :
    CT Try.prog 36 [.int .i64 n, .int .i64 most] w fun u w' => ∃ r, u = .pointer (some ⟨r, 0, none⟩) ∧ Holds w' (Rg r n most noS :: L) := by
  refine CT.enter (N := 9) Try.func36 rfl rfl rfl rfl ?_
  refine W.seq (fun K0 hK0 => ?_)
  refine W.region ?_
  refine O.ex (Ex.assign rfl) rfl ?_
  refine O.nil ?_
  refine hK0 _ _ _ ?_
  refine W.seq (fun K1 hK1 => ?_)
  refine W.region ?_
  refine O.ex (Ex.move rfl) rfl ?_
  refine O.ex (Ex.move rfl) rfl ?_
  refine O.ex (Ex.buildC2 (i1 := 0) (i2 := 1) (o1 := 0) (o2 := 1) Try.runUnderlying45 rZ rfl (fun w => by simp [Try.sizeOf3, Try.sizeOf40, Try.sizeOf43]; rfl) rfl rfl (by decide) (by decide) rfl rfl rfl rfl) rfl ?_
  refine O.boxC rfl (fun b8 w H => ?_)
  refine O.ex (Ex.assign rfl) rfl ?_
  refine O.nil ?_
  refine hK1 _ _ _ ?_
  refine W.ret ?_
  try dsimp only [thenQ, blockQ, retQ]
  first | refine ⟨_, ⟨_, _, rfl, rfl, rfl⟩, ?_⟩ | (refine retD_mark ?_; intro w H; refine ⟨_, ⟨_, _, rfl, rfl, rfl⟩, ?_⟩) | (refine retD_mark2 ?_; intro w H; refine ⟨_, ⟨_, _, rfl, rfl, rfl⟩, ?_⟩)
  refine ⟨b8, rfl, Holds.celTo H fun q hq => ?_⟩
  unfold rf
  by_cases e1 : q = 1
  · subst e1; rfl
  · rw [if_neg e1]
    by_cases e0 : q = 0
    · rw [if_pos e0, if_pos e0]
    · rw [if_neg e0, if_neg e0, if_neg e0, if_neg e1, if_neg e1]
theorem rvertex_ct {w : World} {r : Nat} {n most v : Int} {s : St} {L : List HProp} (H : Holds w (Rg r n most s :: L)) :
    CT Try.prog 13 [.pointer (some ⟨r, 0, none⟩), .int .i64 v] w fun u w' => u = .bool (decide (0 ≤ v ∧ v < n)) ∧ Holds w' (Rg r n most s :: L) := by
  refine CT.enter (N := 15) Try.func13 rfl rfl rfl rfl ?_
  refine W.seq (fun K0 hK0 => ?_)
  refine W.region ?_
  refine O.ex (Ex.assign rfl) rfl ?_
  refine O.nil ?_
  refine hK0 _ _ _ ?_
  refine W.seq (fun K1 hK1 => ?_)
  refine W.region ?_
  refine O.ex (Ex.move rfl) rfl ?_
  refine O.ex (Ex.geq rfl rfl) rfl ?_
  refine O.ex (Ex.move rfl) rfl ?_
  first | refine O.split_p (t := 7) rfl (fun h0 => ?_) (fun h0 => ?_) | refine O.split (t := 7) rfl (fun h0 => ?_) (fun h0 => ?_)
  · refine O.guard_t rfl rfl ?_
    refine O.ex (Ex.move rfl) rfl ?_
    refine O.guard_t rfl rfl ?_
    refine O.ex (Ex.move rfl) rfl ?_
    refine O.guard_t rfl rfl ?_
    refine O.ex (by first | exact Ex.nilPtr rfl | exact Ex.nilFunc rfl | exact Ex.nilYield rfl) rfl ?_
    refine O.guard_t rfl rfl ?_
    refine O.ex (by first | exact Ex.field0 fld45_0 rfl | exact Ex.field fld45_0 rfl | exact Ex.fieldS fld45_0 rfl) rfl ?_
    refine O.guard_t rfl rfl ?_
    refine O.ex (by first | exact Ex.loadRT Try.isAgg3 rfl | exact Ex.loadRA Try.isAgg3 rfl | exact Ex.loadRN Try.isAgg3 rfl | exact Ex.loadRM Try.isAgg3 rfl | exact Ex.loadMh Try.isAgg3 rfl | exact Ex.loadP Try.isAgg3 rfl | exact Ex.loadM Try.isAgg3 rfl | exact Ex.loadIn1 Try.isAgg3 rfl (Holds.to (by assumption)) | exact Ex.loadVc Try.isAgg3 rfl | exact Ex.loadR Try.isAgg3 rfl | exact Ex.loadQ Try.isAgg3 rfl) rfl ?_
    refine O.guard_t rfl rfl ?_
    refine O.ex (Ex.lss rfl rfl) rfl ?_
    refine O.ex (Ex.pick_t rfl rfl) rfl ?_
    refine O.ex (Ex.assign rfl) rfl ?_
    refine O.nil ?_
    refine hK1 _ _ _ ?_
    refine W.ret ?_
    try dsimp only [thenQ, blockQ, retQ]
    first | refine ⟨_, ⟨_, _, rfl, rfl, rfl⟩, ?_⟩ | (refine retD_mark ?_; intro w H; refine ⟨_, ⟨_, _, rfl, rfl, rfl⟩, ?_⟩) | (refine retD_mark2 ?_; intro w H; refine ⟨_, ⟨_, _, rfl, rfl, rfl⟩, ?_⟩)
    refine ⟨congrArg Value.bool ?_, Holds.to (by assumption)⟩
    first
    | exact decide_eq_decide.2 (by omega)
    | exact (decide_eq_false (by omega)).symm
  · refine O.guard_f rfl rfl rfl rfl ?_
    refine O.guard_f rfl rfl rfl rfl ?_
    refine O.guard_f rfl rfl rfl rfl ?_
    refine O.guard_f rfl rfl rfl rfl ?_
    refine O.guard_f rfl rfl rfl rfl ?_
    refine O.guard_f rfl rfl rfl rfl ?_
    refine O.ex (Ex.pick_f rfl rfl) rfl ?_
    refine O.ex (Ex.assign rfl) rfl ?_
    refine O.nil ?_
    refine hK1 _ _ _ ?_
    refine W.ret ?_
    try dsimp only [thenQ, blockQ, retQ]
    first | refine ⟨_, ⟨_, _, rfl, rfl, rfl⟩, ?_⟩ | (refine retD_mark ?_; intro w H; refine ⟨_, ⟨_, _, rfl, rfl, rfl⟩, ?_⟩) | (refine retD_mark2 ?_; intro w H; refine ⟨_, ⟨_, _, rfl, rfl, rfl⟩, ?_⟩)
    refine ⟨congrArg Value.bool ?_, Holds.to (by assumption)⟩
    first
    | exact decide_eq_decide.2 (by omega)
    | exact (decide_eq_false (by omega)).symm
theorem rweight_ct {w : World} {a : Int} {L : List HProp} (H : Holds w L) : CT Try.prog 90 [.int .i64 a] w fun u w' => u = .bool (decide (wOk a)) ∧ Holds w' L := by
  refine CT.enter (N := 9) Try.func90 rfl rfl rfl rfl ?_
  refine W.seq (fun K0 hK0 => ?_)
  refine W.region ?_
  refine O.ex (Ex.assign rfl) rfl ?_
  refine O.nil ?_
  refine hK0 _ _ _ ?_
  refine W.seq (fun K1 hK1 => ?_)
  refine W.region ?_
  refine O.ex (Ex.move rfl) rfl ?_
  refine O.ex (Ex.geq rfl rfl) rfl ?_
  refine O.ex (Ex.move rfl) rfl ?_
  first | refine O.split_p (t := 5) rfl (fun h5 => ?_) (fun h5 => ?_) | refine O.split (t := 5) rfl (fun h5 => ?_) (fun h5 => ?_)
  · refine O.guard_t rfl rfl ?_
    refine O.ex (Ex.move rfl) rfl ?_
    refine O.guard_t rfl rfl ?_
    refine O.ex (Ex.leq rfl rfl) rfl ?_
    refine O.ex (Ex.pick_t rfl rfl) rfl ?_
    refine O.ex (Ex.assign rfl) rfl ?_
    refine O.nil ?_
    refine hK1 _ _ _ ?_
    refine W.ret ?_
    try dsimp only [thenQ, blockQ, retQ]
    first | refine ⟨_, ⟨_, _, rfl, rfl, rfl⟩, ?_⟩ | (refine retD_mark ?_; intro w H; refine ⟨_, ⟨_, _, rfl, rfl, rfl⟩, ?_⟩) | (refine retD_mark2 ?_; intro w H; refine ⟨_, ⟨_, _, rfl, rfl, rfl⟩, ?_⟩)
    refine ⟨congrArg Value.bool ?_, Holds.to (by assumption)⟩
    first
    | exact decide_eq_decide.2 (by unfold wOk; omega)
    | exact (decide_eq_false (by unfold wOk; omega)).symm
  · refine O.guard_f rfl rfl rfl rfl ?_
    refine O.guard_f rfl rfl rfl rfl ?_
    refine O.ex (Ex.pick_f rfl rfl) rfl ?_
    refine O.ex (Ex.assign rfl) rfl ?_
    refine O.nil ?_
    refine hK1 _ _ _ ?_
    refine W.ret ?_
    try dsimp only [thenQ, blockQ, retQ]
    first | refine ⟨_, ⟨_, _, rfl, rfl, rfl⟩, ?_⟩ | (refine retD_mark ?_; intro w H; refine ⟨_, ⟨_, _, rfl, rfl, rfl⟩, ?_⟩) | (refine retD_mark2 ?_; intro w H; refine ⟨_, ⟨_, _, rfl, rfl, rfl⟩, ?_⟩)
    refine ⟨congrArg Value.bool ?_, Holds.to (by assumption)⟩
    first
    | exact decide_eq_decide.2 (by unfold wOk; omega)
    | exact (decide_eq_false (by unfold wOk; omega)).symm
theorem rids_ct {w : World} {r : Nat} {n most : Int} {s : St} {L : List HProp} (H : Holds w (Rg r n most s :: L)) :
    CT Try.prog 52 [.pointer (some ⟨r, 0, none⟩)] w fun u w' => u.oneCell' = true ∧ Holds w' (arr 3 (Value.int .i64) u (idsI s) :: Rg r n most s :: L) := by
  refine CT.enter (N := 20) Try.func52 rfl rfl rfl rfl ?_
  refine W.seq (fun K0 hK0 => ?_)
  refine W.region ?_
  refine O.ex (Ex.assign rfl) rfl ?_
  refine O.nil ?_
  refine hK0 _ _ _ ?_
  refine W.seq (fun K1 hK1 => ?_)
  refine W.region ?_
  refine O.ex (Ex.assign rfl) rfl ?_
  refine O.nil ?_
  refine hK1 _ _ _ ?_
  refine W.seq (fun K2 hK2 => ?_)
  refine W.seq (fun K3 hK3 => ?_)
  refine W.region ?_
  refine O.ex (Ex.assign rfl) rfl ?_
  refine O.nil ?_
  refine hK3 _ _ _ ?_
  refine W.block ?_
  have H := arr_nil (T := 3) (e := Value.int .i64) H
  refine W.loop (σ := Nat × Value) (fun z => [(0, .pointer (some ⟨r, 0, none⟩)), (3, z.2), (4, .int .i64 (z.1 : Int))]) (fun z ds w => ds = [] ∧ z.1 ≤ 64 ∧ z.2.oneCell' = true ∧ Holds w (arr 3 (Value.int .i64) z.2 (lo (tkP s) z.1) :: Rg r n most s :: L)) (fun z => 64 - z.1) (0, .slice none 0 0) ⟨rfl, rfl, rfl, trivial⟩ ⟨rfl, by dsimp only; omega, rfl, H⟩ ?_
  clear H
  rintro ⟨i, v⟩ _ w ⟨rfl, hi, hv, H⟩
  dsimp only at hi hv H ⊢
  have hlen := lo_len (tkP s) i
  refine W.seq (fun K4 hK4 => ?_)
  refine W.seq (fun K5 hK5 => ?_)
  refine W.region ?_
  refine O.ex (Ex.move rfl) rfl ?_
  refine O.ex (Ex.lss rfl rfl) rfl ?_
  refine O.nil ?_
  refine hK5 _ _ _ ?_
  first | refine W.cond_p rfl (fun hlt => ?_) (fun hge => ?_) | refine W.cond_b rfl (fun hlt => ?_) (fun hge => ?_)
  · refine W.skip ?_
    refine hK4 _ _ _ ?_
    refine W.seq (fun K6 hK6 => ?_)
    refine W.block ?_
    refine W.seq (fun K7 hK7 => ?_)
    refine W.region ?_
    refine O.ex (Ex.move rfl) rfl ?_
    refine O.ex (Ex.move rfl) rfl ?_
    refine O.ex (by first | exact Ex.nilPtr rfl | exact Ex.nilFunc rfl | exact Ex.nilYield rfl) rfl ?_
    refine O.ex (by first | exact Ex.field0 fld45_2 rfl | exact Ex.field fld45_2 rfl | exact Ex.fieldS fld45_2 rfl) rfl ?_
    refine O.ex (Ex.idxArr Try.runUnderlying40 Try.sizeOf4 rfl rfl) rfl ?_
    refine O.ex (by first | exact Ex.loadRT Try.isAgg4 rfl | exact Ex.loadRA Try.isAgg4 rfl | exact Ex.loadRN Try.isAgg4 rfl | exact Ex.loadRM Try.isAgg4 rfl | exact Ex.loadM Try.isAgg4 rfl | exact Ex.loadVc Try.isAgg4 rfl | exact Ex.loadP Try.isAgg4 rfl | exact Ex.loadIn1 Try.isAgg4 rfl (Holds.to (by assumption)) | exact Ex.loadMh Try.isAgg4 rfl | exact Ex.loadR Try.isAgg4 rfl | exact Ex.loadQ Try.isAgg4 rfl) rfl ?_
    refine O.nil ?_
    refine hK7 _ _ _ ?_
    first | refine W.cond_p rfl (fun htk => ?_) (fun hno => ?_) | refine W.cond_b rfl (fun htk => ?_) (fun hno => ?_)
    · refine W.region ?_
      refine O.ex (Ex.move rfl) rfl ?_
      refine O.ex (Ex.move rfl) rfl ?_
      refine O.build1 (e := Value.int .i64) Try.runUnderlying28 Try.sizeOf3 Try.zeroValue3 rfl (fun v17 w hv17 H => ?_)
      refine O.appendR Try.runUnderlying28 Try.typeInfo3 (bt := 8) rfl Try.sizeOf3 Try.zeroValue3 rfl rfl (fun v18 w hv18 H => ?_)
      refine O.ex (Ex.assign rfl) rfl ?_
      refine O.nil ?_
      refine hK6 _ _ _ ?_
      refine W.region ?_
      refine O.ex (Ex.move rfl) rfl ?_
      refine O.ex (by first | exact Ex.addI rfl rfl | exact Ex.add rfl rfl rfl) rfl ?_
      refine O.ex (Ex.assign rfl) rfl ?_
      refine O.nil ?_
      first
      | exact ⟨(i + 1, v18), ⟨rfl, rfl, rfl, trivial⟩, ⟨rfl, by dsimp only; omega, hv18, by rw [lo_succ, if_pos (show tkP s i = true from htk)]; exact Holds.to (by assumption)⟩, by dsimp only; omega⟩
      | exact ⟨(i + 1, v), ⟨rfl, rfl, rfl, trivial⟩, ⟨rfl, by dsimp only; omega, hv, by rw [lo_succ, if_neg (show ¬ tkP s i = true from fun hh => by rw [show tkP s i = (s i).tk from rfl] at hh; simp [hh] at hno), List.append_nil]; exact Holds.to (by assumption)⟩, by dsimp only; omega⟩
    · refine W.skip ?_
      refine hK6 _ _ _ ?_
      refine W.region ?_
      refine O.ex (Ex.move rfl) rfl ?_
      refine O.ex (by first | exact Ex.addI rfl rfl | exact Ex.add rfl rfl rfl) rfl ?_
      refine O.ex (Ex.assign rfl) rfl ?_
      refine O.nil ?_
      first
      | exact ⟨(i + 1, v18), ⟨rfl, rfl, rfl, trivial⟩, ⟨rfl, by dsimp only; omega, hv18, by rw [lo_succ, if_pos (show tkP s i = true from htk)]; exact Holds.to (by assumption)⟩, by dsimp only; omega⟩
      | exact ⟨(i + 1, v), ⟨rfl, rfl, rfl, trivial⟩, ⟨rfl, by dsimp only; omega, hv, by rw [lo_succ, if_neg (show ¬ tkP s i = true from fun hh => by rw [show tkP s i = (s i).tk from rfl] at hh; simp [hh] at hno), List.append_nil]; exact Holds.to (by assumption)⟩, by dsimp only; omega⟩
  · refine W.exit ?_
    refine hK2 _ _ _ ?_
    refine W.seq (fun K8 hK8 => ?_)
    refine W.region ?_
    refine O.ex (Ex.move rfl) rfl ?_
    refine O.ex (Ex.assign rfl) rfl ?_
    refine O.nil ?_
    refine hK8 _ _ _ ?_
    refine W.ret ?_
    try dsimp only [thenQ, blockQ, retQ]
    first | refine ⟨_, ⟨_, _, rfl, rfl, rfl⟩, ?_⟩ | (refine retD_mark ?_; intro w H; refine ⟨_, ⟨_, _, rfl, rfl, rfl⟩, ?_⟩) | (refine retD_mark2 ?_; intro w H; refine ⟨_, ⟨_, _, rfl, rfl, rfl⟩, ?_⟩)
    obtain rfl : i = 64 := by omega
    exact ⟨hv, Holds.to (by assumption)⟩
theorem rlen_ct {w : World} {r : Nat} {n most : Int} {s : St} {L : List HProp} (H : Holds w (Rg r n most s :: L)) :
    CT Try.prog 91 [.pointer (some ⟨r, 0, none⟩)] w fun u w' => u = .int .i64 (cnt s) ∧ Holds w' (Rg r n most s :: L) := by
  refine CT.enter (N := 6) Try.func91 rfl rfl rfl rfl ?_
  refine W.seq (fun K0 hK0 => ?_)
  refine W.region ?_
  refine O.ex (Ex.assign rfl) rfl ?_
  refine O.nil ?_
  refine hK0 _ _ _ ?_
  refine W.seq (fun K1 hK1 => ?_)
  refine W.region ?_
  refine O.ex (Ex.move rfl) rfl ?_
  refine O.callF Try.call52 rfl rfl (CT.mono (rids_ct (Holds.to (by assumption))) ?_)
  rintro _ w ⟨hu, H⟩
  refine O.ex (by first | exact Ex.lenR Try.runUnderlying28 rfl | exact Ex.lenIn Try.runUnderlying28 rfl | exact Ex.lenL Try.runUnderlying28 rfl | exact Ex.len rfl Try.runUnderlying28 rfl) rfl ?_
  refine O.ex (Ex.assign rfl) rfl ?_
  refine O.nil ?_
  refine hK1 _ _ _ ?_
  refine W.ret ?_
  try dsimp only [thenQ, blockQ, retQ]
  first | refine ⟨_, ⟨_, _, rfl, rfl, rfl⟩, ?_⟩ | (refine retD_mark ?_; intro w H; refine ⟨_, ⟨_, _, rfl, rfl, rfl⟩, ?_⟩) | (refine retD_mark2 ?_; intro w H; refine ⟨_, ⟨_, _, rfl, rfl, rfl⟩, ?_⟩)
  exact ⟨rfl, by first | assumption | exact Holds.to (by assumption)⟩
end Go.Proofs.Ytliofdfhimmjmaa
