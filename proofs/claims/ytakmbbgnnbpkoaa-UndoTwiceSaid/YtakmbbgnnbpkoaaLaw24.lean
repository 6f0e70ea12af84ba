import Derived.Test.YtakmbbgnnbpkoaaUndoRef2
import Derived.Test.YtakmbbgnnbpkoaaRrRowS
--ARR
--INF
--DEEP
namespace Go.Proofs.Ytakmbbgnnbpkoaa
open Go.Rr Go Gr
set_option linter.unusedVariables false
set_option linter.unusedSimpArgs false
theorem Ex.eqlAgg {P : Program} {N : Nat} {l : Regs} {w : World} {ty : TypeId} {x y : Operand} {t yt : TypeId} {xs ys : Array Value} {r : Bool} (e1 : ev l x = some (.agg xs)) (e2 : ev l y = some (.agg ys)) (hg : P.eqGuardType P.depth t = false) (h : (binOp .eql t (.agg xs) (.agg ys)).run P w = .ok (.bool r) w) : Ex P N l (.binOp .eql t x y yt) ty w (.bool r) w :=
  Ex.eql e1 e2 (run_eqGuard_agg w .eql t x y xs ys hg) h
theorem keyEnds (t h : Int) (q : Bool) (w : World) (d : Nat) : (Op.equalIn (d + 1 + 1 + 1) 93 (.agg #[.int .i64 t, .int .i64 h, .bool q]) (.agg #[.int .i64 t, .int .i64 h, .bool q])).run Try.prog w = .ok true w := by
  rw [eqStruct (d + 2) Try.underlying93 Try.stoodInHeld93]
  simp [Op.eqFields, part, Try.isAgg3 w, run_equalIn_int w (d + 1) 3 .i64 .i64 _ _ Try.underlying3, equalIn_bool (dp := d + 1) (w := w) (b := q) (c := q) Try.runUnderlying4]
theorem eqEnds (t h : Int) (q : Bool) (w : World) : (binOp .eql 93 (.agg #[.int .i64 t, .int .i64 h, .bool q]) (.agg #[.int .i64 t, .int .i64 h, .bool q])).run Try.prog w = .ok (.bool true) w := by
  have h := keyEnds t h q w 9997
  rw [run_eql_struct, show (Op.equalIn 10000 93 _ _).run Try.prog w = .ok true w from h]
  rfl
theorem may08_ct {w : World} {n most : Int} {L : List HProp} (H : Holds w L) : CT Try.prog 26 [.int .i64 n, .int .i64 most] w fun u w' => u = .bool (decide ((1 ≤ n ∧ n ≤ 24) ∧ (1 ≤ most ∧ most ≤ 64))) ∧ Holds w' L := by
  refine CT.enter (N := 19) Try.func26 rfl rfl rfl rfl ?_
  refine W.seq (fun K0 hK0 => ?_)
  refine W.region ?_
  refine O.ex (Ex.assign rfl) rfl ?_
  refine O.nil ?_
  refine hK0 _ _ _ ?_
  refine W.seq (fun K1 hK1 => ?_)
  refine W.region ?_
  refine O.ex (Ex.move rfl) rfl ?_
  refine O.ex (Ex.geq rfl rfl) rfl ?_
  refine O.ex (Ex.move rfl) rfl ?_
  first | refine O.split_p (t := 7) rfl (fun h0 => ?_) (fun h0 => ?_) | refine O.split (t := 7) rfl (fun h0 => ?_) (fun h0 => ?_)
  · refine O.guard_t rfl rfl ?_
    refine O.ex (Ex.move rfl) rfl ?_
    refine O.guard_t rfl rfl ?_
    refine O.ex (Ex.leq rfl rfl) rfl ?_
    refine O.ex (Ex.pick_t rfl rfl) rfl ?_
    refine O.ex (Ex.move rfl) rfl ?_
    first | refine O.split_p (t := 11) rfl (fun h1 => ?_) (fun h1 => ?_) | refine O.split (t := 11) rfl (fun h1 => ?_) (fun h1 => ?_)
    · refine O.guard_t rfl rfl ?_
      refine O.ex (Ex.move rfl) rfl ?_
      refine O.guard_t rfl rfl ?_
      refine O.ex (Ex.geq rfl rfl) rfl ?_
      refine O.ex (Ex.pick_t rfl rfl) rfl ?_
      refine O.ex (Ex.move rfl) rfl ?_
      first | refine O.split_p (t := 15) rfl (fun h2 => ?_) (fun h2 => ?_) | refine O.split (t := 15) rfl (fun h2 => ?_) (fun h2 => ?_)
      · refine O.guard_t rfl rfl ?_
        refine O.ex (Ex.move rfl) rfl ?_
        refine O.guard_t rfl rfl ?_
        refine O.ex (Ex.leq rfl rfl) rfl ?_
        refine O.ex (Ex.pick_t rfl rfl) rfl ?_
        refine O.ex (Ex.assign rfl) rfl ?_
        refine O.nil ?_
        refine hK1 _ _ _ ?_
        refine W.ret ?_
        try dsimp only [thenQ, blockQ, retQ]
        first | refine ⟨_, ⟨_, _, rfl, rfl, rfl⟩, ?_⟩ | (refine retD_mark ?_; intro w H; refine ⟨_, ⟨_, _, rfl, rfl, rfl⟩, ?_⟩) | (refine retD_mark2 ?_; intro w H; refine ⟨_, ⟨_, _, rfl, rfl, rfl⟩, ?_⟩)
        refine ⟨congrArg Value.bool ?_, Holds.to (by assumption)⟩
        first
        | exact decide_eq_decide.2 (by omega)
        | exact (decide_eq_false (by omega)).symm
      · refine O.guard_f rfl rfl rfl rfl ?_
        refine O.guard_f rfl rfl rfl rfl ?_
        refine O.ex (Ex.pick_f rfl rfl) rfl ?_
        refine O.ex (Ex.assign rfl) rfl ?_
        refine O.nil ?_
        refine hK1 _ _ _ ?_
        refine W.ret ?_
        try dsimp only [thenQ, blockQ, retQ]
        first | refine ⟨_, ⟨_, _, rfl, rfl, rfl⟩, ?_⟩ | (refine retD_mark ?_; intro w H; refine ⟨_, ⟨_, _, rfl, rfl, rfl⟩, ?_⟩) | (refine retD_mark2 ?_; intro w H; refine ⟨_, ⟨_, _, rfl, rfl, rfl⟩, ?_⟩)
        refine ⟨congrArg Value.bool ?_, Holds.to (by assumption)⟩
        first
        | exact decide_eq_decide.2 (by omega)
        | exact (decide_eq_false (by omega)).symm
    · refine O.guard_f rfl rfl rfl rfl ?_
      refine O.guard_f rfl rfl rfl rfl ?_
      refine O.ex (Ex.pick_f rfl rfl) rfl ?_
      refine O.ex (Ex.move rfl) rfl ?_
      refine O.guard_f rfl rfl rfl rfl ?_
      refine O.guard_f rfl rfl rfl rfl ?_
      refine O.ex (Ex.pick_f rfl rfl) rfl ?_
      refine O.ex (Ex.assign rfl) rfl ?_
      refine O.nil ?_
      refine hK1 _ _ _ ?_
      refine W.ret ?_
      try dsimp only [thenQ, blockQ, retQ]
      first | refine ⟨_, ⟨_, _, rfl, rfl, rfl⟩, ?_⟩ | (refine retD_mark ?_; intro w H; refine ⟨_, ⟨_, _, rfl, rfl, rfl⟩, ?_⟩) | (refine retD_mark2 ?_; intro w H; refine ⟨_, ⟨_, _, rfl, rfl, rfl⟩, ?_⟩)
      refine ⟨congrArg Value.bool ?_, Holds.to (by assumption)⟩
      first
      | exact decide_eq_decide.2 (by omega)
      | exact (decide_eq_false (by omega)).symm
  · refine O.guard_f rfl rfl rfl rfl ?_
    refine O.guard_f rfl rfl rfl rfl ?_
    refine O.ex (Ex.pick_f rfl rfl) rfl ?_
    refine O.ex (Ex.move rfl) rfl ?_
    refine O.guard_f rfl rfl rfl rfl ?_
    refine O.guard_f rfl rfl rfl rfl ?_
    refine O.ex (Ex.pick_f rfl rfl) rfl ?_
    refine O.ex (Ex.move rfl) rfl ?_
    refine O.guard_f rfl rfl rfl rfl ?_
    refine O.guard_f rfl rfl rfl rfl ?_
    refine O.ex (Ex.pick_f rfl rfl) rfl ?_
    refine O.ex (Ex.assign rfl) rfl ?_
    refine O.nil ?_
    refine hK1 _ _ _ ?_
    refine W.ret ?_
    try dsimp only [thenQ, blockQ, retQ]
    first | refine ⟨_, ⟨_, _, rfl, rfl, rfl⟩, ?_⟩ | (refine retD_mark ?_; intro w H; refine ⟨_, ⟨_, _, rfl, rfl, rfl⟩, ?_⟩) | (refine retD_mark2 ?_; intro w H; refine ⟨_, ⟨_, _, rfl, rfl, rfl⟩, ?_⟩)
    refine ⟨congrArg Value.bool ?_, Holds.to (by assumption)⟩
    first
    | exact decide_eq_decide.2 (by omega)
    | exact (decide_eq_false (by omega)).symm
theorem may24_ct {w : World} {n most room : Int} {L : List HProp} (H : Holds w L) : CT Try.prog 53 [.int .i64 n, .int .i64 most, .int .i64 room] w fun u w' => u = .bool (decide (((1 ≤ n ∧ n ≤ 24) ∧ (1 ≤ most ∧ most ≤ 64)) ∧ (1 ≤ room ∧ room ≤ 32))) ∧ Holds w' L := by
  refine CT.enter (N := 18) Try.func53 rfl rfl rfl rfl ?_
  refine W.seq (fun K0 hK0 => ?_)
  refine W.region ?_
  refine O.ex (Ex.assign rfl) rfl ?_
  refine O.nil ?_
  refine hK0 _ _ _ ?_
  refine W.seq (fun K1 hK1 => ?_)
  refine W.region ?_
  refine O.ex (Ex.move rfl) rfl ?_
  refine O.ex (Ex.move rfl) rfl ?_
  refine O.callF Try.call26 rfl rfl (CT.mono (may08_ct (Holds.to (by assumption))) ?_)
  rintro _ w ⟨rfl, H⟩
  refine O.ex (Ex.move rfl) rfl ?_
  first | refine O.split_p (t := 10) rfl (fun h0 => ?_) (fun h0 => ?_) | refine O.split (t := 10) rfl (fun h0 => ?_) (fun h0 => ?_)
  · refine O.guard_t rfl rfl ?_
    refine O.ex (Ex.move rfl) rfl ?_
    refine O.guard_t rfl rfl ?_
    refine O.ex (Ex.geq rfl rfl) rfl ?_
    refine O.ex (Ex.pick_t rfl rfl) rfl ?_
    refine O.ex (Ex.move rfl) rfl ?_
    first | refine O.split_p (t := 14) rfl (fun h1 => ?_) (fun h1 => ?_) | refine O.split (t := 14) rfl (fun h1 => ?_) (fun h1 => ?_)
    · refine O.guard_t rfl rfl ?_
      refine O.ex (Ex.move rfl) rfl ?_
      refine O.guard_t rfl rfl ?_
      refine O.ex (Ex.leq rfl rfl) rfl ?_
      refine O.ex (Ex.pick_t rfl rfl) rfl ?_
      refine O.ex (Ex.assign rfl) rfl ?_
      refine O.nil ?_
      refine hK1 _ _ _ ?_
      refine W.ret ?_
      try dsimp only [thenQ, blockQ, retQ]
      first | refine ⟨_, ⟨_, _, rfl, rfl, rfl⟩, ?_⟩ | (refine retD_mark ?_; intro w H; refine ⟨_, ⟨_, _, rfl, rfl, rfl⟩, ?_⟩) | (refine retD_mark2 ?_; intro w H; refine ⟨_, ⟨_, _, rfl, rfl, rfl⟩, ?_⟩)
      refine ⟨congrArg Value.bool ?_, Holds.to (by assumption)⟩
      first
      | exact decide_eq_decide.2 (by omega)
      | exact (decide_eq_false (by omega)).symm
    · refine O.guard_f rfl rfl rfl rfl ?_
      refine O.guard_f rfl rfl rfl rfl ?_
      refine O.ex (Ex.pick_f rfl rfl) rfl ?_
      refine O.ex (Ex.assign rfl) rfl ?_
      refine O.nil ?_
      refine hK1 _ _ _ ?_
      refine W.ret ?_
      try dsimp only [thenQ, blockQ, retQ]
      first | refine ⟨_, ⟨_, _, rfl, rfl, rfl⟩, ?_⟩ | (refine retD_mark ?_; intro w H; refine ⟨_, ⟨_, _, rfl, rfl, rfl⟩, ?_⟩) | (refine retD_mark2 ?_; intro w H; refine ⟨_, ⟨_, _, rfl, rfl, rfl⟩, ?_⟩)
      refine ⟨congrArg Value.bool ?_, Holds.to (by assumption)⟩
      first
      | exact decide_eq_decide.2 (by omega)
      | exact (decide_eq_false (by omega)).symm
  · refine O.guard_f rfl rfl rfl rfl ?_
    refine O.guard_f rfl rfl rfl rfl ?_
    refine O.ex (Ex.pick_f rfl rfl) rfl ?_
    refine O.ex (Ex.move rfl) rfl ?_
    refine O.guard_f rfl rfl rfl rfl ?_
    refine O.guard_f rfl rfl rfl rfl ?_
    refine O.ex (Ex.pick_f rfl rfl) rfl ?_
    refine O.ex (Ex.assign rfl) rfl ?_
    refine O.nil ?_
    refine hK1 _ _ _ ?_
    refine W.ret ?_
    try dsimp only [thenQ, blockQ, retQ]
    first | refine ⟨_, ⟨_, _, rfl, rfl, rfl⟩, ?_⟩ | (refine retD_mark ?_; intro w H; refine ⟨_, ⟨_, _, rfl, rfl, rfl⟩, ?_⟩) | (refine retD_mark2 ?_; intro w H; refine ⟨_, ⟨_, _, rfl, rfl, rfl⟩, ?_⟩)
    refine ⟨congrArg Value.bool ?_, Holds.to (by assumption)⟩
    first
    | exact decide_eq_decide.2 (by omega)
    | exact (decide_eq_false (by omega)).symm
theorem same24_ct {w : World} {t h : Int} {q : Bool} {L : List HProp} (H : Holds w L) : CT Try.prog 57 [.agg #[.int .i64 t, .int .i64 h, .bool q], .agg #[.int .i64 t, .int .i64 h, .bool q]] w fun u w' => u = .bool true ∧ Holds w' L := by
  refine CT.enter (N := 24) Try.func57 rfl rfl rfl rfl ?_
  refine W.seq (fun K0 hK0 => ?_)
  refine W.region ?_
  refine O.boxP rfl (fun b2 w H => ?_)
  refine O.boxP rfl (fun b3 w H => ?_)
  refine O.ex (Ex.assign rfl) rfl ?_
  refine O.nil ?_
  refine hK0 _ _ _ ?_
  refine W.seq (fun K1 hK1 => ?_)
  refine W.region ?_
  refine O.ex (by first | exact Ex.field0 fld93_0 rfl | exact Ex.field fld93_0 rfl | exact Ex.fieldS fld93_0 rfl | exact Ex.fieldIn fld93_0 rfl) rfl ?_
  refine O.ex (by first | exact Ex.loadMh Try.isAgg3 rfl | exact Ex.loadInF Try.isAgg3 rfl (Holds.to (by assumption)) | exact Ex.loadP Try.isAgg3 rfl | exact Ex.loadM Try.isAgg3 rfl | exact Ex.loadIn1 Try.isAgg3 rfl (Holds.to (by assumption)) | exact Ex.loadVc Try.isAgg3 rfl | exact Ex.loadR Try.isAgg3 rfl | exact Ex.loadQ Try.isAgg3 rfl) rfl ?_
  refine O.ex (by first | exact Ex.field0 fld96_0 rfl | exact Ex.field fld96_0 rfl | exact Ex.fieldS fld96_0 rfl | exact Ex.fieldIn fld96_0 rfl) rfl ?_
  refine O.ex (by first | exact Ex.loadMh Try.isAgg3 rfl | exact Ex.loadInF Try.isAgg3 rfl (Holds.to (by assumption)) | exact Ex.loadP Try.isAgg3 rfl | exact Ex.loadM Try.isAgg3 rfl | exact Ex.loadIn1 Try.isAgg3 rfl (Holds.to (by assumption)) | exact Ex.loadVc Try.isAgg3 rfl | exact Ex.loadR Try.isAgg3 rfl | exact Ex.loadQ Try.isAgg3 rfl) rfl ?_
  refine O.ex (Ex.eqlI rfl rfl) rfl ?_
  refine O.ex (Ex.move rfl) rfl ?_
  refine O.known (t := 10) (c := true) rfl (by first | rfl | exact decide_eq_true rfl) ?_
  refine O.guard_t rfl rfl ?_
  refine O.ex (by first | exact Ex.field0 fld93_1 rfl | exact Ex.field fld93_1 rfl | exact Ex.fieldS fld93_1 rfl | exact Ex.fieldIn fld93_1 rfl) rfl ?_
  refine O.guard_t rfl rfl ?_
  refine O.ex (by first | exact Ex.loadMh Try.isAgg3 rfl | exact Ex.loadInF Try.isAgg3 rfl (Holds.to (by assumption)) | exact Ex.loadP Try.isAgg3 rfl | exact Ex.loadM Try.isAgg3 rfl | exact Ex.loadIn1 Try.isAgg3 rfl (Holds.to (by assumption)) | exact Ex.loadVc Try.isAgg3 rfl | exact Ex.loadR Try.isAgg3 rfl | exact Ex.loadQ Try.isAgg3 rfl) rfl ?_
  refine O.guard_t rfl rfl ?_
  refine O.ex (by first | exact Ex.field0 fld96_1 rfl | exact Ex.field fld96_1 rfl | exact Ex.fieldS fld96_1 rfl | exact Ex.fieldIn fld96_1 rfl) rfl ?_
  refine O.guard_t rfl rfl ?_
  refine O.ex (by first | exact Ex.loadMh Try.isAgg3 rfl | exact Ex.loadInF Try.isAgg3 rfl (Holds.to (by assumption)) | exact Ex.loadP Try.isAgg3 rfl | exact Ex.loadM Try.isAgg3 rfl | exact Ex.loadIn1 Try.isAgg3 rfl (Holds.to (by assumption)) | exact Ex.loadVc Try.isAgg3 rfl | exact Ex.loadR Try.isAgg3 rfl | exact Ex.loadQ Try.isAgg3 rfl) rfl ?_
  refine O.guard_t rfl rfl ?_
  refine O.ex (Ex.eqlI rfl rfl) rfl ?_
  refine O.ex (Ex.pick_t rfl rfl) rfl ?_
  refine O.ex (Ex.move rfl) rfl ?_
  refine O.known (t := 17) (c := true) rfl (by first | rfl | exact decide_eq_true rfl) ?_
  refine O.guard_t rfl rfl ?_
  refine O.ex (by first | exact Ex.field0 fld93_2 rfl | exact Ex.field fld93_2 rfl | exact Ex.fieldS fld93_2 rfl | exact Ex.fieldIn fld93_2 rfl) rfl ?_
  refine O.guard_t rfl rfl ?_
  refine O.ex (by first | exact Ex.loadMh Try.isAgg4 rfl | exact Ex.loadInF Try.isAgg4 rfl (Holds.to (by assumption)) | exact Ex.loadP Try.isAgg4 rfl | exact Ex.loadM Try.isAgg4 rfl | exact Ex.loadIn1 Try.isAgg4 rfl (Holds.to (by assumption)) | exact Ex.loadVc Try.isAgg4 rfl | exact Ex.loadR Try.isAgg4 rfl | exact Ex.loadQ Try.isAgg4 rfl) rfl ?_
  refine O.guard_t rfl rfl ?_
  refine O.ex (by first | exact Ex.field0 fld96_2 rfl | exact Ex.field fld96_2 rfl | exact Ex.fieldS fld96_2 rfl | exact Ex.fieldIn fld96_2 rfl) rfl ?_
  refine O.guard_t rfl rfl ?_
  refine O.ex (by first | exact Ex.loadMh Try.isAgg4 rfl | exact Ex.loadInF Try.isAgg4 rfl (Holds.to (by assumption)) | exact Ex.loadP Try.isAgg4 rfl | exact Ex.loadM Try.isAgg4 rfl | exact Ex.loadIn1 Try.isAgg4 rfl (Holds.to (by assumption)) | exact Ex.loadVc Try.isAgg4 rfl | exact Ex.loadR Try.isAgg4 rfl | exact Ex.loadQ Try.isAgg4 rfl) rfl ?_
  refine O.guard_t rfl rfl ?_
  refine O.ex (Ex.eqlB Try.runUnderlying4 rfl rfl) rfl ?_
  refine O.ex (Ex.pick_t rfl rfl) rfl ?_
  refine O.ex (Ex.assign rfl) rfl ?_
  refine O.nil ?_
  refine hK1 _ _ _ ?_
  refine W.ret ?_
  try dsimp only [thenQ, blockQ, retQ]
  first | refine ⟨_, ⟨_, _, rfl, rfl, rfl⟩, ?_⟩ | (refine retD_mark ?_; intro w H; refine ⟨_, ⟨_, _, rfl, rfl, rfl⟩, ?_⟩) | (refine retD_mark2 ?_; intro w H; refine ⟨_, ⟨_, _, rfl, rfl, rfl⟩, ?_⟩)
  exact ⟨by simp [oneOf], Holds.to (by assumption)⟩
theorem equal24_ct {w : World} {c g : Nat} {n most : Int} {s : St} {L : List HProp} (hg : GOk n most s) (H : Holds w (Gh c n most s :: Rg g n most s :: L)) : CT Try.prog 61 [.pointer (some ⟨c, 0, none⟩), .pointer (some ⟨g, 0, none⟩)] w fun u w' => u = .bool true ∧ Holds w' (Gh c n most s :: Rg g n most s :: L) := by
  refine CT.enter (N := 12) Try.func61 rfl rfl rfl rfl ?_
  refine W.seq (fun K0 hK0 => ?_)
  refine W.region ?_
  refine O.ex (Ex.assign rfl) rfl ?_
  refine O.nil ?_
  refine hK0 _ _ _ ?_
  refine W.seq (fun K1 hK1 => ?_)
  refine W.region ?_
  refine O.ex (Ex.move rfl) rfl ?_
  refine O.ex (Ex.nilNe Try.runUnderlying24 rfl rfl) rfl ?_
  refine O.ex (Ex.move rfl) rfl ?_
  refine O.known (t := 7) (c := true) rfl (by first | rfl | decide) ?_
  refine O.guard_t rfl rfl ?_
  refine O.ex (Ex.move rfl) rfl ?_
  refine O.guard_t rfl rfl ?_
  refine O.ex (Ex.move rfl) rfl ?_
  refine O.guard_t rfl rfl ?_
  refine O.callF Try.call30 rfl rfl (CT.mono (same08_ct (g := c) (r := g) hg (Holds.to (by assumption))) ?_)
  rintro _ w ⟨rfl, H⟩
  refine O.ex (Ex.pick_t rfl rfl) rfl ?_
  refine O.ex (Ex.assign rfl) rfl ?_
  refine O.nil ?_
  refine hK1 _ _ _ ?_
  refine W.ret ?_
  try dsimp only [thenQ, blockQ, retQ]
  first | refine ⟨_, ⟨_, _, rfl, rfl, rfl⟩, ?_⟩ | (refine retD_mark ?_; intro w H; refine ⟨_, ⟨_, _, rfl, rfl, rfl⟩, ?_⟩) | (refine retD_mark2 ?_; intro w H; refine ⟨_, ⟨_, _, rfl, rfl, rfl⟩, ?_⟩)
  exact ⟨rfl, by first | assumption | exact Holds.to (by assumption)⟩
theorem whole24_ct {w : World} {b r k : Nat} {n most : Int} {s : St} {h : List (OpM × St)} {L : List HProp} (hg : GOk n most s) (H : Holds w (Uk b k n most s (trP h) :: RB r k n most s (trD h) :: L)) : CT Try.prog 60 [.pointer (some ⟨b, 0, none⟩), .pointer (some ⟨r, 0, none⟩)] w fun u w' => u = .bool true ∧ Holds w' (Uk b k n most s (trP h) :: RB r k n most s (trD h) :: L) := by
  obtain ⟨g, v1, v2, H0⟩ := rb_open.1 H.swap
  have H : Holds w (pt r (.cells (rbc g k v1 v2) 107 (0, 0)) :: Rg g n most s :: arrN TG 322 (gE n most) v1 ((trD h).map Prod.fst) :: arrN TA 4 aE v2 ((trD h).map Prod.snd) :: Uk b k n most s (trP h) :: L) := rbo_open.1 H0
  have hlen : ((trP h).length : Int) = ((((trD h).map Prod.fst).length : Nat) : Int) := by simp only [List.length_map]
  refine CT.enter (N := 28) Try.func60 rfl rfl rfl rfl ?_
  refine W.seq (fun K0 hK0 => ?_)
  refine W.region ?_
  refine O.ex (Ex.assign rfl) rfl ?_
  refine O.nil ?_
  refine hK0 _ _ _ ?_
  refine W.seq (fun K1 hK1 => ?_)
  refine W.region ?_
  refine O.ex (Ex.move rfl) rfl ?_
  refine O.callF Try.call62 rfl rfl (CT.mono (ugraph_ct hg (Holds.to (M := Uk b k n most s (trP h) :: _) (by assumption))) ?_)
  rintro _ w ⟨c, rfl, H⟩
  refine O.ex (Ex.assign rfl) rfl ?_
  refine O.nil ?_
  refine hK1 _ _ _ ?_
  refine W.seq (fun K2 hK2 => ?_)
  refine W.drawTo (pt r (.cells (rbc g k v1 v2) 107 (0, 0)) :: arrN TG 322 (gE n most) v1 ((trD h).map Prod.fst) :: []) (.take 0 (.take 1 (.take 2 (.take 3 (.take 4 (.take 5 (.take 6 (.take 7 (.one 8 (.take 9 (.take 10 (.take 11 (.take 13 (.take 14 (.take 15 (.take 16 (.take 17 (.one 12 (.take 18 (.take 19 (.take 20 .nil))))))))))))))))))))) (mixed) (fun _ _ _ _ h => h) (by assumption) PP.auto (by decide +kernel) (fun w H => ?_)
  refine OQ.ex rfl (fun w H => (Ex.move rfl)) rfl ?_
  refine OQ.ex rfl (fun w H => (Ex.nilNe Try.runUnderlying24 rfl rfl)) rfl ?_
  refine OQ.ex rfl (fun w H => (Ex.move rfl)) rfl ?_
  refine OQ.known (t := 10) (c := true) rfl (by first | rfl | decide) ?_
  refine OQ.exT rfl rfl rfl (fun w H => (Ex.move rfl)) rfl ?_
  refine OQ.exT rfl rfl rfl (fun w H => (Ex.move rfl)) rfl ?_
  refine OQ.exT rfl rfl rfl (fun w H => (by first | exact Ex.nilPtr rfl | exact Ex.nilFunc rfl | exact Ex.nilYield rfl)) rfl ?_
  refine OQ.exT rfl rfl rfl (fun w H => (by first | exact Ex.field0 fld107_0 rfl | exact Ex.field fld107_0 rfl | exact Ex.fieldS fld107_0 rfl | exact Ex.fieldIn fld107_0 rfl)) rfl ?_
  refine OQ.exT rfl rfl rfl (fun w H => (by first | exact Ex.loadMh Try.isAgg25 rfl | exact Ex.loadInF Try.isAgg25 rfl (Holds.to (by assumption)) | exact Ex.loadP Try.isAgg25 rfl | exact Ex.loadM Try.isAgg25 rfl | exact Ex.loadIn1 Try.isAgg25 rfl (Holds.to (by assumption)) | exact Ex.loadVc Try.isAgg25 rfl | exact Ex.loadR Try.isAgg25 rfl | exact Ex.loadQ Try.isAgg25 rfl)) rfl ?_
  refine OQ.step rfl ?_
  refine O.guard_t rfl rfl ?_
  refine O.callF Try.call30 rfl rfl (CT.mono (same08_ct (g := c) (r := g) hg (Holds.to (by assumption))) ?_)
  rintro _ w ⟨rfl, H⟩
  refine O.thenNil ⟨(by first | exact Holds.to (by assumption) | assumption), ?_⟩
  refine OQ.ex rfl (fun w H => (Ex.pick_t rfl rfl)) rfl ?_
  refine OQ.ex rfl (fun w H => (Ex.move rfl)) rfl ?_
  refine OQ.known (t := 18) (c := true) rfl (by first | rfl | decide) ?_
  refine OQ.exT rfl rfl rfl (fun w H => (Ex.move rfl)) rfl ?_
  refine OQ.exT rfl rfl rfl (fun w H => (Ex.move rfl)) rfl ?_
  refine OQ.exT rfl rfl rfl (fun w H => (by first | exact Ex.nilPtr rfl | exact Ex.nilFunc rfl | exact Ex.nilYield rfl)) rfl ?_
  refine OQ.exT rfl rfl rfl (fun w H => (by first | exact Ex.field0 fld107_2 rfl | exact Ex.field fld107_2 rfl | exact Ex.fieldS fld107_2 rfl | exact Ex.fieldIn fld107_2 rfl)) rfl ?_
  refine OQ.exT rfl rfl rfl (fun w H => (by first | exact Ex.loadMh Try.isAgg104 rfl | exact Ex.loadInF Try.isAgg104 rfl (Holds.to (by assumption)) | exact Ex.loadP Try.isAgg104 rfl | exact Ex.loadM Try.isAgg104 rfl | exact Ex.loadIn1 Try.isAgg104 rfl (Holds.to (by assumption)) | exact Ex.loadVc Try.isAgg104 rfl | exact Ex.loadR Try.isAgg104 rfl | exact Ex.loadQ Try.isAgg104 rfl)) rfl ?_
  refine OQ.exT rfl rfl rfl (fun w H => (by first | exact Ex.lenN Try.runUnderlying104 rfl | exact Ex.lenIn Try.runUnderlying104 rfl | exact Ex.lenL Try.runUnderlying104 rfl | exact Ex.len rfl Try.runUnderlying104 rfl)) rfl ?_
  refine OQ.step rfl ?_
  refine O.guard_t rfl rfl ?_
  refine O.callF Try.call91 rfl rfl (CT.mono (ulen_ct (b := b) (Holds.to (M := Uk b k n most s (trP h) :: _) (by assumption))) ?_)
  rintro _ w ⟨rfl, H⟩
  refine O.thenNil ⟨(by first | exact Holds.to (by assumption) | assumption), ?_⟩
  refine OQ.exT rfl rfl rfl (fun w H => (Ex.eqlI rfl rfl)) rfl ?_
  refine OQ.ex rfl (fun w H => (Ex.pick_t rfl rfl)) rfl ?_
  refine OQ.ex rfl (fun w H => (Ex.assign rfl)) rfl ?_
  refine OQ.done ?_
  refine hK2 _ _ _ ?_
  refine W.ret ?_
  try dsimp only [thenQ, blockQ, retQ]
  first | refine ⟨_, ⟨_, _, rfl, rfl, rfl⟩, ?_⟩ | (refine retD_mark ?_; intro w H; refine ⟨_, ⟨_, _, rfl, rfl, rfl⟩, ?_⟩) | (refine retD_mark2 ?_; intro w H; refine ⟨_, ⟨_, _, rfl, rfl, rfl⟩, ?_⟩)
  exact ⟨congrArg Value.bool (decide_eq_true hlen), Holds.swap (rb_open.2 ⟨g, v1, v2, rbo_open.2 (Holds.to (by assumption))⟩)⟩
/-- What is told of an operation. -/
def eD (n most : Int) (s : St) (op : OpM) : Array Value := if opC n most s op = 0 then ecs s (opS n most s op) (wasA s op) else ezc
theorem eD_form (n most : Int) (s : St) (op : OpM) : ∃ t h q, eD n most s op = #[.int .i64 t, .int .i64 h, .bool q] := by
  unfold eD; split
  · exact ⟨_, _, _, rfl⟩
  · exact ⟨0, 0, false, rfl⟩
section
variable {w : World} {b r k : Nat} {n most : Int} {s : St} {h : List (OpM × St)} {op : OpM} {x : OpM × St} {L : List HProp}
theorem pdo_ct {s' : St} {h' : List (OpM × St)} {et eh c : Int} {eq : Bool} (hy : hDo n most k (s, h) op = (s', h')) (he : eD n most s op = #[.int .i64 et, .int .i64 eh, .bool eq]) (hc : opC n most s op = c) (hok : HOk n most k s h) (h0 : 0 ≤ op.f_W) (H : Holds w (Uk b k n most s (trP h) :: L)) :
    CT Try.prog 58 [.pointer (some ⟨b, 0, none⟩), op.val] w fun u w' => u = .tuple #[.agg #[.int .i64 et, .int .i64 eh, .bool eq], .int .i64 c] ∧ Holds w' (Uk b k n most s' (trP h') :: L) := by
  have e1 := hDo_1 (n := n) (most := most) (k := k) (x := (s, h)) (op := op)
  have e2 := hDo_P (n := n) (most := most) (k := k) (x := (s, h)) (op := op)
  rw [hy] at e1 e2
  dsimp only at e1 e2
  rw [e1, e2, ← he, ← hc]
  exact udo_ct hok.ok h0 H
theorem qdo_ct {s' : St} {h' : List (OpM × St)} {et eh c : Int} {eq : Bool} (hy : hDo n most k (s, h) op = (s', h')) (he : eD n most s op = #[.int .i64 et, .int .i64 eh, .bool eq]) (hc : opC n most s op = c) (hok : HOk n most k s h) (hk : k ≤ 32) (h0 : 0 ≤ op.f_W) (H : Holds w (RB r k n most s (trD h) :: L)) :
    CT Try.prog 59 [.pointer (some ⟨r, 0, none⟩), op.val] w fun u w' => u = .tuple #[.agg #[.int .i64 et, .int .i64 eh, .bool eq], .int .i64 c] ∧ Holds w' (RB r k n most s' (trD h') :: L) := by
  have e1 := hDo_1 (n := n) (most := most) (k := k) (x := (s, h)) (op := op)
  have e2 := hDo_D (n := n) (most := most) (k := k) (x := (s, h)) (op := op) hok
  rw [hy] at e1 e2
  dsimp only at e1 e2
  have := hok.len
  rw [e1, e2, ← he, ← hc]
  exact rdo_ct hok.ok h0 (by rw [List.length_map]; show h.length ≤ 32; omega) H
theorem do_ex (hok : HOk n most k s h) (op : OpM) : ∃ s' h' et eh eq c, hDo n most k (s, h) op = (s', h') ∧ eD n most s op = #[.int .i64 et, .int .i64 eh, .bool eq] ∧ opC n most s op = c ∧ HOk n most k s' h' := by
  obtain ⟨et, eh, eq, he⟩ := eD_form n most s op
  exact ⟨_, _, et, eh, eq, _, rfl, he, rfl, hok_do (x := (s, h)) op hok⟩
theorem pun_ct (hok : HOk n most k s (h ++ [x])) (H : Holds w (Uk b k n most s (trP (h ++ [x])) :: L)) :
    CT Try.prog 55 [.pointer (some ⟨b, 0, none⟩)] w fun u w' => u = .tuple #[.agg (ecs s x.2 (wasA x.2 x.1)), .int .i64 0] ∧ Holds w' (Uk b k n most x.2 (trP h) :: L) := by
  have e := (hok_un hok).2
  rw [show trP (h ++ [x]) = trP h ++ [(x.1, wasA x.2 x.1)] from by simp [trP]] at H
  have := uundoS_ct hok.ok H
  rw [e] at this
  exact this
theorem qun_ct (hok : HOk n most k s (h ++ [x])) (hk : k ≤ 32) (H : Holds w (RB r k n most s (trD (h ++ [x])) :: L)) :
    CT Try.prog 56 [.pointer (some ⟨r, 0, none⟩)] w fun u w' => u = .tuple #[.agg (ecs s x.2 (wasA x.2 x.1)), .int .i64 0] ∧ Holds w' (RB r k n most x.2 (trD h) :: L) := by
  rw [show trD (h ++ [x]) = trD h ++ [(x.2, wasA x.2 x.1)] from by simp [trD]] at H
  have h1 := hok.len
  rw [List.length_append] at h1
  exact rundoS_ct (by rw [List.length_map]; omega) H
end
theorem eD_one (n most : Int) (s : St) (op : OpM) : (eD n most s op).toList.all Value.oneCell' = true := by
  obtain ⟨t, h, q, e⟩ := eD_form n most s op; rw [e]; rfl
theorem take_getOp (xs : List OpM) {i : Nat} (h : i < xs.length) : xs.getD i default ∈ xs := by
  rw [List.getD_eq_getElem?_getD, List.getElem?_eq_getElem h]; exact List.getElem_mem h
theorem op_w {l : List OpM} (hg : ∀ x ∈ l, x.ok) {i : Nat} (h : i < l.length) : 0 ≤ (l.getD i default).f_W := (bounds_u64 (hg _ (take_getOp l h)).2.2.2.2).1
theorem hist_cases {α : Type} (h : List α) : h = [] ∨ ∃ h' x, h = h' ++ [x] := by
  by_cases e : h = []
  · exact .inl e
  · exact .inr ⟨h.dropLast, h.getLast e, (List.dropLast_concat_getLast e).symm⟩
def uwO1 : OpM := ⟨1, 5, 0, 1, 7⟩
def uwO2 : OpM := ⟨3, 5, 0, 0, 0⟩
def uwO3 : OpM := ⟨6, 0, 0, 0, 0⟩
def uwS1 : St := opS 3 4 noS uwO1
def uwS2 : St := opS 3 4 uwS1 uwO2
theorem uw_c1 : opC 3 4 noS uwO1 = 0 := by decide +kernel
theorem uw_c2 : opC 3 4 uwS1 uwO2 = 0 := by decide +kernel
theorem uw_c3 : opC 3 4 uwS2 uwO3 = 1 := by decide +kernel
theorem uw_w1 : wasA noS uwO1 = ⟨0, 1, 7, false⟩ := by decide +kernel
theorem uw_w2 : wasA uwS1 uwO2 = ⟨0, 1, 7, false⟩ := by decide +kernel
theorem uw_t1 : tnd noS uwS1 ⟨0, 1, 7, false⟩ = true := by decide +kernel
theorem uw_t2 : tnd uwS1 uwS2 ⟨0, 1, 7, false⟩ = true := by decide +kernel
theorem uw_e1 : eD 3 4 noS uwO1 = #[.int .i64 0, .int .i64 1, .bool true] := by unfold eD; rw [if_pos uw_c1, uw_w1]; unfold ecs; rw [show opS 3 4 noS uwO1 = uwS1 from rfl, uw_t1]
theorem uw_e2 : eD 3 4 uwS1 uwO2 = #[.int .i64 0, .int .i64 1, .bool true] := by unfold eD; rw [if_pos uw_c2, uw_w2]; unfold ecs; rw [show opS 3 4 uwS1 uwO2 = uwS2 from rfl, uw_t2]
theorem uw_e3 : ecs uwS2 uwS1 (wasA uwS1 uwO2) = #[.int .i64 0, .int .i64 1, .bool true] := by rw [uw_w2]; unfold ecs; rw [tnd_comm, uw_t2]
theorem uw_h1 : hDo 3 4 2 (noS, []) uwO1 = (uwS1, [(uwO1, noS)]) := if_pos uw_c1
theorem uw_h2 : hDo 3 4 2 (uwS1, [(uwO1, noS)]) uwO2 = (uwS2, [(uwO1, noS), (uwO2, uwS1)]) := if_pos uw_c2
theorem uw_h3 : hDo 3 4 2 (uwS2, [(uwO1, noS), (uwO2, uwS1)]) uwO3 = (uwS2, [(uwO1, noS), (uwO2, uwS1)]) := if_neg (by rw [uw_c3]; decide)
theorem uw_e4 : eD 3 4 uwS2 uwO3 = #[.int .i64 0, .int .i64 0, .bool false] := by unfold eD; rw [if_neg (by rw [uw_c3]; decide)]
theorem hok_none {n most : Int} {k : Nat} (h1 : 1 ≤ n) (h2 : n ≤ 24) (m1 : 1 ≤ most) (m2 : most ≤ 64) (hk : 1 ≤ k) : HOk n most k noS [] :=
  ⟨ok_none h1 h2 m1 m2, by have : cnt noS = 0 := by decide +kernel
                           omega, hk, Nat.zero_le _, .nil _⟩
set_option maxHeartbeats 2000000 in
theorem awake24_ct {w : World} {L : List HProp} (H : Holds w L) : CT Try.prog 51 [] w fun u w' => u = .bool true ∧ Holds w' L := by
  have k0 : HOk 3 4 2 noS [] := hok_none (by omega) (by omega) (by omega) (by omega) (by omega)
  have k1 : HOk 3 4 2 uwS1 [(uwO1, noS)] := by have := hok_do (x := (noS, [])) uwO1 k0; rw [uw_h1] at this; exact this
  have k2 : HOk 3 4 2 uwS2 ([(uwO1, noS)] ++ [(uwO2, uwS1)]) := by have := hok_do (x := (uwS1, [(uwO1, noS)])) uwO2 k1; rw [uw_h2] at this; exact this
  refine CT.enter (N := 88) Try.func51 rfl rfl rfl rfl ?_
  refine W.seq (fun K0 hK0 => ?_)
  refine W.region ?_
  refine O.ex (Ex.assign rfl) rfl ?_
  refine O.nil ?_
  refine hK0 _ _ _ ?_
  refine W.seq (fun K1 hK1 => ?_)
  refine W.region ?_
  refine O.callF Try.call52 rfl rfl (CT.mono (unew_ct (n := 3) (most := 4) (room := 2) (by assumption)) ?_)
  rintro _ w (⟨hno, -⟩ | ⟨-, b, rfl, H⟩)
  · exact absurd ⟨⟨by omega, by omega⟩, by omega⟩ hno
  have H : Holds w (Uk b 2 3 4 noS (trP []) :: L) := H
  refine O.ex (Ex.move rfl) rfl ?_
  refine O.ex (Ex.extract rfl rfl) rfl ?_
  refine O.ex (Ex.extract rfl rfl) rfl ?_
  refine O.ex (Ex.assign rfl) rfl ?_
  refine O.ex (Ex.assign rfl) rfl ?_
  refine O.nil ?_
  refine hK1 _ _ _ ?_
  refine W.seq (fun K2 hK2 => ?_)
  refine W.region ?_
  refine O.callF Try.call52 rfl rfl (CT.mono (unew_ct (n := 3) (most := 4) (room := 33) (by assumption)) ?_)
  rintro _ w (⟨-, rfl, H⟩ | ⟨hyes, -⟩)
  rotate_left
  · exact absurd hyes.2.2 (by omega)
  refine O.ex (Ex.move rfl) rfl ?_
  refine O.ex (Ex.extract rfl rfl) rfl ?_
  refine O.ex (Ex.extract rfl rfl) rfl ?_
  refine O.ex (Ex.assign rfl) rfl ?_
  refine O.ex (Ex.assign rfl) rfl ?_
  refine O.nil ?_
  refine hK2 _ _ _ ?_
  refine W.seq (fun K3 hK3 => ?_)
  refine W.seq (fun K4 hK4 => ?_)
  refine W.region ?_
  refine O.ex (Ex.move rfl) rfl ?_
  refine O.ex (Ex.nilEq Try.runUnderlying83 rfl rfl) rfl ?_
  refine O.ex (Ex.move rfl) rfl ?_
  refine O.known (t := 23) (c := false) rfl (by first | rfl | decide) ?_
  refine O.guard_t rfl rfl ?_
  refine O.ex (Ex.move rfl) rfl ?_
  refine O.guard_t rfl rfl ?_
  refine O.ex (Ex.neqI rfl rfl) rfl ?_
  refine O.ex (Ex.pick_f rfl rfl) rfl ?_
  refine O.ex (Ex.move rfl) rfl ?_
  refine O.known (t := 27) (c := false) rfl (by first | rfl | decide) ?_
  refine O.guard_t rfl rfl ?_
  refine O.ex (Ex.move rfl) rfl ?_
  refine O.guard_t rfl rfl ?_
  refine O.ex (Ex.neqI rfl rfl) rfl ?_
  refine O.ex (Ex.pick_f rfl rfl) rfl ?_
  refine O.nil ?_
  refine hK4 _ _ _ ?_
  refine W.known_f rfl (by first | rfl | decide) ?_
  refine W.skip ?_
  refine hK3 _ _ _ ?_
  refine W.seq (fun K5 hK5 => ?_)
  refine W.region ?_
  refine O.ex (Ex.move rfl) rfl ?_
  refine O.ex (Ex.build rfl (bld91_0_1_2_3_4 _ _ _ _ _ (by first | rfl | assumption) (by first | rfl | assumption) (by first | rfl | assumption) (by first | rfl | assumption) (by first | rfl | assumption))) rfl ?_
  refine O.callF Try.call58 rfl rfl (CT.mono (pdo_ct (op := uwO1) uw_h1 uw_e1 uw_c1 k0 (by decide) (Holds.to (by assumption))) ?_)
  rintro _ w ⟨rfl, H⟩
  refine O.ex (Ex.move rfl) rfl ?_
  refine O.ex (Ex.extract rfl rfl) rfl ?_
  refine O.ex (Ex.extract rfl rfl) rfl ?_
  refine O.allocP Try.zeroValue93 (fun b5 w H => ?_)
  first | refine O.storeAggP Try.sizeOf93 rfl rfl rfl rfl (fun w H => ?_) | refine O.storeAggN Try.sizeOf93 rfl rfl rfl (fun w H => ?_) rfl
  refine O.ex (Ex.assign rfl) rfl ?_
  refine O.nil ?_
  refine hK5 _ _ _ ?_
  refine W.seq (fun K6 hK6 => ?_)
  refine W.region ?_
  refine O.ex (Ex.move rfl) rfl ?_
  refine O.ex (Ex.build rfl (bld91_0_1 _ _ (by first | rfl | assumption) (by first | rfl | assumption))) rfl ?_
  refine O.callF Try.call58 rfl rfl (CT.mono (pdo_ct (op := uwO2) uw_h2 uw_e2 uw_c2 k1 (by decide) (Holds.to (M := Uk b 2 3 4 uwS1 (trP [(uwO1, noS)]) :: _) (by assumption))) ?_)
  rintro _ w ⟨rfl, H⟩
  refine O.ex (Ex.move rfl) rfl ?_
  refine O.ex (Ex.extract rfl rfl) rfl ?_
  refine O.ex (Ex.extract rfl rfl) rfl ?_
  refine O.allocP Try.zeroValue93 (fun b7 w H => ?_)
  first | refine O.storeAggP Try.sizeOf93 rfl rfl rfl rfl (fun w H => ?_) | refine O.storeAggN Try.sizeOf93 rfl rfl rfl (fun w H => ?_) rfl
  refine O.ex (Ex.assign rfl) rfl ?_
  refine O.nil ?_
  refine hK6 _ _ _ ?_
  refine W.seq (fun K7 hK7 => ?_)
  refine W.region ?_
  refine O.ex (Ex.move rfl) rfl ?_
  refine O.ex (Ex.build rfl (bld91_0 _ (by first | rfl | assumption))) rfl ?_
  refine O.callF Try.call58 rfl rfl (CT.mono (pdo_ct (op := uwO3) uw_h3 uw_e4 uw_c3 k2 (by decide) (Holds.to (M := Uk b 2 3 4 uwS2 (trP [(uwO1, noS), (uwO2, uwS1)]) :: _) (Holds.to (by assumption)))) ?_)
  rintro _ w ⟨rfl, H⟩
  refine O.ex (Ex.move rfl) rfl ?_
  refine O.ex (Ex.extract rfl rfl) rfl ?_
  refine O.ex (Ex.extract rfl rfl) rfl ?_
  refine O.allocP Try.zeroValue93 (fun b9 w H => ?_)
  first | refine O.storeAggP Try.sizeOf93 rfl rfl rfl rfl (fun w H => ?_) | refine O.storeAggN Try.sizeOf93 rfl rfl rfl (fun w H => ?_) rfl
  refine O.ex (Ex.assign rfl) rfl ?_
  refine O.nil ?_
  refine hK7 _ _ _ ?_
  refine W.seq (fun K8 hK8 => ?_)
  refine W.region ?_
  refine O.ex (Ex.move rfl) rfl ?_
  refine O.callF Try.call55 rfl rfl (CT.mono (pun_ct (h := [(uwO1, noS)]) (x := (uwO2, uwS1)) k2 (Holds.to (M := Uk b 2 3 4 uwS2 (trP [(uwO1, noS), (uwO2, uwS1)]) :: _) (Holds.to (by assumption)))) ?_)
  rintro _ w ⟨rfl, H⟩
  rw [uw_e3]
  refine O.ex (Ex.move rfl) rfl ?_
  refine O.ex (Ex.extract rfl rfl) rfl ?_
  refine O.ex (Ex.extract rfl rfl) rfl ?_
  refine O.allocP Try.zeroValue93 (fun b11 w H => ?_)
  first | refine O.storeAggP Try.sizeOf93 rfl rfl rfl rfl (fun w H => ?_) | refine O.storeAggN Try.sizeOf93 rfl rfl rfl (fun w H => ?_) rfl
  refine O.ex (Ex.assign rfl) rfl ?_
  refine O.nil ?_
  refine hK8 _ _ _ ?_
  refine W.seq (fun K9 hK9 => ?_)
  refine W.region ?_
  refine O.ex (by first | exact Ex.loadAggP Try.isAgg93 Try.sizeOf93 rfl | exact Ex.loadAggN Try.isAgg93 Try.sizeOf93 rfl | exact Ex.loadIn Try.isAgg93 Try.sizeOf93 rfl (Holds.to (by assumption))) rfl ?_
  refine O.ex (Ex.build rfl (bld93_0_1_2 _ _ _ (by first | rfl | assumption) (by first | rfl | assumption) (by first | rfl | assumption))) rfl ?_
  refine O.ex (Ex.eqlAgg rfl rfl Try.eqGuardType93 (eqEnds 0 1 true _)) rfl ?_
  refine O.ex (Ex.move rfl) rfl ?_
  refine O.known (t := 57) (c := true) rfl (by first | rfl | decide) ?_
  refine O.guard_t rfl rfl ?_
  refine O.ex (Ex.move rfl) rfl ?_
  refine O.guard_t rfl rfl ?_
  refine O.ex (Ex.eqlI rfl rfl) rfl ?_
  refine O.ex (Ex.pick_t rfl rfl) rfl ?_
  refine O.ex (Ex.move rfl) rfl ?_
  refine O.known (t := 61) (c := true) rfl (by first | rfl | decide) ?_
  refine O.guard_t rfl rfl ?_
  refine O.ex (by first | exact Ex.loadAggP Try.isAgg93 Try.sizeOf93 rfl | exact Ex.loadAggN Try.isAgg93 Try.sizeOf93 rfl | exact Ex.loadIn Try.isAgg93 Try.sizeOf93 rfl (Holds.to (by assumption))) rfl ?_
  refine O.guard_t rfl rfl ?_
  refine O.ex (by first | exact Ex.loadAggP Try.isAgg93 Try.sizeOf93 rfl | exact Ex.loadAggN Try.isAgg93 Try.sizeOf93 rfl | exact Ex.loadIn Try.isAgg93 Try.sizeOf93 rfl (Holds.to (by assumption))) rfl ?_
  refine O.guard_t rfl rfl ?_
  refine O.ex (Ex.eqlAgg rfl rfl Try.eqGuardType93 (eqEnds 0 1 true _)) rfl ?_
  refine O.ex (Ex.pick_t rfl rfl) rfl ?_
  refine O.ex (Ex.move rfl) rfl ?_
  refine O.known (t := 66) (c := true) rfl (by first | rfl | decide) ?_
  refine O.guard_t rfl rfl ?_
  refine O.ex (Ex.move rfl) rfl ?_
  refine O.guard_t rfl rfl ?_
  refine O.ex (Ex.eqlI rfl rfl) rfl ?_
  refine O.ex (Ex.pick_t rfl rfl) rfl ?_
  refine O.ex (Ex.move rfl) rfl ?_
  refine O.known (t := 70) (c := true) rfl (by first | rfl | decide) ?_
  refine O.guard_t rfl rfl ?_
  refine O.ex (Ex.move rfl) rfl ?_
  refine O.guard_t rfl rfl ?_
  refine O.ex (Ex.eqlI rfl rfl) rfl ?_
  refine O.ex (Ex.pick_t rfl rfl) rfl ?_
  refine O.ex (Ex.move rfl) rfl ?_
  refine O.known (t := 74) (c := true) rfl (by first | rfl | decide) ?_
  refine O.guard_t rfl rfl ?_
  refine O.ex (by first | exact Ex.loadAggP Try.isAgg93 Try.sizeOf93 rfl | exact Ex.loadAggN Try.isAgg93 Try.sizeOf93 rfl | exact Ex.loadIn Try.isAgg93 Try.sizeOf93 rfl (Holds.to (by assumption))) rfl ?_
  refine O.guard_t rfl rfl ?_
  refine O.ex (by first | exact Ex.loadAggP Try.isAgg93 Try.sizeOf93 rfl | exact Ex.loadAggN Try.isAgg93 Try.sizeOf93 rfl | exact Ex.loadIn Try.isAgg93 Try.sizeOf93 rfl (Holds.to (by assumption))) rfl ?_
  refine O.guard_t rfl rfl ?_
  refine O.ex (Ex.eqlAgg rfl rfl Try.eqGuardType93 (eqEnds 0 1 true _)) rfl ?_
  refine O.ex (Ex.pick_t rfl rfl) rfl ?_
  refine O.ex (Ex.move rfl) rfl ?_
  refine O.known (t := 79) (c := true) rfl (by first | rfl | decide) ?_
  refine O.guard_t rfl rfl ?_
  refine O.ex (Ex.move rfl) rfl ?_
  refine O.guard_t rfl rfl ?_
  refine O.ex (Ex.eqlI rfl rfl) rfl ?_
  refine O.ex (Ex.pick_t rfl rfl) rfl ?_
  refine O.ex (Ex.move rfl) rfl ?_
  refine O.known (t := 83) (c := true) rfl (by first | rfl | decide) ?_
  refine O.guard_t rfl rfl ?_
  refine O.ex (Ex.move rfl) rfl ?_
  refine O.guard_t rfl rfl ?_
  refine O.callF Try.call91 rfl rfl (CT.mono (ulen_ct (b := b) (Holds.to (M := Uk b 2 3 4 uwS1 (trP [(uwO1, noS)]) :: _) (by assumption))) ?_)
  rintro _ w ⟨rfl, H⟩
  refine O.guard_t rfl rfl ?_
  refine O.ex (Ex.eqlI rfl rfl) rfl ?_
  refine O.ex (Ex.pick_t rfl rfl) rfl ?_
  refine O.ex (Ex.assign rfl) rfl ?_
  refine O.nil ?_
  refine hK9 _ _ _ ?_
  refine W.ret ?_
  try dsimp only [thenQ, blockQ, retQ]
  first | refine ⟨_, ⟨_, _, rfl, rfl, rfl⟩, ?_⟩ | (refine retD_mark ?_; intro w H; refine ⟨_, ⟨_, _, rfl, rfl, rfl⟩, ?_⟩) | (refine retD_mark2 ?_; intro w H; refine ⟨_, ⟨_, _, rfl, rfl, rfl⟩, ?_⟩)
  exact ⟨rfl, Holds.to (by assumption)⟩
end Go.Proofs.Ytakmbbgnnbpkoaa
