import Derived.Test.YtblapiiinbppiaaWit6
namespace Go.Proofs.Ytblapiiinbppiaa
--ARR
open Go.Rr Go Hp Wt
set_option linter.unusedVariables false
theorem spared2_ct {w : World} {m : Nat} {n u v x settles : Int} {c : Int → Int → Int} {L : List HProp} (hg : Good n c) (H : Holds w (Mh m n c :: L)) :
    CT Try.prog 37 [.pointer (some ⟨m, 0, none⟩), .int .i64 u, .int .i64 v, .int .i64 x, .int .i64 settles] w fun y w' => ∃ b e, y = .tuple #[.bool b, .int .i64 e] ∧ Holds w' (Mh m n c :: L) ∧
      ((¬ three n u v x ∧ b = false ∧ e = 1) ∨ (three n u v x ∧ e = 0 ∧ ∃ j, to n.toNat c u.toNat (bitN v) settles (two (c u v) (c v x)) j ∧ stopP n.toNat c u.toNat (bitN v) settles (two (c u v) (c v x)) j ∧ b = decide (x ∈ (st n.toNat c u.toNat (bitN v) j).map Prod.fst))) :=
  (spared_ct hg H).mono fun y w' hh => by
    rcases hh with ⟨hno, e, H⟩ | ⟨hyes, j, hto, hst, e, H⟩
    · exact ⟨_, _, e, H, .inl ⟨hno, rfl, rfl⟩⟩
    · exact ⟨_, _, e, H, .inr ⟨hyes, rfl, j, hto, hst, rfl⟩⟩
set_option maxHeartbeats 2000000 in
theorem witnessMore_ct {w0 : World} {q u v x few more : Int} {lv : Value} {l : List Step} (hq : (Lit.int .u8 q).wf = true) (hx : SlIn w0 3 Step.enc lv l) (hl : l.length ≤ 9223372036854775807) (f0 : 0 ≤ few) (f1 : few ≤ 255) (m0 : 0 ≤ more) (m1 : more ≤ 255) :
    CT Try.prog 9 [.int .u8 q, lv, .int .i64 u, .int .i64 v, .int .i64 x, .int .u8 few, .int .u8 more] w0 fun y w' => y = .bool true ∧ RowKit.Below w0.heap.size w0 w' := by
  have H := Holds.base_refl w0
  refine CT.enter (N := 86) Try.func9 rfl rfl rfl rfl ?_
  refine W.seq (fun K0 hK0 => ?_)
  refine W.region ?_
  refine O.ex (Ex.assign rfl) rfl ?_
  refine O.nil ?_
  refine hK0 _ _ _ ?_
  refine W.seq (fun K1 hK1 => ?_)
  refine W.seq (fun K2 hK2 => ?_)
  refine W.region ?_
  refine O.callF Try.call32 rfl rfl (CT.mono (awake13_ct (Holds.to (by assumption))) ?_)
  rintro _ w ⟨rfl, H⟩
  refine O.ex (by first | exact Ex.notD rfl | exact Ex.not rfl) rfl ?_
  refine O.nil ?_
  refine hK2 _ _ _ ?_
  refine W.known_f rfl (by first | rfl | decide | exact decide_eq_false (fun hh => hh hyes) | exact decide_eq_true hno) ?_
  refine W.skip ?_
  refine hK1 _ _ _ ?_
  refine W.seq (fun K3 hK3 => ?_)
  refine W.region ?_
  refine O.ex (Ex.move rfl) rfl ?_
  refine O.ex (Ex.move rfl) rfl ?_
  refine O.callF Try.call16 rfl rfl (CT.mono (made_ct hq hx hl (Holds.to (by assumption))) ?_)
  rintro _ w ⟨m, r, n, c, hg, rfl, H⟩
  refine O.ex (Ex.move rfl) rfl ?_
  refine O.ex (Ex.extract rfl rfl) rfl ?_
  refine O.ex (Ex.extract rfl rfl) rfl ?_
  refine O.ex (Ex.assign rfl) rfl ?_
  refine O.ex (Ex.assign rfl) rfl ?_
  refine O.nil ?_
  refine hK3 _ _ _ ?_
  refine W.seq (fun K4 hK4 => ?_)
  refine W.seq (fun K5 hK5 => ?_)
  refine W.region ?_
  refine O.ex (Ex.move rfl) rfl ?_
  refine O.ex (Ex.nilEq Try.runUnderlying25 rfl rfl) rfl ?_
  refine O.nil ?_
  refine hK5 _ _ _ ?_
  refine W.known_f rfl (by first | rfl | decide | exact decide_eq_false (fun hh => hh hyes) | exact decide_eq_true hno) ?_
  refine W.skip ?_
  refine hK4 _ _ _ ?_
  refine W.seq (fun K6 hK6 => ?_)
  refine W.region ?_
  refine O.ex (Ex.move rfl) rfl ?_
  refine O.ex (by first | exact Ex.convToI Try.runUnderlying5 Try.runUnderlying3 rfl | exact Ex.convW Try.runUnderlying5 Try.runUnderlying3 rfl) rfl ?_
  refine O.ex (Ex.move rfl) rfl ?_
  refine O.ex (by first | exact Ex.convToI Try.runUnderlying5 Try.runUnderlying3 rfl | exact Ex.convW Try.runUnderlying5 Try.runUnderlying3 rfl) rfl ?_
  refine O.ex (Ex.minI rfl rfl) rfl ?_
  refine O.ex (Ex.move rfl) rfl ?_
  refine O.ex (by first | exact Ex.convToI Try.runUnderlying5 Try.runUnderlying3 rfl | exact Ex.convW Try.runUnderlying5 Try.runUnderlying3 rfl) rfl ?_
  refine O.ex (Ex.move rfl) rfl ?_
  refine O.ex (by first | exact Ex.convToI Try.runUnderlying5 Try.runUnderlying3 rfl | exact Ex.convW Try.runUnderlying5 Try.runUnderlying3 rfl) rfl ?_
  refine O.ex (Ex.maxI rfl rfl) rfl ?_
  refine O.ex (Ex.assign rfl) rfl ?_
  refine O.ex (Ex.assign rfl) rfl ?_
  refine O.nil ?_
  refine hK6 _ _ _ ?_
  refine W.seq (fun K7 hK7 => ?_)
  refine W.region ?_
  refine O.ex (Ex.move rfl) rfl ?_
  refine O.ex (Ex.move rfl) rfl ?_
  refine O.ex (Ex.move rfl) rfl ?_
  refine O.ex (Ex.move rfl) rfl ?_
  refine O.ex (Ex.move rfl) rfl ?_
  refine O.callF Try.call37 rfl rfl (CT.mono (spared2_ct hg (Holds.to (by assumption))) ?_)
  rintro _ w ⟨y1, e1, rfl, H, hf1⟩
  refine O.ex (Ex.move rfl) rfl ?_
  refine O.ex (Ex.extract rfl rfl) rfl ?_
  refine O.ex (Ex.extract rfl rfl) rfl ?_
  refine O.ex (Ex.assign rfl) rfl ?_
  refine O.ex (Ex.assign rfl) rfl ?_
  refine O.nil ?_
  refine hK7 _ _ _ ?_
  refine W.seq (fun K8 hK8 => ?_)
  refine W.region ?_
  refine O.ex (Ex.move rfl) rfl ?_
  refine O.ex (Ex.move rfl) rfl ?_
  refine O.ex (Ex.move rfl) rfl ?_
  refine O.ex (Ex.move rfl) rfl ?_
  refine O.ex (Ex.move rfl) rfl ?_
  refine O.callF Try.call37 rfl rfl (CT.mono (spared2_ct hg (Holds.to (by assumption))) ?_)
  rintro _ w ⟨y2, e2, rfl, H, hf2⟩
  refine O.ex (Ex.move rfl) rfl ?_
  refine O.ex (Ex.extract rfl rfl) rfl ?_
  refine O.ex (Ex.extract rfl rfl) rfl ?_
  refine O.ex (Ex.assign rfl) rfl ?_
  refine O.ex (Ex.assign rfl) rfl ?_
  refine O.nil ?_
  refine hK8 _ _ _ ?_
  refine W.seq (fun K9 hK9 => ?_)
  refine W.seq (fun K10 hK10 => ?_)
  refine W.region ?_
  rcases hf1 with ⟨hno, rfl, rfl⟩ | ⟨hyes, rfl, j, hto, hst, rfl⟩ <;> rcases hf2 with ⟨hno2, rfl, rfl⟩ | ⟨hyes2, rfl, j2, hto2, hst2, rfl⟩ <;> first | exact absurd hyes2 hno | exact absurd hyes hno2 | skip
  · refine O.ex (Ex.move rfl) rfl ?_
    refine O.ex (Ex.move rfl) rfl ?_
    refine O.ex (Ex.move rfl) rfl ?_
    refine O.ex (Ex.move rfl) rfl ?_
    refine O.callF Try.call38 rfl rfl (CT.mono (three_ct (Holds.to (by assumption))) ?_)
    rintro _ w ⟨rfl, H⟩
    refine O.ex (by first | exact Ex.notD rfl | exact Ex.not rfl) rfl ?_
    refine O.nil ?_
    refine hK10 _ _ _ ?_
    refine W.known_t rfl (by first | rfl | decide | exact decide_eq_false (fun hh => hh hyes) | exact decide_eq_true hno) ?_
    refine W.seq (fun K11 hK11 => ?_)
    refine W.region ?_
    refine O.ex (Ex.move rfl) rfl ?_
    refine O.ex (Ex.eqlI rfl rfl) rfl ?_
    refine O.ex (Ex.move rfl) rfl ?_
    refine O.known (t := 69) (c := true) rfl (by first | rfl | decide | exact decide_eq_false (fun hh => hh hyes) | exact decide_eq_true hno) ?_
    refine O.guard_t rfl rfl ?_
    refine O.ex (Ex.move rfl) rfl ?_
    refine O.guard_t rfl rfl ?_
    refine O.ex (Ex.eqlI rfl rfl) rfl ?_
    refine O.ex (Ex.pick_t rfl rfl) rfl ?_
    refine O.ex (Ex.assign rfl) rfl ?_
    refine O.nil ?_
    refine hK11 _ _ _ ?_
    refine W.ret ?_
    try dsimp only [thenQ, blockQ, retQ]
    first | refine ⟨_, ⟨_, _, rfl, rfl, rfl⟩, ?_⟩ | (refine retD_mark ?_; intro w H; refine ⟨_, ⟨_, _, rfl, rfl, rfl⟩, ?_⟩) | (refine retD_mark2 ?_; intro w H; refine ⟨_, ⟨_, _, rfl, rfl, rfl⟩, ?_⟩)
    first
    | exact ⟨rfl, Holds.base_below (L := []) (Holds.to (by assumption))⟩
    | (have hA' := Decidable.not_not.1 hA
       exact ⟨congrArg Value.bool (decide_eq_true (more_in (by omega) hto hto2 hst2 hA')), Holds.base_below (L := []) (Holds.to (by assumption))⟩)
    | (have hB' := Decidable.not_not.1 hB
       exact ⟨congrArg Value.bool (decide_eq_true (more_in (by omega) hto hto2 hst2 hB')), Holds.base_below (L := []) (Holds.to (by assumption))⟩)
  · refine O.ex (Ex.move rfl) rfl ?_
    refine O.ex (Ex.move rfl) rfl ?_
    refine O.ex (Ex.move rfl) rfl ?_
    refine O.ex (Ex.move rfl) rfl ?_
    refine O.callF Try.call38 rfl rfl (CT.mono (three_ct (Holds.to (by assumption))) ?_)
    rintro _ w ⟨rfl, H⟩
    refine O.ex (by first | exact Ex.notD rfl | exact Ex.not rfl) rfl ?_
    refine O.nil ?_
    refine hK10 _ _ _ ?_
    refine W.known_f rfl (by first | rfl | decide | exact decide_eq_false (fun hh => hh hyes) | exact decide_eq_true hno) ?_
    refine W.skip ?_
    refine hK9 _ _ _ ?_
    refine W.seq (fun K12 hK12 => ?_)
    refine W.region ?_
    refine O.ex (Ex.move rfl) rfl ?_
    refine O.ex (Ex.eqlI rfl rfl) rfl ?_
    refine O.ex (Ex.move rfl) rfl ?_
    refine O.known (t := 75) (c := true) rfl (by first | rfl | decide | exact decide_eq_false (fun hh => hh hyes) | exact decide_eq_true hno) ?_
    refine O.guard_t rfl rfl ?_
    refine O.ex (Ex.move rfl) rfl ?_
    refine O.guard_t rfl rfl ?_
    refine O.ex (Ex.eqlI rfl rfl) rfl ?_
    refine O.ex (Ex.pick_t rfl rfl) rfl ?_
    refine O.ex (Ex.move rfl) rfl ?_
    refine O.known (t := 79) (c := true) rfl (by first | rfl | decide | exact decide_eq_false (fun hh => hh hyes) | exact decide_eq_true hno) ?_
    refine O.guard_t rfl rfl ?_
    refine O.ex (Ex.move rfl) rfl ?_
    refine O.guard_t rfl rfl ?_
    refine O.ex (by first | exact Ex.notD rfl | exact Ex.not rfl) rfl ?_
    refine O.guard_t rfl rfl ?_
    refine O.ex (Ex.move rfl) rfl ?_
    first | refine O.split_p (t := 82) rfl (fun hA => ?_) (fun hB => ?_) | refine O.split (t := 82) rfl (fun hA => ?_) (fun hB => ?_)
    · refine O.guard_f rfl rfl rfl rfl ?_
      refine O.guard_t rfl rfl ?_
      refine O.ex (Ex.pick_t rfl rfl) rfl ?_
      refine O.ex (Ex.pick_t rfl rfl) rfl ?_
      refine O.ex (Ex.assign rfl) rfl ?_
      refine O.nil ?_
      refine hK12 _ _ _ ?_
      refine W.ret ?_
      try dsimp only [thenQ, blockQ, retQ]
      first | refine ⟨_, ⟨_, _, rfl, rfl, rfl⟩, ?_⟩ | (refine retD_mark ?_; intro w H; refine ⟨_, ⟨_, _, rfl, rfl, rfl⟩, ?_⟩) | (refine retD_mark2 ?_; intro w H; refine ⟨_, ⟨_, _, rfl, rfl, rfl⟩, ?_⟩)
      first
      | exact ⟨rfl, Holds.base_below (L := []) (Holds.to (by assumption))⟩
      | (have hA' := Decidable.not_not.1 hA
         exact ⟨congrArg Value.bool (decide_eq_true (more_in (by omega) hto hto2 hst2 hA')), Holds.base_below (L := []) (Holds.to (by assumption))⟩)
      | (have hB' := Decidable.not_not.1 hB
         exact ⟨congrArg Value.bool (decide_eq_true (more_in (by omega) hto hto2 hst2 hB')), Holds.base_below (L := []) (Holds.to (by assumption))⟩)
    · refine O.guard_t rfl rfl ?_
      refine O.ex (Ex.move rfl) rfl ?_
      refine O.guard_t rfl rfl ?_
      refine O.ex (Ex.pick_f rfl rfl) rfl ?_
      refine O.ex (Ex.pick_t rfl rfl) rfl ?_
      refine O.ex (Ex.assign rfl) rfl ?_
      refine O.nil ?_
      refine hK12 _ _ _ ?_
      refine W.ret ?_
      try dsimp only [thenQ, blockQ, retQ]
      first | refine ⟨_, ⟨_, _, rfl, rfl, rfl⟩, ?_⟩ | (refine retD_mark ?_; intro w H; refine ⟨_, ⟨_, _, rfl, rfl, rfl⟩, ?_⟩) | (refine retD_mark2 ?_; intro w H; refine ⟨_, ⟨_, _, rfl, rfl, rfl⟩, ?_⟩)
      first
      | exact ⟨rfl, Holds.base_below (L := []) (Holds.to (by assumption))⟩
      | (have hA' := Decidable.not_not.1 hA
         exact ⟨congrArg Value.bool (decide_eq_true (more_in (by omega) hto hto2 hst2 hA')), Holds.base_below (L := []) (Holds.to (by assumption))⟩)
      | (have hB' := Decidable.not_not.1 hB
         exact ⟨congrArg Value.bool (decide_eq_true (more_in (by omega) hto hto2 hst2 hB')), Holds.base_below (L := []) (Holds.to (by assumption))⟩)
theorem witnessMore_row {w0 : World} {q u v x few more : Int} {lv : Value} {l : List Step} (hq : (Lit.int .u8 q).wf = true) (hx : SlIn w0 3 Step.enc lv l) (hg : ∀ x ∈ l, x.ok) (hl : l.length ≤ maxLen) (hu : (Lit.int .i64 u).wf = true) (hv : (Lit.int .i64 v).wf = true) (hw : (Lit.int .i64 x).wf = true) (hf : (Lit.int .u8 few).wf = true) (hm : (Lit.int .u8 more).wf = true) :
    CT Try.prog 9 [.int .u8 q, lv, .int .i64 u, .int .i64 v, .int .i64 x, .int .u8 few, .int .u8 more] w0 fun x w' => x = .bool true ∧ RowKit.Below w0.heap.size w0 w' := by
  obtain ⟨f0, f1⟩ := bounds_u8 hf
  obtain ⟨m0, m1⟩ := bounds_u8 hm
  exact witnessMore_ct hq hx (by unfold maxLen at hl; omega) f0 f1 m0 m1
end Go.Proofs.Ytblapiiinbppiaa
