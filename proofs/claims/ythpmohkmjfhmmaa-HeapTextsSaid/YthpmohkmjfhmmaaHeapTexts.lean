import Derived.Test.YthpmohkmjfhmmaaHeapLessens
namespace Go.Proofs.Ythpmohkmjfhmmaa
--STR
open Go.Rr Go Hp
set_option linter.unusedVariables false
set_option maxHeartbeats 2000000 in
theorem heapTexts_ct {w0 : World} {lv : Value} {l : List ByteArray} (hx : SlIn w0 1 (fun s : ByteArray => [.string s]) lv l) (hl : l.length ≤ 9223372036854775807) :
    CT Try.prog 9 [lv] w0 fun u w' => u = .bool true ∧ RowKit.Below w0.heap.size w0 w' := by
  have H := Holds.base_refl w0
  obtain ⟨S, hS⟩ : ∃ S, S = preS l l.length := ⟨_, rfl⟩
  have hsl : S.length = l.length := by rw [hS, preS_len]
  have hsg : ∀ j, j < l.length → sg S j = some (l.getD j default) := fun j hj => by rw [hS, preS_get l _ j hj, if_pos hj]
  have hpg : ∀ j, j < l.length → Hp.pg S j = l.getD j default := fun j hj => by unfold Hp.pg; rw [hsg j hj]; rfl
  have hbl : ∀ i, i ≤ l.length → (bst LtS S i).getD 0 < l.length ∨ i = 0 := fun i hi => by
    cases e : bst LtS S i with
    | none =>
      refine .inr (Nat.eq_zero_of_not_pos fun h0 => ?_)
      have := bst_none.1 e 0 h0
      rw [hsg 0 (by omega)] at this; cases this
    | some b => have := (bst_some soS e).lt; refine .inl ?_; show b < l.length; omega
  refine CT.enter (N := 103) Try.func9 rfl rfl rfl rfl ?_
  refine W.seq (fun K0 hK0 => ?_)
  refine W.region ?_
  refine O.ex (Ex.assign rfl) rfl ?_
  refine O.nil ?_
  refine hK0 _ _ _ ?_
  refine W.seq (fun K1 hK1 => ?_)
  refine W.seq (fun K2 hK2 => ?_)
  refine W.region ?_
  refine O.callF Try.call26 rfl rfl (CT.mono (awake04_ct (by assumption)) ?_)
  rintro _ w ⟨rfl, H⟩
  refine O.ex (by first | exact Ex.notD rfl | exact Ex.not rfl) rfl ?_
  refine O.nil ?_
  refine hK2 _ _ _ ?_
  refine W.known_f rfl (by first | rfl | decide | exact decide_eq_false (by omega) | exact decide_eq_false (fun hh => hh hcA) | exact decide_eq_false (fun hh => hh hcB) | exact decide_eq_true rfl | (rw [hO]; rfl) | exact hO | exact decide_eq_true hN | exact decide_eq_true hP) ?_
  refine W.skip ?_
  refine hK1 _ _ _ ?_
  refine W.seq (fun K3 hK3 => ?_)
  refine W.seq (fun K4 hK4 => ?_)
  refine W.region ?_
  refine O.ex (Ex.move rfl) rfl ?_
  refine O.ex (by first | exact Ex.lenR Try.runUnderlying53 rfl | exact Ex.lenIn Try.runUnderlying53 rfl | exact Ex.lenL Try.runUnderlying53 rfl | exact Ex.len rfl Try.runUnderlying53 rfl) rfl ?_
  refine O.ex (Ex.gtr rfl rfl) rfl ?_
  refine O.nil ?_
  refine hK4 _ _ _ ?_
  first | refine W.cond_p rfl (fun hbig => ?_) (fun hle => ?_) | refine W.cond_b rfl (fun hbig => ?_) (fun hle => ?_)
  · refine W.seq (fun K5 hK5 => ?_)
    refine W.region ?_
    refine O.ex (Ex.assign rfl) rfl ?_
    refine O.nil ?_
    refine hK5 _ _ _ ?_
    refine W.ret ?_
    try dsimp only [thenQ, blockQ, retQ]
    first | refine ⟨_, ⟨_, _, rfl, rfl, rfl⟩, ?_⟩ | (refine retD_mark ?_; intro w H; refine ⟨_, ⟨_, _, rfl, rfl, rfl⟩, ?_⟩) | (refine retD_mark2 ?_; intro w H; refine ⟨_, ⟨_, _, rfl, rfl, rfl⟩, ?_⟩)
    exact ⟨by first | rfl | exact congrArg Value.bool (by rw [hlen]; exact decide_eq_true rfl) | exact congrArg Value.bool (decide_eq_true hN), Holds.base_below (L := []) (Holds.to (by assumption))⟩
  · refine W.skip ?_
    refine hK3 _ _ _ ?_
    refine W.seq (fun K6 hK6 => ?_)
    refine W.region ?_
    refine O.ex (Ex.move rfl) rfl ?_
    refine O.ex (by first | exact Ex.lenR Try.runUnderlying53 rfl | exact Ex.lenIn Try.runUnderlying53 rfl | exact Ex.lenL Try.runUnderlying53 rfl | exact Ex.len rfl Try.runUnderlying53 rfl) rfl ?_
    refine O.callF Try.call32 rfl rfl (CT.mono (newSH_ct (Holds.to (by assumption))) ?_)
    rintro _ w (⟨hx2, -⟩ | ⟨-, h, rfl, H⟩)
    · exact absurd (by omega) hx2
    rw [Int.toNat_natCast, ← preS_zero] at H
    refine O.ex (Ex.move rfl) rfl ?_
    refine O.ex (Ex.extract rfl rfl) rfl ?_
    refine O.ex (Ex.extract rfl rfl) rfl ?_
    refine O.ex (Ex.assign rfl) rfl ?_
    refine O.ex (Ex.assign rfl) rfl ?_
    refine O.nil ?_
    refine hK6 _ _ _ ?_
    refine W.seq (fun K7 hK7 => ?_)
    refine W.seq (fun K8 hK8 => ?_)
    refine W.region ?_
    refine O.ex (Ex.move rfl) rfl ?_
    refine O.ex (Ex.nilEq Try.runUnderlying54 rfl rfl) rfl ?_
    refine O.nil ?_
    refine hK8 _ _ _ ?_
    refine W.known_f rfl (by first | rfl | decide | exact decide_eq_false (by omega) | exact decide_eq_false (fun hh => hh hcA) | exact decide_eq_false (fun hh => hh hcB) | exact decide_eq_true rfl | (rw [hO]; rfl) | exact hO | exact decide_eq_true hN | exact decide_eq_true hP) ?_
    refine W.skip ?_
    refine hK7 _ _ _ ?_
    refine W.seq (fun K9 hK9 => ?_)
    refine W.region ?_
    refine O.ex (Ex.assign rfl) rfl ?_
    refine O.nil ?_
    refine hK9 _ _ _ ?_
    refine W.seq (fun K10 hK10 => ?_)
    refine W.seq (fun K11 hK11 => ?_)
    refine W.region ?_
    refine O.ex (Ex.assign rfl) rfl ?_
    refine O.nil ?_
    refine hK11 _ _ _ ?_
    refine W.block ?_
    have h00 : ((bst LtS S 0).getD 0 : Nat) = 0 := rfl
    refine W.loop (σ := Nat) (fun i => [(0, lv), (3, .pointer (some ⟨h, 0, none⟩)), (5, .int .i64 (((bst LtS S i).getD 0 : Nat) : Int)), (6, .int .i64 (i : Int))]) (fun i ds w => ds = [] ∧ i ≤ l.length ∧ Holds w [HqS h (preS l i), base w0]) (fun i => l.length - i) 0 ⟨rfl, rfl, rfl, rfl, trivial⟩ ⟨rfl, by omega, Holds.to (by assumption)⟩ ?_
    clear H
    rintro i _ w ⟨rfl, hi, H⟩
    have hi0 : (0 : Int) ≤ (i : Int) := by omega
    obtain ⟨b, hb⟩ : ∃ b, b = (bst LtS S i).getD 0 := ⟨_, rfl⟩
    rw [← hb]
    have hb0 : (0 : Int) ≤ (b : Int) := by omega
    refine W.seq (fun K12 hK12 => ?_)
    refine W.seq (fun K13 hK13 => ?_)
    refine W.region ?_
    refine O.ex (Ex.move rfl) rfl ?_
    refine O.ex (Ex.move rfl) rfl ?_
    refine O.ex (by first | exact Ex.lenR Try.runUnderlying53 rfl | exact Ex.lenIn Try.runUnderlying53 rfl | exact Ex.lenL Try.runUnderlying53 rfl | exact Ex.len rfl Try.runUnderlying53 rfl) rfl ?_
    refine O.ex (Ex.lss rfl rfl) rfl ?_
    refine O.nil ?_
    refine hK13 _ _ _ ?_
    first | refine W.cond_p rfl (fun hlt => ?_) (fun hge => ?_) | refine W.cond_b rfl (fun hlt => ?_) (fun hge => ?_)
    · refine W.skip ?_
      refine hK12 _ _ _ ?_
      refine W.seq (fun K14 hK14 => ?_)
      refine W.block ?_
      refine W.seq (fun K15 hK15 => ?_)
      refine W.seq (fun K16 hK16 => ?_)
      refine W.region ?_
      refine O.ex (Ex.move rfl) rfl ?_
      refine O.ex (Ex.move rfl) rfl ?_
      refine O.ex (by first | exact Ex.idxR Try.runUnderlying53 Try.sizeOf9 rfl rfl | exact Ex.idxIn Try.runUnderlying53 Try.sizeOf9 rfl rfl | exact Ex.idxS Try.runUnderlying53 Try.sizeOf9 rfl rfl | exact Ex.idx Try.runUnderlying53 Try.sizeOf9 rfl rfl (by omega) (by omega)) rfl ?_
      refine O.ex (by first | exact Ex.loadP Try.isAgg9 rfl | exact Ex.loadR Try.isAgg9 rfl | exact Ex.loadIn1 Try.isAgg9 rfl (Holds.to (by assumption))) rfl ?_
      refine O.ex (Ex.lenS rfl Try.runUnderlying9 rfl) rfl ?_
      refine O.ex (Ex.gtr rfl rfl) rfl ?_
      refine O.nil ?_
      refine hK16 _ _ _ ?_
      first | refine W.cond_p rfl (fun h60 => ?_) (fun h60' => ?_) | refine W.cond_b rfl (fun h60 => ?_) (fun h60' => ?_)
      · refine W.seq (fun K17 hK17 => ?_)
        refine W.region ?_
        refine O.ex (Ex.assign rfl) rfl ?_
        refine O.nil ?_
        refine hK17 _ _ _ ?_
        refine W.ret ?_
        try dsimp only [thenQ, blockQ, retQ]
        first | refine ⟨_, ⟨_, _, rfl, rfl, rfl⟩, ?_⟩ | (refine retD_mark ?_; intro w H; refine ⟨_, ⟨_, _, rfl, rfl, rfl⟩, ?_⟩) | (refine retD_mark2 ?_; intro w H; refine ⟨_, ⟨_, _, rfl, rfl, rfl⟩, ?_⟩)
        exact ⟨by first | rfl | exact congrArg Value.bool (by rw [hlen]; exact decide_eq_true rfl) | exact congrArg Value.bool (decide_eq_true hN), Holds.base_below (L := []) (Holds.to (by assumption))⟩
      · refine W.skip ?_
        refine hK15 _ _ _ ?_
        refine W.seq (fun K18 hK18 => ?_)
        refine W.seq (fun K19 hK19 => ?_)
        refine W.region ?_
        have hin : i < l.length := by omega
        have hp := preS_put (R := LtS) l i hin
        have hcA : putC LtS (preS l i) (i : Int) (l.getD ((i : Nat) : Int).toNat default) = 0 := hp.1
        have hcB : putC LtS (preS l (i + 1)) (i : Int) (l.getD ((i : Nat) : Int).toNat default) = 5 := by
          unfold putC
          rw [if_neg (by rw [preS_len]; omega), Int.toNat_natCast, preS_get l _ i hin, if_pos (by omega)]
          exact if_neg (soS.irr _)
        have hsB : putL LtS (preS l (i + 1)) (i : Int) (l.getD ((i : Nat) : Int).toNat default) = preS l (i + 1) := by unfold putL; rw [if_neg (by rw [hcB]; decide)]
        have hbn : b < l.length := by
          rcases hbl i hi with k | rfl
          · rw [hb]; exact k
          · rw [hb]; show 0 < l.length; omega
        refine O.ex (Ex.move rfl) rfl ?_
        refine O.ex (Ex.move rfl) rfl ?_
        refine O.ex (Ex.move rfl) rfl ?_
        refine O.ex (Ex.move rfl) rfl ?_
        refine O.ex (by first | exact Ex.idxR Try.runUnderlying53 Try.sizeOf9 rfl rfl | exact Ex.idxIn Try.runUnderlying53 Try.sizeOf9 rfl rfl | exact Ex.idxS Try.runUnderlying53 Try.sizeOf9 rfl rfl | exact Ex.idx Try.runUnderlying53 Try.sizeOf9 rfl rfl (by omega) (by omega)) rfl ?_
        refine O.ex (by first | exact Ex.loadP Try.isAgg9 rfl | exact Ex.loadR Try.isAgg9 rfl | exact Ex.loadIn1 Try.isAgg9 rfl (Holds.to (by assumption))) rfl ?_
        refine O.callF Try.call33 rfl rfl (CT.mono (putSH_ct (s := preS l i) (Holds.to (by assumption))) ?_)
        rintro _ w ⟨rfl, H⟩
        rw [show putL LtS (preS l i) (i : Int) (l.getD ((i : Nat) : Int).toNat default) = preS l (i + 1) from hp.2] at H
        refine O.ex (Ex.neqI rfl rfl) rfl ?_
        refine O.ex (Ex.move rfl) rfl ?_
        refine O.known (t := 43) (c := false) rfl (by first | rfl | decide | exact decide_eq_false (by omega) | exact decide_eq_false (fun hh => hh hcA) | exact decide_eq_false (fun hh => hh hcB) | exact decide_eq_true rfl | (rw [hO]; rfl) | exact hO | exact decide_eq_true hN | exact decide_eq_true hP) ?_
        refine O.guard_t rfl rfl ?_
        refine O.ex (Ex.move rfl) rfl ?_
        refine O.guard_t rfl rfl ?_
        refine O.ex (Ex.move rfl) rfl ?_
        refine O.guard_t rfl rfl ?_
        refine O.ex (Ex.move rfl) rfl ?_
        refine O.guard_t rfl rfl ?_
        refine O.ex (Ex.move rfl) rfl ?_
        refine O.guard_t rfl rfl ?_
        refine O.ex (by first | exact Ex.idxR Try.runUnderlying53 Try.sizeOf9 rfl rfl | exact Ex.idxIn Try.runUnderlying53 Try.sizeOf9 rfl rfl | exact Ex.idxS Try.runUnderlying53 Try.sizeOf9 rfl rfl | exact Ex.idx Try.runUnderlying53 Try.sizeOf9 rfl rfl (by omega) (by omega)) rfl ?_
        refine O.guard_t rfl rfl ?_
        refine O.ex (by first | exact Ex.loadP Try.isAgg9 rfl | exact Ex.loadR Try.isAgg9 rfl | exact Ex.loadIn1 Try.isAgg9 rfl (Holds.to (by assumption))) rfl ?_
        refine O.guard_t rfl rfl ?_
        refine O.callF Try.call33 rfl rfl (CT.mono (putSH_ct (s := preS l (i + 1)) (Holds.to (by assumption))) ?_)
        rintro _ w ⟨rfl, H⟩
        rw [hsB] at H
        refine O.guard_t rfl rfl ?_
        refine O.ex (Ex.neqI rfl rfl) rfl ?_
        refine O.ex (Ex.pick_f rfl rfl) rfl ?_
        refine O.nil ?_
        refine hK19 _ _ _ ?_
        refine W.known_f rfl (by first | rfl | decide | exact decide_eq_false (by omega) | exact decide_eq_false (fun hh => hh hcA) | exact decide_eq_false (fun hh => hh hcB) | exact decide_eq_true rfl | (rw [hO]; rfl) | exact hO | exact decide_eq_true hN | exact decide_eq_true hP) ?_
        refine W.skip ?_
        refine hK18 _ _ _ ?_
        refine W.seq (fun K20 hK20 => ?_)
        refine W.drawTo _ (.take 0 (.take 1 (.take 2 (.take 3 (.take 4 (.take 5 (.take 6 (.take 7 (.take 8 .nil))))))))) (mixed) (fun _ _ _ _ h => h) (by assumption) (PP.refl _) (by decide +kernel) (fun w H => ?_)
        refine OQ.ex rfl (fun w H => (Ex.move rfl)) rfl ?_
        refine OQ.ex rfl (fun w H => (Ex.move rfl)) rfl ?_
        refine OQ.ex rfl (fun w H => (by first | exact Ex.idxR Try.runUnderlying53 Try.sizeOf9 rfl rfl | exact Ex.idxIn Try.runUnderlying53 Try.sizeOf9 rfl rfl | exact Ex.idxS Try.runUnderlying53 Try.sizeOf9 rfl rfl | exact Ex.idx Try.runUnderlying53 Try.sizeOf9 rfl rfl (by omega) (by omega))) rfl ?_
        refine OQ.ex rfl (fun w H => (by first | exact Ex.loadP Try.isAgg9 rfl | exact Ex.loadR Try.isAgg9 rfl | exact Ex.loadIn1 Try.isAgg9 rfl (Holds.to (by assumption)))) rfl ?_
        refine OQ.ex rfl (fun w H => (Ex.move rfl)) rfl ?_
        refine OQ.ex rfl (fun w H => (Ex.move rfl)) rfl ?_
        refine OQ.ex rfl (fun w H => (by first | exact Ex.idxR Try.runUnderlying53 Try.sizeOf9 rfl rfl | exact Ex.idxIn Try.runUnderlying53 Try.sizeOf9 rfl rfl | exact Ex.idxS Try.runUnderlying53 Try.sizeOf9 rfl rfl | exact Ex.idx Try.runUnderlying53 Try.sizeOf9 rfl rfl (by omega) (by omega))) rfl ?_
        refine OQ.ex rfl (fun w H => (by first | exact Ex.loadP Try.isAgg9 rfl | exact Ex.loadR Try.isAgg9 rfl | exact Ex.loadIn1 Try.isAgg9 rfl (Holds.to (by assumption)))) rfl ?_
        refine OQ.ex rfl (fun w H => (Ex.lssT rfl rfl)) rfl ?_
        refine OQ.done ?_
        refine hK20 _ _ _ ?_
        first | refine W.cond_p rfl (fun hls => ?_) (fun hnls => ?_) | refine W.cond_b rfl (fun hls => ?_) (fun hnls => ?_)
        · refine W.region ?_
          refine O.ex (Ex.move rfl) rfl ?_
          refine O.ex (Ex.assign rfl) rfl ?_
          refine O.nil ?_
          refine hK14 _ _ _ ?_
          refine W.region ?_
          refine O.ex (Ex.move rfl) rfl ?_
          refine O.ex (by first | exact Ex.addI rfl rfl | exact Ex.add rfl rfl rfl) rfl ?_
          refine O.ex (Ex.assign rfl) rfl ?_
          refine O.nil ?_
          refine ⟨i + 1, ⟨rfl, rfl, ?_, rfl, trivial⟩, ⟨rfl, by omega, Holds.to (by assumption)⟩, by omega⟩
          show some (Value.int .i64 _) = some (Value.int .i64 _)
          congr 2
          rw [Int.toNat_natCast, Int.toNat_natCast] at *
          have e1 : bst LtS S (i + 1) = match bst LtS S i with
            | none => some i
            | some b => if LtS (l.getD i default) (Hp.pg S b) then some i else some b := by rw [bst, hsg i hin]; rfl
          cases e : bst LtS S i with
          | none =>
            have hz : i = 0 := Nat.eq_zero_of_not_pos fun h0 => by
              have := bst_none.1 e 0 h0
              rw [hsg 0 (by omega)] at this; cases this
            rw [e] at e1 hb
            rw [e1]
            first
            | rfl
            | (rw [hb, hz]; rfl)
          | some b' =>
            rw [e] at e1 hb
            have hb2 : b = b' := hb
            rw [e1]
            dsimp only
            rw [hpg b' (by omega), ← hb2]
            first
            | (rw [if_pos hls]; rfl)
            | (rw [if_neg hnls]; rfl)
        · refine W.skip ?_
          refine hK14 _ _ _ ?_
          refine W.region ?_
          refine O.ex (Ex.move rfl) rfl ?_
          refine O.ex (by first | exact Ex.addI rfl rfl | exact Ex.add rfl rfl rfl) rfl ?_
          refine O.ex (Ex.assign rfl) rfl ?_
          refine O.nil ?_
          refine ⟨i + 1, ⟨rfl, rfl, ?_, rfl, trivial⟩, ⟨rfl, by omega, Holds.to (by assumption)⟩, by omega⟩
          show some (Value.int .i64 _) = some (Value.int .i64 _)
          congr 2
          rw [Int.toNat_natCast, Int.toNat_natCast] at *
          have e1 : bst LtS S (i + 1) = match bst LtS S i with
            | none => some i
            | some b => if LtS (l.getD i default) (Hp.pg S b) then some i else some b := by rw [bst, hsg i hin]; rfl
          cases e : bst LtS S i with
          | none =>
            have hz : i = 0 := Nat.eq_zero_of_not_pos fun h0 => by
              have := bst_none.1 e 0 h0
              rw [hsg 0 (by omega)] at this; cases this
            rw [e] at e1 hb
            rw [e1]
            first
            | rfl
            | (rw [hb, hz]; rfl)
          | some b' =>
            rw [e] at e1 hb
            have hb2 : b = b' := hb
            rw [e1]
            dsimp only
            rw [hpg b' (by omega), ← hb2]
            first
            | (rw [if_pos hls]; rfl)
            | (rw [if_neg hnls]; rfl)
    · refine W.exit ?_
      refine hK10 _ _ _ ?_
      refine W.seq (fun K21 hK21 => ?_)
      refine W.region ?_
      obtain rfl : i = l.length := by omega
      rw [← hS] at H
      have hbs : bs LtS S = bst LtS S l.length := by unfold bs; rw [hsl]
      refine O.ex (Ex.move rfl) rfl ?_
      refine O.callF Try.call34 rfl rfl (CT.mono (peekSH_ct (Holds.to (by assumption))) ?_)
      rintro _ w ⟨rfl, H⟩
      refine O.ex (Ex.move rfl) rfl ?_
      refine O.ex (Ex.extract rfl rfl) rfl ?_
      refine O.ex (Ex.extract rfl rfl) rfl ?_
      refine O.ex (Ex.extract rfl rfl) rfl ?_
      refine O.ex (Ex.assign rfl) rfl ?_
      refine O.ex (Ex.assign rfl) rfl ?_
      refine O.ex (Ex.assign rfl) rfl ?_
      refine O.nil ?_
      refine hK21 _ _ _ ?_
      refine W.seq (fun K22 hK22 => ?_)
      refine W.seq (fun K23 hK23 => ?_)
      refine W.region ?_
      refine O.ex (Ex.move rfl) rfl ?_
      refine O.ex (by first | exact Ex.lenR Try.runUnderlying53 rfl | exact Ex.lenIn Try.runUnderlying53 rfl | exact Ex.lenL Try.runUnderlying53 rfl | exact Ex.len rfl Try.runUnderlying53 rfl) rfl ?_
      refine O.ex (Ex.eqlI rfl rfl) rfl ?_
      refine O.nil ?_
      refine hK23 _ _ _ ?_
      first | refine W.cond_p rfl (fun hz => ?_) (fun hnz => ?_) | refine W.cond_b rfl (fun hz => ?_) (fun hnz => ?_)
      · refine W.seq (fun K24 hK24 => ?_)
        refine W.region ?_
        have hbs0 : bs LtS S = none := by rw [hbs, show l.length = 0 from by omega]; rfl
        have hO : pkO LtS S = false := by unfold pkO; rw [hbs0]; rfl
        have hP : pkP LtS S = ByteArray.empty := by unfold pkP; rw [hbs0]; rfl
        have hN : ((pkN LtS S : Nat) : Int) = 0 := by unfold pkN; rw [hbs0]; rfl
        refine O.ex (Ex.move rfl) rfl ?_
        refine O.ex (by first | exact Ex.notD rfl | exact Ex.not rfl) rfl ?_
        refine O.ex (Ex.move rfl) rfl ?_
        refine O.known (t := 74) (c := true) rfl (by first | rfl | decide | exact decide_eq_false (by omega) | exact decide_eq_false (fun hh => hh hcA) | exact decide_eq_false (fun hh => hh hcB) | exact decide_eq_true rfl | (rw [hO]; rfl) | exact hO | exact decide_eq_true hN | exact decide_eq_true hP) ?_
        refine O.guard_t rfl rfl ?_
        refine O.ex (Ex.move rfl) rfl ?_
        refine O.guard_t rfl rfl ?_
        refine O.ex (Ex.eqlS rfl rfl) rfl ?_
        refine O.ex (Ex.pick_t rfl rfl) rfl ?_
        refine O.ex (Ex.move rfl) rfl ?_
        refine O.known (t := 78) (c := true) rfl (by first | rfl | decide | exact decide_eq_false (by omega) | exact decide_eq_false (fun hh => hh hcA) | exact decide_eq_false (fun hh => hh hcB) | exact decide_eq_true rfl | (rw [hO]; rfl) | exact hO | exact decide_eq_true hN | exact decide_eq_true hP) ?_
        refine O.guard_t rfl rfl ?_
        refine O.ex (Ex.move rfl) rfl ?_
        refine O.guard_t rfl rfl ?_
        refine O.ex (Ex.eqlI rfl rfl) rfl ?_
        refine O.ex (Ex.pick_t rfl rfl) rfl ?_
        refine O.ex (Ex.assign rfl) rfl ?_
        refine O.nil ?_
        refine hK24 _ _ _ ?_
        refine W.ret ?_
        try dsimp only [thenQ, blockQ, retQ]
        first | refine ⟨_, ⟨_, _, rfl, rfl, rfl⟩, ?_⟩ | (refine retD_mark ?_; intro w H; refine ⟨_, ⟨_, _, rfl, rfl, rfl⟩, ?_⟩) | (refine retD_mark2 ?_; intro w H; refine ⟨_, ⟨_, _, rfl, rfl, rfl⟩, ?_⟩)
        exact ⟨by first | rfl | exact congrArg Value.bool (by rw [hlen]; exact decide_eq_true rfl) | exact congrArg Value.bool (decide_eq_true hN), Holds.base_below (L := []) (Holds.to (by assumption))⟩
      · refine W.skip ?_
        refine hK22 _ _ _ ?_
        refine W.seq (fun K25 hK25 => ?_)
        refine W.region ?_
        have hbn : b < l.length := by
          rcases hbl l.length (Nat.le_refl _) with k | k
          · rw [hb]; exact k
          · omega
        have hbs1 : bs LtS S = some b := by
          rw [hbs]
          cases e : bst LtS S l.length with
          | none => have := bst_none.1 e 0 (by omega); rw [hsg 0 (by omega)] at this; cases this
          | some b' => rw [e] at hb; rw [show b = b' from hb]
        have hO : pkO LtS S = true := by unfold pkO; rw [hbs1]; rfl
        have hN : ((pkN LtS S : Nat) : Int) = (b : Int) := by unfold pkN; rw [hbs1]; rfl
        have hP : pkP LtS S = l.getD ((b : Nat) : Int).toNat default := by unfold pkP; rw [hbs1]; exact hpg b hbn
        have hlen : lenS S = l.length := by
          rw [← hsl]
          exact lenS_full S fun j hj => by rw [hsg j (by omega)]; rfl
        refine O.ex (Ex.move rfl) rfl ?_
        refine O.ex (Ex.move rfl) rfl ?_
        refine O.known (t := 83) (c := true) rfl (by first | rfl | decide | exact decide_eq_false (by omega) | exact decide_eq_false (fun hh => hh hcA) | exact decide_eq_false (fun hh => hh hcB) | exact decide_eq_true rfl | (rw [hO]; rfl) | exact hO | exact decide_eq_true hN | exact decide_eq_true hP) ?_
        refine O.guard_t rfl rfl ?_
        refine O.ex (Ex.move rfl) rfl ?_
        refine O.guard_t rfl rfl ?_
        refine O.ex (Ex.move rfl) rfl ?_
        refine O.guard_t rfl rfl ?_
        refine O.ex (Ex.eqlI rfl rfl) rfl ?_
        refine O.ex (Ex.pick_t rfl rfl) rfl ?_
        refine O.ex (Ex.move rfl) rfl ?_
        refine O.known (t := 88) (c := true) rfl (by first | rfl | decide | exact decide_eq_false (by omega) | exact decide_eq_false (fun hh => hh hcA) | exact decide_eq_false (fun hh => hh hcB) | exact decide_eq_true rfl | (rw [hO]; rfl) | exact hO | exact decide_eq_true hN | exact decide_eq_true hP) ?_
        refine O.guard_t rfl rfl ?_
        refine O.ex (Ex.move rfl) rfl ?_
        refine O.guard_t rfl rfl ?_
        refine O.ex (Ex.move rfl) rfl ?_
        refine O.guard_t rfl rfl ?_
        refine O.ex (Ex.move rfl) rfl ?_
        refine O.guard_t rfl rfl ?_
        refine O.ex (by first | exact Ex.idxR Try.runUnderlying53 Try.sizeOf9 rfl rfl | exact Ex.idxIn Try.runUnderlying53 Try.sizeOf9 rfl rfl | exact Ex.idxS Try.runUnderlying53 Try.sizeOf9 rfl rfl | exact Ex.idx Try.runUnderlying53 Try.sizeOf9 rfl rfl (by omega) (by omega)) rfl ?_
        refine O.guard_t rfl rfl ?_
        refine O.ex (by first | exact Ex.loadP Try.isAgg9 rfl | exact Ex.loadR Try.isAgg9 rfl | exact Ex.loadIn1 Try.isAgg9 rfl (Holds.to (by assumption))) rfl ?_
        refine O.guard_t rfl rfl ?_
        refine O.ex (Ex.eqlS rfl rfl) rfl ?_
        refine O.ex (Ex.pick_t rfl rfl) rfl ?_
        refine O.ex (Ex.move rfl) rfl ?_
        refine O.known (t := 96) (c := true) rfl (by first | rfl | decide | exact decide_eq_false (by omega) | exact decide_eq_false (fun hh => hh hcA) | exact decide_eq_false (fun hh => hh hcB) | exact decide_eq_true rfl | (rw [hO]; rfl) | exact hO | exact decide_eq_true hN | exact decide_eq_true hP) ?_
        refine O.guard_t rfl rfl ?_
        refine O.ex (Ex.move rfl) rfl ?_
        refine O.guard_t rfl rfl ?_
        refine O.callF Try.call35 rfl rfl (CT.mono (lenSH_ct (Holds.to (by assumption))) ?_)
        rintro _ w ⟨rfl, H⟩
        refine O.guard_t rfl rfl ?_
        refine O.ex (Ex.move rfl) rfl ?_
        refine O.guard_t rfl rfl ?_
        refine O.ex (by first | exact Ex.lenR Try.runUnderlying53 rfl | exact Ex.lenIn Try.runUnderlying53 rfl | exact Ex.lenL Try.runUnderlying53 rfl | exact Ex.len rfl Try.runUnderlying53 rfl) rfl ?_
        refine O.guard_t rfl rfl ?_
        refine O.ex (Ex.eqlI rfl rfl) rfl ?_
        refine O.ex (Ex.pick_t rfl rfl) rfl ?_
        refine O.ex (Ex.assign rfl) rfl ?_
        refine O.nil ?_
        refine hK25 _ _ _ ?_
        refine W.ret ?_
        try dsimp only [thenQ, blockQ, retQ]
        first | refine ⟨_, ⟨_, _, rfl, rfl, rfl⟩, ?_⟩ | (refine retD_mark ?_; intro w H; refine ⟨_, ⟨_, _, rfl, rfl, rfl⟩, ?_⟩) | (refine retD_mark2 ?_; intro w H; refine ⟨_, ⟨_, _, rfl, rfl, rfl⟩, ?_⟩)
        exact ⟨by first | rfl | exact congrArg Value.bool (by rw [hlen]; exact decide_eq_true rfl) | exact congrArg Value.bool (decide_eq_true hN), Holds.base_below (L := []) (Holds.to (by assumption))⟩
theorem heapTexts_row {w0 : World} {lv : Value} {l : List ByteArray} (hx : SlIn w0 1 (fun s : ByteArray => [.string s]) lv l) (hg : ∀ x ∈ l, x.size ≤ maxLen) (hl0 : l.length ≤ maxLen) :
    CT Try.prog 9 [lv] w0 fun u w' => u = .bool true ∧ RowKit.Below w0.heap.size w0 w' :=
  heapTexts_ct hx (by unfold maxLen at hl0; omega)
end Go.Proofs.Ythpmohkmjfhmmaa
