import Derived.Test.YtliofdfhimmjmaaGraph4
--LOADS loadG1 loadG2 loadAt loadCn loadMo loadE0 loadE1
--AGGLOADS loadArc
namespace Go.Proofs.Ytliofdfhimmjmaa
open Go.Rr Go Gr
set_option linter.unusedVariables false
theorem lo_len (p : Nat → Bool) (k : Nat) : (lo p k).length ≤ k := by
  unfold lo; rw [List.length_map]
  have := List.length_filter_le p (List.range k)
  simpa using this
theorem lo_all (p : Nat → Bool) : lo p 64 = lstP p := rfl
theorem lo_succ (p : Nat → Bool) (k : Nat) : lo p (k + 1) = lo p k ++ (if p k = true then [(k : Int)] else []) := by
  unfold lo
  rw [List.range_succ, List.filter_append, List.map_append]
  congr 1
  by_cases h : p k = true
  · rw [List.filter_cons_of_pos h, if_pos h]; rfl
  · rw [List.filter_cons_of_neg h, if_neg h]; rfl
theorem slot_val {s : St} {av : Value} {c most : Int} {i : Nat} (hi : i < 64) : (cval 5 fun j => (fun k => gf s av c most (0 + k)) (i * 5 + j)) = .agg #[.int .i64 (s i).a.t, .int .i64 (s i).a.h, .int .i64 (s i).a.w, .bool (s i).a.cl, .bool (s i).tk] := by
  unfold cval
  rw [cs_congr (g := fun k => slc (s i) k) (fun k hk => by dsimp only; rw [Nat.zero_add]; exact gf_sl hi hk)]
  rfl
theorem values_ct {w : World} {v : Value} {L : List HProp} (hv : v.oneCell' = true) (H : Holds w L) : CT Try.prog 74 [v] w fun u w' => ∃ b, u = .func (.func 99) #[] #[.pointer (some ⟨b, 0, none⟩)] ∧ Holds w' (pt b (.cells #[v] 28 (0, 0)) :: L) := by
  refine CT.enter (N := 4) Try.func74 rfl rfl rfl rfl ?_
  refine W.seq (fun K0 hK0 => ?_)
  refine W.region ?_
  refine O.boxP rfl (fun b1 w H => ?_)
  rw [cells_one hv] at H
  refine O.ex (Ex.assign rfl) rfl ?_
  refine O.nil ?_
  refine hK0 _ _ _ ?_
  refine W.seq (fun K1 hK1 => ?_)
  refine W.region ?_
  refine O.ex (Ex.makeFunc rfl rfl) rfl ?_
  refine O.ex (Ex.assign rfl) rfl ?_
  refine O.nil ?_
  refine hK1 _ _ _ ?_
  refine W.ret ?_
  try dsimp only [thenQ, blockQ, retQ]
  first | refine ⟨_, ⟨_, _, rfl, rfl, rfl⟩, ?_⟩ | (refine retD_mark ?_; intro w H; refine ⟨_, ⟨_, _, rfl, rfl, rfl⟩, ?_⟩) | (refine retD_mark2 ?_; intro w H; refine ⟨_, ⟨_, _, rfl, rfl, rfl⟩, ?_⟩)
  exact ⟨_, rfl, Holds.to (by assumption)⟩
theorem values1_ct {w : World} {b : Nat} {v fv : Value} {xs : List Int} {J : Nat → List HProp} {φ : Nat → Prop} {S : World → Prop} (hl : xs.length ≤ 1000) (hφ : φ 0) (H : Holds w (pt b (.cells #[v] 28 (0, 0)) :: arr 3 (Value.int .i64) v xs :: J 0))
    (hy : ∀ (i : Nat) w, i < xs.length → φ i → Holds w (pt b (.cells #[v] 28 (0, 0)) :: arr 3 (Value.int .i64) v xs :: J i) → VT Try.prog fv [.int .i64 (xs.getD i default)] w fun u w' => (u = .bool true ∧ φ (i + 1) ∧ Holds w' (pt b (.cells #[v] 28 (0, 0)) :: arr 3 (Value.int .i64) v xs :: J (i + 1))) ∨ (u = .bool false ∧ S w')) :
    CT Try.prog 99 [fv, .pointer (some ⟨b, 0, none⟩)] w fun _ w' => (φ xs.length ∧ Holds w' (pt b (.cells #[v] 28 (0, 0)) :: arr 3 (Value.int .i64) v xs :: J xs.length)) ∨ S w' := by
  refine CT.enter (N := 16) Try.func99 rfl rfl rfl rfl ?_
  refine W.seq (fun K0 hK0 => ?_)
  refine W.region ?_
  refine O.ex (by first | exact Ex.loadG1 Try.isAgg28 rfl | exact Ex.loadG2 Try.isAgg28 rfl | exact Ex.loadAt Try.isAgg28 rfl | exact Ex.loadCn Try.isAgg28 rfl | exact Ex.loadMo Try.isAgg28 rfl | exact Ex.loadE0 Try.isAgg28 rfl | exact Ex.loadE1 Try.isAgg28 rfl | exact Ex.loadP Try.isAgg28 rfl | exact Ex.loadR Try.isAgg28 rfl | exact Ex.loadIn1 Try.isAgg28 rfl (Holds.to (by assumption))) rfl ?_
  refine O.ex (by first | exact Ex.lenR Try.runUnderlying28 rfl | exact Ex.lenIn Try.runUnderlying28 rfl | exact Ex.lenL Try.runUnderlying28 rfl | exact Ex.len rfl Try.runUnderlying28 rfl) rfl ?_
  refine O.ex (Ex.move rfl) rfl ?_
  refine O.nil ?_
  refine hK0 _ _ _ ?_
  refine W.block ?_
  refine W.loop (σ := Nat) (fun i => [(0, fv), (5, v), (6, .int .i64 xs.length), (7, .int .i64 (i : Int))]) (fun i ds w => ds = [] ∧ i ≤ xs.length ∧ φ i ∧ Holds w (pt b (.cells #[v] 28 (0, 0)) :: arr 3 (Value.int .i64) v xs :: J i)) (fun i => xs.length - i) 0 ⟨rfl, rfl, rfl, rfl, trivial⟩ ⟨rfl, by omega, hφ, Holds.to (by assumption)⟩ ?_
  clear H
  rintro i _ w ⟨rfl, hi, hφi, H⟩
  refine W.seq (fun K1 hK1 => ?_)
  refine W.region ?_
  refine O.ex (Ex.lss rfl rfl) rfl ?_
  refine O.nil ?_
  refine hK1 _ _ _ ?_
  refine W.seq (fun K2 hK2 => ?_)
  first | refine W.cond_p rfl (fun hlt => ?_) (fun hge => ?_) | refine W.cond_b rfl (fun hlt => ?_) (fun hge => ?_)
  · refine W.skip ?_
    refine hK2 _ _ _ ?_
    refine W.seq (fun K3 hK3 => ?_)
    refine W.block ?_
    refine W.seq (fun K4 hK4 => ?_)
    refine W.region ?_
    refine O.ex (by first | exact Ex.idxR Try.runUnderlying28 Try.sizeOf3 rfl rfl | exact Ex.idxIn Try.runUnderlying28 Try.sizeOf3 rfl rfl | exact Ex.idxS Try.runUnderlying28 Try.sizeOf3 rfl rfl | exact Ex.idx Try.runUnderlying28 Try.sizeOf3 rfl rfl (by omega) (by omega)) rfl ?_
    refine O.ex (by first | exact Ex.loadG1 Try.isAgg3 rfl | exact Ex.loadG2 Try.isAgg3 rfl | exact Ex.loadAt Try.isAgg3 rfl | exact Ex.loadCn Try.isAgg3 rfl | exact Ex.loadMo Try.isAgg3 rfl | exact Ex.loadE0 Try.isAgg3 rfl | exact Ex.loadE1 Try.isAgg3 rfl | exact Ex.loadP Try.isAgg3 rfl | exact Ex.loadR Try.isAgg3 rfl | exact Ex.loadIn1 Try.isAgg3 rfl (Holds.to (by assumption))) rfl ?_
    refine O.ex (Ex.assign rfl) rfl ?_
    refine O.nil ?_
    refine hK4 _ _ _ ?_
    refine W.seq (fun K5 hK5 => ?_)
    refine W.region ?_
    refine O.ex (Ex.move rfl) rfl ?_
    refine O.ex (Ex.move rfl) rfl ?_
    refine O.callVT rfl rfl rfl (VT.mono (hy i w (by omega) hφi (Holds.to (by assumption))) ?_)
    rintro _ w hh
    obtain (⟨rfl, hφ2, H⟩ | ⟨rfl, H⟩) := hh
    · refine O.ex (by first | exact Ex.notD rfl | exact Ex.not rfl) rfl ?_
      refine O.nil ?_
      refine hK5 _ _ _ ?_
      refine W.known_f rfl (by first | rfl | decide | (simp; done) | omega) ?_
      refine W.skip ?_
      refine hK3 _ _ _ ?_
      refine W.region ?_
      refine O.ex (by first | exact Ex.addI rfl rfl | exact Ex.add rfl rfl rfl) rfl ?_
      refine O.ex (Ex.move rfl) rfl ?_
      refine O.nil ?_
      exact ⟨i + 1, ⟨rfl, rfl, rfl, rfl, trivial⟩, ⟨rfl, by omega, hφ2, Holds.to (by assumption)⟩, by omega⟩
    · refine O.ex (by first | exact Ex.notD rfl | exact Ex.not rfl) rfl ?_
      refine O.nil ?_
      refine hK5 _ _ _ ?_
      refine W.known_t rfl (by first | rfl | decide | (simp; done) | omega) ?_
      refine W.ret ?_
      try dsimp only [thenQ, blockQ, retQ]
      first | refine ⟨_, rfl, ?_⟩ | (refine retD_mark ?_; intro w H; refine ⟨_, rfl, ?_⟩) | (refine retD_mark2 ?_; intro w H; refine ⟨_, rfl, ?_⟩)
      first
      | exact .inr H
      | (obtain rfl : i = xs.length := by omega
         exact .inl ⟨hφi, Holds.to (by assumption)⟩)
  · refine W.exit ?_
    try dsimp only [thenQ, blockQ, retQ]
    first | refine ⟨_, rfl, ?_⟩ | (refine retD_mark ?_; intro w H; refine ⟨_, rfl, ?_⟩) | (refine retD_mark2 ?_; intro w H; refine ⟨_, rfl, ?_⟩)
    first
    | exact .inr H
    | (obtain rfl : i = xs.length := by omega
       exact .inl ⟨hφi, Holds.to (by assumption)⟩)
def capO (c2 c3 g : Nat) (v : Int) : HProp := star [pt c2 (.cells #[.pointer (some ⟨g, 0, none⟩)] 24 (0, 0)), pt c3 (.cells #[.int .i64 v] 3 (0, 0))]
theorem capO_open {w : World} {c2 c3 g : Nat} {v : Int} {L : List HProp} : Holds w (capO c2 c3 g v :: L) ↔ Holds w (pt c2 (.cells #[.pointer (some ⟨g, 0, none⟩)] 24 (0, 0)) :: pt c3 (.cells #[.int .i64 v] 3 (0, 0)) :: L) := by
  unfold capO
  simp only [Holds.star, List.cons_append, List.nil_append]
abbrev GO (g ab cap : Nat) (es : Nat → Value × Value) (n most : Int) (s : St) : HProp := GhO g ab cap es n most (cnt s) s s s
theorem go_back {w : World} {g ab cap c2 c3 : Nat} {es : Nat → Value × Value} {n most v : Int} {s : St} {L : List HProp} (h0 : 0 ≤ v) (h2 : v.toNat < n.toNat) (H : Holds w (arr 3 (Value.int .i64) (es v.toNat).1 (lstP (outP s v)) :: arr 3 (Value.int .i64) (es v.toNat).2 (lstP (inP s v)) :: bigBut (endF es s s) (List.range n.toNat) v.toNat :: gcel g s (avV ab cap n) (cnt s) most :: atc ab n.toNat es :: pt c2 (.cells #[.pointer (some ⟨g, 0, none⟩)] 24 (0, 0)) :: pt c3 (.cells #[.int .i64 v] 3 (0, 0)) :: L)) :
    Holds w (GO g ab cap es n most s :: capO c2 c3 g v :: L) := by
  have H := big_putE h0 h2 H
  have H := capO_open.2 (Holds.to (M := pt c2 (.cells #[.pointer (some ⟨g, 0, none⟩)] 24 (0, 0)) :: pt c3 (.cells #[.int .i64 v] 3 (0, 0)) :: gcel g s (avV ab cap n) (cnt s) most :: atc ab n.toNat es :: big (endF es s s) (List.range n.toNat) :: L) H)
  exact ghO_open.2 (Holds.to H)
theorem go_take {w : World} {g ab cap c2 c3 : Nat} {es : Nat → Value × Value} {n most v : Int} {s : St} {L : List HProp} (h0 : 0 ≤ v) (h2 : v.toNat < n.toNat) (H : Holds w (GO g ab cap es n most s :: capO c2 c3 g v :: L)) :
    Holds w (arr 3 (Value.int .i64) (es v.toNat).1 (lstP (outP s v)) :: arr 3 (Value.int .i64) (es v.toNat).2 (lstP (inP s v)) :: bigBut (endF es s s) (List.range n.toNat) v.toNat :: gcel g s (avV ab cap n) (cnt s) most :: atc ab n.toNat es :: pt c2 (.cells #[.pointer (some ⟨g, 0, none⟩)] 24 (0, 0)) :: pt c3 (.cells #[.int .i64 v] 3 (0, 0)) :: L) := by
  have H := capO_open.1 (Holds.to (M := capO c2 c3 g v :: gcel g s (avV ab cap n) (cnt s) most :: atc ab n.toNat es :: big (endF es s s) (List.range n.toNat) :: L) (ghO_open.1 H))
  exact big_takeE h0 h2 (Holds.to H)
theorem gout_ct {w : World} {g : Nat} {v : Int} {L : List HProp} (H : Holds w L) :
    CT Try.prog 44 [.pointer (some ⟨g, 0, none⟩), .int .i64 v] w fun u w' => ∃ c2 c3, u = .func (.func 73) #[] #[.pointer (some ⟨c2, 0, none⟩), .pointer (some ⟨c3, 0, none⟩)] ∧ Holds w' (capO c2 c3 g v :: L) := by
  refine CT.enter (N := 6) Try.func44 rfl rfl rfl rfl ?_
  refine W.seq (fun K0 hK0 => ?_)
  refine W.region ?_
  refine O.boxP rfl (fun b2 w H => ?_)
  refine O.boxP rfl (fun b3 w H => ?_)
  refine O.ex (Ex.assign rfl) rfl ?_
  refine O.nil ?_
  refine hK0 _ _ _ ?_
  refine W.seq (fun K1 hK1 => ?_)
  refine W.region ?_
  refine O.ex (Ex.makeFunc rfl rfl) rfl ?_
  refine O.ex (Ex.assign rfl) rfl ?_
  refine O.nil ?_
  refine hK1 _ _ _ ?_
  refine W.ret ?_
  try dsimp only [thenQ, blockQ, retQ]
  first | refine ⟨_, ⟨_, _, rfl, rfl, rfl⟩, ?_⟩ | (refine retD_mark ?_; intro w H; refine ⟨_, ⟨_, _, rfl, rfl, rfl⟩, ?_⟩) | (refine retD_mark2 ?_; intro w H; refine ⟨_, ⟨_, _, rfl, rfl, rfl⟩, ?_⟩)
  exact ⟨_, _, rfl, capO_open.2 (Holds.to (by assumption))⟩
theorem outI_none {n most : Int} {s : St} (hg : GOk n most s) {v : Int} (h : ¬ (0 ≤ v ∧ v < n)) : outI s v = [] := by
  unfold outI lstP
  rw [List.filter_eq_nil_iff.2 (fun i hi => ?_)]
  · rfl
  · unfold outP
    cases ht : (s i).tk with
    | false => simp
    | true =>
      have := hg.arc i ht
      unfold okA at this
      simp; omega
set_option maxHeartbeats 1000000 in
theorem gout1_ct {w : World} {g ab cap c2 c3 : Nat} {es : Nat → Value × Value} {n most v : Int} {s : St} {fv : Value} {J : Nat → List HProp} {φ : Nat → Prop} {κ : Type} {σ : κ → Prop} {SL : κ → List HProp} (hg : GOk n most s) (hφ : φ 0) (H : Holds w (GO g ab cap es n most s :: capO c2 c3 g v :: J 0))
    (hy : ∀ (F : HProp) (i : Nat) w, i < (outI s v).length → φ i → Holds w (F :: GO g ab cap es n most s :: capO c2 c3 g v :: J i) → VT Try.prog fv [.int .i64 ((outI s v).getD i default)] w fun u w' => (u = .bool true ∧ φ (i + 1) ∧ Holds w' (F :: GO g ab cap es n most s :: capO c2 c3 g v :: J (i + 1))) ∨ (u = .bool false ∧ ∃ a, σ a ∧ Holds w' (F :: SL a))) :
    CT Try.prog 73 [fv, .pointer (some ⟨c2, 0, none⟩), .pointer (some ⟨c3, 0, none⟩)] w fun _ w' => (φ (outI s v).length ∧ Holds w' (GO g ab cap es n most s :: capO c2 c3 g v :: J (outI s v).length)) ∨ ∃ a, σ a ∧ Holds w' (SL a) := by
  have n1 := hg.n1
  have H := capO_open.1 (Holds.to (M := capO c2 c3 g v :: gcel g s (avV ab cap n) (cnt s) most :: atc ab n.toNat es :: big (endF es s s) (List.range n.toNat) :: J 0) (ghO_open.1 H))
  refine CT.enter (N := 18) Try.func73 rfl rfl rfl rfl ?_
  refine W.seq (fun K0 hK0 => ?_)
  refine W.region ?_
  refine O.ex (by first | exact Ex.loadG1 Try.isAgg24 rfl | exact Ex.loadG2 Try.isAgg24 rfl | exact Ex.loadAt Try.isAgg24 rfl | exact Ex.loadCn Try.isAgg24 rfl | exact Ex.loadMo Try.isAgg24 rfl | exact Ex.loadE0 Try.isAgg24 rfl | exact Ex.loadE1 Try.isAgg24 rfl | exact Ex.loadP Try.isAgg24 rfl | exact Ex.loadR Try.isAgg24 rfl | exact Ex.loadIn1 Try.isAgg24 rfl (Holds.to (by assumption))) rfl ?_
  refine O.ex (by first | exact Ex.loadG1 Try.isAgg3 rfl | exact Ex.loadG2 Try.isAgg3 rfl | exact Ex.loadAt Try.isAgg3 rfl | exact Ex.loadCn Try.isAgg3 rfl | exact Ex.loadMo Try.isAgg3 rfl | exact Ex.loadE0 Try.isAgg3 rfl | exact Ex.loadE1 Try.isAgg3 rfl | exact Ex.loadP Try.isAgg3 rfl | exact Ex.loadR Try.isAgg3 rfl | exact Ex.loadIn1 Try.isAgg3 rfl (Holds.to (by assumption))) rfl ?_
  refine O.callF Try.call57 rfl rfl (CT.mono (gvertexO_ct (g := g) (s := s) (ab := ab) (cap := cap) (n := n) (k := cnt s) (most := most) (by omega) (Holds.to (by assumption))) ?_)
  rintro _ w ⟨rfl, H⟩
  refine O.nil ?_
  refine hK0 _ _ _ ?_
  first | refine W.cond_p rfl (fun hin => ?_) (fun hout => ?_) | refine W.cond_b rfl (fun hin => ?_) (fun hout => ?_)
  · have h0 := hin.1
    have h1 := hin.2
    have h2 : v.toNat < n.toNat := by omega
    have hll : (outI s v).length ≤ 64 := lstP_len _
    have H := big_takeE h0 h2 (Holds.to (M := big (endF es s s) (List.range n.toNat) :: gcel g s (avV ab cap n) (cnt s) most :: atc ab n.toNat es :: pt c2 (.cells #[.pointer (some ⟨g, 0, none⟩)] 24 (0, 0)) :: pt c3 (.cells #[.int .i64 v] 3 (0, 0)) :: J 0) H)
    have ho := arr_one (Holds.to (M := arr 3 (Value.int .i64) (es v.toNat).1 (lstP (outP s v)) :: []) H)
    refine W.drawTo (gcel g s (avV ab cap n) (cnt s) most :: atc ab n.toNat es :: pt c2 (.cells #[.pointer (some ⟨g, 0, none⟩)] 24 (0, 0)) :: pt c3 (.cells #[.int .i64 v] 3 (0, 0)) :: []) (.take 0 (.take 1 (.take 2 (.take 3 (.take 4 (.take 5 (.take 6 (.take 7 (.take 9 (.one 8 (.one 10 .nil))))))))))) (mixed) (fun _ _ _ _ h => h) (by assumption) PP.auto (by decide +kernel) (fun w H => ?_)
    refine OQ.ex rfl (fun w H => (by first | exact Ex.loadG1 Try.isAgg24 rfl | exact Ex.loadG2 Try.isAgg24 rfl | exact Ex.loadAt Try.isAgg24 rfl | exact Ex.loadCn Try.isAgg24 rfl | exact Ex.loadMo Try.isAgg24 rfl | exact Ex.loadE0 Try.isAgg24 rfl | exact Ex.loadE1 Try.isAgg24 rfl | exact Ex.loadP Try.isAgg24 rfl | exact Ex.loadR Try.isAgg24 rfl | exact Ex.loadIn1 Try.isAgg24 rfl (Holds.to (by assumption)))) rfl ?_
    refine OQ.ex rfl (fun w H => (by first | exact Ex.nilPtr rfl | exact Ex.nilFunc rfl | exact Ex.nilYield rfl)) rfl ?_
    refine OQ.ex rfl (fun w H => (by first | exact Ex.field0 fld93_1 rfl | exact Ex.field fld93_1 rfl | exact Ex.fieldS fld93_1 rfl)) rfl ?_
    refine OQ.ex rfl (fun w H => (by first | exact Ex.loadG1 Try.isAgg88 rfl | exact Ex.loadG2 Try.isAgg88 rfl | exact Ex.loadAt Try.isAgg88 rfl | exact Ex.loadCn Try.isAgg88 rfl | exact Ex.loadMo Try.isAgg88 rfl | exact Ex.loadE0 Try.isAgg88 rfl | exact Ex.loadE1 Try.isAgg88 rfl | exact Ex.loadP Try.isAgg88 rfl | exact Ex.loadR Try.isAgg88 rfl | exact Ex.loadIn1 Try.isAgg88 rfl (Holds.to (by assumption)))) rfl ?_
    refine OQ.ex rfl (fun w H => (by first | exact Ex.loadG1 Try.isAgg3 rfl | exact Ex.loadG2 Try.isAgg3 rfl | exact Ex.loadAt Try.isAgg3 rfl | exact Ex.loadCn Try.isAgg3 rfl | exact Ex.loadMo Try.isAgg3 rfl | exact Ex.loadE0 Try.isAgg3 rfl | exact Ex.loadE1 Try.isAgg3 rfl | exact Ex.loadP Try.isAgg3 rfl | exact Ex.loadR Try.isAgg3 rfl | exact Ex.loadIn1 Try.isAgg3 rfl (Holds.to (by assumption)))) rfl ?_
    refine OQ.ex rfl (fun w H => (by first | exact Ex.idxN Try.runUnderlying88 Try.sizeOf96 rfl rfl | exact Ex.idxSN Try.runUnderlying88 Try.sizeOf96 rfl rfl | exact Ex.idxIn Try.runUnderlying88 Try.sizeOf96 rfl rfl | exact Ex.idx Try.runUnderlying88 Try.sizeOf96 rfl rfl (by omega) (by omega))) rfl ?_
    refine OQ.ex rfl (fun w H => (by first | exact Ex.field0 fld96_0 rfl | exact Ex.field fld96_0 rfl | exact Ex.fieldS fld96_0 rfl)) rfl ?_
    refine OQ.ex rfl (fun w H => (by first | exact Ex.loadG1 Try.isAgg28 rfl | exact Ex.loadG2 Try.isAgg28 rfl | exact Ex.loadAt Try.isAgg28 rfl | exact Ex.loadCn Try.isAgg28 rfl | exact Ex.loadMo Try.isAgg28 rfl | exact Ex.loadE0 Try.isAgg28 rfl | exact Ex.loadE1 Try.isAgg28 rfl | exact Ex.loadP Try.isAgg28 rfl | exact Ex.loadR Try.isAgg28 rfl | exact Ex.loadIn1 Try.isAgg28 rfl (Holds.to (by assumption)))) rfl ?_
    refine OQ.ex rfl (fun w H => (Ex.move rfl)) rfl ?_
    refine OQ.step rfl ?_
    refine O.callF Try.call74 rfl rfl (CT.mono (values_ct ho (Holds.to (by assumption))) ?_)
    rintro _ w ⟨bv, rfl, H⟩
    refine O.thenNil ⟨(by first | exact Holds.to (by assumption) | assumption), ?_⟩
    refine OQ.last rfl (by decide +kernel) ?_
    have hY : ∀ (i : Nat) w, i < (outI s v).length → φ i → Holds w (pt bv (.cells #[(es v.toNat).1] 28 (0, 0)) :: arr 3 (Value.int .i64) (es v.toNat).1 (outI s v) :: (arr 3 (Value.int .i64) (es v.toNat).2 (lstP (inP s v)) :: bigBut (endF es s s) (List.range n.toNat) v.toNat :: gcel g s (avV ab cap n) (cnt s) most :: atc ab n.toNat es :: pt c2 (.cells #[.pointer (some ⟨g, 0, none⟩)] 24 (0, 0)) :: pt c3 (.cells #[.int .i64 v] 3 (0, 0)) :: J i)) →
        VT Try.prog fv [.int .i64 ((outI s v).getD i default)] w fun u w' => (u = .bool true ∧ φ (i + 1) ∧ Holds w' (pt bv (.cells #[(es v.toNat).1] 28 (0, 0)) :: arr 3 (Value.int .i64) (es v.toNat).1 (outI s v) :: (arr 3 (Value.int .i64) (es v.toNat).2 (lstP (inP s v)) :: bigBut (endF es s s) (List.range n.toNat) v.toNat :: gcel g s (avV ab cap n) (cnt s) most :: atc ab n.toNat es :: pt c2 (.cells #[.pointer (some ⟨g, 0, none⟩)] 24 (0, 0)) :: pt c3 (.cells #[.int .i64 v] 3 (0, 0)) :: J (i + 1)))) ∨ (u = .bool false ∧ ∃ a, σ a ∧ Holds w' (pt bv (.cells #[(es v.toNat).1] 28 (0, 0)) :: SL a)) := by
      intro i w hi hφi H
      have H2 := go_back h0 h2 (Holds.to (M := arr 3 (Value.int .i64) (es v.toNat).1 (lstP (outP s v)) :: arr 3 (Value.int .i64) (es v.toNat).2 (lstP (inP s v)) :: bigBut (endF es s s) (List.range n.toNat) v.toNat :: gcel g s (avV ab cap n) (cnt s) most :: atc ab n.toNat es :: pt c2 (.cells #[.pointer (some ⟨g, 0, none⟩)] 24 (0, 0)) :: pt c3 (.cells #[.int .i64 v] 3 (0, 0)) :: pt bv (.cells #[(es v.toNat).1] 28 (0, 0)) :: J i) H)
      refine (hy _ i w hi hφi (Holds.to (M := pt bv (.cells #[(es v.toNat).1] 28 (0, 0)) :: GO g ab cap es n most s :: capO c2 c3 g v :: J i) H2)).mono fun u w' hh => ?_
      rcases hh with ⟨h7, h8, H⟩ | h7
      · refine .inl ⟨h7, h8, ?_⟩
        have H := go_take h0 h2 (Holds.to (M := GO g ab cap es n most s :: capO c2 c3 g v :: pt bv (.cells #[(es v.toNat).1] 28 (0, 0)) :: J (i + 1)) H)
        exact Holds.to H
      · exact .inr h7
    refine O.callVT rfl rfl rfl (VT.mono (VT.fn Try.call99 (values1_ct (S := fun w' => ∃ a, σ a ∧ Holds w' (pt bv (.cells #[(es v.toNat).1] 28 (0, 0)) :: SL a)) (b := bv) (v := (es v.toNat).1) (xs := outI s v) (J := fun i => arr 3 (Value.int .i64) (es v.toNat).2 (lstP (inP s v)) :: bigBut (endF es s s) (List.range n.toNat) v.toNat :: gcel g s (avV ab cap n) (cnt s) most :: atc ab n.toNat es :: pt c2 (.cells #[.pointer (some ⟨g, 0, none⟩)] 24 (0, 0)) :: pt c3 (.cells #[.int .i64 v] 3 (0, 0)) :: J i) (φ := φ) (by omega) hφ (Holds.to (by assumption)) hY)) ?_)
    rintro _ w hh
    refine O.nil ?_
    try dsimp only [thenQ, blockQ, retQ]
    first | refine ⟨_, rfl, ?_⟩ | (refine retD_mark ?_; intro w H; refine ⟨_, rfl, ?_⟩) | (refine retD_mark2 ?_; intro w H; refine ⟨_, rfl, ?_⟩)
    first
    | (rcases hh with ⟨h7, H⟩ | ⟨a, h7, H⟩
       · exact .inl ⟨h7, go_back h0 h2 (Holds.to (by assumption))⟩
       · exact .inr ⟨a, h7, Holds.to (by assumption)⟩)
    | (have e := outI_none hg hout
       rw [e]
       have H := capO_open.2 (Holds.to (M := pt c2 (.cells #[.pointer (some ⟨g, 0, none⟩)] 24 (0, 0)) :: pt c3 (.cells #[.int .i64 v] 3 (0, 0)) :: gcel g s (avV ab cap n) (cnt s) most :: atc ab n.toNat es :: big (endF es s s) (List.range n.toNat) :: J 0) H)
       exact .inl ⟨hφ, ghO_open.2 (Holds.to H)⟩)
  · refine W.skip ?_
    try dsimp only [thenQ, blockQ, retQ]
    first | refine ⟨_, rfl, ?_⟩ | (refine retD_mark ?_; intro w H; refine ⟨_, rfl, ?_⟩) | (refine retD_mark2 ?_; intro w H; refine ⟨_, rfl, ?_⟩)
    first
    | (rcases hh with ⟨h7, H⟩ | ⟨a, h7, H⟩
       · exact .inl ⟨h7, go_back h0 h2 (Holds.to (by assumption))⟩
       · exact .inr ⟨a, h7, Holds.to (by assumption)⟩)
    | (have e := outI_none hg hout
       rw [e]
       have H := capO_open.2 (Holds.to (M := pt c2 (.cells #[.pointer (some ⟨g, 0, none⟩)] 24 (0, 0)) :: pt c3 (.cells #[.int .i64 v] 3 (0, 0)) :: gcel g s (avV ab cap n) (cnt s) most :: atc ab n.toNat es :: big (endF es s s) (List.range n.toNat) :: J 0) H)
       exact .inl ⟨hφ, ghO_open.2 (Holds.to H)⟩)
theorem gin_ct {w : World} {g : Nat} {v : Int} {L : List HProp} (H : Holds w L) :
    CT Try.prog 48 [.pointer (some ⟨g, 0, none⟩), .int .i64 v] w fun u w' => ∃ c2 c3, u = .func (.func 77) #[] #[.pointer (some ⟨c2, 0, none⟩), .pointer (some ⟨c3, 0, none⟩)] ∧ Holds w' (capO c2 c3 g v :: L) := by
  refine CT.enter (N := 6) Try.func48 rfl rfl rfl rfl ?_
  refine W.seq (fun K0 hK0 => ?_)
  refine W.region ?_
  refine O.boxP rfl (fun b2 w H => ?_)
  refine O.boxP rfl (fun b3 w H => ?_)
  refine O.ex (Ex.assign rfl) rfl ?_
  refine O.nil ?_
  refine hK0 _ _ _ ?_
  refine W.seq (fun K1 hK1 => ?_)
  refine W.region ?_
  refine O.ex (Ex.makeFunc rfl rfl) rfl ?_
  refine O.ex (Ex.assign rfl) rfl ?_
  refine O.nil ?_
  refine hK1 _ _ _ ?_
  refine W.ret ?_
  try dsimp only [thenQ, blockQ, retQ]
  first | refine ⟨_, ⟨_, _, rfl, rfl, rfl⟩, ?_⟩ | (refine retD_mark ?_; intro w H; refine ⟨_, ⟨_, _, rfl, rfl, rfl⟩, ?_⟩) | (refine retD_mark2 ?_; intro w H; refine ⟨_, ⟨_, _, rfl, rfl, rfl⟩, ?_⟩)
  exact ⟨_, _, rfl, capO_open.2 (Holds.to (by assumption))⟩
theorem inI_none {n most : Int} {s : St} (hg : GOk n most s) {v : Int} (h : ¬ (0 ≤ v ∧ v < n)) : inI s v = [] := by
  unfold inI lstP
  rw [List.filter_eq_nil_iff.2 (fun i hi => ?_)]
  · rfl
  · unfold inP
    cases ht : (s i).tk with
    | false => simp
    | true =>
      have := hg.arc i ht
      unfold okA at this
      simp; omega
set_option maxHeartbeats 1000000 in
theorem gin1_ct {w : World} {g ab cap c2 c3 : Nat} {es : Nat → Value × Value} {n most v : Int} {s : St} {fv : Value} {J : Nat → List HProp} {φ : Nat → Prop} {κ : Type} {σ : κ → Prop} {SL : κ → List HProp} (hg : GOk n most s) (hφ : φ 0) (H : Holds w (GO g ab cap es n most s :: capO c2 c3 g v :: J 0))
    (hy : ∀ (F : HProp) (i : Nat) w, i < (inI s v).length → φ i → Holds w (F :: GO g ab cap es n most s :: capO c2 c3 g v :: J i) → VT Try.prog fv [.int .i64 ((inI s v).getD i default)] w fun u w' => (u = .bool true ∧ φ (i + 1) ∧ Holds w' (F :: GO g ab cap es n most s :: capO c2 c3 g v :: J (i + 1))) ∨ (u = .bool false ∧ ∃ a, σ a ∧ Holds w' (F :: SL a))) :
    CT Try.prog 77 [fv, .pointer (some ⟨c2, 0, none⟩), .pointer (some ⟨c3, 0, none⟩)] w fun _ w' => (φ (inI s v).length ∧ Holds w' (GO g ab cap es n most s :: capO c2 c3 g v :: J (inI s v).length)) ∨ ∃ a, σ a ∧ Holds w' (SL a) := by
  have n1 := hg.n1
  have H := capO_open.1 (Holds.to (M := capO c2 c3 g v :: gcel g s (avV ab cap n) (cnt s) most :: atc ab n.toNat es :: big (endF es s s) (List.range n.toNat) :: J 0) (ghO_open.1 H))
  refine CT.enter (N := 18) Try.func77 rfl rfl rfl rfl ?_
  refine W.seq (fun K0 hK0 => ?_)
  refine W.region ?_
  refine O.ex (by first | exact Ex.loadG1 Try.isAgg24 rfl | exact Ex.loadG2 Try.isAgg24 rfl | exact Ex.loadAt Try.isAgg24 rfl | exact Ex.loadCn Try.isAgg24 rfl | exact Ex.loadMo Try.isAgg24 rfl | exact Ex.loadE0 Try.isAgg24 rfl | exact Ex.loadE1 Try.isAgg24 rfl | exact Ex.loadP Try.isAgg24 rfl | exact Ex.loadR Try.isAgg24 rfl | exact Ex.loadIn1 Try.isAgg24 rfl (Holds.to (by assumption))) rfl ?_
  refine O.ex (by first | exact Ex.loadG1 Try.isAgg3 rfl | exact Ex.loadG2 Try.isAgg3 rfl | exact Ex.loadAt Try.isAgg3 rfl | exact Ex.loadCn Try.isAgg3 rfl | exact Ex.loadMo Try.isAgg3 rfl | exact Ex.loadE0 Try.isAgg3 rfl | exact Ex.loadE1 Try.isAgg3 rfl | exact Ex.loadP Try.isAgg3 rfl | exact Ex.loadR Try.isAgg3 rfl | exact Ex.loadIn1 Try.isAgg3 rfl (Holds.to (by assumption))) rfl ?_
  refine O.callF Try.call57 rfl rfl (CT.mono (gvertexO_ct (g := g) (s := s) (ab := ab) (cap := cap) (n := n) (k := cnt s) (most := most) (by omega) (Holds.to (by assumption))) ?_)
  rintro _ w ⟨rfl, H⟩
  refine O.nil ?_
  refine hK0 _ _ _ ?_
  first | refine W.cond_p rfl (fun hin => ?_) (fun hout => ?_) | refine W.cond_b rfl (fun hin => ?_) (fun hout => ?_)
  · have h0 := hin.1
    have h1 := hin.2
    have h2 : v.toNat < n.toNat := by omega
    have hll : (inI s v).length ≤ 64 := lstP_len _
    have H := big_takeE h0 h2 (Holds.to (M := big (endF es s s) (List.range n.toNat) :: gcel g s (avV ab cap n) (cnt s) most :: atc ab n.toNat es :: pt c2 (.cells #[.pointer (some ⟨g, 0, none⟩)] 24 (0, 0)) :: pt c3 (.cells #[.int .i64 v] 3 (0, 0)) :: J 0) H)
    have ho := arr_one (Holds.to (M := arr 3 (Value.int .i64) (es v.toNat).2 (lstP (inP s v)) :: []) H)
    refine W.drawTo (gcel g s (avV ab cap n) (cnt s) most :: atc ab n.toNat es :: pt c2 (.cells #[.pointer (some ⟨g, 0, none⟩)] 24 (0, 0)) :: pt c3 (.cells #[.int .i64 v] 3 (0, 0)) :: []) (.take 0 (.take 1 (.take 2 (.take 3 (.take 4 (.take 5 (.take 6 (.take 7 (.take 9 (.one 8 (.one 10 .nil))))))))))) (mixed) (fun _ _ _ _ h => h) (by assumption) PP.auto (by decide +kernel) (fun w H => ?_)
    refine OQ.ex rfl (fun w H => (by first | exact Ex.loadG1 Try.isAgg24 rfl | exact Ex.loadG2 Try.isAgg24 rfl | exact Ex.loadAt Try.isAgg24 rfl | exact Ex.loadCn Try.isAgg24 rfl | exact Ex.loadMo Try.isAgg24 rfl | exact Ex.loadE0 Try.isAgg24 rfl | exact Ex.loadE1 Try.isAgg24 rfl | exact Ex.loadP Try.isAgg24 rfl | exact Ex.loadR Try.isAgg24 rfl | exact Ex.loadIn1 Try.isAgg24 rfl (Holds.to (by assumption)))) rfl ?_
    refine OQ.ex rfl (fun w H => (by first | exact Ex.nilPtr rfl | exact Ex.nilFunc rfl | exact Ex.nilYield rfl)) rfl ?_
    refine OQ.ex rfl (fun w H => (by first | exact Ex.field0 fld93_1 rfl | exact Ex.field fld93_1 rfl | exact Ex.fieldS fld93_1 rfl)) rfl ?_
    refine OQ.ex rfl (fun w H => (by first | exact Ex.loadG1 Try.isAgg88 rfl | exact Ex.loadG2 Try.isAgg88 rfl | exact Ex.loadAt Try.isAgg88 rfl | exact Ex.loadCn Try.isAgg88 rfl | exact Ex.loadMo Try.isAgg88 rfl | exact Ex.loadE0 Try.isAgg88 rfl | exact Ex.loadE1 Try.isAgg88 rfl | exact Ex.loadP Try.isAgg88 rfl | exact Ex.loadR Try.isAgg88 rfl | exact Ex.loadIn1 Try.isAgg88 rfl (Holds.to (by assumption)))) rfl ?_
    refine OQ.ex rfl (fun w H => (by first | exact Ex.loadG1 Try.isAgg3 rfl | exact Ex.loadG2 Try.isAgg3 rfl | exact Ex.loadAt Try.isAgg3 rfl | exact Ex.loadCn Try.isAgg3 rfl | exact Ex.loadMo Try.isAgg3 rfl | exact Ex.loadE0 Try.isAgg3 rfl | exact Ex.loadE1 Try.isAgg3 rfl | exact Ex.loadP Try.isAgg3 rfl | exact Ex.loadR Try.isAgg3 rfl | exact Ex.loadIn1 Try.isAgg3 rfl (Holds.to (by assumption)))) rfl ?_
    refine OQ.ex rfl (fun w H => (by first | exact Ex.idxN Try.runUnderlying88 Try.sizeOf96 rfl rfl | exact Ex.idxSN Try.runUnderlying88 Try.sizeOf96 rfl rfl | exact Ex.idxIn Try.runUnderlying88 Try.sizeOf96 rfl rfl | exact Ex.idx Try.runUnderlying88 Try.sizeOf96 rfl rfl (by omega) (by omega))) rfl ?_
    refine OQ.ex rfl (fun w H => (by first | exact Ex.field0 fld96_1 rfl | exact Ex.field fld96_1 rfl | exact Ex.fieldS fld96_1 rfl)) rfl ?_
    refine OQ.ex rfl (fun w H => (by first | exact Ex.loadG1 Try.isAgg28 rfl | exact Ex.loadG2 Try.isAgg28 rfl | exact Ex.loadAt Try.isAgg28 rfl | exact Ex.loadCn Try.isAgg28 rfl | exact Ex.loadMo Try.isAgg28 rfl | exact Ex.loadE0 Try.isAgg28 rfl | exact Ex.loadE1 Try.isAgg28 rfl | exact Ex.loadP Try.isAgg28 rfl | exact Ex.loadR Try.isAgg28 rfl | exact Ex.loadIn1 Try.isAgg28 rfl (Holds.to (by assumption)))) rfl ?_
    refine OQ.ex rfl (fun w H => (Ex.move rfl)) rfl ?_
    refine OQ.step rfl ?_
    refine O.callF Try.call74 rfl rfl (CT.mono (values_ct ho (Holds.to (by assumption))) ?_)
    rintro _ w ⟨bv, rfl, H⟩
    refine O.thenNil ⟨(by first | exact Holds.to (by assumption) | assumption), ?_⟩
    refine OQ.last rfl (by decide +kernel) ?_
    have hY : ∀ (i : Nat) w, i < (inI s v).length → φ i → Holds w (pt bv (.cells #[(es v.toNat).2] 28 (0, 0)) :: arr 3 (Value.int .i64) (es v.toNat).2 (inI s v) :: (arr 3 (Value.int .i64) (es v.toNat).1 (lstP (outP s v)) :: bigBut (endF es s s) (List.range n.toNat) v.toNat :: gcel g s (avV ab cap n) (cnt s) most :: atc ab n.toNat es :: pt c2 (.cells #[.pointer (some ⟨g, 0, none⟩)] 24 (0, 0)) :: pt c3 (.cells #[.int .i64 v] 3 (0, 0)) :: J i)) →
        VT Try.prog fv [.int .i64 ((inI s v).getD i default)] w fun u w' => (u = .bool true ∧ φ (i + 1) ∧ Holds w' (pt bv (.cells #[(es v.toNat).2] 28 (0, 0)) :: arr 3 (Value.int .i64) (es v.toNat).2 (inI s v) :: (arr 3 (Value.int .i64) (es v.toNat).1 (lstP (outP s v)) :: bigBut (endF es s s) (List.range n.toNat) v.toNat :: gcel g s (avV ab cap n) (cnt s) most :: atc ab n.toNat es :: pt c2 (.cells #[.pointer (some ⟨g, 0, none⟩)] 24 (0, 0)) :: pt c3 (.cells #[.int .i64 v] 3 (0, 0)) :: J (i + 1)))) ∨ (u = .bool false ∧ ∃ a, σ a ∧ Holds w' (pt bv (.cells #[(es v.toNat).2] 28 (0, 0)) :: SL a)) := by
      intro i w hi hφi H
      have H2 := go_back h0 h2 (Holds.to (M := arr 3 (Value.int .i64) (es v.toNat).1 (lstP (outP s v)) :: arr 3 (Value.int .i64) (es v.toNat).2 (lstP (inP s v)) :: bigBut (endF es s s) (List.range n.toNat) v.toNat :: gcel g s (avV ab cap n) (cnt s) most :: atc ab n.toNat es :: pt c2 (.cells #[.pointer (some ⟨g, 0, none⟩)] 24 (0, 0)) :: pt c3 (.cells #[.int .i64 v] 3 (0, 0)) :: pt bv (.cells #[(es v.toNat).2] 28 (0, 0)) :: J i) H)
      refine (hy _ i w hi hφi (Holds.to (M := pt bv (.cells #[(es v.toNat).2] 28 (0, 0)) :: GO g ab cap es n most s :: capO c2 c3 g v :: J i) H2)).mono fun u w' hh => ?_
      rcases hh with ⟨h7, h8, H⟩ | h7
      · refine .inl ⟨h7, h8, ?_⟩
        have H := go_take h0 h2 (Holds.to (M := GO g ab cap es n most s :: capO c2 c3 g v :: pt bv (.cells #[(es v.toNat).2] 28 (0, 0)) :: J (i + 1)) H)
        exact Holds.to H
      · exact .inr h7
    refine O.callVT rfl rfl rfl (VT.mono (VT.fn Try.call99 (values1_ct (S := fun w' => ∃ a, σ a ∧ Holds w' (pt bv (.cells #[(es v.toNat).2] 28 (0, 0)) :: SL a)) (b := bv) (v := (es v.toNat).2) (xs := inI s v) (J := fun i => arr 3 (Value.int .i64) (es v.toNat).1 (lstP (outP s v)) :: bigBut (endF es s s) (List.range n.toNat) v.toNat :: gcel g s (avV ab cap n) (cnt s) most :: atc ab n.toNat es :: pt c2 (.cells #[.pointer (some ⟨g, 0, none⟩)] 24 (0, 0)) :: pt c3 (.cells #[.int .i64 v] 3 (0, 0)) :: J i) (φ := φ) (by omega) hφ (Holds.to (by assumption)) hY)) ?_)
    rintro _ w hh
    refine O.nil ?_
    try dsimp only [thenQ, blockQ, retQ]
    first | refine ⟨_, rfl, ?_⟩ | (refine retD_mark ?_; intro w H; refine ⟨_, rfl, ?_⟩) | (refine retD_mark2 ?_; intro w H; refine ⟨_, rfl, ?_⟩)
    first
    | (rcases hh with ⟨h7, H⟩ | ⟨a, h7, H⟩
       · exact .inl ⟨h7, go_back h0 h2 (Holds.to (by assumption))⟩
       · exact .inr ⟨a, h7, Holds.to (by assumption)⟩)
    | (have e := inI_none hg hout
       rw [e]
       have H := capO_open.2 (Holds.to (M := pt c2 (.cells #[.pointer (some ⟨g, 0, none⟩)] 24 (0, 0)) :: pt c3 (.cells #[.int .i64 v] 3 (0, 0)) :: gcel g s (avV ab cap n) (cnt s) most :: atc ab n.toNat es :: big (endF es s s) (List.range n.toNat) :: J 0) H)
       exact .inl ⟨hφ, ghO_open.2 (Holds.to H)⟩)
  · refine W.skip ?_
    try dsimp only [thenQ, blockQ, retQ]
    first | refine ⟨_, rfl, ?_⟩ | (refine retD_mark ?_; intro w H; refine ⟨_, rfl, ?_⟩) | (refine retD_mark2 ?_; intro w H; refine ⟨_, rfl, ?_⟩)
    first
    | (rcases hh with ⟨h7, H⟩ | ⟨a, h7, H⟩
       · exact .inl ⟨h7, go_back h0 h2 (Holds.to (by assumption))⟩
       · exact .inr ⟨a, h7, Holds.to (by assumption)⟩)
    | (have e := inI_none hg hout
       rw [e]
       have H := capO_open.2 (Holds.to (M := pt c2 (.cells #[.pointer (some ⟨g, 0, none⟩)] 24 (0, 0)) :: pt c3 (.cells #[.int .i64 v] 3 (0, 0)) :: gcel g s (avV ab cap n) (cnt s) most :: atc ab n.toNat es :: big (endF es s s) (List.range n.toNat) :: J 0) H)
       exact .inl ⟨hφ, ghO_open.2 (Holds.to H)⟩)
end Go.Proofs.Ytliofdfhimmjmaa
