import Derived.Test.YtliofdfhimmjmaaFacts
import Derived.Test.YtliofdfhimmjmaaRrBits
import Derived.Test.YtliofdfhimmjmaaRrSets
namespace Go.Proofs.Ytliofdfhimmjmaa
open Go.Rr
set_option linter.unusedVariables false
abbrev TabAt (w0 : World) : Prop := ∀ j, j < 64 → w0.cell? ⟨0, j, none⟩ = some (.int .u8 ((Lib.deBruijn64tab.getD j 0 : Nat) : Int))
def fstS (s : Nat) : Int := if s = 0 then 0 else Lib.ctz 64 s
def orL (xs : List Int) : Nat := xs.foldl (fun s x => s ||| bitN x) 0
theorem orL_aux (xs : List Int) : ∀ s, s < 18446744073709551616 → xs.foldl (fun s x => s ||| bitN x) s < 18446744073709551616 ∧ ∀ i, i < 64 → (xs.foldl (fun s x => s ||| bitN x) s).testBit i = (s.testBit i || decide ((i : Int) ∈ xs)) := by
  induction xs with
  | nil => intro s hs; exact ⟨hs, fun i _ => by simp⟩
  | cons x xs ih =>
    intro s hs
    obtain ⟨h1, h2⟩ := ih (s ||| bitN x) (or_lt _ _ hs (bitN_lt x))
    refine ⟨h1, fun i hi => ?_⟩
    rw [List.foldl_cons, h2 i hi, with_bit s x i hi, Bool.or_assoc]
    congr 1
    by_cases e : (i : Int) = x <;> simp [e]
theorem orL_lt (xs : List Int) : orL xs < 18446744073709551616 := (orL_aux xs 0 (by decide)).1
theorem orL_bit (xs : List Int) (i : Nat) (hi : i < 64) : (orL xs).testBit i = decide ((i : Int) ∈ xs) := by
  rw [orL, (orL_aux xs 0 (by decide)).2 i hi]; simp
theorem take_getB (xs : List Int) (i : Nat) (h : i < xs.length) : xs.take (i + 1) = xs.take i ++ [xs.getD i default] := by
  rw [List.take_succ_eq_append_getElem h]; simp [List.getD_eq_getElem?_getD, h]
theorem orL_succ (xs : List Int) (i : Nat) (h : i < xs.length) : orL (xs.take (i + 1)) = orL (xs.take i) ||| bitN (xs.getD i default) := by
  rw [take_getB xs i h]; unfold orL; rw [List.foldl_append]; rfl
/-- The document's: the numbers below 64 of a list. -/
def ofL (xs : List Int) : Nat := sumP (fun i : Nat => decide ((i : Int) ∈ xs)) 64
theorem ofL_lt (xs : List Int) : ofL xs < 18446744073709551616 := sumP_lt _ 64
theorem ofL_bit (xs : List Int) (i : Nat) (hi : i < 64) : (ofL xs).testBit i = decide ((i : Int) ∈ xs) := by
  unfold ofL; rw [sumP_bit, decide_eq_true hi, Bool.true_and]
theorem orL_ofL (xs : List Int) : orL xs = ofL xs := set_eq _ _ (orL_lt xs) (ofL_lt xs) fun i hi => by rw [orL_bit xs i hi, ofL_bit xs i hi]
theorem mem_take (xs : List Int) (x : Int) (i : Nat) (h : i < xs.length) : x ∈ xs.take (i + 1) ↔ x ∈ xs.take i ∨ xs.getD i default = x := by
  rw [take_getB xs i h, List.mem_append, List.mem_singleton]; exact or_congr Iff.rfl eq_comm
/-- A set's numbers below n, as the document lists them. -/
def lstN (s n : Nat) : List Int := ((List.range n).filter s.testBit).map Int.ofNat
def lstI (s : Nat) : List Int := (lst s).map Int.ofNat
theorem lstN_64 (s : Nat) : lstN s 64 = lstI s := rfl
theorem lstN_t (s n : Nat) (h : s.testBit n = true) : lstN s (n + 1) = lstN s n ++ [(n : Int)] := by
  unfold lstN; rw [List.range_succ, List.filter_append, List.map_append]; simp [h]
theorem lstN_f (s n : Nat) (h : ¬ s.testBit n = true) : lstN s (n + 1) = lstN s n := by
  unfold lstN; rw [List.range_succ, List.filter_append, List.map_append]; simp [h]
theorem lstN_le (s n : Nat) : (lstN s n).length ≤ n := by
  unfold lstN; rw [List.length_map]; exact Nat.le_trans (List.length_filter_le _ _) (by simp)
theorem lstI_le (s : Nat) : (lstI s).length ≤ 64 := lstN_le s 64
theorem lst_le (s : Nat) : (lst s).length ≤ 64 := by have := lstI_le s; simpa [lstI] using this
theorem inS_nat (s i : Nat) (h : i < 64) : inS s (i : Int) = s.testBit i := by
  unfold inS; rw [decide_eq_true (by omega), Bool.true_and, Int.toNat_natCast]
theorem ints_ct {w : World} {va vb : Value} {xs : List Int} {L : List HProp} (H : Holds w (arr 3 (Value.int .i64) va xs :: arr 3 (Value.int .i64) vb xs :: L)) (hl : xs.length ≤ 9223372036854775807) :
    CT Try.prog 15 [va, vb] w fun u w' => u = .bool true ∧ Holds w' (arr 3 (Value.int .i64) va xs :: arr 3 (Value.int .i64) vb xs :: L) := by
  refine CT.enter (N := 26) Try.func15 rfl rfl rfl rfl ?_
  refine W.seq (fun K0 hK0 => ?_)
  refine W.region ?_
  refine O.ex (Ex.assign rfl) rfl ?_
  refine O.nil ?_
  refine hK0 _ _ _ ?_
  refine W.seq (fun K1 hK1 => ?_)
  refine W.seq (fun K2 hK2 => ?_)
  refine W.region ?_
  refine O.ex (Ex.move rfl) rfl ?_
  refine O.ex (by first | exact Ex.lenR Try.runUnderlying28 rfl | exact Ex.lenIn Try.runUnderlying28 rfl | exact Ex.lenL Try.runUnderlying28 rfl | exact Ex.len rfl Try.runUnderlying28 rfl) rfl ?_
  refine O.ex (Ex.move rfl) rfl ?_
  refine O.ex (by first | exact Ex.lenR Try.runUnderlying28 rfl | exact Ex.lenIn Try.runUnderlying28 rfl | exact Ex.lenL Try.runUnderlying28 rfl | exact Ex.len rfl Try.runUnderlying28 rfl) rfl ?_
  refine O.ex (Ex.neqI rfl rfl) rfl ?_
  refine O.nil ?_
  refine hK2 _ _ _ ?_
  refine W.known_f rfl (by first | rfl | decide | exact decide_eq_false (fun hh => hh rfl)) ?_
  refine W.skip ?_
  refine hK1 _ _ _ ?_
  refine W.seq (fun K3 hK3 => ?_)
  refine W.seq (fun K4 hK4 => ?_)
  refine W.region ?_
  refine O.ex (Ex.assign rfl) rfl ?_
  refine O.nil ?_
  refine hK4 _ _ _ ?_
  refine W.block ?_
  refine W.loop (σ := Nat) (fun i => [(0, va), (1, vb), (5, .int .i64 (i : Int))]) (fun i ds w => ds = [] ∧ i ≤ xs.length ∧ Holds w (arr 3 (Value.int .i64) va xs :: arr 3 (Value.int .i64) vb xs :: L)) (fun i => xs.length - i) 0 ⟨rfl, rfl, rfl, trivial⟩ ⟨rfl, by omega, Holds.to (by assumption)⟩ ?_
  clear H
  rintro i _ w ⟨rfl, hi, H⟩
  refine W.seq (fun K5 hK5 => ?_)
  refine W.seq (fun K6 hK6 => ?_)
  refine W.region ?_
  refine O.ex (Ex.move rfl) rfl ?_
  refine O.ex (Ex.move rfl) rfl ?_
  refine O.ex (by first | exact Ex.lenR Try.runUnderlying28 rfl | exact Ex.lenIn Try.runUnderlying28 rfl | exact Ex.lenL Try.runUnderlying28 rfl | exact Ex.len rfl Try.runUnderlying28 rfl) rfl ?_
  refine O.ex (Ex.lss rfl rfl) rfl ?_
  refine O.nil ?_
  refine hK6 _ _ _ ?_
  first | refine W.cond_p rfl (fun hlt => ?_) (fun hge => ?_) | refine W.cond_b rfl (fun hlt => ?_) (fun hge => ?_)
  · refine W.skip ?_
    refine hK5 _ _ _ ?_
    refine W.seq (fun K7 hK7 => ?_)
    refine W.block ?_
    refine W.seq (fun K8 hK8 => ?_)
    refine W.drawTo _ (.take 0 (.take 1 (.take 2 (.take 3 (.take 4 (.take 5 (.take 6 (.take 7 (.take 8 .nil))))))))) (mixed) (fun _ _ _ _ h => h) (by assumption) (PP.refl _) (by decide +kernel) (fun w H => ?_)
    refine OQ.ex rfl (fun w H => (Ex.move rfl)) rfl ?_
    refine OQ.ex rfl (fun w H => (Ex.move rfl)) rfl ?_
    refine OQ.ex rfl (fun w H => (by first | exact Ex.idxR Try.runUnderlying28 Try.sizeOf3 rfl rfl | exact Ex.idxIn Try.runUnderlying28 Try.sizeOf3 rfl rfl | exact Ex.idxS Try.runUnderlying28 Try.sizeOf3 rfl rfl | exact Ex.idx Try.runUnderlying28 Try.sizeOf3 rfl rfl (by omega) (by omega))) rfl ?_
    refine OQ.ex rfl (fun w H => (by first | exact Ex.loadP Try.isAgg3 rfl | exact Ex.loadR Try.isAgg3 rfl | exact Ex.loadIn1 Try.isAgg3 rfl (Holds.to (by assumption)))) rfl ?_
    refine OQ.ex rfl (fun w H => (Ex.move rfl)) rfl ?_
    refine OQ.ex rfl (fun w H => (Ex.move rfl)) rfl ?_
    refine OQ.ex rfl (fun w H => (by first | exact Ex.idxR Try.runUnderlying28 Try.sizeOf3 rfl rfl | exact Ex.idxIn Try.runUnderlying28 Try.sizeOf3 rfl rfl | exact Ex.idxS Try.runUnderlying28 Try.sizeOf3 rfl rfl | exact Ex.idx Try.runUnderlying28 Try.sizeOf3 rfl rfl (by omega) (by omega))) rfl ?_
    refine OQ.ex rfl (fun w H => (by first | exact Ex.loadP Try.isAgg3 rfl | exact Ex.loadR Try.isAgg3 rfl | exact Ex.loadIn1 Try.isAgg3 rfl (Holds.to (by assumption)))) rfl ?_
    refine OQ.ex rfl (fun w H => (Ex.neqI rfl rfl)) rfl ?_
    refine OQ.done ?_
    refine hK8 _ _ _ ?_
    refine W.known_f rfl (by first | rfl | decide | exact decide_eq_false (fun hh => hh rfl)) ?_
    refine W.skip ?_
    refine hK7 _ _ _ ?_
    refine W.region ?_
    refine O.ex (Ex.move rfl) rfl ?_
    refine O.ex (by first | exact Ex.addI rfl rfl | exact Ex.add rfl rfl rfl) rfl ?_
    refine O.ex (Ex.assign rfl) rfl ?_
    refine O.nil ?_
    exact ⟨i + 1, ⟨rfl, rfl, rfl, trivial⟩, ⟨rfl, by omega, Holds.to (by assumption)⟩, by omega⟩
  · refine W.exit ?_
    refine hK3 _ _ _ ?_
    refine W.seq (fun K9 hK9 => ?_)
    refine W.region ?_
    refine O.ex (Ex.assign rfl) rfl ?_
    refine O.nil ?_
    refine hK9 _ _ _ ?_
    refine W.ret ?_
    try dsimp only [thenQ, blockQ, retQ]
    first | refine ⟨_, ⟨_, _, rfl, rfl, rfl⟩, ?_⟩ | (refine retD_mark ?_; intro w H; refine ⟨_, ⟨_, _, rfl, rfl, rfl⟩, ?_⟩) | (refine retD_mark2 ?_; intro w H; refine ⟨_, ⟨_, _, rfl, rfl, rfl⟩, ?_⟩)
    exact ⟨rfl, by first | assumption | exact Holds.to (by assumption)⟩
theorem lstI_get (s j : Nat) (h : j < (lst s).length) : (((lst s).getD j default : Nat) : Int) = (lstI s).getD j default := by
  simp [lstI, List.getD_eq_getElem?_getD, h]
theorem lstI_len (s : Nat) : (lstI s).length = (lst s).length := by simp [lstI]
end Go.Proofs.Ytliofdfhimmjmaa

