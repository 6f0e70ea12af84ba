import Derived.Test.YtikdblejkmaloaaStampPlays
namespace Go.Proofs.Ytikdblejkmaloaa
open Go.Rr Go
set_option linter.unusedVariables false
/-- The row, its slices named. -/
def RowSO (r : Nat) (vv wv : Value) (R : RowM ByteArray) : HProp := star [pt r (.cells #[vv, wv, .int .u8 R.now, .int .i64 R.n] 89 (0, 0)), arr 9 (Value.string) vv R.v, arr 5 (Value.int .u8) wv R.wh]
theorem rowSO_open {w : World} {r : Nat} {vv wv : Value} {R : RowM ByteArray} {L : List HProp} : Holds w (RowSO r vv wv R :: L) ↔ Holds w (pt r (.cells #[vv, wv, .int .u8 R.now, .int .i64 R.n] 89 (0, 0)) :: arr 9 (Value.string) vv R.v :: arr 5 (Value.int .u8) wv R.wh :: L) := by
  unfold RowSO
  simp only [Holds.star, List.cons_append, List.nil_append]
def capS (c r : Nat) : HProp := pt c (.cells #[.pointer (some ⟨r, 0, none⟩)] 49 (0, 0))
theorem allS_ct {w : World} {r : Nat} {L : List HProp} (H : Holds w L) :
    CT Try.prog 26 [.pointer (some ⟨r, 0, none⟩)] w fun u w' => ∃ c, u = .func (.func 52) #[] #[.pointer (some ⟨c, 0, none⟩)] ∧ Holds w' (capS c r :: L) := by
  refine CT.enter (N := 4) Try.func26 rfl rfl rfl rfl ?_
  refine W.seq (fun K0 hK0 => ?_)
  refine W.region ?_
  refine O.boxP rfl (fun b1 w H => ?_)
  refine O.ex (Ex.assign rfl) rfl ?_
  refine O.nil ?_
  refine hK0 _ _ _ ?_
  refine W.seq (fun K1 hK1 => ?_)
  refine W.region ?_
  refine O.ex (Ex.makeFunc rfl rfl) rfl ?_
  refine O.ex (Ex.assign rfl) rfl ?_
  refine O.nil ?_
  refine hK1 _ _ _ ?_
  refine W.ret ?_
  try dsimp only [thenQ, blockQ, retQ]
  first | refine ⟨_, ⟨_, _, rfl, rfl, rfl⟩, ?_⟩ | (refine retD_mark ?_; intro w H; refine ⟨_, ⟨_, _, rfl, rfl, rfl⟩, ?_⟩) | (refine retD_mark2 ?_; intro w H; refine ⟨_, ⟨_, _, rfl, rfl, rfl⟩, ?_⟩)
  exact ⟨_, rfl, Holds.to (by assumption)⟩
/-- What the row's iterator tells. -/
theorem all1S_ct {w : World} {c r : Nat} {R : RowM ByteArray} {fv vv wv : Value} {J : Nat → List HProp} {φ : Nat → Prop} {S : World → Prop} (hl : R.wh.length = R.v.length) (hlen : R.v.length ≤ 1000) (hφ : φ 0)
    (H : Holds w (capS c r :: RowSO r vv wv R :: J 0))
    (hy : ∀ (i : Nat) w, i < R.v.length → R.has i → φ i → Holds w (capS c r :: RowSO r vv wv R :: J i) →
      VT Try.prog fv [.int .i64 i, .string (R.v.getD i default)] w fun u w' => (u = .bool true ∧ φ (i + 1) ∧ Holds w' (capS c r :: RowSO r vv wv R :: J (i + 1))) ∨ (u = .bool false ∧ S w'))
    (hn : ∀ (i : Nat) w, i < R.v.length → ¬ R.has i → φ i → Holds w (capS c r :: RowSO r vv wv R :: J i) → φ (i + 1) ∧ Holds w (capS c r :: RowSO r vv wv R :: J (i + 1))) :
    CT Try.prog 52 [fv, .pointer (some ⟨c, 0, none⟩)] w fun _ w' => (φ R.v.length ∧ Holds w' (capS c r :: RowSO r vv wv R :: J R.v.length)) ∨ S w' := by
  have H := rowSO_open.1 H.swap
  have H := Holds.f3 H
  unfold capS at H
  refine CT.enter (N := 26) Try.func52 rfl rfl rfl rfl ?_
  refine W.seq (fun K0 hK0 => ?_)
  refine W.region ?_
  refine O.ex (by first | exact Ex.loadP Try.isAgg49 rfl | exact Ex.loadR Try.isAgg49 rfl | exact Ex.loadIn1 Try.isAgg49 rfl (Holds.to (by assumption))) rfl ?_
  refine O.ex (by first | exact Ex.nilPtr rfl | exact Ex.nilFunc rfl | exact Ex.nilYield rfl) rfl ?_
  refine O.ex (by first | exact Ex.field0 fld89_0 rfl | exact Ex.field fld89_0 rfl | exact Ex.fieldS fld89_0 rfl) rfl ?_
  refine O.ex (by first | exact Ex.loadP Try.isAgg47 rfl | exact Ex.loadR Try.isAgg47 rfl | exact Ex.loadIn1 Try.isAgg47 rfl (Holds.to (by assumption))) rfl ?_
  refine O.ex (by first | exact Ex.lenR Try.runUnderlying47 rfl | exact Ex.lenIn Try.runUnderlying47 rfl | exact Ex.lenL Try.runUnderlying47 rfl | exact Ex.len rfl Try.runUnderlying47 rfl) rfl ?_
  refine O.ex (Ex.move rfl) rfl ?_
  refine O.nil ?_
  refine hK0 _ _ _ ?_
  refine W.block ?_
  refine W.loop (σ := Nat) (fun i => [(0, fv), (1, .pointer (some ⟨c, 0, none⟩)), (8, vv), (9, .int .i64 R.v.length), (10, .int .i64 (i : Int))]) (fun i ds w => ds = [] ∧ i ≤ R.v.length ∧ φ i ∧ Holds w (capS c r :: RowSO r vv wv R :: J i)) (fun i => R.v.length - i) 0 ⟨rfl, rfl, rfl, rfl, rfl, trivial⟩ ⟨rfl, by omega, hφ, Holds.to (rowSO_open.2 (Holds.to (by assumption)))⟩ ?_
  clear H
  rintro i _ w ⟨rfl, hi, hφi, H⟩
  have H := Holds.f3 (rowSO_open.1 H.swap)
  unfold capS at H
  refine W.seq (fun K1 hK1 => ?_)
  refine W.region ?_
  refine O.ex (Ex.lss rfl rfl) rfl ?_
  refine O.nil ?_
  refine hK1 _ _ _ ?_
  refine W.seq (fun K2 hK2 => ?_)
  first | refine W.cond_p rfl (fun h11 => ?_) (fun h11 => ?_) | refine W.cond_b rfl (fun h11 => ?_) (fun h11 => ?_)
  · refine W.skip ?_
    refine hK2 _ _ _ ?_
    refine W.seq (fun K3 hK3 => ?_)
    refine W.block ?_
    refine W.seq (fun K4 hK4 => ?_)
    refine W.region ?_
    refine O.ex (Ex.move rfl) rfl ?_
    refine O.ex (by first | exact Ex.idxR Try.runUnderlying47 Try.sizeOf9 rfl rfl | exact Ex.idxIn Try.runUnderlying47 Try.sizeOf9 rfl rfl | exact Ex.idxS Try.runUnderlying47 Try.sizeOf9 rfl rfl | exact Ex.idx Try.runUnderlying47 Try.sizeOf9 rfl rfl (by omega) (by omega)) rfl ?_
    refine O.ex (by first | exact Ex.loadP Try.isAgg9 rfl | exact Ex.loadR Try.isAgg9 rfl | exact Ex.loadIn1 Try.isAgg9 rfl (Holds.to (by assumption))) rfl ?_
    refine O.ex (Ex.assign rfl) rfl ?_
    refine O.ex (Ex.assign rfl) rfl ?_
    refine O.nil ?_
    refine hK4 _ _ _ ?_
    refine W.seq (fun K5 hK5 => ?_)
    refine W.region ?_
    refine O.ex (by first | exact Ex.loadP Try.isAgg49 rfl | exact Ex.loadR Try.isAgg49 rfl | exact Ex.loadIn1 Try.isAgg49 rfl (Holds.to (by assumption))) rfl ?_
    refine O.ex (Ex.move rfl) rfl ?_
    refine O.callF Try.call51 rfl rfl (CT.mono (isS_ct (Holds.to (by assumption)) (by omega) (by rw [hl]; omega)) ?_)
    rintro _ w ⟨rfl, H⟩
    refine O.ex (Ex.move rfl) rfl ?_
    first | refine O.split_p (t := 18) rfl (fun hyes => ?_) (fun hno => ?_) | refine O.split (t := 18) rfl (fun hyes => ?_) (fun hno => ?_)
    · refine O.guard_t rfl rfl ?_
      refine O.ex (Ex.move rfl) rfl ?_
      refine O.guard_t rfl rfl ?_
      refine O.ex (Ex.move rfl) rfl ?_
      refine O.guard_t rfl rfl ?_
      refine O.ex (Ex.move rfl) rfl ?_
      refine O.guard_t rfl rfl ?_
      refine O.callVT rfl rfl rfl (VT.mono (hy i w (by omega) ⟨by omega, hyes⟩ hφi (Holds.to (rowSO_open.2 (Holds.to (by assumption))))) ?_)
      rintro _ w hh
      obtain (⟨rfl, hφ2, H⟩ | ⟨rfl, H⟩) := hh
      · refine O.guard_t rfl rfl ?_
        refine O.ex (by first | exact Ex.notD rfl | exact Ex.not rfl) rfl ?_
        refine O.ex (Ex.pick_t rfl rfl) rfl ?_
        refine O.nil ?_
        refine hK5 _ _ _ ?_
        refine W.known_f rfl (by first | rfl | decide | (simp; done) | omega) ?_
        refine W.skip ?_
        refine hK3 _ _ _ ?_
        refine W.region ?_
        refine O.ex (by first | exact Ex.addI rfl rfl | exact Ex.add rfl rfl rfl) rfl ?_
        refine O.ex (Ex.move rfl) rfl ?_
        refine O.nil ?_
        first
        | exact ⟨i + 1, ⟨rfl, rfl, rfl, rfl, rfl, trivial⟩, ⟨rfl, by omega, hφ2, Holds.to (by assumption)⟩, by omega⟩
        | (have hnn := hn i w (by omega) (fun hh => hno hh.2) hφi (Holds.to (rowSO_open.2 (Holds.to (by assumption))))
           exact ⟨i + 1, ⟨rfl, rfl, rfl, rfl, rfl, trivial⟩, ⟨rfl, by omega, hnn.1, hnn.2⟩, by omega⟩)
      · refine O.guard_t rfl rfl ?_
        refine O.ex (by first | exact Ex.notD rfl | exact Ex.not rfl) rfl ?_
        refine O.ex (Ex.pick_t rfl rfl) rfl ?_
        refine O.nil ?_
        refine hK5 _ _ _ ?_
        refine W.known_t rfl (by first | rfl | decide | (simp; done) | omega) ?_
        refine W.ret ?_
        try dsimp only [thenQ, blockQ, retQ]
        first | refine ⟨_, rfl, ?_⟩ | (refine retD_mark ?_; intro w H; refine ⟨_, rfl, ?_⟩) | (refine retD_mark2 ?_; intro w H; refine ⟨_, rfl, ?_⟩)
        first
        | exact .inr H
        | (obtain rfl : i = R.v.length := by omega
           exact .inl ⟨hφi, Holds.to (rowSO_open.2 (Holds.to (by assumption)))⟩)
    · refine O.guard_f rfl rfl rfl rfl ?_
      refine O.guard_f rfl rfl rfl rfl ?_
      refine O.guard_f rfl rfl rfl rfl ?_
      refine O.guard_f rfl rfl rfl rfl ?_
      refine O.guard_f rfl rfl rfl rfl ?_
      refine O.ex (Ex.pick_f rfl rfl) rfl ?_
      refine O.nil ?_
      refine hK5 _ _ _ ?_
      refine W.cond_f rfl ?_
      refine W.skip ?_
      refine hK3 _ _ _ ?_
      refine W.region ?_
      refine O.ex (by first | exact Ex.addI rfl rfl | exact Ex.add rfl rfl rfl) rfl ?_
      refine O.ex (Ex.move rfl) rfl ?_
      refine O.nil ?_
      first
      | exact ⟨i + 1, ⟨rfl, rfl, rfl, rfl, rfl, trivial⟩, ⟨rfl, by omega, hφ2, Holds.to (by assumption)⟩, by omega⟩
      | (have hnn := hn i w (by omega) (fun hh => hno hh.2) hφi (Holds.to (rowSO_open.2 (Holds.to (by assumption))))
         exact ⟨i + 1, ⟨rfl, rfl, rfl, rfl, rfl, trivial⟩, ⟨rfl, by omega, hnn.1, hnn.2⟩, by omega⟩)
  · refine W.exit ?_
    try dsimp only [thenQ, blockQ, retQ]
    first | refine ⟨_, rfl, ?_⟩ | (refine retD_mark ?_; intro w H; refine ⟨_, rfl, ?_⟩) | (refine retD_mark2 ?_; intro w H; refine ⟨_, rfl, ?_⟩)
    first
    | exact .inr H
    | (obtain rfl : i = R.v.length := by omega
       exact .inl ⟨hφi, Holds.to (rowSO_open.2 (Holds.to (by assumption)))⟩)
/-- The places that are set. -/
def sel (sb : List Bool) : Nat → List Int
  | 0 => []
  | i + 1 => if sb.getD i false = true then sel sb i ++ [(i : Int)] else sel sb i
theorem sel_le (sb : List Bool) : ∀ i, (sel sb i).length ≤ i
  | 0 => by simp [sel]
  | i + 1 => by have := sel_le sb i; unfold sel; split <;> simp <;> omega
theorem sel_pre (sb : List Bool) : ∀ (j i : Nat), i ≤ j → ∃ r, sel sb j = sel sb i ++ r
  | 0, i, h => ⟨[], by rw [show i = 0 from by omega]; simp⟩
  | j + 1, i, h => by
    rcases Nat.lt_or_ge i (j + 1) with hi | hi
    · obtain ⟨r, hr⟩ := sel_pre sb j i (by omega)
      by_cases hb : sb.getD j false = true
      · exact ⟨r ++ [(j : Int)], by rw [show sel sb (j + 1) = sel sb j ++ [(j : Int)] from if_pos hb, hr, List.append_assoc]⟩
      · exact ⟨r, by rw [show sel sb (j + 1) = sel sb j from if_neg hb, hr]⟩
    · obtain rfl : i = j + 1 := by omega
      exact ⟨[], by simp⟩
theorem sel_get (sb : List Bool) (n i : Nat) (h : i < n) (hb : sb.getD i false = true) : (sel sb i).length < (sel sb n).length ∧ (sel sb n).getD (sel sb i).length default = i := by
  obtain ⟨r, hr⟩ := sel_pre sb n (i + 1) h
  have : sel sb (i + 1) = sel sb i ++ [(i : Int)] := by simp only [sel, hb, if_true]
  rw [hr, this]
  simp
theorem sel_succ_t {sb : List Bool} {i : Nat} (hb : sb.getD i false = true) : sel sb (i + 1) = sel sb i ++ [(i : Int)] := by simp only [sel, hb, if_true]
theorem sel_succ_f {sb : List Bool} {i : Nat} (hb : ¬ sb.getD i false = true) : sel sb (i + 1) = sel sb i := if_neg hb
structure GoInv (R : RowM ByteArray) (xs : List ByteArray) (sb : List Bool) (i : Nat) : Prop where
  lv : R.v.length = xs.length
  lw : R.wh.length = xs.length
  now : R.now = 1
  n : R.n = (sel sb i).length
  has : ∀ j, j < xs.length → (R.wh.getD j 0 = 1 ↔ j < i ∧ sb.getD j false = true)
  val : ∀ j, j < xs.length → j < i → sb.getD j false = true → R.v.getD j default = xs.getD j default
theorem GoInv.new (xs : List ByteArray) (sb : List Bool) : GoInv (RowM.new ByteArray.empty xs.length) xs sb 0 where
  lv := by simp [RowM.new]
  lw := by simp [RowM.new]
  now := rfl
  n := rfl
  has := fun j hj => by simp [RowM.new, List.getD_eq_getElem?_getD, hj]
  val := fun j hj h => by omega
theorem GoInv.hasI {R : RowM ByteArray} {xs : List ByteArray} {sb : List Bool} {i : Nat} (h : GoInv R xs sb i) (j : Nat) (hj : j < xs.length) : R.has j ↔ j < i ∧ sb.getD j false = true := by
  unfold RowM.has
  rw [h.now, h.lv]
  have := h.has j hj
  simp only [Int.toNat_natCast]
  rw [this]
  exact ⟨fun ⟨_, h⟩ => h, fun h => ⟨⟨by omega, by omega⟩, h⟩⟩
theorem GoInv.step_f {R : RowM ByteArray} {xs : List ByteArray} {sb : List Bool} {i : Nat} (h : GoInv R xs sb i) (hb : ¬ sb.getD i false = true) : GoInv R xs sb (i + 1) where
  lv := h.lv
  lw := h.lw
  now := h.now
  n := by rw [sel_succ_f hb]; exact h.n
  has := fun j hj => by
    rw [h.has j hj]
    rcases Nat.lt_trichotomy j i with hji | hji | hji
    · simp only [hji, true_and, show j < i + 1 from by omega]
    · subst hji; exact iff_of_false (by omega) (fun h => hb h.2)
    · exact iff_of_false (by omega) (by omega)
  val := fun j hj hji hjb => by
    refine h.val j hj ?_ hjb
    rcases Nat.lt_or_ge j i with h1 | h1
    · exact h1
    · obtain rfl : j = i := by omega
      exact absurd hjb hb
theorem GoInv.step_t {R : RowM ByteArray} {xs : List ByteArray} {sb : List Bool} {i : Nat} (h : GoInv R xs sb i) (hi : i < xs.length) (hb : sb.getD i false = true) : GoInv (R.set i (xs.getD i default)) xs sb (i + 1) := by
  have hno : ¬ R.has (i : Int) := fun hh => by have := (h.hasI i hi).1 hh; omega
  have e : R.set i (xs.getD i default) = { v := R.v.set i (xs.getD i default), wh := R.wh.set i R.now, now := R.now, n := R.n + 1 } := by
    unfold RowM.set
    rw [if_pos (by rw [h.lv]; omega), if_neg hno]
    simp
  rw [e]
  have hlw : i < R.wh.length := by rw [h.lw]; exact hi
  have hlv : i < R.v.length := by rw [h.lv]; exact hi
  constructor
  · simp [h.lv]
  · simp [h.lw]
  · exact h.now
  · rw [sel_succ_t hb]; simp [h.n]
  · intro j hj
    simp only [getD_set _ _ _ _ _ hlw, h.now]
    rcases Nat.lt_trichotomy j i with hji | hji | hji
    · rw [if_neg (by omega), h.has j hj]; simp only [hji, true_and, show j < i + 1 from by omega]
    · subst hji; rw [if_pos rfl]; exact iff_of_true rfl ⟨by omega, hb⟩
    · rw [if_neg (by omega), h.has j hj]; exact iff_of_false (by omega) (by omega)
  · intro j hj hji hjb
    simp only [getD_set _ _ _ _ _ hlv]
    split
    · rename_i e; rw [e]
    · exact h.val j hj (by omega) hjb
set_option maxHeartbeats 1000000 in
theorem stampGoes_ct {w0 : World} {lv sv : Value} {xs : List ByteArray} {sb : List Bool} {m : Int} (hx : SlIn w0 1 (fun s : ByteArray => [.string s]) lv xs) (hsb : SlIn w0 1 (fun b : Bool => [.bool b]) sv sb) (hm : (Lit.int .u8 m).wf = true) (hlx : xs.length ≤ 9223372036854775807) (hlb : sb.length ≤ 9223372036854775807) :
    CT Try.prog 5 [lv, sv, .int .u8 m] w0 fun u w' => u = .bool true ∧ RowKit.Below w0.heap.size w0 w' := by
  have H := Holds.base_refl w0
  obtain ⟨m0, m1⟩ := bounds_u8 hm
  refine CT.enter (N := 101) Try.func5 rfl rfl rfl rfl ?_
  refine W.seq (fun K0 hK0 => ?_)
  refine W.region ?_
  refine O.boxP rfl (fun b3 w H => ?_)
  rw [hx.cells] at H
  refine O.boxP rfl (fun b5 w H => ?_)
  refine O.allocP Try.zeroValue4 (fun b6 w H => ?_)
  refine O.nil ?_
  refine hK0 _ _ _ ?_
  refine W.seq (fun K1 hK1 => ?_)
  refine W.seq (fun K2 hK2 => ?_)
  refine W.region ?_
  refine O.callF Try.call10 rfl rfl (CT.mono (awake05_ct (by assumption)) ?_)
  rintro _ w ⟨rfl, H⟩
  refine O.ex (by first | exact Ex.notD rfl | exact Ex.not rfl) rfl ?_
  refine O.nil ?_
  refine hK2 _ _ _ ?_
  refine W.known_f rfl (by first | rfl | (refine decide_eq_false ?_; omega) | (refine decide_eq_false ?_; intro hh; exact hh g2) | (refine decide_eq_false ?_; exact fun hh => hh rfl) | (refine decide_eq_true ?_; omega)) ?_
  refine W.skip ?_
  refine hK1 _ _ _ ?_
  refine W.seq (fun K3 hK3 => ?_)
  refine W.seq (fun K4 hK4 => ?_)
  refine W.region ?_
  refine O.ex (by first | exact Ex.loadP Try.isAgg47 rfl | exact Ex.loadR Try.isAgg47 rfl | exact Ex.loadIn1 Try.isAgg47 rfl (Holds.to (by assumption))) rfl ?_
  refine O.ex (by first | exact Ex.lenR Try.runUnderlying47 rfl | exact Ex.lenIn Try.runUnderlying47 rfl | exact Ex.lenL Try.runUnderlying47 rfl | exact Ex.len rfl Try.runUnderlying47 rfl) rfl ?_
  refine O.ex (Ex.gtr rfl rfl) rfl ?_
  refine O.nil ?_
  refine hK4 _ _ _ ?_
  first | refine W.cond_p rfl (fun hbig => ?_) (fun hle => ?_) | refine W.cond_b rfl (fun hbig => ?_) (fun hle => ?_)
  · refine W.seq (fun K5 hK5 => ?_)
    refine W.region ?_
    first | refine O.storeP Try.sizeOf4 rfl rfl (fun w H => ?_) | refine O.storeR Try.sizeOf4 rfl rfl (fun w H => ?_)
    refine O.nil ?_
    refine hK5 _ _ _ ?_
    refine W.ret ?_
    try dsimp only [thenQ, blockQ, retQ]
    first | refine ⟨_, ⟨_, _, _, rfl, rfl, loadVar_one Try.isAgg4, rfl⟩, ?_⟩ | (refine retD_mark ?_; intro w H; refine ⟨_, ⟨_, _, _, rfl, rfl, loadVar_one Try.isAgg4, rfl⟩, ?_⟩) | (refine retD_mark2 ?_; intro w H; refine ⟨_, ⟨_, _, _, rfl, rfl, loadVar_one Try.isAgg4, rfl⟩, ?_⟩)
    exact ⟨rfl, Holds.base_below (L := []) (Holds.to (by assumption))⟩
  · refine W.skip ?_
    refine hK3 _ _ _ ?_
    refine W.seq (fun K6 hK6 => ?_)
    refine W.region ?_
    refine O.ex (by first | exact Ex.loadP Try.isAgg47 rfl | exact Ex.loadR Try.isAgg47 rfl | exact Ex.loadIn1 Try.isAgg47 rfl (Holds.to (by assumption))) rfl ?_
    refine O.ex (by first | exact Ex.lenR Try.runUnderlying47 rfl | exact Ex.lenIn Try.runUnderlying47 rfl | exact Ex.lenL Try.runUnderlying47 rfl | exact Ex.len rfl Try.runUnderlying47 rfl) rfl ?_
    refine O.callF Try.call24 rfl rfl (CT.mono (newS_ct (by assumption)) ?_)
    rintro _ w hx2
    rcases hx2 with ⟨hno, _⟩ | ⟨hyes, r, rfl, H⟩
    · exact absurd ⟨by omega, by omega⟩ hno
    rw [show ((xs.length : Int)).toNat = xs.length from by omega] at H
    refine O.ex (Ex.move rfl) rfl ?_
    refine O.ex (Ex.extract rfl rfl) rfl ?_
    refine O.ex (Ex.extract rfl rfl) rfl ?_
    refine O.ex (Ex.assign rfl) rfl ?_
    refine O.ex (Ex.assign rfl) rfl ?_
    refine O.nil ?_
    refine hK6 _ _ _ ?_
    refine W.seq (fun K7 hK7 => ?_)
    refine W.seq (fun K8 hK8 => ?_)
    refine W.region ?_
    refine O.ex (Ex.move rfl) rfl ?_
    refine O.ex (Ex.nilEq Try.runUnderlying49 rfl rfl) rfl ?_
    refine O.nil ?_
    refine hK8 _ _ _ ?_
    refine W.known_f rfl (by first | rfl | (refine decide_eq_false ?_; omega) | (refine decide_eq_false ?_; intro hh; exact hh g2) | (refine decide_eq_false ?_; exact fun hh => hh rfl) | (refine decide_eq_true ?_; omega)) ?_
    refine W.skip ?_
    refine hK7 _ _ _ ?_
    refine W.seq (fun K9 hK9 => ?_)
    refine W.region ?_
    refine O.allocP Try.zeroValue52 (fun b9 w H => ?_)
    refine O.nil ?_
    refine hK9 _ _ _ ?_
    refine W.seq (fun K10 hK10 => ?_)
    refine W.seq (fun K11 hK11 => ?_)
    refine W.region ?_
    refine O.ex (Ex.assign rfl) rfl ?_
    refine O.nil ?_
    refine hK11 _ _ _ ?_
    refine W.block ?_
    have hg0 := GoInv.new xs sb
    have H := arr_nil (T := 3) (e := Value.int .i64) H
    refine W.loop (σ := Nat) (fun i => [(1, sv), (3, .pointer (some ⟨b3, 0, none⟩)), (5, .pointer (some ⟨b5, 0, none⟩)), (6, .pointer (some ⟨b6, 0, none⟩)), (7, .pointer (some ⟨r, 0, none⟩)), (9, .pointer (some ⟨b9, 0, none⟩)), (10, .int .i64 (i : Int))]) (fun i ds w => ds = [] ∧ i ≤ xs.length ∧ ∃ va R, GoInv R xs sb i ∧ Holds w [RowS r R, arr 3 (Value.int .i64) va (sel sb i), pt b9 (.cells #[va] 52 (0, 0)), pt b3 (.cells #[lv] 47 (0, 0)), pt b5 (.cells #[.int .u8 m] 5 (0, 0)), pt b6 (.cells #[.bool false] 4 (0, 0)), base w0]) (fun i => xs.length - i) 0 ⟨rfl, rfl, rfl, rfl, rfl, rfl, rfl, trivial⟩ ⟨rfl, by omega, _, _, hg0, Holds.to (by assumption)⟩ ?_
    clear hg0 H
    rintro i _ w ⟨rfl, hi, va, R, hg, H⟩
    have hsl := sel_le sb i
    refine W.seq (fun K12 hK12 => ?_)
    refine W.seq (fun K13 hK13 => ?_)
    refine W.region ?_
    refine O.ex (Ex.move rfl) rfl ?_
    refine O.ex (by first | exact Ex.loadP Try.isAgg47 rfl | exact Ex.loadR Try.isAgg47 rfl | exact Ex.loadIn1 Try.isAgg47 rfl (Holds.to (by assumption))) rfl ?_
    refine O.ex (by first | exact Ex.lenR Try.runUnderlying47 rfl | exact Ex.lenIn Try.runUnderlying47 rfl | exact Ex.lenL Try.runUnderlying47 rfl | exact Ex.len rfl Try.runUnderlying47 rfl) rfl ?_
    refine O.ex (Ex.lss rfl rfl) rfl ?_
    refine O.nil ?_
    refine hK13 _ _ _ ?_
    first | refine W.cond_p rfl (fun hlt => ?_) (fun hge => ?_) | refine W.cond_b rfl (fun hlt => ?_) (fun hge => ?_)
    · refine W.skip ?_
      refine hK12 _ _ _ ?_
      refine W.seq (fun K14 hK14 => ?_)
      refine W.block ?_
      refine W.seq (fun K15 hK15 => ?_)
      refine W.region ?_
      refine O.ex (Ex.move rfl) rfl ?_
      refine O.ex (Ex.move rfl) rfl ?_
      refine O.ex (by first | exact Ex.lenR Try.runUnderlying48 rfl | exact Ex.lenIn Try.runUnderlying48 rfl | exact Ex.lenL Try.runUnderlying48 rfl | exact Ex.len rfl Try.runUnderlying48 rfl) rfl ?_
      refine O.ex (Ex.lss rfl rfl) rfl ?_
      refine O.ex (Ex.move rfl) rfl ?_
      first | refine O.split_p (t := 37) rfl (fun hsome => ?_) (fun hnone => ?_) | refine O.split (t := 37) rfl (fun hsome => ?_) (fun hnone => ?_)
      · refine O.guard_t rfl rfl ?_
        refine O.ex (Ex.move rfl) rfl ?_
        refine O.guard_t rfl rfl ?_
        refine O.ex (Ex.move rfl) rfl ?_
        refine O.guard_t rfl rfl ?_
        refine O.ex (by first | exact Ex.idxR Try.runUnderlying48 Try.sizeOf4 rfl rfl | exact Ex.idxIn Try.runUnderlying48 Try.sizeOf4 rfl rfl | exact Ex.idxS Try.runUnderlying48 Try.sizeOf4 rfl rfl | exact Ex.idx Try.runUnderlying48 Try.sizeOf4 rfl rfl (by omega) (by omega)) rfl ?_
        refine O.guard_t rfl rfl ?_
        refine O.ex (by first | exact Ex.loadP Try.isAgg4 rfl | exact Ex.loadR Try.isAgg4 rfl | exact Ex.loadIn1 Try.isAgg4 rfl (Holds.to (by assumption))) rfl ?_
        refine O.ex (Ex.pick_t rfl rfl) rfl ?_
        refine O.nil ?_
        refine hK15 _ _ _ ?_
        first | refine W.cond_p rfl (fun hset => ?_) (fun hnot => ?_) | refine W.cond_b rfl (fun hset => ?_) (fun hnot => ?_)
        · refine W.seq (fun K16 hK16 => ?_)
          refine W.region ?_
          refine O.ex (Ex.move rfl) rfl ?_
          refine O.ex (Ex.move rfl) rfl ?_
          refine O.ex (by first | exact Ex.loadP Try.isAgg47 rfl | exact Ex.loadR Try.isAgg47 rfl | exact Ex.loadIn1 Try.isAgg47 rfl (Holds.to (by assumption))) rfl ?_
          refine O.ex (Ex.move rfl) rfl ?_
          refine O.ex (by first | exact Ex.idxR Try.runUnderlying47 Try.sizeOf9 rfl rfl | exact Ex.idxIn Try.runUnderlying47 Try.sizeOf9 rfl rfl | exact Ex.idxS Try.runUnderlying47 Try.sizeOf9 rfl rfl | exact Ex.idx Try.runUnderlying47 Try.sizeOf9 rfl rfl (by omega) (by omega)) rfl ?_
          refine O.ex (by first | exact Ex.loadP Try.isAgg9 rfl | exact Ex.loadR Try.isAgg9 rfl | exact Ex.loadIn1 Try.isAgg9 rfl (Holds.to (by assumption))) rfl ?_
          refine O.callF Try.call25 rfl rfl (CT.mono (setS_ct (Holds.to (by assumption)) (by rw [hg.lv, hg.lw]) (by rw [hg.n]; omega) (by rw [hg.n]; omega)) ?_)
          rintro _ w ⟨rfl, H⟩
          refine O.nil ?_
          refine hK16 _ _ _ ?_
          refine W.region ?_
          refine O.ex (by first | exact Ex.loadP Try.isAgg52 rfl | exact Ex.loadR Try.isAgg52 rfl | exact Ex.loadIn1 Try.isAgg52 rfl (Holds.to (by assumption))) rfl ?_
          refine O.ex (Ex.move rfl) rfl ?_
          refine O.build1 (e := Value.int .i64) Try.runUnderlying52 Try.sizeOf3 Try.zeroValue3 rfl (fun v52 w hv52 H => ?_)
          refine O.appendR Try.runUnderlying52 Try.typeInfo3 (bt := 8) rfl Try.sizeOf3 Try.zeroValue3 rfl rfl (fun v53 w hv53 H => ?_)
          first | refine O.storeP Try.sizeOf52 rfl rfl (fun w H => ?_) | refine O.storeR Try.sizeOf52 rfl rfl (fun w H => ?_)
          refine O.nil ?_
          refine hK14 _ _ _ ?_
          refine W.region ?_
          refine O.ex (Ex.move rfl) rfl ?_
          refine O.ex (by first | exact Ex.addI rfl rfl | exact Ex.add rfl rfl rfl) rfl ?_
          refine O.ex (Ex.assign rfl) rfl ?_
          refine O.nil ?_
          first
          | (have hb : sb.getD i false = true := hset
             exact ⟨i + 1, ⟨rfl, rfl, rfl, rfl, rfl, rfl, rfl, trivial⟩, ⟨rfl, by omega, _, _, hg.step_t (by omega) hb, by rw [sel_succ_t hb]; exact Holds.to (by assumption)⟩, by omega⟩)
          | (have hb : ¬ sb.getD i false = true := by rw [show sb.getD i false = false from hnot]; nofun
             exact ⟨i + 1, ⟨rfl, rfl, rfl, rfl, rfl, rfl, rfl, trivial⟩, ⟨rfl, by omega, _, _, hg.step_f hb, by rw [sel_succ_f hb]; exact Holds.to (by assumption)⟩, by omega⟩)
          | (have hb : ¬ sb.getD i false = true := by simp [List.getD_eq_getElem?_getD, List.getElem?_eq_none (show sb.length ≤ i by omega)]
             exact ⟨i + 1, ⟨rfl, rfl, rfl, rfl, rfl, rfl, rfl, trivial⟩, ⟨rfl, by omega, _, _, hg.step_f hb, by rw [sel_succ_f hb]; exact Holds.to (by assumption)⟩, by omega⟩)
        · refine W.skip ?_
          refine hK14 _ _ _ ?_
          refine W.region ?_
          refine O.ex (Ex.move rfl) rfl ?_
          refine O.ex (by first | exact Ex.addI rfl rfl | exact Ex.add rfl rfl rfl) rfl ?_
          refine O.ex (Ex.assign rfl) rfl ?_
          refine O.nil ?_
          first
          | (have hb : sb.getD i false = true := hset
             exact ⟨i + 1, ⟨rfl, rfl, rfl, rfl, rfl, rfl, rfl, trivial⟩, ⟨rfl, by omega, _, _, hg.step_t (by omega) hb, by rw [sel_succ_t hb]; exact Holds.to (by assumption)⟩, by omega⟩)
          | (have hb : ¬ sb.getD i false = true := by rw [show sb.getD i false = false from hnot]; nofun
             exact ⟨i + 1, ⟨rfl, rfl, rfl, rfl, rfl, rfl, rfl, trivial⟩, ⟨rfl, by omega, _, _, hg.step_f hb, by rw [sel_succ_f hb]; exact Holds.to (by assumption)⟩, by omega⟩)
          | (have hb : ¬ sb.getD i false = true := by simp [List.getD_eq_getElem?_getD, List.getElem?_eq_none (show sb.length ≤ i by omega)]
             exact ⟨i + 1, ⟨rfl, rfl, rfl, rfl, rfl, rfl, rfl, trivial⟩, ⟨rfl, by omega, _, _, hg.step_f hb, by rw [sel_succ_f hb]; exact Holds.to (by assumption)⟩, by omega⟩)
      · refine O.guard_f rfl rfl rfl rfl ?_
        refine O.guard_f rfl rfl rfl rfl ?_
        refine O.guard_f rfl rfl rfl rfl ?_
        refine O.guard_f rfl rfl rfl rfl ?_
        refine O.ex (Ex.pick_f rfl rfl) rfl ?_
        refine O.nil ?_
        refine hK15 _ _ _ ?_
        refine W.cond_f rfl ?_
        refine W.skip ?_
        refine hK14 _ _ _ ?_
        refine W.region ?_
        refine O.ex (Ex.move rfl) rfl ?_
        refine O.ex (by first | exact Ex.addI rfl rfl | exact Ex.add rfl rfl rfl) rfl ?_
        refine O.ex (Ex.assign rfl) rfl ?_
        refine O.nil ?_
        first
        | (have hb : sb.getD i false = true := hset
           exact ⟨i + 1, ⟨rfl, rfl, rfl, rfl, rfl, rfl, rfl, trivial⟩, ⟨rfl, by omega, _, _, hg.step_t (by omega) hb, by rw [sel_succ_t hb]; exact Holds.to (by assumption)⟩, by omega⟩)
        | (have hb : ¬ sb.getD i false = true := by rw [show sb.getD i false = false from hnot]; nofun
           exact ⟨i + 1, ⟨rfl, rfl, rfl, rfl, rfl, rfl, rfl, trivial⟩, ⟨rfl, by omega, _, _, hg.step_f hb, by rw [sel_succ_f hb]; exact Holds.to (by assumption)⟩, by omega⟩)
        | (have hb : ¬ sb.getD i false = true := by simp [List.getD_eq_getElem?_getD, List.getElem?_eq_none (show sb.length ≤ i by omega)]
           exact ⟨i + 1, ⟨rfl, rfl, rfl, rfl, rfl, rfl, rfl, trivial⟩, ⟨rfl, by omega, _, _, hg.step_f hb, by rw [sel_succ_f hb]; exact Holds.to (by assumption)⟩, by omega⟩)
    · refine W.exit ?_
      refine hK10 _ _ _ ?_
      refine W.seq (fun K17 hK17 => ?_)
      refine W.region ?_
      obtain rfl : i = xs.length := by omega
      refine O.allocP Try.zeroValue3 (fun b11 w H => ?_)
      first | refine O.storeP Try.sizeOf3 rfl rfl (fun w H => ?_) | refine O.storeR Try.sizeOf3 rfl rfl (fun w H => ?_)
      refine O.nil ?_
      refine hK17 _ _ _ ?_
      refine W.seq (fun K18 hK18 => ?_)
      refine W.seq (fun K19 hK19 => ?_)
      refine W.region ?_
      refine O.ex (Ex.move rfl) rfl ?_
      refine O.callF Try.call26 rfl rfl (CT.mono (allS_ct (by assumption)) ?_)
      rintro _ w ⟨c, rfl, H⟩
      refine O.nil ?_
      refine hK19 _ _ _ ?_
      refine W.block ?_
      obtain ⟨vv, wv, H⟩ := rowS_open.1 (Holds.to (by assumption))
      have H := rowSO_open.2 H
      refine W.rangeFunc rfl Try.call52 H ?_
      rintro LR k D w hLR H
      refine CT.mono (all1S_ct (c := c) (r := r) (R := R) (vv := vv) (wv := wv)
        (J := fun i => [LR .ready none, dblk D, arr 3 (Value.int .i64) va (sel sb xs.length), pt b9 (.cells #[va] 52 (0, 0)), pt b11 (.cells #[.int .i64 (sel sb i).length] 3 (0, 0)), pt b3 (.cells #[lv] 47 (0, 0)), pt b5 (.cells #[.int .u8 m] 5 (0, 0)), pt b6 (.cells #[.bool false] 4 (0, 0)), base w0])
        (φ := fun i => (sel sb i).length = 0 ∨ ((sel sb i).length : Int) < m)
        (S := fun w' => ∃ kk : Int, (kk = max m 1 ∧ kk ≤ (sel sb xs.length).length) ∧ Holds w' [capS c r, RowSO r vv wv R, LR .done (some (.exit 2)), dblk D, arr 3 (Value.int .i64) va (sel sb xs.length), pt b9 (.cells #[va] 52 (0, 0)), pt b11 (.cells #[.int .i64 kk] 3 (0, 0)), pt b3 (.cells #[lv] 47 (0, 0)), pt b5 (.cells #[.int .u8 m] 5 (0, 0)), pt b6 (.cells #[.bool false] 4 (0, 0)), base w0])
        (by rw [hg.lv, hg.lw]) (by rw [hg.lv]; omega) (.inl rfl) (Holds.to (by assumption)) ?_ ?_) ?_
      · intro i w hi hhas hφ H
        rw [hg.lv] at hi
        have hh := (hg.hasI i hi).1 hhas
        obtain ⟨g1, g2⟩ := sel_get sb xs.length i hi hh.2
        have hv := hg.val i hi hi hh.2
        have hs1 : (sel sb (i + 1)).length = (sel sb i).length + 1 := by rw [sel_succ_t hh.2]; simp
        refine VT.round hLR (Holds.to (by assumption)) rfl rfl ?_
        rw [hv]
        refine W.seq (fun K20 hK20 => ?_)
        refine W.region ?_
        refine O.ex (Ex.assign rfl) rfl ?_
        refine O.nil ?_
        refine hK20 _ _ _ ?_
        refine W.region ?_
        refine O.ex (Ex.assign rfl) rfl ?_
        refine O.nil ?_
        refine ⟨_, Holds.to (by assumption), fun w H => ?_⟩
        refine W.block ?_
        refine W.seq (fun K21 hK21 => ?_)
        refine W.seq (fun K22 hK22 => ?_)
        refine W.region ?_
        refine O.ex (by first | exact Ex.loadP Try.isAgg3 rfl | exact Ex.loadR Try.isAgg3 rfl | exact Ex.loadIn1 Try.isAgg3 rfl (Holds.to (by assumption))) rfl ?_
        refine O.ex (by first | exact Ex.loadP Try.isAgg52 rfl | exact Ex.loadR Try.isAgg52 rfl | exact Ex.loadIn1 Try.isAgg52 rfl (Holds.to (by assumption))) rfl ?_
        refine O.ex (by first | exact Ex.lenR Try.runUnderlying52 rfl | exact Ex.lenIn Try.runUnderlying52 rfl | exact Ex.lenL Try.runUnderlying52 rfl | exact Ex.len rfl Try.runUnderlying52 rfl) rfl ?_
        refine O.ex (Ex.geq rfl rfl) rfl ?_
        refine O.ex (Ex.move rfl) rfl ?_
        refine O.known (t := 62) (c := false) rfl (by first | rfl | (refine decide_eq_false ?_; omega) | (refine decide_eq_false ?_; intro hh; exact hh g2) | (refine decide_eq_false ?_; exact fun hh => hh rfl) | (refine decide_eq_true ?_; omega)) ?_
        refine O.guard_t rfl rfl ?_
        refine O.ex (by first | exact Ex.loadP Try.isAgg52 rfl | exact Ex.loadR Try.isAgg52 rfl | exact Ex.loadIn1 Try.isAgg52 rfl (Holds.to (by assumption))) rfl ?_
        refine O.guard_t rfl rfl ?_
        refine O.ex (by first | exact Ex.loadP Try.isAgg3 rfl | exact Ex.loadR Try.isAgg3 rfl | exact Ex.loadIn1 Try.isAgg3 rfl (Holds.to (by assumption))) rfl ?_
        refine O.guard_t rfl rfl ?_
        refine O.ex (by first | exact Ex.idxR Try.runUnderlying52 Try.sizeOf3 rfl rfl | exact Ex.idxIn Try.runUnderlying52 Try.sizeOf3 rfl rfl | exact Ex.idxS Try.runUnderlying52 Try.sizeOf3 rfl rfl | exact Ex.idx Try.runUnderlying52 Try.sizeOf3 rfl rfl (by omega) (by omega)) rfl ?_
        refine O.guard_t rfl rfl ?_
        refine O.ex (by first | exact Ex.loadP Try.isAgg3 rfl | exact Ex.loadR Try.isAgg3 rfl | exact Ex.loadIn1 Try.isAgg3 rfl (Holds.to (by assumption))) rfl ?_
        refine O.guard_t rfl rfl ?_
        refine O.ex (Ex.move rfl) rfl ?_
        refine O.guard_t rfl rfl ?_
        refine O.ex (Ex.neqI rfl rfl) rfl ?_
        refine O.ex (Ex.pick_f rfl rfl) rfl ?_
        refine O.ex (Ex.move rfl) rfl ?_
        refine O.known (t := 70) (c := false) rfl (by first | rfl | (refine decide_eq_false ?_; omega) | (refine decide_eq_false ?_; intro hh; exact hh g2) | (refine decide_eq_false ?_; exact fun hh => hh rfl) | (refine decide_eq_true ?_; omega)) ?_
        refine O.guard_t rfl rfl ?_
        refine O.ex (by first | exact Ex.loadP Try.isAgg47 rfl | exact Ex.loadR Try.isAgg47 rfl | exact Ex.loadIn1 Try.isAgg47 rfl (Holds.to (by assumption))) rfl ?_
        refine O.guard_t rfl rfl ?_
        refine O.ex (Ex.move rfl) rfl ?_
        refine O.guard_t rfl rfl ?_
        refine O.ex (by first | exact Ex.idxR Try.runUnderlying47 Try.sizeOf9 rfl rfl | exact Ex.idxIn Try.runUnderlying47 Try.sizeOf9 rfl rfl | exact Ex.idxS Try.runUnderlying47 Try.sizeOf9 rfl rfl | exact Ex.idx Try.runUnderlying47 Try.sizeOf9 rfl rfl (by omega) (by omega)) rfl ?_
        refine O.guard_t rfl rfl ?_
        refine O.ex (by first | exact Ex.loadP Try.isAgg9 rfl | exact Ex.loadR Try.isAgg9 rfl | exact Ex.loadIn1 Try.isAgg9 rfl (Holds.to (by assumption))) rfl ?_
        refine O.guard_t rfl rfl ?_
        refine O.ex (Ex.move rfl) rfl ?_
        refine O.guard_t rfl rfl ?_
        refine O.ex (Ex.neqS rfl rfl) rfl ?_
        refine O.ex (Ex.pick_f rfl rfl) rfl ?_
        refine O.nil ?_
        refine hK22 _ _ _ ?_
        refine W.known_f rfl (by first | rfl | (refine decide_eq_false ?_; omega) | (refine decide_eq_false ?_; intro hh; exact hh g2) | (refine decide_eq_false ?_; exact fun hh => hh rfl) | (refine decide_eq_true ?_; omega)) ?_
        refine W.skip ?_
        refine hK21 _ _ _ ?_
        refine W.seq (fun K23 hK23 => ?_)
        refine W.region ?_
        refine O.ex (by first | exact Ex.loadP Try.isAgg3 rfl | exact Ex.loadR Try.isAgg3 rfl | exact Ex.loadIn1 Try.isAgg3 rfl (Holds.to (by assumption))) rfl ?_
        refine O.ex (by first | exact Ex.addI rfl rfl | exact Ex.add rfl rfl rfl) rfl ?_
        first | refine O.storeP Try.sizeOf3 rfl rfl (fun w H => ?_) | refine O.storeR Try.sizeOf3 rfl rfl (fun w H => ?_)
        refine O.nil ?_
        refine hK23 _ _ _ ?_
        refine W.seq (fun K24 hK24 => ?_)
        refine W.region ?_
        refine O.ex (by first | exact Ex.loadP Try.isAgg3 rfl | exact Ex.loadR Try.isAgg3 rfl | exact Ex.loadIn1 Try.isAgg3 rfl (Holds.to (by assumption))) rfl ?_
        refine O.ex (by first | exact Ex.loadP Try.isAgg5 rfl | exact Ex.loadR Try.isAgg5 rfl | exact Ex.loadIn1 Try.isAgg5 rfl (Holds.to (by assumption))) rfl ?_
        refine O.ex (by first | exact Ex.convToI Try.runUnderlying5 Try.runUnderlying3 rfl | exact Ex.convW Try.runUnderlying5 Try.runUnderlying3 rfl) rfl ?_
        refine O.ex (Ex.geq rfl rfl) rfl ?_
        refine O.nil ?_
        refine hK24 _ _ _ ?_
        first | refine W.cond_p rfl (fun h83 => ?_) (fun h83 => ?_) | refine W.cond_b rfl (fun h83 => ?_) (fun h83 => ?_)
        · refine W.exit ?_
          exact ⟨_, Holds.to (by assumption), fun w H => .inr ⟨rfl, ((sel sb i).length : Int) + 1, ⟨by omega, by omega⟩, Holds.to (by assumption)⟩⟩
        · refine W.skip ?_
          exact ⟨_, Holds.to (by assumption), fun w H => .inl ⟨rfl, .inr (by omega), by rw [hs1]; exact Holds.to (by assumption)⟩⟩
      · intro i w hi hno hφ H
        rw [hg.lv] at hi
        have hb : ¬ sb.getD i false = true := fun h => hno ((hg.hasI i hi).2 ⟨hi, h⟩)
        rw [sel_succ_f hb]
        exact ⟨hφ, H⟩
      rw [hg.lv]
      rintro _ w (⟨hφ, H⟩ | ⟨kk, ⟨hk1, hk2⟩, H⟩)
      all_goals refine rangeEnd (Holds.to (by assumption)) (by nofun) (fun w H => ?_)
      · skip
        refine hK18 _ _ _ ?_
        refine W.seq (fun K25 hK25 => ?_)
        refine W.region ?_
        refine O.ex (by first | exact Ex.loadP Try.isAgg3 rfl | exact Ex.loadR Try.isAgg3 rfl | exact Ex.loadIn1 Try.isAgg3 rfl (Holds.to (by assumption))) rfl ?_
        refine O.ex (by first | exact Ex.loadP Try.isAgg52 rfl | exact Ex.loadR Try.isAgg52 rfl | exact Ex.loadIn1 Try.isAgg52 rfl (Holds.to (by assumption))) rfl ?_
        refine O.ex (by first | exact Ex.lenR Try.runUnderlying52 rfl | exact Ex.lenIn Try.runUnderlying52 rfl | exact Ex.lenL Try.runUnderlying52 rfl | exact Ex.len rfl Try.runUnderlying52 rfl) rfl ?_
        refine O.ex (by first | exact Ex.loadP Try.isAgg5 rfl | exact Ex.loadR Try.isAgg5 rfl | exact Ex.loadIn1 Try.isAgg5 rfl (Holds.to (by assumption))) rfl ?_
        refine O.ex (by first | exact Ex.convToI Try.runUnderlying5 Try.runUnderlying3 rfl | exact Ex.convW Try.runUnderlying5 Try.runUnderlying3 rfl) rfl ?_
        refine O.ex (Ex.maxI rfl rfl) rfl ?_
        refine O.ex (Ex.minI rfl rfl) rfl ?_
        refine O.ex (Ex.eqlI rfl rfl) rfl ?_
        refine O.ex (Ex.move rfl) rfl ?_
        refine O.known (t := 92) (c := true) rfl (by first | rfl | (refine decide_eq_false ?_; omega) | (refine decide_eq_false ?_; intro hh; exact hh g2) | (refine decide_eq_false ?_; exact fun hh => hh rfl) | (refine decide_eq_true ?_; omega)) ?_
        refine O.guard_f rfl rfl rfl rfl ?_
        refine O.guard_f rfl rfl rfl rfl ?_
        refine O.guard_f rfl rfl rfl rfl ?_
        refine O.guard_f rfl rfl rfl rfl ?_
        refine O.guard_u rfl rfl rfl ?_
        refine O.guard_u rfl rfl rfl ?_
        refine O.guard_f rfl rfl rfl rfl ?_
        refine O.ex (Ex.pick_t rfl rfl) rfl ?_
        first | refine O.storeP Try.sizeOf4 rfl rfl (fun w H => ?_) | refine O.storeR Try.sizeOf4 rfl rfl (fun w H => ?_)
        refine O.nil ?_
        refine hK25 _ _ _ ?_
        refine W.ret ?_
        try dsimp only [thenQ, blockQ, retQ]
        first | refine ⟨_, ⟨_, _, _, rfl, rfl, loadVar_one Try.isAgg4, rfl⟩, ?_⟩ | (refine retD_mark ?_; intro w H; refine ⟨_, ⟨_, _, _, rfl, rfl, loadVar_one Try.isAgg4, rfl⟩, ?_⟩) | (refine retD_mark2 ?_; intro w H; refine ⟨_, ⟨_, _, _, rfl, rfl, loadVar_one Try.isAgg4, rfl⟩, ?_⟩)
        exact ⟨rfl, Holds.base_below (L := []) (Holds.to (by assumption))⟩
      · skip
        refine W.exit ?_
        refine hK18 _ _ _ ?_
        refine W.seq (fun K26 hK26 => ?_)
        refine W.region ?_
        refine O.ex (by first | exact Ex.loadP Try.isAgg3 rfl | exact Ex.loadR Try.isAgg3 rfl | exact Ex.loadIn1 Try.isAgg3 rfl (Holds.to (by assumption))) rfl ?_
        refine O.ex (by first | exact Ex.loadP Try.isAgg52 rfl | exact Ex.loadR Try.isAgg52 rfl | exact Ex.loadIn1 Try.isAgg52 rfl (Holds.to (by assumption))) rfl ?_
        refine O.ex (by first | exact Ex.lenR Try.runUnderlying52 rfl | exact Ex.lenIn Try.runUnderlying52 rfl | exact Ex.lenL Try.runUnderlying52 rfl | exact Ex.len rfl Try.runUnderlying52 rfl) rfl ?_
        refine O.ex (by first | exact Ex.loadP Try.isAgg5 rfl | exact Ex.loadR Try.isAgg5 rfl | exact Ex.loadIn1 Try.isAgg5 rfl (Holds.to (by assumption))) rfl ?_
        refine O.ex (by first | exact Ex.convToI Try.runUnderlying5 Try.runUnderlying3 rfl | exact Ex.convW Try.runUnderlying5 Try.runUnderlying3 rfl) rfl ?_
        refine O.ex (Ex.maxI rfl rfl) rfl ?_
        refine O.ex (Ex.minI rfl rfl) rfl ?_
        refine O.ex (Ex.eqlI rfl rfl) rfl ?_
        refine O.ex (Ex.move rfl) rfl ?_
        refine O.known (t := 92) (c := true) rfl (by first | rfl | (refine decide_eq_false ?_; omega) | (refine decide_eq_false ?_; intro hh; exact hh g2) | (refine decide_eq_false ?_; exact fun hh => hh rfl) | (refine decide_eq_true ?_; omega)) ?_
        refine O.guard_f rfl rfl rfl rfl ?_
        refine O.guard_f rfl rfl rfl rfl ?_
        refine O.guard_f rfl rfl rfl rfl ?_
        refine O.guard_f rfl rfl rfl rfl ?_
        refine O.guard_u rfl rfl rfl ?_
        refine O.guard_u rfl rfl rfl ?_
        refine O.guard_f rfl rfl rfl rfl ?_
        refine O.ex (Ex.pick_t rfl rfl) rfl ?_
        first | refine O.storeP Try.sizeOf4 rfl rfl (fun w H => ?_) | refine O.storeR Try.sizeOf4 rfl rfl (fun w H => ?_)
        refine O.nil ?_
        refine hK26 _ _ _ ?_
        refine W.ret ?_
        try dsimp only [thenQ, blockQ, retQ]
        first | refine ⟨_, ⟨_, _, _, rfl, rfl, loadVar_one Try.isAgg4, rfl⟩, ?_⟩ | (refine retD_mark ?_; intro w H; refine ⟨_, ⟨_, _, _, rfl, rfl, loadVar_one Try.isAgg4, rfl⟩, ?_⟩) | (refine retD_mark2 ?_; intro w H; refine ⟨_, ⟨_, _, _, rfl, rfl, loadVar_one Try.isAgg4, rfl⟩, ?_⟩)
        exact ⟨rfl, Holds.base_below (L := []) (Holds.to (by assumption))⟩
theorem stampGoes_row {w0 : World} {lv sv : Value} {xs : List ByteArray} {sb : List Bool} {m : Int} (hx : SlIn w0 1 (fun s : ByteArray => [.string s]) lv xs) (g1 : ∀ x ∈ xs, x.size ≤ maxLen) (hlx : xs.length ≤ maxLen) (hsb : SlIn w0 1 (fun b : Bool => [.bool b]) sv sb) (g2 : ∀ x ∈ sb, True) (hlb : sb.length ≤ maxLen) (hm : (Lit.int .u8 m).wf = true) :
    CT Try.prog 5 [lv, sv, .int .u8 m] w0 fun u w' => u = .bool true ∧ RowKit.Below w0.heap.size w0 w' :=
  stampGoes_ct hx hsb hm (by unfold maxLen at hlx; omega) (by unfold maxLen at hlb; omega)
end Go.Proofs.Ytikdblejkmaloaa
