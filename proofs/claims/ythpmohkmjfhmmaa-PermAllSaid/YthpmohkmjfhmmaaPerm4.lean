import Derived.Test.YthpmohkmjfhmmaaPerm3
--ARR
namespace Go.Proofs.Ythpmohkmjfhmmaa
open Go.Rr Go
set_option linter.unusedVariables false
abbrev drawF (b5 b3 : Nat) : Value := .func (.func 58) #[] #[.pointer (some ⟨b5, 0, none⟩), .pointer (some ⟨b3, 0, none⟩)]
/-- What is left, and the number, where the iterator keeps them. -/
def rowO (b3 b5 : Nat) (va : Value) (left : List Int) (num : Nat) : HProp := star [pt b5 (.cells #[va] 22 (0, 0)), arr 3 (Value.int .i64) va left, pt b3 (.cells #[.int .u64 (num : Int)] 30 (0, 0))]
theorem rowO_open {w : World} {b3 b5 : Nat} {va : Value} {left : List Int} {num : Nat} {L : List HProp} : Holds w (rowO b3 b5 va left num :: L) ↔ Holds w (pt b5 (.cells #[va] 22 (0, 0)) :: arr 3 (Value.int .i64) va left :: pt b3 (.cells #[.int .u64 (num : Int)] 30 (0, 0)) :: L) := by
  unfold rowO
  simp only [Holds.star, List.cons_append, List.nil_append]
def rowS (b3 b5 : Nat) (st : List Int × Nat) : HProp := hex fun va => rowO b3 b5 va st.1 st.2
theorem rowS_open {w : World} {b3 b5 : Nat} {st : List Int × Nat} {L : List HProp} : Holds w (rowS b3 b5 st :: L) ↔ ∃ va, Holds w (rowO b3 b5 va st.1 st.2 :: L) := by
  unfold rowS
  exact Holds.hex
theorem draw_ct {w : World} {b3 b5 : Nat} {left : List Int} {num : Nat} {L : List HProp} (h0 : 0 < left.length) (h24 : left.length ≤ 24) (hn : num < 18446744073709551616) (H : Holds w (rowS b3 b5 (left, num) :: L)) :
    CT Try.prog 58 [.pointer (some ⟨b5, 0, none⟩), .pointer (some ⟨b3, 0, none⟩)] w fun u w' => u = .int .i64 (left.getD (num % left.length) default) ∧ Holds w' (rowS b3 b5 (left.eraseIdx (num % left.length), num / left.length) :: L) := by
  obtain ⟨va, H⟩ := rowS_open.1 H
  have H := rowO_open.1 H
  dsimp only at H
  have hlt : num % left.length < left.length := Nat.mod_lt _ h0
  have hdv : num / left.length ≤ num := Nat.div_le_self _ _
  obtain ⟨k, hk⟩ : ∃ k, k = left.length := ⟨_, rfl⟩
  obtain ⟨at_, hat⟩ : ∃ a, a = num % left.length := ⟨_, rfl⟩
  obtain ⟨dv, hdvv⟩ : ∃ d, d = num / left.length := ⟨_, rfl⟩
  rw [← hat, ← hdvv]
  rw [← hat] at hlt
  rw [← hdvv] at hdv
  refine CT.enter (N := 26) Try.func58 rfl rfl rfl rfl ?_
  refine W.seq (fun K0 hK0 => ?_)
  refine W.region ?_
  refine O.ex (Ex.assign rfl) rfl ?_
  refine O.nil ?_
  refine hK0 _ _ _ ?_
  refine W.seq (fun K1 hK1 => ?_)
  refine W.region ?_
  refine O.ex (by first | exact Ex.loadP Try.isAgg22 rfl | exact Ex.loadQ Try.isAgg22 rfl | exact Ex.loadMh Try.isAgg22 rfl | exact Ex.loadR Try.isAgg22 rfl | exact Ex.loadIn1 Try.isAgg22 rfl (Holds.to (by assumption)) | exact Ex.loadM Try.isAgg22 rfl | exact Ex.loadVc Try.isAgg22 rfl) rfl ?_
  refine O.ex (by first | exact Ex.lenR Try.runUnderlying22 rfl | exact Ex.lenIn Try.runUnderlying22 rfl | exact Ex.lenL Try.runUnderlying22 rfl | exact Ex.len rfl Try.runUnderlying22 rfl) rfl ?_
  refine O.ex (Ex.convI (r := ((left.length : Nat) : Int)) Try.runUnderlying3 Try.runUnderlying30 rfl (by rw [wrap64]; omega)) rfl ?_
  refine O.ex (Ex.assign rfl) rfl ?_
  refine O.nil ?_
  refine hK1 _ _ _ ?_
  refine W.seq (fun K2 hK2 => ?_)
  refine W.region ?_
  refine O.ex (by first | exact Ex.loadP Try.isAgg30 rfl | exact Ex.loadQ Try.isAgg30 rfl | exact Ex.loadMh Try.isAgg30 rfl | exact Ex.loadR Try.isAgg30 rfl | exact Ex.loadIn1 Try.isAgg30 rfl (Holds.to (by assumption)) | exact Ex.loadM Try.isAgg30 rfl | exact Ex.loadVc Try.isAgg30 rfl) rfl ?_
  refine O.ex (Ex.move rfl) rfl ?_
  refine O.ex (Ex.rem (r := ((num % left.length : Nat) : Int)) rfl rfl (by omega) (show ((num : Nat) : Int).tmod ((left.length : Nat) : Int) = ((num % left.length : Nat) : Int) from rfl)) rfl ?_
  rw [← hat]
  refine O.ex (by first | exact Ex.convToI Try.runUnderlying30 Try.runUnderlying3 rfl | exact Ex.convW Try.runUnderlying30 Try.runUnderlying3 rfl) rfl ?_
  refine O.ex (Ex.assign rfl) rfl ?_
  refine O.nil ?_
  refine hK2 _ _ _ ?_
  refine W.seq (fun K3 hK3 => ?_)
  refine W.region ?_
  refine O.ex (by first | exact Ex.loadP Try.isAgg30 rfl | exact Ex.loadQ Try.isAgg30 rfl | exact Ex.loadMh Try.isAgg30 rfl | exact Ex.loadR Try.isAgg30 rfl | exact Ex.loadIn1 Try.isAgg30 rfl (Holds.to (by assumption)) | exact Ex.loadM Try.isAgg30 rfl | exact Ex.loadVc Try.isAgg30 rfl) rfl ?_
  refine O.ex (Ex.move rfl) rfl ?_
  refine O.ex (Ex.quo (r := ((num / left.length : Nat) : Int)) rfl rfl (by omega) (by rw [wrap64, show ((num : Nat) : Int).tdiv ((left.length : Nat) : Int) = ((num / left.length : Nat) : Int) from rfl, ← hdvv]; omega)) rfl ?_
  rw [← hdvv]
  first | refine O.storeP Try.sizeOf30 rfl rfl (fun w H => ?_) | refine O.storeR Try.sizeOf30 rfl rfl (fun w H => ?_) | refine O.storeM Try.sizeOf30 rfl rfl (fun w H => ?_) | refine O.storeVc Try.sizeOf30 rfl rfl (fun w H => ?_)
  refine O.nil ?_
  refine hK3 _ _ _ ?_
  refine W.seq (fun K4 hK4 => ?_)
  refine W.region ?_
  refine O.ex (by first | exact Ex.loadP Try.isAgg22 rfl | exact Ex.loadQ Try.isAgg22 rfl | exact Ex.loadMh Try.isAgg22 rfl | exact Ex.loadR Try.isAgg22 rfl | exact Ex.loadIn1 Try.isAgg22 rfl (Holds.to (by assumption)) | exact Ex.loadM Try.isAgg22 rfl | exact Ex.loadVc Try.isAgg22 rfl) rfl ?_
  refine O.ex (Ex.move rfl) rfl ?_
  refine O.ex (by first | exact Ex.idxR Try.runUnderlying22 Try.sizeOf3 rfl rfl | exact Ex.idxIn Try.runUnderlying22 Try.sizeOf3 rfl rfl | exact Ex.idxS Try.runUnderlying22 Try.sizeOf3 rfl rfl | exact Ex.idx Try.runUnderlying22 Try.sizeOf3 rfl rfl (by omega) (by omega)) rfl ?_
  refine O.ex (by first | exact Ex.loadR Try.isAgg3 rfl | exact Ex.loadIn1 Try.isAgg3 rfl (Holds.to (by assumption)) | exact Ex.loadP Try.isAgg3 rfl | exact Ex.loadMh Try.isAgg3 rfl | exact Ex.loadM Try.isAgg3 rfl | exact Ex.loadVc Try.isAgg3 rfl | exact Ex.loadQ Try.isAgg3 rfl) rfl ?_
  refine O.ex (Ex.assign rfl) rfl ?_
  refine O.nil ?_
  refine hK4 _ _ _ ?_
  refine W.seq (fun K5 hK5 => ?_)
  refine W.region ?_
  refine O.ex (by first | exact Ex.loadP Try.isAgg22 rfl | exact Ex.loadQ Try.isAgg22 rfl | exact Ex.loadMh Try.isAgg22 rfl | exact Ex.loadR Try.isAgg22 rfl | exact Ex.loadIn1 Try.isAgg22 rfl (Holds.to (by assumption)) | exact Ex.loadM Try.isAgg22 rfl | exact Ex.loadVc Try.isAgg22 rfl) rfl ?_
  refine O.ex (Ex.move rfl) rfl ?_
  refine O.ex (Ex.move rfl) rfl ?_
  refine O.ex (by first | exact Ex.addI rfl rfl | exact Ex.add rfl rfl rfl) rfl ?_
  refine O.callF Try.call47 rfl rfl (CT.mono (del_ct (i := (at_ : Int)) (Holds.to (by assumption)) (by omega) (by omega) (by omega)) ?_)
  rintro _ w ⟨hvd, H⟩
  rw [Int.toNat_natCast] at H
  first | refine O.storeP Try.sizeOf22 rfl rfl (fun w H => ?_) | refine O.storeR Try.sizeOf22 rfl rfl (fun w H => ?_) | refine O.storeM Try.sizeOf22 rfl rfl (fun w H => ?_) | refine O.storeVc Try.sizeOf22 rfl rfl (fun w H => ?_)
  refine O.nil ?_
  refine hK5 _ _ _ ?_
  refine W.seq (fun K6 hK6 => ?_)
  refine W.region ?_
  refine O.ex (Ex.move rfl) rfl ?_
  refine O.ex (Ex.assign rfl) rfl ?_
  refine O.nil ?_
  refine hK6 _ _ _ ?_
  refine W.ret ?_
  try dsimp only [thenQ, blockQ, retQ]
  first | refine ⟨_, ⟨_, _, rfl, rfl, rfl⟩, ?_⟩ | (refine retD_mark ?_; intro w H; refine ⟨_, ⟨_, _, rfl, rfl, rfl⟩, ?_⟩) | (refine retD_mark2 ?_; intro w H; refine ⟨_, ⟨_, _, rfl, rfl, rfl⟩, ?_⟩)
  exact ⟨by simp only [oneOf, Int.toNat_natCast], rowS_open.2 ⟨_, rowO_open.2 (Holds.to (by assumption))⟩⟩
def capR (b5 b6 b3 : Nat) : HProp := pt b6 (.cells #[drawF b5 b3] 60 (0, 0))
theorem row_ct {w : World} {n : Int} {a : Nat} {L : List HProp} (H : Holds w L) :
    CT Try.prog 45 [.int .i64 n, .int .u64 (a : Int)] w fun u w' => ∃ b3 b5 b6, u = .func (.func 59) #[] #[.pointer (some ⟨b5, 0, none⟩), .pointer (some ⟨b6, 0, none⟩)] ∧ Holds w' (rowS b3 b5 (rng (hl n).toNat, a) :: capR b5 b6 b3 :: L) := by
  refine CT.enter (N := 11) Try.func45 rfl rfl rfl rfl ?_
  refine W.seq (fun K0 hK0 => ?_)
  refine W.region ?_
  refine O.boxP rfl (fun b3 w H => ?_)
  refine O.ex (Ex.assign rfl) rfl ?_
  refine O.nil ?_
  refine hK0 _ _ _ ?_
  refine W.seq (fun K1 hK1 => ?_)
  refine W.region ?_
  refine O.ex (Ex.move rfl) rfl ?_
  refine O.callF Try.call23 rfl rfl (CT.mono (rising_ct (Holds.to (by assumption))) ?_)
  rintro _ w ⟨hva, H⟩
  refine O.allocP Try.zeroValue22 (fun b5 w H => ?_)
  first | refine O.storeP Try.sizeOf22 rfl rfl (fun w H => ?_) | refine O.storeR Try.sizeOf22 rfl rfl (fun w H => ?_) | refine O.storeM Try.sizeOf22 rfl rfl (fun w H => ?_) | refine O.storeVc Try.sizeOf22 rfl rfl (fun w H => ?_)
  refine O.nil ?_
  refine hK1 _ _ _ ?_
  refine W.seq (fun K2 hK2 => ?_)
  refine W.region ?_
  refine O.ex (Ex.makeFunc rfl rfl) rfl ?_
  refine O.allocP Try.zeroValue60 (fun b6 w H => ?_)
  first | refine O.storeP Try.sizeOf60 rfl rfl (fun w H => ?_) | refine O.storeR Try.sizeOf60 rfl rfl (fun w H => ?_) | refine O.storeM Try.sizeOf60 rfl rfl (fun w H => ?_) | refine O.storeVc Try.sizeOf60 rfl rfl (fun w H => ?_)
  refine O.nil ?_
  refine hK2 _ _ _ ?_
  refine W.seq (fun K3 hK3 => ?_)
  refine W.region ?_
  refine O.ex (Ex.makeFunc rfl rfl) rfl ?_
  refine O.ex (Ex.assign rfl) rfl ?_
  refine O.nil ?_
  refine hK3 _ _ _ ?_
  refine W.ret ?_
  try dsimp only [thenQ, blockQ, retQ]
  first | refine ⟨_, ⟨_, _, rfl, rfl, rfl⟩, ?_⟩ | (refine retD_mark ?_; intro w H; refine ⟨_, ⟨_, _, rfl, rfl, rfl⟩, ?_⟩) | (refine retD_mark2 ?_; intro w H; refine ⟨_, ⟨_, _, rfl, rfl, rfl⟩, ?_⟩)
  exact ⟨b3, b5, b6, rfl, rowS_open.2 ⟨_, rowO_open.2 (Holds.to (by assumption))⟩⟩
theorem dr_num (n a : Nat) : ∀ i, (dr n a i).2 ≤ a
  | 0 => Nat.le_refl _
  | i + 1 => Nat.le_trans (Nat.div_le_self _ _) (dr_num n a i)
/-- What the iterator tells: the ranks, and who has them. -/
theorem row2_ct {w : World} {b3 b5 b6 n a : Nat} {fv : Value} {J : Nat → List HProp} {φ : Nat → Prop} {S : World → Prop} (hn : n ≤ 24) (ha : a < 18446744073709551616) (hφ : φ 0)
    (H : Holds w (rowS b3 b5 (dr n a 0) :: capR b5 b6 b3 :: J 0))
    (hy : ∀ (i : Nat) w, i < n → φ i → Holds w (rowS b3 b5 (dr n a (i + 1)) :: capR b5 b6 b3 :: J i) →
      VT Try.prog fv [.int .i64 (i : Int), .int .i64 (drV n a i)] w fun u w' => (u = .bool true ∧ φ (i + 1) ∧ Holds w' (rowS b3 b5 (dr n a (i + 1)) :: capR b5 b6 b3 :: J (i + 1))) ∨ (u = .bool false ∧ S w')) :
    CT Try.prog 59 [fv, .pointer (some ⟨b5, 0, none⟩), .pointer (some ⟨b6, 0, none⟩)] w fun _ w' => (φ n ∧ Holds w' (rowS b3 b5 (dr n a n) :: capR b5 b6 b3 :: J n)) ∨ S w' := by
  refine CT.enter (N := 16) Try.func59 rfl rfl rfl rfl ?_
  refine W.seq (fun K0 hK0 => ?_)
  refine W.region ?_
  refine O.ex (Ex.assign rfl) rfl ?_
  refine O.nil ?_
  refine hK0 _ _ _ ?_
  refine W.block ?_
  refine W.loop (σ := Nat) (fun i => [(0, fv), (1, .pointer (some ⟨b5, 0, none⟩)), (2, .pointer (some ⟨b6, 0, none⟩)), (4, .int .i64 (i : Int))]) (fun i ds w => ds = [] ∧ i ≤ n ∧ φ i ∧ Holds w (rowS b3 b5 (dr n a i) :: capR b5 b6 b3 :: J i)) (fun i => n - i) 0 ⟨rfl, rfl, rfl, rfl, trivial⟩ ⟨rfl, by omega, hφ, Holds.to (by assumption)⟩ ?_
  clear H
  rintro i _ w ⟨rfl, hi, hφi, H⟩
  have hlen := dr_len n a i hi
  have hnum := dr_num n a i
  obtain ⟨va, H⟩ := rowS_open.1 H
  have H := rowO_open.1 H
  refine W.seq (fun K1 hK1 => ?_)
  refine W.seq (fun K2 hK2 => ?_)
  refine W.region ?_
  refine O.ex (by first | exact Ex.loadP Try.isAgg22 rfl | exact Ex.loadQ Try.isAgg22 rfl | exact Ex.loadMh Try.isAgg22 rfl | exact Ex.loadR Try.isAgg22 rfl | exact Ex.loadIn1 Try.isAgg22 rfl (Holds.to (by assumption)) | exact Ex.loadM Try.isAgg22 rfl | exact Ex.loadVc Try.isAgg22 rfl) rfl ?_
  refine O.ex (by first | exact Ex.lenR Try.runUnderlying22 rfl | exact Ex.lenIn Try.runUnderlying22 rfl | exact Ex.lenL Try.runUnderlying22 rfl | exact Ex.len rfl Try.runUnderlying22 rfl) rfl ?_
  refine O.ex (Ex.gtr rfl rfl) rfl ?_
  refine O.nil ?_
  refine hK2 _ _ _ ?_
  first | refine W.cond_p rfl (fun hlt => ?_) (fun hge => ?_) | refine W.cond_b rfl (fun hlt => ?_) (fun hge => ?_)
  · refine W.skip ?_
    refine hK1 _ _ _ ?_
    refine W.seq (fun K3 hK3 => ?_)
    refine W.block ?_
    refine W.seq (fun K4 hK4 => ?_)
    refine W.region ?_
    refine O.ex (Ex.move rfl) rfl ?_
    refine O.ex (Ex.move rfl) rfl ?_
    have H := (rowS_open (b3 := b3) (b5 := b5) (st := dr n a i)).2 ⟨va, rowO_open.2 (Holds.to (by assumption))⟩
    have H : Holds w (capR b5 b6 b3 :: rowS b3 b5 (dr n a i) :: J i) := Holds.to H
    unfold capR at H
    refine O.ex (by first | exact Ex.loadP Try.isAgg60 rfl | exact Ex.loadQ Try.isAgg60 rfl | exact Ex.loadMh Try.isAgg60 rfl | exact Ex.loadR Try.isAgg60 rfl | exact Ex.loadIn1 Try.isAgg60 rfl (Holds.to (by assumption)) | exact Ex.loadM Try.isAgg60 rfl | exact Ex.loadVc Try.isAgg60 rfl) rfl ?_
    refine O.callVT rfl rfl rfl (VT.mono (VT.fn Try.call58 (draw_ct (b3 := b3) (b5 := b5) (left := (dr n a i).1) (num := (dr n a i).2) (by omega) (by omega) (by omega) (Holds.to (by assumption)))) ?_)
    rintro _ w ⟨rfl, H⟩
    refine O.callVT rfl rfl rfl (VT.mono (hy i w (by omega) hφi (Holds.to (by assumption))) ?_)
    rintro _ w hh
    obtain (⟨rfl, hφ2, H⟩ | ⟨rfl, H⟩) := hh
    · refine O.ex (by first | exact Ex.notD rfl | exact Ex.not rfl) rfl ?_
      refine O.nil ?_
      refine hK4 _ _ _ ?_
      refine W.known_f rfl (by first | rfl | decide | (simp; done) | omega) ?_
      refine W.skip ?_
      refine hK3 _ _ _ ?_
      refine W.region ?_
      refine O.ex (Ex.move rfl) rfl ?_
      refine O.ex (by first | exact Ex.addI rfl rfl | exact Ex.add rfl rfl rfl) rfl ?_
      refine O.ex (Ex.assign rfl) rfl ?_
      refine O.nil ?_
      exact ⟨i + 1, ⟨rfl, rfl, rfl, rfl, trivial⟩, ⟨rfl, by omega, hφ2, Holds.to (by assumption)⟩, by omega⟩
    · refine O.ex (by first | exact Ex.notD rfl | exact Ex.not rfl) rfl ?_
      refine O.nil ?_
      refine hK4 _ _ _ ?_
      refine W.known_t rfl (by first | rfl | decide | (simp; done) | omega) ?_
      refine W.ret ?_
      try dsimp only [thenQ, blockQ, retQ]
      first | refine ⟨_, rfl, ?_⟩ | (refine retD_mark ?_; intro w H; refine ⟨_, rfl, ?_⟩) | (refine retD_mark2 ?_; intro w H; refine ⟨_, rfl, ?_⟩)
      first
      | exact .inr H
      | (obtain rfl : i = n := by omega
         exact .inl ⟨hφi, Holds.to ((rowS_open (b3 := b3) (b5 := b5) (st := dr i a i)).2 ⟨va, rowO_open.2 (Holds.to (by assumption))⟩)⟩)
  · refine W.exit ?_
    try dsimp only [thenQ, blockQ, retQ]
    first | refine ⟨_, rfl, ?_⟩ | (refine retD_mark ?_; intro w H; refine ⟨_, rfl, ?_⟩) | (refine retD_mark2 ?_; intro w H; refine ⟨_, rfl, ?_⟩)
    first
    | exact .inr H
    | (obtain rfl : i = n := by omega
       exact .inl ⟨hφi, Holds.to ((rowS_open (b3 := b3) (b5 := b5) (st := dr i a i)).2 ⟨va, rowO_open.2 (Holds.to (by assumption))⟩)⟩)
theorem of_ct {w : World} {n : Int} {a : Nat} {L : List HProp} (ha : a < 18446744073709551616) (H : Holds w L) :
    CT Try.prog 20 [.int .i64 n, .int .u64 (a : Int)] w fun u w' => u.oneCell' = true ∧ Holds w' (arr 3 (Value.int .i64) u (ofN (hl n).toNat a) :: L) := by
  obtain ⟨h0, h1⟩ := hl_rng n
  obtain ⟨k, hk⟩ : ∃ k, k = (hl n).toNat := ⟨_, rfl⟩
  have hdl := drawn_len k a
  rw [← hk]
  refine CT.enter (N := 21) Try.func20 rfl rfl rfl rfl ?_
  refine W.seq (fun K0 hK0 => ?_)
  refine W.region ?_
  refine O.ex (Ex.assign rfl) rfl ?_
  refine O.nil ?_
  refine hK0 _ _ _ ?_
  refine W.seq (fun K1 hK1 => ?_)
  refine W.region ?_
  refine O.ex (Ex.move rfl) rfl ?_
  refine O.callF Try.call44 rfl rfl (CT.mono (held_ct (Holds.to (by assumption))) ?_)
  rintro _ w ⟨rfl, H⟩
  refine O.makeR (0 : Int) (e := Value.int .i64) (bt := 8) Try.runUnderlying22 Try.sizeOf3 Try.zeroValue3 Try.typeInfo3 rfl rfl rfl (fun s10 w hs10 H => ?_)
  refine O.allocP Try.zeroValue22 (fun b5 w H => ?_)
  first | refine O.storeP Try.sizeOf22 rfl rfl (fun w H => ?_) | refine O.storeR Try.sizeOf22 rfl rfl (fun w H => ?_) | refine O.storeM Try.sizeOf22 rfl rfl (fun w H => ?_) | refine O.storeVc Try.sizeOf22 rfl rfl (fun w H => ?_)
  refine O.nil ?_
  refine hK1 _ _ _ ?_
  refine W.seq (fun K2 hK2 => ?_)
  refine W.seq (fun K3 hK3 => ?_)
  refine W.region ?_
  refine O.ex (Ex.move rfl) rfl ?_
  refine O.ex (Ex.move rfl) rfl ?_
  refine O.callF Try.call45 rfl rfl (CT.mono (row_ct (n := n) (a := a) (Holds.to (by assumption))) ?_)
  rintro _ w ⟨c3, c5, c6, rfl, H⟩
  refine O.nil ?_
  refine hK3 _ _ _ ?_
  refine W.block ?_
  rw [← hk] at H
  have H : Holds w (slV b5 22 3 (Value.int .i64) (invS (drawn k a) k 0) :: rowS c3 c5 (rng k, a) :: capR c5 c6 c3 :: L) := slV_open.2 ⟨_, Holds.to (by assumption)⟩
  refine W.rangeFunc rfl Try.call59 H ?_
  rintro LR kk D w hLR H
  refine CT.mono (row2_ct (n := k) (a := a) (J := fun i => LR .ready none :: dblk D :: slV b5 22 3 (Value.int .i64) (invS (drawn k a) k i) :: L) (φ := fun _ => True) (S := fun _ => False) (by omega) ha trivial (Holds.to (by assumption)) ?_) ?_
  · intro i w hi _ H
    obtain ⟨va, H⟩ := slV_open.1 (Holds.to (by assumption))
    have hsl := invS_len (drawn k a) k i
    obtain ⟨v0, v1⟩ := dr_sub k a i _ (drV_mem k a i hi)
    refine VT.round hLR (Holds.to (by assumption)) rfl rfl ?_
    refine W.seq (fun K4 hK4 => ?_)
    refine W.region ?_
    refine O.ex (Ex.assign rfl) rfl ?_
    refine O.nil ?_
    refine hK4 _ _ _ ?_
    refine W.region ?_
    refine O.ex (Ex.assign rfl) rfl ?_
    refine O.nil ?_
    refine ⟨_, Holds.to (by assumption), fun w H => ?_⟩
    refine W.block ?_
    refine W.region ?_
    refine O.ex (by first | exact Ex.loadP Try.isAgg22 rfl | exact Ex.loadQ Try.isAgg22 rfl | exact Ex.loadMh Try.isAgg22 rfl | exact Ex.loadR Try.isAgg22 rfl | exact Ex.loadIn1 Try.isAgg22 rfl (Holds.to (by assumption)) | exact Ex.loadM Try.isAgg22 rfl | exact Ex.loadVc Try.isAgg22 rfl) rfl ?_
    refine O.ex (Ex.move rfl) rfl ?_
    refine O.ex (Ex.move rfl) rfl ?_
    refine O.ex (by first | exact Ex.idxR Try.runUnderlying22 Try.sizeOf3 rfl rfl | exact Ex.idxIn Try.runUnderlying22 Try.sizeOf3 rfl rfl | exact Ex.idxS Try.runUnderlying22 Try.sizeOf3 rfl rfl | exact Ex.idx Try.runUnderlying22 Try.sizeOf3 rfl rfl (by omega) (by omega)) rfl ?_
    first | refine O.storeP Try.sizeOf3 rfl rfl (fun w H => ?_) | refine O.storeR Try.sizeOf3 rfl rfl (fun w H => ?_) | refine O.storeM Try.sizeOf3 rfl rfl (fun w H => ?_) | refine O.storeVc Try.sizeOf3 rfl rfl (fun w H => ?_)
    refine O.nil ?_
    rw [show (invS (drawn k a) k i).set (drV k a i).toNat (i : Int) = invS (drawn k a) k (i + 1) from by show _ = (invS (drawn k a) k i).set ((drawn k a).getD i default).toNat (i : Int); rw [drawn_get k a i hi]] at H
    have H := (slV_open (b := b5) (TS := 22) (T := 3) (e := Value.int .i64) (xs := invS (drawn k a) k (i + 1))).2 ⟨_, Holds.to (by assumption)⟩
    exact ⟨_, Holds.to (by assumption), fun w H => .inl ⟨rfl, trivial, Holds.to (by assumption)⟩⟩
  rintro _ w (⟨_, H⟩ | hf)
  rotate_left
  · exact hf.elim
  refine rangeEnd (Holds.to (by assumption)) (by nofun) (fun w H => ?_)
  obtain ⟨va, H⟩ := slV_open.1 (Holds.to (by assumption))
  refine hK2 _ _ _ ?_
  refine W.seq (fun K5 hK5 => ?_)
  refine W.region ?_
  refine O.ex (by first | exact Ex.loadP Try.isAgg22 rfl | exact Ex.loadQ Try.isAgg22 rfl | exact Ex.loadMh Try.isAgg22 rfl | exact Ex.loadR Try.isAgg22 rfl | exact Ex.loadIn1 Try.isAgg22 rfl (Holds.to (by assumption)) | exact Ex.loadM Try.isAgg22 rfl | exact Ex.loadVc Try.isAgg22 rfl) rfl ?_
  refine O.ex (Ex.assign rfl) rfl ?_
  refine O.nil ?_
  refine hK5 _ _ _ ?_
  refine W.ret ?_
  try dsimp only [thenQ, blockQ, retQ]
  first | refine ⟨_, ⟨_, _, rfl, rfl, rfl⟩, ?_⟩ | (refine retD_mark ?_; intro w H; refine ⟨_, ⟨_, _, rfl, rfl, rfl⟩, ?_⟩) | (refine retD_mark2 ?_; intro w H; refine ⟨_, ⟨_, _, rfl, rfl, rfl⟩, ?_⟩)
  refine ⟨arr_one (Holds.to (by assumption)), ?_⟩
  rw [show ofN k a = invS (drawn k a) k k from by unfold ofN invL; rw [hdl]]
  exact Holds.to (by assumption)
/-- Things that are less. -/
def cntLt (l : List Int) (v : Int) : Nat := l.countP fun x => decide (x < v)
theorem cntLt_step {l : List Int} (h : l.Nodup) (v : Int) : cntLt l (v + 1) = cntLt l v + if v ∈ l then 1 else 0 := by
  have key : ∀ l : List Int, l.countP (fun x => decide (x < v + 1)) = l.countP (fun x => decide (x < v)) + l.count v := by
    intro l
    induction l with
    | nil => rfl
    | cons a l ih =>
      rw [List.countP_cons, List.countP_cons, List.count_cons, ih]
      rcases Int.lt_trichotomy a v with h | h | h
      · rw [if_pos (by simpa using (show a < v + 1 by omega)), if_pos (by simpa using h), if_neg (by simp; omega)]; omega
      · subst h; rw [if_pos (by simp; omega), if_neg (by simp), if_pos (by simp)]; omega
      · rw [if_neg (by simp; omega), if_neg (by simp; omega), if_neg (by simp; omega)]; omega
  unfold cntLt
  rw [key, h.count]
theorem sorted_get : ∀ {l : List Int}, l.Pairwise (· < ·) → ∀ {v : Int}, v ∈ l → l.getD (cntLt l v) default = v
  | [], _, v, h => by simp at h
  | a :: l, hs, v, h => by
    have hs' := List.pairwise_cons.1 hs
    unfold cntLt
    rw [List.countP_cons]
    rcases List.mem_cons.1 h with rfl | h
    · have : l.countP (fun x => decide (x < v)) = 0 := by
        rw [List.countP_eq_zero]
        intro x hx
        have := hs'.1 x hx
        simp; omega
      rw [this, if_neg (by simp)]; rfl
    · have hav := hs'.1 v h
      rw [if_pos (by simpa using hav), List.getD_cons_succ]
      exact sorted_get hs'.2 h
theorem rng_sorted (n : Nat) : (rng n).Pairwise (· < ·) := by
  unfold rng
  rw [List.pairwise_map]
  exact List.pairwise_lt_range.imp fun h => Int.ofNat_lt.2 h
theorem dr_sorted (n a : Nat) : ∀ i, (dr n a i).1.Pairwise (· < ·)
  | 0 => rng_sorted n
  | i + 1 => (dr_sorted n a i).sublist (List.eraseIdx_sublist _ _)
theorem cnt_all {l : List Int} {n : Nat} (h : ∀ x ∈ l, x < (n : Int)) : cntLt l n = l.length := by
  unfold cntLt
  rw [List.countP_eq_length]
  intro x hx; simpa using h x hx
theorem cnt_zero {l : List Int} (h : ∀ x ∈ l, 0 ≤ x) : cntLt l 0 = 0 := by
  unfold cntLt
  rw [List.countP_eq_zero]
  intro x hx
  have := h x hx
  simp; omega
/-- Who is gone behind i draws. -/
def goneL (n a i : Nat) : List Bool := (List.range n).map fun v => decide (((v : Nat) : Int) ∉ (dr n a i).1)
theorem goneL_len (n a i : Nat) : (goneL n a i).length = n := by simp [goneL]
theorem goneL_get (n a i v : Nat) (h : v < n) : (goneL n a i).getD v default = decide (((v : Nat) : Int) ∉ (dr n a i).1) := by
  rw [List.getD_eq_getElem?_getD, List.getElem?_eq_getElem (by rw [goneL_len]; exact h)]; simp [goneL]
theorem goneL_zero (n a : Nat) : goneL n a 0 = List.replicate n false := by
  apply List.ext_getElem
  · rw [goneL_len, List.length_replicate]
  · intro v h1 h2
    rw [goneL_len] at h1
    simp only [goneL, List.getElem_map, List.getElem_range, List.getElem_replicate]
    exact decide_eq_false fun h => h (mem_rng.2 ⟨by omega, by omega⟩)
theorem dr_next {n a i : Nat} (h : i < n) (x : Int) : x ∈ (dr n a (i + 1)).1 ↔ x ∈ (dr n a i).1 ∧ x ≠ drV n a i := by
  constructor
  · intro hx
    exact ⟨List.mem_of_mem_eraseIdx hx, by rintro rfl; exact drV_out n a i h hx⟩
  · rintro ⟨h1, h2⟩
    obtain ⟨q, hq, e⟩ := mem_getD h1
    refine List.mem_eraseIdx_iff_getElem?.2 ⟨q, fun hh => h2 ?_, by rw [List.getElem?_eq_getElem hq, ← getD_lt _ _ hq, e]⟩
    rw [← e, hh]; rfl
theorem goneL_step (n a i : Nat) (h : i < n) : (goneL n a i).set (drV n a i).toNat true = goneL n a (i + 1) := by
  obtain ⟨v0, v1⟩ := dr_sub n a i _ (drV_mem n a i h)
  apply List.ext_getElem
  · rw [List.length_set, goneL_len, goneL_len]
  · intro v h1 h2
    rw [goneL_len] at h2
    rw [List.getElem_set]
    simp only [goneL, List.getElem_map, List.getElem_range]
    by_cases e : (drV n a i).toNat = v
    · rw [if_pos e]
      exact (decide_eq_true (show ¬ ((v : Nat) : Int) ∈ (dr n a (i + 1)).1 from fun hh => ((dr_next (a := a) h ((v : Nat) : Int)).1 hh).2 (by omega))).symm
    · rw [if_neg e]
      refine decide_eq_decide.2 (not_congr ?_)
      rw [dr_next h]
      exact (and_iff_left (by omega)).symm
set_option maxHeartbeats 1000000 in
theorem refOf_ct {w : World} {n : Int} {a : Nat} {L : List HProp} (ha : a < 18446744073709551616) (H : Holds w L) :
    CT Try.prog 22 [.int .i64 n, .int .u64 (a : Int)] w fun u w' => u.oneCell' = true ∧ Holds w' (arr 3 (Value.int .i64) u (ofN (hl n).toNat a) :: L) := by
  obtain ⟨h0, h1⟩ := hl_rng n
  obtain ⟨k, hk⟩ : ∃ k, k = (hl n).toNat := ⟨_, rfl⟩
  have hkk : hl n = (k : Int) := by omega
  have hdl := drawn_len k a
  rw [← hk]
  refine CT.enter (N := 54) Try.func22 rfl rfl rfl rfl ?_
  refine W.seq (fun K0 hK0 => ?_)
  refine W.region ?_
  refine O.ex (Ex.assign rfl) rfl ?_
  refine O.nil ?_
  refine hK0 _ _ _ ?_
  refine W.seq (fun K1 hK1 => ?_)
  refine W.region ?_
  refine O.ex (Ex.move rfl) rfl ?_
  refine O.callF Try.call19 rfl rfl (CT.mono (refHeld_ct (Holds.to (by assumption))) ?_)
  rintro _ w ⟨rfl, H⟩
  rw [hkk]
  refine O.ex (Ex.assign rfl) rfl ?_
  refine O.nil ?_
  refine hK1 _ _ _ ?_
  refine W.seq (fun K2 hK2 => ?_)
  refine W.region ?_
  refine O.ex (Ex.move rfl) rfl ?_
  refine O.makeR (0 : Int) (e := Value.int .i64) (bt := 8) Try.runUnderlying22 Try.sizeOf3 Try.zeroValue3 Try.typeInfo3 rfl rfl rfl (fun s14 w hs14 H => ?_)
  refine O.ex (Ex.assign rfl) rfl ?_
  refine O.nil ?_
  refine hK2 _ _ _ ?_
  refine W.seq (fun K3 hK3 => ?_)
  refine W.region ?_
  refine O.ex (Ex.move rfl) rfl ?_
  refine O.makeR (false : Bool) (e := Value.bool) (bt := 1) Try.runUnderlying50 Try.sizeOf4 Try.zeroValue4 Try.typeInfo4 rfl rfl rfl (fun s16 w hs16 H => ?_)
  refine O.ex (Ex.assign rfl) rfl ?_
  refine O.nil ?_
  refine hK3 _ _ _ ?_
  refine W.seq (fun K4 hK4 => ?_)
  refine W.seq (fun K5 hK5 => ?_)
  refine W.region ?_
  refine O.ex (Ex.assign rfl) rfl ?_
  refine O.nil ?_
  refine hK5 _ _ _ ?_
  refine W.block ?_
  have H : Holds w (arr 3 (Value.int .i64) s14 (invS (drawn k a) k 0) :: arr 4 Value.bool s16 (goneL k a 0) :: L) := by
    rw [goneL_zero]; exact Holds.to (by assumption)
  refine W.loop (σ := Nat) (fun i => [(0, .int .i64 (k : Int)), (1, .int .u64 ((dr k a i).2 : Int)), (5, s14), (6, s16), (7, .int .i64 (i : Int))]) (fun i ds w => ds = [] ∧ i ≤ k ∧ Holds w (arr 3 (Value.int .i64) s14 (invS (drawn k a) k i) :: arr 4 Value.bool s16 (goneL k a i) :: L)) (fun i => k - i) 0 ⟨rfl, rfl, rfl, rfl, rfl, trivial⟩ ⟨rfl, by omega, Holds.to (by assumption)⟩ ?_
  clear H
  rintro i _ w ⟨rfl, hi, H⟩
  have hlen := dr_len k a i hi
  have hnum := dr_num k a i
  have hsl := invS_len (drawn k a) k i
  have hgl := goneL_len k a i
  refine W.seq (fun K6 hK6 => ?_)
  refine W.seq (fun K7 hK7 => ?_)
  refine W.region ?_
  refine O.ex (Ex.move rfl) rfl ?_
  refine O.ex (Ex.move rfl) rfl ?_
  refine O.ex (Ex.lss rfl rfl) rfl ?_
  refine O.nil ?_
  refine hK7 _ _ _ ?_
  first | refine W.cond_p rfl (fun hlt => ?_) (fun hge => ?_) | refine W.cond_b rfl (fun hlt => ?_) (fun hge => ?_)
  · refine W.skip ?_
    refine hK6 _ _ _ ?_
    refine W.seq (fun K8 hK8 => ?_)
    refine W.block ?_
    refine W.seq (fun K9 hK9 => ?_)
    refine W.region ?_
    have hik : i < k := by omega
    have hat := drAt_lt k a i hik
    obtain ⟨q, hq⟩ : ∃ q, q = k - i := ⟨_, rfl⟩
    obtain ⟨num, hnm⟩ : ∃ m, m = (dr k a i).2 := ⟨_, rfl⟩
    obtain ⟨at_, hatt⟩ : ∃ x, x = drAt k a i := ⟨_, rfl⟩
    have hate : num % q = at_ := by rw [hatt, hnm, hq, ← hlen]; rfl
    have hdve : (dr k a (i + 1)).2 = num / q := by rw [hnm, hq, ← hlen]; rfl
    have hdl2 : num / q ≤ num := Nat.div_le_self _ _
    rw [← hnm] at hnum ⊢
    rw [← hatt] at hat
    refine O.ex (Ex.move rfl) rfl ?_
    refine O.ex (Ex.move rfl) rfl ?_
    refine O.ex (by first | exact Ex.subI rfl rfl | exact Ex.sub rfl rfl rfl) rfl ?_
    refine O.ex (Ex.convI (r := ((q : Nat) : Int)) Try.runUnderlying3 Try.runUnderlying30 rfl (by rw [wrap64]; omega)) rfl ?_
    refine O.ex (Ex.assign rfl) rfl ?_
    refine O.nil ?_
    refine hK9 _ _ _ ?_
    refine W.seq (fun K10 hK10 => ?_)
    refine W.region ?_
    refine O.ex (Ex.move rfl) rfl ?_
    refine O.ex (Ex.move rfl) rfl ?_
    refine O.ex (Ex.rem (r := ((num % q : Nat) : Int)) rfl rfl (by omega) (show ((num : Nat) : Int).tmod ((q : Nat) : Int) = ((num % q : Nat) : Int) from rfl)) rfl ?_
    rw [hate]
    refine O.ex (by first | exact Ex.convToI Try.runUnderlying30 Try.runUnderlying3 rfl | exact Ex.convW Try.runUnderlying30 Try.runUnderlying3 rfl) rfl ?_
    refine O.ex (Ex.assign rfl) rfl ?_
    refine O.nil ?_
    refine hK10 _ _ _ ?_
    refine W.seq (fun K11 hK11 => ?_)
    refine W.region ?_
    refine O.ex (Ex.move rfl) rfl ?_
    refine O.ex (Ex.move rfl) rfl ?_
    refine O.ex (Ex.quo (r := ((num / q : Nat) : Int)) rfl rfl (by omega) (by rw [wrap64, show ((num : Nat) : Int).tdiv ((q : Nat) : Int) = ((num / q : Nat) : Int) from rfl]; omega)) rfl ?_
    rw [← hdve]
    refine O.ex (Ex.assign rfl) rfl ?_
    refine O.nil ?_
    refine hK11 _ _ _ ?_
    refine W.seq (fun K12 hK12 => ?_)
    refine W.region ?_
    refine O.ex (Ex.assign rfl) rfl ?_
    refine O.nil ?_
    refine hK12 _ _ _ ?_
    refine W.block ?_
    have hc0 : cntLt (dr k a i).1 ((0 : Nat) : Int) = 0 := cnt_zero fun x hx => (dr_sub k a i x hx).1
    refine W.loop (σ := Nat) (fun v => [(0, .int .i64 (k : Int)), (1, .int .u64 ((dr k a (i + 1)).2 : Int)), (5, s14), (6, s16), (7, .int .i64 (i : Int)), (9, .int .i64 ((at_ : Int) - cntLt (dr k a i).1 (v : Int))), (10, .int .i64 (v : Int))]) (fun v ds w => ds = [] ∧ v ≤ k ∧ cntLt (dr k a i).1 (v : Int) ≤ at_ ∧ Holds w (arr 3 (Value.int .i64) s14 (invS (drawn k a) k i) :: arr 4 Value.bool s16 (goneL k a i) :: L)) (fun v => k - v) 0 ⟨rfl, rfl, rfl, rfl, rfl, by rw [hc0, Int.natCast_zero, Int.sub_zero]; rfl, rfl, trivial⟩ ⟨rfl, by omega, by omega, Holds.to (by assumption)⟩ ?_
    clear H
    rintro v _ w ⟨rfl, hv, hcv, H⟩
    have hstep := cntLt_step (dr_nodup k a i) (v : Int)
    refine W.seq (fun K13 hK13 => ?_)
    refine W.seq (fun K14 hK14 => ?_)
    refine W.region ?_
    refine O.ex (Ex.move rfl) rfl ?_
    refine O.ex (Ex.move rfl) rfl ?_
    refine O.ex (Ex.lss rfl rfl) rfl ?_
    refine O.nil ?_
    refine hK14 _ _ _ ?_
    first | refine W.cond_p rfl (fun hltv => ?_) (fun hgev => ?_) | refine W.cond_b rfl (fun hltv => ?_) (fun hgev => ?_)
    · refine W.skip ?_
      refine hK13 _ _ _ ?_
      refine W.seq (fun K15 hK15 => ?_)
      refine W.block ?_
      refine W.seq (fun K16 hK16 => ?_)
      refine W.seq (fun K17 hK17 => ?_)
      refine W.region ?_
      have hgg := goneL_get k a i v (by omega)
      refine O.ex (Ex.move rfl) rfl ?_
      refine O.ex (Ex.move rfl) rfl ?_
      refine O.ex (by first | exact Ex.idxR Try.runUnderlying50 Try.sizeOf4 rfl rfl | exact Ex.idxIn Try.runUnderlying50 Try.sizeOf4 rfl rfl | exact Ex.idxS Try.runUnderlying50 Try.sizeOf4 rfl rfl | exact Ex.idx Try.runUnderlying50 Try.sizeOf4 rfl rfl (by omega) (by omega)) rfl ?_
      refine O.ex (by first | exact Ex.loadR Try.isAgg4 rfl | exact Ex.loadIn1 Try.isAgg4 rfl (Holds.to (by assumption)) | exact Ex.loadP Try.isAgg4 rfl | exact Ex.loadMh Try.isAgg4 rfl | exact Ex.loadM Try.isAgg4 rfl | exact Ex.loadVc Try.isAgg4 rfl | exact Ex.loadQ Try.isAgg4 rfl) rfl ?_
      refine O.nil ?_
      refine hK17 _ _ _ ?_
      first | refine W.cond_p rfl (fun hgn => ?_) (fun hin => ?_) | refine W.cond_b rfl (fun hgn => ?_) (fun hin => ?_)
      · refine W.exit ?_
        refine hK15 _ _ _ ?_
        refine W.region ?_
        refine O.ex (Ex.move rfl) rfl ?_
        refine O.ex (by first | exact Ex.addI rfl rfl | exact Ex.add rfl rfl rfl) rfl ?_
        refine O.ex (Ex.assign rfl) rfl ?_
        refine O.nil ?_
        first
        | (have hnm2 : ((v : Nat) : Int) ∉ (dr k a i).1 := by
             have : (goneL k a i).getD v default = true := hgn
             rw [hgg] at this; exact of_decide_eq_true this
           rw [if_neg hnm2, Nat.add_zero] at hstep
           exact ⟨v + 1, ⟨rfl, rfl, rfl, rfl, rfl, by rw [show (((v + 1 : Nat)) : Int) = (v : Int) + 1 from rfl, hstep]; rfl, rfl, trivial⟩, ⟨rfl, by omega, by rw [show (((v + 1 : Nat)) : Int) = (v : Int) + 1 from rfl, hstep]; exact hcv, Holds.to (by assumption)⟩, by omega⟩)
        | (have hmem : ((v : Nat) : Int) ∈ (dr k a i).1 := by
             have : (goneL k a i).getD v default = false := hin
             rw [hgg] at this
             exact Decidable.not_not.1 (of_decide_eq_false this)
           rw [if_pos hmem] at hstep
           exact ⟨v + 1, ⟨rfl, rfl, rfl, rfl, rfl, by rw [show (((v + 1 : Nat)) : Int) = (v : Int) + 1 from rfl, hstep, show (at_ : Int) - ((cntLt (dr k a i).1 (v : Int) + 1 : Nat) : Int) = (at_ : Int) - cntLt (dr k a i).1 (v : Int) - 1 from by omega]; rfl, rfl, trivial⟩, ⟨rfl, by omega, by rw [show (((v + 1 : Nat)) : Int) = (v : Int) + 1 from rfl, hstep]; omega, Holds.to (by assumption)⟩, by omega⟩)
      · refine W.skip ?_
        refine hK16 _ _ _ ?_
        refine W.seq (fun K18 hK18 => ?_)
        refine W.seq (fun K19 hK19 => ?_)
        refine W.region ?_
        refine O.ex (Ex.move rfl) rfl ?_
        refine O.ex (Ex.eqlI rfl rfl) rfl ?_
        refine O.nil ?_
        refine hK19 _ _ _ ?_
        first | refine W.cond_p rfl (fun hz => ?_) (fun hnz => ?_) | refine W.cond_b rfl (fun hz => ?_) (fun hnz => ?_)
        · refine W.seq (fun K20 hK20 => ?_)
          refine W.region ?_
          have hmem : ((v : Nat) : Int) ∈ (dr k a i).1 := by
            have : (goneL k a i).getD v default = false := hin
            rw [hgg] at this
            exact Decidable.not_not.1 (of_decide_eq_false this)
          have hdv : drV k a i = (v : Int) := by
            have := sorted_get (dr_sorted k a i) hmem
            unfold drV
            rw [← hatt, show at_ = cntLt (dr k a i).1 (v : Int) from by omega]; exact this
          refine O.ex (Ex.move rfl) rfl ?_
          refine O.ex (Ex.move rfl) rfl ?_
          refine O.ex (Ex.move rfl) rfl ?_
          refine O.ex (by first | exact Ex.idxR Try.runUnderlying22 Try.sizeOf3 rfl rfl | exact Ex.idxIn Try.runUnderlying22 Try.sizeOf3 rfl rfl | exact Ex.idxS Try.runUnderlying22 Try.sizeOf3 rfl rfl | exact Ex.idx Try.runUnderlying22 Try.sizeOf3 rfl rfl (by omega) (by omega)) rfl ?_
          first | refine O.storeP Try.sizeOf3 rfl rfl (fun w H => ?_) | refine O.storeR Try.sizeOf3 rfl rfl (fun w H => ?_) | refine O.storeM Try.sizeOf3 rfl rfl (fun w H => ?_) | refine O.storeVc Try.sizeOf3 rfl rfl (fun w H => ?_)
          refine O.nil ?_
          refine hK20 _ _ _ ?_
          refine W.seq (fun K21 hK21 => ?_)
          refine W.region ?_
          refine O.ex (Ex.move rfl) rfl ?_
          refine O.ex (Ex.move rfl) rfl ?_
          refine O.ex (by first | exact Ex.idxR Try.runUnderlying50 Try.sizeOf4 rfl rfl | exact Ex.idxIn Try.runUnderlying50 Try.sizeOf4 rfl rfl | exact Ex.idxS Try.runUnderlying50 Try.sizeOf4 rfl rfl | exact Ex.idx Try.runUnderlying50 Try.sizeOf4 rfl rfl (by omega) (by omega)) rfl ?_
          first | refine O.storeP Try.sizeOf4 rfl rfl (fun w H => ?_) | refine O.storeR Try.sizeOf4 rfl rfl (fun w H => ?_) | refine O.storeM Try.sizeOf4 rfl rfl (fun w H => ?_) | refine O.storeVc Try.sizeOf4 rfl rfl (fun w H => ?_)
          rw [show (invS (drawn k a) k i).set ((v : Nat) : Int).toNat (i : Int) = invS (drawn k a) k (i + 1) from by show _ = (invS (drawn k a) k i).set ((drawn k a).getD i default).toNat (i : Int); rw [drawn_get k a i hik, hdv], show (goneL k a i).set ((v : Nat) : Int).toNat true = goneL k a (i + 1) from by rw [← goneL_step k a i hik, hdv]] at H
          refine O.nil ?_
          refine hK21 _ _ _ ?_
          refine W.exit ?_
          refine hK8 _ _ _ ?_
          refine W.region ?_
          refine O.ex (Ex.move rfl) rfl ?_
          refine O.ex (by first | exact Ex.addI rfl rfl | exact Ex.add rfl rfl rfl) rfl ?_
          refine O.ex (Ex.assign rfl) rfl ?_
          refine O.nil ?_
          exact ⟨i + 1, ⟨rfl, rfl, rfl, rfl, rfl, trivial⟩, ⟨rfl, by omega, Holds.to (by assumption)⟩, by omega⟩
        · refine W.skip ?_
          refine hK18 _ _ _ ?_
          refine W.region ?_
          refine O.ex (Ex.move rfl) rfl ?_
          refine O.ex (by first | exact Ex.subI rfl rfl | exact Ex.sub rfl rfl rfl) rfl ?_
          refine O.ex (Ex.assign rfl) rfl ?_
          refine O.nil ?_
          refine hK15 _ _ _ ?_
          refine W.region ?_
          refine O.ex (Ex.move rfl) rfl ?_
          refine O.ex (by first | exact Ex.addI rfl rfl | exact Ex.add rfl rfl rfl) rfl ?_
          refine O.ex (Ex.assign rfl) rfl ?_
          refine O.nil ?_
          first
          | (have hnm2 : ((v : Nat) : Int) ∉ (dr k a i).1 := by
               have : (goneL k a i).getD v default = true := hgn
               rw [hgg] at this; exact of_decide_eq_true this
             rw [if_neg hnm2, Nat.add_zero] at hstep
             exact ⟨v + 1, ⟨rfl, rfl, rfl, rfl, rfl, by rw [show (((v + 1 : Nat)) : Int) = (v : Int) + 1 from rfl, hstep]; rfl, rfl, trivial⟩, ⟨rfl, by omega, by rw [show (((v + 1 : Nat)) : Int) = (v : Int) + 1 from rfl, hstep]; exact hcv, Holds.to (by assumption)⟩, by omega⟩)
          | (have hmem : ((v : Nat) : Int) ∈ (dr k a i).1 := by
               have : (goneL k a i).getD v default = false := hin
               rw [hgg] at this
               exact Decidable.not_not.1 (of_decide_eq_false this)
             rw [if_pos hmem] at hstep
             exact ⟨v + 1, ⟨rfl, rfl, rfl, rfl, rfl, by rw [show (((v + 1 : Nat)) : Int) = (v : Int) + 1 from rfl, hstep, show (at_ : Int) - ((cntLt (dr k a i).1 (v : Int) + 1 : Nat) : Int) = (at_ : Int) - cntLt (dr k a i).1 (v : Int) - 1 from by omega]; rfl, rfl, trivial⟩, ⟨rfl, by omega, by rw [show (((v + 1 : Nat)) : Int) = (v : Int) + 1 from rfl, hstep]; omega, Holds.to (by assumption)⟩, by omega⟩)
    · exfalso
      have hall := cnt_all (l := (dr k a i).1) (n := k) (fun x hx => (dr_sub k a i x hx).2)
      rw [show ((v : Nat) : Int) = (k : Int) from by omega, hall] at hcv
      omega
  · refine W.exit ?_
    refine hK4 _ _ _ ?_
    refine W.seq (fun K22 hK22 => ?_)
    refine W.region ?_
    refine O.ex (Ex.move rfl) rfl ?_
    refine O.ex (Ex.assign rfl) rfl ?_
    refine O.nil ?_
    refine hK22 _ _ _ ?_
    refine W.ret ?_
    try dsimp only [thenQ, blockQ, retQ]
    first | refine ⟨_, ⟨_, _, rfl, rfl, rfl⟩, ?_⟩ | (refine retD_mark ?_; intro w H; refine ⟨_, ⟨_, _, rfl, rfl, rfl⟩, ?_⟩) | (refine retD_mark2 ?_; intro w H; refine ⟨_, ⟨_, _, rfl, rfl, rfl⟩, ?_⟩)
    obtain rfl : i = k := by omega
    refine ⟨arr_one (e := Value.int .i64) (Holds.to (by assumption)), ?_⟩
    rw [show ofN i a = invS (drawn i a) i i from by unfold ofN invL; rw [hdl]]
    exact Holds.to (by assumption)
end Go.Proofs.Ythpmohkmjfhmmaa
