import Derived.Test.YthpmohkmjfhmmaaRef04
import Derived.Test.YthpmohkmjfhmmaaRrRow
namespace Go.Proofs.Ythpmohkmjfhmmaa
open Go.Rr Go Hp
set_option linter.unusedVariables false
/-- What l puts in, up to i. -/
def putsS (l : List Int) : Nat → List (Option Int)
  | 0 => List.replicate 64 none
  | i + 1 => (putsS l i).set (i * 7 % 64) (some (l.getD i default))
theorem putsS_len (l : List Int) : ∀ i, (putsS l i).length = 64
  | 0 => by simp [putsS]
  | i + 1 => by simp [putsS, putsS_len l i]
theorem putsS_none (l : List Int) : ∀ i x, i ≤ 64 → (∀ j, j < i → j * 7 % 64 ≠ x) → x < 64 → sg (putsS l i) x = none
  | 0, x, _, _, hx => by
    unfold putsS sg
    rw [List.getD_eq_getElem?_getD, List.getElem?_replicate, if_pos hx]; rfl
  | i + 1, x, hi, h, hx => by
    unfold putsS
    rw [sg_set _ _ _ _ (by rw [putsS_len]; omega), if_neg (Ne.symm (h i (by omega)))]
    exact putsS_none l i x (by omega) (fun j hj => h j (by omega)) hx
theorem putsS_put (l : List Int) (i : Nat) (hi : i < 64) : putL RI (putsS l i) ((i * 7 % 64 : Nat) : Int) (l.getD i default) = putsS l (i + 1) := by
  have hc : putC RI (putsS l i) ((i * 7 % 64 : Nat) : Int) (l.getD i default) = 0 := by
    unfold putC
    rw [if_neg (by rw [putsS_len]; omega), Int.toNat_natCast, putsS_none l i _ (by omega) (fun j hj => by omega) (by omega)]
  unfold putL
  rw [if_pos hc, Int.toNat_natCast]; rfl
theorem putsS_cnt (l : List Int) : ∀ i, i ≤ 64 → lenS (putsS l i) = i
  | 0, _ => rfl
  | i + 1, hi => by
    have hs : ∀ (s : List (Option Int)) (x : Nat) (p : Int), x < s.length → sg s x = none → lenS (s.set x (some p)) = lenS s + 1 := by
      intro s
      induction s with
      | nil => intro x p h; simp at h
      | cons a s ih =>
        intro x p h hn
        cases x with
        | zero =>
          obtain rfl : a = none := hn
          rw [List.set_cons_zero, lenS_cons, lenS_cons]; simp; omega
        | succ x =>
          rw [List.set_cons_succ, lenS_cons, lenS_cons, ih x p (by simpa using h) hn]; omega
    unfold putsS
    rw [hs _ _ _ (by rw [putsS_len]; omega) (putsS_none l i _ (by omega) (fun j hj => by omega) (by omega)), putsS_cnt l i (by omega)]
/-- What comes out later never comes to less. -/
theorem pop_ge {s : List (Option Int)} {b : Nat} (h : bs RI s = some b) : ∀ x q, sg (s.set b none) x = some q → Hp.pg s b ≤ q := by
  have hb := bst_some soI h
  intro x q hq
  rw [sg_set _ _ _ _ hb.lt] at hq
  split at hq
  · cases hq
  · rcases hb.le x (sg_lt hq) q hq with k | ⟨k, _⟩
    · exact Int.le_of_lt k
    · exact Int.le_of_eq k
set_option maxHeartbeats 2000000 in
theorem heapSorts_ct {w0 : World} {lv : Value} {l : List Int} (hx : SlIn w0 1 (fun s : Int => [.int .i64 s]) lv l) (hg : ∀ x ∈ l, -9223372036854775808 ≤ x) (hl : l.length ≤ 9223372036854775807) :
    CT Try.prog 8 [lv] w0 fun u w' => u = .bool true ∧ RowKit.Below w0.heap.size w0 w' := by
  have H := Holds.base_refl w0
  refine CT.enter (N := 118) Try.func8 rfl rfl rfl rfl ?_
  refine W.seq (fun K0 hK0 => ?_)
  refine W.region ?_
  refine O.ex (Ex.assign rfl) rfl ?_
  refine O.nil ?_
  refine hK0 _ _ _ ?_
  refine W.seq (fun K1 hK1 => ?_)
  refine W.seq (fun K2 hK2 => ?_)
  refine W.region ?_
  refine O.callF Try.call26 rfl rfl (CT.mono (awake04_ct (by assumption)) ?_)
  rintro _ w ⟨rfl, H⟩
  refine O.ex (by first | exact Ex.notD rfl | exact Ex.not rfl) rfl ?_
  refine O.nil ?_
  refine hK2 _ _ _ ?_
  refine W.known_f rfl (by first | rfl | decide | (rw [hok]; rfl) | exact decide_eq_false (by omega) | (rw [hin]; rfl) | exact decide_eq_false (fun hh => hh hpp)) ?_
  refine W.skip ?_
  refine hK1 _ _ _ ?_
  refine W.seq (fun K3 hK3 => ?_)
  refine W.seq (fun K4 hK4 => ?_)
  refine W.region ?_
  refine O.ex (Ex.move rfl) rfl ?_
  refine O.ex (by first | exact Ex.lenR Try.runUnderlying22 rfl | exact Ex.lenIn Try.runUnderlying22 rfl | exact Ex.lenL Try.runUnderlying22 rfl | exact Ex.len rfl Try.runUnderlying22 rfl) rfl ?_
  refine O.ex (Ex.gtr rfl rfl) rfl ?_
  refine O.nil ?_
  refine hK4 _ _ _ ?_
  first | refine W.cond_p rfl (fun hbig => ?_) (fun hle => ?_) | refine W.cond_b rfl (fun hbig => ?_) (fun hle => ?_)
  · refine W.seq (fun K5 hK5 => ?_)
    refine W.region ?_
    refine O.ex (Ex.assign rfl) rfl ?_
    refine O.nil ?_
    refine hK5 _ _ _ ?_
    refine W.ret ?_
    try dsimp only [thenQ, blockQ, retQ]
    first | refine ⟨_, ⟨_, _, rfl, rfl, rfl⟩, ?_⟩ | (refine retD_mark ?_; intro w H; refine ⟨_, ⟨_, _, rfl, rfl, rfl⟩, ?_⟩) | (refine retD_mark2 ?_; intro w H; refine ⟨_, ⟨_, _, rfl, rfl, rfl⟩, ?_⟩)
    exact ⟨by first | rfl | exact congrArg Value.bool (by rw [hz]; rfl), Holds.base_below (L := []) (Holds.to (by assumption))⟩
  · refine W.skip ?_
    refine hK3 _ _ _ ?_
    refine W.seq (fun K6 hK6 => ?_)
    refine W.region ?_
    refine O.callF Try.call27 rfl rfl (CT.mono (newIH_ct (n := 64) (Holds.to (by assumption))) ?_)
    rintro _ w (⟨hx2, -⟩ | ⟨-, h, rfl, H⟩)
    · exact absurd (by omega) hx2
    refine O.ex (Ex.move rfl) rfl ?_
    refine O.ex (Ex.extract rfl rfl) rfl ?_
    refine O.ex (Ex.extract rfl rfl) rfl ?_
    refine O.ex (Ex.assign rfl) rfl ?_
    refine O.ex (Ex.assign rfl) rfl ?_
    refine O.nil ?_
    refine hK6 _ _ _ ?_
    refine W.seq (fun K7 hK7 => ?_)
    refine W.seq (fun K8 hK8 => ?_)
    refine W.region ?_
    refine O.ex (Ex.move rfl) rfl ?_
    refine O.ex (Ex.nilEq Try.runUnderlying42 rfl rfl) rfl ?_
    refine O.ex (Ex.move rfl) rfl ?_
    refine O.known (t := 26) (c := false) rfl (by first | rfl | decide | (rw [hok]; rfl) | exact decide_eq_false (by omega) | (rw [hin]; rfl) | exact decide_eq_false (fun hh => hh hpp)) ?_
    refine O.guard_t rfl rfl ?_
    refine O.ex (Ex.move rfl) rfl ?_
    refine O.guard_t rfl rfl ?_
    refine O.ex (Ex.neqI rfl rfl) rfl ?_
    refine O.ex (Ex.pick_f rfl rfl) rfl ?_
    refine O.nil ?_
    refine hK8 _ _ _ ?_
    refine W.known_f rfl (by first | rfl | decide | (rw [hok]; rfl) | exact decide_eq_false (by omega) | (rw [hin]; rfl) | exact decide_eq_false (fun hh => hh hpp)) ?_
    refine W.skip ?_
    refine hK7 _ _ _ ?_
    refine W.seq (fun K9 hK9 => ?_)
    refine W.region ?_
    refine O.callF Try.call28 rfl rfl (CT.mono (rfNew_ct (n := 64) (by omega) (by omega) (by assumption)) ?_)
    rintro _ w ⟨r, rfl, H⟩
    refine O.ex (Ex.assign rfl) rfl ?_
    refine O.nil ?_
    refine hK9 _ _ _ ?_
    refine W.seq (fun K10 hK10 => ?_)
    refine W.seq (fun K11 hK11 => ?_)
    refine W.region ?_
    refine O.ex (Ex.assign rfl) rfl ?_
    refine O.nil ?_
    refine hK11 _ _ _ ?_
    refine W.block ?_
    refine W.loop (σ := Nat) (fun i => [(0, lv), (3, .pointer (some ⟨h, 0, none⟩)), (5, .pointer (some ⟨r, 0, none⟩)), (6, .int .i64 (i : Int))]) (fun i ds w => ds = [] ∧ i ≤ l.length ∧ Holds w [HqI h (putsS l i), Rf r (putsS l i), base w0]) (fun i => l.length - i) 0 ⟨rfl, rfl, rfl, rfl, trivial⟩ ⟨rfl, by omega, Holds.to (by assumption)⟩ ?_
    clear H
    rintro i _ w ⟨rfl, hi, H⟩
    refine W.seq (fun K12 hK12 => ?_)
    refine W.seq (fun K13 hK13 => ?_)
    refine W.region ?_
    refine O.ex (Ex.move rfl) rfl ?_
    refine O.ex (Ex.move rfl) rfl ?_
    refine O.ex (by first | exact Ex.lenR Try.runUnderlying22 rfl | exact Ex.lenIn Try.runUnderlying22 rfl | exact Ex.lenL Try.runUnderlying22 rfl | exact Ex.len rfl Try.runUnderlying22 rfl) rfl ?_
    refine O.ex (Ex.lss rfl rfl) rfl ?_
    refine O.nil ?_
    refine hK13 _ _ _ ?_
    first | refine W.cond_p rfl (fun hlt => ?_) (fun hge => ?_) | refine W.cond_b rfl (fun hlt => ?_) (fun hge => ?_)
    · refine W.skip ?_
      refine hK12 _ _ _ ?_
      refine W.seq (fun K14 hK14 => ?_)
      refine W.block ?_
      refine W.seq (fun K15 hK15 => ?_)
      refine W.region ?_
      have hm : (i : Int) * 7 % 64 = ((i * 7 % 64 : Nat) : Int) := by omega
      have hp := putsS_put l i (by omega)
      have hin : i < l.length := by omega
      refine O.ex (Ex.move rfl) rfl ?_
      refine O.ex (Ex.move rfl) rfl ?_
      refine O.ex (by first | exact Ex.mul rfl rfl (IntWalk.i64_in _ ⟨by omega, by omega⟩) | exact Ex.mul rfl rfl rfl) rfl ?_
      refine O.ex (by first | exact Ex.remI rfl rfl | exact Ex.rem rfl rfl (by omega) rfl) rfl ?_
      rw [hm]
      refine O.ex (Ex.move rfl) rfl ?_
      refine O.ex (Ex.move rfl) rfl ?_
      refine O.ex (by first | exact Ex.idxR Try.runUnderlying22 Try.sizeOf3 rfl rfl | exact Ex.idxIn Try.runUnderlying22 Try.sizeOf3 rfl rfl | exact Ex.idxS Try.runUnderlying22 Try.sizeOf3 rfl rfl | exact Ex.idx Try.runUnderlying22 Try.sizeOf3 rfl rfl (by omega) (by omega)) rfl ?_
      refine O.ex (by first | exact Ex.loadP Try.isAgg3 rfl | exact Ex.loadR Try.isAgg3 rfl | exact Ex.loadIn1 Try.isAgg3 rfl (Holds.to (by assumption))) rfl ?_
      refine O.callF Try.call29 rfl rfl (CT.mono (putIH_ct (s := putsS l i) (Holds.to (by assumption))) ?_)
      rintro _ w ⟨-, H⟩
      rw [show putL RI (putsS l i) ((i * 7 % 64 : Nat) : Int) (l.getD ((i : Nat) : Int).toNat default) = putsS l (i + 1) from hp] at H
      refine O.nil ?_
      refine hK15 _ _ _ ?_
      refine W.region ?_
      refine O.ex (Ex.move rfl) rfl ?_
      refine O.ex (Ex.move rfl) rfl ?_
      refine O.ex (by first | exact Ex.mul rfl rfl (IntWalk.i64_in _ ⟨by omega, by omega⟩) | exact Ex.mul rfl rfl rfl) rfl ?_
      refine O.ex (by first | exact Ex.remI rfl rfl | exact Ex.rem rfl rfl (by omega) rfl) rfl ?_
      rw [hm]
      refine O.ex (Ex.move rfl) rfl ?_
      refine O.ex (Ex.move rfl) rfl ?_
      refine O.ex (by first | exact Ex.idxR Try.runUnderlying22 Try.sizeOf3 rfl rfl | exact Ex.idxIn Try.runUnderlying22 Try.sizeOf3 rfl rfl | exact Ex.idxS Try.runUnderlying22 Try.sizeOf3 rfl rfl | exact Ex.idx Try.runUnderlying22 Try.sizeOf3 rfl rfl (by omega) (by omega)) rfl ?_
      refine O.ex (by first | exact Ex.loadP Try.isAgg3 rfl | exact Ex.loadR Try.isAgg3 rfl | exact Ex.loadIn1 Try.isAgg3 rfl (Holds.to (by assumption))) rfl ?_
      refine O.callF Try.call30 rfl rfl (CT.mono (rfPut_ct (s := putsS l i) (Holds.to (by assumption))) ?_)
      rintro _ w ⟨-, H⟩
      rw [show putL RI (putsS l i) ((i * 7 % 64 : Nat) : Int) (l.getD ((i : Nat) : Int).toNat default) = putsS l (i + 1) from hp] at H
      refine O.nil ?_
      refine hK14 _ _ _ ?_
      refine W.region ?_
      refine O.ex (Ex.move rfl) rfl ?_
      refine O.ex (by first | exact Ex.addI rfl rfl | exact Ex.add rfl rfl rfl) rfl ?_
      refine O.ex (Ex.assign rfl) rfl ?_
      refine O.nil ?_
      exact ⟨i + 1, ⟨rfl, rfl, rfl, rfl, trivial⟩, ⟨rfl, by omega, Holds.to (by assumption)⟩, by omega⟩
    · refine W.exit ?_
      refine hK10 _ _ _ ?_
      refine W.seq (fun K16 hK16 => ?_)
      refine W.region ?_
      obtain rfl : i = l.length := by omega
      have hcnt := putsS_cnt l l.length (by omega)
      have hlen := putsS_len l l.length
      have hall : ∀ x q, sg (putsS l l.length) x = some q → -9223372036854775808 ≤ q := by
        have key : ∀ i, i ≤ l.length → ∀ x q, sg (putsS l i) x = some q → -9223372036854775808 ≤ q := by
          intro i
          induction i with
          | zero => intro _ x q hq; have hx3 := sg_lt hq; rw [putsS_len] at hx3; rw [putsS_none l 0 x (by omega) (fun j hj => by omega) hx3] at hq; cases hq
          | succ i ih =>
            intro hi2 x q hq
            unfold putsS at hq
            rw [sg_set _ _ _ _ (by rw [putsS_len]; omega)] at hq
            split at hq
            · cases hq; exact hg _ (by rw [List.getD_eq_getElem?_getD, List.getElem?_eq_getElem (by omega)]; exact List.getElem_mem _)
            · exact ih (by omega) x q hq
        exact key l.length (Nat.le_refl _)
      refine O.ex (Ex.assign rfl) rfl ?_
      refine O.nil ?_
      refine hK16 _ _ _ ?_
      refine W.seq (fun K17 hK17 => ?_)
      refine W.seq (fun K18 hK18 => ?_)
      refine W.region ?_
      refine O.ex (Ex.assign rfl) rfl ?_
      refine O.nil ?_
      refine hK18 _ _ _ ?_
      refine W.block ?_
      refine W.loop (σ := Nat × Int × List (Option Int)) (fun z => [(0, lv), (3, .pointer (some ⟨h, 0, none⟩)), (5, .pointer (some ⟨r, 0, none⟩)), (7, .int .i64 z.2.1), (8, .int .i64 (z.1 : Int))]) (fun z ds w => ds = [] ∧ z.1 ≤ l.length ∧ z.2.2.length = 64 ∧ lenS z.2.2 + z.1 = l.length ∧ (∀ x q, sg z.2.2 x = some q → z.2.1 ≤ q) ∧ Holds w [HqI h z.2.2, Rf r z.2.2, base w0]) (fun z => l.length - z.1) (0, -9223372036854775808, putsS l l.length) ⟨rfl, rfl, rfl, rfl, rfl, trivial⟩ ⟨rfl, by dsimp only; omega, hlen, by dsimp only; omega, hall, Holds.to (by assumption)⟩ ?_
      clear H hcnt hlen hall
      rintro ⟨i, last, s⟩ _ w ⟨rfl, hi, hls, hcnt, hall, H⟩
      dsimp only at hi hls hcnt hall H ⊢
      refine W.seq (fun K19 hK19 => ?_)
      refine W.seq (fun K20 hK20 => ?_)
      refine W.region ?_
      refine O.ex (Ex.move rfl) rfl ?_
      refine O.ex (Ex.move rfl) rfl ?_
      refine O.ex (by first | exact Ex.lenR Try.runUnderlying22 rfl | exact Ex.lenIn Try.runUnderlying22 rfl | exact Ex.lenL Try.runUnderlying22 rfl | exact Ex.len rfl Try.runUnderlying22 rfl) rfl ?_
      refine O.ex (Ex.lss rfl rfl) rfl ?_
      refine O.nil ?_
      refine hK20 _ _ _ ?_
      first | refine W.cond_p rfl (fun hlt2 => ?_) (fun hge2 => ?_) | refine W.cond_b rfl (fun hlt2 => ?_) (fun hge2 => ?_)
      · refine W.skip ?_
        refine hK19 _ _ _ ?_
        refine W.seq (fun K21 hK21 => ?_)
        refine W.block ?_
        refine W.seq (fun K22 hK22 => ?_)
        refine W.region ?_
        refine O.ex (Ex.move rfl) rfl ?_
        refine O.callF Try.call31 rfl rfl (CT.mono (popI1_ct (s := s) (Holds.to (by assumption))) ?_)
        rintro _ w ⟨rfl, H⟩
        refine O.ex (Ex.move rfl) rfl ?_
        refine O.ex (Ex.extract rfl rfl) rfl ?_
        refine O.ex (Ex.extract rfl rfl) rfl ?_
        refine O.ex (Ex.extract rfl rfl) rfl ?_
        refine O.ex (Ex.assign rfl) rfl ?_
        refine O.ex (Ex.assign rfl) rfl ?_
        refine O.ex (Ex.assign rfl) rfl ?_
        refine O.nil ?_
        refine hK22 _ _ _ ?_
        refine W.seq (fun K23 hK23 => ?_)
        refine W.seq (fun K24 hK24 => ?_)
        refine W.region ?_
        have hok : pkO RI s = true := by
          cases e : pkO RI s with
          | true => rfl
          | false => have := (lenS_zero soI).1 e; omega
        obtain ⟨b, e1, e2, e3, e4⟩ := pkO_true hok
        have hb := bst_some soI e1
        have hb64 : b < 64 := by have := hb.lt; omega
        have hpl := hall b _ hb.is
        rw [← e3] at hpl
        have hpc := lenS_pop soI hok
        have hge3 := pop_ge e1
        rw [← e4, ← e3] at hge3
        obtain ⟨iv, qv, I, P, hr, H⟩ := rf_open.1 (Holds.to (by assumption))
        have H := rfO_open.1 H
        have li := hr.li
        have lp := hr.lp
        have hbi : pkN RI s < I.length := by omega
        have hbp : pkN RI s < P.length := by omega
        have hin : I.getD ((pkN RI s : Nat) : Int).toNat default = true := by rw [Int.toNat_natCast, e2, hr.is b (by omega), hb.is]; rfl
        have hpp : P.getD ((pkN RI s : Nat) : Int).toNat default = pkP RI s := by rw [Int.toNat_natCast, e2, e3, hr.at_ b _ hb.is]
        refine O.ex (Ex.move rfl) rfl ?_
        refine O.ex (by first | exact Ex.notD rfl | exact Ex.not rfl) rfl ?_
        refine O.ex (Ex.move rfl) rfl ?_
        refine O.known (t := 69) (c := false) rfl (by first | rfl | decide | (rw [hok]; rfl) | exact decide_eq_false (by omega) | (rw [hin]; rfl) | exact decide_eq_false (fun hh => hh hpp)) ?_
        refine O.guard_t rfl rfl ?_
        refine O.ex (Ex.move rfl) rfl ?_
        refine O.guard_t rfl rfl ?_
        refine O.ex (Ex.move rfl) rfl ?_
        refine O.guard_t rfl rfl ?_
        refine O.ex (Ex.lss rfl rfl) rfl ?_
        refine O.ex (Ex.pick_f rfl rfl) rfl ?_
        refine O.ex (Ex.move rfl) rfl ?_
        refine O.known (t := 74) (c := false) rfl (by first | rfl | decide | (rw [hok]; rfl) | exact decide_eq_false (by omega) | (rw [hin]; rfl) | exact decide_eq_false (fun hh => hh hpp)) ?_
        refine O.guard_t rfl rfl ?_
        refine O.ex (Ex.move rfl) rfl ?_
        refine O.guard_t rfl rfl ?_
        refine O.ex (Ex.lss rfl rfl) rfl ?_
        refine O.ex (Ex.pick_f rfl rfl) rfl ?_
        refine O.ex (Ex.move rfl) rfl ?_
        refine O.known (t := 78) (c := false) rfl (by first | rfl | decide | (rw [hok]; rfl) | exact decide_eq_false (by omega) | (rw [hin]; rfl) | exact decide_eq_false (fun hh => hh hpp)) ?_
        refine O.guard_t rfl rfl ?_
        refine O.ex (Ex.move rfl) rfl ?_
        refine O.guard_t rfl rfl ?_
        refine O.ex (Ex.gtr rfl rfl) rfl ?_
        refine O.ex (Ex.pick_f rfl rfl) rfl ?_
        refine O.ex (Ex.move rfl) rfl ?_
        refine O.known (t := 82) (c := false) rfl (by first | rfl | decide | (rw [hok]; rfl) | exact decide_eq_false (by omega) | (rw [hin]; rfl) | exact decide_eq_false (fun hh => hh hpp)) ?_
        refine O.guard_t rfl rfl ?_
        refine O.ex (Ex.move rfl) rfl ?_
        refine O.guard_t rfl rfl ?_
        refine O.ex (by first | exact Ex.nilPtr rfl | exact Ex.nilFunc rfl | exact Ex.nilYield rfl) rfl ?_
        refine O.guard_t rfl rfl ?_
        refine O.ex (by first | exact Ex.field0 fld52_0 rfl | exact Ex.field fld52_0 rfl | exact Ex.fieldS fld52_0 rfl) rfl ?_
        refine O.guard_t rfl rfl ?_
        refine O.ex (by first | exact Ex.loadP Try.isAgg50 rfl | exact Ex.loadR Try.isAgg50 rfl | exact Ex.loadIn1 Try.isAgg50 rfl (Holds.to (by assumption))) rfl ?_
        refine O.guard_t rfl rfl ?_
        refine O.ex (Ex.move rfl) rfl ?_
        refine O.guard_t rfl rfl ?_
        refine O.ex (by first | exact Ex.idxR Try.runUnderlying50 Try.sizeOf4 rfl rfl | exact Ex.idxIn Try.runUnderlying50 Try.sizeOf4 rfl rfl | exact Ex.idxS Try.runUnderlying50 Try.sizeOf4 rfl rfl | exact Ex.idx Try.runUnderlying50 Try.sizeOf4 rfl rfl (by omega) (by omega)) rfl ?_
        refine O.guard_t rfl rfl ?_
        refine O.ex (by first | exact Ex.loadP Try.isAgg4 rfl | exact Ex.loadR Try.isAgg4 rfl | exact Ex.loadIn1 Try.isAgg4 rfl (Holds.to (by assumption))) rfl ?_
        refine O.guard_t rfl rfl ?_
        refine O.ex (by first | exact Ex.notD rfl | exact Ex.not rfl) rfl ?_
        refine O.ex (Ex.pick_f rfl rfl) rfl ?_
        refine O.ex (Ex.move rfl) rfl ?_
        refine O.known (t := 92) (c := false) rfl (by first | rfl | decide | (rw [hok]; rfl) | exact decide_eq_false (by omega) | (rw [hin]; rfl) | exact decide_eq_false (fun hh => hh hpp)) ?_
        refine O.guard_t rfl rfl ?_
        refine O.ex (Ex.move rfl) rfl ?_
        refine O.guard_t rfl rfl ?_
        refine O.ex (by first | exact Ex.nilPtr rfl | exact Ex.nilFunc rfl | exact Ex.nilYield rfl) rfl ?_
        refine O.guard_t rfl rfl ?_
        refine O.ex (by first | exact Ex.field0 fld52_1 rfl | exact Ex.field fld52_1 rfl | exact Ex.fieldS fld52_1 rfl) rfl ?_
        refine O.guard_t rfl rfl ?_
        refine O.ex (by first | exact Ex.loadP Try.isAgg22 rfl | exact Ex.loadR Try.isAgg22 rfl | exact Ex.loadIn1 Try.isAgg22 rfl (Holds.to (by assumption))) rfl ?_
        refine O.guard_t rfl rfl ?_
        refine O.ex (Ex.move rfl) rfl ?_
        refine O.guard_t rfl rfl ?_
        refine O.ex (by first | exact Ex.idxR Try.runUnderlying22 Try.sizeOf3 rfl rfl | exact Ex.idxIn Try.runUnderlying22 Try.sizeOf3 rfl rfl | exact Ex.idxS Try.runUnderlying22 Try.sizeOf3 rfl rfl | exact Ex.idx Try.runUnderlying22 Try.sizeOf3 rfl rfl (by omega) (by omega)) rfl ?_
        refine O.guard_t rfl rfl ?_
        refine O.ex (by first | exact Ex.loadP Try.isAgg3 rfl | exact Ex.loadR Try.isAgg3 rfl | exact Ex.loadIn1 Try.isAgg3 rfl (Holds.to (by assumption))) rfl ?_
        refine O.guard_t rfl rfl ?_
        refine O.ex (Ex.move rfl) rfl ?_
        refine O.guard_t rfl rfl ?_
        refine O.ex (Ex.neqI rfl rfl) rfl ?_
        refine O.ex (Ex.pick_f rfl rfl) rfl ?_
        refine O.nil ?_
        refine hK24 _ _ _ ?_
        refine W.known_f rfl (by first | rfl | decide | (rw [hok]; rfl) | exact decide_eq_false (by omega) | (rw [hin]; rfl) | exact decide_eq_false (fun hh => hh hpp)) ?_
        refine W.skip ?_
        refine hK23 _ _ _ ?_
        refine W.seq (fun K25 hK25 => ?_)
        refine W.region ?_
        refine O.ex (Ex.move rfl) rfl ?_
        refine O.ex (by first | exact Ex.nilPtr rfl | exact Ex.nilFunc rfl | exact Ex.nilYield rfl) rfl ?_
        refine O.ex (by first | exact Ex.field0 fld52_0 rfl | exact Ex.field fld52_0 rfl | exact Ex.fieldS fld52_0 rfl) rfl ?_
        refine O.ex (by first | exact Ex.loadP Try.isAgg50 rfl | exact Ex.loadR Try.isAgg50 rfl | exact Ex.loadIn1 Try.isAgg50 rfl (Holds.to (by assumption))) rfl ?_
        refine O.ex (Ex.move rfl) rfl ?_
        refine O.ex (by first | exact Ex.idxR Try.runUnderlying50 Try.sizeOf4 rfl rfl | exact Ex.idxIn Try.runUnderlying50 Try.sizeOf4 rfl rfl | exact Ex.idxS Try.runUnderlying50 Try.sizeOf4 rfl rfl | exact Ex.idx Try.runUnderlying50 Try.sizeOf4 rfl rfl (by omega) (by omega)) rfl ?_
        first | refine O.storeP Try.sizeOf4 rfl rfl (fun w H => ?_) | refine O.storeR Try.sizeOf4 rfl rfl (fun w H => ?_)
        refine O.nil ?_
        refine hK25 _ _ _ ?_
        refine W.region ?_
        refine O.ex (Ex.move rfl) rfl ?_
        refine O.ex (Ex.assign rfl) rfl ?_
        refine O.nil ?_
        refine hK21 _ _ _ ?_
        refine W.region ?_
        refine O.ex (Ex.move rfl) rfl ?_
        refine O.ex (by first | exact Ex.addI rfl rfl | exact Ex.add rfl rfl rfl) rfl ?_
        refine O.ex (Ex.assign rfl) rfl ?_
        refine O.nil ?_
        have hr2 := hr.out (x := b) (by omega)
        rw [← e2] at hr2
        have hr3 : RR (popL RI s) (I.set (pkN RI s) false) P := by rw [e4, ← e2]; exact hr2
        have H2 : Holds w (RfO r iv qv (I.set (pkN RI s) false) P :: HqI h (popL RI s) :: base w0 :: []) := rfO_open.2 (Holds.to (by assumption))
        have H3 := rf_open.2 ⟨_, _, _, _, hr3, H2⟩
        exact ⟨(i + 1, pkP RI s, popL RI s), ⟨rfl, rfl, rfl, rfl, rfl, trivial⟩, ⟨rfl, by dsimp only; omega, by dsimp only; rw [popL_len]; exact hls, by dsimp only; omega, hge3, Holds.to H3⟩, by dsimp only; omega⟩
      · refine W.exit ?_
        refine hK17 _ _ _ ?_
        refine W.seq (fun K26 hK26 => ?_)
        refine W.region ?_
        have hz : pkO RI s = false := (lenS_zero soI).2 (by omega)
        refine O.ex (Ex.move rfl) rfl ?_
        refine O.callF Try.call31 rfl rfl (CT.mono (popI1_ct (s := s) (Holds.to (by assumption))) ?_)
        rintro _ w ⟨rfl, H⟩
        refine O.ex (Ex.move rfl) rfl ?_
        refine O.ex (Ex.extract rfl rfl) rfl ?_
        refine O.ex (Ex.extract rfl rfl) rfl ?_
        refine O.ex (Ex.extract rfl rfl) rfl ?_
        refine O.ex (Ex.assign rfl) rfl ?_
        refine O.ex (Ex.assign rfl) rfl ?_
        refine O.ex (Ex.assign rfl) rfl ?_
        refine O.nil ?_
        refine hK26 _ _ _ ?_
        refine W.seq (fun K27 hK27 => ?_)
        refine W.region ?_
        refine O.ex (Ex.move rfl) rfl ?_
        refine O.ex (by first | exact Ex.notD rfl | exact Ex.not rfl) rfl ?_
        refine O.ex (Ex.assign rfl) rfl ?_
        refine O.nil ?_
        refine hK27 _ _ _ ?_
        refine W.ret ?_
        try dsimp only [thenQ, blockQ, retQ]
        first | refine ⟨_, ⟨_, _, rfl, rfl, rfl⟩, ?_⟩ | (refine retD_mark ?_; intro w H; refine ⟨_, ⟨_, _, rfl, rfl, rfl⟩, ?_⟩) | (refine retD_mark2 ?_; intro w H; refine ⟨_, ⟨_, _, rfl, rfl, rfl⟩, ?_⟩)
        exact ⟨by first | rfl | exact congrArg Value.bool (by rw [hz]; rfl), Holds.base_below (L := []) (Holds.to (by assumption))⟩
theorem heapSorts_row {w0 : World} {lv : Value} {l : List Int} (hx : SlIn w0 1 (fun s : Int => [.int .i64 s]) lv l) (g1 : ∀ x ∈ l, (Lit.int .i64 x).wf = true) (hl0 : l.length ≤ maxLen) :
    CT Try.prog 8 [lv] w0 fun u w' => u = .bool true ∧ RowKit.Below w0.heap.size w0 w' :=
  heapSorts_ct hx (fun x h => (bounds_i64 (g1 x h)).1) (by unfold maxLen at hl0; omega)
end Go.Proofs.Ythpmohkmjfhmmaa
