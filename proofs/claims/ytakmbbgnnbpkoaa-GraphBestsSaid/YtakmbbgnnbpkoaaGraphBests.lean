import Derived.Test.YtakmbbgnnbpkoaaLaw08c
import Derived.Test.YtakmbbgnnbpkoaaGraphLaw2
--ARR
--INF
--DEEP
--LOADS loadRT loadRA loadRN loadRM
--AGGLOADS loadRArc
namespace Go.Proofs.Ytakmbbgnnbpkoaa
open Go.Rr Go Gr
set_option linter.unusedVariables false
/-- What the search finds of those below k. -/
theorem found_step {n most : Int} {s : St} (hg : GOk n most s) {t h : Int} {k : Nat} (hk : k < 64) :
    (mt s t h (k : Int) → 0 ≤ (best s t h).2 ∧ ((best s t h).1 < (s k).a.w ∨ (best s t h).1 = (s k).a.w ∧ (best s t h).2 ≤ (k : Int)) ∧ ((best s t h).2 = (k : Int) → (s k).a.w = (best s t h).1)) ∧ (¬ mt s t h (k : Int) → (best s t h).2 ≠ (k : Int)) := by
  rcases best_spec hg t h with ⟨h1, h2⟩ | ⟨h1, h2, h3⟩
  · refine ⟨fun hh => absurd hh (h2 _), fun _ e => ?_⟩
    rw [h1] at e
    have e' : (-1 : Int) = (k : Int) := e
    omega
  · refine ⟨fun hh => ⟨h1.1.1, h3 _ hh, fun e => ?_⟩, fun hn e => hn (e ▸ h1)⟩
    rw [h2, e]; rfl
theorem mt_of {s : St} {t h : Int} {k : Nat} (hk : k < 64) (h1 : thB s (k : Int) = true) (h2 : (arcQ s (k : Int)).cl = false) (h3 : (arcQ s (k : Int)).t = t) (h4 : (arcQ s (k : Int)).h = h) : mt s t h (k : Int) := by
  have hp : pl (k : Int) := ⟨by omega, by omega⟩
  unfold arcQ at h2 h3 h4
  rw [if_pos hp] at h2 h3 h4
  unfold thB at h1
  rw [Bool.and_eq_true] at h1
  exact ⟨hp, h1.2, h2, h3, h4⟩
theorem mt_to {s : St} {t h : Int} {k : Nat} (hm : mt s t h (k : Int)) : thB s (k : Int) = true ∧ (arcQ s (k : Int)).cl = false ∧ (arcQ s (k : Int)).t = t ∧ (arcQ s (k : Int)).h = h := by
  obtain ⟨hp, h1, h2, h3, h4⟩ := hm
  unfold arcQ thB
  rw [if_pos hp]
  exact ⟨by rw [decide_eq_true hp]; exact h1, h2, h3, h4⟩
theorem arcQ_w {s : St} {k : Nat} (hk : k < 64) : (arcQ s (k : Int)).w = (s k).a.w := by
  unfold arcQ; rw [if_pos ⟨by omega, by omega⟩]; rfl
set_option maxHeartbeats 2000000 in
theorem graphBests_ct {w0 : World} {q v u : Int} {lv : Value} {l : List Chg} (hq : (Lit.int .u8 q).wf = true) (hx : SlIn w0 6 Chg.enc lv l) (hl : l.length ≤ 9223372036854775807) :
    CT Try.prog 3 [.int .u8 q, lv, .int .i64 v, .int .i64 u] w0 fun x w' => x = .bool true ∧ RowKit.Below w0.heap.size w0 w' := by
  have H := Holds.base_refl w0
  refine CT.enter (N := 110) Try.func3 rfl rfl rfl rfl ?_
  refine W.seq (fun K0 hK0 => ?_)
  refine W.region ?_
  refine O.ex (Ex.assign rfl) rfl ?_
  refine O.nil ?_
  refine hK0 _ _ _ ?_
  refine W.seq (fun K1 hK1 => ?_)
  refine W.seq (fun K2 hK2 => ?_)
  refine W.region ?_
  refine O.callF Try.call17 rfl rfl (CT.mono (awake08_ct (Holds.to (by assumption))) ?_)
  rintro _ w ⟨rfl, H⟩
  refine O.ex (by first | exact Ex.notD rfl | exact Ex.not rfl) rfl ?_
  refine O.nil ?_
  refine hK2 _ _ _ ?_
  refine W.known_f rfl (by first | exact decide_eq_true rfl | rfl | decide | exact decide_eq_false (by omega) | exact hfin | exact decide_eq_true (hnone.resolve_left hS).1) ?_
  refine W.skip ?_
  refine hK1 _ _ _ ?_
  refine W.seq (fun K3 hK3 => ?_)
  refine W.region ?_
  refine O.ex (Ex.move rfl) rfl ?_
  refine O.ex (Ex.move rfl) rfl ?_
  refine O.callF Try.call18 rfl rfl (CT.mono (made08_ct hq hx hl (Holds.to (by assumption))) ?_)
  rintro _ w ⟨g, r, hg, rfl, H⟩
  refine O.ex (Ex.move rfl) rfl ?_
  refine O.ex (Ex.extract rfl rfl) rfl ?_
  refine O.ex (Ex.extract rfl rfl) rfl ?_
  refine O.ex (Ex.assign rfl) rfl ?_
  refine O.ex (Ex.assign rfl) rfl ?_
  refine O.nil ?_
  refine hK3 _ _ _ ?_
  refine W.seq (fun K4 hK4 => ?_)
  refine W.seq (fun K5 hK5 => ?_)
  refine W.region ?_
  refine O.ex (Ex.move rfl) rfl ?_
  refine O.ex (Ex.nilEq Try.runUnderlying24 rfl rfl) rfl ?_
  refine O.nil ?_
  refine hK5 _ _ _ ?_
  refine W.known_f rfl (by first | exact decide_eq_true rfl | rfl | decide | exact decide_eq_false (by omega) | exact hfin | exact decide_eq_true (hnone.resolve_left hS).1) ?_
  refine W.skip ?_
  refine hK4 _ _ _ ?_
  refine W.seq (fun K6 hK6 => ?_)
  refine W.region ?_
  refine O.ex (Ex.move rfl) rfl ?_
  refine O.ex (Ex.move rfl) rfl ?_
  refine O.ex (Ex.move rfl) rfl ?_
  refine O.callF Try.call19 rfl rfl (CT.mono (gbest_ct hg (Holds.to (by assumption))) ?_)
  rintro _ w ⟨rfl, H⟩
  refine O.ex (Ex.move rfl) rfl ?_
  refine O.ex (Ex.extract rfl rfl) rfl ?_
  refine O.ex (Ex.extract rfl rfl) rfl ?_
  refine O.ex (Ex.assign rfl) rfl ?_
  refine O.ex (Ex.assign rfl) rfl ?_
  refine O.nil ?_
  refine hK6 _ _ _ ?_
  refine W.seq (fun K7 hK7 => ?_)
  refine W.region ?_
  refine O.ex (Ex.assign rfl) rfl ?_
  refine O.nil ?_
  refine hK7 _ _ _ ?_
  refine W.seq (fun K8 hK8 => ?_)
  refine W.seq (fun K9 hK9 => ?_)
  refine W.region ?_
  refine O.ex (Ex.assign rfl) rfl ?_
  refine O.nil ?_
  refine hK9 _ _ _ ?_
  refine W.block ?_
  obtain ⟨s, hs⟩ : ∃ s, s = doAll (1 + q % 24) 64 noS (l.take 150) := ⟨_, rfl⟩
  rw [← hs] at hg H
  rw [← hs]
  obtain ⟨n, hn⟩ : ∃ n, n = 1 + q % 24 := ⟨_, rfl⟩
  rw [← hn] at hg H
  refine W.loop (σ := Nat) (fun k => [(2, .int .i64 v), (3, .int .i64 u), (10, .pointer (some ⟨r, 0, none⟩)), (11, .int .i64 (best s v u).1), (12, .int .i64 (best s v u).2), (13, .bool (decide (0 ≤ (best s v u).2 ∧ (best s v u).2 < (k : Int)))), (14, .int .i64 (k : Int))]) (fun k ds w => ds = [] ∧ k ≤ 64 ∧ Holds w (Rg r n 64 s :: base w0 :: [])) (fun k => 64 - k) 0 ⟨rfl, rfl, rfl, rfl, rfl, congrArg (fun b => some (Value.bool b)) (decide_eq_false (by omega)).symm, rfl, trivial⟩ ⟨rfl, by omega, Holds.to (by assumption)⟩ ?_
  clear H
  rintro k _ w ⟨rfl, hk, H⟩
  refine W.seq (fun K10 hK10 => ?_)
  refine W.seq (fun K11 hK11 => ?_)
  refine W.region ?_
  refine O.ex (Ex.move rfl) rfl ?_
  refine O.ex (Ex.lss rfl rfl) rfl ?_
  refine O.nil ?_
  refine hK11 _ _ _ ?_
  first | refine W.cond_p rfl (fun hlt => ?_) (fun hge => ?_) | refine W.cond_b rfl (fun hlt => ?_) (fun hge => ?_)
  · refine W.skip ?_
    refine hK10 _ _ _ ?_
    refine W.seq (fun K12 hK12 => ?_)
    refine W.block ?_
    refine W.seq (fun K13 hK13 => ?_)
    refine W.region ?_
    refine O.ex (Ex.move rfl) rfl ?_
    refine O.ex (Ex.move rfl) rfl ?_
    refine O.callF Try.call20 rfl rfl (CT.mono (rarc_ct hg (Holds.to (by assumption))) ?_)
    rintro _ w ⟨rfl, H⟩
    refine O.ex (Ex.move rfl) rfl ?_
    refine O.ex (Ex.extract rfl rfl) rfl ?_
    refine O.ex (Ex.extract rfl rfl) rfl ?_
    refine O.allocP Try.zeroValue31 (fun b15 w H => ?_)
    first | refine O.storeAggP Try.sizeOf31 rfl rfl rfl rfl (fun w H => ?_) | refine O.storeAggN Try.sizeOf31 rfl rfl rfl (fun w H => ?_) rfl
    refine O.ex (Ex.assign rfl) rfl ?_
    refine O.nil ?_
    refine hK13 _ _ _ ?_
    refine W.seq (fun K14 hK14 => ?_)
    refine W.seq (fun K15 hK15 => ?_)
    refine W.region ?_
    refine O.ex (Ex.move rfl) rfl ?_
    refine O.ex (by first | exact Ex.notD rfl | exact Ex.not rfl) rfl ?_
    refine O.ex (Ex.move rfl) rfl ?_
    first | refine O.split_p (t := 46) rfl (fun hA => ?_) (fun hB => ?_) | refine O.split (t := 46) rfl (fun hA => ?_) (fun hB => ?_)
    · refine O.guard_f rfl rfl rfl rfl ?_
      refine O.guard_f rfl rfl rfl rfl ?_
      refine O.ex (Ex.pick_t rfl rfl) rfl ?_
      refine O.ex (Ex.move rfl) rfl ?_
      refine O.guard_f rfl rfl rfl rfl ?_
      refine O.guard_f rfl rfl rfl rfl ?_
      refine O.guard_f rfl rfl rfl rfl ?_
      refine O.guard_f rfl rfl rfl rfl ?_
      refine O.ex (Ex.pick_t rfl rfl) rfl ?_
      refine O.ex (Ex.move rfl) rfl ?_
      refine O.guard_f rfl rfl rfl rfl ?_
      refine O.guard_f rfl rfl rfl rfl ?_
      refine O.guard_f rfl rfl rfl rfl ?_
      refine O.guard_f rfl rfl rfl rfl ?_
      refine O.ex (Ex.pick_t rfl rfl) rfl ?_
      refine O.nil ?_
      refine hK15 _ _ _ ?_
      refine W.cond_t rfl ?_
      refine W.exit ?_
      refine hK12 _ _ _ ?_
      refine W.region ?_
      refine O.ex (Ex.move rfl) rfl ?_
      refine O.ex (by first | exact Ex.addI rfl rfl | exact Ex.add rfl rfl rfl) rfl ?_
      refine O.ex (Ex.assign rfl) rfl ?_
      refine O.nil ?_
      have hf := found_step (n := n) (most := 64) hg (t := v) (h := u) (k := k) (by omega)
      have hnm : ∀ (h : ¬ mt s v u (k : Int)), decide (0 ≤ (best s v u).2 ∧ (best s v u).2 < (k : Int)) = decide (0 ≤ (best s v u).2 ∧ (best s v u).2 < ((k + 1 : Nat) : Int)) := fun h => by
        have := hf.2 h
        exact decide_eq_decide.2 (by omega)
      first
      | (have hfo := hnm (fun hm => by
           obtain ⟨m1, m2, m3, m4⟩ := mt_to hm
           first
           | (rw [m1] at hA; exact absurd hA (by decide))
           | (rw [m2] at hC; exact absurd hC (by decide))
           | exact hE m3
           | exact hG m4)
         exact ⟨k + 1, ⟨rfl, rfl, rfl, rfl, rfl, congrArg (fun b => some (Value.bool b)) hfo, rfl, trivial⟩, ⟨rfl, by omega, Holds.to (by assumption)⟩, by omega⟩)
      | (have hfo : true = decide (0 ≤ (best s v u).2 ∧ (best s v u).2 < ((k + 1 : Nat) : Int)) := (decide_eq_true (by omega)).symm
         exact ⟨k + 1, ⟨rfl, rfl, rfl, rfl, rfl, congrArg (fun b => some (Value.bool b)) hfo, rfl, trivial⟩, ⟨rfl, by omega, Holds.to (by assumption)⟩, by omega⟩)
      | (have hfo : decide ((arcQ s (k : Int)).w = (best s v u).1) = decide (0 ≤ (best s v u).2 ∧ (best s v u).2 < ((k + 1 : Nat) : Int)) := by
           have hq := q2 hL.symm
           rw [decide_eq_true (by omega), decide_eq_true (by omega)]
         exact ⟨k + 1, ⟨rfl, rfl, rfl, rfl, rfl, congrArg (fun b => some (Value.bool b)) hfo, rfl, trivial⟩, ⟨rfl, by omega, Holds.to (by assumption)⟩, by omega⟩)
      | (have hfo : false = decide (0 ≤ (best s v u).2 ∧ (best s v u).2 < ((k + 1 : Nat) : Int)) := (decide_eq_false (by omega)).symm
         exact ⟨k + 1, ⟨rfl, rfl, rfl, rfl, rfl, congrArg (fun b => some (Value.bool b)) hfo, rfl, trivial⟩, ⟨rfl, by omega, Holds.to (by assumption)⟩, by omega⟩)
    · refine O.guard_t rfl rfl ?_
      refine O.ex (by first | exact Ex.field0 fld31_3 rfl | exact Ex.field fld31_3 rfl | exact Ex.fieldS fld31_3 rfl | exact Ex.fieldIn fld31_3 rfl) rfl ?_
      refine O.guard_t rfl rfl ?_
      refine O.ex (by first | exact Ex.loadRT Try.isAgg4 rfl | exact Ex.loadRA Try.isAgg4 rfl | exact Ex.loadRN Try.isAgg4 rfl | exact Ex.loadRM Try.isAgg4 rfl | exact Ex.loadMh Try.isAgg4 rfl | exact Ex.loadInF Try.isAgg4 rfl (Holds.to (by assumption)) | exact Ex.loadP Try.isAgg4 rfl | exact Ex.loadM Try.isAgg4 rfl | exact Ex.loadIn1 Try.isAgg4 rfl (Holds.to (by assumption)) | exact Ex.loadVc Try.isAgg4 rfl | exact Ex.loadR Try.isAgg4 rfl | exact Ex.loadQ Try.isAgg4 rfl) rfl ?_
      refine O.ex (Ex.pick_f rfl rfl) rfl ?_
      refine O.ex (Ex.move rfl) rfl ?_
      first | refine O.split_p (t := 50) rfl (fun hC => ?_) (fun hD => ?_) | refine O.split (t := 50) rfl (fun hC => ?_) (fun hD => ?_)
      · refine O.guard_f rfl rfl rfl rfl ?_
        refine O.guard_f rfl rfl rfl rfl ?_
        refine O.guard_f rfl rfl rfl rfl ?_
        refine O.guard_f rfl rfl rfl rfl ?_
        refine O.ex (Ex.pick_t rfl rfl) rfl ?_
        refine O.ex (Ex.move rfl) rfl ?_
        refine O.guard_f rfl rfl rfl rfl ?_
        refine O.guard_f rfl rfl rfl rfl ?_
        refine O.guard_f rfl rfl rfl rfl ?_
        refine O.guard_f rfl rfl rfl rfl ?_
        refine O.ex (Ex.pick_t rfl rfl) rfl ?_
        refine O.nil ?_
        refine hK15 _ _ _ ?_
        refine W.cond_t rfl ?_
        refine W.exit ?_
        refine hK12 _ _ _ ?_
        refine W.region ?_
        refine O.ex (Ex.move rfl) rfl ?_
        refine O.ex (by first | exact Ex.addI rfl rfl | exact Ex.add rfl rfl rfl) rfl ?_
        refine O.ex (Ex.assign rfl) rfl ?_
        refine O.nil ?_
        have hf := found_step (n := n) (most := 64) hg (t := v) (h := u) (k := k) (by omega)
        have hnm : ∀ (h : ¬ mt s v u (k : Int)), decide (0 ≤ (best s v u).2 ∧ (best s v u).2 < (k : Int)) = decide (0 ≤ (best s v u).2 ∧ (best s v u).2 < ((k + 1 : Nat) : Int)) := fun h => by
          have := hf.2 h
          exact decide_eq_decide.2 (by omega)
        first
        | (have hfo := hnm (fun hm => by
             obtain ⟨m1, m2, m3, m4⟩ := mt_to hm
             first
             | (rw [m1] at hA; exact absurd hA (by decide))
             | (rw [m2] at hC; exact absurd hC (by decide))
             | exact hE m3
             | exact hG m4)
           exact ⟨k + 1, ⟨rfl, rfl, rfl, rfl, rfl, congrArg (fun b => some (Value.bool b)) hfo, rfl, trivial⟩, ⟨rfl, by omega, Holds.to (by assumption)⟩, by omega⟩)
        | (have hfo : true = decide (0 ≤ (best s v u).2 ∧ (best s v u).2 < ((k + 1 : Nat) : Int)) := (decide_eq_true (by omega)).symm
           exact ⟨k + 1, ⟨rfl, rfl, rfl, rfl, rfl, congrArg (fun b => some (Value.bool b)) hfo, rfl, trivial⟩, ⟨rfl, by omega, Holds.to (by assumption)⟩, by omega⟩)
        | (have hfo : decide ((arcQ s (k : Int)).w = (best s v u).1) = decide (0 ≤ (best s v u).2 ∧ (best s v u).2 < ((k + 1 : Nat) : Int)) := by
             have hq := q2 hL.symm
             rw [decide_eq_true (by omega), decide_eq_true (by omega)]
           exact ⟨k + 1, ⟨rfl, rfl, rfl, rfl, rfl, congrArg (fun b => some (Value.bool b)) hfo, rfl, trivial⟩, ⟨rfl, by omega, Holds.to (by assumption)⟩, by omega⟩)
        | (have hfo : false = decide (0 ≤ (best s v u).2 ∧ (best s v u).2 < ((k + 1 : Nat) : Int)) := (decide_eq_false (by omega)).symm
           exact ⟨k + 1, ⟨rfl, rfl, rfl, rfl, rfl, congrArg (fun b => some (Value.bool b)) hfo, rfl, trivial⟩, ⟨rfl, by omega, Holds.to (by assumption)⟩, by omega⟩)
      · refine O.guard_t rfl rfl ?_
        refine O.ex (by first | exact Ex.field0 fld31_0 rfl | exact Ex.field fld31_0 rfl | exact Ex.fieldS fld31_0 rfl | exact Ex.fieldIn fld31_0 rfl) rfl ?_
        refine O.guard_t rfl rfl ?_
        refine O.ex (by first | exact Ex.loadRT Try.isAgg3 rfl | exact Ex.loadRA Try.isAgg3 rfl | exact Ex.loadRN Try.isAgg3 rfl | exact Ex.loadRM Try.isAgg3 rfl | exact Ex.loadMh Try.isAgg3 rfl | exact Ex.loadInF Try.isAgg3 rfl (Holds.to (by assumption)) | exact Ex.loadP Try.isAgg3 rfl | exact Ex.loadM Try.isAgg3 rfl | exact Ex.loadIn1 Try.isAgg3 rfl (Holds.to (by assumption)) | exact Ex.loadVc Try.isAgg3 rfl | exact Ex.loadR Try.isAgg3 rfl | exact Ex.loadQ Try.isAgg3 rfl) rfl ?_
        refine O.guard_t rfl rfl ?_
        refine O.ex (Ex.move rfl) rfl ?_
        refine O.guard_t rfl rfl ?_
        refine O.ex (Ex.neqI rfl rfl) rfl ?_
        refine O.ex (Ex.pick_f rfl rfl) rfl ?_
        refine O.ex (Ex.move rfl) rfl ?_
        first | refine O.split_p (t := 56) rfl (fun hE => ?_) (fun hF => ?_) | refine O.split (t := 56) rfl (fun hE => ?_) (fun hF => ?_)
        · refine O.guard_f rfl rfl rfl rfl ?_
          refine O.guard_f rfl rfl rfl rfl ?_
          refine O.guard_f rfl rfl rfl rfl ?_
          refine O.guard_f rfl rfl rfl rfl ?_
          refine O.ex (Ex.pick_t rfl rfl) rfl ?_
          refine O.nil ?_
          refine hK15 _ _ _ ?_
          refine W.cond_t rfl ?_
          refine W.exit ?_
          refine hK12 _ _ _ ?_
          refine W.region ?_
          refine O.ex (Ex.move rfl) rfl ?_
          refine O.ex (by first | exact Ex.addI rfl rfl | exact Ex.add rfl rfl rfl) rfl ?_
          refine O.ex (Ex.assign rfl) rfl ?_
          refine O.nil ?_
          have hf := found_step (n := n) (most := 64) hg (t := v) (h := u) (k := k) (by omega)
          have hnm : ∀ (h : ¬ mt s v u (k : Int)), decide (0 ≤ (best s v u).2 ∧ (best s v u).2 < (k : Int)) = decide (0 ≤ (best s v u).2 ∧ (best s v u).2 < ((k + 1 : Nat) : Int)) := fun h => by
            have := hf.2 h
            exact decide_eq_decide.2 (by omega)
          first
          | (have hfo := hnm (fun hm => by
               obtain ⟨m1, m2, m3, m4⟩ := mt_to hm
               first
               | (rw [m1] at hA; exact absurd hA (by decide))
               | (rw [m2] at hC; exact absurd hC (by decide))
               | exact hE m3
               | exact hG m4)
             exact ⟨k + 1, ⟨rfl, rfl, rfl, rfl, rfl, congrArg (fun b => some (Value.bool b)) hfo, rfl, trivial⟩, ⟨rfl, by omega, Holds.to (by assumption)⟩, by omega⟩)
          | (have hfo : true = decide (0 ≤ (best s v u).2 ∧ (best s v u).2 < ((k + 1 : Nat) : Int)) := (decide_eq_true (by omega)).symm
             exact ⟨k + 1, ⟨rfl, rfl, rfl, rfl, rfl, congrArg (fun b => some (Value.bool b)) hfo, rfl, trivial⟩, ⟨rfl, by omega, Holds.to (by assumption)⟩, by omega⟩)
          | (have hfo : decide ((arcQ s (k : Int)).w = (best s v u).1) = decide (0 ≤ (best s v u).2 ∧ (best s v u).2 < ((k + 1 : Nat) : Int)) := by
               have hq := q2 hL.symm
               rw [decide_eq_true (by omega), decide_eq_true (by omega)]
             exact ⟨k + 1, ⟨rfl, rfl, rfl, rfl, rfl, congrArg (fun b => some (Value.bool b)) hfo, rfl, trivial⟩, ⟨rfl, by omega, Holds.to (by assumption)⟩, by omega⟩)
          | (have hfo : false = decide (0 ≤ (best s v u).2 ∧ (best s v u).2 < ((k + 1 : Nat) : Int)) := (decide_eq_false (by omega)).symm
             exact ⟨k + 1, ⟨rfl, rfl, rfl, rfl, rfl, congrArg (fun b => some (Value.bool b)) hfo, rfl, trivial⟩, ⟨rfl, by omega, Holds.to (by assumption)⟩, by omega⟩)
        · refine O.guard_t rfl rfl ?_
          refine O.ex (by first | exact Ex.field0 fld31_1 rfl | exact Ex.field fld31_1 rfl | exact Ex.fieldS fld31_1 rfl | exact Ex.fieldIn fld31_1 rfl) rfl ?_
          refine O.guard_t rfl rfl ?_
          refine O.ex (by first | exact Ex.loadRT Try.isAgg3 rfl | exact Ex.loadRA Try.isAgg3 rfl | exact Ex.loadRN Try.isAgg3 rfl | exact Ex.loadRM Try.isAgg3 rfl | exact Ex.loadMh Try.isAgg3 rfl | exact Ex.loadInF Try.isAgg3 rfl (Holds.to (by assumption)) | exact Ex.loadP Try.isAgg3 rfl | exact Ex.loadM Try.isAgg3 rfl | exact Ex.loadIn1 Try.isAgg3 rfl (Holds.to (by assumption)) | exact Ex.loadVc Try.isAgg3 rfl | exact Ex.loadR Try.isAgg3 rfl | exact Ex.loadQ Try.isAgg3 rfl) rfl ?_
          refine O.guard_t rfl rfl ?_
          refine O.ex (Ex.move rfl) rfl ?_
          refine O.guard_t rfl rfl ?_
          refine O.ex (Ex.neqI rfl rfl) rfl ?_
          refine O.ex (Ex.pick_f rfl rfl) rfl ?_
          refine O.nil ?_
          refine hK15 _ _ _ ?_
          first | refine W.cond_p rfl (fun hG => ?_) (fun hI => ?_) | refine W.cond_b rfl (fun hG => ?_) (fun hI => ?_)
          · refine W.exit ?_
            refine hK12 _ _ _ ?_
            refine W.region ?_
            refine O.ex (Ex.move rfl) rfl ?_
            refine O.ex (by first | exact Ex.addI rfl rfl | exact Ex.add rfl rfl rfl) rfl ?_
            refine O.ex (Ex.assign rfl) rfl ?_
            refine O.nil ?_
            have hf := found_step (n := n) (most := 64) hg (t := v) (h := u) (k := k) (by omega)
            have hnm : ∀ (h : ¬ mt s v u (k : Int)), decide (0 ≤ (best s v u).2 ∧ (best s v u).2 < (k : Int)) = decide (0 ≤ (best s v u).2 ∧ (best s v u).2 < ((k + 1 : Nat) : Int)) := fun h => by
              have := hf.2 h
              exact decide_eq_decide.2 (by omega)
            first
            | (have hfo := hnm (fun hm => by
                 obtain ⟨m1, m2, m3, m4⟩ := mt_to hm
                 first
                 | (rw [m1] at hA; exact absurd hA (by decide))
                 | (rw [m2] at hC; exact absurd hC (by decide))
                 | exact hE m3
                 | exact hG m4)
               exact ⟨k + 1, ⟨rfl, rfl, rfl, rfl, rfl, congrArg (fun b => some (Value.bool b)) hfo, rfl, trivial⟩, ⟨rfl, by omega, Holds.to (by assumption)⟩, by omega⟩)
            | (have hfo : true = decide (0 ≤ (best s v u).2 ∧ (best s v u).2 < ((k + 1 : Nat) : Int)) := (decide_eq_true (by omega)).symm
               exact ⟨k + 1, ⟨rfl, rfl, rfl, rfl, rfl, congrArg (fun b => some (Value.bool b)) hfo, rfl, trivial⟩, ⟨rfl, by omega, Holds.to (by assumption)⟩, by omega⟩)
            | (have hfo : decide ((arcQ s (k : Int)).w = (best s v u).1) = decide (0 ≤ (best s v u).2 ∧ (best s v u).2 < ((k + 1 : Nat) : Int)) := by
                 have hq := q2 hL.symm
                 rw [decide_eq_true (by omega), decide_eq_true (by omega)]
               exact ⟨k + 1, ⟨rfl, rfl, rfl, rfl, rfl, congrArg (fun b => some (Value.bool b)) hfo, rfl, trivial⟩, ⟨rfl, by omega, Holds.to (by assumption)⟩, by omega⟩)
            | (have hfo : false = decide (0 ≤ (best s v u).2 ∧ (best s v u).2 < ((k + 1 : Nat) : Int)) := (decide_eq_false (by omega)).symm
               exact ⟨k + 1, ⟨rfl, rfl, rfl, rfl, rfl, congrArg (fun b => some (Value.bool b)) hfo, rfl, trivial⟩, ⟨rfl, by omega, Holds.to (by assumption)⟩, by omega⟩)
          · refine W.skip ?_
            refine hK14 _ _ _ ?_
            refine W.seq (fun K16 hK16 => ?_)
            refine W.region ?_
            have hm : mt s v u (k : Int) := mt_of (by omega) (by simpa using hB) (by simpa using hD) (Decidable.not_not.1 hF) (Decidable.not_not.1 hI)
            obtain ⟨q0, q1, q2⟩ := (found_step (n := n) (most := 64) hg (t := v) (h := u) (k := k) (by omega)).1 hm
            have hw := arcQ_w (s := s) (k := k) (by omega)
            refine O.ex (Ex.move rfl) rfl ?_
            refine O.ex (Ex.move rfl) rfl ?_
            first | refine O.split_p (t := 63) rfl (fun hJ => ?_) (fun hK => ?_) | refine O.split (t := 63) rfl (fun hJ => ?_) (fun hK => ?_)
            · refine O.guard_f rfl rfl rfl rfl ?_
              refine O.guard_f rfl rfl rfl rfl ?_
              refine O.guard_f rfl rfl rfl rfl ?_
              refine O.guard_f rfl rfl rfl rfl ?_
              refine O.guard_u rfl rfl rfl ?_
              refine O.guard_u rfl rfl rfl ?_
              refine O.guard_u rfl rfl rfl ?_
              refine O.guard_u rfl rfl rfl ?_
              refine O.guard_f rfl rfl rfl rfl ?_
              refine O.ex (Ex.pick_t rfl rfl) rfl ?_
              refine O.ex (Ex.assign rfl) rfl ?_
              refine O.nil ?_
              refine hK16 _ _ _ ?_
              refine W.seq (fun K17 hK17 => ?_)
              refine W.region ?_
              refine O.ex (Ex.move rfl) rfl ?_
              refine O.ex (Ex.lss rfl rfl) rfl ?_
              refine O.ex (Ex.move rfl) rfl ?_
              refine O.known (t := 76) (c := false) rfl (by first | exact decide_eq_true rfl | rfl | decide | exact decide_eq_false (by omega) | exact hfin | exact decide_eq_true (hnone.resolve_left hS).1) ?_
              refine O.guard_t rfl rfl ?_
              refine O.ex (by first | exact Ex.field0 fld31_2 rfl | exact Ex.field fld31_2 rfl | exact Ex.fieldS fld31_2 rfl | exact Ex.fieldIn fld31_2 rfl) rfl ?_
              refine O.guard_t rfl rfl ?_
              refine O.ex (by first | exact Ex.loadRT Try.isAgg3 rfl | exact Ex.loadRA Try.isAgg3 rfl | exact Ex.loadRN Try.isAgg3 rfl | exact Ex.loadRM Try.isAgg3 rfl | exact Ex.loadMh Try.isAgg3 rfl | exact Ex.loadInF Try.isAgg3 rfl (Holds.to (by assumption)) | exact Ex.loadP Try.isAgg3 rfl | exact Ex.loadM Try.isAgg3 rfl | exact Ex.loadIn1 Try.isAgg3 rfl (Holds.to (by assumption)) | exact Ex.loadVc Try.isAgg3 rfl | exact Ex.loadR Try.isAgg3 rfl | exact Ex.loadQ Try.isAgg3 rfl) rfl ?_
              refine O.guard_t rfl rfl ?_
              refine O.ex (Ex.move rfl) rfl ?_
              refine O.guard_t rfl rfl ?_
              refine O.ex (Ex.lss rfl rfl) rfl ?_
              refine O.ex (Ex.pick_f rfl rfl) rfl ?_
              refine O.ex (Ex.move rfl) rfl ?_
              refine O.known (t := 82) (c := false) rfl (by first | exact decide_eq_true rfl | rfl | decide | exact decide_eq_false (by omega) | exact hfin | exact decide_eq_true (hnone.resolve_left hS).1) ?_
              refine O.guard_t rfl rfl ?_
              refine O.ex (by first | exact Ex.field0 fld31_2 rfl | exact Ex.field fld31_2 rfl | exact Ex.fieldS fld31_2 rfl | exact Ex.fieldIn fld31_2 rfl) rfl ?_
              refine O.guard_t rfl rfl ?_
              refine O.ex (by first | exact Ex.loadRT Try.isAgg3 rfl | exact Ex.loadRA Try.isAgg3 rfl | exact Ex.loadRN Try.isAgg3 rfl | exact Ex.loadRM Try.isAgg3 rfl | exact Ex.loadMh Try.isAgg3 rfl | exact Ex.loadInF Try.isAgg3 rfl (Holds.to (by assumption)) | exact Ex.loadP Try.isAgg3 rfl | exact Ex.loadM Try.isAgg3 rfl | exact Ex.loadIn1 Try.isAgg3 rfl (Holds.to (by assumption)) | exact Ex.loadVc Try.isAgg3 rfl | exact Ex.loadR Try.isAgg3 rfl | exact Ex.loadQ Try.isAgg3 rfl) rfl ?_
              refine O.guard_t rfl rfl ?_
              refine O.ex (Ex.move rfl) rfl ?_
              refine O.guard_t rfl rfl ?_
              refine O.ex (Ex.eqlI rfl rfl) rfl ?_
              refine O.guard_t rfl rfl ?_
              refine O.ex (Ex.move rfl) rfl ?_
              first | refine O.split_p (t := 87) rfl (fun hP => ?_) (fun hQ => ?_) | refine O.split (t := 87) rfl (fun hP => ?_) (fun hQ => ?_)
              · refine O.guard_t rfl rfl ?_
                refine O.ex (Ex.move rfl) rfl ?_
                refine O.guard_t rfl rfl ?_
                refine O.ex (Ex.move rfl) rfl ?_
                refine O.guard_t rfl rfl ?_
                refine O.ex (Ex.lss rfl rfl) rfl ?_
                refine O.guard_t rfl rfl ?_
                refine O.ex (Ex.pick_t rfl rfl) rfl ?_
                refine O.ex (Ex.pick_f rfl rfl) rfl ?_
                refine O.nil ?_
                refine hK17 _ _ _ ?_
                refine W.known_f rfl (by first | exact decide_eq_true rfl | rfl | decide | exact decide_eq_false (by omega) | exact hfin | exact decide_eq_true (hnone.resolve_left hS).1) ?_
                refine W.skip ?_
                refine hK12 _ _ _ ?_
                refine W.region ?_
                refine O.ex (Ex.move rfl) rfl ?_
                refine O.ex (by first | exact Ex.addI rfl rfl | exact Ex.add rfl rfl rfl) rfl ?_
                refine O.ex (Ex.assign rfl) rfl ?_
                refine O.nil ?_
                have hf := found_step (n := n) (most := 64) hg (t := v) (h := u) (k := k) (by omega)
                have hnm : ∀ (h : ¬ mt s v u (k : Int)), decide (0 ≤ (best s v u).2 ∧ (best s v u).2 < (k : Int)) = decide (0 ≤ (best s v u).2 ∧ (best s v u).2 < ((k + 1 : Nat) : Int)) := fun h => by
                  have := hf.2 h
                  exact decide_eq_decide.2 (by omega)
                first
                | (have hfo := hnm (fun hm => by
                     obtain ⟨m1, m2, m3, m4⟩ := mt_to hm
                     first
                     | (rw [m1] at hA; exact absurd hA (by decide))
                     | (rw [m2] at hC; exact absurd hC (by decide))
                     | exact hE m3
                     | exact hG m4)
                   exact ⟨k + 1, ⟨rfl, rfl, rfl, rfl, rfl, congrArg (fun b => some (Value.bool b)) hfo, rfl, trivial⟩, ⟨rfl, by omega, Holds.to (by assumption)⟩, by omega⟩)
                | (have hfo : true = decide (0 ≤ (best s v u).2 ∧ (best s v u).2 < ((k + 1 : Nat) : Int)) := (decide_eq_true (by omega)).symm
                   exact ⟨k + 1, ⟨rfl, rfl, rfl, rfl, rfl, congrArg (fun b => some (Value.bool b)) hfo, rfl, trivial⟩, ⟨rfl, by omega, Holds.to (by assumption)⟩, by omega⟩)
                | (have hfo : decide ((arcQ s (k : Int)).w = (best s v u).1) = decide (0 ≤ (best s v u).2 ∧ (best s v u).2 < ((k + 1 : Nat) : Int)) := by
                     have hq := q2 hL.symm
                     rw [decide_eq_true (by omega), decide_eq_true (by omega)]
                   exact ⟨k + 1, ⟨rfl, rfl, rfl, rfl, rfl, congrArg (fun b => some (Value.bool b)) hfo, rfl, trivial⟩, ⟨rfl, by omega, Holds.to (by assumption)⟩, by omega⟩)
                | (have hfo : false = decide (0 ≤ (best s v u).2 ∧ (best s v u).2 < ((k + 1 : Nat) : Int)) := (decide_eq_false (by omega)).symm
                   exact ⟨k + 1, ⟨rfl, rfl, rfl, rfl, rfl, congrArg (fun b => some (Value.bool b)) hfo, rfl, trivial⟩, ⟨rfl, by omega, Holds.to (by assumption)⟩, by omega⟩)
              · refine O.guard_f rfl rfl rfl rfl ?_
                refine O.guard_f rfl rfl rfl rfl ?_
                refine O.guard_f rfl rfl rfl rfl ?_
                refine O.guard_t rfl rfl ?_
                refine O.ex (Ex.pick_f rfl rfl) rfl ?_
                refine O.ex (Ex.pick_f rfl rfl) rfl ?_
                refine O.nil ?_
                refine hK17 _ _ _ ?_
                refine W.cond_f rfl ?_
                refine W.skip ?_
                refine hK12 _ _ _ ?_
                refine W.region ?_
                refine O.ex (Ex.move rfl) rfl ?_
                refine O.ex (by first | exact Ex.addI rfl rfl | exact Ex.add rfl rfl rfl) rfl ?_
                refine O.ex (Ex.assign rfl) rfl ?_
                refine O.nil ?_
                have hf := found_step (n := n) (most := 64) hg (t := v) (h := u) (k := k) (by omega)
                have hnm : ∀ (h : ¬ mt s v u (k : Int)), decide (0 ≤ (best s v u).2 ∧ (best s v u).2 < (k : Int)) = decide (0 ≤ (best s v u).2 ∧ (best s v u).2 < ((k + 1 : Nat) : Int)) := fun h => by
                  have := hf.2 h
                  exact decide_eq_decide.2 (by omega)
                first
                | (have hfo := hnm (fun hm => by
                     obtain ⟨m1, m2, m3, m4⟩ := mt_to hm
                     first
                     | (rw [m1] at hA; exact absurd hA (by decide))
                     | (rw [m2] at hC; exact absurd hC (by decide))
                     | exact hE m3
                     | exact hG m4)
                   exact ⟨k + 1, ⟨rfl, rfl, rfl, rfl, rfl, congrArg (fun b => some (Value.bool b)) hfo, rfl, trivial⟩, ⟨rfl, by omega, Holds.to (by assumption)⟩, by omega⟩)
                | (have hfo : true = decide (0 ≤ (best s v u).2 ∧ (best s v u).2 < ((k + 1 : Nat) : Int)) := (decide_eq_true (by omega)).symm
                   exact ⟨k + 1, ⟨rfl, rfl, rfl, rfl, rfl, congrArg (fun b => some (Value.bool b)) hfo, rfl, trivial⟩, ⟨rfl, by omega, Holds.to (by assumption)⟩, by omega⟩)
                | (have hfo : decide ((arcQ s (k : Int)).w = (best s v u).1) = decide (0 ≤ (best s v u).2 ∧ (best s v u).2 < ((k + 1 : Nat) : Int)) := by
                     have hq := q2 hL.symm
                     rw [decide_eq_true (by omega), decide_eq_true (by omega)]
                   exact ⟨k + 1, ⟨rfl, rfl, rfl, rfl, rfl, congrArg (fun b => some (Value.bool b)) hfo, rfl, trivial⟩, ⟨rfl, by omega, Holds.to (by assumption)⟩, by omega⟩)
                | (have hfo : false = decide (0 ≤ (best s v u).2 ∧ (best s v u).2 < ((k + 1 : Nat) : Int)) := (decide_eq_false (by omega)).symm
                   exact ⟨k + 1, ⟨rfl, rfl, rfl, rfl, rfl, congrArg (fun b => some (Value.bool b)) hfo, rfl, trivial⟩, ⟨rfl, by omega, Holds.to (by assumption)⟩, by omega⟩)
            · refine O.guard_t rfl rfl ?_
              refine O.ex (Ex.move rfl) rfl ?_
              refine O.guard_t rfl rfl ?_
              refine O.ex (Ex.move rfl) rfl ?_
              refine O.guard_t rfl rfl ?_
              refine O.ex (Ex.eqlI rfl rfl) rfl ?_
              refine O.guard_t rfl rfl ?_
              refine O.ex (Ex.move rfl) rfl ?_
              first | refine O.split_p (t := 67) rfl (fun hL => ?_) (fun hM => ?_) | refine O.split (t := 67) rfl (fun hL => ?_) (fun hM => ?_)
              · refine O.guard_t rfl rfl ?_
                refine O.ex (by first | exact Ex.field0 fld31_2 rfl | exact Ex.field fld31_2 rfl | exact Ex.fieldS fld31_2 rfl | exact Ex.fieldIn fld31_2 rfl) rfl ?_
                refine O.guard_t rfl rfl ?_
                refine O.ex (by first | exact Ex.loadRT Try.isAgg3 rfl | exact Ex.loadRA Try.isAgg3 rfl | exact Ex.loadRN Try.isAgg3 rfl | exact Ex.loadRM Try.isAgg3 rfl | exact Ex.loadMh Try.isAgg3 rfl | exact Ex.loadInF Try.isAgg3 rfl (Holds.to (by assumption)) | exact Ex.loadP Try.isAgg3 rfl | exact Ex.loadM Try.isAgg3 rfl | exact Ex.loadIn1 Try.isAgg3 rfl (Holds.to (by assumption)) | exact Ex.loadVc Try.isAgg3 rfl | exact Ex.loadR Try.isAgg3 rfl | exact Ex.loadQ Try.isAgg3 rfl) rfl ?_
                refine O.guard_t rfl rfl ?_
                refine O.ex (Ex.move rfl) rfl ?_
                refine O.guard_t rfl rfl ?_
                refine O.ex (Ex.eqlI rfl rfl) rfl ?_
                refine O.guard_t rfl rfl ?_
                refine O.ex (Ex.pick_t rfl rfl) rfl ?_
                refine O.ex (Ex.pick_f rfl rfl) rfl ?_
                refine O.ex (Ex.assign rfl) rfl ?_
                refine O.nil ?_
                refine hK16 _ _ _ ?_
                refine W.seq (fun K18 hK18 => ?_)
                refine W.region ?_
                refine O.ex (Ex.move rfl) rfl ?_
                refine O.ex (Ex.lss rfl rfl) rfl ?_
                refine O.ex (Ex.move rfl) rfl ?_
                refine O.known (t := 76) (c := false) rfl (by first | exact decide_eq_true rfl | rfl | decide | exact decide_eq_false (by omega) | exact hfin | exact decide_eq_true (hnone.resolve_left hS).1) ?_
                refine O.guard_t rfl rfl ?_
                refine O.ex (by first | exact Ex.field0 fld31_2 rfl | exact Ex.field fld31_2 rfl | exact Ex.fieldS fld31_2 rfl | exact Ex.fieldIn fld31_2 rfl) rfl ?_
                refine O.guard_t rfl rfl ?_
                refine O.ex (by first | exact Ex.loadRT Try.isAgg3 rfl | exact Ex.loadRA Try.isAgg3 rfl | exact Ex.loadRN Try.isAgg3 rfl | exact Ex.loadRM Try.isAgg3 rfl | exact Ex.loadMh Try.isAgg3 rfl | exact Ex.loadInF Try.isAgg3 rfl (Holds.to (by assumption)) | exact Ex.loadP Try.isAgg3 rfl | exact Ex.loadM Try.isAgg3 rfl | exact Ex.loadIn1 Try.isAgg3 rfl (Holds.to (by assumption)) | exact Ex.loadVc Try.isAgg3 rfl | exact Ex.loadR Try.isAgg3 rfl | exact Ex.loadQ Try.isAgg3 rfl) rfl ?_
                refine O.guard_t rfl rfl ?_
                refine O.ex (Ex.move rfl) rfl ?_
                refine O.guard_t rfl rfl ?_
                refine O.ex (Ex.lss rfl rfl) rfl ?_
                refine O.ex (Ex.pick_f rfl rfl) rfl ?_
                refine O.ex (Ex.move rfl) rfl ?_
                refine O.known (t := 82) (c := false) rfl (by first | exact decide_eq_true rfl | rfl | decide | exact decide_eq_false (by omega) | exact hfin | exact decide_eq_true (hnone.resolve_left hS).1) ?_
                refine O.guard_t rfl rfl ?_
                refine O.ex (by first | exact Ex.field0 fld31_2 rfl | exact Ex.field fld31_2 rfl | exact Ex.fieldS fld31_2 rfl | exact Ex.fieldIn fld31_2 rfl) rfl ?_
                refine O.guard_t rfl rfl ?_
                refine O.ex (by first | exact Ex.loadRT Try.isAgg3 rfl | exact Ex.loadRA Try.isAgg3 rfl | exact Ex.loadRN Try.isAgg3 rfl | exact Ex.loadRM Try.isAgg3 rfl | exact Ex.loadMh Try.isAgg3 rfl | exact Ex.loadInF Try.isAgg3 rfl (Holds.to (by assumption)) | exact Ex.loadP Try.isAgg3 rfl | exact Ex.loadM Try.isAgg3 rfl | exact Ex.loadIn1 Try.isAgg3 rfl (Holds.to (by assumption)) | exact Ex.loadVc Try.isAgg3 rfl | exact Ex.loadR Try.isAgg3 rfl | exact Ex.loadQ Try.isAgg3 rfl) rfl ?_
                refine O.guard_t rfl rfl ?_
                refine O.ex (Ex.move rfl) rfl ?_
                refine O.guard_t rfl rfl ?_
                refine O.ex (Ex.eqlI rfl rfl) rfl ?_
                refine O.guard_t rfl rfl ?_
                refine O.ex (Ex.move rfl) rfl ?_
                first | refine O.split_p (t := 87) rfl (fun hP => ?_) (fun hQ => ?_) | refine O.split (t := 87) rfl (fun hP => ?_) (fun hQ => ?_)
                · refine O.guard_t rfl rfl ?_
                  refine O.ex (Ex.move rfl) rfl ?_
                  refine O.guard_t rfl rfl ?_
                  refine O.ex (Ex.move rfl) rfl ?_
                  refine O.guard_t rfl rfl ?_
                  refine O.ex (Ex.lss rfl rfl) rfl ?_
                  refine O.guard_t rfl rfl ?_
                  refine O.ex (Ex.pick_t rfl rfl) rfl ?_
                  refine O.ex (Ex.pick_f rfl rfl) rfl ?_
                  refine O.nil ?_
                  refine hK18 _ _ _ ?_
                  refine W.known_f rfl (by first | exact decide_eq_true rfl | rfl | decide | exact decide_eq_false (by omega) | exact hfin | exact decide_eq_true (hnone.resolve_left hS).1) ?_
                  refine W.skip ?_
                  refine hK12 _ _ _ ?_
                  refine W.region ?_
                  refine O.ex (Ex.move rfl) rfl ?_
                  refine O.ex (by first | exact Ex.addI rfl rfl | exact Ex.add rfl rfl rfl) rfl ?_
                  refine O.ex (Ex.assign rfl) rfl ?_
                  refine O.nil ?_
                  have hf := found_step (n := n) (most := 64) hg (t := v) (h := u) (k := k) (by omega)
                  have hnm : ∀ (h : ¬ mt s v u (k : Int)), decide (0 ≤ (best s v u).2 ∧ (best s v u).2 < (k : Int)) = decide (0 ≤ (best s v u).2 ∧ (best s v u).2 < ((k + 1 : Nat) : Int)) := fun h => by
                    have := hf.2 h
                    exact decide_eq_decide.2 (by omega)
                  first
                  | (have hfo := hnm (fun hm => by
                       obtain ⟨m1, m2, m3, m4⟩ := mt_to hm
                       first
                       | (rw [m1] at hA; exact absurd hA (by decide))
                       | (rw [m2] at hC; exact absurd hC (by decide))
                       | exact hE m3
                       | exact hG m4)
                     exact ⟨k + 1, ⟨rfl, rfl, rfl, rfl, rfl, congrArg (fun b => some (Value.bool b)) hfo, rfl, trivial⟩, ⟨rfl, by omega, Holds.to (by assumption)⟩, by omega⟩)
                  | (have hfo : true = decide (0 ≤ (best s v u).2 ∧ (best s v u).2 < ((k + 1 : Nat) : Int)) := (decide_eq_true (by omega)).symm
                     exact ⟨k + 1, ⟨rfl, rfl, rfl, rfl, rfl, congrArg (fun b => some (Value.bool b)) hfo, rfl, trivial⟩, ⟨rfl, by omega, Holds.to (by assumption)⟩, by omega⟩)
                  | (have hfo : decide ((arcQ s (k : Int)).w = (best s v u).1) = decide (0 ≤ (best s v u).2 ∧ (best s v u).2 < ((k + 1 : Nat) : Int)) := by
                       have hq := q2 hL.symm
                       rw [decide_eq_true (by omega), decide_eq_true (by omega)]
                     exact ⟨k + 1, ⟨rfl, rfl, rfl, rfl, rfl, congrArg (fun b => some (Value.bool b)) hfo, rfl, trivial⟩, ⟨rfl, by omega, Holds.to (by assumption)⟩, by omega⟩)
                  | (have hfo : false = decide (0 ≤ (best s v u).2 ∧ (best s v u).2 < ((k + 1 : Nat) : Int)) := (decide_eq_false (by omega)).symm
                     exact ⟨k + 1, ⟨rfl, rfl, rfl, rfl, rfl, congrArg (fun b => some (Value.bool b)) hfo, rfl, trivial⟩, ⟨rfl, by omega, Holds.to (by assumption)⟩, by omega⟩)
                · refine O.guard_f rfl rfl rfl rfl ?_
                  refine O.guard_f rfl rfl rfl rfl ?_
                  refine O.guard_f rfl rfl rfl rfl ?_
                  refine O.guard_t rfl rfl ?_
                  refine O.ex (Ex.pick_f rfl rfl) rfl ?_
                  refine O.ex (Ex.pick_f rfl rfl) rfl ?_
                  refine O.nil ?_
                  refine hK18 _ _ _ ?_
                  refine W.cond_f rfl ?_
                  refine W.skip ?_
                  refine hK12 _ _ _ ?_
                  refine W.region ?_
                  refine O.ex (Ex.move rfl) rfl ?_
                  refine O.ex (by first | exact Ex.addI rfl rfl | exact Ex.add rfl rfl rfl) rfl ?_
                  refine O.ex (Ex.assign rfl) rfl ?_
                  refine O.nil ?_
                  have hf := found_step (n := n) (most := 64) hg (t := v) (h := u) (k := k) (by omega)
                  have hnm : ∀ (h : ¬ mt s v u (k : Int)), decide (0 ≤ (best s v u).2 ∧ (best s v u).2 < (k : Int)) = decide (0 ≤ (best s v u).2 ∧ (best s v u).2 < ((k + 1 : Nat) : Int)) := fun h => by
                    have := hf.2 h
                    exact decide_eq_decide.2 (by omega)
                  first
                  | (have hfo := hnm (fun hm => by
                       obtain ⟨m1, m2, m3, m4⟩ := mt_to hm
                       first
                       | (rw [m1] at hA; exact absurd hA (by decide))
                       | (rw [m2] at hC; exact absurd hC (by decide))
                       | exact hE m3
                       | exact hG m4)
                     exact ⟨k + 1, ⟨rfl, rfl, rfl, rfl, rfl, congrArg (fun b => some (Value.bool b)) hfo, rfl, trivial⟩, ⟨rfl, by omega, Holds.to (by assumption)⟩, by omega⟩)
                  | (have hfo : true = decide (0 ≤ (best s v u).2 ∧ (best s v u).2 < ((k + 1 : Nat) : Int)) := (decide_eq_true (by omega)).symm
                     exact ⟨k + 1, ⟨rfl, rfl, rfl, rfl, rfl, congrArg (fun b => some (Value.bool b)) hfo, rfl, trivial⟩, ⟨rfl, by omega, Holds.to (by assumption)⟩, by omega⟩)
                  | (have hfo : decide ((arcQ s (k : Int)).w = (best s v u).1) = decide (0 ≤ (best s v u).2 ∧ (best s v u).2 < ((k + 1 : Nat) : Int)) := by
                       have hq := q2 hL.symm
                       rw [decide_eq_true (by omega), decide_eq_true (by omega)]
                     exact ⟨k + 1, ⟨rfl, rfl, rfl, rfl, rfl, congrArg (fun b => some (Value.bool b)) hfo, rfl, trivial⟩, ⟨rfl, by omega, Holds.to (by assumption)⟩, by omega⟩)
                  | (have hfo : false = decide (0 ≤ (best s v u).2 ∧ (best s v u).2 < ((k + 1 : Nat) : Int)) := (decide_eq_false (by omega)).symm
                     exact ⟨k + 1, ⟨rfl, rfl, rfl, rfl, rfl, congrArg (fun b => some (Value.bool b)) hfo, rfl, trivial⟩, ⟨rfl, by omega, Holds.to (by assumption)⟩, by omega⟩)
              · refine O.guard_f rfl rfl rfl rfl ?_
                refine O.guard_f rfl rfl rfl rfl ?_
                refine O.guard_f rfl rfl rfl rfl ?_
                refine O.guard_f rfl rfl rfl rfl ?_
                refine O.guard_t rfl rfl ?_
                refine O.ex (Ex.pick_f rfl rfl) rfl ?_
                refine O.ex (Ex.pick_f rfl rfl) rfl ?_
                refine O.ex (Ex.assign rfl) rfl ?_
                refine O.nil ?_
                refine hK16 _ _ _ ?_
                refine W.seq (fun K19 hK19 => ?_)
                refine W.region ?_
                refine O.ex (Ex.move rfl) rfl ?_
                refine O.ex (Ex.lss rfl rfl) rfl ?_
                refine O.ex (Ex.move rfl) rfl ?_
                refine O.known (t := 76) (c := false) rfl (by first | exact decide_eq_true rfl | rfl | decide | exact decide_eq_false (by omega) | exact hfin | exact decide_eq_true (hnone.resolve_left hS).1) ?_
                refine O.guard_t rfl rfl ?_
                refine O.ex (by first | exact Ex.field0 fld31_2 rfl | exact Ex.field fld31_2 rfl | exact Ex.fieldS fld31_2 rfl | exact Ex.fieldIn fld31_2 rfl) rfl ?_
                refine O.guard_t rfl rfl ?_
                refine O.ex (by first | exact Ex.loadRT Try.isAgg3 rfl | exact Ex.loadRA Try.isAgg3 rfl | exact Ex.loadRN Try.isAgg3 rfl | exact Ex.loadRM Try.isAgg3 rfl | exact Ex.loadMh Try.isAgg3 rfl | exact Ex.loadInF Try.isAgg3 rfl (Holds.to (by assumption)) | exact Ex.loadP Try.isAgg3 rfl | exact Ex.loadM Try.isAgg3 rfl | exact Ex.loadIn1 Try.isAgg3 rfl (Holds.to (by assumption)) | exact Ex.loadVc Try.isAgg3 rfl | exact Ex.loadR Try.isAgg3 rfl | exact Ex.loadQ Try.isAgg3 rfl) rfl ?_
                refine O.guard_t rfl rfl ?_
                refine O.ex (Ex.move rfl) rfl ?_
                refine O.guard_t rfl rfl ?_
                refine O.ex (Ex.lss rfl rfl) rfl ?_
                refine O.ex (Ex.pick_f rfl rfl) rfl ?_
                refine O.ex (Ex.move rfl) rfl ?_
                refine O.known (t := 82) (c := false) rfl (by first | exact decide_eq_true rfl | rfl | decide | exact decide_eq_false (by omega) | exact hfin | exact decide_eq_true (hnone.resolve_left hS).1) ?_
                refine O.guard_t rfl rfl ?_
                refine O.ex (by first | exact Ex.field0 fld31_2 rfl | exact Ex.field fld31_2 rfl | exact Ex.fieldS fld31_2 rfl | exact Ex.fieldIn fld31_2 rfl) rfl ?_
                refine O.guard_t rfl rfl ?_
                refine O.ex (by first | exact Ex.loadRT Try.isAgg3 rfl | exact Ex.loadRA Try.isAgg3 rfl | exact Ex.loadRN Try.isAgg3 rfl | exact Ex.loadRM Try.isAgg3 rfl | exact Ex.loadMh Try.isAgg3 rfl | exact Ex.loadInF Try.isAgg3 rfl (Holds.to (by assumption)) | exact Ex.loadP Try.isAgg3 rfl | exact Ex.loadM Try.isAgg3 rfl | exact Ex.loadIn1 Try.isAgg3 rfl (Holds.to (by assumption)) | exact Ex.loadVc Try.isAgg3 rfl | exact Ex.loadR Try.isAgg3 rfl | exact Ex.loadQ Try.isAgg3 rfl) rfl ?_
                refine O.guard_t rfl rfl ?_
                refine O.ex (Ex.move rfl) rfl ?_
                refine O.guard_t rfl rfl ?_
                refine O.ex (Ex.eqlI rfl rfl) rfl ?_
                refine O.guard_t rfl rfl ?_
                refine O.ex (Ex.move rfl) rfl ?_
                first | refine O.split_p (t := 87) rfl (fun hP => ?_) (fun hQ => ?_) | refine O.split (t := 87) rfl (fun hP => ?_) (fun hQ => ?_)
                · refine O.guard_t rfl rfl ?_
                  refine O.ex (Ex.move rfl) rfl ?_
                  refine O.guard_t rfl rfl ?_
                  refine O.ex (Ex.move rfl) rfl ?_
                  refine O.guard_t rfl rfl ?_
                  refine O.ex (Ex.lss rfl rfl) rfl ?_
                  refine O.guard_t rfl rfl ?_
                  refine O.ex (Ex.pick_t rfl rfl) rfl ?_
                  refine O.ex (Ex.pick_f rfl rfl) rfl ?_
                  refine O.nil ?_
                  refine hK19 _ _ _ ?_
                  refine W.known_f rfl (by first | exact decide_eq_true rfl | rfl | decide | exact decide_eq_false (by omega) | exact hfin | exact decide_eq_true (hnone.resolve_left hS).1) ?_
                  refine W.skip ?_
                  refine hK12 _ _ _ ?_
                  refine W.region ?_
                  refine O.ex (Ex.move rfl) rfl ?_
                  refine O.ex (by first | exact Ex.addI rfl rfl | exact Ex.add rfl rfl rfl) rfl ?_
                  refine O.ex (Ex.assign rfl) rfl ?_
                  refine O.nil ?_
                  have hf := found_step (n := n) (most := 64) hg (t := v) (h := u) (k := k) (by omega)
                  have hnm : ∀ (h : ¬ mt s v u (k : Int)), decide (0 ≤ (best s v u).2 ∧ (best s v u).2 < (k : Int)) = decide (0 ≤ (best s v u).2 ∧ (best s v u).2 < ((k + 1 : Nat) : Int)) := fun h => by
                    have := hf.2 h
                    exact decide_eq_decide.2 (by omega)
                  first
                  | (have hfo := hnm (fun hm => by
                       obtain ⟨m1, m2, m3, m4⟩ := mt_to hm
                       first
                       | (rw [m1] at hA; exact absurd hA (by decide))
                       | (rw [m2] at hC; exact absurd hC (by decide))
                       | exact hE m3
                       | exact hG m4)
                     exact ⟨k + 1, ⟨rfl, rfl, rfl, rfl, rfl, congrArg (fun b => some (Value.bool b)) hfo, rfl, trivial⟩, ⟨rfl, by omega, Holds.to (by assumption)⟩, by omega⟩)
                  | (have hfo : true = decide (0 ≤ (best s v u).2 ∧ (best s v u).2 < ((k + 1 : Nat) : Int)) := (decide_eq_true (by omega)).symm
                     exact ⟨k + 1, ⟨rfl, rfl, rfl, rfl, rfl, congrArg (fun b => some (Value.bool b)) hfo, rfl, trivial⟩, ⟨rfl, by omega, Holds.to (by assumption)⟩, by omega⟩)
                  | (have hfo : decide ((arcQ s (k : Int)).w = (best s v u).1) = decide (0 ≤ (best s v u).2 ∧ (best s v u).2 < ((k + 1 : Nat) : Int)) := by
                       have hq := q2 hL.symm
                       rw [decide_eq_true (by omega), decide_eq_true (by omega)]
                     exact ⟨k + 1, ⟨rfl, rfl, rfl, rfl, rfl, congrArg (fun b => some (Value.bool b)) hfo, rfl, trivial⟩, ⟨rfl, by omega, Holds.to (by assumption)⟩, by omega⟩)
                  | (have hfo : false = decide (0 ≤ (best s v u).2 ∧ (best s v u).2 < ((k + 1 : Nat) : Int)) := (decide_eq_false (by omega)).symm
                     exact ⟨k + 1, ⟨rfl, rfl, rfl, rfl, rfl, congrArg (fun b => some (Value.bool b)) hfo, rfl, trivial⟩, ⟨rfl, by omega, Holds.to (by assumption)⟩, by omega⟩)
                · refine O.guard_f rfl rfl rfl rfl ?_
                  refine O.guard_f rfl rfl rfl rfl ?_
                  refine O.guard_f rfl rfl rfl rfl ?_
                  refine O.guard_t rfl rfl ?_
                  refine O.ex (Ex.pick_f rfl rfl) rfl ?_
                  refine O.ex (Ex.pick_f rfl rfl) rfl ?_
                  refine O.nil ?_
                  refine hK19 _ _ _ ?_
                  refine W.cond_f rfl ?_
                  refine W.skip ?_
                  refine hK12 _ _ _ ?_
                  refine W.region ?_
                  refine O.ex (Ex.move rfl) rfl ?_
                  refine O.ex (by first | exact Ex.addI rfl rfl | exact Ex.add rfl rfl rfl) rfl ?_
                  refine O.ex (Ex.assign rfl) rfl ?_
                  refine O.nil ?_
                  have hf := found_step (n := n) (most := 64) hg (t := v) (h := u) (k := k) (by omega)
                  have hnm : ∀ (h : ¬ mt s v u (k : Int)), decide (0 ≤ (best s v u).2 ∧ (best s v u).2 < (k : Int)) = decide (0 ≤ (best s v u).2 ∧ (best s v u).2 < ((k + 1 : Nat) : Int)) := fun h => by
                    have := hf.2 h
                    exact decide_eq_decide.2 (by omega)
                  first
                  | (have hfo := hnm (fun hm => by
                       obtain ⟨m1, m2, m3, m4⟩ := mt_to hm
                       first
                       | (rw [m1] at hA; exact absurd hA (by decide))
                       | (rw [m2] at hC; exact absurd hC (by decide))
                       | exact hE m3
                       | exact hG m4)
                     exact ⟨k + 1, ⟨rfl, rfl, rfl, rfl, rfl, congrArg (fun b => some (Value.bool b)) hfo, rfl, trivial⟩, ⟨rfl, by omega, Holds.to (by assumption)⟩, by omega⟩)
                  | (have hfo : true = decide (0 ≤ (best s v u).2 ∧ (best s v u).2 < ((k + 1 : Nat) : Int)) := (decide_eq_true (by omega)).symm
                     exact ⟨k + 1, ⟨rfl, rfl, rfl, rfl, rfl, congrArg (fun b => some (Value.bool b)) hfo, rfl, trivial⟩, ⟨rfl, by omega, Holds.to (by assumption)⟩, by omega⟩)
                  | (have hfo : decide ((arcQ s (k : Int)).w = (best s v u).1) = decide (0 ≤ (best s v u).2 ∧ (best s v u).2 < ((k + 1 : Nat) : Int)) := by
                       have hq := q2 hL.symm
                       rw [decide_eq_true (by omega), decide_eq_true (by omega)]
                     exact ⟨k + 1, ⟨rfl, rfl, rfl, rfl, rfl, congrArg (fun b => some (Value.bool b)) hfo, rfl, trivial⟩, ⟨rfl, by omega, Holds.to (by assumption)⟩, by omega⟩)
                  | (have hfo : false = decide (0 ≤ (best s v u).2 ∧ (best s v u).2 < ((k + 1 : Nat) : Int)) := (decide_eq_false (by omega)).symm
                     exact ⟨k + 1, ⟨rfl, rfl, rfl, rfl, rfl, congrArg (fun b => some (Value.bool b)) hfo, rfl, trivial⟩, ⟨rfl, by omega, Holds.to (by assumption)⟩, by omega⟩)
  · refine W.exit ?_
    refine hK8 _ _ _ ?_
    refine W.seq (fun K20 hK20 => ?_)
    refine W.region ?_
    have hfin : decide (decide (0 ≤ (best s v u).2 ∧ (best s v u).2 < (k : Int)) = decide (0 ≤ (best s v u).2)) = true := decide_eq_true (decide_eq_decide.2 ⟨fun h => h.1, fun h => ⟨h, by
      rcases best_spec hg v u with ⟨h1, -⟩ | ⟨h1, -⟩
      · rw [h1] at h
        have h' : (0 : Int) ≤ -1 := h
        omega
      · have := h1.1.2; omega⟩⟩)
    have hnone : 0 ≤ (best s v u).2 ∨ ((best s v u).2 = -1 ∧ ¬ wOk (best s v u).1) := by
      rcases best_spec hg v u with ⟨h1, -⟩ | ⟨h1, -⟩
      · rw [h1]; exact .inr ⟨rfl, fun hh => absurd hh.2 (by decide)⟩
      · exact .inl h1.1.1
    refine O.ex (Ex.move rfl) rfl ?_
    refine O.ex (Ex.move rfl) rfl ?_
    refine O.ex (Ex.geq rfl rfl) rfl ?_
    refine O.ex (Ex.eqlB Try.runUnderlying4 rfl rfl) rfl ?_
    refine O.ex (Ex.move rfl) rfl ?_
    refine O.known (t := 97) (c := true) rfl (by first | exact decide_eq_true rfl | rfl | decide | exact decide_eq_false (by omega) | exact hfin | exact decide_eq_true (hnone.resolve_left hS).1) ?_
    refine O.guard_t rfl rfl ?_
    refine O.ex (Ex.move rfl) rfl ?_
    refine O.guard_t rfl rfl ?_
    refine O.ex (Ex.geq rfl rfl) rfl ?_
    refine O.guard_t rfl rfl ?_
    refine O.ex (Ex.move rfl) rfl ?_
    first | refine O.split_p (t := 100) rfl (fun hR => ?_) (fun hS => ?_) | refine O.split (t := 100) rfl (fun hR => ?_) (fun hS => ?_)
    · refine O.guard_f rfl rfl rfl rfl ?_
      refine O.guard_f rfl rfl rfl rfl ?_
      refine O.guard_f rfl rfl rfl rfl ?_
      refine O.guard_u rfl rfl rfl ?_
      refine O.guard_u rfl rfl rfl ?_
      refine O.guard_u rfl rfl rfl ?_
      refine O.guard_f rfl rfl rfl rfl ?_
      refine O.guard_t rfl rfl ?_
      refine O.ex (Ex.pick_t rfl rfl) rfl ?_
      refine O.ex (Ex.pick_t rfl rfl) rfl ?_
      refine O.ex (Ex.assign rfl) rfl ?_
      refine O.nil ?_
      refine hK20 _ _ _ ?_
      refine W.ret ?_
      try dsimp only [thenQ, blockQ, retQ]
      first | refine ⟨_, ⟨_, _, rfl, rfl, rfl⟩, ?_⟩ | (refine retD_mark ?_; intro w H; refine ⟨_, ⟨_, _, rfl, rfl, rfl⟩, ?_⟩) | (refine retD_mark2 ?_; intro w H; refine ⟨_, ⟨_, _, rfl, rfl, rfl⟩, ?_⟩)
      refine ⟨?_, Holds.base_below (L := []) (Holds.to (by assumption))⟩
      first
      | rfl
      | (rw [decide_eq_true (hnone.resolve_left hS).2]; rfl)
    · refine O.guard_t rfl rfl ?_
      refine O.ex (Ex.move rfl) rfl ?_
      refine O.guard_t rfl rfl ?_
      refine O.ex (Ex.eqlI rfl rfl) rfl ?_
      refine O.guard_t rfl rfl ?_
      refine O.ex (Ex.move rfl) rfl ?_
      refine O.known (t := 103) (c := true) rfl (by first | exact decide_eq_true rfl | rfl | decide | exact decide_eq_false (by omega) | exact hfin | exact decide_eq_true (hnone.resolve_left hS).1) ?_
      refine O.guard_t rfl rfl ?_
      refine O.ex (Ex.move rfl) rfl ?_
      refine O.guard_t rfl rfl ?_
      refine O.callF Try.call21 rfl rfl (CT.mono (rweight_ct (Holds.to (by assumption))) ?_)
      rintro _ w ⟨rfl, H⟩
      refine O.guard_t rfl rfl ?_
      refine O.ex (by first | exact Ex.notD rfl | exact Ex.not rfl) rfl ?_
      refine O.guard_t rfl rfl ?_
      refine O.ex (Ex.pick_t rfl rfl) rfl ?_
      refine O.guard_t rfl rfl ?_
      refine O.ex (Ex.pick_f rfl rfl) rfl ?_
      refine O.ex (Ex.pick_t rfl rfl) rfl ?_
      refine O.ex (Ex.assign rfl) rfl ?_
      refine O.nil ?_
      refine hK20 _ _ _ ?_
      refine W.ret ?_
      try dsimp only [thenQ, blockQ, retQ]
      first | refine ⟨_, ⟨_, _, rfl, rfl, rfl⟩, ?_⟩ | (refine retD_mark ?_; intro w H; refine ⟨_, ⟨_, _, rfl, rfl, rfl⟩, ?_⟩) | (refine retD_mark2 ?_; intro w H; refine ⟨_, ⟨_, _, rfl, rfl, rfl⟩, ?_⟩)
      refine ⟨?_, Holds.base_below (L := []) (Holds.to (by assumption))⟩
      first
      | rfl
      | (rw [decide_eq_true (hnone.resolve_left hS).2]; rfl)
theorem graphBests_row {w0 : World} {q v u : Int} {lv : Value} {l : List Chg} (hq : (Lit.int .u8 q).wf = true) (hx : SlIn w0 6 Chg.enc lv l) (hg : ∀ x ∈ l, x.ok) (hl : l.length ≤ maxLen) (hv : (Lit.int .i64 v).wf = true) (hu : (Lit.int .i64 u).wf = true) :
    CT Try.prog 3 [.int .u8 q, lv, .int .i64 v, .int .i64 u] w0 fun x w' => x = .bool true ∧ RowKit.Below w0.heap.size w0 w' :=
  graphBests_ct hq hx (by unfold maxLen at hl; omega)
end Go.Proofs.Ytakmbbgnnbpkoaa
