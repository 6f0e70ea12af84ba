import Derived.Test.YtliofdfhimmjmaaHeap
namespace Go.Proofs.Ytliofdfhimmjmaa
open Go.Rr Go Hp
set_option linter.unusedVariables false
/-- While a thing goes up or down: where it stands is not written yet. -/
structure Mid (n : Nat) (T : List Nat) (PL : List Int) (ta : List Nat) (pa : List Int) (p x : Nat) : Prop where
  pi : PI n T PL
  lp : p < T.length
  gp : T.getD p default = x
  lt : ta.length = T.length
  la : pa.length = n
  st : ∀ i, i < T.length → i ≠ p → ta.getD i default = T.getD i default
  sp : ∀ y, y < n → y ≠ x → pa.getD y default = PL.getD y default
theorem Mid.start {n : Nat} {T : List Nat} {PL : List Int} (h : PI n T PL) {p : Nat} (hp : p < T.length) : Mid n T PL T PL p (T.getD p default) := ⟨h, hp, rfl, rfl, h.len, fun _ _ _ => rfl, fun _ _ _ => rfl⟩
theorem Mid.xn {n p x : Nat} {T ta : List Nat} {PL pa : List Int} (h : Mid n T PL ta pa p x) : x < n := h.gp ▸ h.pi.lt p h.lp
theorem Mid.done {n p x : Nat} {T ta : List Nat} {PL pa : List Int} (h : Mid n T PL ta pa p x) : ta.set p x = T ∧ pa.set x (p : Int) = PL := by
  have hp := h.lp
  have hx := h.xn
  constructor
  · refine ext _ _ (by rw [List.length_set, h.lt]) fun i hi => ?_
    rw [List.length_set, h.lt] at hi
    rw [gs _ _ _ _ (by rw [h.lt]; exact hp)]
    by_cases e : i = p
    · subst e; rw [if_pos rfl, h.gp]
    · rw [if_neg e, h.st i hi e]
  · refine ext _ _ (by rw [List.length_set, h.la, h.pi.len]) fun y hy => ?_
    rw [List.length_set, h.la] at hy
    rw [gs _ _ _ _ (by rw [h.la]; exact hx)]
    by_cases e : y = x
    · subst e; rw [if_pos rfl, ← h.gp, h.pi.at_ p hp]
    · rw [if_neg e, h.sp y hy e]
theorem Mid.move {n p x : Nat} {T ta : List Nat} {PL pa : List Int} (h : Mid n T PL ta pa p x) {q : Nat} (hq : q < T.length) (hpq : p ≠ q) :
    Mid n (swap T p q) ((PL.set (T.getD q default) p).set (T.getD p default) q) (ta.set p (T.getD q default)) (pa.set (T.getD q default) (p : Int)) q x := by
  have hp := h.lp
  have hx := h.xn
  have hqn := h.pi.lt q hq
  have g := fun k => swap_get (t := T) hp hq k
  refine ⟨h.pi.swap hp hq hpq, by rw [swap_len]; exact hq, by rw [g, if_pos rfl, h.gp], by rw [List.length_set, swap_len, h.lt], by rw [List.length_set, h.la], fun i hi hiq => ?_, fun y hy hyx => ?_⟩
  · rw [swap_len] at hi
    rw [gs _ _ _ _ (by rw [h.lt]; exact hp), g, if_neg hiq]
    by_cases e : i = p
    · rw [if_pos e, if_pos e]
    · rw [if_neg e, if_neg e, h.st i hi e]
  · rw [h.gp, gs _ _ _ _ (by rw [h.la]; exact hqn), gs _ _ _ _ (by rw [List.length_set, h.pi.len]; exact hx), if_neg hyx, gs _ _ _ _ (by rw [h.pi.len]; exact hqn)]
    split
    · rfl
    · exact h.sp y hy hyx
set_option maxHeartbeats 1000000 in
theorem upI_ct {w : World} {h n p : Nat} {tv pv qv : Value} {t : List Nat} {pl : List Int} {pr : List Int} {L : List HProp} (hpi : PI n t pl) (hpr : pr.length = n) (hn : n ≤ 64) (hp : p < t.length) (hui : UI (kI pr) t p) (H : Holds w (HpOI h tv pv qv t pl pr :: L)) :
    CT Try.prog 93 [.pointer (some ⟨h, 0, none⟩), .int .i64 (p : Int)] w fun u w' => u = .tuple #[] ∧ ∃ t' pl', PI n t' pl' ∧ HI (kI pr) t' ∧ (∀ x, x ∈ t' ↔ x ∈ t) ∧ Holds w' (HpOI h tv pv qv t' pl' pr :: L) := by
  obtain ⟨x, hx⟩ : ∃ x, x = t.getD p default := ⟨_, rfl⟩
  have hmid := Mid.start hpi hp
  rw [← hx] at hmid
  have htn := hpi.len_le
  have so := so_key soI fun x => pr.getD x default
  have H := hpOI_open.1 H
  refine CT.enter (N := 47) Try.func93 rfl rfl rfl rfl ?_
  refine W.seq (fun K0 hK0 => ?_)
  refine W.region ?_
  refine O.ex (Ex.move rfl) rfl ?_
  refine O.ex (by first | exact Ex.nilPtr rfl | exact Ex.nilFunc rfl | exact Ex.nilYield rfl) rfl ?_
  refine O.ex (by first | exact Ex.field0 fld126_0 rfl | exact Ex.field fld126_0 rfl | exact Ex.fieldS fld126_0 rfl) rfl ?_
  refine O.ex (by first | exact Ex.loadP Try.isAgg28 rfl | exact Ex.loadR Try.isAgg28 rfl | exact Ex.loadIn1 Try.isAgg28 rfl (Holds.to (by assumption))) rfl ?_
  refine O.ex (Ex.move rfl) rfl ?_
  refine O.ex (by first | exact Ex.idxR Try.runUnderlying28 Try.sizeOf3 rfl rfl | exact Ex.idxIn Try.runUnderlying28 Try.sizeOf3 rfl rfl | exact Ex.idxS Try.runUnderlying28 Try.sizeOf3 rfl rfl | exact Ex.idx Try.runUnderlying28 Try.sizeOf3 rfl rfl (by omega) (by omega)) rfl ?_
  refine O.ex (by first | exact Ex.loadP Try.isAgg3 rfl | exact Ex.loadR Try.isAgg3 rfl | exact Ex.loadIn1 Try.isAgg3 rfl (Holds.to (by assumption))) rfl ?_
  rw [show t.getD ((p : Nat) : Int).toNat default = x from hx.symm]
  refine O.ex (Ex.assign rfl) rfl ?_
  refine O.nil ?_
  refine hK0 _ _ _ ?_
  refine W.seq (fun K1 hK1 => ?_)
  refine W.block ?_
  have H := (hpOI_open (h := h) (tv := tv) (pv := pv) (qv := qv) (t := t) (pl := pl) (pr := pr)).2 (Holds.to (by assumption))
  refine W.loop (σ := Nat) (fun q => [(0, .pointer (some ⟨h, 0, none⟩)), (1, .int .i64 (q : Int)), (4, .int .i64 (x : Int))]) (fun q ds w => ds = [] ∧ ∃ T PL ta pa, Mid n T PL ta pa q x ∧ UI (kI pr) T q ∧ (∀ y, y ∈ T ↔ y ∈ t) ∧ Holds w (HpOI h tv pv qv ta pa pr :: L)) (fun q : Nat => q) p ⟨rfl, rfl, rfl, trivial⟩ ⟨rfl, t, pl, t, pl, hmid, hui, fun _ => Iff.rfl, Holds.to (by assumption)⟩ ?_
  clear H hmid hui
  rintro q _ w ⟨rfl, T, PL, ta, pa, hm, hui, hmem, H⟩
  have hq := hm.lp
  have hTn := hm.pi.len_le
  have hxn := hm.xn
  have hla := hm.la
  have hlt := hm.lt
  have H := hpOI_open.1 H
  refine W.seq (fun K2 hK2 => ?_)
  refine W.seq (fun K3 hK3 => ?_)
  refine W.region ?_
  refine O.ex (Ex.move rfl) rfl ?_
  refine O.ex (Ex.gtr rfl rfl) rfl ?_
  refine O.ex (Ex.move rfl) rfl ?_
  have hqp : 0 < q → (((q : Nat) : Int) - 1) / 2 = (((q - 1) / 2 : Nat) : Int) := by omega
  have hqq : (q - 1) / 2 < T.length := by omega
  have hne : 0 < q → (q - 1) / 2 ≠ q := by omega
  have hgt := fun h0 => hm.st _ hqq (hne h0)
  have hgn := hm.pi.lt _ hqq
  first | refine O.split_p (t := 14) rfl (fun hpos => ?_) (fun hzero => ?_) | refine O.split (t := 14) rfl (fun hpos => ?_) (fun hzero => ?_)
  · have hqp : 0 < q → (((q : Nat) : Int) - 1) / 2 = (((q - 1) / 2 : Nat) : Int) := by omega
    have hqq : (q - 1) / 2 < T.length := by omega
    have hne : 0 < q → (q - 1) / 2 ≠ q := by omega
    have hgt := fun h0 => hm.st _ hqq (hne h0)
    have hgn := hm.pi.lt _ hqq
    refine O.guard_t rfl rfl ?_
    refine O.ex (Ex.move rfl) rfl ?_
    refine O.guard_t rfl rfl ?_
    refine O.ex (Ex.move rfl) rfl ?_
    refine O.guard_t rfl rfl ?_
    refine O.ex (Ex.move rfl) rfl ?_
    refine O.guard_t rfl rfl ?_
    refine O.ex (by first | exact Ex.nilPtr rfl | exact Ex.nilFunc rfl | exact Ex.nilYield rfl) rfl ?_
    refine O.guard_t rfl rfl ?_
    refine O.ex (by first | exact Ex.field0 fld126_0 rfl | exact Ex.field fld126_0 rfl | exact Ex.fieldS fld126_0 rfl) rfl ?_
    refine O.guard_t rfl rfl ?_
    refine O.ex (by first | exact Ex.loadP Try.isAgg28 rfl | exact Ex.loadR Try.isAgg28 rfl | exact Ex.loadIn1 Try.isAgg28 rfl (Holds.to (by assumption))) rfl ?_
    refine O.guard_t rfl rfl ?_
    refine O.ex (Ex.move rfl) rfl ?_
    refine O.guard_t rfl rfl ?_
    refine O.ex (by first | exact Ex.subI rfl rfl | exact Ex.sub rfl rfl rfl) rfl ?_
    refine O.guard_t rfl rfl ?_
    refine O.ex (by first | exact Ex.quoI rfl rfl | exact Ex.quo rfl rfl (by omega) rfl) rfl ?_
    rw [hqp (by omega)]
    refine O.guard_t rfl rfl ?_
    refine O.ex (by first | exact Ex.idxR Try.runUnderlying28 Try.sizeOf3 rfl rfl | exact Ex.idxIn Try.runUnderlying28 Try.sizeOf3 rfl rfl | exact Ex.idxS Try.runUnderlying28 Try.sizeOf3 rfl rfl | exact Ex.idx Try.runUnderlying28 Try.sizeOf3 rfl rfl (by omega) (by omega)) rfl ?_
    refine O.guard_t rfl rfl ?_
    refine O.ex (by first | exact Ex.loadP Try.isAgg3 rfl | exact Ex.loadR Try.isAgg3 rfl | exact Ex.loadIn1 Try.isAgg3 rfl (Holds.to (by assumption))) rfl ?_
    rw [show ta.getD (((q - 1) / 2 : Nat) : Int).toNat default = T.getD ((q - 1) / 2) default from hgt (by omega)]
    refine O.guard_t rfl rfl ?_
    refine O.callF Try.call113 rfl rfl (CT.mono (aheadI_ct (tv := tv) (pv := pv) (qv := qv) (t := ta) (pl := pa) (pr := pr) (by omega) (by omega) ((hpOI_open (h := h) (tv := tv) (pv := pv) (qv := qv) (t := ta) (pl := pa) (pr := pr)).2 (Holds.to (by assumption)))) ?_)
    rintro _ w ⟨rfl, H⟩
    refine O.ex (Ex.pick_t rfl rfl) rfl ?_
    refine O.nil ?_
    refine hK3 _ _ _ ?_
    first | refine W.cond_p rfl (fun hah => ?_) (fun hna => ?_) | refine W.cond_b rfl (fun hah => ?_) (fun hna => ?_)
    · refine W.skip ?_
      refine hK2 _ _ _ ?_
      refine W.block ?_
      refine W.seq (fun K4 hK4 => ?_)
      refine W.region ?_
      have H := hpOI_open.1 H
      refine O.ex (Ex.move rfl) rfl ?_
      refine O.ex (Ex.move rfl) rfl ?_
      refine O.ex (by first | exact Ex.nilPtr rfl | exact Ex.nilFunc rfl | exact Ex.nilYield rfl) rfl ?_
      refine O.ex (by first | exact Ex.field0 fld126_0 rfl | exact Ex.field fld126_0 rfl | exact Ex.fieldS fld126_0 rfl) rfl ?_
      refine O.ex (by first | exact Ex.loadP Try.isAgg28 rfl | exact Ex.loadR Try.isAgg28 rfl | exact Ex.loadIn1 Try.isAgg28 rfl (Holds.to (by assumption))) rfl ?_
      refine O.ex (Ex.move rfl) rfl ?_
      refine O.ex (by first | exact Ex.subI rfl rfl | exact Ex.sub rfl rfl rfl) rfl ?_
      refine O.ex (by first | exact Ex.quoI rfl rfl | exact Ex.quo rfl rfl (by omega) rfl) rfl ?_
      rw [hqp (by omega)]
      refine O.ex (by first | exact Ex.idxR Try.runUnderlying28 Try.sizeOf3 rfl rfl | exact Ex.idxIn Try.runUnderlying28 Try.sizeOf3 rfl rfl | exact Ex.idxS Try.runUnderlying28 Try.sizeOf3 rfl rfl | exact Ex.idx Try.runUnderlying28 Try.sizeOf3 rfl rfl (by omega) (by omega)) rfl ?_
      refine O.ex (by first | exact Ex.loadP Try.isAgg3 rfl | exact Ex.loadR Try.isAgg3 rfl | exact Ex.loadIn1 Try.isAgg3 rfl (Holds.to (by assumption))) rfl ?_
      rw [show ta.getD (((q - 1) / 2 : Nat) : Int).toNat default = T.getD ((q - 1) / 2) default from hgt (by omega)]
      refine O.ex (Ex.move rfl) rfl ?_
      refine O.callF Try.call95 rfl rfl (CT.mono (layI_ct (tv := tv) (pv := pv) (qv := qv) (t := ta) (pl := pa) (pr := pr) (by omega) (by omega) ((hpOI_open (h := h) (tv := tv) (pv := pv) (qv := qv) (t := ta) (pl := pa) (pr := pr)).2 (Holds.to (by assumption)))) ?_)
      rintro _ w ⟨-, H⟩
      refine O.nil ?_
      refine hK4 _ _ _ ?_
      refine W.region ?_
      refine O.ex (Ex.move rfl) rfl ?_
      refine O.ex (by first | exact Ex.subI rfl rfl | exact Ex.sub rfl rfl rfl) rfl ?_
      refine O.ex (by first | exact Ex.quoI rfl rfl | exact Ex.quo rfl rfl (by omega) rfl) rfl ?_
      rw [hqp (by omega)]
      refine O.ex (Ex.assign rfl) rfl ?_
      refine O.nil ?_
      have hmv := hm.move hqq (Ne.symm (hne (by omega)))
      have hah2 : kI pr (T.getD q default) (T.getD ((q - 1) / 2) default) := by rw [hm.gp]; exact hah
      have hst := hui.step so (by omega) hq hah2
      exact ⟨(q - 1) / 2, ⟨rfl, rfl, rfl, trivial⟩, ⟨rfl, _, _, _, _, hmv, hst, fun y => (swap_mem hq hqq y).trans (hmem y), Holds.to (by assumption)⟩, by omega⟩
    · refine W.exit ?_
      refine hK1 _ _ _ ?_
      refine W.region ?_
      have H := (hpOI_open (h := h) (tv := tv) (pv := pv) (qv := qv) (t := ta) (pl := pa) (pr := pr)).2 (Holds.to (by first | exact hpOI_open.1 (Holds.to (by assumption)) | assumption))
      refine O.ex (Ex.move rfl) rfl ?_
      refine O.ex (Ex.move rfl) rfl ?_
      refine O.ex (Ex.move rfl) rfl ?_
      refine O.callF Try.call95 rfl rfl (CT.mono (layI_ct (tv := tv) (pv := pv) (qv := qv) (t := ta) (pl := pa) (pr := pr) (by omega) (by omega) (Holds.to (by assumption))) ?_)
      rintro _ w ⟨-, H⟩
      rw [hm.done.1, hm.done.2] at H
      refine O.nil ?_
      try dsimp only [thenQ, blockQ, retQ]
      first | refine ⟨_, rfl, ?_⟩ | (refine retD_mark ?_; intro w H; refine ⟨_, rfl, ?_⟩) | (refine retD_mark2 ?_; intro w H; refine ⟨_, rfl, ?_⟩)
      refine ⟨rfl, T, PL, hm.pi, hui.done fun hq0 => ?_, hmem, Holds.to (by assumption)⟩
      first
      | exact absurd hq0 (by omega)
      | (rw [hm.gp]; exact hna)
  · have hqp : 0 < q → (((q : Nat) : Int) - 1) / 2 = (((q - 1) / 2 : Nat) : Int) := by omega
    have hqq : (q - 1) / 2 < T.length := by omega
    have hne : 0 < q → (q - 1) / 2 ≠ q := by omega
    have hgt := fun h0 => hm.st _ hqq (hne h0)
    have hgn := hm.pi.lt _ hqq
    refine O.guard_f rfl rfl rfl rfl ?_
    refine O.guard_f rfl rfl rfl rfl ?_
    refine O.guard_f rfl rfl rfl rfl ?_
    refine O.guard_f rfl rfl rfl rfl ?_
    refine O.guard_f rfl rfl rfl rfl ?_
    refine O.guard_f rfl rfl rfl rfl ?_
    refine O.guard_f rfl rfl rfl rfl ?_
    refine O.guard_f rfl rfl rfl rfl ?_
    refine O.guard_f rfl rfl rfl rfl ?_
    refine O.guard_f rfl rfl rfl rfl ?_
    refine O.guard_f rfl rfl rfl rfl ?_
    refine O.guard_f rfl rfl rfl rfl ?_
    refine O.ex (Ex.pick_f rfl rfl) rfl ?_
    refine O.nil ?_
    refine hK3 _ _ _ ?_
    refine W.cond_f rfl ?_
    refine W.exit ?_
    refine hK1 _ _ _ ?_
    refine W.region ?_
    have H := (hpOI_open (h := h) (tv := tv) (pv := pv) (qv := qv) (t := ta) (pl := pa) (pr := pr)).2 (Holds.to (by first | exact hpOI_open.1 (Holds.to (by assumption)) | assumption))
    refine O.ex (Ex.move rfl) rfl ?_
    refine O.ex (Ex.move rfl) rfl ?_
    refine O.ex (Ex.move rfl) rfl ?_
    refine O.callF Try.call95 rfl rfl (CT.mono (layI_ct (tv := tv) (pv := pv) (qv := qv) (t := ta) (pl := pa) (pr := pr) (by omega) (by omega) (Holds.to (by assumption))) ?_)
    rintro _ w ⟨-, H⟩
    rw [hm.done.1, hm.done.2] at H
    refine O.nil ?_
    try dsimp only [thenQ, blockQ, retQ]
    first | refine ⟨_, rfl, ?_⟩ | (refine retD_mark ?_; intro w H; refine ⟨_, rfl, ?_⟩) | (refine retD_mark2 ?_; intro w H; refine ⟨_, rfl, ?_⟩)
    refine ⟨rfl, T, PL, hm.pi, hui.done fun hq0 => ?_, hmem, Holds.to (by assumption)⟩
    first
    | exact absurd hq0 (by omega)
    | (rw [hm.gp]; exact hna)
end Go.Proofs.Ytliofdfhimmjmaa
