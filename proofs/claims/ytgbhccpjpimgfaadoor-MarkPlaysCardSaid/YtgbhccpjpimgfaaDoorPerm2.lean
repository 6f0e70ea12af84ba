import Derived.Test.YtgbhccpjpimgfaaDoorPerm
--ARR
namespace Go.Proofs.YtgbhccpjpimgfaaDoor
open Go.Rr Go
set_option linter.unusedVariables false
theorem take_mem {xs : List Int} {i : Nat} (h : i < xs.length) (x : Int) : x ∈ xs.take (i + 1) ↔ x ∈ xs.take i ∨ xs.getD i default = x := by
  rw [take_get xs i h, List.mem_append, List.mem_singleton]; exact or_congr Iff.rfl eq_comm
/-- So far it may be an order. -/
def pre (l : List Int) (i : Nat) : Prop := (∀ x ∈ l.take i, 0 ≤ x ∧ x < l.length) ∧ (l.take i).Nodup
theorem pre_step {l : List Int} {i : Nat} (h : i < l.length) (hp : pre l i) (h0 : 0 ≤ l.getD i default) (h1 : l.getD i default < l.length) (hn : l.getD i default ∉ l.take i) : pre l (i + 1) := by
  refine ⟨fun x hx => ?_, ?_⟩
  · rcases (take_mem h x).1 hx with hx | rfl
    · exact hp.1 x hx
    · exact ⟨h0, h1⟩
  · rw [take_get l i h, List.nodup_append]
    exact ⟨hp.2, by simp, fun a ha b hb e => by rw [List.mem_singleton] at hb; subst hb; subst e; exact hn ha⟩
theorem pre_all {l : List Int} (h24 : l.length ≤ 24) (hp : pre l l.length) : RightP l := by
  unfold pre at hp; rw [List.take_length] at hp; exact ⟨h24, hp⟩
theorem pre_of {l : List Int} (h : RightP l) (i : Nat) (hi : i < l.length) : 0 ≤ l.getD i default ∧ l.getD i default < l.length ∧ l.getD i default ∉ l.take i := by
  have hm := h.2.1 _ (getD_mem l i hi)
  refine ⟨hm.1, hm.2, fun hh => ?_⟩
  obtain ⟨j, hj, e⟩ := mem_getD hh
  have hjl : j < i := by rw [List.length_take] at hj; omega
  rw [List.getD_eq_getElem?_getD, List.getElem?_take_of_lt hjl, ← List.getD_eq_getElem?_getD] at e
  have := nodup_inj h.2.2 (by omega) hi e
  omega
theorem cnt_take (l : List Int) (i : Nat) (h : i < l.length) (r : Int) : (l.take (i + 1)).count r = (l.take i).count r + if l.getD i default = r then 1 else 0 := by
  rw [take_get l i h, List.count_append, List.count_singleton]
  congr 1
  by_cases e : l.getD i default = r
  · rw [if_pos e, e]; simp
  · rw [if_neg e]; simpa using e
theorem seen0 {w : World} {b : Nat} {l : List Int} {L : List HProp} (H : Holds w (pt b (.cells (Value.agg #[.bool false, .bool false, .bool false, .bool false, .bool false, .bool false, .bool false, .bool false, .bool false, .bool false, .bool false, .bool false, .bool false, .bool false, .bool false, .bool false, .bool false, .bool false, .bool false, .bool false, .bool false, .bool false, .bool false, .bool false]).cells 66 (0, 0)) :: L)) :
    Holds w (vec b 66 [] 24 Value.bool (fun r => decide (((r : Nat) : Int) ∈ l.take 0)) :: L) := by
  have := (vec_pt (hd := []) (q := 24) (e := Value.bool) (f := fun _ => false)).2 H
  exact this
theorem upd_seen {l : List Int} {i : Nat} (h : i < l.length) (h0 : 0 ≤ l.getD i default) : upd1 (fun r => decide (((r : Nat) : Int) ∈ l.take i)) (l.getD i default).toNat true = fun r => decide (((r : Nat) : Int) ∈ l.take (i + 1)) := by
  funext r
  unfold upd1
  by_cases e : r = (l.getD i default).toNat
  · rw [if_pos e]
    exact (decide_eq_true ((take_mem h _).2 (.inr (by omega)))).symm
  · rw [if_neg e]
    exact decide_eq_decide.2 (((take_mem h _).trans (or_iff_left (by omega))).symm)
set_option maxHeartbeats 1000000 in
theorem rightA_ct {w  : World} {v : Value} {l : List Int} {L : List HProp} (H : Holds w (arr 3 (Value.int .i64) v l :: L)) (hlen : l.length ≤ 9223372036854775807) :
    CT Tryd.prog 43 [v] w fun u w' => u = .bool (decide (RightP l)) ∧ Holds w' (arr 3 (Value.int .i64) v l :: L) := by
  refine CT.enter (N := 31) Tryd.func43 rfl rfl rfl rfl ?_
  refine W.seq (fun K0 hK0 => ?_)
  refine W.region ?_
  refine O.ex (Ex.assign rfl) rfl ?_
  refine O.nil ?_
  refine hK0 _ _ _ ?_
  refine W.seq (fun K1 hK1 => ?_)
  refine W.seq (fun K2 hK2 => ?_)
  refine W.region ?_
  refine O.ex (Ex.move rfl) rfl ?_
  refine O.ex (by first | exact Ex.lenR Tryd.runUnderlying22 rfl | exact Ex.lenIn Tryd.runUnderlying22 rfl | exact Ex.lenL Tryd.runUnderlying22 rfl | exact Ex.len rfl Tryd.runUnderlying22 rfl) rfl ?_
  refine O.ex (Ex.gtr rfl rfl) rfl ?_
  refine O.nil ?_
  refine hK2 _ _ _ ?_
  first | refine W.cond_p rfl (fun hbig => ?_) (fun hle => ?_) | refine W.cond_b rfl (fun hbig => ?_) (fun hle => ?_)
  · refine W.seq (fun K3 hK3 => ?_)
    refine W.region ?_
    refine O.ex (Ex.assign rfl) rfl ?_
    refine O.nil ?_
    refine hK3 _ _ _ ?_
    refine W.ret ?_
    try dsimp only [thenQ, blockQ, retQ]
    first | refine ⟨_, ⟨_, _, rfl, rfl, rfl⟩, ?_⟩ | (refine retD_mark ?_; intro w H; refine ⟨_, ⟨_, _, rfl, rfl, rfl⟩, ?_⟩) | (refine retD_mark2 ?_; intro w H; refine ⟨_, ⟨_, _, rfl, rfl, rfl⟩, ?_⟩)
    first
    | exact ⟨congrArg Value.bool (decide_eq_false fun h => by have := h.1; omega).symm, Holds.to (by assumption)⟩
    | (obtain rfl : i = l.length := by omega
       exact ⟨congrArg Value.bool (decide_eq_true (pre_all (by omega) hp)).symm, Holds.to (by assumption)⟩)
    | (refine ⟨congrArg Value.bool (decide_eq_false fun h => ?_).symm, Holds.to (by assumption)⟩
       obtain ⟨p0, p1, p2⟩ := pre_of h i (by omega)
       first
       | (replace hneg : l.getD i default < 0 := hneg; omega)
       | (replace hbg : (l.length : Int) ≤ l.getD i default := hbg; omega)
       | (refine p2 ?_
          rw [show (((l.getD ((i : Nat) : Int).toNat default).toNat : Nat) : Int) = l.getD i default from by rw [Int.toNat_natCast]; omega] at hin
          exact hin))
  · refine W.skip ?_
    refine hK1 _ _ _ ?_
    refine W.seq (fun K4 hK4 => ?_)
    refine W.region ?_
    refine O.allocP Tryd.zeroValue66 (fun b3 w H => ?_)
    have H := seen0 (l := l) H
    refine O.nil ?_
    refine hK4 _ _ _ ?_
    refine W.seq (fun K5 hK5 => ?_)
    refine W.seq (fun K6 hK6 => ?_)
    refine W.region ?_
    refine O.ex (Ex.move rfl) rfl ?_
    refine O.ex (by first | exact Ex.lenR Tryd.runUnderlying22 rfl | exact Ex.lenIn Tryd.runUnderlying22 rfl | exact Ex.lenL Tryd.runUnderlying22 rfl | exact Ex.len rfl Tryd.runUnderlying22 rfl) rfl ?_
    refine O.ex (Ex.move rfl) rfl ?_
    refine O.nil ?_
    refine hK6 _ _ _ ?_
    refine W.block ?_
    have hp0 : pre l 0 := ⟨by simp, by simp⟩
    refine W.loop (σ := Nat) (fun i => [(0, v), (3, .pointer (some ⟨b3, 0, none⟩)), (9, v), (10, .int .i64 l.length), (11, .int .i64 (i : Int))]) (fun i ds w => ds = [] ∧ i ≤ l.length ∧ pre l i ∧ Holds w (vec b3 66 [] 24 Value.bool (fun r => decide (((r : Nat) : Int) ∈ l.take i)) :: arr 3 (Value.int .i64) v l :: L)) (fun i => l.length - i) 0 ⟨rfl, rfl, rfl, rfl, rfl, trivial⟩ ⟨rfl, by omega, hp0, Holds.to (by assumption)⟩ ?_
    clear H hp0
    rintro i _ w ⟨rfl, hi, hp, H⟩
    refine W.seq (fun K7 hK7 => ?_)
    refine W.region ?_
    refine O.ex (Ex.lss rfl rfl) rfl ?_
    refine O.nil ?_
    refine hK7 _ _ _ ?_
    refine W.seq (fun K8 hK8 => ?_)
    first | refine W.cond_p rfl (fun hlt => ?_) (fun hge => ?_) | refine W.cond_b rfl (fun hlt => ?_) (fun hge => ?_)
    · refine W.skip ?_
      refine hK8 _ _ _ ?_
      refine W.seq (fun K9 hK9 => ?_)
      refine W.block ?_
      refine W.seq (fun K10 hK10 => ?_)
      refine W.region ?_
      refine O.ex (by first | exact Ex.idxR Tryd.runUnderlying22 Tryd.sizeOf3 rfl rfl | exact Ex.idxIn Tryd.runUnderlying22 Tryd.sizeOf3 rfl rfl | exact Ex.idxS Tryd.runUnderlying22 Tryd.sizeOf3 rfl rfl | exact Ex.idx Tryd.runUnderlying22 Tryd.sizeOf3 rfl rfl (by omega) (by omega)) rfl ?_
      refine O.ex (by first | exact Ex.loadR Tryd.isAgg3 rfl | exact Ex.loadIn1 Tryd.isAgg3 rfl (Holds.to (by assumption)) | exact Ex.loadP Tryd.isAgg3 rfl | exact Ex.loadMh Tryd.isAgg3 rfl | exact Ex.loadM Tryd.isAgg3 rfl | exact Ex.loadVc Tryd.isAgg3 rfl | exact Ex.loadQ Tryd.isAgg3 rfl) rfl ?_
      refine O.ex (Ex.assign rfl) rfl ?_
      refine O.nil ?_
      refine hK10 _ _ _ ?_
      refine W.seq (fun K11 hK11 => ?_)
      refine W.seq (fun K12 hK12 => ?_)
      refine W.region ?_
      refine O.ex (Ex.move rfl) rfl ?_
      refine O.ex (Ex.lss rfl rfl) rfl ?_
      refine O.ex (Ex.move rfl) rfl ?_
      first | refine O.split_p (t := 17) rfl (fun hneg => ?_) (fun hpos => ?_) | refine O.split (t := 17) rfl (fun hneg => ?_) (fun hpos => ?_)
      · refine O.guard_f rfl rfl rfl rfl ?_
        refine O.guard_f rfl rfl rfl rfl ?_
        refine O.guard_f rfl rfl rfl rfl ?_
        refine O.guard_f rfl rfl rfl rfl ?_
        refine O.ex (Ex.pick_t rfl rfl) rfl ?_
        refine O.ex (Ex.move rfl) rfl ?_
        refine O.guard_f rfl rfl rfl rfl ?_
        refine O.guard_f rfl rfl rfl rfl ?_
        refine O.guard_f rfl rfl rfl rfl ?_
        refine O.ex (Ex.pick_t rfl rfl) rfl ?_
        refine O.nil ?_
        refine hK12 _ _ _ ?_
        refine W.cond_t rfl ?_
        refine W.seq (fun K13 hK13 => ?_)
        refine W.region ?_
        refine O.ex (Ex.assign rfl) rfl ?_
        refine O.nil ?_
        refine hK13 _ _ _ ?_
        refine W.ret ?_
        try dsimp only [thenQ, blockQ, retQ]
        first | refine ⟨_, ⟨_, _, rfl, rfl, rfl⟩, ?_⟩ | (refine retD_mark ?_; intro w H; refine ⟨_, ⟨_, _, rfl, rfl, rfl⟩, ?_⟩) | (refine retD_mark2 ?_; intro w H; refine ⟨_, ⟨_, _, rfl, rfl, rfl⟩, ?_⟩)
        first
        | exact ⟨congrArg Value.bool (decide_eq_false fun h => by have := h.1; omega).symm, Holds.to (by assumption)⟩
        | (obtain rfl : i = l.length := by omega
           exact ⟨congrArg Value.bool (decide_eq_true (pre_all (by omega) hp)).symm, Holds.to (by assumption)⟩)
        | (refine ⟨congrArg Value.bool (decide_eq_false fun h => ?_).symm, Holds.to (by assumption)⟩
           obtain ⟨p0, p1, p2⟩ := pre_of h i (by omega)
           first
           | (replace hneg : l.getD i default < 0 := hneg; omega)
           | (replace hbg : (l.length : Int) ≤ l.getD i default := hbg; omega)
           | (refine p2 ?_
              rw [show (((l.getD ((i : Nat) : Int).toNat default).toNat : Nat) : Int) = l.getD i default from by rw [Int.toNat_natCast]; omega] at hin
              exact hin))
      · refine O.guard_t rfl rfl ?_
        refine O.ex (Ex.move rfl) rfl ?_
        refine O.guard_t rfl rfl ?_
        refine O.ex (Ex.move rfl) rfl ?_
        refine O.guard_t rfl rfl ?_
        refine O.ex (by first | exact Ex.lenR Tryd.runUnderlying22 rfl | exact Ex.lenIn Tryd.runUnderlying22 rfl | exact Ex.lenL Tryd.runUnderlying22 rfl | exact Ex.len rfl Tryd.runUnderlying22 rfl) rfl ?_
        refine O.guard_t rfl rfl ?_
        refine O.ex (Ex.geq rfl rfl) rfl ?_
        refine O.ex (Ex.pick_f rfl rfl) rfl ?_
        refine O.ex (Ex.move rfl) rfl ?_
        first | refine O.split_p (t := 23) rfl (fun hbg => ?_) (fun hsm => ?_) | refine O.split (t := 23) rfl (fun hbg => ?_) (fun hsm => ?_)
        · refine O.guard_f rfl rfl rfl rfl ?_
          refine O.guard_f rfl rfl rfl rfl ?_
          refine O.guard_f rfl rfl rfl rfl ?_
          refine O.ex (Ex.pick_t rfl rfl) rfl ?_
          refine O.nil ?_
          refine hK12 _ _ _ ?_
          refine W.cond_t rfl ?_
          refine W.seq (fun K14 hK14 => ?_)
          refine W.region ?_
          refine O.ex (Ex.assign rfl) rfl ?_
          refine O.nil ?_
          refine hK14 _ _ _ ?_
          refine W.ret ?_
          try dsimp only [thenQ, blockQ, retQ]
          first | refine ⟨_, ⟨_, _, rfl, rfl, rfl⟩, ?_⟩ | (refine retD_mark ?_; intro w H; refine ⟨_, ⟨_, _, rfl, rfl, rfl⟩, ?_⟩) | (refine retD_mark2 ?_; intro w H; refine ⟨_, ⟨_, _, rfl, rfl, rfl⟩, ?_⟩)
          first
          | exact ⟨congrArg Value.bool (decide_eq_false fun h => by have := h.1; omega).symm, Holds.to (by assumption)⟩
          | (obtain rfl : i = l.length := by omega
             exact ⟨congrArg Value.bool (decide_eq_true (pre_all (by omega) hp)).symm, Holds.to (by assumption)⟩)
          | (refine ⟨congrArg Value.bool (decide_eq_false fun h => ?_).symm, Holds.to (by assumption)⟩
             obtain ⟨p0, p1, p2⟩ := pre_of h i (by omega)
             first
             | (replace hneg : l.getD i default < 0 := hneg; omega)
             | (replace hbg : (l.length : Int) ≤ l.getD i default := hbg; omega)
             | (refine p2 ?_
                rw [show (((l.getD ((i : Nat) : Int).toNat default).toNat : Nat) : Int) = l.getD i default from by rw [Int.toNat_natCast]; omega] at hin
                exact hin))
        · refine O.guard_t rfl rfl ?_
          refine O.ex (Ex.move rfl) rfl ?_
          refine O.guard_t rfl rfl ?_
          refine O.ex (Ex.idxArr Tryd.runUnderlying66 Tryd.sizeOf4 rfl rfl) rfl ?_
          refine O.guard_t rfl rfl ?_
          refine O.ex (by first | exact Ex.loadM Tryd.isAgg4 rfl | exact Ex.loadVc Tryd.isAgg4 rfl | exact Ex.loadP Tryd.isAgg4 rfl | exact Ex.loadIn1 Tryd.isAgg4 rfl (Holds.to (by assumption)) | exact Ex.loadMh Tryd.isAgg4 rfl | exact Ex.loadR Tryd.isAgg4 rfl | exact Ex.loadQ Tryd.isAgg4 rfl) rfl ?_
          refine O.ex (Ex.pick_f rfl rfl) rfl ?_
          refine O.nil ?_
          refine hK12 _ _ _ ?_
          first | refine W.cond_p rfl (fun hin => ?_) (fun hout => ?_) | refine W.cond_b rfl (fun hin => ?_) (fun hout => ?_)
          · refine W.seq (fun K15 hK15 => ?_)
            refine W.region ?_
            refine O.ex (Ex.assign rfl) rfl ?_
            refine O.nil ?_
            refine hK15 _ _ _ ?_
            refine W.ret ?_
            try dsimp only [thenQ, blockQ, retQ]
            first | refine ⟨_, ⟨_, _, rfl, rfl, rfl⟩, ?_⟩ | (refine retD_mark ?_; intro w H; refine ⟨_, ⟨_, _, rfl, rfl, rfl⟩, ?_⟩) | (refine retD_mark2 ?_; intro w H; refine ⟨_, ⟨_, _, rfl, rfl, rfl⟩, ?_⟩)
            first
            | exact ⟨congrArg Value.bool (decide_eq_false fun h => by have := h.1; omega).symm, Holds.to (by assumption)⟩
            | (obtain rfl : i = l.length := by omega
               exact ⟨congrArg Value.bool (decide_eq_true (pre_all (by omega) hp)).symm, Holds.to (by assumption)⟩)
            | (refine ⟨congrArg Value.bool (decide_eq_false fun h => ?_).symm, Holds.to (by assumption)⟩
               obtain ⟨p0, p1, p2⟩ := pre_of h i (by omega)
               first
               | (replace hneg : l.getD i default < 0 := hneg; omega)
               | (replace hbg : (l.length : Int) ≤ l.getD i default := hbg; omega)
               | (refine p2 ?_
                  rw [show (((l.getD ((i : Nat) : Int).toNat default).toNat : Nat) : Int) = l.getD i default from by rw [Int.toNat_natCast]; omega] at hin
                  exact hin))
          · refine W.skip ?_
            refine hK11 _ _ _ ?_
            refine W.region ?_
            have hil : i < l.length := by omega
            have hpos2 : ¬ l.getD i default < 0 := hpos
            have hsm2 : ¬ (l.length : Int) ≤ l.getD i default := hsm
            have hnot : l.getD i default ∉ l.take i := fun hh => hout (by rw [show (((l.getD ((i : Nat) : Int).toNat default).toNat : Nat) : Int) = l.getD i default from by rw [Int.toNat_natCast]; omega]; exact hh)
            refine O.ex (Ex.move rfl) rfl ?_
            refine O.ex (Ex.idxArr Tryd.runUnderlying66 Tryd.sizeOf4 rfl rfl) rfl ?_
            first | refine O.storeP Tryd.sizeOf4 rfl rfl (fun w H => ?_) | refine O.storeR Tryd.sizeOf4 rfl rfl (fun w H => ?_) | refine O.storeM Tryd.sizeOf4 rfl rfl (fun w H => ?_) | refine O.storeVc Tryd.sizeOf4 rfl rfl (fun w H => ?_)
            refine O.nil ?_
            refine hK9 _ _ _ ?_
            refine W.region ?_
            refine O.ex (by first | exact Ex.addI rfl rfl | exact Ex.add rfl rfl rfl) rfl ?_
            refine O.ex (Ex.move rfl) rfl ?_
            refine O.nil ?_
            rw [show upd1 (fun r => decide (((r : Nat) : Int) ∈ l.take i)) (l.getD ((i : Nat) : Int).toNat default).toNat true = fun r => decide (((r : Nat) : Int) ∈ l.take (i + 1)) from upd_seen hil (by omega)] at H
            exact ⟨i + 1, ⟨rfl, rfl, rfl, rfl, rfl, trivial⟩, ⟨rfl, by omega, pre_step hil hp (by omega) (by omega) hnot, Holds.to (by assumption)⟩, by omega⟩
    · refine W.exit ?_
      refine hK5 _ _ _ ?_
      refine W.seq (fun K16 hK16 => ?_)
      refine W.region ?_
      refine O.ex (Ex.assign rfl) rfl ?_
      refine O.nil ?_
      refine hK16 _ _ _ ?_
      refine W.ret ?_
      try dsimp only [thenQ, blockQ, retQ]
      first | refine ⟨_, ⟨_, _, rfl, rfl, rfl⟩, ?_⟩ | (refine retD_mark ?_; intro w H; refine ⟨_, ⟨_, _, rfl, rfl, rfl⟩, ?_⟩) | (refine retD_mark2 ?_; intro w H; refine ⟨_, ⟨_, _, rfl, rfl, rfl⟩, ?_⟩)
      first
      | exact ⟨congrArg Value.bool (decide_eq_false fun h => by have := h.1; omega).symm, Holds.to (by assumption)⟩
      | (obtain rfl : i = l.length := by omega
         exact ⟨congrArg Value.bool (decide_eq_true (pre_all (by omega) hp)).symm, Holds.to (by assumption)⟩)
      | (refine ⟨congrArg Value.bool (decide_eq_false fun h => ?_).symm, Holds.to (by assumption)⟩
         obtain ⟨p0, p1, p2⟩ := pre_of h i (by omega)
         first
         | (replace hneg : l.getD i default < 0 := hneg; omega)
         | (replace hbg : (l.length : Int) ≤ l.getD i default := hbg; omega)
         | (refine p2 ?_
            rw [show (((l.getD ((i : Nat) : Int).toNat default).toNat : Nat) : Int) = l.getD i default from by rw [Int.toNat_natCast]; omega] at hin
            exact hin))
theorem inverseA_ct {w  : World} {v : Value} {l : List Int} {L : List HProp} (H : Holds w (arr 3 (Value.int .i64) v l :: L)) (hlen : l.length ≤ 9223372036854775807) :
    CT Tryd.prog 29 [v] w fun u w' => (RightP l ∧ ∃ x, u = .tuple #[x, .int .i64 0] ∧ x.oneCell' = true ∧ Holds w' (arr 3 (Value.int .i64) x (invL l) :: arr 3 (Value.int .i64) v l :: L)) ∨ (¬ RightP l ∧ u = .tuple #[.slice none 0 0, .int .i64 1] ∧ Holds w' (arr 3 (Value.int .i64) v l :: L)) := by
  refine CT.enter (N := 26) Tryd.func29 rfl rfl rfl rfl ?_
  refine W.seq (fun K0 hK0 => ?_)
  refine W.region ?_
  refine O.ex (Ex.assign rfl) rfl ?_
  refine O.ex (Ex.assign rfl) rfl ?_
  refine O.nil ?_
  refine hK0 _ _ _ ?_
  refine W.seq (fun K1 hK1 => ?_)
  refine W.seq (fun K2 hK2 => ?_)
  refine W.region ?_
  refine O.ex (Ex.move rfl) rfl ?_
  refine O.callF Tryd.call43 rfl rfl (CT.mono (rightA_ct  (Holds.to (by assumption)) hlen) ?_)
  rintro _ w ⟨rfl, H⟩
  refine O.ex (by first | exact Ex.notD rfl | exact Ex.not rfl) rfl ?_
  refine O.nil ?_
  refine hK2 _ _ _ ?_
  first | refine W.cond_p rfl (fun hno => ?_) (fun hyes => ?_) | refine W.cond_b rfl (fun hno => ?_) (fun hyes => ?_)
  · refine W.seq (fun K3 hK3 => ?_)
    refine W.region ?_
    refine O.ex (Ex.assign rfl) rfl ?_
    refine O.ex (Ex.assign rfl) rfl ?_
    refine O.nil ?_
    refine hK3 _ _ _ ?_
    refine W.ret ?_
    try dsimp only [thenQ, blockQ, retQ]
    first | refine ⟨_, ⟨_, _, rfl, rfl, _, _, rfl, rfl, rfl⟩, ?_⟩ | (refine retD_mark ?_; intro w H; refine ⟨_, ⟨_, _, rfl, rfl, _, _, rfl, rfl, rfl⟩, ?_⟩) | (refine retD_mark2 ?_; intro w H; refine ⟨_, ⟨_, _, rfl, rfl, _, _, rfl, rfl, rfl⟩, ?_⟩)
    first
    | exact .inr ⟨by simpa using hno, rfl, Holds.to (by assumption)⟩
    | (obtain rfl : i = l.length := by omega
       exact .inl ⟨hr, _, rfl, by assumption, Holds.to (by assumption)⟩)
  · refine W.skip ?_
    refine hK1 _ _ _ ?_
    refine W.seq (fun K4 hK4 => ?_)
    refine W.region ?_
    have hr : RightP l := by simpa using hyes
    have h24 := hr.1
    refine O.ex (Ex.move rfl) rfl ?_
    refine O.ex (by first | exact Ex.lenR Tryd.runUnderlying22 rfl | exact Ex.lenIn Tryd.runUnderlying22 rfl | exact Ex.lenL Tryd.runUnderlying22 rfl | exact Ex.len rfl Tryd.runUnderlying22 rfl) rfl ?_
    refine O.makeR (0 : Int) (e := Value.int .i64) (bt := 8) Tryd.runUnderlying22 Tryd.sizeOf3 Tryd.zeroValue3 Tryd.typeInfo3 rfl rfl rfl (fun s12 w hs12 H => ?_)
    refine O.ex (Ex.assign rfl) rfl ?_
    refine O.nil ?_
    refine hK4 _ _ _ ?_
    refine W.seq (fun K5 hK5 => ?_)
    refine W.seq (fun K6 hK6 => ?_)
    refine W.region ?_
    refine O.ex (Ex.move rfl) rfl ?_
    refine O.ex (by first | exact Ex.lenR Tryd.runUnderlying22 rfl | exact Ex.lenIn Tryd.runUnderlying22 rfl | exact Ex.lenL Tryd.runUnderlying22 rfl | exact Ex.len rfl Tryd.runUnderlying22 rfl) rfl ?_
    refine O.ex (Ex.move rfl) rfl ?_
    refine O.nil ?_
    refine hK6 _ _ _ ?_
    refine W.block ?_
    have H : Holds w (arr 3 (Value.int .i64) s12 (invS l l.length 0) :: arr 3 (Value.int .i64) v l :: L) := H
    refine W.loop (σ := Nat) (fun i => [(4, s12), (13, v), (14, .int .i64 l.length), (15, .int .i64 (i : Int))]) (fun i ds w => ds = [] ∧ i ≤ l.length ∧ Holds w (arr 3 (Value.int .i64) s12 (invS l l.length i) :: arr 3 (Value.int .i64) v l :: L)) (fun i => l.length - i) 0 ⟨rfl, rfl, rfl, rfl, trivial⟩ ⟨rfl, by omega, Holds.to (by assumption)⟩ ?_
    clear H
    rintro i _ w ⟨rfl, hi, H⟩
    have hsl := invS_len l l.length i
    refine W.seq (fun K7 hK7 => ?_)
    refine W.region ?_
    refine O.ex (Ex.lss rfl rfl) rfl ?_
    refine O.nil ?_
    refine hK7 _ _ _ ?_
    refine W.seq (fun K8 hK8 => ?_)
    first | refine W.cond_p rfl (fun hlt => ?_) (fun hge => ?_) | refine W.cond_b rfl (fun hlt => ?_) (fun hge => ?_)
    · refine W.skip ?_
      refine hK8 _ _ _ ?_
      refine W.seq (fun K9 hK9 => ?_)
      refine W.block ?_
      refine W.seq (fun K10 hK10 => ?_)
      refine W.region ?_
      refine O.ex (Ex.move rfl) rfl ?_
      refine O.ex (by first | exact Ex.idxR Tryd.runUnderlying22 Tryd.sizeOf3 rfl rfl | exact Ex.idxIn Tryd.runUnderlying22 Tryd.sizeOf3 rfl rfl | exact Ex.idxS Tryd.runUnderlying22 Tryd.sizeOf3 rfl rfl | exact Ex.idx Tryd.runUnderlying22 Tryd.sizeOf3 rfl rfl (by omega) (by omega)) rfl ?_
      refine O.ex (by first | exact Ex.loadR Tryd.isAgg3 rfl | exact Ex.loadIn1 Tryd.isAgg3 rfl (Holds.to (by assumption)) | exact Ex.loadP Tryd.isAgg3 rfl | exact Ex.loadMh Tryd.isAgg3 rfl | exact Ex.loadM Tryd.isAgg3 rfl | exact Ex.loadVc Tryd.isAgg3 rfl | exact Ex.loadQ Tryd.isAgg3 rfl) rfl ?_
      refine O.ex (Ex.assign rfl) rfl ?_
      refine O.ex (Ex.assign rfl) rfl ?_
      refine O.nil ?_
      refine hK10 _ _ _ ?_
      refine W.region ?_
      have hm := hr.2.1 _ (getD_mem l ((i : Nat) : Int).toNat (by omega))
      refine O.ex (Ex.move rfl) rfl ?_
      refine O.ex (Ex.move rfl) rfl ?_
      refine O.ex (Ex.move rfl) rfl ?_
      refine O.ex (by first | exact Ex.idxR Tryd.runUnderlying22 Tryd.sizeOf3 rfl rfl | exact Ex.idxIn Tryd.runUnderlying22 Tryd.sizeOf3 rfl rfl | exact Ex.idxS Tryd.runUnderlying22 Tryd.sizeOf3 rfl rfl | exact Ex.idx Tryd.runUnderlying22 Tryd.sizeOf3 rfl rfl (by omega) (by omega)) rfl ?_
      first | refine O.storeP Tryd.sizeOf3 rfl rfl (fun w H => ?_) | refine O.storeR Tryd.sizeOf3 rfl rfl (fun w H => ?_) | refine O.storeM Tryd.sizeOf3 rfl rfl (fun w H => ?_) | refine O.storeVc Tryd.sizeOf3 rfl rfl (fun w H => ?_)
      refine O.nil ?_
      refine hK9 _ _ _ ?_
      refine W.region ?_
      refine O.ex (by first | exact Ex.addI rfl rfl | exact Ex.add rfl rfl rfl) rfl ?_
      refine O.ex (Ex.move rfl) rfl ?_
      refine O.nil ?_
      exact ⟨i + 1, ⟨rfl, rfl, rfl, rfl, trivial⟩, ⟨rfl, by omega, Holds.to (by assumption)⟩, by omega⟩
    · refine W.exit ?_
      refine hK5 _ _ _ ?_
      refine W.seq (fun K11 hK11 => ?_)
      refine W.region ?_
      refine O.ex (Ex.move rfl) rfl ?_
      refine O.ex (Ex.assign rfl) rfl ?_
      refine O.ex (Ex.assign rfl) rfl ?_
      refine O.nil ?_
      refine hK11 _ _ _ ?_
      refine W.ret ?_
      try dsimp only [thenQ, blockQ, retQ]
      first | refine ⟨_, ⟨_, _, rfl, rfl, _, _, rfl, rfl, rfl⟩, ?_⟩ | (refine retD_mark ?_; intro w H; refine ⟨_, ⟨_, _, rfl, rfl, _, _, rfl, rfl, rfl⟩, ?_⟩) | (refine retD_mark2 ?_; intro w H; refine ⟨_, ⟨_, _, rfl, rfl, _, _, rfl, rfl, rfl⟩, ?_⟩)
      first
      | exact .inr ⟨by simpa using hno, rfl, Holds.to (by assumption)⟩
      | (obtain rfl : i = l.length := by omega
         exact .inl ⟨hr, _, rfl, by assumption, Holds.to (by assumption)⟩)
theorem refRightA_ct {w  : World} {v : Value} {l : List Int} {L : List HProp} (H : Holds w (arr 3 (Value.int .i64) v l :: L)) (hlen : l.length ≤ 9223372036854775807) :
    CT Tryd.prog 28 [v] w fun u w' => u = .bool (decide (RightP l)) ∧ Holds w' (arr 3 (Value.int .i64) v l :: L) := by
  refine CT.enter (N := 31) Tryd.func28 rfl rfl rfl rfl ?_
  refine W.seq (fun K0 hK0 => ?_)
  refine W.region ?_
  refine O.ex (Ex.assign rfl) rfl ?_
  refine O.nil ?_
  refine hK0 _ _ _ ?_
  refine W.seq (fun K1 hK1 => ?_)
  refine W.seq (fun K2 hK2 => ?_)
  refine W.region ?_
  refine O.ex (Ex.move rfl) rfl ?_
  refine O.ex (by first | exact Ex.lenR Tryd.runUnderlying22 rfl | exact Ex.lenIn Tryd.runUnderlying22 rfl | exact Ex.lenL Tryd.runUnderlying22 rfl | exact Ex.len rfl Tryd.runUnderlying22 rfl) rfl ?_
  refine O.ex (Ex.gtr rfl rfl) rfl ?_
  refine O.nil ?_
  refine hK2 _ _ _ ?_
  first | refine W.cond_p rfl (fun hbig => ?_) (fun hle => ?_) | refine W.cond_b rfl (fun hbig => ?_) (fun hle => ?_)
  · refine W.seq (fun K3 hK3 => ?_)
    refine W.region ?_
    refine O.ex (Ex.assign rfl) rfl ?_
    refine O.nil ?_
    refine hK3 _ _ _ ?_
    refine W.ret ?_
    try dsimp only [thenQ, blockQ, retQ]
    first | refine ⟨_, ⟨_, _, rfl, rfl, rfl⟩, ?_⟩ | (refine retD_mark ?_; intro w H; refine ⟨_, ⟨_, _, rfl, rfl, rfl⟩, ?_⟩) | (refine retD_mark2 ?_; intro w H; refine ⟨_, ⟨_, _, rfl, rfl, rfl⟩, ?_⟩)
    first
    | exact ⟨congrArg Value.bool (decide_eq_false fun h => by have := h.1; omega).symm, Holds.to (by assumption)⟩
    | (refine ⟨congrArg Value.bool (decide_eq_false fun h => ?_).symm, Holds.to (by assumption)⟩
       have := h.cnt (r := (i : Int)) (by omega) (by omega)
       omega)
    | (obtain rfl : i = l.length := by omega
       exact ⟨congrArg Value.bool (decide_eq_true (right_of_cnt (by omega) hc)).symm, Holds.to (by assumption)⟩)
  · refine W.skip ?_
    refine hK1 _ _ _ ?_
    refine W.seq (fun K4 hK4 => ?_)
    refine W.seq (fun K5 hK5 => ?_)
    refine W.region ?_
    refine O.ex (Ex.assign rfl) rfl ?_
    refine O.nil ?_
    refine hK5 _ _ _ ?_
    refine W.block ?_
    refine W.loop (σ := Nat) (fun i => [(0, v), (3, .int .i64 (i : Int))]) (fun i ds w => ds = [] ∧ i ≤ l.length ∧ (∀ r : Nat, r < i → l.count (r : Int) = 1) ∧ Holds w (arr 3 (Value.int .i64) v l :: L)) (fun i => l.length - i) 0 ⟨rfl, rfl, trivial⟩ ⟨rfl, by omega, fun r hr => absurd hr (by omega), Holds.to (by assumption)⟩ ?_
    clear H
    rintro i _ w ⟨rfl, hi, hc, H⟩
    refine W.seq (fun K6 hK6 => ?_)
    refine W.seq (fun K7 hK7 => ?_)
    refine W.region ?_
    refine O.ex (Ex.move rfl) rfl ?_
    refine O.ex (Ex.move rfl) rfl ?_
    refine O.ex (by first | exact Ex.lenR Tryd.runUnderlying22 rfl | exact Ex.lenIn Tryd.runUnderlying22 rfl | exact Ex.lenL Tryd.runUnderlying22 rfl | exact Ex.len rfl Tryd.runUnderlying22 rfl) rfl ?_
    refine O.ex (Ex.lss rfl rfl) rfl ?_
    refine O.nil ?_
    refine hK7 _ _ _ ?_
    first | refine W.cond_p rfl (fun hlt => ?_) (fun hge => ?_) | refine W.cond_b rfl (fun hlt => ?_) (fun hge => ?_)
    · refine W.skip ?_
      refine hK6 _ _ _ ?_
      refine W.seq (fun K8 hK8 => ?_)
      refine W.block ?_
      refine W.seq (fun K9 hK9 => ?_)
      refine W.region ?_
      refine O.ex (Ex.assign rfl) rfl ?_
      refine O.nil ?_
      refine hK9 _ _ _ ?_
      refine W.seq (fun K10 hK10 => ?_)
      refine W.seq (fun K11 hK11 => ?_)
      refine W.region ?_
      refine O.ex (Ex.assign rfl) rfl ?_
      refine O.nil ?_
      refine hK11 _ _ _ ?_
      refine W.block ?_
      refine W.loop (σ := Nat) (fun j => [(0, v), (3, .int .i64 (i : Int)), (4, .int .i64 ((l.take j).count (i : Int) : Nat)), (5, .int .i64 (j : Int))]) (fun j ds w => ds = [] ∧ j ≤ l.length ∧ Holds w (arr 3 (Value.int .i64) v l :: L)) (fun j => l.length - j) 0 ⟨rfl, rfl, by rw [List.take_zero]; rfl, rfl, trivial⟩ ⟨rfl, by omega, Holds.to (by assumption)⟩ ?_
      clear H
      rintro j _ w ⟨rfl, hj, H⟩
      have hcl : (l.take j).count (i : Int) ≤ j := Nat.le_trans List.count_le_length (by rw [List.length_take]; omega)
      refine W.seq (fun K12 hK12 => ?_)
      refine W.seq (fun K13 hK13 => ?_)
      refine W.region ?_
      refine O.ex (Ex.move rfl) rfl ?_
      refine O.ex (Ex.move rfl) rfl ?_
      refine O.ex (by first | exact Ex.lenR Tryd.runUnderlying22 rfl | exact Ex.lenIn Tryd.runUnderlying22 rfl | exact Ex.lenL Tryd.runUnderlying22 rfl | exact Ex.len rfl Tryd.runUnderlying22 rfl) rfl ?_
      refine O.ex (Ex.lss rfl rfl) rfl ?_
      refine O.nil ?_
      refine hK13 _ _ _ ?_
      first | refine W.cond_p rfl (fun hlt2 => ?_) (fun hge2 => ?_) | refine W.cond_b rfl (fun hlt2 => ?_) (fun hge2 => ?_)
      · refine W.skip ?_
        refine hK12 _ _ _ ?_
        refine W.seq (fun K14 hK14 => ?_)
        refine W.block ?_
        refine W.seq (fun K15 hK15 => ?_)
        refine W.region ?_
        refine O.ex (Ex.move rfl) rfl ?_
        refine O.ex (Ex.move rfl) rfl ?_
        refine O.ex (by first | exact Ex.idxR Tryd.runUnderlying22 Tryd.sizeOf3 rfl rfl | exact Ex.idxIn Tryd.runUnderlying22 Tryd.sizeOf3 rfl rfl | exact Ex.idxS Tryd.runUnderlying22 Tryd.sizeOf3 rfl rfl | exact Ex.idx Tryd.runUnderlying22 Tryd.sizeOf3 rfl rfl (by omega) (by omega)) rfl ?_
        refine O.ex (by first | exact Ex.loadR Tryd.isAgg3 rfl | exact Ex.loadIn1 Tryd.isAgg3 rfl (Holds.to (by assumption)) | exact Ex.loadP Tryd.isAgg3 rfl | exact Ex.loadMh Tryd.isAgg3 rfl | exact Ex.loadM Tryd.isAgg3 rfl | exact Ex.loadVc Tryd.isAgg3 rfl | exact Ex.loadQ Tryd.isAgg3 rfl) rfl ?_
        refine O.ex (Ex.move rfl) rfl ?_
        refine O.ex (Ex.eqlI rfl rfl) rfl ?_
        refine O.nil ?_
        refine hK15 _ _ _ ?_
        first | refine W.cond_p rfl (fun heq => ?_) (fun hne => ?_) | refine W.cond_b rfl (fun heq => ?_) (fun hne => ?_)
        · refine W.region ?_
          refine O.ex (Ex.move rfl) rfl ?_
          refine O.ex (by first | exact Ex.addI rfl rfl | exact Ex.add rfl rfl rfl) rfl ?_
          refine O.ex (Ex.assign rfl) rfl ?_
          refine O.nil ?_
          refine hK14 _ _ _ ?_
          refine W.region ?_
          refine O.ex (Ex.move rfl) rfl ?_
          refine O.ex (by first | exact Ex.addI rfl rfl | exact Ex.add rfl rfl rfl) rfl ?_
          refine O.ex (Ex.assign rfl) rfl ?_
          refine O.nil ?_
          first
          | (replace heq : l.getD j default = (i : Int) := heq
             exact ⟨j + 1, ⟨rfl, rfl, by rw [cnt_take l j (by omega), if_pos heq]; rfl, rfl, trivial⟩, ⟨rfl, by omega, Holds.to (by assumption)⟩, by omega⟩)
          | (replace hne : ¬ l.getD j default = (i : Int) := hne
             exact ⟨j + 1, ⟨rfl, rfl, by rw [cnt_take l j (by omega), if_neg hne]; rfl, rfl, trivial⟩, ⟨rfl, by omega, Holds.to (by assumption)⟩, by omega⟩)
        · refine W.skip ?_
          refine hK14 _ _ _ ?_
          refine W.region ?_
          refine O.ex (Ex.move rfl) rfl ?_
          refine O.ex (by first | exact Ex.addI rfl rfl | exact Ex.add rfl rfl rfl) rfl ?_
          refine O.ex (Ex.assign rfl) rfl ?_
          refine O.nil ?_
          first
          | (replace heq : l.getD j default = (i : Int) := heq
             exact ⟨j + 1, ⟨rfl, rfl, by rw [cnt_take l j (by omega), if_pos heq]; rfl, rfl, trivial⟩, ⟨rfl, by omega, Holds.to (by assumption)⟩, by omega⟩)
          | (replace hne : ¬ l.getD j default = (i : Int) := hne
             exact ⟨j + 1, ⟨rfl, rfl, by rw [cnt_take l j (by omega), if_neg hne]; rfl, rfl, trivial⟩, ⟨rfl, by omega, Holds.to (by assumption)⟩, by omega⟩)
      · refine W.exit ?_
        refine hK10 _ _ _ ?_
        refine W.seq (fun K16 hK16 => ?_)
        refine W.region ?_
        obtain rfl : j = l.length := by omega
        rw [List.take_length]
        refine O.ex (Ex.move rfl) rfl ?_
        refine O.ex (Ex.neqI rfl rfl) rfl ?_
        refine O.nil ?_
        refine hK16 _ _ _ ?_
        first | refine W.cond_p rfl (fun hbad => ?_) (fun hok => ?_) | refine W.cond_b rfl (fun hbad => ?_) (fun hok => ?_)
        · refine W.seq (fun K17 hK17 => ?_)
          refine W.region ?_
          refine O.ex (Ex.assign rfl) rfl ?_
          refine O.nil ?_
          refine hK17 _ _ _ ?_
          refine W.ret ?_
          try dsimp only [thenQ, blockQ, retQ]
          first | refine ⟨_, ⟨_, _, rfl, rfl, rfl⟩, ?_⟩ | (refine retD_mark ?_; intro w H; refine ⟨_, ⟨_, _, rfl, rfl, rfl⟩, ?_⟩) | (refine retD_mark2 ?_; intro w H; refine ⟨_, ⟨_, _, rfl, rfl, rfl⟩, ?_⟩)
          first
          | exact ⟨congrArg Value.bool (decide_eq_false fun h => by have := h.1; omega).symm, Holds.to (by assumption)⟩
          | (refine ⟨congrArg Value.bool (decide_eq_false fun h => ?_).symm, Holds.to (by assumption)⟩
             have := h.cnt (r := (i : Int)) (by omega) (by omega)
             omega)
          | (obtain rfl : i = l.length := by omega
             exact ⟨congrArg Value.bool (decide_eq_true (right_of_cnt (by omega) hc)).symm, Holds.to (by assumption)⟩)
        · refine W.skip ?_
          refine hK8 _ _ _ ?_
          refine W.region ?_
          refine O.ex (Ex.move rfl) rfl ?_
          refine O.ex (by first | exact Ex.addI rfl rfl | exact Ex.add rfl rfl rfl) rfl ?_
          refine O.ex (Ex.assign rfl) rfl ?_
          refine O.nil ?_
          refine ⟨i + 1, ⟨rfl, rfl, trivial⟩, ⟨rfl, by omega, fun r hr => ?_, Holds.to (by assumption)⟩, by omega⟩
          by_cases e : r = i
          · subst e; omega
          · exact hc r (by omega)
    · refine W.exit ?_
      refine hK4 _ _ _ ?_
      refine W.seq (fun K18 hK18 => ?_)
      refine W.region ?_
      refine O.ex (Ex.assign rfl) rfl ?_
      refine O.nil ?_
      refine hK18 _ _ _ ?_
      refine W.ret ?_
      try dsimp only [thenQ, blockQ, retQ]
      first | refine ⟨_, ⟨_, _, rfl, rfl, rfl⟩, ?_⟩ | (refine retD_mark ?_; intro w H; refine ⟨_, ⟨_, _, rfl, rfl, rfl⟩, ?_⟩) | (refine retD_mark2 ?_; intro w H; refine ⟨_, ⟨_, _, rfl, rfl, rfl⟩, ?_⟩)
      first
      | exact ⟨congrArg Value.bool (decide_eq_false fun h => by have := h.1; omega).symm, Holds.to (by assumption)⟩
      | (refine ⟨congrArg Value.bool (decide_eq_false fun h => ?_).symm, Holds.to (by assumption)⟩
         have := h.cnt (r := (i : Int)) (by omega) (by omega)
         omega)
      | (obtain rfl : i = l.length := by omega
         exact ⟨congrArg Value.bool (decide_eq_true (right_of_cnt (by omega) hc)).symm, Holds.to (by assumption)⟩)
set_option maxHeartbeats 1000000 in
theorem rightI_ct {w w0 : World} {v : Value} {l : List Int} {L : List HProp} (hx : SlIn w0 1 (fun s : Int => [.int .i64 s]) v l) (H : Holds w (base w0 :: L)) (hlen : l.length ≤ 9223372036854775807) :
    CT Tryd.prog 43 [v] w fun u w' => u = .bool (decide (RightP l)) ∧ Holds w' (base w0 :: L) := by
  refine CT.enter (N := 31) Tryd.func43 rfl rfl rfl rfl ?_
  refine W.seq (fun K0 hK0 => ?_)
  refine W.region ?_
  refine O.ex (Ex.assign rfl) rfl ?_
  refine O.nil ?_
  refine hK0 _ _ _ ?_
  refine W.seq (fun K1 hK1 => ?_)
  refine W.seq (fun K2 hK2 => ?_)
  refine W.region ?_
  refine O.ex (Ex.move rfl) rfl ?_
  refine O.ex (by first | exact Ex.lenR Tryd.runUnderlying22 rfl | exact Ex.lenIn Tryd.runUnderlying22 rfl | exact Ex.lenL Tryd.runUnderlying22 rfl | exact Ex.len rfl Tryd.runUnderlying22 rfl) rfl ?_
  refine O.ex (Ex.gtr rfl rfl) rfl ?_
  refine O.nil ?_
  refine hK2 _ _ _ ?_
  first | refine W.cond_p rfl (fun hbig => ?_) (fun hle => ?_) | refine W.cond_b rfl (fun hbig => ?_) (fun hle => ?_)
  · refine W.seq (fun K3 hK3 => ?_)
    refine W.region ?_
    refine O.ex (Ex.assign rfl) rfl ?_
    refine O.nil ?_
    refine hK3 _ _ _ ?_
    refine W.ret ?_
    try dsimp only [thenQ, blockQ, retQ]
    first | refine ⟨_, ⟨_, _, rfl, rfl, rfl⟩, ?_⟩ | (refine retD_mark ?_; intro w H; refine ⟨_, ⟨_, _, rfl, rfl, rfl⟩, ?_⟩) | (refine retD_mark2 ?_; intro w H; refine ⟨_, ⟨_, _, rfl, rfl, rfl⟩, ?_⟩)
    first
    | exact ⟨congrArg Value.bool (decide_eq_false fun h => by have := h.1; omega).symm, Holds.to (by assumption)⟩
    | (obtain rfl : i = l.length := by omega
       exact ⟨congrArg Value.bool (decide_eq_true (pre_all (by omega) hp)).symm, Holds.to (by assumption)⟩)
    | (refine ⟨congrArg Value.bool (decide_eq_false fun h => ?_).symm, Holds.to (by assumption)⟩
       obtain ⟨p0, p1, p2⟩ := pre_of h i (by omega)
       first
       | (replace hneg : l.getD i default < 0 := hneg; omega)
       | (replace hbg : (l.length : Int) ≤ l.getD i default := hbg; omega)
       | (refine p2 ?_
          rw [show (((l.getD ((i : Nat) : Int).toNat default).toNat : Nat) : Int) = l.getD i default from by rw [Int.toNat_natCast]; omega] at hin
          exact hin))
  · refine W.skip ?_
    refine hK1 _ _ _ ?_
    refine W.seq (fun K4 hK4 => ?_)
    refine W.region ?_
    refine O.allocP Tryd.zeroValue66 (fun b3 w H => ?_)
    have H := seen0 (l := l) H
    refine O.nil ?_
    refine hK4 _ _ _ ?_
    refine W.seq (fun K5 hK5 => ?_)
    refine W.seq (fun K6 hK6 => ?_)
    refine W.region ?_
    refine O.ex (Ex.move rfl) rfl ?_
    refine O.ex (by first | exact Ex.lenR Tryd.runUnderlying22 rfl | exact Ex.lenIn Tryd.runUnderlying22 rfl | exact Ex.lenL Tryd.runUnderlying22 rfl | exact Ex.len rfl Tryd.runUnderlying22 rfl) rfl ?_
    refine O.ex (Ex.move rfl) rfl ?_
    refine O.nil ?_
    refine hK6 _ _ _ ?_
    refine W.block ?_
    have hp0 : pre l 0 := ⟨by simp, by simp⟩
    refine W.loop (σ := Nat) (fun i => [(0, v), (3, .pointer (some ⟨b3, 0, none⟩)), (9, v), (10, .int .i64 l.length), (11, .int .i64 (i : Int))]) (fun i ds w => ds = [] ∧ i ≤ l.length ∧ pre l i ∧ Holds w (vec b3 66 [] 24 Value.bool (fun r => decide (((r : Nat) : Int) ∈ l.take i)) :: base w0 :: L)) (fun i => l.length - i) 0 ⟨rfl, rfl, rfl, rfl, rfl, trivial⟩ ⟨rfl, by omega, hp0, Holds.to (by assumption)⟩ ?_
    clear H hp0
    rintro i _ w ⟨rfl, hi, hp, H⟩
    refine W.seq (fun K7 hK7 => ?_)
    refine W.region ?_
    refine O.ex (Ex.lss rfl rfl) rfl ?_
    refine O.nil ?_
    refine hK7 _ _ _ ?_
    refine W.seq (fun K8 hK8 => ?_)
    first | refine W.cond_p rfl (fun hlt => ?_) (fun hge => ?_) | refine W.cond_b rfl (fun hlt => ?_) (fun hge => ?_)
    · refine W.skip ?_
      refine hK8 _ _ _ ?_
      refine W.seq (fun K9 hK9 => ?_)
      refine W.block ?_
      refine W.seq (fun K10 hK10 => ?_)
      refine W.region ?_
      refine O.ex (by first | exact Ex.idxR Tryd.runUnderlying22 Tryd.sizeOf3 rfl rfl | exact Ex.idxIn Tryd.runUnderlying22 Tryd.sizeOf3 rfl rfl | exact Ex.idxS Tryd.runUnderlying22 Tryd.sizeOf3 rfl rfl | exact Ex.idx Tryd.runUnderlying22 Tryd.sizeOf3 rfl rfl (by omega) (by omega)) rfl ?_
      refine O.ex (by first | exact Ex.loadR Tryd.isAgg3 rfl | exact Ex.loadIn1 Tryd.isAgg3 rfl (Holds.to (by assumption)) | exact Ex.loadP Tryd.isAgg3 rfl | exact Ex.loadMh Tryd.isAgg3 rfl | exact Ex.loadM Tryd.isAgg3 rfl | exact Ex.loadVc Tryd.isAgg3 rfl | exact Ex.loadQ Tryd.isAgg3 rfl) rfl ?_
      refine O.ex (Ex.assign rfl) rfl ?_
      refine O.nil ?_
      refine hK10 _ _ _ ?_
      refine W.seq (fun K11 hK11 => ?_)
      refine W.seq (fun K12 hK12 => ?_)
      refine W.region ?_
      refine O.ex (Ex.move rfl) rfl ?_
      refine O.ex (Ex.lss rfl rfl) rfl ?_
      refine O.ex (Ex.move rfl) rfl ?_
      first | refine O.split_p (t := 17) rfl (fun hneg => ?_) (fun hpos => ?_) | refine O.split (t := 17) rfl (fun hneg => ?_) (fun hpos => ?_)
      · refine O.guard_f rfl rfl rfl rfl ?_
        refine O.guard_f rfl rfl rfl rfl ?_
        refine O.guard_f rfl rfl rfl rfl ?_
        refine O.guard_f rfl rfl rfl rfl ?_
        refine O.ex (Ex.pick_t rfl rfl) rfl ?_
        refine O.ex (Ex.move rfl) rfl ?_
        refine O.guard_f rfl rfl rfl rfl ?_
        refine O.guard_f rfl rfl rfl rfl ?_
        refine O.guard_f rfl rfl rfl rfl ?_
        refine O.ex (Ex.pick_t rfl rfl) rfl ?_
        refine O.nil ?_
        refine hK12 _ _ _ ?_
        refine W.cond_t rfl ?_
        refine W.seq (fun K13 hK13 => ?_)
        refine W.region ?_
        refine O.ex (Ex.assign rfl) rfl ?_
        refine O.nil ?_
        refine hK13 _ _ _ ?_
        refine W.ret ?_
        try dsimp only [thenQ, blockQ, retQ]
        first | refine ⟨_, ⟨_, _, rfl, rfl, rfl⟩, ?_⟩ | (refine retD_mark ?_; intro w H; refine ⟨_, ⟨_, _, rfl, rfl, rfl⟩, ?_⟩) | (refine retD_mark2 ?_; intro w H; refine ⟨_, ⟨_, _, rfl, rfl, rfl⟩, ?_⟩)
        first
        | exact ⟨congrArg Value.bool (decide_eq_false fun h => by have := h.1; omega).symm, Holds.to (by assumption)⟩
        | (obtain rfl : i = l.length := by omega
           exact ⟨congrArg Value.bool (decide_eq_true (pre_all (by omega) hp)).symm, Holds.to (by assumption)⟩)
        | (refine ⟨congrArg Value.bool (decide_eq_false fun h => ?_).symm, Holds.to (by assumption)⟩
           obtain ⟨p0, p1, p2⟩ := pre_of h i (by omega)
           first
           | (replace hneg : l.getD i default < 0 := hneg; omega)
           | (replace hbg : (l.length : Int) ≤ l.getD i default := hbg; omega)
           | (refine p2 ?_
              rw [show (((l.getD ((i : Nat) : Int).toNat default).toNat : Nat) : Int) = l.getD i default from by rw [Int.toNat_natCast]; omega] at hin
              exact hin))
      · refine O.guard_t rfl rfl ?_
        refine O.ex (Ex.move rfl) rfl ?_
        refine O.guard_t rfl rfl ?_
        refine O.ex (Ex.move rfl) rfl ?_
        refine O.guard_t rfl rfl ?_
        refine O.ex (by first | exact Ex.lenR Tryd.runUnderlying22 rfl | exact Ex.lenIn Tryd.runUnderlying22 rfl | exact Ex.lenL Tryd.runUnderlying22 rfl | exact Ex.len rfl Tryd.runUnderlying22 rfl) rfl ?_
        refine O.guard_t rfl rfl ?_
        refine O.ex (Ex.geq rfl rfl) rfl ?_
        refine O.ex (Ex.pick_f rfl rfl) rfl ?_
        refine O.ex (Ex.move rfl) rfl ?_
        first | refine O.split_p (t := 23) rfl (fun hbg => ?_) (fun hsm => ?_) | refine O.split (t := 23) rfl (fun hbg => ?_) (fun hsm => ?_)
        · refine O.guard_f rfl rfl rfl rfl ?_
          refine O.guard_f rfl rfl rfl rfl ?_
          refine O.guard_f rfl rfl rfl rfl ?_
          refine O.ex (Ex.pick_t rfl rfl) rfl ?_
          refine O.nil ?_
          refine hK12 _ _ _ ?_
          refine W.cond_t rfl ?_
          refine W.seq (fun K14 hK14 => ?_)
          refine W.region ?_
          refine O.ex (Ex.assign rfl) rfl ?_
          refine O.nil ?_
          refine hK14 _ _ _ ?_
          refine W.ret ?_
          try dsimp only [thenQ, blockQ, retQ]
          first | refine ⟨_, ⟨_, _, rfl, rfl, rfl⟩, ?_⟩ | (refine retD_mark ?_; intro w H; refine ⟨_, ⟨_, _, rfl, rfl, rfl⟩, ?_⟩) | (refine retD_mark2 ?_; intro w H; refine ⟨_, ⟨_, _, rfl, rfl, rfl⟩, ?_⟩)
          first
          | exact ⟨congrArg Value.bool (decide_eq_false fun h => by have := h.1; omega).symm, Holds.to (by assumption)⟩
          | (obtain rfl : i = l.length := by omega
             exact ⟨congrArg Value.bool (decide_eq_true (pre_all (by omega) hp)).symm, Holds.to (by assumption)⟩)
          | (refine ⟨congrArg Value.bool (decide_eq_false fun h => ?_).symm, Holds.to (by assumption)⟩
             obtain ⟨p0, p1, p2⟩ := pre_of h i (by omega)
             first
             | (replace hneg : l.getD i default < 0 := hneg; omega)
             | (replace hbg : (l.length : Int) ≤ l.getD i default := hbg; omega)
             | (refine p2 ?_
                rw [show (((l.getD ((i : Nat) : Int).toNat default).toNat : Nat) : Int) = l.getD i default from by rw [Int.toNat_natCast]; omega] at hin
                exact hin))
        · refine O.guard_t rfl rfl ?_
          refine O.ex (Ex.move rfl) rfl ?_
          refine O.guard_t rfl rfl ?_
          refine O.ex (Ex.idxArr Tryd.runUnderlying66 Tryd.sizeOf4 rfl rfl) rfl ?_
          refine O.guard_t rfl rfl ?_
          refine O.ex (by first | exact Ex.loadM Tryd.isAgg4 rfl | exact Ex.loadVc Tryd.isAgg4 rfl | exact Ex.loadP Tryd.isAgg4 rfl | exact Ex.loadIn1 Tryd.isAgg4 rfl (Holds.to (by assumption)) | exact Ex.loadMh Tryd.isAgg4 rfl | exact Ex.loadR Tryd.isAgg4 rfl | exact Ex.loadQ Tryd.isAgg4 rfl) rfl ?_
          refine O.ex (Ex.pick_f rfl rfl) rfl ?_
          refine O.nil ?_
          refine hK12 _ _ _ ?_
          first | refine W.cond_p rfl (fun hin => ?_) (fun hout => ?_) | refine W.cond_b rfl (fun hin => ?_) (fun hout => ?_)
          · refine W.seq (fun K15 hK15 => ?_)
            refine W.region ?_
            refine O.ex (Ex.assign rfl) rfl ?_
            refine O.nil ?_
            refine hK15 _ _ _ ?_
            refine W.ret ?_
            try dsimp only [thenQ, blockQ, retQ]
            first | refine ⟨_, ⟨_, _, rfl, rfl, rfl⟩, ?_⟩ | (refine retD_mark ?_; intro w H; refine ⟨_, ⟨_, _, rfl, rfl, rfl⟩, ?_⟩) | (refine retD_mark2 ?_; intro w H; refine ⟨_, ⟨_, _, rfl, rfl, rfl⟩, ?_⟩)
            first
            | exact ⟨congrArg Value.bool (decide_eq_false fun h => by have := h.1; omega).symm, Holds.to (by assumption)⟩
            | (obtain rfl : i = l.length := by omega
               exact ⟨congrArg Value.bool (decide_eq_true (pre_all (by omega) hp)).symm, Holds.to (by assumption)⟩)
            | (refine ⟨congrArg Value.bool (decide_eq_false fun h => ?_).symm, Holds.to (by assumption)⟩
               obtain ⟨p0, p1, p2⟩ := pre_of h i (by omega)
               first
               | (replace hneg : l.getD i default < 0 := hneg; omega)
               | (replace hbg : (l.length : Int) ≤ l.getD i default := hbg; omega)
               | (refine p2 ?_
                  rw [show (((l.getD ((i : Nat) : Int).toNat default).toNat : Nat) : Int) = l.getD i default from by rw [Int.toNat_natCast]; omega] at hin
                  exact hin))
          · refine W.skip ?_
            refine hK11 _ _ _ ?_
            refine W.region ?_
            have hil : i < l.length := by omega
            have hpos2 : ¬ l.getD i default < 0 := hpos
            have hsm2 : ¬ (l.length : Int) ≤ l.getD i default := hsm
            have hnot : l.getD i default ∉ l.take i := fun hh => hout (by rw [show (((l.getD ((i : Nat) : Int).toNat default).toNat : Nat) : Int) = l.getD i default from by rw [Int.toNat_natCast]; omega]; exact hh)
            refine O.ex (Ex.move rfl) rfl ?_
            refine O.ex (Ex.idxArr Tryd.runUnderlying66 Tryd.sizeOf4 rfl rfl) rfl ?_
            first | refine O.storeP Tryd.sizeOf4 rfl rfl (fun w H => ?_) | refine O.storeR Tryd.sizeOf4 rfl rfl (fun w H => ?_) | refine O.storeM Tryd.sizeOf4 rfl rfl (fun w H => ?_) | refine O.storeVc Tryd.sizeOf4 rfl rfl (fun w H => ?_)
            refine O.nil ?_
            refine hK9 _ _ _ ?_
            refine W.region ?_
            refine O.ex (by first | exact Ex.addI rfl rfl | exact Ex.add rfl rfl rfl) rfl ?_
            refine O.ex (Ex.move rfl) rfl ?_
            refine O.nil ?_
            rw [show upd1 (fun r => decide (((r : Nat) : Int) ∈ l.take i)) (l.getD ((i : Nat) : Int).toNat default).toNat true = fun r => decide (((r : Nat) : Int) ∈ l.take (i + 1)) from upd_seen hil (by omega)] at H
            exact ⟨i + 1, ⟨rfl, rfl, rfl, rfl, rfl, trivial⟩, ⟨rfl, by omega, pre_step hil hp (by omega) (by omega) hnot, Holds.to (by assumption)⟩, by omega⟩
    · refine W.exit ?_
      refine hK5 _ _ _ ?_
      refine W.seq (fun K16 hK16 => ?_)
      refine W.region ?_
      refine O.ex (Ex.assign rfl) rfl ?_
      refine O.nil ?_
      refine hK16 _ _ _ ?_
      refine W.ret ?_
      try dsimp only [thenQ, blockQ, retQ]
      first | refine ⟨_, ⟨_, _, rfl, rfl, rfl⟩, ?_⟩ | (refine retD_mark ?_; intro w H; refine ⟨_, ⟨_, _, rfl, rfl, rfl⟩, ?_⟩) | (refine retD_mark2 ?_; intro w H; refine ⟨_, ⟨_, _, rfl, rfl, rfl⟩, ?_⟩)
      first
      | exact ⟨congrArg Value.bool (decide_eq_false fun h => by have := h.1; omega).symm, Holds.to (by assumption)⟩
      | (obtain rfl : i = l.length := by omega
         exact ⟨congrArg Value.bool (decide_eq_true (pre_all (by omega) hp)).symm, Holds.to (by assumption)⟩)
      | (refine ⟨congrArg Value.bool (decide_eq_false fun h => ?_).symm, Holds.to (by assumption)⟩
         obtain ⟨p0, p1, p2⟩ := pre_of h i (by omega)
         first
         | (replace hneg : l.getD i default < 0 := hneg; omega)
         | (replace hbg : (l.length : Int) ≤ l.getD i default := hbg; omega)
         | (refine p2 ?_
            rw [show (((l.getD ((i : Nat) : Int).toNat default).toNat : Nat) : Int) = l.getD i default from by rw [Int.toNat_natCast]; omega] at hin
            exact hin))
theorem inverseI_ct {w w0 : World} {v : Value} {l : List Int} {L : List HProp} (hx : SlIn w0 1 (fun s : Int => [.int .i64 s]) v l) (H : Holds w (base w0 :: L)) (hlen : l.length ≤ 9223372036854775807) :
    CT Tryd.prog 29 [v] w fun u w' => (RightP l ∧ ∃ x, u = .tuple #[x, .int .i64 0] ∧ x.oneCell' = true ∧ Holds w' (arr 3 (Value.int .i64) x (invL l) :: base w0 :: L)) ∨ (¬ RightP l ∧ u = .tuple #[.slice none 0 0, .int .i64 1] ∧ Holds w' (base w0 :: L)) := by
  refine CT.enter (N := 26) Tryd.func29 rfl rfl rfl rfl ?_
  refine W.seq (fun K0 hK0 => ?_)
  refine W.region ?_
  refine O.ex (Ex.assign rfl) rfl ?_
  refine O.ex (Ex.assign rfl) rfl ?_
  refine O.nil ?_
  refine hK0 _ _ _ ?_
  refine W.seq (fun K1 hK1 => ?_)
  refine W.seq (fun K2 hK2 => ?_)
  refine W.region ?_
  refine O.ex (Ex.move rfl) rfl ?_
  refine O.callF Tryd.call43 rfl rfl (CT.mono (rightI_ct hx (Holds.to (by assumption)) hlen) ?_)
  rintro _ w ⟨rfl, H⟩
  refine O.ex (by first | exact Ex.notD rfl | exact Ex.not rfl) rfl ?_
  refine O.nil ?_
  refine hK2 _ _ _ ?_
  first | refine W.cond_p rfl (fun hno => ?_) (fun hyes => ?_) | refine W.cond_b rfl (fun hno => ?_) (fun hyes => ?_)
  · refine W.seq (fun K3 hK3 => ?_)
    refine W.region ?_
    refine O.ex (Ex.assign rfl) rfl ?_
    refine O.ex (Ex.assign rfl) rfl ?_
    refine O.nil ?_
    refine hK3 _ _ _ ?_
    refine W.ret ?_
    try dsimp only [thenQ, blockQ, retQ]
    first | refine ⟨_, ⟨_, _, rfl, rfl, _, _, rfl, rfl, rfl⟩, ?_⟩ | (refine retD_mark ?_; intro w H; refine ⟨_, ⟨_, _, rfl, rfl, _, _, rfl, rfl, rfl⟩, ?_⟩) | (refine retD_mark2 ?_; intro w H; refine ⟨_, ⟨_, _, rfl, rfl, _, _, rfl, rfl, rfl⟩, ?_⟩)
    first
    | exact .inr ⟨by simpa using hno, rfl, Holds.to (by assumption)⟩
    | (obtain rfl : i = l.length := by omega
       exact .inl ⟨hr, _, rfl, by assumption, Holds.to (by assumption)⟩)
  · refine W.skip ?_
    refine hK1 _ _ _ ?_
    refine W.seq (fun K4 hK4 => ?_)
    refine W.region ?_
    have hr : RightP l := by simpa using hyes
    have h24 := hr.1
    refine O.ex (Ex.move rfl) rfl ?_
    refine O.ex (by first | exact Ex.lenR Tryd.runUnderlying22 rfl | exact Ex.lenIn Tryd.runUnderlying22 rfl | exact Ex.lenL Tryd.runUnderlying22 rfl | exact Ex.len rfl Tryd.runUnderlying22 rfl) rfl ?_
    refine O.makeR (0 : Int) (e := Value.int .i64) (bt := 8) Tryd.runUnderlying22 Tryd.sizeOf3 Tryd.zeroValue3 Tryd.typeInfo3 rfl rfl rfl (fun s12 w hs12 H => ?_)
    refine O.ex (Ex.assign rfl) rfl ?_
    refine O.nil ?_
    refine hK4 _ _ _ ?_
    refine W.seq (fun K5 hK5 => ?_)
    refine W.seq (fun K6 hK6 => ?_)
    refine W.region ?_
    refine O.ex (Ex.move rfl) rfl ?_
    refine O.ex (by first | exact Ex.lenR Tryd.runUnderlying22 rfl | exact Ex.lenIn Tryd.runUnderlying22 rfl | exact Ex.lenL Tryd.runUnderlying22 rfl | exact Ex.len rfl Tryd.runUnderlying22 rfl) rfl ?_
    refine O.ex (Ex.move rfl) rfl ?_
    refine O.nil ?_
    refine hK6 _ _ _ ?_
    refine W.block ?_
    have H : Holds w (arr 3 (Value.int .i64) s12 (invS l l.length 0) :: base w0 :: L) := H
    refine W.loop (σ := Nat) (fun i => [(4, s12), (13, v), (14, .int .i64 l.length), (15, .int .i64 (i : Int))]) (fun i ds w => ds = [] ∧ i ≤ l.length ∧ Holds w (arr 3 (Value.int .i64) s12 (invS l l.length i) :: base w0 :: L)) (fun i => l.length - i) 0 ⟨rfl, rfl, rfl, rfl, trivial⟩ ⟨rfl, by omega, Holds.to (by assumption)⟩ ?_
    clear H
    rintro i _ w ⟨rfl, hi, H⟩
    have hsl := invS_len l l.length i
    refine W.seq (fun K7 hK7 => ?_)
    refine W.region ?_
    refine O.ex (Ex.lss rfl rfl) rfl ?_
    refine O.nil ?_
    refine hK7 _ _ _ ?_
    refine W.seq (fun K8 hK8 => ?_)
    first | refine W.cond_p rfl (fun hlt => ?_) (fun hge => ?_) | refine W.cond_b rfl (fun hlt => ?_) (fun hge => ?_)
    · refine W.skip ?_
      refine hK8 _ _ _ ?_
      refine W.seq (fun K9 hK9 => ?_)
      refine W.block ?_
      refine W.seq (fun K10 hK10 => ?_)
      refine W.region ?_
      refine O.ex (Ex.move rfl) rfl ?_
      refine O.ex (by first | exact Ex.idxR Tryd.runUnderlying22 Tryd.sizeOf3 rfl rfl | exact Ex.idxIn Tryd.runUnderlying22 Tryd.sizeOf3 rfl rfl | exact Ex.idxS Tryd.runUnderlying22 Tryd.sizeOf3 rfl rfl | exact Ex.idx Tryd.runUnderlying22 Tryd.sizeOf3 rfl rfl (by omega) (by omega)) rfl ?_
      refine O.ex (by first | exact Ex.loadR Tryd.isAgg3 rfl | exact Ex.loadIn1 Tryd.isAgg3 rfl (Holds.to (by assumption)) | exact Ex.loadP Tryd.isAgg3 rfl | exact Ex.loadMh Tryd.isAgg3 rfl | exact Ex.loadM Tryd.isAgg3 rfl | exact Ex.loadVc Tryd.isAgg3 rfl | exact Ex.loadQ Tryd.isAgg3 rfl) rfl ?_
      refine O.ex (Ex.assign rfl) rfl ?_
      refine O.ex (Ex.assign rfl) rfl ?_
      refine O.nil ?_
      refine hK10 _ _ _ ?_
      refine W.region ?_
      have hm := hr.2.1 _ (getD_mem l ((i : Nat) : Int).toNat (by omega))
      refine O.ex (Ex.move rfl) rfl ?_
      refine O.ex (Ex.move rfl) rfl ?_
      refine O.ex (Ex.move rfl) rfl ?_
      refine O.ex (by first | exact Ex.idxR Tryd.runUnderlying22 Tryd.sizeOf3 rfl rfl | exact Ex.idxIn Tryd.runUnderlying22 Tryd.sizeOf3 rfl rfl | exact Ex.idxS Tryd.runUnderlying22 Tryd.sizeOf3 rfl rfl | exact Ex.idx Tryd.runUnderlying22 Tryd.sizeOf3 rfl rfl (by omega) (by omega)) rfl ?_
      first | refine O.storeP Tryd.sizeOf3 rfl rfl (fun w H => ?_) | refine O.storeR Tryd.sizeOf3 rfl rfl (fun w H => ?_) | refine O.storeM Tryd.sizeOf3 rfl rfl (fun w H => ?_) | refine O.storeVc Tryd.sizeOf3 rfl rfl (fun w H => ?_)
      refine O.nil ?_
      refine hK9 _ _ _ ?_
      refine W.region ?_
      refine O.ex (by first | exact Ex.addI rfl rfl | exact Ex.add rfl rfl rfl) rfl ?_
      refine O.ex (Ex.move rfl) rfl ?_
      refine O.nil ?_
      exact ⟨i + 1, ⟨rfl, rfl, rfl, rfl, trivial⟩, ⟨rfl, by omega, Holds.to (by assumption)⟩, by omega⟩
    · refine W.exit ?_
      refine hK5 _ _ _ ?_
      refine W.seq (fun K11 hK11 => ?_)
      refine W.region ?_
      refine O.ex (Ex.move rfl) rfl ?_
      refine O.ex (Ex.assign rfl) rfl ?_
      refine O.ex (Ex.assign rfl) rfl ?_
      refine O.nil ?_
      refine hK11 _ _ _ ?_
      refine W.ret ?_
      try dsimp only [thenQ, blockQ, retQ]
      first | refine ⟨_, ⟨_, _, rfl, rfl, _, _, rfl, rfl, rfl⟩, ?_⟩ | (refine retD_mark ?_; intro w H; refine ⟨_, ⟨_, _, rfl, rfl, _, _, rfl, rfl, rfl⟩, ?_⟩) | (refine retD_mark2 ?_; intro w H; refine ⟨_, ⟨_, _, rfl, rfl, _, _, rfl, rfl, rfl⟩, ?_⟩)
      first
      | exact .inr ⟨by simpa using hno, rfl, Holds.to (by assumption)⟩
      | (obtain rfl : i = l.length := by omega
         exact .inl ⟨hr, _, rfl, by assumption, Holds.to (by assumption)⟩)
theorem refRightI_ct {w w0 : World} {v : Value} {l : List Int} {L : List HProp} (hx : SlIn w0 1 (fun s : Int => [.int .i64 s]) v l) (H : Holds w (base w0 :: L)) (hlen : l.length ≤ 9223372036854775807) :
    CT Tryd.prog 28 [v] w fun u w' => u = .bool (decide (RightP l)) ∧ Holds w' (base w0 :: L) := by
  refine CT.enter (N := 31) Tryd.func28 rfl rfl rfl rfl ?_
  refine W.seq (fun K0 hK0 => ?_)
  refine W.region ?_
  refine O.ex (Ex.assign rfl) rfl ?_
  refine O.nil ?_
  refine hK0 _ _ _ ?_
  refine W.seq (fun K1 hK1 => ?_)
  refine W.seq (fun K2 hK2 => ?_)
  refine W.region ?_
  refine O.ex (Ex.move rfl) rfl ?_
  refine O.ex (by first | exact Ex.lenR Tryd.runUnderlying22 rfl | exact Ex.lenIn Tryd.runUnderlying22 rfl | exact Ex.lenL Tryd.runUnderlying22 rfl | exact Ex.len rfl Tryd.runUnderlying22 rfl) rfl ?_
  refine O.ex (Ex.gtr rfl rfl) rfl ?_
  refine O.nil ?_
  refine hK2 _ _ _ ?_
  first | refine W.cond_p rfl (fun hbig => ?_) (fun hle => ?_) | refine W.cond_b rfl (fun hbig => ?_) (fun hle => ?_)
  · refine W.seq (fun K3 hK3 => ?_)
    refine W.region ?_
    refine O.ex (Ex.assign rfl) rfl ?_
    refine O.nil ?_
    refine hK3 _ _ _ ?_
    refine W.ret ?_
    try dsimp only [thenQ, blockQ, retQ]
    first | refine ⟨_, ⟨_, _, rfl, rfl, rfl⟩, ?_⟩ | (refine retD_mark ?_; intro w H; refine ⟨_, ⟨_, _, rfl, rfl, rfl⟩, ?_⟩) | (refine retD_mark2 ?_; intro w H; refine ⟨_, ⟨_, _, rfl, rfl, rfl⟩, ?_⟩)
    first
    | exact ⟨congrArg Value.bool (decide_eq_false fun h => by have := h.1; omega).symm, Holds.to (by assumption)⟩
    | (refine ⟨congrArg Value.bool (decide_eq_false fun h => ?_).symm, Holds.to (by assumption)⟩
       have := h.cnt (r := (i : Int)) (by omega) (by omega)
       omega)
    | (obtain rfl : i = l.length := by omega
       exact ⟨congrArg Value.bool (decide_eq_true (right_of_cnt (by omega) hc)).symm, Holds.to (by assumption)⟩)
  · refine W.skip ?_
    refine hK1 _ _ _ ?_
    refine W.seq (fun K4 hK4 => ?_)
    refine W.seq (fun K5 hK5 => ?_)
    refine W.region ?_
    refine O.ex (Ex.assign rfl) rfl ?_
    refine O.nil ?_
    refine hK5 _ _ _ ?_
    refine W.block ?_
    refine W.loop (σ := Nat) (fun i => [(0, v), (3, .int .i64 (i : Int))]) (fun i ds w => ds = [] ∧ i ≤ l.length ∧ (∀ r : Nat, r < i → l.count (r : Int) = 1) ∧ Holds w (base w0 :: L)) (fun i => l.length - i) 0 ⟨rfl, rfl, trivial⟩ ⟨rfl, by omega, fun r hr => absurd hr (by omega), Holds.to (by assumption)⟩ ?_
    clear H
    rintro i _ w ⟨rfl, hi, hc, H⟩
    refine W.seq (fun K6 hK6 => ?_)
    refine W.seq (fun K7 hK7 => ?_)
    refine W.region ?_
    refine O.ex (Ex.move rfl) rfl ?_
    refine O.ex (Ex.move rfl) rfl ?_
    refine O.ex (by first | exact Ex.lenR Tryd.runUnderlying22 rfl | exact Ex.lenIn Tryd.runUnderlying22 rfl | exact Ex.lenL Tryd.runUnderlying22 rfl | exact Ex.len rfl Tryd.runUnderlying22 rfl) rfl ?_
    refine O.ex (Ex.lss rfl rfl) rfl ?_
    refine O.nil ?_
    refine hK7 _ _ _ ?_
    first | refine W.cond_p rfl (fun hlt => ?_) (fun hge => ?_) | refine W.cond_b rfl (fun hlt => ?_) (fun hge => ?_)
    · refine W.skip ?_
      refine hK6 _ _ _ ?_
      refine W.seq (fun K8 hK8 => ?_)
      refine W.block ?_
      refine W.seq (fun K9 hK9 => ?_)
      refine W.region ?_
      refine O.ex (Ex.assign rfl) rfl ?_
      refine O.nil ?_
      refine hK9 _ _ _ ?_
      refine W.seq (fun K10 hK10 => ?_)
      refine W.seq (fun K11 hK11 => ?_)
      refine W.region ?_
      refine O.ex (Ex.assign rfl) rfl ?_
      refine O.nil ?_
      refine hK11 _ _ _ ?_
      refine W.block ?_
      refine W.loop (σ := Nat) (fun j => [(0, v), (3, .int .i64 (i : Int)), (4, .int .i64 ((l.take j).count (i : Int) : Nat)), (5, .int .i64 (j : Int))]) (fun j ds w => ds = [] ∧ j ≤ l.length ∧ Holds w (base w0 :: L)) (fun j => l.length - j) 0 ⟨rfl, rfl, by rw [List.take_zero]; rfl, rfl, trivial⟩ ⟨rfl, by omega, Holds.to (by assumption)⟩ ?_
      clear H
      rintro j _ w ⟨rfl, hj, H⟩
      have hcl : (l.take j).count (i : Int) ≤ j := Nat.le_trans List.count_le_length (by rw [List.length_take]; omega)
      refine W.seq (fun K12 hK12 => ?_)
      refine W.seq (fun K13 hK13 => ?_)
      refine W.region ?_
      refine O.ex (Ex.move rfl) rfl ?_
      refine O.ex (Ex.move rfl) rfl ?_
      refine O.ex (by first | exact Ex.lenR Tryd.runUnderlying22 rfl | exact Ex.lenIn Tryd.runUnderlying22 rfl | exact Ex.lenL Tryd.runUnderlying22 rfl | exact Ex.len rfl Tryd.runUnderlying22 rfl) rfl ?_
      refine O.ex (Ex.lss rfl rfl) rfl ?_
      refine O.nil ?_
      refine hK13 _ _ _ ?_
      first | refine W.cond_p rfl (fun hlt2 => ?_) (fun hge2 => ?_) | refine W.cond_b rfl (fun hlt2 => ?_) (fun hge2 => ?_)
      · refine W.skip ?_
        refine hK12 _ _ _ ?_
        refine W.seq (fun K14 hK14 => ?_)
        refine W.block ?_
        refine W.seq (fun K15 hK15 => ?_)
        refine W.region ?_
        refine O.ex (Ex.move rfl) rfl ?_
        refine O.ex (Ex.move rfl) rfl ?_
        refine O.ex (by first | exact Ex.idxR Tryd.runUnderlying22 Tryd.sizeOf3 rfl rfl | exact Ex.idxIn Tryd.runUnderlying22 Tryd.sizeOf3 rfl rfl | exact Ex.idxS Tryd.runUnderlying22 Tryd.sizeOf3 rfl rfl | exact Ex.idx Tryd.runUnderlying22 Tryd.sizeOf3 rfl rfl (by omega) (by omega)) rfl ?_
        refine O.ex (by first | exact Ex.loadR Tryd.isAgg3 rfl | exact Ex.loadIn1 Tryd.isAgg3 rfl (Holds.to (by assumption)) | exact Ex.loadP Tryd.isAgg3 rfl | exact Ex.loadMh Tryd.isAgg3 rfl | exact Ex.loadM Tryd.isAgg3 rfl | exact Ex.loadVc Tryd.isAgg3 rfl | exact Ex.loadQ Tryd.isAgg3 rfl) rfl ?_
        refine O.ex (Ex.move rfl) rfl ?_
        refine O.ex (Ex.eqlI rfl rfl) rfl ?_
        refine O.nil ?_
        refine hK15 _ _ _ ?_
        first | refine W.cond_p rfl (fun heq => ?_) (fun hne => ?_) | refine W.cond_b rfl (fun heq => ?_) (fun hne => ?_)
        · refine W.region ?_
          refine O.ex (Ex.move rfl) rfl ?_
          refine O.ex (by first | exact Ex.addI rfl rfl | exact Ex.add rfl rfl rfl) rfl ?_
          refine O.ex (Ex.assign rfl) rfl ?_
          refine O.nil ?_
          refine hK14 _ _ _ ?_
          refine W.region ?_
          refine O.ex (Ex.move rfl) rfl ?_
          refine O.ex (by first | exact Ex.addI rfl rfl | exact Ex.add rfl rfl rfl) rfl ?_
          refine O.ex (Ex.assign rfl) rfl ?_
          refine O.nil ?_
          first
          | (replace heq : l.getD j default = (i : Int) := heq
             exact ⟨j + 1, ⟨rfl, rfl, by rw [cnt_take l j (by omega), if_pos heq]; rfl, rfl, trivial⟩, ⟨rfl, by omega, Holds.to (by assumption)⟩, by omega⟩)
          | (replace hne : ¬ l.getD j default = (i : Int) := hne
             exact ⟨j + 1, ⟨rfl, rfl, by rw [cnt_take l j (by omega), if_neg hne]; rfl, rfl, trivial⟩, ⟨rfl, by omega, Holds.to (by assumption)⟩, by omega⟩)
        · refine W.skip ?_
          refine hK14 _ _ _ ?_
          refine W.region ?_
          refine O.ex (Ex.move rfl) rfl ?_
          refine O.ex (by first | exact Ex.addI rfl rfl | exact Ex.add rfl rfl rfl) rfl ?_
          refine O.ex (Ex.assign rfl) rfl ?_
          refine O.nil ?_
          first
          | (replace heq : l.getD j default = (i : Int) := heq
             exact ⟨j + 1, ⟨rfl, rfl, by rw [cnt_take l j (by omega), if_pos heq]; rfl, rfl, trivial⟩, ⟨rfl, by omega, Holds.to (by assumption)⟩, by omega⟩)
          | (replace hne : ¬ l.getD j default = (i : Int) := hne
             exact ⟨j + 1, ⟨rfl, rfl, by rw [cnt_take l j (by omega), if_neg hne]; rfl, rfl, trivial⟩, ⟨rfl, by omega, Holds.to (by assumption)⟩, by omega⟩)
      · refine W.exit ?_
        refine hK10 _ _ _ ?_
        refine W.seq (fun K16 hK16 => ?_)
        refine W.region ?_
        obtain rfl : j = l.length := by omega
        rw [List.take_length]
        refine O.ex (Ex.move rfl) rfl ?_
        refine O.ex (Ex.neqI rfl rfl) rfl ?_
        refine O.nil ?_
        refine hK16 _ _ _ ?_
        first | refine W.cond_p rfl (fun hbad => ?_) (fun hok => ?_) | refine W.cond_b rfl (fun hbad => ?_) (fun hok => ?_)
        · refine W.seq (fun K17 hK17 => ?_)
          refine W.region ?_
          refine O.ex (Ex.assign rfl) rfl ?_
          refine O.nil ?_
          refine hK17 _ _ _ ?_
          refine W.ret ?_
          try dsimp only [thenQ, blockQ, retQ]
          first | refine ⟨_, ⟨_, _, rfl, rfl, rfl⟩, ?_⟩ | (refine retD_mark ?_; intro w H; refine ⟨_, ⟨_, _, rfl, rfl, rfl⟩, ?_⟩) | (refine retD_mark2 ?_; intro w H; refine ⟨_, ⟨_, _, rfl, rfl, rfl⟩, ?_⟩)
          first
          | exact ⟨congrArg Value.bool (decide_eq_false fun h => by have := h.1; omega).symm, Holds.to (by assumption)⟩
          | (refine ⟨congrArg Value.bool (decide_eq_false fun h => ?_).symm, Holds.to (by assumption)⟩
             have := h.cnt (r := (i : Int)) (by omega) (by omega)
             omega)
          | (obtain rfl : i = l.length := by omega
             exact ⟨congrArg Value.bool (decide_eq_true (right_of_cnt (by omega) hc)).symm, Holds.to (by assumption)⟩)
        · refine W.skip ?_
          refine hK8 _ _ _ ?_
          refine W.region ?_
          refine O.ex (Ex.move rfl) rfl ?_
          refine O.ex (by first | exact Ex.addI rfl rfl | exact Ex.add rfl rfl rfl) rfl ?_
          refine O.ex (Ex.assign rfl) rfl ?_
          refine O.nil ?_
          refine ⟨i + 1, ⟨rfl, rfl, trivial⟩, ⟨rfl, by omega, fun r hr => ?_, Holds.to (by assumption)⟩, by omega⟩
          by_cases e : r = i
          · subst e; omega
          · exact hc r (by omega)
    · refine W.exit ?_
      refine hK4 _ _ _ ?_
      refine W.seq (fun K18 hK18 => ?_)
      refine W.region ?_
      refine O.ex (Ex.assign rfl) rfl ?_
      refine O.nil ?_
      refine hK18 _ _ _ ?_
      refine W.ret ?_
      try dsimp only [thenQ, blockQ, retQ]
      first | refine ⟨_, ⟨_, _, rfl, rfl, rfl⟩, ?_⟩ | (refine retD_mark ?_; intro w H; refine ⟨_, ⟨_, _, rfl, rfl, rfl⟩, ?_⟩) | (refine retD_mark2 ?_; intro w H; refine ⟨_, ⟨_, _, rfl, rfl, rfl⟩, ?_⟩)
      first
      | exact ⟨congrArg Value.bool (decide_eq_false fun h => by have := h.1; omega).symm, Holds.to (by assumption)⟩
      | (refine ⟨congrArg Value.bool (decide_eq_false fun h => ?_).symm, Holds.to (by assumption)⟩
         have := h.cnt (r := (i : Int)) (by omega) (by omega)
         omega)
      | (obtain rfl : i = l.length := by omega
         exact ⟨congrArg Value.bool (decide_eq_true (right_of_cnt (by omega) hc)).symm, Holds.to (by assumption)⟩)
end Go.Proofs.YtgbhccpjpimgfaaDoor
