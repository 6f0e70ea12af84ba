import Derived.Test.YtblapiiinbppiaaWit
import Derived.Test.YtblapiiinbppiaaRrBase
namespace Go.Proofs.Ytblapiiinbppiaa
--ARR
open Go.Rr Go Hp Wt
set_option linter.unusedVariables false
theorem norm_dst (a : Int) : Dst (norm a) := by unfold Dst norm; omega
theorem norm_of {a : Int} (h : Dst a) : norm a = a := by unfold Dst at h; unfold norm; omega
theorem normG_ct {w : World} {a : Int} {L : List HProp} (H : Holds w L) : CT Try.prog 78 [.int .i64 a] w fun x w' => x = .int .i64 (norm a) ∧ Holds w' L := by
  refine CT.enter (N := 6) Try.func78 rfl rfl rfl rfl ?_
  refine W.seq (fun K0 hK0 => ?_)
  refine W.region ?_
  refine O.ex (Ex.assign rfl) rfl ?_
  refine O.nil ?_
  refine hK0 _ _ _ ?_
  refine W.seq (fun K1 hK1 => ?_)
  refine W.region ?_
  refine O.ex (Ex.move rfl) rfl ?_
  refine O.ex (Ex.maxI rfl rfl) rfl ?_
  refine O.ex (Ex.minI rfl rfl) rfl ?_
  refine O.ex (Ex.assign rfl) rfl ?_
  refine O.nil ?_
  refine hK1 _ _ _ ?_
  refine W.ret ?_
  try dsimp only [thenQ, blockQ, retQ]
  first | refine ⟨_, ⟨_, _, rfl, rfl, rfl⟩, ?_⟩ | (refine retD_mark ?_; intro w H; refine ⟨_, ⟨_, _, rfl, rfl, rfl⟩, ?_⟩) | (refine retD_mark2 ?_; intro w H; refine ⟨_, ⟨_, _, rfl, rfl, rfl⟩, ?_⟩)
  exact ⟨rfl, Holds.to (by assumption)⟩
theorem refNormG_ct {w : World} {a : Int} {L : List HProp} (H : Holds w L) : CT Try.prog 64 [.int .i64 a] w fun x w' => x = .int .i64 (norm a) ∧ Holds w' L := by
  refine CT.enter (N := 8) Try.func64 rfl rfl rfl rfl ?_
  refine W.seq (fun K0 hK0 => ?_)
  refine W.region ?_
  refine O.ex (Ex.assign rfl) rfl ?_
  refine O.nil ?_
  refine hK0 _ _ _ ?_
  refine W.seq (fun K1 hK1 => ?_)
  refine W.seq (fun K2 hK2 => ?_)
  refine W.region ?_
  refine O.ex (Ex.move rfl) rfl ?_
  refine O.ex (Ex.lss rfl rfl) rfl ?_
  refine O.nil ?_
  refine hK2 _ _ _ ?_
  first | refine W.cond_p rfl (fun h1 => ?_) (fun h1 => ?_) | refine W.cond_b rfl (fun h1 => ?_) (fun h1 => ?_)
  · refine W.seq (fun K3 hK3 => ?_)
    refine W.region ?_
    refine O.ex (Ex.assign rfl) rfl ?_
    refine O.nil ?_
    refine hK3 _ _ _ ?_
    refine W.ret ?_
    try dsimp only [thenQ, blockQ, retQ]
    first | refine ⟨_, ⟨_, _, rfl, rfl, rfl⟩, ?_⟩ | (refine retD_mark ?_; intro w H; refine ⟨_, ⟨_, _, rfl, rfl, rfl⟩, ?_⟩) | (refine retD_mark2 ?_; intro w H; refine ⟨_, ⟨_, _, rfl, rfl, rfl⟩, ?_⟩)
    exact ⟨congrArg (Value.int .i64) (by unfold norm; omega), Holds.to (by assumption)⟩
  · refine W.skip ?_
    refine hK1 _ _ _ ?_
    refine W.seq (fun K4 hK4 => ?_)
    refine W.seq (fun K5 hK5 => ?_)
    refine W.region ?_
    refine O.ex (Ex.move rfl) rfl ?_
    refine O.ex (Ex.gtr rfl rfl) rfl ?_
    refine O.nil ?_
    refine hK5 _ _ _ ?_
    first | refine W.cond_p rfl (fun h2 => ?_) (fun h2 => ?_) | refine W.cond_b rfl (fun h2 => ?_) (fun h2 => ?_)
    · refine W.seq (fun K6 hK6 => ?_)
      refine W.region ?_
      refine O.ex (Ex.assign rfl) rfl ?_
      refine O.nil ?_
      refine hK6 _ _ _ ?_
      refine W.ret ?_
      try dsimp only [thenQ, blockQ, retQ]
      first | refine ⟨_, ⟨_, _, rfl, rfl, rfl⟩, ?_⟩ | (refine retD_mark ?_; intro w H; refine ⟨_, ⟨_, _, rfl, rfl, rfl⟩, ?_⟩) | (refine retD_mark2 ?_; intro w H; refine ⟨_, ⟨_, _, rfl, rfl, rfl⟩, ?_⟩)
      exact ⟨congrArg (Value.int .i64) (by unfold norm; omega), Holds.to (by assumption)⟩
    · refine W.skip ?_
      refine hK4 _ _ _ ?_
      refine W.seq (fun K7 hK7 => ?_)
      refine W.region ?_
      refine O.ex (Ex.move rfl) rfl ?_
      refine O.ex (Ex.assign rfl) rfl ?_
      refine O.nil ?_
      refine hK7 _ _ _ ?_
      refine W.ret ?_
      try dsimp only [thenQ, blockQ, retQ]
      first | refine ⟨_, ⟨_, _, rfl, rfl, rfl⟩, ?_⟩ | (refine retD_mark ?_; intro w H; refine ⟨_, ⟨_, _, rfl, rfl, rfl⟩, ?_⟩) | (refine retD_mark2 ?_; intro w H; refine ⟨_, ⟨_, _, rfl, rfl, rfl⟩, ?_⟩)
      exact ⟨congrArg (Value.int .i64) (by unfold norm; omega), Holds.to (by assumption)⟩
theorem less_ct {w : World} {a b : Int} {L : List HProp} (H : Holds w L) (hb : Dst b) : CT Try.prog 61 [.int .i64 a, .int .i64 b] w fun x w' => x = .bool (decide (norm a < b)) ∧ Holds w' L := by
  refine CT.enter (N := 10) Try.func61 rfl rfl rfl rfl ?_
  refine W.seq (fun K0 hK0 => ?_)
  refine W.region ?_
  refine O.ex (Ex.assign rfl) rfl ?_
  refine O.nil ?_
  refine hK0 _ _ _ ?_
  refine W.seq (fun K1 hK1 => ?_)
  refine W.region ?_
  refine O.ex (Ex.move rfl) rfl ?_
  refine O.callF Try.call78 rfl rfl (CT.mono (normG_ct (Holds.to (by assumption))) ?_)
  rintro _ w ⟨rfl, H⟩
  refine O.ex (Ex.move rfl) rfl ?_
  refine O.callF Try.call78 rfl rfl (CT.mono (normG_ct (Holds.to (by assumption))) ?_)
  rintro _ w ⟨rfl, H⟩
  refine O.ex (Ex.lss rfl rfl) rfl ?_
  refine O.ex (Ex.assign rfl) rfl ?_
  refine O.nil ?_
  refine hK1 _ _ _ ?_
  refine W.ret ?_
  try dsimp only [thenQ, blockQ, retQ]
  first | refine ⟨_, ⟨_, _, rfl, rfl, rfl⟩, ?_⟩ | (refine retD_mark ?_; intro w H; refine ⟨_, ⟨_, _, rfl, rfl, rfl⟩, ?_⟩) | (refine retD_mark2 ?_; intro w H; refine ⟨_, ⟨_, _, rfl, rfl, rfl⟩, ?_⟩)
  rw [norm_of hb] at *
  exact ⟨rfl, Holds.to (by assumption)⟩
theorem st_len {n : Int} {c : Int → Int → Int} {s0 wo : Nat} (hg : Good n c) (j : Nat) : (st n.toNat c s0 wo j).length ≤ 24 := by
  have h1 := (st_ok (N := n.toNat) (s0 := s0) (wo := wo) hg j).len
  have h2 := hg.n2
  omega
set_option maxHeartbeats 1000000 in
theorem wfind_ct {w : World} {m wo : Nat} {n s most settles : Int} {c : Int → Int → Int} {L : List HProp} (hg : Good n c) (hw : wo < 18446744073709551616) (H : Holds w (Mh m n c :: L)) :
    CT Try.prog 33 [.pointer (some ⟨m, 0, none⟩), .int .i64 s, .int .u64 (wo : Int), .int .i64 most, .int .i64 settles] w fun u w' =>
      (¬ ((0 ≤ s ∧ s < n) ∧ inS wo s = false) ∧ u = .tuple #[.agg #[.slice none 0 0, .slice none 0 0, .int .u64 0], .int .i64 1] ∧ Holds w' (Mh m n c :: L)) ∨
      (((0 ≤ s ∧ s < n) ∧ inS wo s = false) ∧ ∃ j T sv dv, to n.toNat c s.toNat wo settles most j ∧ stopP n.toNat c s.toNat wo settles most j ∧ Tq (TQ n.toNat c wo (st n.toNat c s.toNat wo j)) T ∧ u = .tuple #[.agg #[sv, dv, .int .u64 (T : Int)], .int .i64 0] ∧ sv.oneCell' = true ∧ dv.oneCell' = true ∧
        Holds w' (arr 3 (Value.int .i64) sv ((st n.toNat c s.toNat wo j).map Prod.fst) :: arr 3 (Value.int .i64) dv ((st n.toNat c s.toNat wo j).map Prod.snd) :: Mh m n c :: L)) := by
  have n1 := hg.n1
  have n2 := hg.n2
  refine CT.enter (N := 59) Try.func33 rfl rfl rfl rfl ?_
  refine W.seq (fun K0 hK0 => ?_)
  refine W.region ?_
  refine O.boxP rfl (fun b8 w H => ?_)
  refine O.boxP rfl (fun b9 w H => ?_)
  refine O.allocP Try.zeroValue60 (fun b10 w H => ?_)
  refine O.ex (Ex.assign rfl) rfl ?_
  refine O.nil ?_
  refine hK0 _ _ _ ?_
  refine W.seq (fun K1 hK1 => ?_)
  refine W.seq (fun K2 hK2 => ?_)
  refine W.region ?_
  refine O.ex (Ex.move rfl) rfl ?_
  refine O.ex (Ex.lss rfl rfl) rfl ?_
  refine O.ex (Ex.move rfl) rfl ?_
  first | refine O.split_p (t := 17) rfl (fun h0 => ?_) (fun h0 => ?_) | refine O.split (t := 17) rfl (fun h0 => ?_) (fun h0 => ?_)
  · refine O.guard_f rfl rfl rfl rfl ?_
    refine O.guard_f rfl rfl rfl rfl ?_
    refine O.guard_f rfl rfl rfl rfl ?_
    refine O.guard_f rfl rfl rfl rfl ?_
    refine O.ex (Ex.pick_t rfl rfl) rfl ?_
    refine O.ex (Ex.move rfl) rfl ?_
    refine O.guard_f rfl rfl rfl rfl ?_
    refine O.guard_f rfl rfl rfl rfl ?_
    refine O.guard_f rfl rfl rfl rfl ?_
    refine O.ex (Ex.pick_t rfl rfl) rfl ?_
    refine O.nil ?_
    refine hK2 _ _ _ ?_
    refine W.cond_t rfl ?_
    refine W.seq (fun K3 hK3 => ?_)
    refine W.region ?_
    refine O.ex (Ex.build rfl (bld60_  )) rfl ?_
    first | refine O.storeAggP Try.sizeOf60 rfl rfl rfl rfl (fun w H => ?_) | refine O.storeAggN Try.sizeOf60 rfl rfl rfl (fun w H => ?_) rfl
    refine O.ex (Ex.assign rfl) rfl ?_
    refine O.nil ?_
    refine hK3 _ _ _ ?_
    refine W.ret ?_
    try dsimp only [thenQ, blockQ, retQ]
    first | refine ⟨_, ⟨_, _, _, rfl, rfl, (by first | exact loadVar_mtx Try.isAgg60 Try.sizeOf60 | exact loadVar_agg Try.isAgg60 Try.sizeOf60), _, _, rfl, rfl, rfl⟩, ?_⟩ | (refine retD_mark ?_; intro w H; refine ⟨_, ⟨_, _, _, rfl, rfl, (by first | exact loadVar_mtx Try.isAgg60 Try.sizeOf60 | exact loadVar_agg Try.isAgg60 Try.sizeOf60), _, _, rfl, rfl, rfl⟩, ?_⟩) | (refine retD_mark2 ?_; intro w H; refine ⟨_, ⟨_, _, _, rfl, rfl, (by first | exact loadVar_mtx Try.isAgg60 Try.sizeOf60 | exact loadVar_agg Try.isAgg60 Try.sizeOf60), _, _, rfl, rfl, rfl⟩, ?_⟩)
    first
    | exact .inr ⟨⟨by omega, by simpa using h2⟩, j, T, sv, dv, hto, hst, hT, rfl, hs1, hd1, Holds.to (by assumption)⟩
    | exact .inl ⟨fun h => by omega, rfl, Holds.to (by assumption)⟩
    | exact .inl ⟨fun h => by rw [h.2] at h2; simp at h2, rfl, Holds.to (by assumption)⟩
  · refine O.guard_t rfl rfl ?_
    refine O.ex (Ex.move rfl) rfl ?_
    refine O.guard_t rfl rfl ?_
    refine O.ex (Ex.move rfl) rfl ?_
    refine O.guard_t rfl rfl ?_
    refine O.callF Try.call55 rfl rfl (CT.mono (vertices_ct (Holds.to (by assumption))) ?_)
    rintro _ w ⟨rfl, H⟩
    refine O.guard_t rfl rfl ?_
    refine O.ex (Ex.geq rfl rfl) rfl ?_
    refine O.ex (Ex.pick_f rfl rfl) rfl ?_
    refine O.ex (Ex.move rfl) rfl ?_
    first | refine O.split_p (t := 23) rfl (fun h1 => ?_) (fun h1 => ?_) | refine O.split (t := 23) rfl (fun h1 => ?_) (fun h1 => ?_)
    · refine O.guard_f rfl rfl rfl rfl ?_
      refine O.guard_f rfl rfl rfl rfl ?_
      refine O.guard_f rfl rfl rfl rfl ?_
      refine O.ex (Ex.pick_t rfl rfl) rfl ?_
      refine O.nil ?_
      refine hK2 _ _ _ ?_
      refine W.cond_t rfl ?_
      refine W.seq (fun K4 hK4 => ?_)
      refine W.region ?_
      refine O.ex (Ex.build rfl (bld60_  )) rfl ?_
      first | refine O.storeAggP Try.sizeOf60 rfl rfl rfl rfl (fun w H => ?_) | refine O.storeAggN Try.sizeOf60 rfl rfl rfl (fun w H => ?_) rfl
      refine O.ex (Ex.assign rfl) rfl ?_
      refine O.nil ?_
      refine hK4 _ _ _ ?_
      refine W.ret ?_
      try dsimp only [thenQ, blockQ, retQ]
      first | refine ⟨_, ⟨_, _, _, rfl, rfl, (by first | exact loadVar_mtx Try.isAgg60 Try.sizeOf60 | exact loadVar_agg Try.isAgg60 Try.sizeOf60), _, _, rfl, rfl, rfl⟩, ?_⟩ | (refine retD_mark ?_; intro w H; refine ⟨_, ⟨_, _, _, rfl, rfl, (by first | exact loadVar_mtx Try.isAgg60 Try.sizeOf60 | exact loadVar_agg Try.isAgg60 Try.sizeOf60), _, _, rfl, rfl, rfl⟩, ?_⟩) | (refine retD_mark2 ?_; intro w H; refine ⟨_, ⟨_, _, _, rfl, rfl, (by first | exact loadVar_mtx Try.isAgg60 Try.sizeOf60 | exact loadVar_agg Try.isAgg60 Try.sizeOf60), _, _, rfl, rfl, rfl⟩, ?_⟩)
      first
      | exact .inr ⟨⟨by omega, by simpa using h2⟩, j, T, sv, dv, hto, hst, hT, rfl, hs1, hd1, Holds.to (by assumption)⟩
      | exact .inl ⟨fun h => by omega, rfl, Holds.to (by assumption)⟩
      | exact .inl ⟨fun h => by rw [h.2] at h2; simp at h2, rfl, Holds.to (by assumption)⟩
    · refine O.guard_t rfl rfl ?_
      refine O.ex (Ex.move rfl) rfl ?_
      refine O.guard_t rfl rfl ?_
      refine O.ex (Ex.move rfl) rfl ?_
      refine O.guard_t rfl rfl ?_
      refine O.callF Try.call40 rfl rfl (CT.mono (has_ct (Holds.to (by assumption)) hw) ?_)
      rintro _ w ⟨rfl, H⟩
      refine O.ex (Ex.pick_f rfl rfl) rfl ?_
      refine O.nil ?_
      refine hK2 _ _ _ ?_
      first | refine W.cond_p rfl (fun h2 => ?_) (fun h2 => ?_) | refine W.cond_b rfl (fun h2 => ?_) (fun h2 => ?_)
      · refine W.seq (fun K5 hK5 => ?_)
        refine W.region ?_
        refine O.ex (Ex.build rfl (bld60_  )) rfl ?_
        first | refine O.storeAggP Try.sizeOf60 rfl rfl rfl rfl (fun w H => ?_) | refine O.storeAggN Try.sizeOf60 rfl rfl rfl (fun w H => ?_) rfl
        refine O.ex (Ex.assign rfl) rfl ?_
        refine O.nil ?_
        refine hK5 _ _ _ ?_
        refine W.ret ?_
        try dsimp only [thenQ, blockQ, retQ]
        first | refine ⟨_, ⟨_, _, _, rfl, rfl, (by first | exact loadVar_mtx Try.isAgg60 Try.sizeOf60 | exact loadVar_agg Try.isAgg60 Try.sizeOf60), _, _, rfl, rfl, rfl⟩, ?_⟩ | (refine retD_mark ?_; intro w H; refine ⟨_, ⟨_, _, _, rfl, rfl, (by first | exact loadVar_mtx Try.isAgg60 Try.sizeOf60 | exact loadVar_agg Try.isAgg60 Try.sizeOf60), _, _, rfl, rfl, rfl⟩, ?_⟩) | (refine retD_mark2 ?_; intro w H; refine ⟨_, ⟨_, _, _, rfl, rfl, (by first | exact loadVar_mtx Try.isAgg60 Try.sizeOf60 | exact loadVar_agg Try.isAgg60 Try.sizeOf60), _, _, rfl, rfl, rfl⟩, ?_⟩)
        first
        | exact .inr ⟨⟨by omega, by simpa using h2⟩, j, T, sv, dv, hto, hst, hT, rfl, hs1, hd1, Holds.to (by assumption)⟩
        | exact .inl ⟨fun h => by omega, rfl, Holds.to (by assumption)⟩
        | exact .inl ⟨fun h => by rw [h.2] at h2; simp at h2, rfl, Holds.to (by assumption)⟩
      · refine W.skip ?_
        refine hK1 _ _ _ ?_
        refine W.seq (fun K6 hK6 => ?_)
        refine W.region ?_
        refine O.allocP Try.zeroValue60 (fun b12 w H => ?_)
        refine O.nil ?_
        refine hK6 _ _ _ ?_
        refine W.seq (fun K7 hK7 => ?_)
        refine W.seq (fun K8 hK8 => ?_)
        refine W.region ?_
        refine O.ex (Ex.move rfl) rfl ?_
        refine O.ex (Ex.move rfl) rfl ?_
        refine O.ex (Ex.move rfl) rfl ?_
        refine O.ex (by first | exact Ex.field0 fld60_2 rfl | exact Ex.field fld60_2 rfl | exact Ex.fieldS fld60_2 rfl) rfl ?_
        rw [show (s : Int) = ((s.toNat : Nat) : Int) from (Int.toNat_of_nonneg (by omega)).symm]
        refine O.callF Try.call60 rfl rfl (CT.mono (wsearch_ct (s0 := s.toNat) (bf := b12) (m := m) (wo := wo) (Holds.to (by assumption))) ?_)
        rintro _ w ⟨d1, d2, d3, d4, rfl, H⟩
        refine O.nil ?_
        refine hK8 _ _ _ ?_
        refine W.block ?_
        have hs1 : s.toNat < n.toNat := by omega
        have hs2 : inS wo ((s.toNat : Nat) : Int) = false := by rw [Int.toNat_of_nonneg (by omega)]; simpa using h2
        have H := Holds.to (M := pt b12 (.cells #[.slice none 0 0, .slice none 0 0, .int .u64 ((0 : Nat) : Int)] 60 (0, 0)) :: cap4 d1 d2 d3 d4 m s.toNat b12 wo :: Mh m n c :: pt b8 (.cells #[.int .i64 most] 3 (0, 0)) :: pt b9 (.cells #[.int .i64 settles] 3 (0, 0)) :: pt b10 (.cells #[.slice none 0 0, .slice none 0 0, .int .u64 0] 60 (0, 0)) :: L) H
        have H := arr_nil (T := 3) (e := Value.int .i64) (arr_nil (T := 3) (e := Value.int .i64) H)
        have H := fb_open.2 ⟨_, _, (show Holds w (pt b12 (.cells #[.slice none 0 0, .slice none 0 0, .int .u64 ((0 : Nat) : Int)] 60 (0, 0)) :: arr 3 (Value.int .i64) (.slice none 0 0) (([] : List (Int × Int)).map Prod.fst) :: arr 3 (Value.int .i64) (.slice none 0 0) (([] : List (Int × Int)).map Prod.snd) :: cap4 d1 d2 d3 d4 m s.toNat b12 wo :: Mh m n c :: pt b8 (.cells #[.int .i64 most] 3 (0, 0)) :: pt b9 (.cells #[.int .i64 settles] 3 (0, 0)) :: pt b10 (.cells #[.slice none 0 0, .slice none 0 0, .int .u64 0] 60 (0, 0)) :: L) from Holds.to H)⟩
        refine W.rangeFunc rfl Try.call79 H ?_
        rintro LR kk D w hLR H
        refine CT.mono (wsearch1_ct (settles := settles) (most := most) (J := LR .ready none :: dblk D :: pt b8 (.cells #[.int .i64 most] 3 (0, 0)) :: pt b9 (.cells #[.int .i64 settles] 3 (0, 0)) :: pt b10 (.cells #[.slice none 0 0, .slice none 0 0, .int .u64 0] 60 (0, 0)) :: L) (SL := LR .done (some (.exit 0)) :: dblk D :: pt b8 (.cells #[.int .i64 most] 3 (0, 0)) :: pt b9 (.cells #[.int .i64 settles] 3 (0, 0)) :: pt b10 (.cells #[.slice none 0 0, .slice none 0 0, .int .u64 0] 60 (0, 0)) :: L) hg hs1 hw hs2 (Holds.to (by assumption)) ?_) ?_
        · intro F j T b w hb hto H
          obtain ⟨sv, dv, H⟩ := fb_open.1 H.swap
          have hl1 : ((st n.toNat c s.toNat wo j).map Prod.fst).length ≤ 24 := by rw [List.length_map]; exact st_len hg j
          have hl2 : ((st n.toNat c s.toNat wo j).map Prod.snd).length ≤ 24 := by rw [List.length_map]; exact st_len hg j
          have hbd : Dst (smF c s.toNat (st n.toNat c s.toNat wo j) b) := smF_dst hg (st_ok hg j) b
          have e1 := st_some hb
          refine VT.round hLR (Holds.to (by assumption)) rfl rfl ?_
          refine W.seq (fun K9 hK9 => ?_)
          refine W.region ?_
          refine O.ex (Ex.assign rfl) rfl ?_
          refine O.nil ?_
          refine hK9 _ _ _ ?_
          refine W.region ?_
          refine O.ex (Ex.assign rfl) rfl ?_
          refine O.nil ?_
          refine ⟨_, Holds.to (by assumption), fun w H => ?_⟩
          refine W.block ?_
          refine W.seq (fun K10 hK10 => ?_)
          refine W.seq (fun K11 hK11 => ?_)
          refine W.region ?_
          refine O.ex (by first | exact Ex.field0 fld60_0 rfl | exact Ex.field fld60_0 rfl | exact Ex.fieldS fld60_0 rfl) rfl ?_
          refine O.ex (by first | exact Ex.loadMh Try.isAgg51 rfl | exact Ex.loadP Try.isAgg51 rfl | exact Ex.loadM Try.isAgg51 rfl | exact Ex.loadIn1 Try.isAgg51 rfl (Holds.to (by assumption)) | exact Ex.loadVc Try.isAgg51 rfl | exact Ex.loadR Try.isAgg51 rfl | exact Ex.loadQ Try.isAgg51 rfl) rfl ?_
          refine O.ex (by first | exact Ex.lenR Try.runUnderlying51 rfl | exact Ex.lenIn Try.runUnderlying51 rfl | exact Ex.lenL Try.runUnderlying51 rfl | exact Ex.len rfl Try.runUnderlying51 rfl) rfl ?_
          refine O.ex (by first | exact Ex.loadP Try.isAgg3 rfl | exact Ex.loadQ Try.isAgg3 rfl | exact Ex.loadMh Try.isAgg3 rfl | exact Ex.loadR Try.isAgg3 rfl | exact Ex.loadIn1 Try.isAgg3 rfl (Holds.to (by assumption)) | exact Ex.loadM Try.isAgg3 rfl | exact Ex.loadVc Try.isAgg3 rfl) rfl ?_
          refine O.ex (Ex.geq rfl rfl) rfl ?_
          refine O.ex (Ex.move rfl) rfl ?_
          first | refine O.split_p (t := 41) rfl (fun hA => ?_) (fun hB => ?_) | refine O.split (t := 41) rfl (fun hA => ?_) (fun hB => ?_)
          · refine O.guard_f rfl rfl rfl rfl ?_
            refine O.guard_f rfl rfl rfl rfl ?_
            refine O.guard_f rfl rfl rfl rfl ?_
            refine O.ex (Ex.pick_t rfl rfl) rfl ?_
            refine O.nil ?_
            refine hK11 _ _ _ ?_
            refine W.cond_t rfl ?_
            refine W.exit ?_
            have hns : stopP n.toNat c s.toNat wo settles most j := by
              first
              | (rw [List.length_map] at hA; exact .inl (by omega))
              | (refine .inr (fun b' hb' => ?_)
                 rw [hb] at hb'; cases hb'
                 simpa using hC)
            refine ⟨_, Holds.to (by assumption), fun w H => .inr ⟨rfl, hns, ?_⟩⟩
            refine Holds.swap (fb_open.2 ⟨sv, dv, ?_⟩)
            exact Holds.to (by assumption)
          · refine O.guard_t rfl rfl ?_
            refine O.ex (by first | exact Ex.loadP Try.isAgg3 rfl | exact Ex.loadQ Try.isAgg3 rfl | exact Ex.loadMh Try.isAgg3 rfl | exact Ex.loadR Try.isAgg3 rfl | exact Ex.loadIn1 Try.isAgg3 rfl (Holds.to (by assumption)) | exact Ex.loadM Try.isAgg3 rfl | exact Ex.loadVc Try.isAgg3 rfl) rfl ?_
            refine O.guard_t rfl rfl ?_
            refine O.ex (Ex.move rfl) rfl ?_
            refine O.guard_t rfl rfl ?_
            refine O.callF Try.call61 rfl rfl (CT.mono (less_ct (Holds.to (by assumption)) hbd) ?_)
            rintro _ w ⟨rfl, H⟩
            refine O.ex (Ex.pick_f rfl rfl) rfl ?_
            refine O.nil ?_
            refine hK11 _ _ _ ?_
            first | refine W.cond_p rfl (fun hC => ?_) (fun hD => ?_) | refine W.cond_b rfl (fun hC => ?_) (fun hD => ?_)
            · refine W.exit ?_
              have hns : stopP n.toNat c s.toNat wo settles most j := by
                first
                | (rw [List.length_map] at hA; exact .inl (by omega))
                | (refine .inr (fun b' hb' => ?_)
                   rw [hb] at hb'; cases hb'
                   simpa using hC)
              refine ⟨_, Holds.to (by assumption), fun w H => .inr ⟨rfl, hns, ?_⟩⟩
              refine Holds.swap (fb_open.2 ⟨sv, dv, ?_⟩)
              exact Holds.to (by assumption)
            · refine W.skip ?_
              refine hK10 _ _ _ ?_
              refine W.seq (fun K12 hK12 => ?_)
              refine W.region ?_
              refine O.ex (by first | exact Ex.field0 fld60_0 rfl | exact Ex.field fld60_0 rfl | exact Ex.fieldS fld60_0 rfl) rfl ?_
              refine O.ex (by first | exact Ex.loadMh Try.isAgg51 rfl | exact Ex.loadP Try.isAgg51 rfl | exact Ex.loadM Try.isAgg51 rfl | exact Ex.loadIn1 Try.isAgg51 rfl (Holds.to (by assumption)) | exact Ex.loadVc Try.isAgg51 rfl | exact Ex.loadR Try.isAgg51 rfl | exact Ex.loadQ Try.isAgg51 rfl) rfl ?_
              refine O.ex (Ex.move rfl) rfl ?_
              refine O.build1 (e := Value.int .i64) Try.runUnderlying51 Try.sizeOf3 Try.zeroValue3 rfl (fun v49 w hv49 H => ?_)
              refine O.appendR Try.runUnderlying51 Try.typeInfo3 (bt := 8) rfl Try.sizeOf3 Try.zeroValue3 rfl rfl (fun v50 w hv50 H => ?_)
              refine O.ex (by first | exact Ex.field0 fld60_0 rfl | exact Ex.field fld60_0 rfl | exact Ex.fieldS fld60_0 rfl) rfl ?_
              first | refine O.storeP Try.sizeOf51 rfl rfl (fun w H => ?_) | refine O.storeR Try.sizeOf51 rfl rfl (fun w H => ?_) | refine O.storeM Try.sizeOf51 rfl rfl (fun w H => ?_) | refine O.storeVc Try.sizeOf51 rfl rfl (fun w H => ?_)
              refine O.nil ?_
              refine hK12 _ _ _ ?_
              refine W.region ?_
              refine O.ex (by first | exact Ex.field0 fld60_1 rfl | exact Ex.field fld60_1 rfl | exact Ex.fieldS fld60_1 rfl) rfl ?_
              refine O.ex (by first | exact Ex.loadMh Try.isAgg51 rfl | exact Ex.loadP Try.isAgg51 rfl | exact Ex.loadM Try.isAgg51 rfl | exact Ex.loadIn1 Try.isAgg51 rfl (Holds.to (by assumption)) | exact Ex.loadVc Try.isAgg51 rfl | exact Ex.loadR Try.isAgg51 rfl | exact Ex.loadQ Try.isAgg51 rfl) rfl ?_
              refine O.ex (Ex.move rfl) rfl ?_
              refine O.build1 (e := Value.int .i64) Try.runUnderlying51 Try.sizeOf3 Try.zeroValue3 rfl (fun v55 w hv55 H => ?_)
              refine O.appendR Try.runUnderlying51 Try.typeInfo3 (bt := 8) rfl Try.sizeOf3 Try.zeroValue3 rfl rfl (fun v56 w hv56 H => ?_)
              refine O.ex (by first | exact Ex.field0 fld60_1 rfl | exact Ex.field fld60_1 rfl | exact Ex.fieldS fld60_1 rfl) rfl ?_
              first | refine O.storeP Try.sizeOf51 rfl rfl (fun w H => ?_) | refine O.storeR Try.sizeOf51 rfl rfl (fun w H => ?_) | refine O.storeM Try.sizeOf51 rfl rfl (fun w H => ?_) | refine O.storeVc Try.sizeOf51 rfl rfl (fun w H => ?_)
              refine O.nil ?_
              have hns : ¬ stopP n.toNat c s.toNat wo settles most j := by
                rintro (h | h)
                · rw [List.length_map] at hB; omega
                · have := h b hb; simp at hD; omega
              refine ⟨_, Holds.to (by assumption), fun w H => .inl ⟨rfl, hns, ?_⟩⟩
              refine Holds.swap (fb_open.2 ⟨v50, v56, ?_⟩)
              rw [e1, List.map_append, List.map_append]
              exact Holds.to (by assumption)
        rintro _ w ⟨j, T, hto, hst, hT, H | H⟩
        all_goals refine rangeEnd (Holds.to (by assumption)) (by nofun) (fun w H => ?_)
        all_goals try dsimp only [behind]
        all_goals obtain ⟨sv, dv, H⟩ := fb_open.1 (Holds.to (M := FB b12 (st n.toNat c s.toNat wo j) T :: dblk D :: Mh m n c :: pt b10 (.cells #[.slice none 0 0, .slice none 0 0, .int .u64 0] 60 (0, 0)) :: L) H)
        all_goals have hs1 : sv.oneCell' = true := arr_one (T := 3) (e := Value.int .i64) (xs := (st n.toNat c s.toNat wo j).map Prod.fst) (Holds.to (by assumption))
        all_goals have hd1 : dv.oneCell' = true := arr_one (T := 3) (e := Value.int .i64) (xs := (st n.toNat c s.toNat wo j).map Prod.snd) (Holds.to (by assumption))
        · skip
          refine hK7 _ _ _ ?_
          refine W.seq (fun K13 hK13 => ?_)
          refine W.region ?_
          refine O.ex (by first | exact Ex.loadAggP Try.isAgg60 Try.sizeOf60 rfl | exact Ex.loadAggN Try.isAgg60 Try.sizeOf60 rfl | exact Ex.loadIn Try.isAgg60 Try.sizeOf60 rfl (Holds.to (by assumption))) rfl ?_
          refine O.storeAggP Try.sizeOf60 rfl rfl rfl (by show (sv.oneCell' && (dv.oneCell' && _)) = true; rw [hs1, hd1]; rfl) (fun w H => ?_)
          refine O.ex (Ex.assign rfl) rfl ?_
          refine O.nil ?_
          refine hK13 _ _ _ ?_
          refine W.ret ?_
          try dsimp only [thenQ, blockQ, retQ]
          first | refine ⟨_, ⟨_, _, _, rfl, rfl, (by first | exact loadVar_mtx Try.isAgg60 Try.sizeOf60 | exact loadVar_agg Try.isAgg60 Try.sizeOf60), _, _, rfl, rfl, rfl⟩, ?_⟩ | (refine retD_mark ?_; intro w H; refine ⟨_, ⟨_, _, _, rfl, rfl, (by first | exact loadVar_mtx Try.isAgg60 Try.sizeOf60 | exact loadVar_agg Try.isAgg60 Try.sizeOf60), _, _, rfl, rfl, rfl⟩, ?_⟩) | (refine retD_mark2 ?_; intro w H; refine ⟨_, ⟨_, _, _, rfl, rfl, (by first | exact loadVar_mtx Try.isAgg60 Try.sizeOf60 | exact loadVar_agg Try.isAgg60 Try.sizeOf60), _, _, rfl, rfl, rfl⟩, ?_⟩)
          first
          | exact .inr ⟨⟨by omega, by simpa using h2⟩, j, T, sv, dv, hto, hst, hT, rfl, hs1, hd1, Holds.to (by assumption)⟩
          | exact .inl ⟨fun h => by omega, rfl, Holds.to (by assumption)⟩
          | exact .inl ⟨fun h => by rw [h.2] at h2; simp at h2, rfl, Holds.to (by assumption)⟩
        · skip
          refine W.exit ?_
          refine hK7 _ _ _ ?_
          refine W.seq (fun K14 hK14 => ?_)
          refine W.region ?_
          refine O.ex (by first | exact Ex.loadAggP Try.isAgg60 Try.sizeOf60 rfl | exact Ex.loadAggN Try.isAgg60 Try.sizeOf60 rfl | exact Ex.loadIn Try.isAgg60 Try.sizeOf60 rfl (Holds.to (by assumption))) rfl ?_
          refine O.storeAggP Try.sizeOf60 rfl rfl rfl (by show (sv.oneCell' && (dv.oneCell' && _)) = true; rw [hs1, hd1]; rfl) (fun w H => ?_)
          refine O.ex (Ex.assign rfl) rfl ?_
          refine O.nil ?_
          refine hK14 _ _ _ ?_
          refine W.ret ?_
          try dsimp only [thenQ, blockQ, retQ]
          first | refine ⟨_, ⟨_, _, _, rfl, rfl, (by first | exact loadVar_mtx Try.isAgg60 Try.sizeOf60 | exact loadVar_agg Try.isAgg60 Try.sizeOf60), _, _, rfl, rfl, rfl⟩, ?_⟩ | (refine retD_mark ?_; intro w H; refine ⟨_, ⟨_, _, _, rfl, rfl, (by first | exact loadVar_mtx Try.isAgg60 Try.sizeOf60 | exact loadVar_agg Try.isAgg60 Try.sizeOf60), _, _, rfl, rfl, rfl⟩, ?_⟩) | (refine retD_mark2 ?_; intro w H; refine ⟨_, ⟨_, _, _, rfl, rfl, (by first | exact loadVar_mtx Try.isAgg60 Try.sizeOf60 | exact loadVar_agg Try.isAgg60 Try.sizeOf60), _, _, rfl, rfl, rfl⟩, ?_⟩)
          first
          | exact .inr ⟨⟨by omega, by simpa using h2⟩, j, T, sv, dv, hto, hst, hT, rfl, hs1, hd1, Holds.to (by assumption)⟩
          | exact .inl ⟨fun h => by omega, rfl, Holds.to (by assumption)⟩
          | exact .inl ⟨fun h => by rw [h.2] at h2; simp at h2, rfl, Holds.to (by assumption)⟩
end Go.Proofs.Ytblapiiinbppiaa
