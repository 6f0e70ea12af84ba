import Derived.Test.YtblapiiinbppiaaWit4
import Derived.Test.YtblapiiinbppiaaRrBase
namespace Go.Proofs.Ytblapiiinbppiaa
--ARR
open Go.Rr Go Hp Wt
set_option linter.unusedVariables false
def three (n u v w : Int) : Prop := ((0 ≤ u ∧ u < n) ∧ (0 ≤ v ∧ v < n) ∧ (0 ≤ w ∧ w < n)) ∧ u ≠ v ∧ v ≠ w ∧ w ≠ u
instance (n u v w : Int) : Decidable (three n u v w) := by unfold three; infer_instance
theorem orL_one (v : Int) : orL [v] = bitN v := by simp [orL]
theorem inS_bitN {v x : Int} (hx0 : 0 ≤ x) (hx1 : x < 64) : inS (bitN v) x = decide (x = v) := by
  unfold inS
  rw [decide_eq_true ⟨hx0, hx1⟩, Bool.true_and, bitN_bit v _ (by omega), Int.toNat_of_nonneg hx0]
theorem inS_orL {xs : List Int} {x : Int} (hx0 : 0 ≤ x) (hx1 : x < 64) : inS (orL xs) x = decide (x ∈ xs) := by
  unfold inS
  rw [decide_eq_true ⟨hx0, hx1⟩, Bool.true_and, orL_bit xs _ (by omega), Int.toNat_of_nonneg hx0]
theorem inS_zero (x : Int) : inS 0 x = false := by unfold inS; rw [Nat.zero_testBit, Bool.and_false]
set_option maxHeartbeats 2000000 in
theorem spared_ct {w : World} {m : Nat} {n u v x settles : Int} {c : Int → Int → Int} {L : List HProp} (hg : Good n c) (H : Holds w (Mh m n c :: L)) :
    CT Try.prog 37 [.pointer (some ⟨m, 0, none⟩), .int .i64 u, .int .i64 v, .int .i64 x, .int .i64 settles] w fun y w' =>
      (¬ three n u v x ∧ y = .tuple #[.bool false, .int .i64 1] ∧ Holds w' (Mh m n c :: L)) ∨
      (three n u v x ∧ ∃ j, to n.toNat c u.toNat (bitN v) settles (two (c u v) (c v x)) j ∧ stopP n.toNat c u.toNat (bitN v) settles (two (c u v) (c v x)) j ∧ y = .tuple #[.bool (decide (x ∈ (st n.toNat c u.toNat (bitN v) j).map Prod.fst)), .int .i64 0] ∧ Holds w' (Mh m n c :: L)) := by
  have n1 := hg.n1
  have n2 := hg.n2
  refine CT.enter (N := 73) Try.func37 rfl rfl rfl rfl ?_
  refine W.seq (fun K0 hK0 => ?_)
  refine W.region ?_
  refine O.ex (Ex.assign rfl) rfl ?_
  refine O.ex (Ex.assign rfl) rfl ?_
  refine O.nil ?_
  refine hK0 _ _ _ ?_
  refine W.seq (fun K1 hK1 => ?_)
  refine W.seq (fun K2 hK2 => ?_)
  refine W.region ?_
  refine O.ex (Ex.move rfl) rfl ?_
  refine O.ex (Ex.lss rfl rfl) rfl ?_
  refine O.ex (Ex.move rfl) rfl ?_
  first | refine O.split_p (t := 16) rfl (fun h0 => ?_) (fun h0 => ?_) | refine O.split (t := 16) rfl (fun h0 => ?_) (fun h0 => ?_)
  · refine O.guard_f rfl rfl rfl rfl ?_
    refine O.guard_f rfl rfl rfl rfl ?_
    refine O.guard_f rfl rfl rfl rfl ?_
    refine O.guard_f rfl rfl rfl rfl ?_
    refine O.ex (Ex.pick_t rfl rfl) rfl ?_
    refine O.ex (Ex.move rfl) rfl ?_
    refine O.guard_f rfl rfl rfl rfl ?_
    refine O.guard_f rfl rfl rfl rfl ?_
    refine O.ex (Ex.pick_t rfl rfl) rfl ?_
    refine O.ex (Ex.move rfl) rfl ?_
    refine O.guard_f rfl rfl rfl rfl ?_
    refine O.guard_f rfl rfl rfl rfl ?_
    refine O.guard_f rfl rfl rfl rfl ?_
    refine O.guard_f rfl rfl rfl rfl ?_
    refine O.ex (Ex.pick_t rfl rfl) rfl ?_
    refine O.ex (Ex.move rfl) rfl ?_
    refine O.guard_f rfl rfl rfl rfl ?_
    refine O.guard_f rfl rfl rfl rfl ?_
    refine O.guard_f rfl rfl rfl rfl ?_
    refine O.ex (Ex.pick_t rfl rfl) rfl ?_
    refine O.ex (Ex.move rfl) rfl ?_
    refine O.guard_f rfl rfl rfl rfl ?_
    refine O.guard_f rfl rfl rfl rfl ?_
    refine O.guard_f rfl rfl rfl rfl ?_
    refine O.ex (Ex.pick_t rfl rfl) rfl ?_
    refine O.ex (Ex.move rfl) rfl ?_
    refine O.guard_f rfl rfl rfl rfl ?_
    refine O.guard_f rfl rfl rfl rfl ?_
    refine O.guard_f rfl rfl rfl rfl ?_
    refine O.ex (Ex.pick_t rfl rfl) rfl ?_
    refine O.nil ?_
    refine hK2 _ _ _ ?_
    refine W.cond_t rfl ?_
    refine W.seq (fun K3 hK3 => ?_)
    refine W.region ?_
    refine O.ex (Ex.assign rfl) rfl ?_
    refine O.ex (Ex.assign rfl) rfl ?_
    refine O.nil ?_
    refine hK3 _ _ _ ?_
    refine W.ret ?_
    try dsimp only [thenQ, blockQ, retQ]
    first | refine ⟨_, ⟨_, _, rfl, rfl, _, _, rfl, rfl, rfl⟩, ?_⟩ | (refine retD_mark ?_; intro w H; refine ⟨_, ⟨_, _, rfl, rfl, _, _, rfl, rfl, rfl⟩, ?_⟩) | (refine retD_mark2 ?_; intro w H; refine ⟨_, ⟨_, _, rfl, rfl, _, _, rfl, rfl, rfl⟩, ?_⟩)
    first
    | (have hth : ¬ three n u v x := fun hh => by unfold three at hh; omega
       exact .inl ⟨hth, rfl, Holds.to (by assumption)⟩)
    | (have hth : ¬ three n u v x := fun hh => by
         obtain ⟨⟨h7, h8, h9⟩, h10, h11, h12⟩ := hh
         exact hno ⟨h7, by rw [orL_one, inS_bitN (by omega) (by omega)]; exact decide_eq_false h10⟩
       rw [inS_orL (by omega) (by omega)]
       exact .inl ⟨hth, rfl, Holds.to (by assumption)⟩)
    | (have hth : three n u v x := ⟨⟨hyes.1, by omega, by omega⟩, by omega, by omega, by omega⟩
       rw [inS_orL (by omega) (by omega)]
       rw [orL_one] at hto hst ⊢
       exact .inr ⟨hth, j, hto, hst, rfl, Holds.to (by assumption)⟩)
  · refine O.guard_t rfl rfl ?_
    refine O.ex (Ex.move rfl) rfl ?_
    refine O.guard_t rfl rfl ?_
    refine O.ex (Ex.move rfl) rfl ?_
    refine O.guard_t rfl rfl ?_
    refine O.callF Try.call55 rfl rfl (CT.mono (vertices_ct (Holds.to (by assumption))) ?_)
    rintro _ w ⟨rfl, H⟩
    refine O.guard_t rfl rfl ?_
    refine O.ex (Ex.geq rfl rfl) rfl ?_
    refine O.ex (Ex.pick_f rfl rfl) rfl ?_
    refine O.ex (Ex.move rfl) rfl ?_
    first | refine O.split_p (t := 22) rfl (fun h1 => ?_) (fun h1 => ?_) | refine O.split (t := 22) rfl (fun h1 => ?_) (fun h1 => ?_)
    · refine O.guard_f rfl rfl rfl rfl ?_
      refine O.guard_f rfl rfl rfl rfl ?_
      refine O.ex (Ex.pick_t rfl rfl) rfl ?_
      refine O.ex (Ex.move rfl) rfl ?_
      refine O.guard_f rfl rfl rfl rfl ?_
      refine O.guard_f rfl rfl rfl rfl ?_
      refine O.guard_f rfl rfl rfl rfl ?_
      refine O.guard_f rfl rfl rfl rfl ?_
      refine O.ex (Ex.pick_t rfl rfl) rfl ?_
      refine O.ex (Ex.move rfl) rfl ?_
      refine O.guard_f rfl rfl rfl rfl ?_
      refine O.guard_f rfl rfl rfl rfl ?_
      refine O.guard_f rfl rfl rfl rfl ?_
      refine O.ex (Ex.pick_t rfl rfl) rfl ?_
      refine O.ex (Ex.move rfl) rfl ?_
      refine O.guard_f rfl rfl rfl rfl ?_
      refine O.guard_f rfl rfl rfl rfl ?_
      refine O.guard_f rfl rfl rfl rfl ?_
      refine O.ex (Ex.pick_t rfl rfl) rfl ?_
      refine O.ex (Ex.move rfl) rfl ?_
      refine O.guard_f rfl rfl rfl rfl ?_
      refine O.guard_f rfl rfl rfl rfl ?_
      refine O.guard_f rfl rfl rfl rfl ?_
      refine O.ex (Ex.pick_t rfl rfl) rfl ?_
      refine O.nil ?_
      refine hK2 _ _ _ ?_
      refine W.cond_t rfl ?_
      refine W.seq (fun K4 hK4 => ?_)
      refine W.region ?_
      refine O.ex (Ex.assign rfl) rfl ?_
      refine O.ex (Ex.assign rfl) rfl ?_
      refine O.nil ?_
      refine hK4 _ _ _ ?_
      refine W.ret ?_
      try dsimp only [thenQ, blockQ, retQ]
      first | refine ⟨_, ⟨_, _, rfl, rfl, _, _, rfl, rfl, rfl⟩, ?_⟩ | (refine retD_mark ?_; intro w H; refine ⟨_, ⟨_, _, rfl, rfl, _, _, rfl, rfl, rfl⟩, ?_⟩) | (refine retD_mark2 ?_; intro w H; refine ⟨_, ⟨_, _, rfl, rfl, _, _, rfl, rfl, rfl⟩, ?_⟩)
      first
      | (have hth : ¬ three n u v x := fun hh => by unfold three at hh; omega
         exact .inl ⟨hth, rfl, Holds.to (by assumption)⟩)
      | (have hth : ¬ three n u v x := fun hh => by
           obtain ⟨⟨h7, h8, h9⟩, h10, h11, h12⟩ := hh
           exact hno ⟨h7, by rw [orL_one, inS_bitN (by omega) (by omega)]; exact decide_eq_false h10⟩
         rw [inS_orL (by omega) (by omega)]
         exact .inl ⟨hth, rfl, Holds.to (by assumption)⟩)
      | (have hth : three n u v x := ⟨⟨hyes.1, by omega, by omega⟩, by omega, by omega, by omega⟩
         rw [inS_orL (by omega) (by omega)]
         rw [orL_one] at hto hst ⊢
         exact .inr ⟨hth, j, hto, hst, rfl, Holds.to (by assumption)⟩)
    · refine O.guard_t rfl rfl ?_
      refine O.ex (Ex.move rfl) rfl ?_
      refine O.guard_t rfl rfl ?_
      refine O.ex (Ex.lss rfl rfl) rfl ?_
      refine O.ex (Ex.pick_f rfl rfl) rfl ?_
      refine O.ex (Ex.move rfl) rfl ?_
      first | refine O.split_p (t := 26) rfl (fun h2 => ?_) (fun h2 => ?_) | refine O.split (t := 26) rfl (fun h2 => ?_) (fun h2 => ?_)
      · refine O.guard_f rfl rfl rfl rfl ?_
        refine O.guard_f rfl rfl rfl rfl ?_
        refine O.guard_f rfl rfl rfl rfl ?_
        refine O.guard_f rfl rfl rfl rfl ?_
        refine O.ex (Ex.pick_t rfl rfl) rfl ?_
        refine O.ex (Ex.move rfl) rfl ?_
        refine O.guard_f rfl rfl rfl rfl ?_
        refine O.guard_f rfl rfl rfl rfl ?_
        refine O.guard_f rfl rfl rfl rfl ?_
        refine O.ex (Ex.pick_t rfl rfl) rfl ?_
        refine O.ex (Ex.move rfl) rfl ?_
        refine O.guard_f rfl rfl rfl rfl ?_
        refine O.guard_f rfl rfl rfl rfl ?_
        refine O.guard_f rfl rfl rfl rfl ?_
        refine O.ex (Ex.pick_t rfl rfl) rfl ?_
        refine O.ex (Ex.move rfl) rfl ?_
        refine O.guard_f rfl rfl rfl rfl ?_
        refine O.guard_f rfl rfl rfl rfl ?_
        refine O.guard_f rfl rfl rfl rfl ?_
        refine O.ex (Ex.pick_t rfl rfl) rfl ?_
        refine O.nil ?_
        refine hK2 _ _ _ ?_
        refine W.cond_t rfl ?_
        refine W.seq (fun K5 hK5 => ?_)
        refine W.region ?_
        refine O.ex (Ex.assign rfl) rfl ?_
        refine O.ex (Ex.assign rfl) rfl ?_
        refine O.nil ?_
        refine hK5 _ _ _ ?_
        refine W.ret ?_
        try dsimp only [thenQ, blockQ, retQ]
        first | refine ⟨_, ⟨_, _, rfl, rfl, _, _, rfl, rfl, rfl⟩, ?_⟩ | (refine retD_mark ?_; intro w H; refine ⟨_, ⟨_, _, rfl, rfl, _, _, rfl, rfl, rfl⟩, ?_⟩) | (refine retD_mark2 ?_; intro w H; refine ⟨_, ⟨_, _, rfl, rfl, _, _, rfl, rfl, rfl⟩, ?_⟩)
        first
        | (have hth : ¬ three n u v x := fun hh => by unfold three at hh; omega
           exact .inl ⟨hth, rfl, Holds.to (by assumption)⟩)
        | (have hth : ¬ three n u v x := fun hh => by
             obtain ⟨⟨h7, h8, h9⟩, h10, h11, h12⟩ := hh
             exact hno ⟨h7, by rw [orL_one, inS_bitN (by omega) (by omega)]; exact decide_eq_false h10⟩
           rw [inS_orL (by omega) (by omega)]
           exact .inl ⟨hth, rfl, Holds.to (by assumption)⟩)
        | (have hth : three n u v x := ⟨⟨hyes.1, by omega, by omega⟩, by omega, by omega, by omega⟩
           rw [inS_orL (by omega) (by omega)]
           rw [orL_one] at hto hst ⊢
           exact .inr ⟨hth, j, hto, hst, rfl, Holds.to (by assumption)⟩)
      · refine O.guard_t rfl rfl ?_
        refine O.ex (Ex.move rfl) rfl ?_
        refine O.guard_t rfl rfl ?_
        refine O.ex (Ex.move rfl) rfl ?_
        refine O.guard_t rfl rfl ?_
        refine O.callF Try.call55 rfl rfl (CT.mono (vertices_ct (Holds.to (by assumption))) ?_)
        rintro _ w ⟨rfl, H⟩
        refine O.guard_t rfl rfl ?_
        refine O.ex (Ex.geq rfl rfl) rfl ?_
        refine O.ex (Ex.pick_f rfl rfl) rfl ?_
        refine O.ex (Ex.move rfl) rfl ?_
        first | refine O.split_p (t := 32) rfl (fun h3 => ?_) (fun h3 => ?_) | refine O.split (t := 32) rfl (fun h3 => ?_) (fun h3 => ?_)
        · refine O.guard_f rfl rfl rfl rfl ?_
          refine O.guard_f rfl rfl rfl rfl ?_
          refine O.guard_f rfl rfl rfl rfl ?_
          refine O.ex (Ex.pick_t rfl rfl) rfl ?_
          refine O.ex (Ex.move rfl) rfl ?_
          refine O.guard_f rfl rfl rfl rfl ?_
          refine O.guard_f rfl rfl rfl rfl ?_
          refine O.guard_f rfl rfl rfl rfl ?_
          refine O.ex (Ex.pick_t rfl rfl) rfl ?_
          refine O.ex (Ex.move rfl) rfl ?_
          refine O.guard_f rfl rfl rfl rfl ?_
          refine O.guard_f rfl rfl rfl rfl ?_
          refine O.guard_f rfl rfl rfl rfl ?_
          refine O.ex (Ex.pick_t rfl rfl) rfl ?_
          refine O.nil ?_
          refine hK2 _ _ _ ?_
          refine W.cond_t rfl ?_
          refine W.seq (fun K6 hK6 => ?_)
          refine W.region ?_
          refine O.ex (Ex.assign rfl) rfl ?_
          refine O.ex (Ex.assign rfl) rfl ?_
          refine O.nil ?_
          refine hK6 _ _ _ ?_
          refine W.ret ?_
          try dsimp only [thenQ, blockQ, retQ]
          first | refine ⟨_, ⟨_, _, rfl, rfl, _, _, rfl, rfl, rfl⟩, ?_⟩ | (refine retD_mark ?_; intro w H; refine ⟨_, ⟨_, _, rfl, rfl, _, _, rfl, rfl, rfl⟩, ?_⟩) | (refine retD_mark2 ?_; intro w H; refine ⟨_, ⟨_, _, rfl, rfl, _, _, rfl, rfl, rfl⟩, ?_⟩)
          first
          | (have hth : ¬ three n u v x := fun hh => by unfold three at hh; omega
             exact .inl ⟨hth, rfl, Holds.to (by assumption)⟩)
          | (have hth : ¬ three n u v x := fun hh => by
               obtain ⟨⟨h7, h8, h9⟩, h10, h11, h12⟩ := hh
               exact hno ⟨h7, by rw [orL_one, inS_bitN (by omega) (by omega)]; exact decide_eq_false h10⟩
             rw [inS_orL (by omega) (by omega)]
             exact .inl ⟨hth, rfl, Holds.to (by assumption)⟩)
          | (have hth : three n u v x := ⟨⟨hyes.1, by omega, by omega⟩, by omega, by omega, by omega⟩
             rw [inS_orL (by omega) (by omega)]
             rw [orL_one] at hto hst ⊢
             exact .inr ⟨hth, j, hto, hst, rfl, Holds.to (by assumption)⟩)
        · refine O.guard_t rfl rfl ?_
          refine O.ex (Ex.move rfl) rfl ?_
          refine O.guard_t rfl rfl ?_
          refine O.ex (Ex.move rfl) rfl ?_
          refine O.guard_t rfl rfl ?_
          refine O.ex (Ex.eqlI rfl rfl) rfl ?_
          refine O.ex (Ex.pick_f rfl rfl) rfl ?_
          refine O.ex (Ex.move rfl) rfl ?_
          first | refine O.split_p (t := 37) rfl (fun h4 => ?_) (fun h4 => ?_) | refine O.split (t := 37) rfl (fun h4 => ?_) (fun h4 => ?_)
          · refine O.guard_f rfl rfl rfl rfl ?_
            refine O.guard_f rfl rfl rfl rfl ?_
            refine O.guard_f rfl rfl rfl rfl ?_
            refine O.ex (Ex.pick_t rfl rfl) rfl ?_
            refine O.ex (Ex.move rfl) rfl ?_
            refine O.guard_f rfl rfl rfl rfl ?_
            refine O.guard_f rfl rfl rfl rfl ?_
            refine O.guard_f rfl rfl rfl rfl ?_
            refine O.ex (Ex.pick_t rfl rfl) rfl ?_
            refine O.nil ?_
            refine hK2 _ _ _ ?_
            refine W.cond_t rfl ?_
            refine W.seq (fun K7 hK7 => ?_)
            refine W.region ?_
            refine O.ex (Ex.assign rfl) rfl ?_
            refine O.ex (Ex.assign rfl) rfl ?_
            refine O.nil ?_
            refine hK7 _ _ _ ?_
            refine W.ret ?_
            try dsimp only [thenQ, blockQ, retQ]
            first | refine ⟨_, ⟨_, _, rfl, rfl, _, _, rfl, rfl, rfl⟩, ?_⟩ | (refine retD_mark ?_; intro w H; refine ⟨_, ⟨_, _, rfl, rfl, _, _, rfl, rfl, rfl⟩, ?_⟩) | (refine retD_mark2 ?_; intro w H; refine ⟨_, ⟨_, _, rfl, rfl, _, _, rfl, rfl, rfl⟩, ?_⟩)
            first
            | (have hth : ¬ three n u v x := fun hh => by unfold three at hh; omega
               exact .inl ⟨hth, rfl, Holds.to (by assumption)⟩)
            | (have hth : ¬ three n u v x := fun hh => by
                 obtain ⟨⟨h7, h8, h9⟩, h10, h11, h12⟩ := hh
                 exact hno ⟨h7, by rw [orL_one, inS_bitN (by omega) (by omega)]; exact decide_eq_false h10⟩
               rw [inS_orL (by omega) (by omega)]
               exact .inl ⟨hth, rfl, Holds.to (by assumption)⟩)
            | (have hth : three n u v x := ⟨⟨hyes.1, by omega, by omega⟩, by omega, by omega, by omega⟩
               rw [inS_orL (by omega) (by omega)]
               rw [orL_one] at hto hst ⊢
               exact .inr ⟨hth, j, hto, hst, rfl, Holds.to (by assumption)⟩)
          · refine O.guard_t rfl rfl ?_
            refine O.ex (Ex.move rfl) rfl ?_
            refine O.guard_t rfl rfl ?_
            refine O.ex (Ex.move rfl) rfl ?_
            refine O.guard_t rfl rfl ?_
            refine O.ex (Ex.eqlI rfl rfl) rfl ?_
            refine O.ex (Ex.pick_f rfl rfl) rfl ?_
            refine O.ex (Ex.move rfl) rfl ?_
            first | refine O.split_p (t := 42) rfl (fun h5 => ?_) (fun h5 => ?_) | refine O.split (t := 42) rfl (fun h5 => ?_) (fun h5 => ?_)
            · refine O.guard_f rfl rfl rfl rfl ?_
              refine O.guard_f rfl rfl rfl rfl ?_
              refine O.guard_f rfl rfl rfl rfl ?_
              refine O.ex (Ex.pick_t rfl rfl) rfl ?_
              refine O.nil ?_
              refine hK2 _ _ _ ?_
              refine W.cond_t rfl ?_
              refine W.seq (fun K8 hK8 => ?_)
              refine W.region ?_
              refine O.ex (Ex.assign rfl) rfl ?_
              refine O.ex (Ex.assign rfl) rfl ?_
              refine O.nil ?_
              refine hK8 _ _ _ ?_
              refine W.ret ?_
              try dsimp only [thenQ, blockQ, retQ]
              first | refine ⟨_, ⟨_, _, rfl, rfl, _, _, rfl, rfl, rfl⟩, ?_⟩ | (refine retD_mark ?_; intro w H; refine ⟨_, ⟨_, _, rfl, rfl, _, _, rfl, rfl, rfl⟩, ?_⟩) | (refine retD_mark2 ?_; intro w H; refine ⟨_, ⟨_, _, rfl, rfl, _, _, rfl, rfl, rfl⟩, ?_⟩)
              first
              | (have hth : ¬ three n u v x := fun hh => by unfold three at hh; omega
                 exact .inl ⟨hth, rfl, Holds.to (by assumption)⟩)
              | (have hth : ¬ three n u v x := fun hh => by
                   obtain ⟨⟨h7, h8, h9⟩, h10, h11, h12⟩ := hh
                   exact hno ⟨h7, by rw [orL_one, inS_bitN (by omega) (by omega)]; exact decide_eq_false h10⟩
                 rw [inS_orL (by omega) (by omega)]
                 exact .inl ⟨hth, rfl, Holds.to (by assumption)⟩)
              | (have hth : three n u v x := ⟨⟨hyes.1, by omega, by omega⟩, by omega, by omega, by omega⟩
                 rw [inS_orL (by omega) (by omega)]
                 rw [orL_one] at hto hst ⊢
                 exact .inr ⟨hth, j, hto, hst, rfl, Holds.to (by assumption)⟩)
            · refine O.guard_t rfl rfl ?_
              refine O.ex (Ex.move rfl) rfl ?_
              refine O.guard_t rfl rfl ?_
              refine O.ex (Ex.move rfl) rfl ?_
              refine O.guard_t rfl rfl ?_
              refine O.ex (Ex.eqlI rfl rfl) rfl ?_
              refine O.ex (Ex.pick_f rfl rfl) rfl ?_
              refine O.nil ?_
              refine hK2 _ _ _ ?_
              first | refine W.cond_p rfl (fun h6 => ?_) (fun h6 => ?_) | refine W.cond_b rfl (fun h6 => ?_) (fun h6 => ?_)
              · refine W.seq (fun K9 hK9 => ?_)
                refine W.region ?_
                refine O.ex (Ex.assign rfl) rfl ?_
                refine O.ex (Ex.assign rfl) rfl ?_
                refine O.nil ?_
                refine hK9 _ _ _ ?_
                refine W.ret ?_
                try dsimp only [thenQ, blockQ, retQ]
                first | refine ⟨_, ⟨_, _, rfl, rfl, _, _, rfl, rfl, rfl⟩, ?_⟩ | (refine retD_mark ?_; intro w H; refine ⟨_, ⟨_, _, rfl, rfl, _, _, rfl, rfl, rfl⟩, ?_⟩) | (refine retD_mark2 ?_; intro w H; refine ⟨_, ⟨_, _, rfl, rfl, _, _, rfl, rfl, rfl⟩, ?_⟩)
                first
                | (have hth : ¬ three n u v x := fun hh => by unfold three at hh; omega
                   exact .inl ⟨hth, rfl, Holds.to (by assumption)⟩)
                | (have hth : ¬ three n u v x := fun hh => by
                     obtain ⟨⟨h7, h8, h9⟩, h10, h11, h12⟩ := hh
                     exact hno ⟨h7, by rw [orL_one, inS_bitN (by omega) (by omega)]; exact decide_eq_false h10⟩
                   rw [inS_orL (by omega) (by omega)]
                   exact .inl ⟨hth, rfl, Holds.to (by assumption)⟩)
                | (have hth : three n u v x := ⟨⟨hyes.1, by omega, by omega⟩, by omega, by omega, by omega⟩
                   rw [inS_orL (by omega) (by omega)]
                   rw [orL_one] at hto hst ⊢
                   exact .inr ⟨hth, j, hto, hst, rfl, Holds.to (by assumption)⟩)
              · refine W.skip ?_
                refine hK1 _ _ _ ?_
                refine W.seq (fun K10 hK10 => ?_)
                refine W.region ?_
                refine O.ex (Ex.move rfl) rfl ?_
                refine O.ex (Ex.move rfl) rfl ?_
                refine O.ex (Ex.move rfl) rfl ?_
                refine O.build1 (e := Value.int .i64) Try.runUnderlying51 Try.sizeOf3 Try.zeroValue3 rfl (fun v51 w hv51 H => ?_)
                refine O.callF Try.call59 rfl rfl (CT.mono (ofA_ct (xs := [v]) (Holds.to (by assumption)) (by simp)) ?_)
                rintro _ w ⟨rfl, H⟩
                refine O.ex (Ex.move rfl) rfl ?_
                refine O.ex (Ex.move rfl) rfl ?_
                refine O.ex (Ex.move rfl) rfl ?_
                refine O.callF Try.call19 rfl rfl (CT.mono (at_ct hg (Holds.to (by assumption))) ?_)
                rintro _ w ⟨rfl, H⟩
                refine O.ex (Ex.move rfl) rfl ?_
                refine O.ex (Ex.move rfl) rfl ?_
                refine O.ex (Ex.move rfl) rfl ?_
                refine O.callF Try.call19 rfl rfl (CT.mono (at_ct hg (Holds.to (by assumption))) ?_)
                rintro _ w ⟨rfl, H⟩
                refine O.buildK (e := Value.int .i64) (vs := [(0, .int .i64 (c u v)), (1, .int .i64 (c v x))]) [c u v, c v x] Try.runUnderlying51 Try.sizeOf3 Try.zeroValue3 rfl rfl rfl rfl rfl rfl (fun v61 w hv61 H => ?_)
                refine O.callF Try.call58 rfl rfl (CT.mono (add_ct (Holds.to (by assumption)) (hg.dst _ _) (hg.dst _ _)) ?_)
                rintro _ w ⟨rfl, H⟩
                refine O.ex (Ex.move rfl) rfl ?_
                refine O.callF Try.call33 rfl rfl (CT.mono (wfind_ct hg (orL_lt _) (Holds.to (by assumption))) ?_)
                rintro _ w hh
                rcases hh with ⟨hno, rfl, H⟩ | ⟨hyes, j, T, sv, dv, hto, hst, hT, rfl, hs1, hd1, H⟩
                · refine O.ex (Ex.move rfl) rfl ?_
                  refine O.ex (Ex.extract rfl rfl) rfl ?_
                  refine O.ex (Ex.extract rfl rfl) rfl ?_
                  refine O.allocP Try.zeroValue60 (fun b12 w H => ?_)
                  first | refine O.storeAggP Try.sizeOf60 rfl rfl rfl rfl (fun w H => ?_) | refine O.storeAggP Try.sizeOf60 rfl rfl rfl (all3 hs1 hd1 rfl) (fun w H => ?_)
                  refine O.ex (Ex.assign rfl) rfl ?_
                  refine O.nil ?_
                  refine hK10 _ _ _ ?_
                  refine W.seq (fun K11 hK11 => ?_)
                  refine W.region ?_
                  have H := arr_nil (T := 3) (e := Value.int .i64) H
                  refine O.ex (by first | exact Ex.field0 fld60_0 rfl | exact Ex.field fld60_0 rfl | exact Ex.fieldS fld60_0 rfl) rfl ?_
                  refine O.ex (by first | exact Ex.loadMh Try.isAgg51 rfl | exact Ex.loadP Try.isAgg51 rfl | exact Ex.loadM Try.isAgg51 rfl | exact Ex.loadIn1 Try.isAgg51 rfl (Holds.to (by assumption)) | exact Ex.loadVc Try.isAgg51 rfl | exact Ex.loadR Try.isAgg51 rfl | exact Ex.loadQ Try.isAgg51 rfl) rfl ?_
                  refine O.callF Try.call59 rfl rfl (CT.mono (ofA_ct (xs := []) (Holds.to (by assumption)) (by simp)) ?_)
                  rintro _ w ⟨rfl, H⟩
                  refine O.ex (Ex.move rfl) rfl ?_
                  refine O.callF Try.call40 rfl rfl (CT.mono (has_ct (Holds.to (by assumption)) (orL_lt _)) ?_)
                  rintro _ w ⟨rfl, H⟩
                  refine O.ex (Ex.move rfl) rfl ?_
                  refine O.ex (Ex.assign rfl) rfl ?_
                  refine O.ex (Ex.assign rfl) rfl ?_
                  refine O.nil ?_
                  refine hK11 _ _ _ ?_
                  refine W.ret ?_
                  try dsimp only [thenQ, blockQ, retQ]
                  first | refine ⟨_, ⟨_, _, rfl, rfl, _, _, rfl, rfl, rfl⟩, ?_⟩ | (refine retD_mark ?_; intro w H; refine ⟨_, ⟨_, _, rfl, rfl, _, _, rfl, rfl, rfl⟩, ?_⟩) | (refine retD_mark2 ?_; intro w H; refine ⟨_, ⟨_, _, rfl, rfl, _, _, rfl, rfl, rfl⟩, ?_⟩)
                  first
                  | (have hth : ¬ three n u v x := fun hh => by unfold three at hh; omega
                     exact .inl ⟨hth, rfl, Holds.to (by assumption)⟩)
                  | (have hth : ¬ three n u v x := fun hh => by
                       obtain ⟨⟨h7, h8, h9⟩, h10, h11, h12⟩ := hh
                       exact hno ⟨h7, by rw [orL_one, inS_bitN (by omega) (by omega)]; exact decide_eq_false h10⟩
                     rw [inS_orL (by omega) (by omega)]
                     exact .inl ⟨hth, rfl, Holds.to (by assumption)⟩)
                  | (have hth : three n u v x := ⟨⟨hyes.1, by omega, by omega⟩, by omega, by omega, by omega⟩
                     rw [inS_orL (by omega) (by omega)]
                     rw [orL_one] at hto hst ⊢
                     exact .inr ⟨hth, j, hto, hst, rfl, Holds.to (by assumption)⟩)
                · refine O.ex (Ex.move rfl) rfl ?_
                  refine O.ex (Ex.extract rfl rfl) rfl ?_
                  refine O.ex (Ex.extract rfl rfl) rfl ?_
                  refine O.allocP Try.zeroValue60 (fun b12 w H => ?_)
                  first | refine O.storeAggP Try.sizeOf60 rfl rfl rfl rfl (fun w H => ?_) | refine O.storeAggP Try.sizeOf60 rfl rfl rfl (all3 hs1 hd1 rfl) (fun w H => ?_)
                  refine O.ex (Ex.assign rfl) rfl ?_
                  refine O.nil ?_
                  refine hK10 _ _ _ ?_
                  refine W.seq (fun K12 hK12 => ?_)
                  refine W.region ?_
                  have hl1 : ((st n.toNat c u.toNat (orL [v]) j).map Prod.fst).length ≤ 9223372036854775807 := by
                    rw [List.length_map]; have := st_len (s0 := u.toNat) (wo := orL [v]) hg j; omega
                  refine O.ex (by first | exact Ex.field0 fld60_0 rfl | exact Ex.field fld60_0 rfl | exact Ex.fieldS fld60_0 rfl) rfl ?_
                  refine O.ex (by first | exact Ex.loadMh Try.isAgg51 rfl | exact Ex.loadP Try.isAgg51 rfl | exact Ex.loadM Try.isAgg51 rfl | exact Ex.loadIn1 Try.isAgg51 rfl (Holds.to (by assumption)) | exact Ex.loadVc Try.isAgg51 rfl | exact Ex.loadR Try.isAgg51 rfl | exact Ex.loadQ Try.isAgg51 rfl) rfl ?_
                  refine O.callF Try.call59 rfl rfl (CT.mono (ofA_ct (xs := (st n.toNat c u.toNat (orL [v]) j).map Prod.fst) (Holds.to (by assumption)) hl1) ?_)
                  rintro _ w ⟨rfl, H⟩
                  refine O.ex (Ex.move rfl) rfl ?_
                  refine O.callF Try.call40 rfl rfl (CT.mono (has_ct (Holds.to (by assumption)) (orL_lt _)) ?_)
                  rintro _ w ⟨rfl, H⟩
                  refine O.ex (Ex.move rfl) rfl ?_
                  refine O.ex (Ex.assign rfl) rfl ?_
                  refine O.ex (Ex.assign rfl) rfl ?_
                  refine O.nil ?_
                  refine hK12 _ _ _ ?_
                  refine W.ret ?_
                  try dsimp only [thenQ, blockQ, retQ]
                  first | refine ⟨_, ⟨_, _, rfl, rfl, _, _, rfl, rfl, rfl⟩, ?_⟩ | (refine retD_mark ?_; intro w H; refine ⟨_, ⟨_, _, rfl, rfl, _, _, rfl, rfl, rfl⟩, ?_⟩) | (refine retD_mark2 ?_; intro w H; refine ⟨_, ⟨_, _, rfl, rfl, _, _, rfl, rfl, rfl⟩, ?_⟩)
                  first
                  | (have hth : ¬ three n u v x := fun hh => by unfold three at hh; omega
                     exact .inl ⟨hth, rfl, Holds.to (by assumption)⟩)
                  | (have hth : ¬ three n u v x := fun hh => by
                       obtain ⟨⟨h7, h8, h9⟩, h10, h11, h12⟩ := hh
                       exact hno ⟨h7, by rw [orL_one, inS_bitN (by omega) (by omega)]; exact decide_eq_false h10⟩
                     rw [inS_orL (by omega) (by omega)]
                     exact .inl ⟨hth, rfl, Holds.to (by assumption)⟩)
                  | (have hth : three n u v x := ⟨⟨hyes.1, by omega, by omega⟩, by omega, by omega, by omega⟩
                     rw [inS_orL (by omega) (by omega)]
                     rw [orL_one] at hto hst ⊢
                     exact .inr ⟨hth, j, hto, hst, rfl, Holds.to (by assumption)⟩)
theorem three_ct {w : World} {r : Nat} {n u v x : Int} {c : Int → Int → Int} {L : List HProp} (H : Holds w (Rh r n c :: L)) :
    CT Try.prog 38 [.pointer (some ⟨r, 0, none⟩), .int .i64 u, .int .i64 v, .int .i64 x] w fun y w' => y = .bool (decide (three n u v x)) ∧ Holds w' (Rh r n c :: L) := by
  refine CT.enter (N := 37) Try.func38 rfl rfl rfl rfl ?_
  refine W.seq (fun K0 hK0 => ?_)
  refine W.region ?_
  refine O.ex (Ex.assign rfl) rfl ?_
  refine O.nil ?_
  refine hK0 _ _ _ ?_
  refine W.seq (fun K1 hK1 => ?_)
  refine W.region ?_
  refine O.ex (Ex.move rfl) rfl ?_
  refine O.ex (Ex.move rfl) rfl ?_
  refine O.callF Try.call30 rfl rfl (CT.mono (vertexr_ct (Holds.to (by assumption))) ?_)
  rintro _ w ⟨rfl, H⟩
  refine O.ex (Ex.move rfl) rfl ?_
  first | refine O.split_p (t := 12) rfl (fun h0 => ?_) (fun h0 => ?_) | refine O.split (t := 12) rfl (fun h0 => ?_) (fun h0 => ?_)
  · refine O.guard_t rfl rfl ?_
    refine O.ex (Ex.move rfl) rfl ?_
    refine O.guard_t rfl rfl ?_
    refine O.ex (Ex.move rfl) rfl ?_
    refine O.guard_t rfl rfl ?_
    refine O.callF Try.call30 rfl rfl (CT.mono (vertexr_ct (Holds.to (by assumption))) ?_)
    rintro _ w ⟨rfl, H⟩
    refine O.ex (Ex.pick_t rfl rfl) rfl ?_
    refine O.ex (Ex.move rfl) rfl ?_
    first | refine O.split_p (t := 17) rfl (fun h1 => ?_) (fun h1 => ?_) | refine O.split (t := 17) rfl (fun h1 => ?_) (fun h1 => ?_)
    · refine O.guard_t rfl rfl ?_
      refine O.ex (Ex.move rfl) rfl ?_
      refine O.guard_t rfl rfl ?_
      refine O.ex (Ex.move rfl) rfl ?_
      refine O.guard_t rfl rfl ?_
      refine O.callF Try.call30 rfl rfl (CT.mono (vertexr_ct (Holds.to (by assumption))) ?_)
      rintro _ w ⟨rfl, H⟩
      refine O.ex (Ex.pick_t rfl rfl) rfl ?_
      refine O.ex (Ex.move rfl) rfl ?_
      first | refine O.split_p (t := 22) rfl (fun h2 => ?_) (fun h2 => ?_) | refine O.split (t := 22) rfl (fun h2 => ?_) (fun h2 => ?_)
      · refine O.guard_t rfl rfl ?_
        refine O.ex (Ex.move rfl) rfl ?_
        refine O.guard_t rfl rfl ?_
        refine O.ex (Ex.move rfl) rfl ?_
        refine O.guard_t rfl rfl ?_
        refine O.ex (Ex.neqI rfl rfl) rfl ?_
        refine O.ex (Ex.pick_t rfl rfl) rfl ?_
        refine O.ex (Ex.move rfl) rfl ?_
        first | refine O.split_p (t := 27) rfl (fun h3 => ?_) (fun h3 => ?_) | refine O.split (t := 27) rfl (fun h3 => ?_) (fun h3 => ?_)
        · refine O.guard_t rfl rfl ?_
          refine O.ex (Ex.move rfl) rfl ?_
          refine O.guard_t rfl rfl ?_
          refine O.ex (Ex.move rfl) rfl ?_
          refine O.guard_t rfl rfl ?_
          refine O.ex (Ex.neqI rfl rfl) rfl ?_
          refine O.ex (Ex.pick_t rfl rfl) rfl ?_
          refine O.ex (Ex.move rfl) rfl ?_
          first | refine O.split_p (t := 32) rfl (fun h4 => ?_) (fun h4 => ?_) | refine O.split (t := 32) rfl (fun h4 => ?_) (fun h4 => ?_)
          · refine O.guard_t rfl rfl ?_
            refine O.ex (Ex.move rfl) rfl ?_
            refine O.guard_t rfl rfl ?_
            refine O.ex (Ex.move rfl) rfl ?_
            refine O.guard_t rfl rfl ?_
            refine O.ex (Ex.neqI rfl rfl) rfl ?_
            refine O.ex (Ex.pick_t rfl rfl) rfl ?_
            refine O.ex (Ex.assign rfl) rfl ?_
            refine O.nil ?_
            refine hK1 _ _ _ ?_
            refine W.ret ?_
            try dsimp only [thenQ, blockQ, retQ]
            first | refine ⟨_, ⟨_, _, rfl, rfl, rfl⟩, ?_⟩ | (refine retD_mark ?_; intro w H; refine ⟨_, ⟨_, _, rfl, rfl, rfl⟩, ?_⟩) | (refine retD_mark2 ?_; intro w H; refine ⟨_, ⟨_, _, rfl, rfl, rfl⟩, ?_⟩)
            refine ⟨congrArg Value.bool ?_, Holds.to (by assumption)⟩
            first
            | exact (decide_eq_false (by unfold three; omega)).symm
            | exact decide_eq_decide.2 (by unfold three; omega)
          · refine O.guard_f rfl rfl rfl rfl ?_
            refine O.guard_f rfl rfl rfl rfl ?_
            refine O.guard_f rfl rfl rfl rfl ?_
            refine O.ex (Ex.pick_f rfl rfl) rfl ?_
            refine O.ex (Ex.assign rfl) rfl ?_
            refine O.nil ?_
            refine hK1 _ _ _ ?_
            refine W.ret ?_
            try dsimp only [thenQ, blockQ, retQ]
            first | refine ⟨_, ⟨_, _, rfl, rfl, rfl⟩, ?_⟩ | (refine retD_mark ?_; intro w H; refine ⟨_, ⟨_, _, rfl, rfl, rfl⟩, ?_⟩) | (refine retD_mark2 ?_; intro w H; refine ⟨_, ⟨_, _, rfl, rfl, rfl⟩, ?_⟩)
            refine ⟨congrArg Value.bool ?_, Holds.to (by assumption)⟩
            first
            | exact (decide_eq_false (by unfold three; omega)).symm
            | exact decide_eq_decide.2 (by unfold three; omega)
        · refine O.guard_f rfl rfl rfl rfl ?_
          refine O.guard_f rfl rfl rfl rfl ?_
          refine O.guard_f rfl rfl rfl rfl ?_
          refine O.ex (Ex.pick_f rfl rfl) rfl ?_
          refine O.ex (Ex.move rfl) rfl ?_
          refine O.guard_f rfl rfl rfl rfl ?_
          refine O.guard_f rfl rfl rfl rfl ?_
          refine O.guard_f rfl rfl rfl rfl ?_
          refine O.ex (Ex.pick_f rfl rfl) rfl ?_
          refine O.ex (Ex.assign rfl) rfl ?_
          refine O.nil ?_
          refine hK1 _ _ _ ?_
          refine W.ret ?_
          try dsimp only [thenQ, blockQ, retQ]
          first | refine ⟨_, ⟨_, _, rfl, rfl, rfl⟩, ?_⟩ | (refine retD_mark ?_; intro w H; refine ⟨_, ⟨_, _, rfl, rfl, rfl⟩, ?_⟩) | (refine retD_mark2 ?_; intro w H; refine ⟨_, ⟨_, _, rfl, rfl, rfl⟩, ?_⟩)
          refine ⟨congrArg Value.bool ?_, Holds.to (by assumption)⟩
          first
          | exact (decide_eq_false (by unfold three; omega)).symm
          | exact decide_eq_decide.2 (by unfold three; omega)
      · refine O.guard_f rfl rfl rfl rfl ?_
        refine O.guard_f rfl rfl rfl rfl ?_
        refine O.guard_f rfl rfl rfl rfl ?_
        refine O.ex (Ex.pick_f rfl rfl) rfl ?_
        refine O.ex (Ex.move rfl) rfl ?_
        refine O.guard_f rfl rfl rfl rfl ?_
        refine O.guard_f rfl rfl rfl rfl ?_
        refine O.guard_f rfl rfl rfl rfl ?_
        refine O.ex (Ex.pick_f rfl rfl) rfl ?_
        refine O.ex (Ex.move rfl) rfl ?_
        refine O.guard_f rfl rfl rfl rfl ?_
        refine O.guard_f rfl rfl rfl rfl ?_
        refine O.guard_f rfl rfl rfl rfl ?_
        refine O.ex (Ex.pick_f rfl rfl) rfl ?_
        refine O.ex (Ex.assign rfl) rfl ?_
        refine O.nil ?_
        refine hK1 _ _ _ ?_
        refine W.ret ?_
        try dsimp only [thenQ, blockQ, retQ]
        first | refine ⟨_, ⟨_, _, rfl, rfl, rfl⟩, ?_⟩ | (refine retD_mark ?_; intro w H; refine ⟨_, ⟨_, _, rfl, rfl, rfl⟩, ?_⟩) | (refine retD_mark2 ?_; intro w H; refine ⟨_, ⟨_, _, rfl, rfl, rfl⟩, ?_⟩)
        refine ⟨congrArg Value.bool ?_, Holds.to (by assumption)⟩
        first
        | exact (decide_eq_false (by unfold three; omega)).symm
        | exact decide_eq_decide.2 (by unfold three; omega)
    · refine O.guard_f rfl rfl rfl rfl ?_
      refine O.guard_f rfl rfl rfl rfl ?_
      refine O.guard_f rfl rfl rfl rfl ?_
      refine O.ex (Ex.pick_f rfl rfl) rfl ?_
      refine O.ex (Ex.move rfl) rfl ?_
      refine O.guard_f rfl rfl rfl rfl ?_
      refine O.guard_f rfl rfl rfl rfl ?_
      refine O.guard_f rfl rfl rfl rfl ?_
      refine O.ex (Ex.pick_f rfl rfl) rfl ?_
      refine O.ex (Ex.move rfl) rfl ?_
      refine O.guard_f rfl rfl rfl rfl ?_
      refine O.guard_f rfl rfl rfl rfl ?_
      refine O.guard_f rfl rfl rfl rfl ?_
      refine O.ex (Ex.pick_f rfl rfl) rfl ?_
      refine O.ex (Ex.move rfl) rfl ?_
      refine O.guard_f rfl rfl rfl rfl ?_
      refine O.guard_f rfl rfl rfl rfl ?_
      refine O.guard_f rfl rfl rfl rfl ?_
      refine O.ex (Ex.pick_f rfl rfl) rfl ?_
      refine O.ex (Ex.assign rfl) rfl ?_
      refine O.nil ?_
      refine hK1 _ _ _ ?_
      refine W.ret ?_
      try dsimp only [thenQ, blockQ, retQ]
      first | refine ⟨_, ⟨_, _, rfl, rfl, rfl⟩, ?_⟩ | (refine retD_mark ?_; intro w H; refine ⟨_, ⟨_, _, rfl, rfl, rfl⟩, ?_⟩) | (refine retD_mark2 ?_; intro w H; refine ⟨_, ⟨_, _, rfl, rfl, rfl⟩, ?_⟩)
      refine ⟨congrArg Value.bool ?_, Holds.to (by assumption)⟩
      first
      | exact (decide_eq_false (by unfold three; omega)).symm
      | exact decide_eq_decide.2 (by unfold three; omega)
  · refine O.guard_f rfl rfl rfl rfl ?_
    refine O.guard_f rfl rfl rfl rfl ?_
    refine O.guard_f rfl rfl rfl rfl ?_
    refine O.ex (Ex.pick_f rfl rfl) rfl ?_
    refine O.ex (Ex.move rfl) rfl ?_
    refine O.guard_f rfl rfl rfl rfl ?_
    refine O.guard_f rfl rfl rfl rfl ?_
    refine O.guard_f rfl rfl rfl rfl ?_
    refine O.ex (Ex.pick_f rfl rfl) rfl ?_
    refine O.ex (Ex.move rfl) rfl ?_
    refine O.guard_f rfl rfl rfl rfl ?_
    refine O.guard_f rfl rfl rfl rfl ?_
    refine O.guard_f rfl rfl rfl rfl ?_
    refine O.ex (Ex.pick_f rfl rfl) rfl ?_
    refine O.ex (Ex.move rfl) rfl ?_
    refine O.guard_f rfl rfl rfl rfl ?_
    refine O.guard_f rfl rfl rfl rfl ?_
    refine O.guard_f rfl rfl rfl rfl ?_
    refine O.ex (Ex.pick_f rfl rfl) rfl ?_
    refine O.ex (Ex.move rfl) rfl ?_
    refine O.guard_f rfl rfl rfl rfl ?_
    refine O.guard_f rfl rfl rfl rfl ?_
    refine O.guard_f rfl rfl rfl rfl ?_
    refine O.ex (Ex.pick_f rfl rfl) rfl ?_
    refine O.ex (Ex.assign rfl) rfl ?_
    refine O.nil ?_
    refine hK1 _ _ _ ?_
    refine W.ret ?_
    try dsimp only [thenQ, blockQ, retQ]
    first | refine ⟨_, ⟨_, _, rfl, rfl, rfl⟩, ?_⟩ | (refine retD_mark ?_; intro w H; refine ⟨_, ⟨_, _, rfl, rfl, rfl⟩, ?_⟩) | (refine retD_mark2 ?_; intro w H; refine ⟨_, ⟨_, _, rfl, rfl, rfl⟩, ?_⟩)
    refine ⟨congrArg Value.bool ?_, Holds.to (by assumption)⟩
    first
    | exact (decide_eq_false (by unfold three; omega)).symm
    | exact decide_eq_decide.2 (by unfold three; omega)
set_option maxHeartbeats 1000000 in
theorem refSpared_ct {w : World} {r : Nat} {n u v x settles : Int} {c : Int → Int → Int} {L : List HProp} (hg : Good n c) (h3 : three n u v x) (H : Holds w (Rh r n c :: L)) :
    CT Try.prog 39 [.pointer (some ⟨r, 0, none⟩), .int .i64 u, .int .i64 v, .int .i64 x, .int .i64 settles] w fun y w' =>
      ∃ j, to n.toNat c u.toNat (bitN v) settles (two (c u v) (c v x)) j ∧ stopP n.toNat c u.toNat (bitN v) settles (two (c u v) (c v x)) j ∧ y = .bool (decide (x ∈ (st n.toNat c u.toNat (bitN v) j).map Prod.fst)) ∧ Holds w' (Rh r n c :: L) := by
  have n1 := hg.n1
  have n2 := hg.n2
  obtain ⟨⟨⟨hu0, hu1⟩, ⟨hv0, hv1⟩, ⟨hx0, hx1⟩⟩, h10, h11, h12⟩ := h3
  refine CT.enter (N := 37) Try.func39 rfl rfl rfl rfl ?_
  refine W.seq (fun K0 hK0 => ?_)
  refine W.region ?_
  refine O.ex (Ex.assign rfl) rfl ?_
  refine O.nil ?_
  refine hK0 _ _ _ ?_
  refine W.seq (fun K1 hK1 => ?_)
  refine W.region ?_
  refine O.ex (Ex.assign rfl) rfl ?_
  refine O.nil ?_
  refine hK1 _ _ _ ?_
  refine W.seq (fun K2 hK2 => ?_)
  refine W.seq (fun K3 hK3 => ?_)
  refine W.region ?_
  refine O.ex (Ex.assign rfl) rfl ?_
  refine O.nil ?_
  refine hK3 _ _ _ ?_
  refine W.block ?_
  refine W.loop (σ := Nat) (fun i => [(0, .pointer (some ⟨r, 0, none⟩)), (1, .int .i64 u), (2, .int .i64 v), (3, .int .i64 x), (4, .int .i64 settles), (11, .int .u64 ((2 ^ i : Nat) : Int)), (12, .int .i64 (i : Int))]) (fun i ds w => ds = [] ∧ (i : Int) ≤ v ∧ Holds w (Rh r n c :: L)) (fun i => v.toNat - i) 0 ⟨rfl, rfl, rfl, rfl, rfl, rfl, rfl, trivial⟩ ⟨rfl, by omega, Holds.to (by assumption)⟩ ?_
  clear H
  rintro i _ w ⟨rfl, hi, H⟩
  refine W.seq (fun K4 hK4 => ?_)
  refine W.seq (fun K5 hK5 => ?_)
  refine W.region ?_
  refine O.ex (Ex.move rfl) rfl ?_
  refine O.ex (Ex.move rfl) rfl ?_
  refine O.ex (Ex.lss rfl rfl) rfl ?_
  refine O.nil ?_
  refine hK5 _ _ _ ?_
  first | refine W.cond_p rfl (fun hlt => ?_) (fun hge => ?_) | refine W.cond_b rfl (fun hlt => ?_) (fun hge => ?_)
  · refine W.skip ?_
    refine hK4 _ _ _ ?_
    refine W.seq (fun K6 hK6 => ?_)
    refine W.block ?_
    refine W.region ?_
    refine O.ex (Ex.move rfl) rfl ?_
    refine O.ex (Ex.mul (r := ((2 ^ (i + 1) : Nat) : Int)) rfl rfl (by
      rw [wrap64, Nat.pow_succ]
      have h5 : 2 ^ i ≤ 2 ^ 24 := Nat.pow_le_pow_right (by decide) (by omega)
      generalize 2 ^ i = y at *
      omega)) rfl ?_
    refine O.ex (Ex.assign rfl) rfl ?_
    refine O.nil ?_
    refine hK6 _ _ _ ?_
    refine W.region ?_
    refine O.ex (Ex.move rfl) rfl ?_
    refine O.ex (by first | exact Ex.addI rfl rfl | exact Ex.add rfl rfl rfl) rfl ?_
    refine O.ex (Ex.assign rfl) rfl ?_
    refine O.nil ?_
    exact ⟨i + 1, ⟨rfl, rfl, rfl, rfl, rfl, rfl, rfl, trivial⟩, ⟨rfl, by omega, Holds.to (by assumption)⟩, by omega⟩
  · refine W.exit ?_
    refine hK2 _ _ _ ?_
    refine W.seq (fun K7 hK7 => ?_)
    refine W.region ?_
    have hiv : i = v.toNat := by omega
    have hb : bitN v = 2 ^ i := by unfold bitN; rw [if_pos (by omega), hiv]
    rw [← hb]
    refine O.ex (Ex.move rfl) rfl ?_
    refine O.ex (Ex.move rfl) rfl ?_
    refine O.ex (Ex.move rfl) rfl ?_
    refine O.ex (Ex.move rfl) rfl ?_
    refine O.ex (Ex.move rfl) rfl ?_
    refine O.ex (Ex.move rfl) rfl ?_
    refine O.callF Try.call54 rfl rfl (CT.mono (refAt_ct hg (Holds.to (by assumption))) ?_)
    rintro _ w ⟨rfl, H⟩
    refine O.ex (Ex.move rfl) rfl ?_
    refine O.ex (Ex.move rfl) rfl ?_
    refine O.ex (Ex.move rfl) rfl ?_
    refine O.callF Try.call54 rfl rfl (CT.mono (refAt_ct hg (Holds.to (by assumption))) ?_)
    rintro _ w ⟨rfl, H⟩
    refine O.callF Try.call52 rfl rfl (CT.mono (refTwo_ct (Holds.to (by assumption)) (hg.dst _ _) (hg.dst _ _)) ?_)
    rintro _ w ⟨rfl, H⟩
    refine O.ex (Ex.move rfl) rfl ?_
    refine O.callF Try.call36 rfl rfl (CT.mono (refSearch_ct hg (bitN_lt _) hu0 hu1 (Holds.to (by assumption))) ?_)
    rintro _ w ⟨j, sv, dv, tv, hto, hst, rfl, ⟨hs1, hd1, ht1⟩, H⟩
    have hl1 : ((st n.toNat c u.toNat (bitN v) j).map Prod.fst).length ≤ 1000 := by
      rw [List.length_map]; have := st_len (s0 := u.toNat) (wo := bitN v) hg j; omega
    refine O.ex (Ex.fieldV (v := sv) rfl (by simp [Instr.field, Try.runUnderlying67, part, asAgg, Try.isAgg51, Try.sizeOf51])) rfl ?_
    refine O.ex (Ex.move rfl) rfl ?_
    refine O.callF Try.call62 rfl rfl (CT.mono (hasL_ct hl1 (Holds.to (by assumption))) ?_)
    rintro _ w ⟨rfl, H⟩
    refine O.ex (Ex.assign rfl) rfl ?_
    refine O.nil ?_
    refine hK7 _ _ _ ?_
    refine W.ret ?_
    try dsimp only [thenQ, blockQ, retQ]
    first | refine ⟨_, ⟨_, _, rfl, rfl, rfl⟩, ?_⟩ | (refine retD_mark ?_; intro w H; refine ⟨_, ⟨_, _, rfl, rfl, rfl⟩, ?_⟩) | (refine retD_mark2 ?_; intro w H; refine ⟨_, ⟨_, _, rfl, rfl, rfl⟩, ?_⟩)
    exact ⟨j, hto, hst, rfl, Holds.to (by assumption)⟩
end Go.Proofs.Ytblapiiinbppiaa
