/- Several texts as one: Wit4 Wit5 Wit6. -/
import Derived.Test.YtblapiiinbppiaaGreatDoorWitA
import Derived.Test.YtblapiiinbppiaaGreatDoorRrBase
namespace Go.Proofs.YtblapiiinbppiaaGreatDoor
open Go.Rr Go Hp Wt
set_option linter.unusedVariables false
end Go.Proofs.YtblapiiinbppiaaGreatDoor
namespace Go.Proofs.YtblapiiinbppiaaGreatDoor
open Go.Rr Go Hp Wt
set_option linter.unusedVariables false
def three (n u v w : Int) : Prop := ((0 ≤ u ∧ u < n) ∧ (0 ≤ v ∧ v < n) ∧ (0 ≤ w ∧ w < n)) ∧ u ≠ v ∧ v ≠ w ∧ w ≠ u
instance (n u v w : Int) : Decidable (three n u v w) := by unfold three; infer_instance
theorem orL_one (v : Int) : orL [v] = bitN v := by simp [orL]
theorem inS_bitN {v x : Int} (hx0 : 0 ≤ x) (hx1 : x < 64) : inS (bitN v) x = decide (x = v) := by
  unfold inS
  rw [decide_eq_true ⟨hx0, hx1⟩, Bool.true_and, bitN_bit v _ (by omega), Int.toNat_of_nonneg hx0]
theorem inS_orL {xs : List Int} {x : Int} (hx0 : 0 ≤ x) (hx1 : x < 64) : inS (orL xs) x = decide (x ∈ xs) := by
  unfold inS
  rw [decide_eq_true ⟨hx0, hx1⟩, Bool.true_and, orL_bit xs _ (by omega), Int.toNat_of_nonneg hx0]
set_option maxHeartbeats 2000000 in
theorem spared_ct {w : World} {m : Nat} {n u v x settles : Int} {c : Int → Int → Int} {L : List HProp} (hg : Good n c) (H : Holds w (Mh m n c :: L)) :
    CT Tryz.prog 42 [.pointer (some ⟨m, 0, none⟩), .int .i64 u, .int .i64 v, .int .i64 x, .int .i64 settles] w fun y w' =>
      (¬ three n u v x ∧ y = .tuple #[.bool false, .int .i64 1] ∧ Holds w' (Mh m n c :: L)) ∨
      (three n u v x ∧ ∃ j, to n.toNat c u.toNat (bitN v) settles (two (c u v) (c v x)) j ∧ stopP n.toNat c u.toNat (bitN v) settles (two (c u v) (c v x)) j ∧ y = .tuple #[.bool (decide (x ∈ (st n.toNat c u.toNat (bitN v) j).map Prod.fst)), .int .i64 0] ∧ Holds w' (Mh m n c :: L)) := by
  have n1 := hg.n1
  have n2 := hg.n2
  refine CT.enter (N := 73) Tryz.func42 rfl rfl rfl rfl ?_
  refine W.seq (fun K0 hK0 => ?_)
  refine W.region ?_
  refine O.ex (Ex.assign rfl) rfl ?_
  refine O.ex (Ex.assign rfl) rfl ?_
  refine O.nil ?_
  refine hK0 _ _ _ ?_
  refine W.seq (fun K1 hK1 => ?_)
  refine W.seq (fun K2 hK2 => ?_)
  refine W.region ?_
  refine O.ex (Ex.move rfl) rfl ?_
  refine O.ex (Ex.lss rfl rfl) rfl ?_
  refine O.ex (Ex.move rfl) rfl ?_
  first | refine O.split_p (t := 16) rfl (fun h0 => ?_) (fun h0 => ?_) | refine O.split (t := 16) rfl (fun h0 => ?_) (fun h0 => ?_)
  · refine O.guard_f rfl rfl rfl rfl ?_
    refine O.guard_f rfl rfl rfl rfl ?_
    refine O.guard_f rfl rfl rfl rfl ?_
    refine O.guard_f rfl rfl rfl rfl ?_
    refine O.ex (Ex.pick_t rfl rfl) rfl ?_
    refine O.ex (Ex.move rfl) rfl ?_
    refine O.guard_f rfl rfl rfl rfl ?_
    refine O.guard_f rfl rfl rfl rfl ?_
    refine O.ex (Ex.pick_t rfl rfl) rfl ?_
    refine O.ex (Ex.move rfl) rfl ?_
    refine O.guard_f rfl rfl rfl rfl ?_
    refine O.guard_f rfl rfl rfl rfl ?_
    refine O.guard_f rfl rfl rfl rfl ?_
    refine O.guard_f rfl rfl rfl rfl ?_
    refine O.ex (Ex.pick_t rfl rfl) rfl ?_
    refine O.ex (Ex.move rfl) rfl ?_
    refine O.guard_f rfl rfl rfl rfl ?_
    refine O.guard_f rfl rfl rfl rfl ?_
    refine O.guard_f rfl rfl rfl rfl ?_
    refine O.ex (Ex.pick_t rfl rfl) rfl ?_
    refine O.ex (Ex.move rfl) rfl ?_
    refine O.guard_f rfl rfl rfl rfl ?_
    refine O.guard_f rfl rfl rfl rfl ?_
    refine O.guard_f rfl rfl rfl rfl ?_
    refine O.ex (Ex.pick_t rfl rfl) rfl ?_
    refine O.ex (Ex.move rfl) rfl ?_
    refine O.guard_f rfl rfl rfl rfl ?_
    refine O.guard_f rfl rfl rfl rfl ?_
    refine O.guard_f rfl rfl rfl rfl ?_
    refine O.ex (Ex.pick_t rfl rfl) rfl ?_
    refine O.nil ?_
    refine hK2 _ _ _ ?_
    refine W.cond_t rfl ?_
    refine W.seq (fun K3 hK3 => ?_)
    refine W.region ?_
    refine O.ex (Ex.assign rfl) rfl ?_
    refine O.ex (Ex.assign rfl) rfl ?_
    refine O.nil ?_
    refine hK3 _ _ _ ?_
    refine W.ret ?_
    try dsimp only [thenQ, blockQ, retQ]
    first | refine ⟨_, ⟨_, _, rfl, rfl, _, _, rfl, rfl, rfl⟩, ?_⟩ | (refine retD_mark ?_; intro w H; refine ⟨_, ⟨_, _, rfl, rfl, _, _, rfl, rfl, rfl⟩, ?_⟩) | (refine retD_mark2 ?_; intro w H; refine ⟨_, ⟨_, _, rfl, rfl, _, _, rfl, rfl, rfl⟩, ?_⟩)
    first
    | (have hth : ¬ three n u v x := fun hh => by unfold three at hh; omega
       exact .inl ⟨hth, rfl, Holds.to (by assumption)⟩)
    | (have hth : ¬ three n u v x := fun hh => by
         obtain ⟨⟨h7, h8, h9⟩, h10, h11, h12⟩ := hh
         exact hno ⟨h7, by rw [orL_one, inS_bitN (by omega) (by omega)]; exact decide_eq_false h10⟩
       rw [inS_orL (by omega) (by omega)]
       exact .inl ⟨hth, rfl, Holds.to (by assumption)⟩)
    | (have hth : three n u v x := ⟨⟨hyes.1, by omega, by omega⟩, by omega, by omega, by omega⟩
       rw [inS_orL (by omega) (by omega)]
       rw [orL_one] at hto hst ⊢
       exact .inr ⟨hth, j, hto, hst, rfl, Holds.to (by assumption)⟩)
  · refine O.guard_t rfl rfl ?_
    refine O.ex (Ex.move rfl) rfl ?_
    refine O.guard_t rfl rfl ?_
    refine O.ex (Ex.move rfl) rfl ?_
    refine O.guard_t rfl rfl ?_
    refine O.callF Tryz.call22 rfl rfl (CT.mono (vertices_ct (Holds.to (by assumption))) ?_)
    rintro _ w ⟨rfl, H⟩
    refine O.guard_t rfl rfl ?_
    refine O.ex (Ex.geq rfl rfl) rfl ?_
    refine O.ex (Ex.pick_f rfl rfl) rfl ?_
    refine O.ex (Ex.move rfl) rfl ?_
    first | refine O.split_p (t := 22) rfl (fun h1 => ?_) (fun h1 => ?_) | refine O.split (t := 22) rfl (fun h1 => ?_) (fun h1 => ?_)
    · refine O.guard_f rfl rfl rfl rfl ?_
      refine O.guard_f rfl rfl rfl rfl ?_
      refine O.ex (Ex.pick_t rfl rfl) rfl ?_
      refine O.ex (Ex.move rfl) rfl ?_
      refine O.guard_f rfl rfl rfl rfl ?_
      refine O.guard_f rfl rfl rfl rfl ?_
      refine O.guard_f rfl rfl rfl rfl ?_
      refine O.guard_f rfl rfl rfl rfl ?_
      refine O.ex (Ex.pick_t rfl rfl) rfl ?_
      refine O.ex (Ex.move rfl) rfl ?_
      refine O.guard_f rfl rfl rfl rfl ?_
      refine O.guard_f rfl rfl rfl rfl ?_
      refine O.guard_f rfl rfl rfl rfl ?_
      refine O.ex (Ex.pick_t rfl rfl) rfl ?_
      refine O.ex (Ex.move rfl) rfl ?_
      refine O.guard_f rfl rfl rfl rfl ?_
      refine O.guard_f rfl rfl rfl rfl ?_
      refine O.guard_f rfl rfl rfl rfl ?_
      refine O.ex (Ex.pick_t rfl rfl) rfl ?_
      refine O.ex (Ex.move rfl) rfl ?_
      refine O.guard_f rfl rfl rfl rfl ?_
      refine O.guard_f rfl rfl rfl rfl ?_
      refine O.guard_f rfl rfl rfl rfl ?_
      refine O.ex (Ex.pick_t rfl rfl) rfl ?_
      refine O.nil ?_
      refine hK2 _ _ _ ?_
      refine W.cond_t rfl ?_
      refine W.seq (fun K4 hK4 => ?_)
      refine W.region ?_
      refine O.ex (Ex.assign rfl) rfl ?_
      refine O.ex (Ex.assign rfl) rfl ?_
      refine O.nil ?_
      refine hK4 _ _ _ ?_
      refine W.ret ?_
      try dsimp only [thenQ, blockQ, retQ]
      first | refine ⟨_, ⟨_, _, rfl, rfl, _, _, rfl, rfl, rfl⟩, ?_⟩ | (refine retD_mark ?_; intro w H; refine ⟨_, ⟨_, _, rfl, rfl, _, _, rfl, rfl, rfl⟩, ?_⟩) | (refine retD_mark2 ?_; intro w H; refine ⟨_, ⟨_, _, rfl, rfl, _, _, rfl, rfl, rfl⟩, ?_⟩)
      first
      | (have hth : ¬ three n u v x := fun hh => by unfold three at hh; omega
         exact .inl ⟨hth, rfl, Holds.to (by assumption)⟩)
      | (have hth : ¬ three n u v x := fun hh => by
           obtain ⟨⟨h7, h8, h9⟩, h10, h11, h12⟩ := hh
           exact hno ⟨h7, by rw [orL_one, inS_bitN (by omega) (by omega)]; exact decide_eq_false h10⟩
         rw [inS_orL (by omega) (by omega)]
         exact .inl ⟨hth, rfl, Holds.to (by assumption)⟩)
      | (have hth : three n u v x := ⟨⟨hyes.1, by omega, by omega⟩, by omega, by omega, by omega⟩
         rw [inS_orL (by omega) (by omega)]
         rw [orL_one] at hto hst ⊢
         exact .inr ⟨hth, j, hto, hst, rfl, Holds.to (by assumption)⟩)
    · refine O.guard_t rfl rfl ?_
      refine O.ex (Ex.move rfl) rfl ?_
      refine O.guard_t rfl rfl ?_
      refine O.ex (Ex.lss rfl rfl) rfl ?_
      refine O.ex (Ex.pick_f rfl rfl) rfl ?_
      refine O.ex (Ex.move rfl) rfl ?_
      first | refine O.split_p (t := 26) rfl (fun h2 => ?_) (fun h2 => ?_) | refine O.split (t := 26) rfl (fun h2 => ?_) (fun h2 => ?_)
      · refine O.guard_f rfl rfl rfl rfl ?_
        refine O.guard_f rfl rfl rfl rfl ?_
        refine O.guard_f rfl rfl rfl rfl ?_
        refine O.guard_f rfl rfl rfl rfl ?_
        refine O.ex (Ex.pick_t rfl rfl) rfl ?_
        refine O.ex (Ex.move rfl) rfl ?_
        refine O.guard_f rfl rfl rfl rfl ?_
        refine O.guard_f rfl rfl rfl rfl ?_
        refine O.guard_f rfl rfl rfl rfl ?_
        refine O.ex (Ex.pick_t rfl rfl) rfl ?_
        refine O.ex (Ex.move rfl) rfl ?_
        refine O.guard_f rfl rfl rfl rfl ?_
        refine O.guard_f rfl rfl rfl rfl ?_
        refine O.guard_f rfl rfl rfl rfl ?_
        refine O.ex (Ex.pick_t rfl rfl) rfl ?_
        refine O.ex (Ex.move rfl) rfl ?_
        refine O.guard_f rfl rfl rfl rfl ?_
        refine O.guard_f rfl rfl rfl rfl ?_
        refine O.guard_f rfl rfl rfl rfl ?_
        refine O.ex (Ex.pick_t rfl rfl) rfl ?_
        refine O.nil ?_
        refine hK2 _ _ _ ?_
        refine W.cond_t rfl ?_
        refine W.seq (fun K5 hK5 => ?_)
        refine W.region ?_
        refine O.ex (Ex.assign rfl) rfl ?_
        refine O.ex (Ex.assign rfl) rfl ?_
        refine O.nil ?_
        refine hK5 _ _ _ ?_
        refine W.ret ?_
        try dsimp only [thenQ, blockQ, retQ]
        first | refine ⟨_, ⟨_, _, rfl, rfl, _, _, rfl, rfl, rfl⟩, ?_⟩ | (refine retD_mark ?_; intro w H; refine ⟨_, ⟨_, _, rfl, rfl, _, _, rfl, rfl, rfl⟩, ?_⟩) | (refine retD_mark2 ?_; intro w H; refine ⟨_, ⟨_, _, rfl, rfl, _, _, rfl, rfl, rfl⟩, ?_⟩)
        first
        | (have hth : ¬ three n u v x := fun hh => by unfold three at hh; omega
           exact .inl ⟨hth, rfl, Holds.to (by assumption)⟩)
        | (have hth : ¬ three n u v x := fun hh => by
             obtain ⟨⟨h7, h8, h9⟩, h10, h11, h12⟩ := hh
             exact hno ⟨h7, by rw [orL_one, inS_bitN (by omega) (by omega)]; exact decide_eq_false h10⟩
           rw [inS_orL (by omega) (by omega)]
           exact .inl ⟨hth, rfl, Holds.to (by assumption)⟩)
        | (have hth : three n u v x := ⟨⟨hyes.1, by omega, by omega⟩, by omega, by omega, by omega⟩
           rw [inS_orL (by omega) (by omega)]
           rw [orL_one] at hto hst ⊢
           exact .inr ⟨hth, j, hto, hst, rfl, Holds.to (by assumption)⟩)
      · refine O.guard_t rfl rfl ?_
        refine O.ex (Ex.move rfl) rfl ?_
        refine O.guard_t rfl rfl ?_
        refine O.ex (Ex.move rfl) rfl ?_
        refine O.guard_t rfl rfl ?_
        refine O.callF Tryz.call22 rfl rfl (CT.mono (vertices_ct (Holds.to (by assumption))) ?_)
        rintro _ w ⟨rfl, H⟩
        refine O.guard_t rfl rfl ?_
        refine O.ex (Ex.geq rfl rfl) rfl ?_
        refine O.ex (Ex.pick_f rfl rfl) rfl ?_
        refine O.ex (Ex.move rfl) rfl ?_
        first | refine O.split_p (t := 32) rfl (fun h3 => ?_) (fun h3 => ?_) | refine O.split (t := 32) rfl (fun h3 => ?_) (fun h3 => ?_)
        · refine O.guard_f rfl rfl rfl rfl ?_
          refine O.guard_f rfl rfl rfl rfl ?_
          refine O.guard_f rfl rfl rfl rfl ?_
          refine O.ex (Ex.pick_t rfl rfl) rfl ?_
          refine O.ex (Ex.move rfl) rfl ?_
          refine O.guard_f rfl rfl rfl rfl ?_
          refine O.guard_f rfl rfl rfl rfl ?_
          refine O.guard_f rfl rfl rfl rfl ?_
          refine O.ex (Ex.pick_t rfl rfl) rfl ?_
          refine O.ex (Ex.move rfl) rfl ?_
          refine O.guard_f rfl rfl rfl rfl ?_
          refine O.guard_f rfl rfl rfl rfl ?_
          refine O.guard_f rfl rfl rfl rfl ?_
          refine O.ex (Ex.pick_t rfl rfl) rfl ?_
          refine O.nil ?_
          refine hK2 _ _ _ ?_
          refine W.cond_t rfl ?_
          refine W.seq (fun K6 hK6 => ?_)
          refine W.region ?_
          refine O.ex (Ex.assign rfl) rfl ?_
          refine O.ex (Ex.assign rfl) rfl ?_
          refine O.nil ?_
          refine hK6 _ _ _ ?_
          refine W.ret ?_
          try dsimp only [thenQ, blockQ, retQ]
          first | refine ⟨_, ⟨_, _, rfl, rfl, _, _, rfl, rfl, rfl⟩, ?_⟩ | (refine retD_mark ?_; intro w H; refine ⟨_, ⟨_, _, rfl, rfl, _, _, rfl, rfl, rfl⟩, ?_⟩) | (refine retD_mark2 ?_; intro w H; refine ⟨_, ⟨_, _, rfl, rfl, _, _, rfl, rfl, rfl⟩, ?_⟩)
          first
          | (have hth : ¬ three n u v x := fun hh => by unfold three at hh; omega
             exact .inl ⟨hth, rfl, Holds.to (by assumption)⟩)
          | (have hth : ¬ three n u v x := fun hh => by
               obtain ⟨⟨h7, h8, h9⟩, h10, h11, h12⟩ := hh
               exact hno ⟨h7, by rw [orL_one, inS_bitN (by omega) (by omega)]; exact decide_eq_false h10⟩
             rw [inS_orL (by omega) (by omega)]
             exact .inl ⟨hth, rfl, Holds.to (by assumption)⟩)
          | (have hth : three n u v x := ⟨⟨hyes.1, by omega, by omega⟩, by omega, by omega, by omega⟩
             rw [inS_orL (by omega) (by omega)]
             rw [orL_one] at hto hst ⊢
             exact .inr ⟨hth, j, hto, hst, rfl, Holds.to (by assumption)⟩)
        · refine O.guard_t rfl rfl ?_
          refine O.ex (Ex.move rfl) rfl ?_
          refine O.guard_t rfl rfl ?_
          refine O.ex (Ex.move rfl) rfl ?_
          refine O.guard_t rfl rfl ?_
          refine O.ex (Ex.eqlI rfl rfl) rfl ?_
          refine O.ex (Ex.pick_f rfl rfl) rfl ?_
          refine O.ex (Ex.move rfl) rfl ?_
          first | refine O.split_p (t := 37) rfl (fun h4 => ?_) (fun h4 => ?_) | refine O.split (t := 37) rfl (fun h4 => ?_) (fun h4 => ?_)
          · refine O.guard_f rfl rfl rfl rfl ?_
            refine O.guard_f rfl rfl rfl rfl ?_
            refine O.guard_f rfl rfl rfl rfl ?_
            refine O.ex (Ex.pick_t rfl rfl) rfl ?_
            refine O.ex (Ex.move rfl) rfl ?_
            refine O.guard_f rfl rfl rfl rfl ?_
            refine O.guard_f rfl rfl rfl rfl ?_
            refine O.guard_f rfl rfl rfl rfl ?_
            refine O.ex (Ex.pick_t rfl rfl) rfl ?_
            refine O.nil ?_
            refine hK2 _ _ _ ?_
            refine W.cond_t rfl ?_
            refine W.seq (fun K7 hK7 => ?_)
            refine W.region ?_
            refine O.ex (Ex.assign rfl) rfl ?_
            refine O.ex (Ex.assign rfl) rfl ?_
            refine O.nil ?_
            refine hK7 _ _ _ ?_
            refine W.ret ?_
            try dsimp only [thenQ, blockQ, retQ]
            first | refine ⟨_, ⟨_, _, rfl, rfl, _, _, rfl, rfl, rfl⟩, ?_⟩ | (refine retD_mark ?_; intro w H; refine ⟨_, ⟨_, _, rfl, rfl, _, _, rfl, rfl, rfl⟩, ?_⟩) | (refine retD_mark2 ?_; intro w H; refine ⟨_, ⟨_, _, rfl, rfl, _, _, rfl, rfl, rfl⟩, ?_⟩)
            first
            | (have hth : ¬ three n u v x := fun hh => by unfold three at hh; omega
               exact .inl ⟨hth, rfl, Holds.to (by assumption)⟩)
            | (have hth : ¬ three n u v x := fun hh => by
                 obtain ⟨⟨h7, h8, h9⟩, h10, h11, h12⟩ := hh
                 exact hno ⟨h7, by rw [orL_one, inS_bitN (by omega) (by omega)]; exact decide_eq_false h10⟩
               rw [inS_orL (by omega) (by omega)]
               exact .inl ⟨hth, rfl, Holds.to (by assumption)⟩)
            | (have hth : three n u v x := ⟨⟨hyes.1, by omega, by omega⟩, by omega, by omega, by omega⟩
               rw [inS_orL (by omega) (by omega)]
               rw [orL_one] at hto hst ⊢
               exact .inr ⟨hth, j, hto, hst, rfl, Holds.to (by assumption)⟩)
          · refine O.guard_t rfl rfl ?_
            refine O.ex (Ex.move rfl) rfl ?_
            refine O.guard_t rfl rfl ?_
            refine O.ex (Ex.move rfl) rfl ?_
            refine O.guard_t rfl rfl ?_
            refine O.ex (Ex.eqlI rfl rfl) rfl ?_
            refine O.ex (Ex.pick_f rfl rfl) rfl ?_
            refine O.ex (Ex.move rfl) rfl ?_
            first | refine O.split_p (t := 42) rfl (fun h5 => ?_) (fun h5 => ?_) | refine O.split (t := 42) rfl (fun h5 => ?_) (fun h5 => ?_)
            · refine O.guard_f rfl rfl rfl rfl ?_
              refine O.guard_f rfl rfl rfl rfl ?_
              refine O.guard_f rfl rfl rfl rfl ?_
              refine O.ex (Ex.pick_t rfl rfl) rfl ?_
              refine O.nil ?_
              refine hK2 _ _ _ ?_
              refine W.cond_t rfl ?_
              refine W.seq (fun K8 hK8 => ?_)
              refine W.region ?_
              refine O.ex (Ex.assign rfl) rfl ?_
              refine O.ex (Ex.assign rfl) rfl ?_
              refine O.nil ?_
              refine hK8 _ _ _ ?_
              refine W.ret ?_
              try dsimp only [thenQ, blockQ, retQ]
              first | refine ⟨_, ⟨_, _, rfl, rfl, _, _, rfl, rfl, rfl⟩, ?_⟩ | (refine retD_mark ?_; intro w H; refine ⟨_, ⟨_, _, rfl, rfl, _, _, rfl, rfl, rfl⟩, ?_⟩) | (refine retD_mark2 ?_; intro w H; refine ⟨_, ⟨_, _, rfl, rfl, _, _, rfl, rfl, rfl⟩, ?_⟩)
              first
              | (have hth : ¬ three n u v x := fun hh => by unfold three at hh; omega
                 exact .inl ⟨hth, rfl, Holds.to (by assumption)⟩)
              | (have hth : ¬ three n u v x := fun hh => by
                   obtain ⟨⟨h7, h8, h9⟩, h10, h11, h12⟩ := hh
                   exact hno ⟨h7, by rw [orL_one, inS_bitN (by omega) (by omega)]; exact decide_eq_false h10⟩
                 rw [inS_orL (by omega) (by omega)]
                 exact .inl ⟨hth, rfl, Holds.to (by assumption)⟩)
              | (have hth : three n u v x := ⟨⟨hyes.1, by omega, by omega⟩, by omega, by omega, by omega⟩
                 rw [inS_orL (by omega) (by omega)]
                 rw [orL_one] at hto hst ⊢
                 exact .inr ⟨hth, j, hto, hst, rfl, Holds.to (by assumption)⟩)
            · refine O.guard_t rfl rfl ?_
              refine O.ex (Ex.move rfl) rfl ?_
              refine O.guard_t rfl rfl ?_
              refine O.ex (Ex.move rfl) rfl ?_
              refine O.guard_t rfl rfl ?_
              refine O.ex (Ex.eqlI rfl rfl) rfl ?_
              refine O.ex (Ex.pick_f rfl rfl) rfl ?_
              refine O.nil ?_
              refine hK2 _ _ _ ?_
              first | refine W.cond_p rfl (fun h6 => ?_) (fun h6 => ?_) | refine W.cond_b rfl (fun h6 => ?_) (fun h6 => ?_)
              · refine W.seq (fun K9 hK9 => ?_)
                refine W.region ?_
                refine O.ex (Ex.assign rfl) rfl ?_
                refine O.ex (Ex.assign rfl) rfl ?_
                refine O.nil ?_
                refine hK9 _ _ _ ?_
                refine W.ret ?_
                try dsimp only [thenQ, blockQ, retQ]
                first | refine ⟨_, ⟨_, _, rfl, rfl, _, _, rfl, rfl, rfl⟩, ?_⟩ | (refine retD_mark ?_; intro w H; refine ⟨_, ⟨_, _, rfl, rfl, _, _, rfl, rfl, rfl⟩, ?_⟩) | (refine retD_mark2 ?_; intro w H; refine ⟨_, ⟨_, _, rfl, rfl, _, _, rfl, rfl, rfl⟩, ?_⟩)
                first
                | (have hth : ¬ three n u v x := fun hh => by unfold three at hh; omega
                   exact .inl ⟨hth, rfl, Holds.to (by assumption)⟩)
                | (have hth : ¬ three n u v x := fun hh => by
                     obtain ⟨⟨h7, h8, h9⟩, h10, h11, h12⟩ := hh
                     exact hno ⟨h7, by rw [orL_one, inS_bitN (by omega) (by omega)]; exact decide_eq_false h10⟩
                   rw [inS_orL (by omega) (by omega)]
                   exact .inl ⟨hth, rfl, Holds.to (by assumption)⟩)
                | (have hth : three n u v x := ⟨⟨hyes.1, by omega, by omega⟩, by omega, by omega, by omega⟩
                   rw [inS_orL (by omega) (by omega)]
                   rw [orL_one] at hto hst ⊢
                   exact .inr ⟨hth, j, hto, hst, rfl, Holds.to (by assumption)⟩)
              · refine W.skip ?_
                refine hK1 _ _ _ ?_
                refine W.seq (fun K10 hK10 => ?_)
                refine W.region ?_
                refine O.ex (Ex.move rfl) rfl ?_
                refine O.ex (Ex.move rfl) rfl ?_
                refine O.ex (Ex.move rfl) rfl ?_
                refine O.build1 (e := Value.int .i64) Tryz.runUnderlying28 Tryz.sizeOf3 Tryz.zeroValue3 rfl (fun v51 w hv51 H => ?_)
                refine O.callF Tryz.call69 rfl rfl (CT.mono (ofA_ct (xs := [v]) (Holds.to (by assumption)) (by simp)) ?_)
                rintro _ w ⟨rfl, H⟩
                refine O.ex (Ex.move rfl) rfl ?_
                refine O.ex (Ex.move rfl) rfl ?_
                refine O.ex (Ex.move rfl) rfl ?_
                refine O.callF Tryz.call59 rfl rfl (CT.mono (at_ct hg (Holds.to (by assumption))) ?_)
                rintro _ w ⟨rfl, H⟩
                refine O.ex (Ex.move rfl) rfl ?_
                refine O.ex (Ex.move rfl) rfl ?_
                refine O.ex (Ex.move rfl) rfl ?_
                refine O.callF Tryz.call59 rfl rfl (CT.mono (at_ct hg (Holds.to (by assumption))) ?_)
                rintro _ w ⟨rfl, H⟩
                refine O.buildK (e := Value.int .i64) (vs := [(0, .int .i64 (c u v)), (1, .int .i64 (c v x))]) [c u v, c v x] Tryz.runUnderlying28 Tryz.sizeOf3 Tryz.zeroValue3 rfl rfl rfl rfl rfl rfl (fun v61 w hv61 H => ?_)
                refine O.callF Tryz.call67 rfl rfl (CT.mono (add_ct (Holds.to (by assumption)) (hg.dst _ _) (hg.dst _ _)) ?_)
                rintro _ w ⟨rfl, H⟩
                refine O.ex (Ex.move rfl) rfl ?_
                refine O.callF Tryz.call68 rfl rfl (CT.mono (wfind_ct hg (orL_lt _) (Holds.to (by assumption))) ?_)
                rintro _ w hh
                rcases hh with ⟨hno, rfl, H⟩ | ⟨hyes, j, T, sv, dv, hto, hst, hT, rfl, hs1, hd1, H⟩
                · refine O.ex (Ex.move rfl) rfl ?_
                  refine O.ex (Ex.extract rfl rfl) rfl ?_
                  refine O.ex (Ex.extract rfl rfl) rfl ?_
                  refine O.allocP Tryz.zeroValue119 (fun b12 w H => ?_)
                  first | refine O.storeAggP Tryz.sizeOf119 rfl rfl rfl rfl (fun w H => ?_) | refine O.storeAggP Tryz.sizeOf119 rfl rfl rfl (all3 hs1 hd1 rfl) (fun w H => ?_)
                  refine O.ex (Ex.assign rfl) rfl ?_
                  refine O.nil ?_
                  refine hK10 _ _ _ ?_
                  refine W.seq (fun K11 hK11 => ?_)
                  refine W.region ?_
                  have H := arr_nil (T := 3) (e := Value.int .i64) H
                  refine O.ex (by first | exact Ex.field0 fld119_0 rfl | exact Ex.field fld119_0 rfl | exact Ex.fieldS fld119_0 rfl) rfl ?_
                  refine O.ex (by first | exact Ex.loadMh Tryz.isAgg28 rfl | exact Ex.loadP Tryz.isAgg28 rfl | exact Ex.loadM Tryz.isAgg28 rfl | exact Ex.loadIn1 Tryz.isAgg28 rfl (Holds.to (by assumption)) | exact Ex.loadVc Tryz.isAgg28 rfl | exact Ex.loadR Tryz.isAgg28 rfl | exact Ex.loadQ Tryz.isAgg28 rfl) rfl ?_
                  refine O.callF Tryz.call69 rfl rfl (CT.mono (ofA_ct (xs := []) (Holds.to (by assumption)) (by simp)) ?_)
                  rintro _ w ⟨rfl, H⟩
                  refine O.ex (Ex.move rfl) rfl ?_
                  refine O.callF Tryz.call70 rfl rfl (CT.mono (has_ct (Holds.to (by assumption)) (orL_lt _)) ?_)
                  rintro _ w ⟨rfl, H⟩
                  refine O.ex (Ex.move rfl) rfl ?_
                  refine O.ex (Ex.assign rfl) rfl ?_
                  refine O.ex (Ex.assign rfl) rfl ?_
                  refine O.nil ?_
                  refine hK11 _ _ _ ?_
                  refine W.ret ?_
                  try dsimp only [thenQ, blockQ, retQ]
                  first | refine ⟨_, ⟨_, _, rfl, rfl, _, _, rfl, rfl, rfl⟩, ?_⟩ | (refine retD_mark ?_; intro w H; refine ⟨_, ⟨_, _, rfl, rfl, _, _, rfl, rfl, rfl⟩, ?_⟩) | (refine retD_mark2 ?_; intro w H; refine ⟨_, ⟨_, _, rfl, rfl, _, _, rfl, rfl, rfl⟩, ?_⟩)
                  first
                  | (have hth : ¬ three n u v x := fun hh => by unfold three at hh; omega
                     exact .inl ⟨hth, rfl, Holds.to (by assumption)⟩)
                  | (have hth : ¬ three n u v x := fun hh => by
                       obtain ⟨⟨h7, h8, h9⟩, h10, h11, h12⟩ := hh
                       exact hno ⟨h7, by rw [orL_one, inS_bitN (by omega) (by omega)]; exact decide_eq_false h10⟩
                     rw [inS_orL (by omega) (by omega)]
                     exact .inl ⟨hth, rfl, Holds.to (by assumption)⟩)
                  | (have hth : three n u v x := ⟨⟨hyes.1, by omega, by omega⟩, by omega, by omega, by omega⟩
                     rw [inS_orL (by omega) (by omega)]
                     rw [orL_one] at hto hst ⊢
                     exact .inr ⟨hth, j, hto, hst, rfl, Holds.to (by assumption)⟩)
                · refine O.ex (Ex.move rfl) rfl ?_
                  refine O.ex (Ex.extract rfl rfl) rfl ?_
                  refine O.ex (Ex.extract rfl rfl) rfl ?_
                  refine O.allocP Tryz.zeroValue119 (fun b12 w H => ?_)
                  first | refine O.storeAggP Tryz.sizeOf119 rfl rfl rfl rfl (fun w H => ?_) | refine O.storeAggP Tryz.sizeOf119 rfl rfl rfl (all3 hs1 hd1 rfl) (fun w H => ?_)
                  refine O.ex (Ex.assign rfl) rfl ?_
                  refine O.nil ?_
                  refine hK10 _ _ _ ?_
                  refine W.seq (fun K12 hK12 => ?_)
                  refine W.region ?_
                  have hl1 : ((st n.toNat c u.toNat (orL [v]) j).map Prod.fst).length ≤ 9223372036854775807 := by
                    rw [List.length_map]; have := st_len (s0 := u.toNat) (wo := orL [v]) hg j; omega
                  refine O.ex (by first | exact Ex.field0 fld119_0 rfl | exact Ex.field fld119_0 rfl | exact Ex.fieldS fld119_0 rfl) rfl ?_
                  refine O.ex (by first | exact Ex.loadMh Tryz.isAgg28 rfl | exact Ex.loadP Tryz.isAgg28 rfl | exact Ex.loadM Tryz.isAgg28 rfl | exact Ex.loadIn1 Tryz.isAgg28 rfl (Holds.to (by assumption)) | exact Ex.loadVc Tryz.isAgg28 rfl | exact Ex.loadR Tryz.isAgg28 rfl | exact Ex.loadQ Tryz.isAgg28 rfl) rfl ?_
                  refine O.callF Tryz.call69 rfl rfl (CT.mono (ofA_ct (xs := (st n.toNat c u.toNat (orL [v]) j).map Prod.fst) (Holds.to (by assumption)) hl1) ?_)
                  rintro _ w ⟨rfl, H⟩
                  refine O.ex (Ex.move rfl) rfl ?_
                  refine O.callF Tryz.call70 rfl rfl (CT.mono (has_ct (Holds.to (by assumption)) (orL_lt _)) ?_)
                  rintro _ w ⟨rfl, H⟩
                  refine O.ex (Ex.move rfl) rfl ?_
                  refine O.ex (Ex.assign rfl) rfl ?_
                  refine O.ex (Ex.assign rfl) rfl ?_
                  refine O.nil ?_
                  refine hK12 _ _ _ ?_
                  refine W.ret ?_
                  try dsimp only [thenQ, blockQ, retQ]
                  first | refine ⟨_, ⟨_, _, rfl, rfl, _, _, rfl, rfl, rfl⟩, ?_⟩ | (refine retD_mark ?_; intro w H; refine ⟨_, ⟨_, _, rfl, rfl, _, _, rfl, rfl, rfl⟩, ?_⟩) | (refine retD_mark2 ?_; intro w H; refine ⟨_, ⟨_, _, rfl, rfl, _, _, rfl, rfl, rfl⟩, ?_⟩)
                  first
                  | (have hth : ¬ three n u v x := fun hh => by unfold three at hh; omega
                     exact .inl ⟨hth, rfl, Holds.to (by assumption)⟩)
                  | (have hth : ¬ three n u v x := fun hh => by
                       obtain ⟨⟨h7, h8, h9⟩, h10, h11, h12⟩ := hh
                       exact hno ⟨h7, by rw [orL_one, inS_bitN (by omega) (by omega)]; exact decide_eq_false h10⟩
                     rw [inS_orL (by omega) (by omega)]
                     exact .inl ⟨hth, rfl, Holds.to (by assumption)⟩)
                  | (have hth : three n u v x := ⟨⟨hyes.1, by omega, by omega⟩, by omega, by omega, by omega⟩
                     rw [inS_orL (by omega) (by omega)]
                     rw [orL_one] at hto hst ⊢
                     exact .inr ⟨hth, j, hto, hst, rfl, Holds.to (by assumption)⟩)
end Go.Proofs.YtblapiiinbppiaaGreatDoor
namespace Go.Proofs.YtblapiiinbppiaaGreatDoor
open Go.Rr Go Hp Wt
set_option linter.unusedVariables false
def aw3 : Int → Int → Int := putD 3 (putD 3 (putD 3 noneM 0 1 2) 1 2 3) 0 2 9
def aw4 : Int → Int → Int := putD 3 aw3 0 2 5
theorem aw_a : to 3 aw3 0 2 9 5 1 ∧ stopP 3 aw3 0 2 9 5 1 := ⟨to_of (by decide +kernel), stop_iff.1 (by decide +kernel)⟩
theorem aw_s : st 3 aw3 0 2 1 = [(0, 0)] := by decide +kernel
theorem aw_m : two (aw3 0 1) (aw3 1 2) = 5 := by decide +kernel
theorem aw_m4 : two (aw4 0 1) (aw4 1 2) = 5 := by decide +kernel
theorem aw_b : to 3 aw4 0 2 9 5 2 ∧ stopP 3 aw4 0 2 9 5 2 := ⟨to_of (by decide +kernel), stop_iff.1 (by decide +kernel)⟩
theorem aw_s4 : st 3 aw4 0 2 2 = [(0, 0), (2, 5)] := by decide +kernel
end Go.Proofs.YtblapiiinbppiaaGreatDoor
