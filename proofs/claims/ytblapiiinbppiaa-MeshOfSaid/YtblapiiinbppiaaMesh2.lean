import Derived.Test.YtblapiiinbppiaaMesh
--ARR
namespace Go.Proofs.Ytblapiiinbppiaa
open Go.Rr
set_option linter.unusedVariables false
def LinkM.enc (x : LinkM) : List Value := [.int .i64 x.t, .int .i64 x.h, .int .i64 x.g, .int .i64 (-1), .int .i64 x.mid]
abbrev lks (v : Value) (xs : List LinkM) : HProp := arrN 97 5 LinkM.enc v xs
/-- A slice of links in a variable. -/
def lkV (b : Nat) (xs : List LinkM) : HProp := hex fun va => star [pt b (.cells #[va] 48 (0, 0)), lks va xs]
theorem lkV_open {w : World} {b : Nat} {xs : List LinkM} {L : List HProp} : Holds w (lkV b xs :: L) ↔ ∃ va, Holds w (pt b (.cells #[va] 48 (0, 0)) :: lks va xs :: L) := by
  unfold lkV
  simp only [Holds.hex, Holds.star, List.cons_append, List.nil_append]
set_option maxHeartbeats 1000000 in
theorem detours_ct {w : World} {m : Nat} {n v : Int} {c : Int → Int → Int} {L : List HProp} (hg : Good n c) (H : Holds w (Mh m n c :: L)) :
    CT Try.prog 27 [.pointer (some ⟨m, 0, none⟩), .int .i64 v] w fun x w' => x.oneCell' = true ∧ Holds w' (lks x (detL n c v) :: Mh m n c :: L) := by
  have n1 := hg.n1
  have n2 := hg.n2
  have hN : ((n.toNat : Nat) : Int) = n := by omega
  refine CT.enter (N := 36) Try.func27 rfl rfl rfl rfl ?_
  refine W.seq (fun K0 hK0 => ?_)
  refine W.region ?_
  refine O.boxP rfl (fun b2 w H => ?_)
  refine O.boxP rfl (fun b3 w H => ?_)
  refine O.ex (Ex.assign rfl) rfl ?_
  refine O.nil ?_
  refine hK0 _ _ _ ?_
  refine W.seq (fun K1 hK1 => ?_)
  refine W.region ?_
  refine O.allocP Try.zeroValue48 (fun b5 w H => ?_)
  refine O.nil ?_
  refine hK1 _ _ _ ?_
  refine W.seq (fun K2 hK2 => ?_)
  refine W.seq (fun K3 hK3 => ?_)
  refine W.region ?_
  refine O.ex (by first | exact Ex.loadP Try.isAgg25 rfl | exact Ex.loadQ Try.isAgg25 rfl | exact Ex.loadMh Try.isAgg25 rfl | exact Ex.loadR Try.isAgg25 rfl | exact Ex.loadIn1 Try.isAgg25 rfl (Holds.to (by assumption)) | exact Ex.loadM Try.isAgg25 rfl | exact Ex.loadVc Try.isAgg25 rfl) rfl ?_
  refine O.ex (by first | exact Ex.loadP Try.isAgg3 rfl | exact Ex.loadQ Try.isAgg3 rfl | exact Ex.loadMh Try.isAgg3 rfl | exact Ex.loadR Try.isAgg3 rfl | exact Ex.loadIn1 Try.isAgg3 rfl (Holds.to (by assumption)) | exact Ex.loadM Try.isAgg3 rfl | exact Ex.loadVc Try.isAgg3 rfl) rfl ?_
  refine O.callF Try.call57 rfl rfl (CT.mono (in_ct (Holds.to (by assumption))) ?_)
  rintro _ w ⟨c2, c3, c5, c4, rfl, H⟩
  refine O.nil ?_
  refine hK3 _ _ _ ?_
  refine W.block ?_
  have H := (lkV_open (b := b5) (xs := outL n.toNat c v 0)).2 ⟨_, (by exact Holds.to (arrN_nil (T := 97) (sz := 5) (e := LinkM.enc) H))⟩
  have H : Holds w (lkV b5 (outL n.toNat c v 0) :: pt b2 (.cells #[.pointer (some ⟨m, 0, none⟩)] 25 (0, 0)) :: pt b3 (.cells #[.int .i64 v] 3 (0, 0)) :: capsS c3 c5 c4 m (inV c2) v :: cap2 c2 m :: Mh m n c :: L) := Holds.to H
  refine W.rangeFunc rfl Try.call98 H ?_
  rintro LR kk D w hLR H
  refine CT.mono (steps1_ct (g := fun u => c u v) (J := fun i => LR .ready none :: dblk D :: lkV b5 (outL n.toNat c v i) :: pt b2 (.cells #[.pointer (some ⟨m, 0, none⟩)] 25 (0, 0)) :: pt b3 (.cells #[.int .i64 v] 3 (0, 0)) :: cap2 c2 m :: L) (φ := fun _ => True) (S := fun _ => False) n2 n1 trivial (Holds.to (by assumption)) (fun i w H => ?_) ?_ ?_) ?_
  · refine (vtIn (b := c2) (m := m) (u := v) (v := (i : Int)) hg (Holds.to (by assumption))).mono ?_
    rintro u w' ⟨e, H⟩
    exact ⟨e, Holds.to (by assumption)⟩
  · intro i w hi hne _ H
    refine VT.round hLR (Holds.to (by assumption)) rfl rfl ?_
    refine W.seq (fun K4 hK4 => ?_)
    refine W.region ?_
    refine O.allocP Try.zeroValue3 (fun b6 w H => ?_)
    first | refine O.storeP Try.sizeOf3 rfl rfl (fun w H => ?_) | refine O.storeR Try.sizeOf3 rfl rfl (fun w H => ?_) | refine O.storeM Try.sizeOf3 rfl rfl (fun w H => ?_) | refine O.storeVc Try.sizeOf3 rfl rfl (fun w H => ?_)
    refine O.nil ?_
    refine hK4 _ _ _ ?_
    refine W.region ?_
    refine O.allocP Try.zeroValue3 (fun b7 w H => ?_)
    first | refine O.storeP Try.sizeOf3 rfl rfl (fun w H => ?_) | refine O.storeR Try.sizeOf3 rfl rfl (fun w H => ?_) | refine O.storeM Try.sizeOf3 rfl rfl (fun w H => ?_) | refine O.storeVc Try.sizeOf3 rfl rfl (fun w H => ?_)
    refine O.nil ?_
    refine ⟨_, Holds.to (by assumption), fun w H => ?_⟩
    refine W.block ?_
    refine W.seq (fun K5 hK5 => ?_)
    refine W.region ?_
    refine O.ex (by first | exact Ex.loadP Try.isAgg25 rfl | exact Ex.loadQ Try.isAgg25 rfl | exact Ex.loadMh Try.isAgg25 rfl | exact Ex.loadR Try.isAgg25 rfl | exact Ex.loadIn1 Try.isAgg25 rfl (Holds.to (by assumption)) | exact Ex.loadM Try.isAgg25 rfl | exact Ex.loadVc Try.isAgg25 rfl) rfl ?_
    refine O.ex (by first | exact Ex.loadP Try.isAgg3 rfl | exact Ex.loadQ Try.isAgg3 rfl | exact Ex.loadMh Try.isAgg3 rfl | exact Ex.loadR Try.isAgg3 rfl | exact Ex.loadIn1 Try.isAgg3 rfl (Holds.to (by assumption)) | exact Ex.loadM Try.isAgg3 rfl | exact Ex.loadVc Try.isAgg3 rfl) rfl ?_
    refine O.callF Try.call56 rfl rfl (CT.mono (out_ct (Holds.to (by assumption))) ?_)
    rintro _ w ⟨d3, d5, d4, rfl, H⟩
    refine O.nil ?_
    refine hK5 _ _ _ ?_
    refine W.block ?_
    have H : Holds w (LR .busy none :: dblk D :: lkV b5 (outL n.toNat c v i ++ inn c v (i : Nat) (c i v) 0) :: pt b6 (.cells #[.int .i64 (i : Int)] 3 (0, 0)) :: pt b7 (.cells #[.int .i64 (c i v)] 3 (0, 0)) :: pt b2 (.cells #[.pointer (some ⟨m, 0, none⟩)] 25 (0, 0)) :: pt b3 (.cells #[.int .i64 v] 3 (0, 0)) :: capsS d3 d5 d4 m (atV m) v :: capsS c3 c5 c4 m (inV c2) v :: cap2 c2 m :: Mh m n c :: L) := by
      rw [show outL n.toNat c v i ++ inn c v (i : Nat) (c i v) 0 = outL n.toNat c v i from List.append_nil _]; exact Holds.to (by assumption)
    refine W.rangeFuncIn hLR rfl Try.call98 H ?_
    rintro LR2 k2 w hLR2 H
    refine CT.mono (steps1_ct (g := fun u => c v u) (J := fun j => LR2 .ready none :: LR .busy none :: dblk D :: lkV b5 (outL n.toNat c v i ++ inn c v (i : Nat) (c i v) j) :: pt b6 (.cells #[.int .i64 (i : Int)] 3 (0, 0)) :: pt b7 (.cells #[.int .i64 (c i v)] 3 (0, 0)) :: pt b2 (.cells #[.pointer (some ⟨m, 0, none⟩)] 25 (0, 0)) :: pt b3 (.cells #[.int .i64 v] 3 (0, 0)) :: capsS c3 c5 c4 m (inV c2) v :: cap2 c2 m :: L) (φ := fun _ => True) (S := fun _ => False) n2 n1 trivial (Holds.to (by assumption)) (fun j w H => ?_) ?_ ?_) ?_
    · refine (vtAt (m := m) (u := v) (v := (j : Int)) hg (Holds.to (by assumption))).mono ?_
      rintro u w' ⟨e, H⟩
      exact ⟨e, Holds.to (by assumption)⟩
    · intro j w hj hne2 _ H
      refine VT.round hLR2 (Holds.to (by assumption)) rfl rfl ?_
      refine W.seq (fun K6 hK6 => ?_)
      refine W.region ?_
      refine O.ex (Ex.assign rfl) rfl ?_
      refine O.nil ?_
      refine hK6 _ _ _ ?_
      refine W.region ?_
      refine O.ex (Ex.assign rfl) rfl ?_
      refine O.nil ?_
      refine ⟨_, Holds.to (by assumption), fun w H => ?_⟩
      refine W.block ?_
      refine W.seq (fun K7 hK7 => ?_)
      refine W.region ?_
      refine O.ex (by first | exact Ex.loadP Try.isAgg3 rfl | exact Ex.loadQ Try.isAgg3 rfl | exact Ex.loadMh Try.isAgg3 rfl | exact Ex.loadR Try.isAgg3 rfl | exact Ex.loadIn1 Try.isAgg3 rfl (Holds.to (by assumption)) | exact Ex.loadM Try.isAgg3 rfl | exact Ex.loadVc Try.isAgg3 rfl) rfl ?_
      refine O.ex (Ex.move rfl) rfl ?_
      refine O.ex (Ex.neqI rfl rfl) rfl ?_
      refine O.nil ?_
      refine hK7 _ _ _ ?_
      first | refine W.cond_p rfl (fun hu1 => ?_) (fun hu2 => ?_) | refine W.cond_b rfl (fun hu1 => ?_) (fun hu2 => ?_)
      · have hl1 := outL_len n.toNat c v i
        have hl2 := inn_len c v (i : Nat) (c i v) j
        have hl3 : i * n.toNat ≤ 24 * 24 := Nat.mul_le_mul (by omega) (by omega)
        have hlen : (outL n.toNat c v i ++ inn c v (i : Nat) (c i v) j).length ≤ 1000 := by rw [List.length_append]; omega
        obtain ⟨va, H⟩ := lkV_open.1 (Holds.to (by assumption))
        refine W.drawTo (pt b5 _ :: pt b6 _ :: pt b7 _ :: pt b3 _ :: []) (.take 0 (.take 1 (.take 2 (.take 3 (.take 4 (.take 7 (.one 5 (.one 6 (.take 8 (.take 9 (.one 10 (.one 11 (.one 12 .nil))))))))))))) (mixed) (fun _ _ _ _ h => h) (by assumption) PP.auto (by decide +kernel) (fun w H => ?_)
        refine OQ.ex rfl (fun w H => (by first | exact Ex.loadP Try.isAgg48 rfl | exact Ex.loadQ Try.isAgg48 rfl | exact Ex.loadMh Try.isAgg48 rfl | exact Ex.loadR Try.isAgg48 rfl | exact Ex.loadIn1 Try.isAgg48 rfl (Holds.to (by assumption)) | exact Ex.loadM Try.isAgg48 rfl | exact Ex.loadVc Try.isAgg48 rfl)) rfl ?_
        refine OQ.ex rfl (fun w H => (by first | exact Ex.loadP Try.isAgg3 rfl | exact Ex.loadQ Try.isAgg3 rfl | exact Ex.loadMh Try.isAgg3 rfl | exact Ex.loadR Try.isAgg3 rfl | exact Ex.loadIn1 Try.isAgg3 rfl (Holds.to (by assumption)) | exact Ex.loadM Try.isAgg3 rfl | exact Ex.loadVc Try.isAgg3 rfl)) rfl ?_
        refine OQ.ex rfl (fun w H => (Ex.move rfl)) rfl ?_
        refine OQ.ex rfl (fun w H => (by first | exact Ex.loadP Try.isAgg3 rfl | exact Ex.loadQ Try.isAgg3 rfl | exact Ex.loadMh Try.isAgg3 rfl | exact Ex.loadR Try.isAgg3 rfl | exact Ex.loadIn1 Try.isAgg3 rfl (Holds.to (by assumption)) | exact Ex.loadM Try.isAgg3 rfl | exact Ex.loadVc Try.isAgg3 rfl)) rfl ?_
        refine OQ.ex rfl (fun w H => (Ex.move rfl)) rfl ?_
        refine OQ.ex rfl (fun w H => (by first | exact Ex.loadP Try.isAgg3 rfl | exact Ex.loadQ Try.isAgg3 rfl | exact Ex.loadMh Try.isAgg3 rfl | exact Ex.loadR Try.isAgg3 rfl | exact Ex.loadIn1 Try.isAgg3 rfl (Holds.to (by assumption)) | exact Ex.loadM Try.isAgg3 rfl | exact Ex.loadVc Try.isAgg3 rfl)) rfl ?_
        refine OQ.step rfl ?_
        refine O.buildK (e := Value.int .i64) (vs := [(0, .int .i64 (c i v)), (1, .int .i64 (c v j))]) [c i v, c v j] Try.runUnderlying51 Try.sizeOf3 Try.zeroValue3 rfl rfl rfl rfl rfl rfl (fun v28 w hv28 H => ?_)
        refine O.thenNil ⟨(by first | exact Holds.to (by assumption) | assumption), ?_⟩
        refine OQ.step rfl ?_
        refine O.callF Try.call58 rfl rfl (CT.mono (add_ct (Holds.to (by assumption)) (hg.dst _ _) (hg.dst _ _)) ?_)
        rintro _ w ⟨rfl, H⟩
        refine O.thenNil ⟨(by first | exact Holds.to (by assumption) | assumption), ?_⟩
        refine OQ.ex rfl (fun w H => (Ex.build rfl (bld95_0_1_2 _ _ _ (by first | rfl | assumption) (by first | rfl | assumption) (by first | rfl | assumption)))) rfl ?_
        refine OQ.ex rfl (fun w H => (Ex.build rfl (bld97_0_1_2 _ _ _ _ _ (by first | rfl | assumption) (by first | rfl | assumption)))) rfl ?_
        refine OQ.step rfl ?_
        refine O.build1N (e := LinkM.enc) (z := ⟨(i : Int), (j : Int), two (c i v) (c v j), v⟩) Try.runUnderlying48 Try.sizeOf97 Try.zeroValue97 rfl rfl (fun v33 w hv33 H => ?_)
        refine O.thenNil ⟨(by first | exact Holds.to (by assumption) | assumption), ?_⟩
        refine OQ.step rfl ?_
        refine O.appendN Try.runUnderlying48 Try.typeInfo97 (bt := 40) rfl Try.sizeOf97 Try.zeroValue97 rfl rfl (fun v34 w hv34 H => ?_)
        refine O.thenNil ⟨(by first | exact Holds.to (by assumption) | assumption), ?_⟩
        refine OQ.last rfl (by decide +kernel) ?_
        first | refine O.storeP Try.sizeOf48 rfl rfl (fun w H => ?_) | refine O.storeR Try.sizeOf48 rfl rfl (fun w H => ?_) | refine O.storeM Try.sizeOf48 rfl rfl (fun w H => ?_) | refine O.storeVc Try.sizeOf48 rfl rfl (fun w H => ?_)
        refine O.nil ?_
        first
        | (rw [List.append_assoc, show inn c v (i : Nat) (c i v) j ++ [⟨(i : Int), (j : Int), two (c i v) (c v j), v⟩] = inn c v (i : Nat) (c i v) (j + 1) from (if_pos ⟨hne2, hu1⟩).symm] at H
           have H := (lkV_open (b := b5) (xs := outL n.toNat c v i ++ inn c v (i : Nat) (c i v) (j + 1))).2 ⟨_, Holds.to (by assumption)⟩
           exact ⟨_, Holds.to (by assumption), fun w H => .inl ⟨rfl, trivial, Holds.to (by assumption)⟩⟩)
        | (rw [show inn c v (i : Nat) (c i v) j = inn c v (i : Nat) (c i v) (j + 1) from (if_neg (fun hh => hu2 hh.2)).symm] at H
           exact ⟨_, Holds.to (by assumption), fun w H => .inl ⟨rfl, trivial, Holds.to (by assumption)⟩⟩)
      · refine W.skip ?_
        first
        | (rw [List.append_assoc, show inn c v (i : Nat) (c i v) j ++ [⟨(i : Int), (j : Int), two (c i v) (c v j), v⟩] = inn c v (i : Nat) (c i v) (j + 1) from (if_pos ⟨hne2, hu1⟩).symm] at H
           have H := (lkV_open (b := b5) (xs := outL n.toNat c v i ++ inn c v (i : Nat) (c i v) (j + 1))).2 ⟨_, Holds.to (by assumption)⟩
           exact ⟨_, Holds.to (by assumption), fun w H => .inl ⟨rfl, trivial, Holds.to (by assumption)⟩⟩)
        | (rw [show inn c v (i : Nat) (c i v) j = inn c v (i : Nat) (c i v) (j + 1) from (if_neg (fun hh => hu2 hh.2)).symm] at H
           exact ⟨_, Holds.to (by assumption), fun w H => .inl ⟨rfl, trivial, Holds.to (by assumption)⟩⟩)
    · intro j w hj hnn _ H
      refine ⟨trivial, ?_⟩
      rw [show inn c v (i : Nat) (c i v) (j + 1) = inn c v (i : Nat) (c i v) j from if_neg (fun hh => hnn hh.1)]
      exact H
    rintro _ w (⟨_, H⟩ | hf)
    rotate_left
    · exact hf.elim
    refine rangeEndIn (Holds.to (by assumption)) (by nofun) (fun w H => ?_)
    rw [show outL n.toNat c v i ++ inn c v (i : Nat) (c i v) n.toNat = outL n.toNat c v (i + 1) from (if_pos hne).symm] at H
    exact ⟨_, Holds.to (by assumption), fun w H => .inl ⟨rfl, trivial, Holds.to (by assumption)⟩⟩
  · intro i w hi hnn _ H
    refine ⟨trivial, ?_⟩
    rw [show outL n.toNat c v (i + 1) = outL n.toNat c v i from if_neg hnn]
    exact H
  rintro _ w (⟨_, H⟩ | hf)
  rotate_left
  · exact hf.elim
  refine rangeEnd (Holds.to (by assumption)) (by nofun) (fun w H => ?_)
  obtain ⟨va, H⟩ := lkV_open.1 (Holds.to (by assumption))
  refine hK2 _ _ _ ?_
  refine W.seq (fun K8 hK8 => ?_)
  refine W.region ?_
  refine O.ex (by first | exact Ex.loadP Try.isAgg48 rfl | exact Ex.loadQ Try.isAgg48 rfl | exact Ex.loadMh Try.isAgg48 rfl | exact Ex.loadR Try.isAgg48 rfl | exact Ex.loadIn1 Try.isAgg48 rfl (Holds.to (by assumption)) | exact Ex.loadM Try.isAgg48 rfl | exact Ex.loadVc Try.isAgg48 rfl) rfl ?_
  refine O.ex (Ex.assign rfl) rfl ?_
  refine O.nil ?_
  refine hK8 _ _ _ ?_
  refine W.ret ?_
  try dsimp only [thenQ, blockQ, retQ]
  first | refine ⟨_, ⟨_, _, rfl, rfl, rfl⟩, ?_⟩ | (refine retD_mark ?_; intro w H; refine ⟨_, ⟨_, _, rfl, rfl, rfl⟩, ?_⟩) | (refine retD_mark2 ?_; intro w H; refine ⟨_, ⟨_, _, rfl, rfl, rfl⟩, ?_⟩)
  exact ⟨arrN_one (Holds.to (by assumption)), Holds.to (by assumption)⟩
end Go.Proofs.Ytblapiiinbppiaa
