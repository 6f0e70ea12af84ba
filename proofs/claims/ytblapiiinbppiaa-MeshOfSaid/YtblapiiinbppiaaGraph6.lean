import Derived.Test.YtblapiiinbppiaaGraph5
--ARR
--DEEP
--LOADS loadG1 loadG2 loadAt loadCn loadMo loadE0 loadE1
--AGGLOADS loadArc
namespace Go.Proofs.Ytblapiiinbppiaa
open Go.Rr Go Gr
set_option linter.unusedVariables false
theorem go_gcel {w : World} {g ab cap : Nat} {es : Nat → Value × Value} {n most : Int} {s : St} {L : List HProp} : Holds w (GO g ab cap es n most s :: L) ↔ Holds w (gcel g s (avV ab cap n) (cnt s) most :: atc ab n.toNat es :: big (endF es s s) (List.range n.toNat) :: L) := ghO_open
theorem mem_getL {l : List Int} {i : Nat} (h : i < l.length) : l.getD i default ∈ l := by
  rw [List.getD_eq_getElem?_getD, List.getElem?_eq_getElem h]; exact List.getElem_mem _
theorem out_rng {s : St} {v : Int} {i : Nat} (h : i < (outI s v).length) : (0 ≤ (outI s v).getD i default ∧ (outI s v).getD i default < 64) ∧ outP s v ((outI s v).getD i default).toNat = true := mem_lstP.1 (mem_getL h)
theorem in_rng {s : St} {v : Int} {i : Nat} (h : i < (inI s v).length) : (0 ≤ (inI s v).getD i default ∧ (inI s v).getD i default < 64) ∧ inP s v ((inI s v).getD i default).toNat = true := mem_lstP.1 (mem_getL h)
theorem takeI (l : List Int) {i : Nat} (h : i < l.length) : l.take (i + 1) = l.take i ++ [l.getD i default] := by
  rw [List.take_succ_eq_append_getElem h]; simp [List.getD_eq_getElem?_getD, h]
set_option maxHeartbeats 2000000 in
theorem gbest_ct {w : World} {g : Nat} {n most t h : Int} {s : St} {L : List HProp} (hg : GOk n most s) (H : Holds w (Gh g n most s :: L)) :
    CT Try.prog 72 [.pointer (some ⟨g, 0, none⟩), .int .i64 t, .int .i64 h] w fun u w' => u = .tuple #[.int .i64 (best s t h).1, .int .i64 (best s t h).2] ∧ Holds w' (Gh g n most s :: L) := by
  obtain ⟨ab, cap, es, H⟩ := gh_open.1 H
  refine CT.enter (N := 41) Try.func72 rfl rfl rfl rfl ?_
  refine W.seq (fun K0 hK0 => ?_)
  refine W.region ?_
  refine O.boxP rfl (fun b3 w H => ?_)
  refine O.boxP rfl (fun b5 w H => ?_)
  refine O.allocP Try.zeroValue3 (fun b6 w H => ?_)
  refine O.allocP Try.zeroValue3 (fun b7 w H => ?_)
  refine O.nil ?_
  refine hK0 _ _ _ ?_
  refine W.seq (fun K1 hK1 => ?_)
  refine W.region ?_
  first | refine O.storeP Try.sizeOf3 rfl rfl (fun w H => ?_) | refine O.storeR Try.sizeOf3 rfl rfl (fun w H => ?_) | refine O.storeM Try.sizeOf3 rfl rfl (fun w H => ?_) | refine O.storeVc Try.sizeOf3 rfl rfl (fun w H => ?_) | refine O.storeQ Try.sizeOf3 rfl rfl (fun w H => ?_)
  first | refine O.storeP Try.sizeOf3 rfl rfl (fun w H => ?_) | refine O.storeR Try.sizeOf3 rfl rfl (fun w H => ?_) | refine O.storeM Try.sizeOf3 rfl rfl (fun w H => ?_) | refine O.storeVc Try.sizeOf3 rfl rfl (fun w H => ?_) | refine O.storeQ Try.sizeOf3 rfl rfl (fun w H => ?_)
  refine O.nil ?_
  refine hK1 _ _ _ ?_
  refine W.seq (fun K2 hK2 => ?_)
  refine W.seq (fun K3 hK3 => ?_)
  refine W.region ?_
  refine O.ex (by first | exact Ex.loadG1 Try.isAgg87 rfl | exact Ex.loadG2 Try.isAgg87 rfl | exact Ex.loadAt Try.isAgg87 rfl | exact Ex.loadCn Try.isAgg87 rfl | exact Ex.loadMo Try.isAgg87 rfl | exact Ex.loadE0 Try.isAgg87 rfl | exact Ex.loadE1 Try.isAgg87 rfl | exact Ex.loadP Try.isAgg87 rfl | exact Ex.loadQ Try.isAgg87 rfl | exact Ex.loadMh Try.isAgg87 rfl | exact Ex.loadR Try.isAgg87 rfl | exact Ex.loadIn1 Try.isAgg87 rfl (Holds.to (by assumption)) | exact Ex.loadM Try.isAgg87 rfl | exact Ex.loadVc Try.isAgg87 rfl) rfl ?_
  refine O.ex (Ex.move rfl) rfl ?_
  refine O.callF Try.call96 rfl rfl (CT.mono (gout_ct (Holds.to (by assumption))) ?_)
  rintro _ w ⟨c2, c3, rfl, H⟩
  refine O.nil ?_
  refine hK3 _ _ _ ?_
  refine W.block ?_
  have H : Holds w (GO g ab cap es n most s :: capO c2 c3 g t :: pt b3 (.cells #[.pointer (some ⟨g, 0, none⟩)] 87 (0, 0)) :: pt b5 (.cells #[.int .i64 h] 3 (0, 0)) :: pt b6 (.cells #[.int .i64 (bestL s h ((outI s t).take 0)).1] 3 (0, 0)) :: pt b7 (.cells #[.int .i64 (bestL s h ((outI s t).take 0)).2] 3 (0, 0)) :: L) := Holds.to (by assumption)
  refine W.rangeFunc rfl Try.call118 H ?_
  rintro LR kk D w hLR H
  refine CT.mono (gout1_ct (κ := Unit) (σ := fun _ => False) (SL := fun _ => []) (φ := fun _ => True) (J := fun i => LR .ready none :: dblk D :: pt b3 (.cells #[.pointer (some ⟨g, 0, none⟩)] 87 (0, 0)) :: pt b5 (.cells #[.int .i64 h] 3 (0, 0)) :: pt b6 (.cells #[.int .i64 (bestL s h ((outI s t).take i)).1] 3 (0, 0)) :: pt b7 (.cells #[.int .i64 (bestL s h ((outI s t).take i)).2] 3 (0, 0)) :: L) hg trivial (Holds.to (by assumption)) ?_) ?_
  · intro F i w hi _ H
    obtain ⟨⟨r0, r1⟩, r2⟩ := out_rng hi
    have etk := takeI (outI s t) hi
    obtain ⟨id, hid⟩ : ∃ id, id = (outI s t).getD i default := ⟨_, rfl⟩
    rw [← hid] at r0 r1 r2 etk ⊢
    have H := go_gcel.1 (Holds.to (M := GO g ab cap es n most s :: F :: capO c2 c3 g t :: LR .ready none :: dblk D :: pt b3 (.cells #[.pointer (some ⟨g, 0, none⟩)] 87 (0, 0)) :: pt b5 (.cells #[.int .i64 h] 3 (0, 0)) :: pt b6 (.cells #[.int .i64 (bestL s h ((outI s t).take i)).1] 3 (0, 0)) :: pt b7 (.cells #[.int .i64 (bestL s h ((outI s t).take i)).2] 3 (0, 0)) :: L) H)
    refine VT.round hLR (Holds.to (by assumption)) rfl rfl ?_
    refine W.region ?_
    refine O.ex (Ex.assign rfl) rfl ?_
    refine O.nil ?_
    refine ⟨_, Holds.to (by assumption), fun w H => ?_⟩
    refine W.block ?_
    refine W.seq (fun K4 hK4 => ?_)
    refine W.region ?_
    refine O.ex (by first | exact Ex.loadG1 Try.isAgg87 rfl | exact Ex.loadG2 Try.isAgg87 rfl | exact Ex.loadAt Try.isAgg87 rfl | exact Ex.loadCn Try.isAgg87 rfl | exact Ex.loadMo Try.isAgg87 rfl | exact Ex.loadE0 Try.isAgg87 rfl | exact Ex.loadE1 Try.isAgg87 rfl | exact Ex.loadP Try.isAgg87 rfl | exact Ex.loadQ Try.isAgg87 rfl | exact Ex.loadMh Try.isAgg87 rfl | exact Ex.loadR Try.isAgg87 rfl | exact Ex.loadIn1 Try.isAgg87 rfl (Holds.to (by assumption)) | exact Ex.loadM Try.isAgg87 rfl | exact Ex.loadVc Try.isAgg87 rfl) rfl ?_
    refine O.ex (Ex.move rfl) rfl ?_
    refine O.ex (by first | exact Ex.nilPtr rfl | exact Ex.nilFunc rfl | exact Ex.nilYield rfl) rfl ?_
    refine O.ex (by first | exact Ex.field0 fld148_0 rfl | exact Ex.field fld148_0 rfl | exact Ex.fieldS fld148_0 rfl) rfl ?_
    refine O.ex (Ex.idxArr Try.runUnderlying146 Try.sizeOf145 rfl rfl) rfl ?_
    refine O.ex (by first | exact Ex.field0 fld145_0 rfl | exact Ex.field fld145_0 rfl | exact Ex.fieldS fld145_0 rfl) rfl ?_
    refine O.ex (by first | exact Ex.loadArc Try.isAgg119 Try.sizeOf119 rfl | exact Ex.loadAggP Try.isAgg119 Try.sizeOf119 rfl | exact Ex.loadAggN Try.isAgg119 Try.sizeOf119 rfl | exact Ex.loadIn Try.isAgg119 Try.sizeOf119 rfl (Holds.to (by assumption))) rfl ?_
    refine O.allocP Try.zeroValue119 (fun b9 w H => ?_)
    first | refine O.storeAggP Try.sizeOf119 rfl rfl rfl rfl (fun w H => ?_) | refine O.storeAggN Try.sizeOf119 rfl rfl rfl (fun w H => ?_) rfl
    refine O.nil ?_
    refine hK4 _ _ _ ?_
    refine W.seq (fun K5 hK5 => ?_)
    refine W.region ?_
    refine O.ex (by first | exact Ex.field0 fld119_1 rfl | exact Ex.field fld119_1 rfl | exact Ex.fieldS fld119_1 rfl) rfl ?_
    refine O.ex (by first | exact Ex.loadG1 Try.isAgg3 rfl | exact Ex.loadG2 Try.isAgg3 rfl | exact Ex.loadAt Try.isAgg3 rfl | exact Ex.loadCn Try.isAgg3 rfl | exact Ex.loadMo Try.isAgg3 rfl | exact Ex.loadE0 Try.isAgg3 rfl | exact Ex.loadE1 Try.isAgg3 rfl | exact Ex.loadMh Try.isAgg3 rfl | exact Ex.loadP Try.isAgg3 rfl | exact Ex.loadM Try.isAgg3 rfl | exact Ex.loadIn1 Try.isAgg3 rfl (Holds.to (by assumption)) | exact Ex.loadVc Try.isAgg3 rfl | exact Ex.loadR Try.isAgg3 rfl | exact Ex.loadQ Try.isAgg3 rfl) rfl ?_
    refine O.ex (by first | exact Ex.loadG1 Try.isAgg3 rfl | exact Ex.loadG2 Try.isAgg3 rfl | exact Ex.loadAt Try.isAgg3 rfl | exact Ex.loadCn Try.isAgg3 rfl | exact Ex.loadMo Try.isAgg3 rfl | exact Ex.loadE0 Try.isAgg3 rfl | exact Ex.loadE1 Try.isAgg3 rfl | exact Ex.loadP Try.isAgg3 rfl | exact Ex.loadQ Try.isAgg3 rfl | exact Ex.loadMh Try.isAgg3 rfl | exact Ex.loadR Try.isAgg3 rfl | exact Ex.loadIn1 Try.isAgg3 rfl (Holds.to (by assumption)) | exact Ex.loadM Try.isAgg3 rfl | exact Ex.loadVc Try.isAgg3 rfl) rfl ?_
    refine O.ex (Ex.eqlI rfl rfl) rfl ?_
    refine O.ex (Ex.move rfl) rfl ?_
    first | refine O.split_p (t := 25) rfl (fun hA => ?_) (fun hB => ?_) | refine O.split (t := 25) rfl (fun hA => ?_) (fun hB => ?_)
    · refine O.guard_t rfl rfl ?_
      refine O.ex (by first | exact Ex.field0 fld119_3 rfl | exact Ex.field fld119_3 rfl | exact Ex.fieldS fld119_3 rfl) rfl ?_
      refine O.guard_t rfl rfl ?_
      refine O.ex (by first | exact Ex.loadG1 Try.isAgg4 rfl | exact Ex.loadG2 Try.isAgg4 rfl | exact Ex.loadAt Try.isAgg4 rfl | exact Ex.loadCn Try.isAgg4 rfl | exact Ex.loadMo Try.isAgg4 rfl | exact Ex.loadE0 Try.isAgg4 rfl | exact Ex.loadE1 Try.isAgg4 rfl | exact Ex.loadMh Try.isAgg4 rfl | exact Ex.loadP Try.isAgg4 rfl | exact Ex.loadM Try.isAgg4 rfl | exact Ex.loadIn1 Try.isAgg4 rfl (Holds.to (by assumption)) | exact Ex.loadVc Try.isAgg4 rfl | exact Ex.loadR Try.isAgg4 rfl | exact Ex.loadQ Try.isAgg4 rfl) rfl ?_
      refine O.guard_t rfl rfl ?_
      refine O.ex (by first | exact Ex.notD rfl | exact Ex.not rfl) rfl ?_
      refine O.ex (Ex.pick_t rfl rfl) rfl ?_
      refine O.ex (Ex.move rfl) rfl ?_
      first | refine O.split_p (t := 30) rfl (fun hC => ?_) (fun hD => ?_) | refine O.split (t := 30) rfl (fun hC => ?_) (fun hD => ?_)
      · refine O.guard_t rfl rfl ?_
        refine O.ex (by first | exact Ex.field0 fld119_2 rfl | exact Ex.field fld119_2 rfl | exact Ex.fieldS fld119_2 rfl) rfl ?_
        refine O.guard_t rfl rfl ?_
        refine O.ex (by first | exact Ex.loadG1 Try.isAgg3 rfl | exact Ex.loadG2 Try.isAgg3 rfl | exact Ex.loadAt Try.isAgg3 rfl | exact Ex.loadCn Try.isAgg3 rfl | exact Ex.loadMo Try.isAgg3 rfl | exact Ex.loadE0 Try.isAgg3 rfl | exact Ex.loadE1 Try.isAgg3 rfl | exact Ex.loadMh Try.isAgg3 rfl | exact Ex.loadP Try.isAgg3 rfl | exact Ex.loadM Try.isAgg3 rfl | exact Ex.loadIn1 Try.isAgg3 rfl (Holds.to (by assumption)) | exact Ex.loadVc Try.isAgg3 rfl | exact Ex.loadR Try.isAgg3 rfl | exact Ex.loadQ Try.isAgg3 rfl) rfl ?_
        refine O.guard_t rfl rfl ?_
        refine O.ex (by first | exact Ex.loadG1 Try.isAgg3 rfl | exact Ex.loadG2 Try.isAgg3 rfl | exact Ex.loadAt Try.isAgg3 rfl | exact Ex.loadCn Try.isAgg3 rfl | exact Ex.loadMo Try.isAgg3 rfl | exact Ex.loadE0 Try.isAgg3 rfl | exact Ex.loadE1 Try.isAgg3 rfl | exact Ex.loadP Try.isAgg3 rfl | exact Ex.loadQ Try.isAgg3 rfl | exact Ex.loadMh Try.isAgg3 rfl | exact Ex.loadR Try.isAgg3 rfl | exact Ex.loadIn1 Try.isAgg3 rfl (Holds.to (by assumption)) | exact Ex.loadM Try.isAgg3 rfl | exact Ex.loadVc Try.isAgg3 rfl) rfl ?_
        refine O.guard_t rfl rfl ?_
        refine O.ex (Ex.lss rfl rfl) rfl ?_
        refine O.ex (Ex.pick_t rfl rfl) rfl ?_
        refine O.nil ?_
        refine hK5 _ _ _ ?_
        first | refine W.cond_p rfl (fun hE => ?_) (fun hF => ?_) | refine W.cond_b rfl (fun hE => ?_) (fun hF => ?_)
        · refine W.region ?_
          refine O.ex (by first | exact Ex.field0 fld119_2 rfl | exact Ex.field fld119_2 rfl | exact Ex.fieldS fld119_2 rfl) rfl ?_
          refine O.ex (by first | exact Ex.loadG1 Try.isAgg3 rfl | exact Ex.loadG2 Try.isAgg3 rfl | exact Ex.loadAt Try.isAgg3 rfl | exact Ex.loadCn Try.isAgg3 rfl | exact Ex.loadMo Try.isAgg3 rfl | exact Ex.loadE0 Try.isAgg3 rfl | exact Ex.loadE1 Try.isAgg3 rfl | exact Ex.loadMh Try.isAgg3 rfl | exact Ex.loadP Try.isAgg3 rfl | exact Ex.loadM Try.isAgg3 rfl | exact Ex.loadIn1 Try.isAgg3 rfl (Holds.to (by assumption)) | exact Ex.loadVc Try.isAgg3 rfl | exact Ex.loadR Try.isAgg3 rfl | exact Ex.loadQ Try.isAgg3 rfl) rfl ?_
          refine O.ex (Ex.move rfl) rfl ?_
          first | refine O.storeP Try.sizeOf3 rfl rfl (fun w H => ?_) | refine O.storeR Try.sizeOf3 rfl rfl (fun w H => ?_) | refine O.storeM Try.sizeOf3 rfl rfl (fun w H => ?_) | refine O.storeVc Try.sizeOf3 rfl rfl (fun w H => ?_) | refine O.storeQ Try.sizeOf3 rfl rfl (fun w H => ?_)
          first | refine O.storeP Try.sizeOf3 rfl rfl (fun w H => ?_) | refine O.storeR Try.sizeOf3 rfl rfl (fun w H => ?_) | refine O.storeM Try.sizeOf3 rfl rfl (fun w H => ?_) | refine O.storeVc Try.sizeOf3 rfl rfl (fun w H => ?_) | refine O.storeQ Try.sizeOf3 rfl rfl (fun w H => ?_)
          refine O.nil ?_
          have H := go_gcel.2 (Holds.to (M := gcel g s (avV ab cap n) (cnt s) most :: atc ab n.toNat es :: big (endF es s s) (List.range n.toNat) :: _) (Holds.to (by assumption)))
          refine ⟨_, Holds.to (by assumption), fun w H => .inl ⟨rfl, trivial, ?_⟩⟩
          rw [etk, bestL_snoc]
          by_cases hb : ((s id.toNat).a.h = h ∧ (s id.toNat).a.cl = false) ∧ (s id.toNat).a.w < (bestL s h ((outI s t).take i)).1
          · rw [show bst1 s h (bestL s h ((outI s t).take i)) id = ((s id.toNat).a.w, id) from if_pos hb]
            first
            | exact Holds.to (by assumption)
            | exact absurd hb.1.1 hB
            | exact absurd hb.2 hF
            | (have := hb.1.2; rw [this] at hD; simp at hD)
          · rw [show bst1 s h (bestL s h ((outI s t).take i)) id = bestL s h ((outI s t).take i) from if_neg hb]
            first
            | exact Holds.to (by assumption)
            | exact absurd ⟨⟨hA, by simpa using hC⟩, hE⟩ hb
        · refine W.skip ?_
          have H := go_gcel.2 (Holds.to (M := gcel g s (avV ab cap n) (cnt s) most :: atc ab n.toNat es :: big (endF es s s) (List.range n.toNat) :: _) (Holds.to (by assumption)))
          refine ⟨_, Holds.to (by assumption), fun w H => .inl ⟨rfl, trivial, ?_⟩⟩
          rw [etk, bestL_snoc]
          by_cases hb : ((s id.toNat).a.h = h ∧ (s id.toNat).a.cl = false) ∧ (s id.toNat).a.w < (bestL s h ((outI s t).take i)).1
          · rw [show bst1 s h (bestL s h ((outI s t).take i)) id = ((s id.toNat).a.w, id) from if_pos hb]
            first
            | exact Holds.to (by assumption)
            | exact absurd hb.1.1 hB
            | exact absurd hb.2 hF
            | (have := hb.1.2; rw [this] at hD; simp at hD)
          · rw [show bst1 s h (bestL s h ((outI s t).take i)) id = bestL s h ((outI s t).take i) from if_neg hb]
            first
            | exact Holds.to (by assumption)
            | exact absurd ⟨⟨hA, by simpa using hC⟩, hE⟩ hb
      · refine O.guard_f rfl rfl rfl rfl ?_
        refine O.guard_f rfl rfl rfl rfl ?_
        refine O.guard_f rfl rfl rfl rfl ?_
        refine O.guard_f rfl rfl rfl rfl ?_
        refine O.ex (Ex.pick_f rfl rfl) rfl ?_
        refine O.nil ?_
        refine hK5 _ _ _ ?_
        refine W.cond_f rfl ?_
        refine W.skip ?_
        have H := go_gcel.2 (Holds.to (M := gcel g s (avV ab cap n) (cnt s) most :: atc ab n.toNat es :: big (endF es s s) (List.range n.toNat) :: _) (Holds.to (by assumption)))
        refine ⟨_, Holds.to (by assumption), fun w H => .inl ⟨rfl, trivial, ?_⟩⟩
        rw [etk, bestL_snoc]
        by_cases hb : ((s id.toNat).a.h = h ∧ (s id.toNat).a.cl = false) ∧ (s id.toNat).a.w < (bestL s h ((outI s t).take i)).1
        · rw [show bst1 s h (bestL s h ((outI s t).take i)) id = ((s id.toNat).a.w, id) from if_pos hb]
          first
          | exact Holds.to (by assumption)
          | exact absurd hb.1.1 hB
          | exact absurd hb.2 hF
          | (have := hb.1.2; rw [this] at hD; simp at hD)
        · rw [show bst1 s h (bestL s h ((outI s t).take i)) id = bestL s h ((outI s t).take i) from if_neg hb]
          first
          | exact Holds.to (by assumption)
          | exact absurd ⟨⟨hA, by simpa using hC⟩, hE⟩ hb
    · refine O.guard_f rfl rfl rfl rfl ?_
      refine O.guard_f rfl rfl rfl rfl ?_
      refine O.guard_f rfl rfl rfl rfl ?_
      refine O.ex (Ex.pick_f rfl rfl) rfl ?_
      refine O.ex (Ex.move rfl) rfl ?_
      refine O.guard_f rfl rfl rfl rfl ?_
      refine O.guard_f rfl rfl rfl rfl ?_
      refine O.guard_f rfl rfl rfl rfl ?_
      refine O.guard_f rfl rfl rfl rfl ?_
      refine O.ex (Ex.pick_f rfl rfl) rfl ?_
      refine O.nil ?_
      refine hK5 _ _ _ ?_
      refine W.cond_f rfl ?_
      refine W.skip ?_
      have H := go_gcel.2 (Holds.to (M := gcel g s (avV ab cap n) (cnt s) most :: atc ab n.toNat es :: big (endF es s s) (List.range n.toNat) :: _) (Holds.to (by assumption)))
      refine ⟨_, Holds.to (by assumption), fun w H => .inl ⟨rfl, trivial, ?_⟩⟩
      rw [etk, bestL_snoc]
      by_cases hb : ((s id.toNat).a.h = h ∧ (s id.toNat).a.cl = false) ∧ (s id.toNat).a.w < (bestL s h ((outI s t).take i)).1
      · rw [show bst1 s h (bestL s h ((outI s t).take i)) id = ((s id.toNat).a.w, id) from if_pos hb]
        first
        | exact Holds.to (by assumption)
        | exact absurd hb.1.1 hB
        | exact absurd hb.2 hF
        | (have := hb.1.2; rw [this] at hD; simp at hD)
      · rw [show bst1 s h (bestL s h ((outI s t).take i)) id = bestL s h ((outI s t).take i) from if_neg hb]
        first
        | exact Holds.to (by assumption)
        | exact absurd ⟨⟨hA, by simpa using hC⟩, hE⟩ hb
  rintro _ w (⟨_, H⟩ | ⟨_, hf, _⟩)
  rotate_left
  · exact hf.elim
  refine rangeEnd (Holds.to (by assumption)) (by nofun) (fun w H => ?_)
  rw [List.take_length] at H
  refine hK2 _ _ _ ?_
  refine W.seq (fun K6 hK6 => ?_)
  refine W.drawTo _ (.take 0 (.take 1 (.one 2 (.one 3 .nil)))) (mixed) (fun _ _ _ _ h => h) (by assumption) (PP.refl _) (by decide +kernel) (fun w H => ?_)
  refine OQ.ex rfl (fun w H => (by first | exact Ex.loadG1 Try.isAgg3 rfl | exact Ex.loadG2 Try.isAgg3 rfl | exact Ex.loadAt Try.isAgg3 rfl | exact Ex.loadCn Try.isAgg3 rfl | exact Ex.loadMo Try.isAgg3 rfl | exact Ex.loadE0 Try.isAgg3 rfl | exact Ex.loadE1 Try.isAgg3 rfl | exact Ex.loadP Try.isAgg3 rfl | exact Ex.loadQ Try.isAgg3 rfl | exact Ex.loadMh Try.isAgg3 rfl | exact Ex.loadR Try.isAgg3 rfl | exact Ex.loadIn1 Try.isAgg3 rfl (Holds.to (by assumption)) | exact Ex.loadM Try.isAgg3 rfl | exact Ex.loadVc Try.isAgg3 rfl)) rfl ?_
  refine OQ.ex rfl (fun w H => (by first | exact Ex.loadG1 Try.isAgg3 rfl | exact Ex.loadG2 Try.isAgg3 rfl | exact Ex.loadAt Try.isAgg3 rfl | exact Ex.loadCn Try.isAgg3 rfl | exact Ex.loadMo Try.isAgg3 rfl | exact Ex.loadE0 Try.isAgg3 rfl | exact Ex.loadE1 Try.isAgg3 rfl | exact Ex.loadP Try.isAgg3 rfl | exact Ex.loadQ Try.isAgg3 rfl | exact Ex.loadMh Try.isAgg3 rfl | exact Ex.loadR Try.isAgg3 rfl | exact Ex.loadIn1 Try.isAgg3 rfl (Holds.to (by assumption)) | exact Ex.loadM Try.isAgg3 rfl | exact Ex.loadVc Try.isAgg3 rfl)) rfl ?_
  refine OQ.step rfl ?_
  first | refine O.storeP Try.sizeOf3 rfl rfl (fun w H => ?_) | refine O.storeR Try.sizeOf3 rfl rfl (fun w H => ?_) | refine O.storeM Try.sizeOf3 rfl rfl (fun w H => ?_) | refine O.storeVc Try.sizeOf3 rfl rfl (fun w H => ?_) | refine O.storeQ Try.sizeOf3 rfl rfl (fun w H => ?_)
  refine O.thenNil ⟨(by first | exact Holds.to (by assumption) | assumption), ?_⟩
  refine OQ.last rfl (by decide +kernel) ?_
  first | refine O.storeP Try.sizeOf3 rfl rfl (fun w H => ?_) | refine O.storeR Try.sizeOf3 rfl rfl (fun w H => ?_) | refine O.storeM Try.sizeOf3 rfl rfl (fun w H => ?_) | refine O.storeVc Try.sizeOf3 rfl rfl (fun w H => ?_) | refine O.storeQ Try.sizeOf3 rfl rfl (fun w H => ?_)
  refine O.nil ?_
  refine hK6 _ _ _ ?_
  refine W.ret ?_
  try dsimp only [thenQ, blockQ, retQ]
  first | refine ⟨_, ⟨_, _, _, rfl, rfl, loadVar_one Try.isAgg3, _, _, _, rfl, rfl, loadVar_one Try.isAgg3, rfl⟩, ?_⟩ | (refine retD_mark ?_; intro w H; refine ⟨_, ⟨_, _, _, rfl, rfl, loadVar_one Try.isAgg3, _, _, _, rfl, rfl, loadVar_one Try.isAgg3, rfl⟩, ?_⟩) | (refine retD_mark2 ?_; intro w H; refine ⟨_, ⟨_, _, _, rfl, rfl, loadVar_one Try.isAgg3, _, _, _, rfl, rfl, loadVar_one Try.isAgg3, rfl⟩, ?_⟩)
  exact ⟨rfl, gh_open.2 ⟨ab, cap, es, Holds.to (by assumption)⟩⟩
end Go.Proofs.Ytblapiiinbppiaa
