import Derived.Test.YtblapiiinbppiaaMesh6
import Derived.Test.YtblapiiinbppiaaRrBase
--ARR
--INF
namespace Go.Proofs.Ytblapiiinbppiaa
open Go.Rr Go
set_option linter.unusedVariables false
/-- The vertices below k to which (or from which) a step leads. -/
def sl (g : Int → Int) : Nat → List Int
  | 0 => []
  | k + 1 => if g (k : Nat) ≠ 4611686018427387906 then sl g k ++ [(k : Int)] else sl g k
theorem sl_le (g : Int → Int) : ∀ k, (sl g k).length ≤ k
  | 0 => by simp [sl]
  | k + 1 => by have := sl_le g k; unfold sl; split <;> simp <;> omega
theorem sl_pre (g : Int → Int) : ∀ (j i : Nat), i ≤ j → ∃ r, sl g j = sl g i ++ r
  | 0, i, h => ⟨[], by rw [show i = 0 from by omega]; simp⟩
  | j + 1, i, h => by
    rcases Nat.lt_or_ge i (j + 1) with hi | hi
    · obtain ⟨r, hr⟩ := sl_pre g j i (by omega)
      by_cases hb : g (j : Nat) ≠ 4611686018427387906
      · exact ⟨r ++ [(j : Int)], by rw [show sl g (j + 1) = sl g j ++ [(j : Int)] from if_pos hb, hr, List.append_assoc]⟩
      · exact ⟨r, by rw [show sl g (j + 1) = sl g j from if_neg hb, hr]⟩
    · obtain rfl : i = j + 1 := by omega
      exact ⟨[], by simp⟩
theorem sl_t {g : Int → Int} {i : Nat} (hb : g (i : Nat) ≠ 4611686018427387906) : sl g (i + 1) = sl g i ++ [(i : Int)] := if_pos hb
theorem sl_f {g : Int → Int} {i : Nat} (hb : ¬ g (i : Nat) ≠ 4611686018427387906) : sl g (i + 1) = sl g i := if_neg hb
theorem sl_get (g : Int → Int) (n i : Nat) (h : i < n) (hb : g (i : Nat) ≠ 4611686018427387906) : (sl g i).length < (sl g n).length ∧ (sl g n).getD (sl g i).length default = (i : Int) := by
  obtain ⟨r, hr⟩ := sl_pre g n (i + 1) h
  rw [hr, sl_t hb]
  simp
theorem refStepsf_ct {w : World} {r : Nat} {n v : Int} {c : Int → Int → Int} {L : List HProp} (hg : Good n c) (H : Holds w (Rh r n c :: L)) :
    CT Try.prog 48 [.pointer (some ⟨r, 0, none⟩), .int .i64 v, .bool false] w fun x w' => x.oneCell' = true ∧ Holds w' (arr 3 (Value.int .i64) x (sl (fun x => c v x) n.toNat) :: Rh r n c :: L) := by
  have n1 := hg.n1
  have n2 := hg.n2
  refine CT.enter (N := 34) Try.func48 rfl rfl rfl rfl ?_
  refine W.seq (fun K0 hK0 => ?_)
  refine W.region ?_
  refine O.ex (Ex.assign rfl) rfl ?_
  refine O.nil ?_
  refine hK0 _ _ _ ?_
  refine W.seq (fun K1 hK1 => ?_)
  refine W.region ?_
  refine O.ex (Ex.assign rfl) rfl ?_
  refine O.nil ?_
  refine hK1 _ _ _ ?_
  refine W.seq (fun K2 hK2 => ?_)
  refine W.seq (fun K3 hK3 => ?_)
  refine W.region ?_
  refine O.ex (Ex.assign rfl) rfl ?_
  refine O.nil ?_
  refine hK3 _ _ _ ?_
  refine W.block ?_
  have H := arr_nil (T := 3) (e := Value.int .i64) H
  refine W.loop (σ := Nat × Value) (fun i => [(0, .pointer (some ⟨r, 0, none⟩)), (1, .int .i64 v), (2, .bool false), (7, i.2), (8, .int .i64 (i.1 : Int))]) (fun i ds w => ds = [] ∧ (i.1 : Int) ≤ n ∧ i.2.oneCell' = true ∧ Holds w (arr 3 (Value.int .i64) i.2 (sl (fun x => c v x) i.1) :: Rh r n c :: L)) (fun i => n.toNat - i.1) (0, .slice none 0 0) ⟨rfl, rfl, rfl, rfl, rfl, trivial⟩ ⟨rfl, by dsimp only; omega, rfl, Holds.to (by assumption)⟩ ?_
  clear H
  rintro ⟨i, va⟩ _ w ⟨rfl, hi, hva, H⟩
  dsimp only at hi hva H
  dsimp only
  have hsl := sl_le (fun x => c v x) i
  have hlo := hg.hi v (i : Nat)
  have hlo2 := hg.hi (i : Nat) v
  refine W.seq (fun K4 hK4 => ?_)
  refine W.seq (fun K5 hK5 => ?_)
  refine W.region ?_
  refine O.ex (Ex.move rfl) rfl ?_
  have H := (rh_open (m := r) (n := n) (c := c)).1 (Holds.to (by assumption))
  refine O.ex (Ex.move rfl) rfl ?_
  refine O.ex (by first | exact Ex.nilPtr rfl | exact Ex.nilFunc rfl | exact Ex.nilYield rfl) rfl ?_
  refine O.ex (by first | exact Ex.field0 fld32_0 rfl | exact Ex.field fld32_0 rfl | exact Ex.fieldS fld32_0 rfl | exact Ex.fieldIn fld32_0 rfl) rfl ?_
  refine O.ex (by first | exact Ex.loadMh Try.isAgg3 rfl | exact Ex.loadInF Try.isAgg3 rfl (Holds.to (by assumption)) | exact Ex.loadP Try.isAgg3 rfl | exact Ex.loadM Try.isAgg3 rfl | exact Ex.loadIn1 Try.isAgg3 rfl (Holds.to (by assumption)) | exact Ex.loadVc Try.isAgg3 rfl | exact Ex.loadR Try.isAgg3 rfl | exact Ex.loadQ Try.isAgg3 rfl) rfl ?_
  refine O.ex (Ex.lss rfl rfl) rfl ?_
  refine O.nil ?_
  refine hK5 _ _ _ ?_
  first | refine W.cond_p rfl (fun hlt => ?_) (fun hge => ?_) | refine W.cond_b rfl (fun hlt => ?_) (fun hge => ?_)
  · refine W.skip ?_
    refine hK4 _ _ _ ?_
    refine W.seq (fun K6 hK6 => ?_)
    refine W.block ?_
    refine W.seq (fun K7 hK7 => ?_)
    refine W.region ?_
    have H := (rh_open (m := r) (n := n) (c := c)).2 (Holds.to (by assumption))
    refine O.ex (Ex.move rfl) rfl ?_
    refine O.ex (Ex.move rfl) rfl ?_
    refine O.ex (Ex.move rfl) rfl ?_
    refine O.callF Try.call54 rfl rfl (CT.mono (refAt_ct hg (Holds.to (by assumption))) ?_)
    rintro _ w ⟨rfl, H⟩
    refine O.ex (Ex.assign rfl) rfl ?_
    refine O.nil ?_
    refine hK7 _ _ _ ?_
    refine W.seq (fun K8 hK8 => ?_)
    refine W.seq (fun K9 hK9 => ?_)
    refine W.region ?_
    refine O.ex (Ex.move rfl) rfl ?_
    refine O.nil ?_
    refine hK9 _ _ _ ?_
    refine W.known_f rfl (by first | rfl | decide) ?_
    refine W.skip ?_
    refine hK8 _ _ _ ?_
    refine W.seq (fun K10 hK10 => ?_)
    refine W.region ?_
    refine O.ex (Ex.move rfl) rfl ?_
    refine O.ex (Ex.lss rfl rfl) rfl ?_
    refine O.nil ?_
    refine hK10 _ _ _ ?_
    first | refine W.cond_p rfl (fun hin => ?_) (fun hout => ?_) | refine W.cond_b rfl (fun hin => ?_) (fun hout => ?_)
    · refine W.region ?_
      refine O.ex (Ex.move rfl) rfl ?_
      refine O.ex (Ex.move rfl) rfl ?_
      refine O.build1 (e := Value.int .i64) Try.runUnderlying51 Try.sizeOf3 Try.zeroValue3 rfl (fun v31 w hv31 H => ?_)
      refine O.appendR Try.runUnderlying51 Try.typeInfo3 (bt := 8) rfl Try.sizeOf3 Try.zeroValue3 rfl rfl (fun v32 w hv32 H => ?_)
      refine O.ex (Ex.assign rfl) rfl ?_
      refine O.nil ?_
      refine hK6 _ _ _ ?_
      refine W.region ?_
      refine O.ex (Ex.move rfl) rfl ?_
      refine O.ex (by first | exact Ex.addI rfl rfl | exact Ex.add rfl rfl rfl) rfl ?_
      refine O.ex (Ex.assign rfl) rfl ?_
      refine O.nil ?_
      first
      | exact ⟨(i + 1, _), ⟨rfl, rfl, rfl, rfl, rfl, trivial⟩, ⟨rfl, by dsimp only; omega, by assumption, by rw [sl_t (g := (fun x => c v x)) (show c v (i : Nat) ≠ 4611686018427387906 by omega)]; exact Holds.to (by assumption)⟩, by dsimp only; omega⟩
      | exact ⟨(i + 1, _), ⟨rfl, rfl, rfl, rfl, rfl, trivial⟩, ⟨rfl, by dsimp only; omega, by assumption, by rw [sl_f (g := (fun x => c v x)) (show ¬ c v (i : Nat) ≠ 4611686018427387906 by omega)]; exact Holds.to (by assumption)⟩, by dsimp only; omega⟩
    · refine W.skip ?_
      refine hK6 _ _ _ ?_
      refine W.region ?_
      refine O.ex (Ex.move rfl) rfl ?_
      refine O.ex (by first | exact Ex.addI rfl rfl | exact Ex.add rfl rfl rfl) rfl ?_
      refine O.ex (Ex.assign rfl) rfl ?_
      refine O.nil ?_
      first
      | exact ⟨(i + 1, _), ⟨rfl, rfl, rfl, rfl, rfl, trivial⟩, ⟨rfl, by dsimp only; omega, by assumption, by rw [sl_t (g := (fun x => c v x)) (show c v (i : Nat) ≠ 4611686018427387906 by omega)]; exact Holds.to (by assumption)⟩, by dsimp only; omega⟩
      | exact ⟨(i + 1, _), ⟨rfl, rfl, rfl, rfl, rfl, trivial⟩, ⟨rfl, by dsimp only; omega, by assumption, by rw [sl_f (g := (fun x => c v x)) (show ¬ c v (i : Nat) ≠ 4611686018427387906 by omega)]; exact Holds.to (by assumption)⟩, by dsimp only; omega⟩
  · refine W.exit ?_
    refine hK2 _ _ _ ?_
    refine W.seq (fun K11 hK11 => ?_)
    refine W.region ?_
    refine O.ex (Ex.move rfl) rfl ?_
    refine O.ex (Ex.assign rfl) rfl ?_
    refine O.nil ?_
    refine hK11 _ _ _ ?_
    refine W.ret ?_
    try dsimp only [thenQ, blockQ, retQ]
    first | refine ⟨_, ⟨_, _, rfl, rfl, rfl⟩, ?_⟩ | (refine retD_mark ?_; intro w H; refine ⟨_, ⟨_, _, rfl, rfl, rfl⟩, ?_⟩) | (refine retD_mark2 ?_; intro w H; refine ⟨_, ⟨_, _, rfl, rfl, rfl⟩, ?_⟩)
    obtain rfl : i = n.toNat := by omega
    exact ⟨by assumption, Holds.to ((rh_open (m := r) (n := n) (c := c)).2 (Holds.to (by assumption)))⟩
set_option maxHeartbeats 1000000 in
theorem goesf_ct {w : World} {m r : Nat} {n v q : Int} {c : Int → Int → Int} {L : List HProp} (hg : Good n c) (q0 : 0 ≤ q) (q1 : q ≤ 255) (H : Holds w (Mh m n c :: Rh r n c :: L)) :
    CT Try.prog 25 [.pointer (some ⟨m, 0, none⟩), .pointer (some ⟨r, 0, none⟩), .int .i64 v, .bool false, .int .i64 q] w fun x w' => x = .bool true ∧ Holds w' (Mh m n c :: Rh r n c :: L) := by
  have n1 := hg.n1
  have n2 := hg.n2
  have hN : ((n.toNat : Nat) : Int) = n := by omega
  have hsl := sl_le (fun x => c v x) n.toNat
  refine CT.enter (N := 86) Try.func25 rfl rfl rfl rfl ?_
  refine W.seq (fun K0 hK0 => ?_)
  refine W.region ?_
  refine O.boxP rfl (fun b6 w H => ?_)
  refine O.boxP rfl (fun b7 w H => ?_)
  refine O.boxP rfl (fun b8 w H => ?_)
  refine O.boxP rfl (fun b9 w H => ?_)
  refine O.allocP Try.zeroValue4 (fun b10 w H => ?_)
  refine O.nil ?_
  refine hK0 _ _ _ ?_
  refine W.seq (fun K1 hK1 => ?_)
  refine W.region ?_
  refine O.ex (by first | exact Ex.loadP Try.isAgg26 rfl | exact Ex.loadQ Try.isAgg26 rfl | exact Ex.loadMh Try.isAgg26 rfl | exact Ex.loadR Try.isAgg26 rfl | exact Ex.loadInF Try.isAgg26 rfl (Holds.to (by assumption)) | exact Ex.loadIn1 Try.isAgg26 rfl (Holds.to (by assumption)) | exact Ex.loadM Try.isAgg26 rfl | exact Ex.loadVc Try.isAgg26 rfl) rfl ?_
  refine O.ex (by first | exact Ex.loadP Try.isAgg3 rfl | exact Ex.loadQ Try.isAgg3 rfl | exact Ex.loadMh Try.isAgg3 rfl | exact Ex.loadR Try.isAgg3 rfl | exact Ex.loadInF Try.isAgg3 rfl (Holds.to (by assumption)) | exact Ex.loadIn1 Try.isAgg3 rfl (Holds.to (by assumption)) | exact Ex.loadM Try.isAgg3 rfl | exact Ex.loadVc Try.isAgg3 rfl) rfl ?_
  refine O.ex (by first | exact Ex.loadP Try.isAgg4 rfl | exact Ex.loadQ Try.isAgg4 rfl | exact Ex.loadMh Try.isAgg4 rfl | exact Ex.loadR Try.isAgg4 rfl | exact Ex.loadInF Try.isAgg4 rfl (Holds.to (by assumption)) | exact Ex.loadIn1 Try.isAgg4 rfl (Holds.to (by assumption)) | exact Ex.loadM Try.isAgg4 rfl | exact Ex.loadVc Try.isAgg4 rfl) rfl ?_
  refine O.callF Try.call48 rfl rfl (CT.mono (refStepsf_ct hg (Holds.to (by assumption))) ?_)
  rintro _ w ⟨hva, H⟩
  rename_i v19
  refine O.allocP Try.zeroValue51 (fun b11 w H => ?_)
  first | refine O.storeP Try.sizeOf51 rfl rfl (fun w H => ?_) | refine O.storeR Try.sizeOf51 rfl rfl (fun w H => ?_) | refine O.storeM Try.sizeOf51 rfl rfl (fun w H => ?_) | refine O.storeVc Try.sizeOf51 rfl rfl (fun w H => ?_)
  refine O.nil ?_
  refine hK1 _ _ _ ?_
  refine W.seq (fun K2 hK2 => ?_)
  refine W.region ?_
  refine O.allocP Try.zeroValue3 (fun b12 w H => ?_)
  first | refine O.storeP Try.sizeOf3 rfl rfl (fun w H => ?_) | refine O.storeR Try.sizeOf3 rfl rfl (fun w H => ?_) | refine O.storeM Try.sizeOf3 rfl rfl (fun w H => ?_) | refine O.storeVc Try.sizeOf3 rfl rfl (fun w H => ?_)
  refine O.nil ?_
  refine hK2 _ _ _ ?_
  refine W.seq (fun K3 hK3 => ?_)
  refine W.region ?_
  refine O.ex (Ex.move rfl) rfl ?_
  refine O.ex (by first | exact Ex.loadP Try.isAgg3 rfl | exact Ex.loadQ Try.isAgg3 rfl | exact Ex.loadMh Try.isAgg3 rfl | exact Ex.loadR Try.isAgg3 rfl | exact Ex.loadInF Try.isAgg3 rfl (Holds.to (by assumption)) | exact Ex.loadIn1 Try.isAgg3 rfl (Holds.to (by assumption)) | exact Ex.loadM Try.isAgg3 rfl | exact Ex.loadVc Try.isAgg3 rfl) rfl ?_
  refine O.callF Try.call56 rfl rfl (CT.mono (out_ct (Holds.to (by assumption))) ?_)
  rintro _ w ⟨d3, d5, d4, rfl, H⟩
  refine O.ex (Ex.assign rfl) rfl ?_
  refine O.nil ?_
  refine hK3 _ _ _ ?_
  refine W.seq (fun K4 hK4 => ?_)
  refine W.seq (fun K5 hK5 => ?_)
  refine W.region ?_
  refine O.ex (by first | exact Ex.loadP Try.isAgg4 rfl | exact Ex.loadQ Try.isAgg4 rfl | exact Ex.loadMh Try.isAgg4 rfl | exact Ex.loadR Try.isAgg4 rfl | exact Ex.loadInF Try.isAgg4 rfl (Holds.to (by assumption)) | exact Ex.loadIn1 Try.isAgg4 rfl (Holds.to (by assumption)) | exact Ex.loadM Try.isAgg4 rfl | exact Ex.loadVc Try.isAgg4 rfl) rfl ?_
  refine O.nil ?_
  refine hK5 _ _ _ ?_
  refine W.known_f rfl (by first | rfl | decide | (refine decide_eq_false ?_; omega) | (refine decide_eq_true ?_; omega) | (refine decide_eq_false (fun hh => hh ?_); rw [Int.toNat_natCast]; exact hix) | exact decide_eq_false (fun hh => hh rfl)) ?_
  refine W.skip ?_
  refine hK4 _ _ _ ?_
  refine W.seq (fun K6 hK6 => ?_)
  refine W.seq (fun K7 hK7 => ?_)
  refine W.region ?_
  refine O.ex (Ex.move rfl) rfl ?_
  refine O.nil ?_
  refine hK7 _ _ _ ?_
  refine W.block ?_
  have H : Holds w (capsS d3 d5 d4 m (atV m) v :: Mh m n c :: pt b10 (.cells #[.bool false] 4 (0, 0)) :: arr 3 (Value.int .i64) v19 (sl (fun x => c v x) n.toNat) :: pt b12 (.cells #[.int .i64 ((sl (fun x => c v x) 0).length : Int)] 3 (0, 0)) :: pt b11 (.cells #[v19] 51 (0, 0)) :: pt b6 (.cells #[.pointer (some ⟨r, 0, none⟩)] 26 (0, 0)) :: pt b7 (.cells #[.int .i64 v] 3 (0, 0)) :: pt b8 (.cells #[.bool false] 4 (0, 0)) :: pt b9 (.cells #[.int .i64 q] 3 (0, 0)) :: Rh r n c :: L) := Holds.to (by assumption)
  refine W.rangeFunc rfl Try.call98 H ?_
  rintro LR kk D w hLR H
  refine CT.mono (steps1_ct (g := (fun x => c v x)) (J := fun i => LR .ready none :: dblk D :: pt b10 (.cells #[.bool false] 4 (0, 0)) :: arr 3 (Value.int .i64) v19 (sl (fun x => c v x) n.toNat) :: pt b12 (.cells #[.int .i64 ((sl (fun x => c v x) i).length : Int)] 3 (0, 0)) :: pt b11 (.cells #[v19] 51 (0, 0)) :: pt b6 (.cells #[.pointer (some ⟨r, 0, none⟩)] 26 (0, 0)) :: pt b7 (.cells #[.int .i64 v] 3 (0, 0)) :: pt b8 (.cells #[.bool false] 4 (0, 0)) :: pt b9 (.cells #[.int .i64 q] 3 (0, 0)) :: Rh r n c :: L) (φ := fun i => (sl (fun x => c v x) i).length = 0 ∨ ((sl (fun x => c v x) i).length : Int) < q)
    (S := fun w' => ∃ kk : Int, (kk = max q 1 ∧ kk ≤ (sl (fun x => c v x) n.toNat).length) ∧ Holds w' (capsS d3 d5 d4 m (atV m) v :: Mh m n c :: LR .done (some (.exit 0)) :: dblk D :: pt b10 (.cells #[.bool false] 4 (0, 0)) :: arr 3 (Value.int .i64) v19 (sl (fun x => c v x) n.toNat) :: pt b12 (.cells #[.int .i64 kk] 3 (0, 0)) :: pt b11 (.cells #[v19] 51 (0, 0)) :: pt b6 (.cells #[.pointer (some ⟨r, 0, none⟩)] 26 (0, 0)) :: pt b7 (.cells #[.int .i64 v] 3 (0, 0)) :: pt b8 (.cells #[.bool false] 4 (0, 0)) :: pt b9 (.cells #[.int .i64 q] 3 (0, 0)) :: Rh r n c :: L)) n2 n1 (.inl rfl) (Holds.to (by assumption)) (fun i w H => ?_) ?_ ?_) ?_
  · refine (vtAt (m := m) (u := v) (v := (i : Int)) hg (Holds.to (by assumption))).mono ?_
    rintro u w' ⟨e, H⟩
    exact ⟨e, Holds.to (by assumption)⟩
  · intro i w hi hne hφ H
    obtain ⟨hlt, hix⟩ := sl_get (fun x => c v x) n.toNat i (by omega) hne
    have hs1 : (sl (fun x => c v x) (i + 1)).length = (sl (fun x => c v x) i).length + 1 := by rw [sl_t (g := (fun x => c v x)) hne]; simp
    refine VT.round hLR (Holds.to (by assumption)) rfl rfl ?_
    refine W.seq (fun K8 hK8 => ?_)
    refine W.region ?_
    refine O.ex (Ex.assign rfl) rfl ?_
    refine O.nil ?_
    refine hK8 _ _ _ ?_
    refine W.region ?_
    refine O.ex (Ex.assign rfl) rfl ?_
    refine O.nil ?_
    refine ⟨_, Holds.to (by assumption), fun w H => ?_⟩
    refine W.block ?_
    refine W.seq (fun K9 hK9 => ?_)
    refine W.seq (fun K10 hK10 => ?_)
    refine W.region ?_
    refine O.ex (by first | exact Ex.loadP Try.isAgg3 rfl | exact Ex.loadQ Try.isAgg3 rfl | exact Ex.loadMh Try.isAgg3 rfl | exact Ex.loadR Try.isAgg3 rfl | exact Ex.loadInF Try.isAgg3 rfl (Holds.to (by assumption)) | exact Ex.loadIn1 Try.isAgg3 rfl (Holds.to (by assumption)) | exact Ex.loadM Try.isAgg3 rfl | exact Ex.loadVc Try.isAgg3 rfl) rfl ?_
    refine O.ex (by first | exact Ex.loadP Try.isAgg51 rfl | exact Ex.loadQ Try.isAgg51 rfl | exact Ex.loadMh Try.isAgg51 rfl | exact Ex.loadR Try.isAgg51 rfl | exact Ex.loadInF Try.isAgg51 rfl (Holds.to (by assumption)) | exact Ex.loadIn1 Try.isAgg51 rfl (Holds.to (by assumption)) | exact Ex.loadM Try.isAgg51 rfl | exact Ex.loadVc Try.isAgg51 rfl) rfl ?_
    refine O.ex (by first | exact Ex.lenR Try.runUnderlying51 rfl | exact Ex.lenIn Try.runUnderlying51 rfl | exact Ex.lenL Try.runUnderlying51 rfl | exact Ex.len rfl Try.runUnderlying51 rfl) rfl ?_
    refine O.ex (Ex.geq rfl rfl) rfl ?_
    refine O.ex (Ex.move rfl) rfl ?_
    refine O.known (t := 34) (c := false) rfl (by first | rfl | decide | (refine decide_eq_false ?_; omega) | (refine decide_eq_true ?_; omega) | (refine decide_eq_false (fun hh => hh ?_); rw [Int.toNat_natCast]; exact hix) | exact decide_eq_false (fun hh => hh rfl)) ?_
    refine O.guard_t rfl rfl ?_
    refine O.ex (by first | exact Ex.loadP Try.isAgg51 rfl | exact Ex.loadQ Try.isAgg51 rfl | exact Ex.loadMh Try.isAgg51 rfl | exact Ex.loadR Try.isAgg51 rfl | exact Ex.loadInF Try.isAgg51 rfl (Holds.to (by assumption)) | exact Ex.loadIn1 Try.isAgg51 rfl (Holds.to (by assumption)) | exact Ex.loadM Try.isAgg51 rfl | exact Ex.loadVc Try.isAgg51 rfl) rfl ?_
    refine O.guard_t rfl rfl ?_
    refine O.ex (by first | exact Ex.loadP Try.isAgg3 rfl | exact Ex.loadQ Try.isAgg3 rfl | exact Ex.loadMh Try.isAgg3 rfl | exact Ex.loadR Try.isAgg3 rfl | exact Ex.loadInF Try.isAgg3 rfl (Holds.to (by assumption)) | exact Ex.loadIn1 Try.isAgg3 rfl (Holds.to (by assumption)) | exact Ex.loadM Try.isAgg3 rfl | exact Ex.loadVc Try.isAgg3 rfl) rfl ?_
    refine O.guard_t rfl rfl ?_
    refine O.ex (by first | exact Ex.idxR Try.runUnderlying51 Try.sizeOf3 rfl rfl | exact Ex.idxIn Try.runUnderlying51 Try.sizeOf3 rfl rfl | exact Ex.idxS Try.runUnderlying51 Try.sizeOf3 rfl rfl | exact Ex.idx Try.runUnderlying51 Try.sizeOf3 rfl rfl (by omega) (by omega)) rfl ?_
    refine O.guard_t rfl rfl ?_
    refine O.ex (by first | exact Ex.loadR Try.isAgg3 rfl | exact Ex.loadIn1 Try.isAgg3 rfl (Holds.to (by assumption)) | exact Ex.loadInF Try.isAgg3 rfl (Holds.to (by assumption)) | exact Ex.loadP Try.isAgg3 rfl | exact Ex.loadMh Try.isAgg3 rfl | exact Ex.loadM Try.isAgg3 rfl | exact Ex.loadVc Try.isAgg3 rfl | exact Ex.loadQ Try.isAgg3 rfl) rfl ?_
    refine O.guard_t rfl rfl ?_
    refine O.ex (Ex.move rfl) rfl ?_
    refine O.guard_t rfl rfl ?_
    refine O.ex (Ex.neqI rfl rfl) rfl ?_
    refine O.ex (Ex.pick_f rfl rfl) rfl ?_
    refine O.ex (Ex.move rfl) rfl ?_
    refine O.known (t := 42) (c := false) rfl (by first | rfl | decide | (refine decide_eq_false ?_; omega) | (refine decide_eq_true ?_; omega) | (refine decide_eq_false (fun hh => hh ?_); rw [Int.toNat_natCast]; exact hix) | exact decide_eq_false (fun hh => hh rfl)) ?_
    refine O.guard_t rfl rfl ?_
    refine O.ex (by first | exact Ex.loadP Try.isAgg4 rfl | exact Ex.loadQ Try.isAgg4 rfl | exact Ex.loadMh Try.isAgg4 rfl | exact Ex.loadR Try.isAgg4 rfl | exact Ex.loadInF Try.isAgg4 rfl (Holds.to (by assumption)) | exact Ex.loadIn1 Try.isAgg4 rfl (Holds.to (by assumption)) | exact Ex.loadM Try.isAgg4 rfl | exact Ex.loadVc Try.isAgg4 rfl) rfl ?_
    refine O.guard_t rfl rfl ?_
    refine O.ex (by first | exact Ex.notD rfl | exact Ex.not rfl) rfl ?_
    refine O.guard_t rfl rfl ?_
    refine O.ex (Ex.move rfl) rfl ?_
    refine O.known (t := 45) (c := true) rfl (by first | rfl | decide | (refine decide_eq_false ?_; omega) | (refine decide_eq_true ?_; omega) | (refine decide_eq_false (fun hh => hh ?_); rw [Int.toNat_natCast]; exact hix) | exact decide_eq_false (fun hh => hh rfl)) ?_
    refine O.guard_t rfl rfl ?_
    refine O.ex (Ex.move rfl) rfl ?_
    refine O.guard_t rfl rfl ?_
    refine O.ex (by first | exact Ex.loadP Try.isAgg26 rfl | exact Ex.loadQ Try.isAgg26 rfl | exact Ex.loadMh Try.isAgg26 rfl | exact Ex.loadR Try.isAgg26 rfl | exact Ex.loadInF Try.isAgg26 rfl (Holds.to (by assumption)) | exact Ex.loadIn1 Try.isAgg26 rfl (Holds.to (by assumption)) | exact Ex.loadM Try.isAgg26 rfl | exact Ex.loadVc Try.isAgg26 rfl) rfl ?_
    refine O.guard_t rfl rfl ?_
    refine O.ex (by first | exact Ex.loadP Try.isAgg3 rfl | exact Ex.loadQ Try.isAgg3 rfl | exact Ex.loadMh Try.isAgg3 rfl | exact Ex.loadR Try.isAgg3 rfl | exact Ex.loadInF Try.isAgg3 rfl (Holds.to (by assumption)) | exact Ex.loadIn1 Try.isAgg3 rfl (Holds.to (by assumption)) | exact Ex.loadM Try.isAgg3 rfl | exact Ex.loadVc Try.isAgg3 rfl) rfl ?_
    refine O.guard_t rfl rfl ?_
    refine O.ex (Ex.move rfl) rfl ?_
    refine O.guard_t rfl rfl ?_
    refine O.callF Try.call54 rfl rfl (CT.mono (refAt_ct hg (Holds.to (by assumption))) ?_)
    rintro _ w ⟨rfl, H⟩
    refine O.guard_t rfl rfl ?_
    refine O.ex (Ex.neqI rfl rfl) rfl ?_
    refine O.guard_t rfl rfl ?_
    refine O.ex (Ex.pick_t rfl rfl) rfl ?_
    refine O.ex (Ex.pick_f rfl rfl) rfl ?_
    refine O.ex (Ex.move rfl) rfl ?_
    refine O.known (t := 54) (c := false) rfl (by first | rfl | decide | (refine decide_eq_false ?_; omega) | (refine decide_eq_true ?_; omega) | (refine decide_eq_false (fun hh => hh ?_); rw [Int.toNat_natCast]; exact hix) | exact decide_eq_false (fun hh => hh rfl)) ?_
    refine O.guard_t rfl rfl ?_
    refine O.ex (by first | exact Ex.loadP Try.isAgg4 rfl | exact Ex.loadQ Try.isAgg4 rfl | exact Ex.loadMh Try.isAgg4 rfl | exact Ex.loadR Try.isAgg4 rfl | exact Ex.loadInF Try.isAgg4 rfl (Holds.to (by assumption)) | exact Ex.loadIn1 Try.isAgg4 rfl (Holds.to (by assumption)) | exact Ex.loadM Try.isAgg4 rfl | exact Ex.loadVc Try.isAgg4 rfl) rfl ?_
    refine O.guard_t rfl rfl ?_
    refine O.ex (Ex.move rfl) rfl ?_
    refine O.known (t := 56) (c := false) rfl (by first | rfl | decide | (refine decide_eq_false ?_; omega) | (refine decide_eq_true ?_; omega) | (refine decide_eq_false (fun hh => hh ?_); rw [Int.toNat_natCast]; exact hix) | exact decide_eq_false (fun hh => hh rfl)) ?_
    refine O.guard_f rfl rfl rfl rfl ?_
    refine O.guard_f rfl rfl rfl rfl ?_
    refine O.guard_f rfl rfl rfl rfl ?_
    refine O.guard_f rfl rfl rfl rfl ?_
    refine O.guard_f rfl rfl rfl rfl ?_
    refine O.guard_f rfl rfl rfl rfl ?_
    refine O.guard_t rfl rfl ?_
    refine O.ex (Ex.pick_f rfl rfl) rfl ?_
    refine O.ex (Ex.pick_f rfl rfl) rfl ?_
    refine O.nil ?_
    refine hK10 _ _ _ ?_
    refine W.cond_f rfl ?_
    refine W.skip ?_
    refine hK9 _ _ _ ?_
    refine W.seq (fun K11 hK11 => ?_)
    refine W.region ?_
    refine O.ex (by first | exact Ex.loadP Try.isAgg3 rfl | exact Ex.loadQ Try.isAgg3 rfl | exact Ex.loadMh Try.isAgg3 rfl | exact Ex.loadR Try.isAgg3 rfl | exact Ex.loadInF Try.isAgg3 rfl (Holds.to (by assumption)) | exact Ex.loadIn1 Try.isAgg3 rfl (Holds.to (by assumption)) | exact Ex.loadM Try.isAgg3 rfl | exact Ex.loadVc Try.isAgg3 rfl) rfl ?_
    refine O.ex (by first | exact Ex.addI rfl rfl | exact Ex.add rfl rfl rfl) rfl ?_
    first | refine O.storeP Try.sizeOf3 rfl rfl (fun w H => ?_) | refine O.storeR Try.sizeOf3 rfl rfl (fun w H => ?_) | refine O.storeM Try.sizeOf3 rfl rfl (fun w H => ?_) | refine O.storeVc Try.sizeOf3 rfl rfl (fun w H => ?_)
    refine O.nil ?_
    refine hK11 _ _ _ ?_
    refine W.seq (fun K12 hK12 => ?_)
    refine W.region ?_
    refine O.ex (by first | exact Ex.loadP Try.isAgg3 rfl | exact Ex.loadQ Try.isAgg3 rfl | exact Ex.loadMh Try.isAgg3 rfl | exact Ex.loadR Try.isAgg3 rfl | exact Ex.loadInF Try.isAgg3 rfl (Holds.to (by assumption)) | exact Ex.loadIn1 Try.isAgg3 rfl (Holds.to (by assumption)) | exact Ex.loadM Try.isAgg3 rfl | exact Ex.loadVc Try.isAgg3 rfl) rfl ?_
    refine O.ex (by first | exact Ex.loadP Try.isAgg3 rfl | exact Ex.loadQ Try.isAgg3 rfl | exact Ex.loadMh Try.isAgg3 rfl | exact Ex.loadR Try.isAgg3 rfl | exact Ex.loadInF Try.isAgg3 rfl (Holds.to (by assumption)) | exact Ex.loadIn1 Try.isAgg3 rfl (Holds.to (by assumption)) | exact Ex.loadM Try.isAgg3 rfl | exact Ex.loadVc Try.isAgg3 rfl) rfl ?_
    refine O.ex (Ex.geq rfl rfl) rfl ?_
    refine O.nil ?_
    refine hK12 _ _ _ ?_
    first | refine W.cond_p rfl (fun h69 => ?_) (fun h69 => ?_) | refine W.cond_b rfl (fun h69 => ?_) (fun h69 => ?_)
    · refine W.exit ?_
      exact ⟨_, Holds.to (by assumption), fun w H => .inr ⟨rfl, ((sl (fun x => c v x) i).length : Int) + 1, ⟨by omega, by omega⟩, Holds.to (by assumption)⟩⟩
    · refine W.skip ?_
      exact ⟨_, Holds.to (by assumption), fun w H => .inl ⟨rfl, .inr (by omega), by rw [hs1]; exact Holds.to (by assumption)⟩⟩
  · intro i w hi hnn hφ H
    rw [sl_f (g := (fun x => c v x)) hnn]
    exact ⟨hφ, H⟩
  rintro _ w (⟨hφ, H⟩ | ⟨kk, ⟨hk1, hk2⟩, H⟩)
  all_goals refine rangeEnd (Holds.to (by assumption)) (by nofun) (fun w H => ?_)
  · skip
    refine hK6 _ _ _ ?_
    refine W.seq (fun K13 hK13 => ?_)
    refine W.region ?_
    refine O.ex (by first | exact Ex.loadP Try.isAgg3 rfl | exact Ex.loadQ Try.isAgg3 rfl | exact Ex.loadMh Try.isAgg3 rfl | exact Ex.loadR Try.isAgg3 rfl | exact Ex.loadInF Try.isAgg3 rfl (Holds.to (by assumption)) | exact Ex.loadIn1 Try.isAgg3 rfl (Holds.to (by assumption)) | exact Ex.loadM Try.isAgg3 rfl | exact Ex.loadVc Try.isAgg3 rfl) rfl ?_
    refine O.ex (by first | exact Ex.loadP Try.isAgg51 rfl | exact Ex.loadQ Try.isAgg51 rfl | exact Ex.loadMh Try.isAgg51 rfl | exact Ex.loadR Try.isAgg51 rfl | exact Ex.loadInF Try.isAgg51 rfl (Holds.to (by assumption)) | exact Ex.loadIn1 Try.isAgg51 rfl (Holds.to (by assumption)) | exact Ex.loadM Try.isAgg51 rfl | exact Ex.loadVc Try.isAgg51 rfl) rfl ?_
    refine O.ex (by first | exact Ex.lenR Try.runUnderlying51 rfl | exact Ex.lenIn Try.runUnderlying51 rfl | exact Ex.lenL Try.runUnderlying51 rfl | exact Ex.len rfl Try.runUnderlying51 rfl) rfl ?_
    refine O.ex (by first | exact Ex.loadP Try.isAgg3 rfl | exact Ex.loadQ Try.isAgg3 rfl | exact Ex.loadMh Try.isAgg3 rfl | exact Ex.loadR Try.isAgg3 rfl | exact Ex.loadInF Try.isAgg3 rfl (Holds.to (by assumption)) | exact Ex.loadIn1 Try.isAgg3 rfl (Holds.to (by assumption)) | exact Ex.loadM Try.isAgg3 rfl | exact Ex.loadVc Try.isAgg3 rfl) rfl ?_
    refine O.ex (Ex.maxI rfl rfl) rfl ?_
    refine O.ex (Ex.minI rfl rfl) rfl ?_
    refine O.ex (Ex.eqlI rfl rfl) rfl ?_
    refine O.ex (Ex.move rfl) rfl ?_
    refine O.known (t := 77) (c := true) rfl (by first | rfl | decide | (refine decide_eq_false ?_; omega) | (refine decide_eq_true ?_; omega) | (refine decide_eq_false (fun hh => hh ?_); rw [Int.toNat_natCast]; exact hix) | exact decide_eq_false (fun hh => hh rfl)) ?_
    refine O.guard_f rfl rfl rfl rfl ?_
    refine O.guard_f rfl rfl rfl rfl ?_
    refine O.guard_f rfl rfl rfl rfl ?_
    refine O.guard_f rfl rfl rfl rfl ?_
    refine O.guard_u rfl rfl rfl ?_
    refine O.guard_u rfl rfl rfl ?_
    refine O.guard_f rfl rfl rfl rfl ?_
    refine O.ex (Ex.pick_t rfl rfl) rfl ?_
    first | refine O.storeP Try.sizeOf4 rfl rfl (fun w H => ?_) | refine O.storeR Try.sizeOf4 rfl rfl (fun w H => ?_) | refine O.storeM Try.sizeOf4 rfl rfl (fun w H => ?_) | refine O.storeVc Try.sizeOf4 rfl rfl (fun w H => ?_)
    refine O.nil ?_
    refine hK13 _ _ _ ?_
    refine W.ret ?_
    try dsimp only [thenQ, blockQ, retQ]
    first | refine ⟨_, ⟨_, _, _, rfl, rfl, loadVar_one Try.isAgg4, rfl⟩, ?_⟩ | (refine retD_mark ?_; intro w H; refine ⟨_, ⟨_, _, _, rfl, rfl, loadVar_one Try.isAgg4, rfl⟩, ?_⟩) | (refine retD_mark2 ?_; intro w H; refine ⟨_, ⟨_, _, _, rfl, rfl, loadVar_one Try.isAgg4, rfl⟩, ?_⟩)
    exact ⟨rfl, Holds.to (by assumption)⟩
  · skip
    refine W.exit ?_
    refine hK6 _ _ _ ?_
    refine W.seq (fun K14 hK14 => ?_)
    refine W.region ?_
    refine O.ex (by first | exact Ex.loadP Try.isAgg3 rfl | exact Ex.loadQ Try.isAgg3 rfl | exact Ex.loadMh Try.isAgg3 rfl | exact Ex.loadR Try.isAgg3 rfl | exact Ex.loadInF Try.isAgg3 rfl (Holds.to (by assumption)) | exact Ex.loadIn1 Try.isAgg3 rfl (Holds.to (by assumption)) | exact Ex.loadM Try.isAgg3 rfl | exact Ex.loadVc Try.isAgg3 rfl) rfl ?_
    refine O.ex (by first | exact Ex.loadP Try.isAgg51 rfl | exact Ex.loadQ Try.isAgg51 rfl | exact Ex.loadMh Try.isAgg51 rfl | exact Ex.loadR Try.isAgg51 rfl | exact Ex.loadInF Try.isAgg51 rfl (Holds.to (by assumption)) | exact Ex.loadIn1 Try.isAgg51 rfl (Holds.to (by assumption)) | exact Ex.loadM Try.isAgg51 rfl | exact Ex.loadVc Try.isAgg51 rfl) rfl ?_
    refine O.ex (by first | exact Ex.lenR Try.runUnderlying51 rfl | exact Ex.lenIn Try.runUnderlying51 rfl | exact Ex.lenL Try.runUnderlying51 rfl | exact Ex.len rfl Try.runUnderlying51 rfl) rfl ?_
    refine O.ex (by first | exact Ex.loadP Try.isAgg3 rfl | exact Ex.loadQ Try.isAgg3 rfl | exact Ex.loadMh Try.isAgg3 rfl | exact Ex.loadR Try.isAgg3 rfl | exact Ex.loadInF Try.isAgg3 rfl (Holds.to (by assumption)) | exact Ex.loadIn1 Try.isAgg3 rfl (Holds.to (by assumption)) | exact Ex.loadM Try.isAgg3 rfl | exact Ex.loadVc Try.isAgg3 rfl) rfl ?_
    refine O.ex (Ex.maxI rfl rfl) rfl ?_
    refine O.ex (Ex.minI rfl rfl) rfl ?_
    refine O.ex (Ex.eqlI rfl rfl) rfl ?_
    refine O.ex (Ex.move rfl) rfl ?_
    refine O.known (t := 77) (c := true) rfl (by first | rfl | decide | (refine decide_eq_false ?_; omega) | (refine decide_eq_true ?_; omega) | (refine decide_eq_false (fun hh => hh ?_); rw [Int.toNat_natCast]; exact hix) | exact decide_eq_false (fun hh => hh rfl)) ?_
    refine O.guard_f rfl rfl rfl rfl ?_
    refine O.guard_f rfl rfl rfl rfl ?_
    refine O.guard_f rfl rfl rfl rfl ?_
    refine O.guard_f rfl rfl rfl rfl ?_
    refine O.guard_u rfl rfl rfl ?_
    refine O.guard_u rfl rfl rfl ?_
    refine O.guard_f rfl rfl rfl rfl ?_
    refine O.ex (Ex.pick_t rfl rfl) rfl ?_
    first | refine O.storeP Try.sizeOf4 rfl rfl (fun w H => ?_) | refine O.storeR Try.sizeOf4 rfl rfl (fun w H => ?_) | refine O.storeM Try.sizeOf4 rfl rfl (fun w H => ?_) | refine O.storeVc Try.sizeOf4 rfl rfl (fun w H => ?_)
    refine O.nil ?_
    refine hK14 _ _ _ ?_
    refine W.ret ?_
    try dsimp only [thenQ, blockQ, retQ]
    first | refine ⟨_, ⟨_, _, _, rfl, rfl, loadVar_one Try.isAgg4, rfl⟩, ?_⟩ | (refine retD_mark ?_; intro w H; refine ⟨_, ⟨_, _, _, rfl, rfl, loadVar_one Try.isAgg4, rfl⟩, ?_⟩) | (refine retD_mark2 ?_; intro w H; refine ⟨_, ⟨_, _, _, rfl, rfl, loadVar_one Try.isAgg4, rfl⟩, ?_⟩)
    exact ⟨rfl, Holds.to (by assumption)⟩
theorem refStepst_ct {w : World} {r : Nat} {n v : Int} {c : Int → Int → Int} {L : List HProp} (hg : Good n c) (H : Holds w (Rh r n c :: L)) :
    CT Try.prog 48 [.pointer (some ⟨r, 0, none⟩), .int .i64 v, .bool true] w fun x w' => x.oneCell' = true ∧ Holds w' (arr 3 (Value.int .i64) x (sl (fun x => c x v) n.toNat) :: Rh r n c :: L) := by
  have n1 := hg.n1
  have n2 := hg.n2
  refine CT.enter (N := 34) Try.func48 rfl rfl rfl rfl ?_
  refine W.seq (fun K0 hK0 => ?_)
  refine W.region ?_
  refine O.ex (Ex.assign rfl) rfl ?_
  refine O.nil ?_
  refine hK0 _ _ _ ?_
  refine W.seq (fun K1 hK1 => ?_)
  refine W.region ?_
  refine O.ex (Ex.assign rfl) rfl ?_
  refine O.nil ?_
  refine hK1 _ _ _ ?_
  refine W.seq (fun K2 hK2 => ?_)
  refine W.seq (fun K3 hK3 => ?_)
  refine W.region ?_
  refine O.ex (Ex.assign rfl) rfl ?_
  refine O.nil ?_
  refine hK3 _ _ _ ?_
  refine W.block ?_
  have H := arr_nil (T := 3) (e := Value.int .i64) H
  refine W.loop (σ := Nat × Value) (fun i => [(0, .pointer (some ⟨r, 0, none⟩)), (1, .int .i64 v), (2, .bool true), (7, i.2), (8, .int .i64 (i.1 : Int))]) (fun i ds w => ds = [] ∧ (i.1 : Int) ≤ n ∧ i.2.oneCell' = true ∧ Holds w (arr 3 (Value.int .i64) i.2 (sl (fun x => c x v) i.1) :: Rh r n c :: L)) (fun i => n.toNat - i.1) (0, .slice none 0 0) ⟨rfl, rfl, rfl, rfl, rfl, trivial⟩ ⟨rfl, by dsimp only; omega, rfl, Holds.to (by assumption)⟩ ?_
  clear H
  rintro ⟨i, va⟩ _ w ⟨rfl, hi, hva, H⟩
  dsimp only at hi hva H
  dsimp only
  have hsl := sl_le (fun x => c x v) i
  have hlo := hg.hi v (i : Nat)
  have hlo2 := hg.hi (i : Nat) v
  refine W.seq (fun K4 hK4 => ?_)
  refine W.seq (fun K5 hK5 => ?_)
  refine W.region ?_
  refine O.ex (Ex.move rfl) rfl ?_
  have H := (rh_open (m := r) (n := n) (c := c)).1 (Holds.to (by assumption))
  refine O.ex (Ex.move rfl) rfl ?_
  refine O.ex (by first | exact Ex.nilPtr rfl | exact Ex.nilFunc rfl | exact Ex.nilYield rfl) rfl ?_
  refine O.ex (by first | exact Ex.field0 fld32_0 rfl | exact Ex.field fld32_0 rfl | exact Ex.fieldS fld32_0 rfl | exact Ex.fieldIn fld32_0 rfl) rfl ?_
  refine O.ex (by first | exact Ex.loadMh Try.isAgg3 rfl | exact Ex.loadInF Try.isAgg3 rfl (Holds.to (by assumption)) | exact Ex.loadP Try.isAgg3 rfl | exact Ex.loadM Try.isAgg3 rfl | exact Ex.loadIn1 Try.isAgg3 rfl (Holds.to (by assumption)) | exact Ex.loadVc Try.isAgg3 rfl | exact Ex.loadR Try.isAgg3 rfl | exact Ex.loadQ Try.isAgg3 rfl) rfl ?_
  refine O.ex (Ex.lss rfl rfl) rfl ?_
  refine O.nil ?_
  refine hK5 _ _ _ ?_
  first | refine W.cond_p rfl (fun hlt => ?_) (fun hge => ?_) | refine W.cond_b rfl (fun hlt => ?_) (fun hge => ?_)
  · refine W.skip ?_
    refine hK4 _ _ _ ?_
    refine W.seq (fun K6 hK6 => ?_)
    refine W.block ?_
    refine W.seq (fun K7 hK7 => ?_)
    refine W.region ?_
    have H := (rh_open (m := r) (n := n) (c := c)).2 (Holds.to (by assumption))
    refine O.ex (Ex.move rfl) rfl ?_
    refine O.ex (Ex.move rfl) rfl ?_
    refine O.ex (Ex.move rfl) rfl ?_
    refine O.callF Try.call54 rfl rfl (CT.mono (refAt_ct hg (Holds.to (by assumption))) ?_)
    rintro _ w ⟨rfl, H⟩
    refine O.ex (Ex.assign rfl) rfl ?_
    refine O.nil ?_
    refine hK7 _ _ _ ?_
    refine W.seq (fun K8 hK8 => ?_)
    refine W.seq (fun K9 hK9 => ?_)
    refine W.region ?_
    refine O.ex (Ex.move rfl) rfl ?_
    refine O.nil ?_
    refine hK9 _ _ _ ?_
    refine W.known_t rfl (by first | rfl | decide) ?_
    refine W.region ?_
    refine O.ex (Ex.move rfl) rfl ?_
    refine O.ex (Ex.move rfl) rfl ?_
    refine O.ex (Ex.move rfl) rfl ?_
    refine O.callF Try.call54 rfl rfl (CT.mono (refAt_ct hg (Holds.to (by assumption))) ?_)
    rintro _ w ⟨rfl, H⟩
    refine O.ex (Ex.assign rfl) rfl ?_
    refine O.nil ?_
    refine hK8 _ _ _ ?_
    refine W.seq (fun K10 hK10 => ?_)
    refine W.region ?_
    refine O.ex (Ex.move rfl) rfl ?_
    refine O.ex (Ex.lss rfl rfl) rfl ?_
    refine O.nil ?_
    refine hK10 _ _ _ ?_
    first | refine W.cond_p rfl (fun hin => ?_) (fun hout => ?_) | refine W.cond_b rfl (fun hin => ?_) (fun hout => ?_)
    · refine W.region ?_
      refine O.ex (Ex.move rfl) rfl ?_
      refine O.ex (Ex.move rfl) rfl ?_
      refine O.build1 (e := Value.int .i64) Try.runUnderlying51 Try.sizeOf3 Try.zeroValue3 rfl (fun v31 w hv31 H => ?_)
      refine O.appendR Try.runUnderlying51 Try.typeInfo3 (bt := 8) rfl Try.sizeOf3 Try.zeroValue3 rfl rfl (fun v32 w hv32 H => ?_)
      refine O.ex (Ex.assign rfl) rfl ?_
      refine O.nil ?_
      refine hK6 _ _ _ ?_
      refine W.region ?_
      refine O.ex (Ex.move rfl) rfl ?_
      refine O.ex (by first | exact Ex.addI rfl rfl | exact Ex.add rfl rfl rfl) rfl ?_
      refine O.ex (Ex.assign rfl) rfl ?_
      refine O.nil ?_
      first
      | exact ⟨(i + 1, _), ⟨rfl, rfl, rfl, rfl, rfl, trivial⟩, ⟨rfl, by dsimp only; omega, by assumption, by rw [sl_t (g := (fun x => c x v)) (show c (i : Nat) v ≠ 4611686018427387906 by omega)]; exact Holds.to (by assumption)⟩, by dsimp only; omega⟩
      | exact ⟨(i + 1, _), ⟨rfl, rfl, rfl, rfl, rfl, trivial⟩, ⟨rfl, by dsimp only; omega, by assumption, by rw [sl_f (g := (fun x => c x v)) (show ¬ c (i : Nat) v ≠ 4611686018427387906 by omega)]; exact Holds.to (by assumption)⟩, by dsimp only; omega⟩
    · refine W.skip ?_
      refine hK6 _ _ _ ?_
      refine W.region ?_
      refine O.ex (Ex.move rfl) rfl ?_
      refine O.ex (by first | exact Ex.addI rfl rfl | exact Ex.add rfl rfl rfl) rfl ?_
      refine O.ex (Ex.assign rfl) rfl ?_
      refine O.nil ?_
      first
      | exact ⟨(i + 1, _), ⟨rfl, rfl, rfl, rfl, rfl, trivial⟩, ⟨rfl, by dsimp only; omega, by assumption, by rw [sl_t (g := (fun x => c x v)) (show c (i : Nat) v ≠ 4611686018427387906 by omega)]; exact Holds.to (by assumption)⟩, by dsimp only; omega⟩
      | exact ⟨(i + 1, _), ⟨rfl, rfl, rfl, rfl, rfl, trivial⟩, ⟨rfl, by dsimp only; omega, by assumption, by rw [sl_f (g := (fun x => c x v)) (show ¬ c (i : Nat) v ≠ 4611686018427387906 by omega)]; exact Holds.to (by assumption)⟩, by dsimp only; omega⟩
  · refine W.exit ?_
    refine hK2 _ _ _ ?_
    refine W.seq (fun K11 hK11 => ?_)
    refine W.region ?_
    refine O.ex (Ex.move rfl) rfl ?_
    refine O.ex (Ex.assign rfl) rfl ?_
    refine O.nil ?_
    refine hK11 _ _ _ ?_
    refine W.ret ?_
    try dsimp only [thenQ, blockQ, retQ]
    first | refine ⟨_, ⟨_, _, rfl, rfl, rfl⟩, ?_⟩ | (refine retD_mark ?_; intro w H; refine ⟨_, ⟨_, _, rfl, rfl, rfl⟩, ?_⟩) | (refine retD_mark2 ?_; intro w H; refine ⟨_, ⟨_, _, rfl, rfl, rfl⟩, ?_⟩)
    obtain rfl : i = n.toNat := by omega
    exact ⟨by assumption, Holds.to ((rh_open (m := r) (n := n) (c := c)).2 (Holds.to (by assumption)))⟩
set_option maxHeartbeats 1000000 in
theorem goest_ct {w : World} {m r : Nat} {n v q : Int} {c : Int → Int → Int} {L : List HProp} (hg : Good n c) (q0 : 0 ≤ q) (q1 : q ≤ 255) (H : Holds w (Mh m n c :: Rh r n c :: L)) :
    CT Try.prog 25 [.pointer (some ⟨m, 0, none⟩), .pointer (some ⟨r, 0, none⟩), .int .i64 v, .bool true, .int .i64 q] w fun x w' => x = .bool true ∧ Holds w' (Mh m n c :: Rh r n c :: L) := by
  have n1 := hg.n1
  have n2 := hg.n2
  have hN : ((n.toNat : Nat) : Int) = n := by omega
  have hsl := sl_le (fun x => c x v) n.toNat
  refine CT.enter (N := 86) Try.func25 rfl rfl rfl rfl ?_
  refine W.seq (fun K0 hK0 => ?_)
  refine W.region ?_
  refine O.boxP rfl (fun b6 w H => ?_)
  refine O.boxP rfl (fun b7 w H => ?_)
  refine O.boxP rfl (fun b8 w H => ?_)
  refine O.boxP rfl (fun b9 w H => ?_)
  refine O.allocP Try.zeroValue4 (fun b10 w H => ?_)
  refine O.nil ?_
  refine hK0 _ _ _ ?_
  refine W.seq (fun K1 hK1 => ?_)
  refine W.region ?_
  refine O.ex (by first | exact Ex.loadP Try.isAgg26 rfl | exact Ex.loadQ Try.isAgg26 rfl | exact Ex.loadMh Try.isAgg26 rfl | exact Ex.loadR Try.isAgg26 rfl | exact Ex.loadInF Try.isAgg26 rfl (Holds.to (by assumption)) | exact Ex.loadIn1 Try.isAgg26 rfl (Holds.to (by assumption)) | exact Ex.loadM Try.isAgg26 rfl | exact Ex.loadVc Try.isAgg26 rfl) rfl ?_
  refine O.ex (by first | exact Ex.loadP Try.isAgg3 rfl | exact Ex.loadQ Try.isAgg3 rfl | exact Ex.loadMh Try.isAgg3 rfl | exact Ex.loadR Try.isAgg3 rfl | exact Ex.loadInF Try.isAgg3 rfl (Holds.to (by assumption)) | exact Ex.loadIn1 Try.isAgg3 rfl (Holds.to (by assumption)) | exact Ex.loadM Try.isAgg3 rfl | exact Ex.loadVc Try.isAgg3 rfl) rfl ?_
  refine O.ex (by first | exact Ex.loadP Try.isAgg4 rfl | exact Ex.loadQ Try.isAgg4 rfl | exact Ex.loadMh Try.isAgg4 rfl | exact Ex.loadR Try.isAgg4 rfl | exact Ex.loadInF Try.isAgg4 rfl (Holds.to (by assumption)) | exact Ex.loadIn1 Try.isAgg4 rfl (Holds.to (by assumption)) | exact Ex.loadM Try.isAgg4 rfl | exact Ex.loadVc Try.isAgg4 rfl) rfl ?_
  refine O.callF Try.call48 rfl rfl (CT.mono (refStepst_ct hg (Holds.to (by assumption))) ?_)
  rintro _ w ⟨hva, H⟩
  rename_i v19
  refine O.allocP Try.zeroValue51 (fun b11 w H => ?_)
  first | refine O.storeP Try.sizeOf51 rfl rfl (fun w H => ?_) | refine O.storeR Try.sizeOf51 rfl rfl (fun w H => ?_) | refine O.storeM Try.sizeOf51 rfl rfl (fun w H => ?_) | refine O.storeVc Try.sizeOf51 rfl rfl (fun w H => ?_)
  refine O.nil ?_
  refine hK1 _ _ _ ?_
  refine W.seq (fun K2 hK2 => ?_)
  refine W.region ?_
  refine O.allocP Try.zeroValue3 (fun b12 w H => ?_)
  first | refine O.storeP Try.sizeOf3 rfl rfl (fun w H => ?_) | refine O.storeR Try.sizeOf3 rfl rfl (fun w H => ?_) | refine O.storeM Try.sizeOf3 rfl rfl (fun w H => ?_) | refine O.storeVc Try.sizeOf3 rfl rfl (fun w H => ?_)
  refine O.nil ?_
  refine hK2 _ _ _ ?_
  refine W.seq (fun K3 hK3 => ?_)
  refine W.region ?_
  refine O.ex (Ex.move rfl) rfl ?_
  refine O.ex (by first | exact Ex.loadP Try.isAgg3 rfl | exact Ex.loadQ Try.isAgg3 rfl | exact Ex.loadMh Try.isAgg3 rfl | exact Ex.loadR Try.isAgg3 rfl | exact Ex.loadInF Try.isAgg3 rfl (Holds.to (by assumption)) | exact Ex.loadIn1 Try.isAgg3 rfl (Holds.to (by assumption)) | exact Ex.loadM Try.isAgg3 rfl | exact Ex.loadVc Try.isAgg3 rfl) rfl ?_
  refine O.callF Try.call56 rfl rfl (CT.mono (out_ct (Holds.to (by assumption))) ?_)
  rintro _ w ⟨d3, d5, d4, rfl, H⟩
  refine O.ex (Ex.assign rfl) rfl ?_
  refine O.nil ?_
  refine hK3 _ _ _ ?_
  refine W.seq (fun K4 hK4 => ?_)
  refine W.seq (fun K5 hK5 => ?_)
  refine W.region ?_
  refine O.ex (by first | exact Ex.loadP Try.isAgg4 rfl | exact Ex.loadQ Try.isAgg4 rfl | exact Ex.loadMh Try.isAgg4 rfl | exact Ex.loadR Try.isAgg4 rfl | exact Ex.loadInF Try.isAgg4 rfl (Holds.to (by assumption)) | exact Ex.loadIn1 Try.isAgg4 rfl (Holds.to (by assumption)) | exact Ex.loadM Try.isAgg4 rfl | exact Ex.loadVc Try.isAgg4 rfl) rfl ?_
  refine O.nil ?_
  refine hK5 _ _ _ ?_
  refine W.known_t rfl (by first | rfl | decide | (refine decide_eq_false ?_; omega) | (refine decide_eq_true ?_; omega) | (refine decide_eq_false (fun hh => hh ?_); rw [Int.toNat_natCast]; exact hix) | exact decide_eq_false (fun hh => hh rfl)) ?_
  refine W.region ?_
  refine O.ex (Ex.move rfl) rfl ?_
  refine O.ex (by first | exact Ex.loadP Try.isAgg3 rfl | exact Ex.loadQ Try.isAgg3 rfl | exact Ex.loadMh Try.isAgg3 rfl | exact Ex.loadR Try.isAgg3 rfl | exact Ex.loadInF Try.isAgg3 rfl (Holds.to (by assumption)) | exact Ex.loadIn1 Try.isAgg3 rfl (Holds.to (by assumption)) | exact Ex.loadM Try.isAgg3 rfl | exact Ex.loadVc Try.isAgg3 rfl) rfl ?_
  refine O.callF Try.call57 rfl rfl (CT.mono (in_ct (Holds.to (by assumption))) ?_)
  rintro _ w ⟨c2, c3, c5, c4, rfl, H⟩
  refine O.ex (Ex.assign rfl) rfl ?_
  refine O.nil ?_
  refine hK4 _ _ _ ?_
  refine W.seq (fun K6 hK6 => ?_)
  refine W.seq (fun K7 hK7 => ?_)
  refine W.region ?_
  refine O.ex (Ex.move rfl) rfl ?_
  refine O.nil ?_
  refine hK7 _ _ _ ?_
  refine W.block ?_
  have H : Holds w (capsS c3 c5 c4 m (inV c2) v :: Mh m n c :: pt b10 (.cells #[.bool false] 4 (0, 0)) :: arr 3 (Value.int .i64) v19 (sl (fun x => c x v) n.toNat) :: pt b12 (.cells #[.int .i64 ((sl (fun x => c x v) 0).length : Int)] 3 (0, 0)) :: pt b11 (.cells #[v19] 51 (0, 0)) :: pt b6 (.cells #[.pointer (some ⟨r, 0, none⟩)] 26 (0, 0)) :: pt b7 (.cells #[.int .i64 v] 3 (0, 0)) :: pt b8 (.cells #[.bool true] 4 (0, 0)) :: pt b9 (.cells #[.int .i64 q] 3 (0, 0)) :: Rh r n c:: cap2 c2 m :: L) := Holds.to (by assumption)
  refine W.rangeFunc rfl Try.call98 H ?_
  rintro LR kk D w hLR H
  refine CT.mono (steps1_ct (g := (fun x => c x v)) (J := fun i => LR .ready none :: dblk D :: pt b10 (.cells #[.bool false] 4 (0, 0)) :: arr 3 (Value.int .i64) v19 (sl (fun x => c x v) n.toNat) :: pt b12 (.cells #[.int .i64 ((sl (fun x => c x v) i).length : Int)] 3 (0, 0)) :: pt b11 (.cells #[v19] 51 (0, 0)) :: pt b6 (.cells #[.pointer (some ⟨r, 0, none⟩)] 26 (0, 0)) :: pt b7 (.cells #[.int .i64 v] 3 (0, 0)) :: pt b8 (.cells #[.bool true] 4 (0, 0)) :: pt b9 (.cells #[.int .i64 q] 3 (0, 0)) :: Rh r n c:: cap2 c2 m :: L) (φ := fun i => (sl (fun x => c x v) i).length = 0 ∨ ((sl (fun x => c x v) i).length : Int) < q)
    (S := fun w' => ∃ kk : Int, (kk = max q 1 ∧ kk ≤ (sl (fun x => c x v) n.toNat).length) ∧ Holds w' (capsS c3 c5 c4 m (inV c2) v :: Mh m n c :: LR .done (some (.exit 0)) :: dblk D :: pt b10 (.cells #[.bool false] 4 (0, 0)) :: arr 3 (Value.int .i64) v19 (sl (fun x => c x v) n.toNat) :: pt b12 (.cells #[.int .i64 kk] 3 (0, 0)) :: pt b11 (.cells #[v19] 51 (0, 0)) :: pt b6 (.cells #[.pointer (some ⟨r, 0, none⟩)] 26 (0, 0)) :: pt b7 (.cells #[.int .i64 v] 3 (0, 0)) :: pt b8 (.cells #[.bool true] 4 (0, 0)) :: pt b9 (.cells #[.int .i64 q] 3 (0, 0)) :: Rh r n c:: cap2 c2 m :: L)) n2 n1 (.inl rfl) (Holds.to (by assumption)) (fun i w H => ?_) ?_ ?_) ?_
  · refine (vtIn (b := c2) (m := m) (u := v) (v := (i : Int)) hg (Holds.to (by assumption))).mono ?_
    rintro u w' ⟨e, H⟩
    exact ⟨e, Holds.to (by assumption)⟩
  · intro i w hi hne hφ H
    obtain ⟨hlt, hix⟩ := sl_get (fun x => c x v) n.toNat i (by omega) hne
    have hs1 : (sl (fun x => c x v) (i + 1)).length = (sl (fun x => c x v) i).length + 1 := by rw [sl_t (g := (fun x => c x v)) hne]; simp
    refine VT.round hLR (Holds.to (by assumption)) rfl rfl ?_
    refine W.seq (fun K8 hK8 => ?_)
    refine W.region ?_
    refine O.ex (Ex.assign rfl) rfl ?_
    refine O.nil ?_
    refine hK8 _ _ _ ?_
    refine W.region ?_
    refine O.ex (Ex.assign rfl) rfl ?_
    refine O.nil ?_
    refine ⟨_, Holds.to (by assumption), fun w H => ?_⟩
    refine W.block ?_
    refine W.seq (fun K9 hK9 => ?_)
    refine W.seq (fun K10 hK10 => ?_)
    refine W.region ?_
    refine O.ex (by first | exact Ex.loadP Try.isAgg3 rfl | exact Ex.loadQ Try.isAgg3 rfl | exact Ex.loadMh Try.isAgg3 rfl | exact Ex.loadR Try.isAgg3 rfl | exact Ex.loadInF Try.isAgg3 rfl (Holds.to (by assumption)) | exact Ex.loadIn1 Try.isAgg3 rfl (Holds.to (by assumption)) | exact Ex.loadM Try.isAgg3 rfl | exact Ex.loadVc Try.isAgg3 rfl) rfl ?_
    refine O.ex (by first | exact Ex.loadP Try.isAgg51 rfl | exact Ex.loadQ Try.isAgg51 rfl | exact Ex.loadMh Try.isAgg51 rfl | exact Ex.loadR Try.isAgg51 rfl | exact Ex.loadInF Try.isAgg51 rfl (Holds.to (by assumption)) | exact Ex.loadIn1 Try.isAgg51 rfl (Holds.to (by assumption)) | exact Ex.loadM Try.isAgg51 rfl | exact Ex.loadVc Try.isAgg51 rfl) rfl ?_
    refine O.ex (by first | exact Ex.lenR Try.runUnderlying51 rfl | exact Ex.lenIn Try.runUnderlying51 rfl | exact Ex.lenL Try.runUnderlying51 rfl | exact Ex.len rfl Try.runUnderlying51 rfl) rfl ?_
    refine O.ex (Ex.geq rfl rfl) rfl ?_
    refine O.ex (Ex.move rfl) rfl ?_
    refine O.known (t := 34) (c := false) rfl (by first | rfl | decide | (refine decide_eq_false ?_; omega) | (refine decide_eq_true ?_; omega) | (refine decide_eq_false (fun hh => hh ?_); rw [Int.toNat_natCast]; exact hix) | exact decide_eq_false (fun hh => hh rfl)) ?_
    refine O.guard_t rfl rfl ?_
    refine O.ex (by first | exact Ex.loadP Try.isAgg51 rfl | exact Ex.loadQ Try.isAgg51 rfl | exact Ex.loadMh Try.isAgg51 rfl | exact Ex.loadR Try.isAgg51 rfl | exact Ex.loadInF Try.isAgg51 rfl (Holds.to (by assumption)) | exact Ex.loadIn1 Try.isAgg51 rfl (Holds.to (by assumption)) | exact Ex.loadM Try.isAgg51 rfl | exact Ex.loadVc Try.isAgg51 rfl) rfl ?_
    refine O.guard_t rfl rfl ?_
    refine O.ex (by first | exact Ex.loadP Try.isAgg3 rfl | exact Ex.loadQ Try.isAgg3 rfl | exact Ex.loadMh Try.isAgg3 rfl | exact Ex.loadR Try.isAgg3 rfl | exact Ex.loadInF Try.isAgg3 rfl (Holds.to (by assumption)) | exact Ex.loadIn1 Try.isAgg3 rfl (Holds.to (by assumption)) | exact Ex.loadM Try.isAgg3 rfl | exact Ex.loadVc Try.isAgg3 rfl) rfl ?_
    refine O.guard_t rfl rfl ?_
    refine O.ex (by first | exact Ex.idxR Try.runUnderlying51 Try.sizeOf3 rfl rfl | exact Ex.idxIn Try.runUnderlying51 Try.sizeOf3 rfl rfl | exact Ex.idxS Try.runUnderlying51 Try.sizeOf3 rfl rfl | exact Ex.idx Try.runUnderlying51 Try.sizeOf3 rfl rfl (by omega) (by omega)) rfl ?_
    refine O.guard_t rfl rfl ?_
    refine O.ex (by first | exact Ex.loadR Try.isAgg3 rfl | exact Ex.loadIn1 Try.isAgg3 rfl (Holds.to (by assumption)) | exact Ex.loadInF Try.isAgg3 rfl (Holds.to (by assumption)) | exact Ex.loadP Try.isAgg3 rfl | exact Ex.loadMh Try.isAgg3 rfl | exact Ex.loadM Try.isAgg3 rfl | exact Ex.loadVc Try.isAgg3 rfl | exact Ex.loadQ Try.isAgg3 rfl) rfl ?_
    refine O.guard_t rfl rfl ?_
    refine O.ex (Ex.move rfl) rfl ?_
    refine O.guard_t rfl rfl ?_
    refine O.ex (Ex.neqI rfl rfl) rfl ?_
    refine O.ex (Ex.pick_f rfl rfl) rfl ?_
    refine O.ex (Ex.move rfl) rfl ?_
    refine O.known (t := 42) (c := false) rfl (by first | rfl | decide | (refine decide_eq_false ?_; omega) | (refine decide_eq_true ?_; omega) | (refine decide_eq_false (fun hh => hh ?_); rw [Int.toNat_natCast]; exact hix) | exact decide_eq_false (fun hh => hh rfl)) ?_
    refine O.guard_t rfl rfl ?_
    refine O.ex (by first | exact Ex.loadP Try.isAgg4 rfl | exact Ex.loadQ Try.isAgg4 rfl | exact Ex.loadMh Try.isAgg4 rfl | exact Ex.loadR Try.isAgg4 rfl | exact Ex.loadInF Try.isAgg4 rfl (Holds.to (by assumption)) | exact Ex.loadIn1 Try.isAgg4 rfl (Holds.to (by assumption)) | exact Ex.loadM Try.isAgg4 rfl | exact Ex.loadVc Try.isAgg4 rfl) rfl ?_
    refine O.guard_t rfl rfl ?_
    refine O.ex (by first | exact Ex.notD rfl | exact Ex.not rfl) rfl ?_
    refine O.guard_t rfl rfl ?_
    refine O.ex (Ex.move rfl) rfl ?_
    refine O.known (t := 45) (c := false) rfl (by first | rfl | decide | (refine decide_eq_false ?_; omega) | (refine decide_eq_true ?_; omega) | (refine decide_eq_false (fun hh => hh ?_); rw [Int.toNat_natCast]; exact hix) | exact decide_eq_false (fun hh => hh rfl)) ?_
    refine O.guard_f rfl rfl rfl rfl ?_
    refine O.guard_f rfl rfl rfl rfl ?_
    refine O.guard_f rfl rfl rfl rfl ?_
    refine O.guard_f rfl rfl rfl rfl ?_
    refine O.guard_f rfl rfl rfl rfl ?_
    refine O.guard_f rfl rfl rfl rfl ?_
    refine O.guard_t rfl rfl ?_
    refine O.ex (Ex.pick_f rfl rfl) rfl ?_
    refine O.ex (Ex.pick_f rfl rfl) rfl ?_
    refine O.ex (Ex.move rfl) rfl ?_
    refine O.guard_t rfl rfl ?_
    refine O.ex (by first | exact Ex.loadP Try.isAgg4 rfl | exact Ex.loadQ Try.isAgg4 rfl | exact Ex.loadMh Try.isAgg4 rfl | exact Ex.loadR Try.isAgg4 rfl | exact Ex.loadInF Try.isAgg4 rfl (Holds.to (by assumption)) | exact Ex.loadIn1 Try.isAgg4 rfl (Holds.to (by assumption)) | exact Ex.loadM Try.isAgg4 rfl | exact Ex.loadVc Try.isAgg4 rfl) rfl ?_
    refine O.guard_t rfl rfl ?_
    refine O.ex (Ex.move rfl) rfl ?_
    refine O.known (t := 56) (c := true) rfl (by first | rfl | decide | (refine decide_eq_false ?_; omega) | (refine decide_eq_true ?_; omega) | (refine decide_eq_false (fun hh => hh ?_); rw [Int.toNat_natCast]; exact hix) | exact decide_eq_false (fun hh => hh rfl)) ?_
    refine O.guard_t rfl rfl ?_
    refine O.ex (Ex.move rfl) rfl ?_
    refine O.guard_t rfl rfl ?_
    refine O.ex (by first | exact Ex.loadP Try.isAgg26 rfl | exact Ex.loadQ Try.isAgg26 rfl | exact Ex.loadMh Try.isAgg26 rfl | exact Ex.loadR Try.isAgg26 rfl | exact Ex.loadInF Try.isAgg26 rfl (Holds.to (by assumption)) | exact Ex.loadIn1 Try.isAgg26 rfl (Holds.to (by assumption)) | exact Ex.loadM Try.isAgg26 rfl | exact Ex.loadVc Try.isAgg26 rfl) rfl ?_
    refine O.guard_t rfl rfl ?_
    refine O.ex (Ex.move rfl) rfl ?_
    refine O.guard_t rfl rfl ?_
    refine O.ex (by first | exact Ex.loadP Try.isAgg3 rfl | exact Ex.loadQ Try.isAgg3 rfl | exact Ex.loadMh Try.isAgg3 rfl | exact Ex.loadR Try.isAgg3 rfl | exact Ex.loadInF Try.isAgg3 rfl (Holds.to (by assumption)) | exact Ex.loadIn1 Try.isAgg3 rfl (Holds.to (by assumption)) | exact Ex.loadM Try.isAgg3 rfl | exact Ex.loadVc Try.isAgg3 rfl) rfl ?_
    refine O.guard_t rfl rfl ?_
    refine O.callF Try.call54 rfl rfl (CT.mono (refAt_ct hg (Holds.to (by assumption))) ?_)
    rintro _ w ⟨rfl, H⟩
    refine O.guard_t rfl rfl ?_
    refine O.ex (Ex.neqI rfl rfl) rfl ?_
    refine O.guard_t rfl rfl ?_
    refine O.ex (Ex.pick_t rfl rfl) rfl ?_
    refine O.ex (Ex.pick_f rfl rfl) rfl ?_
    refine O.nil ?_
    refine hK10 _ _ _ ?_
    refine W.known_f rfl (by first | rfl | decide | (refine decide_eq_false ?_; omega) | (refine decide_eq_true ?_; omega) | (refine decide_eq_false (fun hh => hh ?_); rw [Int.toNat_natCast]; exact hix) | exact decide_eq_false (fun hh => hh rfl)) ?_
    refine W.skip ?_
    refine hK9 _ _ _ ?_
    refine W.seq (fun K11 hK11 => ?_)
    refine W.region ?_
    refine O.ex (by first | exact Ex.loadP Try.isAgg3 rfl | exact Ex.loadQ Try.isAgg3 rfl | exact Ex.loadMh Try.isAgg3 rfl | exact Ex.loadR Try.isAgg3 rfl | exact Ex.loadInF Try.isAgg3 rfl (Holds.to (by assumption)) | exact Ex.loadIn1 Try.isAgg3 rfl (Holds.to (by assumption)) | exact Ex.loadM Try.isAgg3 rfl | exact Ex.loadVc Try.isAgg3 rfl) rfl ?_
    refine O.ex (by first | exact Ex.addI rfl rfl | exact Ex.add rfl rfl rfl) rfl ?_
    first | refine O.storeP Try.sizeOf3 rfl rfl (fun w H => ?_) | refine O.storeR Try.sizeOf3 rfl rfl (fun w H => ?_) | refine O.storeM Try.sizeOf3 rfl rfl (fun w H => ?_) | refine O.storeVc Try.sizeOf3 rfl rfl (fun w H => ?_)
    refine O.nil ?_
    refine hK11 _ _ _ ?_
    refine W.seq (fun K12 hK12 => ?_)
    refine W.region ?_
    refine O.ex (by first | exact Ex.loadP Try.isAgg3 rfl | exact Ex.loadQ Try.isAgg3 rfl | exact Ex.loadMh Try.isAgg3 rfl | exact Ex.loadR Try.isAgg3 rfl | exact Ex.loadInF Try.isAgg3 rfl (Holds.to (by assumption)) | exact Ex.loadIn1 Try.isAgg3 rfl (Holds.to (by assumption)) | exact Ex.loadM Try.isAgg3 rfl | exact Ex.loadVc Try.isAgg3 rfl) rfl ?_
    refine O.ex (by first | exact Ex.loadP Try.isAgg3 rfl | exact Ex.loadQ Try.isAgg3 rfl | exact Ex.loadMh Try.isAgg3 rfl | exact Ex.loadR Try.isAgg3 rfl | exact Ex.loadInF Try.isAgg3 rfl (Holds.to (by assumption)) | exact Ex.loadIn1 Try.isAgg3 rfl (Holds.to (by assumption)) | exact Ex.loadM Try.isAgg3 rfl | exact Ex.loadVc Try.isAgg3 rfl) rfl ?_
    refine O.ex (Ex.geq rfl rfl) rfl ?_
    refine O.nil ?_
    refine hK12 _ _ _ ?_
    first | refine W.cond_p rfl (fun h69 => ?_) (fun h69 => ?_) | refine W.cond_b rfl (fun h69 => ?_) (fun h69 => ?_)
    · refine W.exit ?_
      exact ⟨_, Holds.to (by assumption), fun w H => .inr ⟨rfl, ((sl (fun x => c x v) i).length : Int) + 1, ⟨by omega, by omega⟩, Holds.to (by assumption)⟩⟩
    · refine W.skip ?_
      exact ⟨_, Holds.to (by assumption), fun w H => .inl ⟨rfl, .inr (by omega), by rw [hs1]; exact Holds.to (by assumption)⟩⟩
  · intro i w hi hnn hφ H
    rw [sl_f (g := (fun x => c x v)) hnn]
    exact ⟨hφ, H⟩
  rintro _ w (⟨hφ, H⟩ | ⟨kk, ⟨hk1, hk2⟩, H⟩)
  all_goals refine rangeEnd (Holds.to (by assumption)) (by nofun) (fun w H => ?_)
  · skip
    refine hK6 _ _ _ ?_
    refine W.seq (fun K13 hK13 => ?_)
    refine W.region ?_
    refine O.ex (by first | exact Ex.loadP Try.isAgg3 rfl | exact Ex.loadQ Try.isAgg3 rfl | exact Ex.loadMh Try.isAgg3 rfl | exact Ex.loadR Try.isAgg3 rfl | exact Ex.loadInF Try.isAgg3 rfl (Holds.to (by assumption)) | exact Ex.loadIn1 Try.isAgg3 rfl (Holds.to (by assumption)) | exact Ex.loadM Try.isAgg3 rfl | exact Ex.loadVc Try.isAgg3 rfl) rfl ?_
    refine O.ex (by first | exact Ex.loadP Try.isAgg51 rfl | exact Ex.loadQ Try.isAgg51 rfl | exact Ex.loadMh Try.isAgg51 rfl | exact Ex.loadR Try.isAgg51 rfl | exact Ex.loadInF Try.isAgg51 rfl (Holds.to (by assumption)) | exact Ex.loadIn1 Try.isAgg51 rfl (Holds.to (by assumption)) | exact Ex.loadM Try.isAgg51 rfl | exact Ex.loadVc Try.isAgg51 rfl) rfl ?_
    refine O.ex (by first | exact Ex.lenR Try.runUnderlying51 rfl | exact Ex.lenIn Try.runUnderlying51 rfl | exact Ex.lenL Try.runUnderlying51 rfl | exact Ex.len rfl Try.runUnderlying51 rfl) rfl ?_
    refine O.ex (by first | exact Ex.loadP Try.isAgg3 rfl | exact Ex.loadQ Try.isAgg3 rfl | exact Ex.loadMh Try.isAgg3 rfl | exact Ex.loadR Try.isAgg3 rfl | exact Ex.loadInF Try.isAgg3 rfl (Holds.to (by assumption)) | exact Ex.loadIn1 Try.isAgg3 rfl (Holds.to (by assumption)) | exact Ex.loadM Try.isAgg3 rfl | exact Ex.loadVc Try.isAgg3 rfl) rfl ?_
    refine O.ex (Ex.maxI rfl rfl) rfl ?_
    refine O.ex (Ex.minI rfl rfl) rfl ?_
    refine O.ex (Ex.eqlI rfl rfl) rfl ?_
    refine O.ex (Ex.move rfl) rfl ?_
    refine O.known (t := 77) (c := true) rfl (by first | rfl | decide | (refine decide_eq_false ?_; omega) | (refine decide_eq_true ?_; omega) | (refine decide_eq_false (fun hh => hh ?_); rw [Int.toNat_natCast]; exact hix) | exact decide_eq_false (fun hh => hh rfl)) ?_
    refine O.guard_f rfl rfl rfl rfl ?_
    refine O.guard_f rfl rfl rfl rfl ?_
    refine O.guard_f rfl rfl rfl rfl ?_
    refine O.guard_f rfl rfl rfl rfl ?_
    refine O.guard_u rfl rfl rfl ?_
    refine O.guard_u rfl rfl rfl ?_
    refine O.guard_f rfl rfl rfl rfl ?_
    refine O.ex (Ex.pick_t rfl rfl) rfl ?_
    first | refine O.storeP Try.sizeOf4 rfl rfl (fun w H => ?_) | refine O.storeR Try.sizeOf4 rfl rfl (fun w H => ?_) | refine O.storeM Try.sizeOf4 rfl rfl (fun w H => ?_) | refine O.storeVc Try.sizeOf4 rfl rfl (fun w H => ?_)
    refine O.nil ?_
    refine hK13 _ _ _ ?_
    refine W.ret ?_
    try dsimp only [thenQ, blockQ, retQ]
    first | refine ⟨_, ⟨_, _, _, rfl, rfl, loadVar_one Try.isAgg4, rfl⟩, ?_⟩ | (refine retD_mark ?_; intro w H; refine ⟨_, ⟨_, _, _, rfl, rfl, loadVar_one Try.isAgg4, rfl⟩, ?_⟩) | (refine retD_mark2 ?_; intro w H; refine ⟨_, ⟨_, _, _, rfl, rfl, loadVar_one Try.isAgg4, rfl⟩, ?_⟩)
    exact ⟨rfl, Holds.to (by assumption)⟩
  · skip
    refine W.exit ?_
    refine hK6 _ _ _ ?_
    refine W.seq (fun K14 hK14 => ?_)
    refine W.region ?_
    refine O.ex (by first | exact Ex.loadP Try.isAgg3 rfl | exact Ex.loadQ Try.isAgg3 rfl | exact Ex.loadMh Try.isAgg3 rfl | exact Ex.loadR Try.isAgg3 rfl | exact Ex.loadInF Try.isAgg3 rfl (Holds.to (by assumption)) | exact Ex.loadIn1 Try.isAgg3 rfl (Holds.to (by assumption)) | exact Ex.loadM Try.isAgg3 rfl | exact Ex.loadVc Try.isAgg3 rfl) rfl ?_
    refine O.ex (by first | exact Ex.loadP Try.isAgg51 rfl | exact Ex.loadQ Try.isAgg51 rfl | exact Ex.loadMh Try.isAgg51 rfl | exact Ex.loadR Try.isAgg51 rfl | exact Ex.loadInF Try.isAgg51 rfl (Holds.to (by assumption)) | exact Ex.loadIn1 Try.isAgg51 rfl (Holds.to (by assumption)) | exact Ex.loadM Try.isAgg51 rfl | exact Ex.loadVc Try.isAgg51 rfl) rfl ?_
    refine O.ex (by first | exact Ex.lenR Try.runUnderlying51 rfl | exact Ex.lenIn Try.runUnderlying51 rfl | exact Ex.lenL Try.runUnderlying51 rfl | exact Ex.len rfl Try.runUnderlying51 rfl) rfl ?_
    refine O.ex (by first | exact Ex.loadP Try.isAgg3 rfl | exact Ex.loadQ Try.isAgg3 rfl | exact Ex.loadMh Try.isAgg3 rfl | exact Ex.loadR Try.isAgg3 rfl | exact Ex.loadInF Try.isAgg3 rfl (Holds.to (by assumption)) | exact Ex.loadIn1 Try.isAgg3 rfl (Holds.to (by assumption)) | exact Ex.loadM Try.isAgg3 rfl | exact Ex.loadVc Try.isAgg3 rfl) rfl ?_
    refine O.ex (Ex.maxI rfl rfl) rfl ?_
    refine O.ex (Ex.minI rfl rfl) rfl ?_
    refine O.ex (Ex.eqlI rfl rfl) rfl ?_
    refine O.ex (Ex.move rfl) rfl ?_
    refine O.known (t := 77) (c := true) rfl (by first | rfl | decide | (refine decide_eq_false ?_; omega) | (refine decide_eq_true ?_; omega) | (refine decide_eq_false (fun hh => hh ?_); rw [Int.toNat_natCast]; exact hix) | exact decide_eq_false (fun hh => hh rfl)) ?_
    refine O.guard_f rfl rfl rfl rfl ?_
    refine O.guard_f rfl rfl rfl rfl ?_
    refine O.guard_f rfl rfl rfl rfl ?_
    refine O.guard_f rfl rfl rfl rfl ?_
    refine O.guard_u rfl rfl rfl ?_
    refine O.guard_u rfl rfl rfl ?_
    refine O.guard_f rfl rfl rfl rfl ?_
    refine O.ex (Ex.pick_t rfl rfl) rfl ?_
    first | refine O.storeP Try.sizeOf4 rfl rfl (fun w H => ?_) | refine O.storeR Try.sizeOf4 rfl rfl (fun w H => ?_) | refine O.storeM Try.sizeOf4 rfl rfl (fun w H => ?_) | refine O.storeVc Try.sizeOf4 rfl rfl (fun w H => ?_)
    refine O.nil ?_
    refine hK14 _ _ _ ?_
    refine W.ret ?_
    try dsimp only [thenQ, blockQ, retQ]
    first | refine ⟨_, ⟨_, _, _, rfl, rfl, loadVar_one Try.isAgg4, rfl⟩, ?_⟩ | (refine retD_mark ?_; intro w H; refine ⟨_, ⟨_, _, _, rfl, rfl, loadVar_one Try.isAgg4, rfl⟩, ?_⟩) | (refine retD_mark2 ?_; intro w H; refine ⟨_, ⟨_, _, _, rfl, rfl, loadVar_one Try.isAgg4, rfl⟩, ?_⟩)
    exact ⟨rfl, Holds.to (by assumption)⟩
theorem keyE (a b c : Int) (w : World) (d : Nat) : (Op.equalIn (d + 2) 95 (.agg #[.int .i64 a, .int .i64 b, .int .i64 c]) (.agg #[.int .i64 a, .int .i64 b, .int .i64 c])).run Try.prog w = .ok true w := by
  rw [eqStruct (d + 1) Try.underlying95 Try.stoodInHeld95]
  simp [Op.eqFields, part, Try.isAgg3 w, run_equalIn_int w d 3 .i64 .i64 _ _ Try.underlying3]
theorem keyL (x : LinkM) (w : World) (d : Nat) : (Op.equalIn (d + 3) 97 (.agg x.enc.toArray) (.agg x.enc.toArray)).run Try.prog w = .ok true w := by
  rw [eqStruct (d + 2) Try.underlying97 Try.stoodInHeld97]
  simp [Op.eqFields, part, Try.isAgg3 w, run_equalIn_int w (d + 1) 3 .i64 .i64 _ _ Try.underlying3, LinkM.enc, keyE]
theorem eqLink (x : LinkM) (w : World) : (binOp .neq 97 (.agg x.enc.toArray) (.agg x.enc.toArray)).run Try.prog w = .ok (.bool false) w := by
  rw [run_neq_struct, show (Op.equalIn 10000 97 (.agg x.enc.toArray) (.agg x.enc.toArray)).run Try.prog w = .ok true w from keyL x w 9997]
  rfl
theorem links_ct {w : World} {va vb : Value} {l : List LinkM} {L : List HProp} (hl : l.length ≤ 1000) (H : Holds w (lks va l :: lks vb l :: L)) :
    CT Try.prog 26 [va, vb] w fun x w' => x = .bool true ∧ Holds w' (lks va l :: lks vb l :: L) := by
  refine CT.enter (N := 26) Try.func26 rfl rfl rfl rfl ?_
  refine W.seq (fun K0 hK0 => ?_)
  refine W.region ?_
  refine O.ex (Ex.assign rfl) rfl ?_
  refine O.nil ?_
  refine hK0 _ _ _ ?_
  refine W.seq (fun K1 hK1 => ?_)
  refine W.seq (fun K2 hK2 => ?_)
  refine W.region ?_
  refine O.ex (Ex.move rfl) rfl ?_
  refine O.ex (by first | exact Ex.lenN Try.runUnderlying48 rfl | exact Ex.lenIn Try.runUnderlying48 rfl | exact Ex.lenL Try.runUnderlying48 rfl | exact Ex.len rfl Try.runUnderlying48 rfl) rfl ?_
  refine O.ex (Ex.move rfl) rfl ?_
  refine O.ex (by first | exact Ex.lenN Try.runUnderlying48 rfl | exact Ex.lenIn Try.runUnderlying48 rfl | exact Ex.lenL Try.runUnderlying48 rfl | exact Ex.len rfl Try.runUnderlying48 rfl) rfl ?_
  refine O.ex (Ex.neqI rfl rfl) rfl ?_
  refine O.nil ?_
  refine hK2 _ _ _ ?_
  refine W.known_f rfl (by first | rfl | exact decide_eq_false (fun hh => hh rfl)) ?_
  refine W.skip ?_
  refine hK1 _ _ _ ?_
  refine W.seq (fun K3 hK3 => ?_)
  refine W.seq (fun K4 hK4 => ?_)
  refine W.region ?_
  refine O.ex (Ex.assign rfl) rfl ?_
  refine O.nil ?_
  refine hK4 _ _ _ ?_
  refine W.block ?_
  refine W.loop (σ := Nat) (fun i => [(0, va), (1, vb), (5, .int .i64 (i : Int))]) (fun i ds w => ds = [] ∧ i ≤ l.length ∧ Holds w (lks va l :: lks vb l :: L)) (fun i => l.length - i) 0 ⟨rfl, rfl, rfl, trivial⟩ ⟨rfl, by omega, Holds.to (by assumption)⟩ ?_
  clear H
  rintro i _ w ⟨rfl, hi, H⟩
  refine W.seq (fun K5 hK5 => ?_)
  refine W.seq (fun K6 hK6 => ?_)
  refine W.region ?_
  refine O.ex (Ex.move rfl) rfl ?_
  refine O.ex (Ex.move rfl) rfl ?_
  refine O.ex (by first | exact Ex.lenN Try.runUnderlying48 rfl | exact Ex.lenIn Try.runUnderlying48 rfl | exact Ex.lenL Try.runUnderlying48 rfl | exact Ex.len rfl Try.runUnderlying48 rfl) rfl ?_
  refine O.ex (Ex.lss rfl rfl) rfl ?_
  refine O.nil ?_
  refine hK6 _ _ _ ?_
  first | refine W.cond_p rfl (fun hlt => ?_) (fun hge => ?_) | refine W.cond_b rfl (fun hlt => ?_) (fun hge => ?_)
  · refine W.skip ?_
    refine hK5 _ _ _ ?_
    refine W.seq (fun K7 hK7 => ?_)
    refine W.block ?_
    refine W.seq (fun K8 hK8 => ?_)
    have hil : i < l.length := by omega
    have hsa := arrN_sl (sz := 5) (e := LinkM.enc) (v := va) (xs := l) (Holds.to (by assumption)) (by omega)
    have hsb := arrN_sl (sz := 5) (e := LinkM.enc) (v := vb) (xs := l) (Holds.to (by assumption)) (by omega)
    refine W.drawTo _ (.take 0 (.take 1 (.take 2 (.take 3 (.take 4 (.take 5 (.take 6 (.take 7 (.take 8 .nil))))))))) (mixed) (fun _ _ _ _ h => h) (by assumption) (PP.refl _) (by decide +kernel) (fun w H => ?_)
    refine OQ.ex rfl (fun w H => (Ex.move rfl)) rfl ?_
    refine OQ.ex rfl (fun w H => (Ex.move rfl)) rfl ?_
    refine OQ.ex rfl (fun w H => (by first | exact Ex.idxIn Try.runUnderlying48 Try.sizeOf97 rfl rfl | exact Ex.idxN Try.runUnderlying48 Try.sizeOf97 rfl rfl | exact Ex.idxSN Try.runUnderlying48 Try.sizeOf97 rfl rfl | exact Ex.idx Try.runUnderlying48 Try.sizeOf97 rfl rfl (by omega) (by omega))) rfl ?_
    refine OQ.ex rfl (fun w H => (Ex.loadAggN (xs := l) (e := LinkM.enc) (i := i) Try.isAgg97 Try.sizeOf97 rfl)) rfl ?_
    refine OQ.ex rfl (fun w H => (Ex.move rfl)) rfl ?_
    refine OQ.ex rfl (fun w H => (Ex.move rfl)) rfl ?_
    refine OQ.ex rfl (fun w H => (by first | exact Ex.idxIn Try.runUnderlying48 Try.sizeOf97 rfl rfl | exact Ex.idxN Try.runUnderlying48 Try.sizeOf97 rfl rfl | exact Ex.idxSN Try.runUnderlying48 Try.sizeOf97 rfl rfl | exact Ex.idx Try.runUnderlying48 Try.sizeOf97 rfl rfl (by omega) (by omega))) rfl ?_
    refine OQ.ex rfl (fun w H => (Ex.loadAggN (xs := l) (e := LinkM.enc) (i := i) Try.isAgg97 Try.sizeOf97 rfl)) rfl ?_
    refine OQ.ex rfl (fun w H => (Ex.neqAgg rfl rfl Try.eqGuardType97 (eqLink _ _))) rfl ?_
    refine OQ.done ?_
    refine hK8 _ _ _ ?_
    refine W.known_f rfl (by first | rfl | exact decide_eq_false (fun hh => hh rfl)) ?_
    refine W.skip ?_
    refine hK7 _ _ _ ?_
    refine W.region ?_
    refine O.ex (Ex.move rfl) rfl ?_
    refine O.ex (by first | exact Ex.addI rfl rfl | exact Ex.add rfl rfl rfl) rfl ?_
    refine O.ex (Ex.assign rfl) rfl ?_
    refine O.nil ?_
    exact ⟨i + 1, ⟨rfl, rfl, rfl, trivial⟩, ⟨rfl, by omega, Holds.to (by assumption)⟩, by omega⟩
  · refine W.exit ?_
    refine hK3 _ _ _ ?_
    refine W.seq (fun K9 hK9 => ?_)
    refine W.region ?_
    refine O.ex (Ex.assign rfl) rfl ?_
    refine O.nil ?_
    refine hK9 _ _ _ ?_
    refine W.ret ?_
    try dsimp only [thenQ, blockQ, retQ]
    first | refine ⟨_, ⟨_, _, rfl, rfl, rfl⟩, ?_⟩ | (refine retD_mark ?_; intro w H; refine ⟨_, ⟨_, _, rfl, rfl, rfl⟩, ?_⟩) | (refine retD_mark2 ?_; intro w H; refine ⟨_, ⟨_, _, rfl, rfl, rfl⟩, ?_⟩)
    exact ⟨rfl, by first | assumption | exact Holds.to (by assumption)⟩
set_option maxHeartbeats 2000000 in
theorem meshPuts_ct {w0 : World} {n v q : Int} {lv : Value} {l : List Step} (hx : SlIn w0 3 Step.enc lv l) (hl : l.length ≤ 9223372036854775807) (hq : (Lit.int .u8 q).wf = true) :
    CT Try.prog 4 [.int .i64 n, lv, .int .i64 v, .int .u8 q] w0 fun x w' => x = .bool true ∧ RowKit.Below w0.heap.size w0 w' := by
  have H := Holds.base_refl w0
  obtain ⟨q0, q1⟩ := bounds_u8 hq
  refine CT.enter (N := 113) Try.func4 rfl rfl rfl rfl ?_
  refine W.seq (fun K0 hK0 => ?_)
  refine W.region ?_
  refine O.ex (Ex.assign rfl) rfl ?_
  refine O.nil ?_
  refine hK0 _ _ _ ?_
  refine W.seq (fun K1 hK1 => ?_)
  refine W.seq (fun K2 hK2 => ?_)
  refine W.region ?_
  refine O.callF Try.call15 rfl rfl (CT.mono (awake12_ct (Holds.to (by assumption))) ?_)
  rintro _ w ⟨rfl, H⟩
  refine O.ex (by first | exact Ex.notD rfl | exact Ex.not rfl) rfl ?_
  refine O.nil ?_
  refine hK2 _ _ _ ?_
  refine W.known_f rfl (by first | rfl | decide | exact decide_eq_false (fun hh => hh rfl) | (refine decide_eq_false ?_; omega) | (refine decide_eq_true ?_; omega)) ?_
  refine W.skip ?_
  refine hK1 _ _ _ ?_
  refine W.seq (fun K3 hK3 => ?_)
  refine W.region ?_
  refine O.ex (Ex.move rfl) rfl ?_
  refine O.callF Try.call20 rfl rfl (CT.mono (new_ct (Holds.to (by assumption))) ?_)
  rintro _ w hh
  rcases hh with ⟨hno, rfl, H⟩ | ⟨hyes, m, rfl, H⟩
  · refine O.ex (Ex.move rfl) rfl ?_
    refine O.ex (Ex.extract rfl rfl) rfl ?_
    refine O.ex (Ex.extract rfl rfl) rfl ?_
    refine O.ex (Ex.assign rfl) rfl ?_
    refine O.ex (Ex.assign rfl) rfl ?_
    refine O.nil ?_
    refine hK3 _ _ _ ?_
    refine W.seq (fun K4 hK4 => ?_)
    refine W.seq (fun K5 hK5 => ?_)
    refine W.region ?_
    refine O.ex (Ex.move rfl) rfl ?_
    refine O.ex (Ex.lss rfl rfl) rfl ?_
    refine O.ex (Ex.move rfl) rfl ?_
    first | refine O.split_p (t := 22) rfl (fun h22 => ?_) (fun h22 => ?_) | refine O.split (t := 22) rfl (fun h22 => ?_) (fun h22 => ?_)
    · refine O.guard_f rfl rfl rfl rfl ?_
      refine O.guard_f rfl rfl rfl rfl ?_
      refine O.ex (Ex.pick_t rfl rfl) rfl ?_
      refine O.nil ?_
      refine hK5 _ _ _ ?_
      refine W.cond_t rfl ?_
      refine W.seq (fun K6 hK6 => ?_)
      refine W.region ?_
      refine O.ex (Ex.move rfl) rfl ?_
      refine O.ex (Ex.nilEq Try.runUnderlying25 rfl rfl) rfl ?_
      refine O.ex (Ex.move rfl) rfl ?_
      refine O.known (t := 28) (c := true) rfl (by first | rfl | decide | exact decide_eq_false (fun hh => hh rfl) | (refine decide_eq_false ?_; omega) | (refine decide_eq_true ?_; omega)) ?_
      refine O.guard_t rfl rfl ?_
      refine O.ex (Ex.move rfl) rfl ?_
      refine O.guard_t rfl rfl ?_
      refine O.ex (Ex.eqlI rfl rfl) rfl ?_
      refine O.ex (Ex.pick_t rfl rfl) rfl ?_
      refine O.ex (Ex.assign rfl) rfl ?_
      refine O.nil ?_
      refine hK6 _ _ _ ?_
      refine W.ret ?_
      try dsimp only [thenQ, blockQ, retQ]
      first | refine ⟨_, ⟨_, _, rfl, rfl, rfl⟩, ?_⟩ | (refine retD_mark ?_; intro w H; refine ⟨_, ⟨_, _, rfl, rfl, rfl⟩, ?_⟩) | (refine retD_mark2 ?_; intro w H; refine ⟨_, ⟨_, _, rfl, rfl, rfl⟩, ?_⟩)
      refine ⟨?_, Holds.base_below (L := []) (Holds.to (by assumption))⟩
      first
      | rfl
      | exact congrArg Value.bool (decide_eq_true rfl)
    · refine O.guard_t rfl rfl ?_
      refine O.ex (Ex.move rfl) rfl ?_
      refine O.guard_t rfl rfl ?_
      refine O.ex (Ex.gtr rfl rfl) rfl ?_
      refine O.ex (Ex.pick_f rfl rfl) rfl ?_
      refine O.nil ?_
      refine hK5 _ _ _ ?_
      refine W.known_t rfl (by first | rfl | decide | exact decide_eq_false (fun hh => hh rfl) | (refine decide_eq_false ?_; omega) | (refine decide_eq_true ?_; omega)) ?_
      refine W.seq (fun K7 hK7 => ?_)
      refine W.region ?_
      refine O.ex (Ex.move rfl) rfl ?_
      refine O.ex (Ex.nilEq Try.runUnderlying25 rfl rfl) rfl ?_
      refine O.ex (Ex.move rfl) rfl ?_
      refine O.known (t := 28) (c := true) rfl (by first | rfl | decide | exact decide_eq_false (fun hh => hh rfl) | (refine decide_eq_false ?_; omega) | (refine decide_eq_true ?_; omega)) ?_
      refine O.guard_t rfl rfl ?_
      refine O.ex (Ex.move rfl) rfl ?_
      refine O.guard_t rfl rfl ?_
      refine O.ex (Ex.eqlI rfl rfl) rfl ?_
      refine O.ex (Ex.pick_t rfl rfl) rfl ?_
      refine O.ex (Ex.assign rfl) rfl ?_
      refine O.nil ?_
      refine hK7 _ _ _ ?_
      refine W.ret ?_
      try dsimp only [thenQ, blockQ, retQ]
      first | refine ⟨_, ⟨_, _, rfl, rfl, rfl⟩, ?_⟩ | (refine retD_mark ?_; intro w H; refine ⟨_, ⟨_, _, rfl, rfl, rfl⟩, ?_⟩) | (refine retD_mark2 ?_; intro w H; refine ⟨_, ⟨_, _, rfl, rfl, rfl⟩, ?_⟩)
      refine ⟨?_, Holds.base_below (L := []) (Holds.to (by assumption))⟩
      first
      | rfl
      | exact congrArg Value.bool (decide_eq_true rfl)
  · refine O.ex (Ex.move rfl) rfl ?_
    refine O.ex (Ex.extract rfl rfl) rfl ?_
    refine O.ex (Ex.extract rfl rfl) rfl ?_
    refine O.ex (Ex.assign rfl) rfl ?_
    refine O.ex (Ex.assign rfl) rfl ?_
    refine O.nil ?_
    refine hK3 _ _ _ ?_
    refine W.seq (fun K8 hK8 => ?_)
    refine W.seq (fun K9 hK9 => ?_)
    refine W.region ?_
    refine O.ex (Ex.move rfl) rfl ?_
    refine O.ex (Ex.lss rfl rfl) rfl ?_
    refine O.ex (Ex.move rfl) rfl ?_
    refine O.known (t := 22) (c := false) rfl (by first | rfl | decide | exact decide_eq_false (fun hh => hh rfl) | (refine decide_eq_false ?_; omega) | (refine decide_eq_true ?_; omega)) ?_
    refine O.guard_t rfl rfl ?_
    refine O.ex (Ex.move rfl) rfl ?_
    refine O.guard_t rfl rfl ?_
    refine O.ex (Ex.gtr rfl rfl) rfl ?_
    refine O.ex (Ex.pick_f rfl rfl) rfl ?_
    refine O.nil ?_
    refine hK9 _ _ _ ?_
    refine W.known_f rfl (by first | rfl | decide | exact decide_eq_false (fun hh => hh rfl) | (refine decide_eq_false ?_; omega) | (refine decide_eq_true ?_; omega)) ?_
    refine W.skip ?_
    refine hK8 _ _ _ ?_
    refine W.seq (fun K10 hK10 => ?_)
    refine W.seq (fun K11 hK11 => ?_)
    refine W.region ?_
    refine O.ex (Ex.move rfl) rfl ?_
    refine O.ex (Ex.nilEq Try.runUnderlying25 rfl rfl) rfl ?_
    refine O.ex (Ex.move rfl) rfl ?_
    refine O.known (t := 34) (c := false) rfl (by first | rfl | decide | exact decide_eq_false (fun hh => hh rfl) | (refine decide_eq_false ?_; omega) | (refine decide_eq_true ?_; omega)) ?_
    refine O.guard_t rfl rfl ?_
    refine O.ex (Ex.move rfl) rfl ?_
    refine O.guard_t rfl rfl ?_
    refine O.ex (Ex.neqI rfl rfl) rfl ?_
    refine O.ex (Ex.pick_f rfl rfl) rfl ?_
    refine O.nil ?_
    refine hK11 _ _ _ ?_
    refine W.known_f rfl (by first | rfl | decide | exact decide_eq_false (fun hh => hh rfl) | (refine decide_eq_false ?_; omega) | (refine decide_eq_true ?_; omega)) ?_
    refine W.skip ?_
    refine hK10 _ _ _ ?_
    refine W.seq (fun K12 hK12 => ?_)
    refine W.region ?_
    refine O.ex (Ex.move rfl) rfl ?_
    refine O.callF Try.call21 rfl rfl (CT.mono (refNew_ct (Holds.to (by assumption))) ?_)
    rintro _ w ⟨r, rfl, H⟩
    refine O.ex (Ex.assign rfl) rfl ?_
    refine O.nil ?_
    refine hK12 _ _ _ ?_
    refine W.seq (fun K13 hK13 => ?_)
    refine W.seq (fun K14 hK14 => ?_)
    refine W.region ?_
    refine O.ex (Ex.assign rfl) rfl ?_
    refine O.nil ?_
    refine hK14 _ _ _ ?_
    refine W.block ?_
    have hg0 := good_none (n := n) (by omega) (by omega)
    refine W.loop (σ := Nat) (fun i => [(1, lv), (2, .int .i64 v), (3, .int .u8 q), (9, .pointer (some ⟨m, 0, none⟩)), (11, .pointer (some ⟨r, 0, none⟩)), (12, .int .i64 (i : Int))]) (fun i ds w => ds = [] ∧ i ≤ l.length ∧ i ≤ 400 ∧ ∃ c, Good n c ∧ Holds w (Mh m n c :: Rh r n c :: base w0 :: [])) (fun i => l.length - i) 0 ⟨rfl, rfl, rfl, rfl, rfl, rfl, trivial⟩ ⟨rfl, by omega, by omega, _, hg0, Holds.to (by assumption)⟩ ?_
    clear H hg0
    rintro i _ w ⟨rfl, hi, hi4, c, hg, H⟩
    refine W.seq (fun K15 hK15 => ?_)
    refine W.seq (fun K16 hK16 => ?_)
    refine W.region ?_
    refine O.ex (Ex.move rfl) rfl ?_
    refine O.ex (Ex.move rfl) rfl ?_
    refine O.ex (by first | exact Ex.lenN Try.runUnderlying22 rfl | exact Ex.lenIn Try.runUnderlying22 rfl | exact Ex.lenL Try.runUnderlying22 rfl | exact Ex.len rfl Try.runUnderlying22 rfl) rfl ?_
    refine O.ex (Ex.lss rfl rfl) rfl ?_
    refine O.ex (Ex.move rfl) rfl ?_
    first | refine O.split_p (t := 44) rfl (fun h1 => ?_) (fun h1 => ?_) | refine O.split (t := 44) rfl (fun h1 => ?_) (fun h1 => ?_)
    · refine O.guard_t rfl rfl ?_
      refine O.ex (Ex.move rfl) rfl ?_
      refine O.guard_t rfl rfl ?_
      refine O.ex (Ex.lss rfl rfl) rfl ?_
      refine O.ex (Ex.pick_t rfl rfl) rfl ?_
      refine O.nil ?_
      refine hK16 _ _ _ ?_
      first | refine W.cond_p rfl (fun hlt => ?_) (fun hge => ?_) | refine W.cond_b rfl (fun hlt => ?_) (fun hge => ?_)
      · refine W.skip ?_
        refine hK15 _ _ _ ?_
        refine W.seq (fun K17 hK17 => ?_)
        refine W.block ?_
        refine W.seq (fun K18 hK18 => ?_)
        have hi0 : (0 : Int) ≤ (i : Int) := by omega
        have hi1 : (i : Int) < l.length := h1
        refine W.drawTo (base w0 :: []) (.take 0 (.take 1 (.take 2 (.take 3 (.take 4 (.take 5 (.take 6 (.take 7 (.take 8 (.take 9 (.take 10 (.take 11 (.take 12 (.take 13 (.take 14 (.take 15 (.take 17 (.take 18 (.take 19 (.take 20 (.take 21 (.take 22 (.take 23 (.take 24 (.take 25 (.take 26 (.take 27 (.take 28 (.take 29 (.take 30 (.take 31 (.take 32 (.one 16 (.one 33 (.take 34 .nil))))))))))))))))))))))))))))))))))) (mixed) (fun _ _ _ _ h => h) (by assumption) PP.auto (by decide +kernel) (fun w H => ?_)
        refine OQ.ex rfl (fun w H => (Ex.move rfl)) rfl ?_
        refine OQ.ex rfl (fun w H => (Ex.move rfl)) rfl ?_
        refine OQ.ex rfl (fun w H => (Ex.move rfl)) rfl ?_
        refine OQ.ex rfl (fun w H => (by first | exact Ex.idxIn Try.runUnderlying22 Try.sizeOf44 rfl rfl | exact Ex.idxN Try.runUnderlying22 Try.sizeOf44 rfl rfl | exact Ex.idxSN Try.runUnderlying22 Try.sizeOf44 rfl rfl | exact Ex.idx Try.runUnderlying22 Try.sizeOf44 rfl rfl (by omega) (by omega))) rfl ?_
        refine OQ.ex rfl (fun w H => (by first | exact Ex.field0 fld44_0 rfl | exact Ex.field fld44_0 rfl | exact Ex.fieldS fld44_0 rfl | exact Ex.fieldIn fld44_0 rfl)) rfl ?_
        refine OQ.ex rfl (fun w H => (by first | exact Ex.loadMh Try.isAgg3 rfl | exact Ex.loadInF Try.isAgg3 rfl (Holds.to (by assumption)) | exact Ex.loadP Try.isAgg3 rfl | exact Ex.loadM Try.isAgg3 rfl | exact Ex.loadIn1 Try.isAgg3 rfl (Holds.to (by assumption)) | exact Ex.loadVc Try.isAgg3 rfl | exact Ex.loadR Try.isAgg3 rfl | exact Ex.loadQ Try.isAgg3 rfl)) rfl ?_
        refine OQ.ex rfl (fun w H => (Ex.move rfl)) rfl ?_
        refine OQ.ex rfl (fun w H => (Ex.move rfl)) rfl ?_
        refine OQ.ex rfl (fun w H => (by first | exact Ex.idxIn Try.runUnderlying22 Try.sizeOf44 rfl rfl | exact Ex.idxN Try.runUnderlying22 Try.sizeOf44 rfl rfl | exact Ex.idxSN Try.runUnderlying22 Try.sizeOf44 rfl rfl | exact Ex.idx Try.runUnderlying22 Try.sizeOf44 rfl rfl (by omega) (by omega))) rfl ?_
        refine OQ.ex rfl (fun w H => (by first | exact Ex.field0 fld44_1 rfl | exact Ex.field fld44_1 rfl | exact Ex.fieldS fld44_1 rfl | exact Ex.fieldIn fld44_1 rfl)) rfl ?_
        refine OQ.ex rfl (fun w H => (by first | exact Ex.loadMh Try.isAgg3 rfl | exact Ex.loadInF Try.isAgg3 rfl (Holds.to (by assumption)) | exact Ex.loadP Try.isAgg3 rfl | exact Ex.loadM Try.isAgg3 rfl | exact Ex.loadIn1 Try.isAgg3 rfl (Holds.to (by assumption)) | exact Ex.loadVc Try.isAgg3 rfl | exact Ex.loadR Try.isAgg3 rfl | exact Ex.loadQ Try.isAgg3 rfl)) rfl ?_
        refine OQ.ex rfl (fun w H => (Ex.move rfl)) rfl ?_
        refine OQ.ex rfl (fun w H => (Ex.move rfl)) rfl ?_
        refine OQ.ex rfl (fun w H => (by first | exact Ex.idxIn Try.runUnderlying22 Try.sizeOf44 rfl rfl | exact Ex.idxN Try.runUnderlying22 Try.sizeOf44 rfl rfl | exact Ex.idxSN Try.runUnderlying22 Try.sizeOf44 rfl rfl | exact Ex.idx Try.runUnderlying22 Try.sizeOf44 rfl rfl (by omega) (by omega))) rfl ?_
        refine OQ.ex rfl (fun w H => (by first | exact Ex.field0 fld44_2 rfl | exact Ex.field fld44_2 rfl | exact Ex.fieldS fld44_2 rfl | exact Ex.fieldIn fld44_2 rfl)) rfl ?_
        refine OQ.ex rfl (fun w H => (by first | exact Ex.loadMh Try.isAgg3 rfl | exact Ex.loadInF Try.isAgg3 rfl (Holds.to (by assumption)) | exact Ex.loadP Try.isAgg3 rfl | exact Ex.loadM Try.isAgg3 rfl | exact Ex.loadIn1 Try.isAgg3 rfl (Holds.to (by assumption)) | exact Ex.loadVc Try.isAgg3 rfl | exact Ex.loadR Try.isAgg3 rfl | exact Ex.loadQ Try.isAgg3 rfl)) rfl ?_
        refine OQ.ex rfl (fun w H => (Ex.move rfl)) rfl ?_
        refine OQ.ex rfl (fun w H => (Ex.move rfl)) rfl ?_
        refine OQ.ex rfl (fun w H => (Ex.move rfl)) rfl ?_
        refine OQ.ex rfl (fun w H => (by first | exact Ex.idxIn Try.runUnderlying22 Try.sizeOf44 rfl rfl | exact Ex.idxN Try.runUnderlying22 Try.sizeOf44 rfl rfl | exact Ex.idxSN Try.runUnderlying22 Try.sizeOf44 rfl rfl | exact Ex.idx Try.runUnderlying22 Try.sizeOf44 rfl rfl (by omega) (by omega))) rfl ?_
        refine OQ.ex rfl (fun w H => (by first | exact Ex.field0 fld44_0 rfl | exact Ex.field fld44_0 rfl | exact Ex.fieldS fld44_0 rfl | exact Ex.fieldIn fld44_0 rfl)) rfl ?_
        refine OQ.ex rfl (fun w H => (by first | exact Ex.loadMh Try.isAgg3 rfl | exact Ex.loadInF Try.isAgg3 rfl (Holds.to (by assumption)) | exact Ex.loadP Try.isAgg3 rfl | exact Ex.loadM Try.isAgg3 rfl | exact Ex.loadIn1 Try.isAgg3 rfl (Holds.to (by assumption)) | exact Ex.loadVc Try.isAgg3 rfl | exact Ex.loadR Try.isAgg3 rfl | exact Ex.loadQ Try.isAgg3 rfl)) rfl ?_
        refine OQ.ex rfl (fun w H => (Ex.move rfl)) rfl ?_
        refine OQ.ex rfl (fun w H => (Ex.move rfl)) rfl ?_
        refine OQ.ex rfl (fun w H => (by first | exact Ex.idxIn Try.runUnderlying22 Try.sizeOf44 rfl rfl | exact Ex.idxN Try.runUnderlying22 Try.sizeOf44 rfl rfl | exact Ex.idxSN Try.runUnderlying22 Try.sizeOf44 rfl rfl | exact Ex.idx Try.runUnderlying22 Try.sizeOf44 rfl rfl (by omega) (by omega))) rfl ?_
        refine OQ.ex rfl (fun w H => (by first | exact Ex.field0 fld44_1 rfl | exact Ex.field fld44_1 rfl | exact Ex.fieldS fld44_1 rfl | exact Ex.fieldIn fld44_1 rfl)) rfl ?_
        refine OQ.ex rfl (fun w H => (by first | exact Ex.loadMh Try.isAgg3 rfl | exact Ex.loadInF Try.isAgg3 rfl (Holds.to (by assumption)) | exact Ex.loadP Try.isAgg3 rfl | exact Ex.loadM Try.isAgg3 rfl | exact Ex.loadIn1 Try.isAgg3 rfl (Holds.to (by assumption)) | exact Ex.loadVc Try.isAgg3 rfl | exact Ex.loadR Try.isAgg3 rfl | exact Ex.loadQ Try.isAgg3 rfl)) rfl ?_
        refine OQ.ex rfl (fun w H => (Ex.move rfl)) rfl ?_
        refine OQ.ex rfl (fun w H => (Ex.move rfl)) rfl ?_
        refine OQ.ex rfl (fun w H => (by first | exact Ex.idxIn Try.runUnderlying22 Try.sizeOf44 rfl rfl | exact Ex.idxN Try.runUnderlying22 Try.sizeOf44 rfl rfl | exact Ex.idxSN Try.runUnderlying22 Try.sizeOf44 rfl rfl | exact Ex.idx Try.runUnderlying22 Try.sizeOf44 rfl rfl (by omega) (by omega))) rfl ?_
        refine OQ.ex rfl (fun w H => (by first | exact Ex.field0 fld44_2 rfl | exact Ex.field fld44_2 rfl | exact Ex.fieldS fld44_2 rfl | exact Ex.fieldIn fld44_2 rfl)) rfl ?_
        refine OQ.ex rfl (fun w H => (by first | exact Ex.loadMh Try.isAgg3 rfl | exact Ex.loadInF Try.isAgg3 rfl (Holds.to (by assumption)) | exact Ex.loadP Try.isAgg3 rfl | exact Ex.loadM Try.isAgg3 rfl | exact Ex.loadIn1 Try.isAgg3 rfl (Holds.to (by assumption)) | exact Ex.loadVc Try.isAgg3 rfl | exact Ex.loadR Try.isAgg3 rfl | exact Ex.loadQ Try.isAgg3 rfl)) rfl ?_
        refine OQ.step rfl ?_
        refine O.callF Try.call22 rfl rfl (CT.mono (put_ct hg (Holds.to (by assumption))) ?_)
        rintro _ w ⟨rfl, H⟩
        refine O.thenNil ⟨(by first | exact Holds.to (by assumption) | assumption), ?_⟩
        refine OQ.step rfl ?_
        refine O.callF Try.call23 rfl rfl (CT.mono (refPut_ct hg (Holds.to (by assumption))) ?_)
        rintro _ w ⟨rfl, H⟩
        refine O.thenNil ⟨(by first | exact Holds.to (by assumption) | assumption), ?_⟩
        refine OQ.ex rfl (fun w H => (Ex.neqI rfl rfl)) rfl ?_
        refine OQ.done ?_
        refine hK18 _ _ _ ?_
        refine W.known_f rfl (by first | rfl | decide | exact decide_eq_false (fun hh => hh rfl) | (refine decide_eq_false ?_; omega) | (refine decide_eq_true ?_; omega)) ?_
        refine W.skip ?_
        refine hK17 _ _ _ ?_
        refine W.region ?_
        refine O.ex (Ex.move rfl) rfl ?_
        refine O.ex (by first | exact Ex.addI rfl rfl | exact Ex.add rfl rfl rfl) rfl ?_
        refine O.ex (Ex.assign rfl) rfl ?_
        refine O.nil ?_
        exact ⟨i + 1, ⟨rfl, rfl, rfl, rfl, rfl, rfl, trivial⟩, ⟨rfl, by omega, by omega, _, good_put hg _ _ _, Holds.to (by assumption)⟩, by omega⟩
      · refine W.exit ?_
        refine hK13 _ _ _ ?_
        refine W.seq (fun K19 hK19 => ?_)
        refine W.region ?_
        refine O.ex (Ex.move rfl) rfl ?_
        refine O.ex (Ex.move rfl) rfl ?_
        refine O.callF Try.call24 rfl rfl (CT.mono (same_ct hg (Holds.to (by assumption))) ?_)
        rintro _ w ⟨rfl, H⟩
        refine O.ex (Ex.move rfl) rfl ?_
        refine O.known (t := 88) (c := true) rfl (by first | rfl | decide | exact decide_eq_false (fun hh => hh rfl) | (refine decide_eq_false ?_; omega) | (refine decide_eq_true ?_; omega)) ?_
        refine O.guard_t rfl rfl ?_
        refine O.ex (Ex.move rfl) rfl ?_
        refine O.guard_t rfl rfl ?_
        refine O.ex (Ex.move rfl) rfl ?_
        refine O.guard_t rfl rfl ?_
        refine O.ex (Ex.move rfl) rfl ?_
        refine O.guard_t rfl rfl ?_
        refine O.ex (Ex.move rfl) rfl ?_
        refine O.guard_t rfl rfl ?_
        refine O.ex (by first | exact Ex.convToI Try.runUnderlying5 Try.runUnderlying3 rfl | exact Ex.convW Try.runUnderlying5 Try.runUnderlying3 rfl) rfl ?_
        refine O.guard_t rfl rfl ?_
        refine O.callF Try.call25 rfl rfl (CT.mono (goesf_ct hg q0 q1 (Holds.to (by assumption))) ?_)
        rintro _ w ⟨rfl, H⟩
        refine O.ex (Ex.pick_t rfl rfl) rfl ?_
        refine O.ex (Ex.move rfl) rfl ?_
        refine O.known (t := 96) (c := true) rfl (by first | rfl | decide | exact decide_eq_false (fun hh => hh rfl) | (refine decide_eq_false ?_; omega) | (refine decide_eq_true ?_; omega)) ?_
        refine O.guard_t rfl rfl ?_
        refine O.ex (Ex.move rfl) rfl ?_
        refine O.guard_t rfl rfl ?_
        refine O.ex (Ex.move rfl) rfl ?_
        refine O.guard_t rfl rfl ?_
        refine O.ex (Ex.move rfl) rfl ?_
        refine O.guard_t rfl rfl ?_
        refine O.ex (Ex.move rfl) rfl ?_
        refine O.guard_t rfl rfl ?_
        refine O.ex (by first | exact Ex.convToI Try.runUnderlying5 Try.runUnderlying3 rfl | exact Ex.convW Try.runUnderlying5 Try.runUnderlying3 rfl) rfl ?_
        refine O.guard_t rfl rfl ?_
        refine O.callF Try.call25 rfl rfl (CT.mono (goest_ct hg q0 q1 (Holds.to (by assumption))) ?_)
        rintro _ w ⟨rfl, H⟩
        refine O.ex (Ex.pick_t rfl rfl) rfl ?_
        refine O.ex (Ex.move rfl) rfl ?_
        refine O.known (t := 104) (c := true) rfl (by first | rfl | decide | exact decide_eq_false (fun hh => hh rfl) | (refine decide_eq_false ?_; omega) | (refine decide_eq_true ?_; omega)) ?_
        refine O.guard_t rfl rfl ?_
        refine O.ex (Ex.move rfl) rfl ?_
        refine O.guard_t rfl rfl ?_
        refine O.ex (Ex.move rfl) rfl ?_
        refine O.guard_t rfl rfl ?_
        refine O.callF Try.call27 rfl rfl (CT.mono (detours_ct hg (Holds.to (by assumption))) ?_)
        rintro _ w ⟨hva, H⟩
        refine O.guard_t rfl rfl ?_
        refine O.ex (Ex.move rfl) rfl ?_
        refine O.guard_t rfl rfl ?_
        refine O.ex (Ex.move rfl) rfl ?_
        refine O.guard_t rfl rfl ?_
        refine O.callF Try.call28 rfl rfl (CT.mono (refDetours_ct hg (Holds.to (by assumption))) ?_)
        rintro _ w ⟨hvb, H⟩
        refine O.guard_t rfl rfl ?_
        refine O.callF Try.call26 rfl rfl (CT.mono (links_ct (l := detL n c v) (Nat.le_trans (detL_len hg v) (by decide)) (Holds.to (by assumption))) ?_)
        rintro _ w ⟨rfl, H⟩
        refine O.ex (Ex.pick_t rfl rfl) rfl ?_
        refine O.ex (Ex.assign rfl) rfl ?_
        refine O.nil ?_
        refine hK19 _ _ _ ?_
        refine W.ret ?_
        try dsimp only [thenQ, blockQ, retQ]
        first | refine ⟨_, ⟨_, _, rfl, rfl, rfl⟩, ?_⟩ | (refine retD_mark ?_; intro w H; refine ⟨_, ⟨_, _, rfl, rfl, rfl⟩, ?_⟩) | (refine retD_mark2 ?_; intro w H; refine ⟨_, ⟨_, _, rfl, rfl, rfl⟩, ?_⟩)
        refine ⟨?_, Holds.base_below (L := []) (Holds.to (by assumption))⟩
        first
        | rfl
        | exact congrArg Value.bool (decide_eq_true rfl)
    · refine O.guard_f rfl rfl rfl rfl ?_
      refine O.guard_f rfl rfl rfl rfl ?_
      refine O.ex (Ex.pick_f rfl rfl) rfl ?_
      refine O.nil ?_
      refine hK16 _ _ _ ?_
      refine W.cond_f rfl ?_
      refine W.exit ?_
      refine hK13 _ _ _ ?_
      refine W.seq (fun K20 hK20 => ?_)
      refine W.region ?_
      refine O.ex (Ex.move rfl) rfl ?_
      refine O.ex (Ex.move rfl) rfl ?_
      refine O.callF Try.call24 rfl rfl (CT.mono (same_ct hg (Holds.to (by assumption))) ?_)
      rintro _ w ⟨rfl, H⟩
      refine O.ex (Ex.move rfl) rfl ?_
      refine O.known (t := 88) (c := true) rfl (by first | rfl | decide | exact decide_eq_false (fun hh => hh rfl) | (refine decide_eq_false ?_; omega) | (refine decide_eq_true ?_; omega)) ?_
      refine O.guard_t rfl rfl ?_
      refine O.ex (Ex.move rfl) rfl ?_
      refine O.guard_t rfl rfl ?_
      refine O.ex (Ex.move rfl) rfl ?_
      refine O.guard_t rfl rfl ?_
      refine O.ex (Ex.move rfl) rfl ?_
      refine O.guard_t rfl rfl ?_
      refine O.ex (Ex.move rfl) rfl ?_
      refine O.guard_t rfl rfl ?_
      refine O.ex (by first | exact Ex.convToI Try.runUnderlying5 Try.runUnderlying3 rfl | exact Ex.convW Try.runUnderlying5 Try.runUnderlying3 rfl) rfl ?_
      refine O.guard_t rfl rfl ?_
      refine O.callF Try.call25 rfl rfl (CT.mono (goesf_ct hg q0 q1 (Holds.to (by assumption))) ?_)
      rintro _ w ⟨rfl, H⟩
      refine O.ex (Ex.pick_t rfl rfl) rfl ?_
      refine O.ex (Ex.move rfl) rfl ?_
      refine O.known (t := 96) (c := true) rfl (by first | rfl | decide | exact decide_eq_false (fun hh => hh rfl) | (refine decide_eq_false ?_; omega) | (refine decide_eq_true ?_; omega)) ?_
      refine O.guard_t rfl rfl ?_
      refine O.ex (Ex.move rfl) rfl ?_
      refine O.guard_t rfl rfl ?_
      refine O.ex (Ex.move rfl) rfl ?_
      refine O.guard_t rfl rfl ?_
      refine O.ex (Ex.move rfl) rfl ?_
      refine O.guard_t rfl rfl ?_
      refine O.ex (Ex.move rfl) rfl ?_
      refine O.guard_t rfl rfl ?_
      refine O.ex (by first | exact Ex.convToI Try.runUnderlying5 Try.runUnderlying3 rfl | exact Ex.convW Try.runUnderlying5 Try.runUnderlying3 rfl) rfl ?_
      refine O.guard_t rfl rfl ?_
      refine O.callF Try.call25 rfl rfl (CT.mono (goest_ct hg q0 q1 (Holds.to (by assumption))) ?_)
      rintro _ w ⟨rfl, H⟩
      refine O.ex (Ex.pick_t rfl rfl) rfl ?_
      refine O.ex (Ex.move rfl) rfl ?_
      refine O.known (t := 104) (c := true) rfl (by first | rfl | decide | exact decide_eq_false (fun hh => hh rfl) | (refine decide_eq_false ?_; omega) | (refine decide_eq_true ?_; omega)) ?_
      refine O.guard_t rfl rfl ?_
      refine O.ex (Ex.move rfl) rfl ?_
      refine O.guard_t rfl rfl ?_
      refine O.ex (Ex.move rfl) rfl ?_
      refine O.guard_t rfl rfl ?_
      refine O.callF Try.call27 rfl rfl (CT.mono (detours_ct hg (Holds.to (by assumption))) ?_)
      rintro _ w ⟨hva, H⟩
      refine O.guard_t rfl rfl ?_
      refine O.ex (Ex.move rfl) rfl ?_
      refine O.guard_t rfl rfl ?_
      refine O.ex (Ex.move rfl) rfl ?_
      refine O.guard_t rfl rfl ?_
      refine O.callF Try.call28 rfl rfl (CT.mono (refDetours_ct hg (Holds.to (by assumption))) ?_)
      rintro _ w ⟨hvb, H⟩
      refine O.guard_t rfl rfl ?_
      refine O.callF Try.call26 rfl rfl (CT.mono (links_ct (l := detL n c v) (Nat.le_trans (detL_len hg v) (by decide)) (Holds.to (by assumption))) ?_)
      rintro _ w ⟨rfl, H⟩
      refine O.ex (Ex.pick_t rfl rfl) rfl ?_
      refine O.ex (Ex.assign rfl) rfl ?_
      refine O.nil ?_
      refine hK20 _ _ _ ?_
      refine W.ret ?_
      try dsimp only [thenQ, blockQ, retQ]
      first | refine ⟨_, ⟨_, _, rfl, rfl, rfl⟩, ?_⟩ | (refine retD_mark ?_; intro w H; refine ⟨_, ⟨_, _, rfl, rfl, rfl⟩, ?_⟩) | (refine retD_mark2 ?_; intro w H; refine ⟨_, ⟨_, _, rfl, rfl, rfl⟩, ?_⟩)
      refine ⟨?_, Holds.base_below (L := []) (Holds.to (by assumption))⟩
      first
      | rfl
      | exact congrArg Value.bool (decide_eq_true rfl)
theorem meshPuts_row {w0 : World} {n v q : Int} {lv : Value} {l : List Step} (hn : (Lit.int .i64 n).wf = true) (hx : SlIn w0 3 Step.enc lv l) (hg : ∀ x ∈ l, x.ok) (hl : l.length ≤ maxLen) (hv : (Lit.int .i64 v).wf = true) (hq : (Lit.int .u8 q).wf = true) :
    CT Try.prog 4 [.int .i64 n, lv, .int .i64 v, .int .u8 q] w0 fun x w' => x = .bool true ∧ RowKit.Below w0.heap.size w0 w' :=
  meshPuts_ct hx (by unfold maxLen at hl; omega) hq
end Go.Proofs.Ytblapiiinbppiaa
