import Derived.Test.YtblapiiinbppiaaMesh4
import Derived.Test.YtblapiiinbppiaaRrBase
--ARR
namespace Go.Proofs.Ytblapiiinbppiaa
open Go.Rr Go
set_option linter.unusedVariables false
set_option maxHeartbeats 1000000 in
theorem refAll_ct {w : World} {m : Nat} {n : Int} {c : Int → Int → Int} {L : List HProp} (hg : Good n c) (H : Holds w (Rh m n c :: L)) :
    CT Try.prog 17 [.pointer (some ⟨m, 0, none⟩)] w fun x w' => x = mval [] (far n c) ∧ Holds w' (Rh m n c :: L) := by
  have n1 := hg.n1
  have n2 := hg.n2
  have H := (rh_open (m := m) (n := n) (c := c)).1 H
  refine CT.enter (N := 69) Try.func17 rfl rfl rfl rfl ?_
  refine W.seq (fun K0 hK0 => ?_)
  refine W.region ?_
  refine O.allocM [] zS (fun b2 w H => ?_)
  refine O.nil ?_
  refine hK0 _ _ _ ?_
  refine W.seq (fun K1 hK1 => ?_)
  refine W.region ?_
  refine O.ex (Ex.move rfl) rfl ?_
  refine O.ex (by first | exact Ex.nilPtr rfl | exact Ex.nilFunc rfl | exact Ex.nilYield rfl) rfl ?_
  refine O.ex (by first | exact Ex.field0 fld32_1 rfl | exact Ex.field fld32_1 rfl | exact Ex.fieldS fld32_1 rfl) rfl ?_
  refine O.ex (Ex.loadMsq Try.isAgg30 Try.sizeOf30 rfl (hd := [.int .i64 n]) rfl) rfl ?_
  refine O.allocM [] zS (fun b3 w H => ?_)
  refine O.storeMall (hd := []) Try.sizeOf30 rfl rfl rfl rfl rfl (fun w H => ?_)
  refine O.nil ?_
  refine hK1 _ _ _ ?_
  refine W.seq (fun K2 hK2 => ?_)
  refine W.seq (fun K3 hK3 => ?_)
  refine W.region ?_
  refine O.ex (Ex.assign rfl) rfl ?_
  refine O.nil ?_
  refine hK3 _ _ _ ?_
  refine W.block ?_
  have H : Holds w (mtx b3 30 [] (fun a b => if a = b ∧ a < ((0 : Nat) : Int) then 0 else c a b) :: mtx b2 30 [] (fun _ _ => 0) :: mtx m 32 [.int .i64 n] c :: L) := by
    rw [mtx_congr (D := fun a b => if a = b ∧ a < ((0 : Nat) : Int) then 0 else c a b) (D' := c) (fun a b h0 _ _ _ => if_neg (by omega))]; exact Holds.to (by assumption)
  refine W.loop (σ := Nat) (fun i => [(0, .pointer (some ⟨m, 0, none⟩)), (2, .pointer (some ⟨b2, 0, none⟩)), (3, .pointer (some ⟨b3, 0, none⟩)), (4, .int .i64 (i : Int))]) (fun i ds w => ds = [] ∧ i ≤ 24 ∧ Holds w (mtx b3 30 [] (fun a b => if a = b ∧ a < (i : Nat) then 0 else c a b) :: mtx b2 30 [] (fun _ _ => 0) :: mtx m 32 [.int .i64 n] c :: L)) (fun i => 24 - i) 0 ⟨rfl, rfl, rfl, rfl, trivial⟩ ⟨rfl, by omega, Holds.to (by assumption)⟩ ?_
  clear H
  rintro i _ w ⟨rfl, hi, H⟩
  refine W.seq (fun K4 hK4 => ?_)
  refine W.seq (fun K5 hK5 => ?_)
  refine W.region ?_
  refine O.ex (Ex.move rfl) rfl ?_
  refine O.ex (Ex.lss rfl rfl) rfl ?_
  refine O.nil ?_
  refine hK5 _ _ _ ?_
  first | refine W.cond_p rfl (fun hlt => ?_) (fun hge => ?_) | refine W.cond_b rfl (fun hlt => ?_) (fun hge => ?_)
  · refine W.skip ?_
    refine hK4 _ _ _ ?_
    refine W.seq (fun K6 hK6 => ?_)
    refine W.block ?_
    refine W.region ?_
    refine O.ex (Ex.move rfl) rfl ?_
    refine O.ex (Ex.move rfl) rfl ?_
    refine O.ex (Ex.idxArr Try.runUnderlying30 Try.sizeOf29 rfl rfl) rfl ?_
    refine O.ex (Ex.idxArr Try.runUnderlying29 Try.sizeOf3 rfl rfl) rfl ?_
    first | refine O.storeP Try.sizeOf3 rfl rfl (fun w H => ?_) | refine O.storeR Try.sizeOf3 rfl rfl (fun w H => ?_) | refine O.storeM Try.sizeOf3 rfl rfl (fun w H => ?_) | refine O.storeVc Try.sizeOf3 rfl rfl (fun w H => ?_)
    refine O.nil ?_
    refine hK6 _ _ _ ?_
    refine W.region ?_
    refine O.ex (Ex.move rfl) rfl ?_
    refine O.ex (by first | exact Ex.addI rfl rfl | exact Ex.add rfl rfl rfl) rfl ?_
    refine O.ex (Ex.assign rfl) rfl ?_
    refine O.nil ?_
    rw [show upd2 (fun (a b : Int) => if a = b ∧ a < (i : Nat) then 0 else c a b) (i : Nat) (i : Nat) 0 = (fun (a b : Int) => if a = b ∧ a < ((i + 1 : Nat) : Int) then 0 else c a b) from by
      funext a b; unfold upd2; dsimp only
      by_cases e : a = (i : Nat) ∧ b = (i : Nat)
      · rw [if_pos e, if_pos (by omega)]
      · rw [if_neg e]
        by_cases e2 : a = b ∧ a < (i : Nat)
        · rw [if_pos e2, if_pos (by omega)]
        · rw [if_neg e2, if_neg (by omega)]] at H
    exact ⟨i + 1, ⟨rfl, rfl, rfl, rfl, trivial⟩, ⟨rfl, by omega, Holds.to (by assumption)⟩, by omega⟩
  · refine W.exit ?_
    refine hK2 _ _ _ ?_
    refine W.seq (fun K7 hK7 => ?_)
    refine W.seq (fun K8 hK8 => ?_)
    refine W.region ?_
    refine O.ex (Ex.assign rfl) rfl ?_
    refine O.nil ?_
    refine hK8 _ _ _ ?_
    refine W.block ?_
    obtain rfl : i = 24 := by omega
    have H : Holds w (mtx b3 30 [] (fw c 0) :: mtx b2 30 [] (fun _ _ => 0) :: mtx m 32 [.int .i64 n] c :: L) := by
      rw [mtx_congr (D := fw c 0) (D' := fun a b => if a = b ∧ a < ((24 : Nat) : Int) then 0 else c a b) (fun a b h0 h1 _ _ => by
        show (if a = b then 0 else c a b) = _
        by_cases e : a = b
        · rw [if_pos e, if_pos ⟨e, by omega⟩]
        · rw [if_neg e, if_neg (fun hh => e hh.1)])]; exact Holds.to (by assumption)
    refine W.loop (σ := Nat) (fun k => [(0, .pointer (some ⟨m, 0, none⟩)), (2, .pointer (some ⟨b2, 0, none⟩)), (3, .pointer (some ⟨b3, 0, none⟩)), (5, .int .i64 (k : Int))]) (fun k ds w => ds = [] ∧ (k : Int) ≤ n ∧ Holds w (mtx b3 30 [] (fw c k) :: mtx b2 30 [] (fun _ _ => 0) :: mtx m 32 [.int .i64 n] c :: L)) (fun k => n.toNat - k) 0 ⟨rfl, rfl, rfl, rfl, trivial⟩ ⟨rfl, by omega, Holds.to (by assumption)⟩ ?_
    clear H
    rintro k _ w ⟨rfl, hk, H⟩
    have hD := fw_dst hg k
    have hd := fw_diag hg k (k : Nat)
    refine W.seq (fun K9 hK9 => ?_)
    refine W.seq (fun K10 hK10 => ?_)
    refine W.region ?_
    refine O.ex (Ex.move rfl) rfl ?_
    refine O.ex (Ex.move rfl) rfl ?_
    refine O.ex (by first | exact Ex.nilPtr rfl | exact Ex.nilFunc rfl | exact Ex.nilYield rfl) rfl ?_
    refine O.ex (by first | exact Ex.field0 fld32_0 rfl | exact Ex.field fld32_0 rfl | exact Ex.fieldS fld32_0 rfl) rfl ?_
    refine O.ex (by first | exact Ex.loadMh Try.isAgg3 rfl | exact Ex.loadP Try.isAgg3 rfl | exact Ex.loadM Try.isAgg3 rfl | exact Ex.loadIn1 Try.isAgg3 rfl (Holds.to (by assumption)) | exact Ex.loadVc Try.isAgg3 rfl | exact Ex.loadR Try.isAgg3 rfl | exact Ex.loadQ Try.isAgg3 rfl) rfl ?_
    refine O.ex (Ex.lss rfl rfl) rfl ?_
    refine O.nil ?_
    refine hK10 _ _ _ ?_
    first | refine W.cond_p rfl (fun hlt1 => ?_) (fun hge1 => ?_) | refine W.cond_b rfl (fun hlt1 => ?_) (fun hge1 => ?_)
    · refine W.skip ?_
      refine hK9 _ _ _ ?_
      refine W.seq (fun K11 hK11 => ?_)
      refine W.block ?_
      refine W.seq (fun K12 hK12 => ?_)
      refine W.region ?_
      refine O.ex (Ex.assign rfl) rfl ?_
      refine O.nil ?_
      refine hK12 _ _ _ ?_
      refine W.block ?_
      have H : Holds w (mtx b3 30 [] (fwE (fw c k) n k ((0 : Nat) : Int) 0) :: mtx b2 30 [] (fun _ _ => 0) :: mtx m 32 [.int .i64 n] c :: L) := by
        rw [mtx_congr (D := fwE (fw c k) n k ((0 : Nat) : Int) 0) (D' := fw c k) (fun a b h0 _ h2 _ => if_neg (by omega))]; exact Holds.to (by assumption)
      refine W.loop (σ := Nat) (fun u => [(0, .pointer (some ⟨m, 0, none⟩)), (2, .pointer (some ⟨b2, 0, none⟩)), (3, .pointer (some ⟨b3, 0, none⟩)), (5, .int .i64 (k : Int)), (6, .int .i64 (u : Int))]) (fun u ds w => ds = [] ∧ (u : Int) ≤ n ∧ Holds w (mtx b3 30 [] (fwE (fw c k) n k u 0) :: mtx b2 30 [] (fun _ _ => 0) :: mtx m 32 [.int .i64 n] c :: L)) (fun u => n.toNat - u) 0 ⟨rfl, rfl, rfl, rfl, rfl, trivial⟩ ⟨rfl, by omega, Holds.to (by assumption)⟩ ?_
      clear H
      rintro u _ w ⟨rfl, hu, H⟩
      refine W.seq (fun K13 hK13 => ?_)
      refine W.seq (fun K14 hK14 => ?_)
      refine W.region ?_
      refine O.ex (Ex.move rfl) rfl ?_
      refine O.ex (Ex.move rfl) rfl ?_
      refine O.ex (by first | exact Ex.nilPtr rfl | exact Ex.nilFunc rfl | exact Ex.nilYield rfl) rfl ?_
      refine O.ex (by first | exact Ex.field0 fld32_0 rfl | exact Ex.field fld32_0 rfl | exact Ex.fieldS fld32_0 rfl) rfl ?_
      refine O.ex (by first | exact Ex.loadMh Try.isAgg3 rfl | exact Ex.loadP Try.isAgg3 rfl | exact Ex.loadM Try.isAgg3 rfl | exact Ex.loadIn1 Try.isAgg3 rfl (Holds.to (by assumption)) | exact Ex.loadVc Try.isAgg3 rfl | exact Ex.loadR Try.isAgg3 rfl | exact Ex.loadQ Try.isAgg3 rfl) rfl ?_
      refine O.ex (Ex.lss rfl rfl) rfl ?_
      refine O.nil ?_
      refine hK14 _ _ _ ?_
      first | refine W.cond_p rfl (fun hlt2 => ?_) (fun hge2 => ?_) | refine W.cond_b rfl (fun hlt2 => ?_) (fun hge2 => ?_)
      · refine W.skip ?_
        refine hK13 _ _ _ ?_
        refine W.seq (fun K15 hK15 => ?_)
        refine W.block ?_
        refine W.seq (fun K16 hK16 => ?_)
        refine W.region ?_
        refine O.ex (Ex.assign rfl) rfl ?_
        refine O.nil ?_
        refine hK16 _ _ _ ?_
        refine W.block ?_
        refine W.loop (σ := Nat) (fun v => [(0, .pointer (some ⟨m, 0, none⟩)), (2, .pointer (some ⟨b2, 0, none⟩)), (3, .pointer (some ⟨b3, 0, none⟩)), (5, .int .i64 (k : Int)), (6, .int .i64 (u : Int)), (7, .int .i64 (v : Int))]) (fun v ds w => ds = [] ∧ (v : Int) ≤ n ∧ Holds w (mtx b3 30 [] (fwE (fw c k) n k u v) :: mtx b2 30 [] (fun _ _ => 0) :: mtx m 32 [.int .i64 n] c :: L)) (fun v => n.toNat - v) 0 ⟨rfl, rfl, rfl, rfl, rfl, rfl, trivial⟩ ⟨rfl, by omega, Holds.to (by assumption)⟩ ?_
        clear H
        rintro v _ w ⟨rfl, hv, H⟩
        have hE := fwE_dst (n := n) (k := (k : Int)) (u := (u : Int)) (w := (v : Int)) hD
        have e1 := fwE_col (n := n) (u := (u : Int)) (w := (v : Int)) hD hd (u : Int)
        have e2 := fwE_row (n := n) (u := (u : Int)) (w := (v : Int)) hD hd (v : Int)
        have e3 := fwE_at (D := fw c k) (n := n) (k := (k : Int)) (u := (u : Int)) (w := (v : Int))
        refine W.seq (fun K17 hK17 => ?_)
        refine W.seq (fun K18 hK18 => ?_)
        refine W.region ?_
        refine O.ex (Ex.move rfl) rfl ?_
        refine O.ex (Ex.move rfl) rfl ?_
        refine O.ex (by first | exact Ex.nilPtr rfl | exact Ex.nilFunc rfl | exact Ex.nilYield rfl) rfl ?_
        refine O.ex (by first | exact Ex.field0 fld32_0 rfl | exact Ex.field fld32_0 rfl | exact Ex.fieldS fld32_0 rfl) rfl ?_
        refine O.ex (by first | exact Ex.loadMh Try.isAgg3 rfl | exact Ex.loadP Try.isAgg3 rfl | exact Ex.loadM Try.isAgg3 rfl | exact Ex.loadIn1 Try.isAgg3 rfl (Holds.to (by assumption)) | exact Ex.loadVc Try.isAgg3 rfl | exact Ex.loadR Try.isAgg3 rfl | exact Ex.loadQ Try.isAgg3 rfl) rfl ?_
        refine O.ex (Ex.lss rfl rfl) rfl ?_
        refine O.nil ?_
        refine hK18 _ _ _ ?_
        first | refine W.cond_p rfl (fun hlt3 => ?_) (fun hge3 => ?_) | refine W.cond_b rfl (fun hlt3 => ?_) (fun hge3 => ?_)
        · refine W.skip ?_
          refine hK17 _ _ _ ?_
          refine W.seq (fun K19 hK19 => ?_)
          refine W.block ?_
          refine W.seq (fun K20 hK20 => ?_)
          refine W.drawTo _ (.take 0 (.take 1 (.take 2 (.take 3 (.take 4 (.take 5 (.take 6 (.take 7 (.take 8 (.take 9 (.one 10 (.take 11 .nil)))))))))))) (mixed) (fun _ _ _ _ h => h) (by assumption) (PP.refl _) (by decide +kernel) (fun w H => ?_)
          refine OQ.ex rfl (fun w H => (Ex.move rfl)) rfl ?_
          refine OQ.ex rfl (fun w H => (Ex.move rfl)) rfl ?_
          refine OQ.ex rfl (fun w H => (Ex.idxArr Try.runUnderlying30 Try.sizeOf29 rfl rfl)) rfl ?_
          refine OQ.ex rfl (fun w H => (Ex.idxArr Try.runUnderlying29 Try.sizeOf3 rfl rfl)) rfl ?_
          refine OQ.ex rfl (fun w H => (by first | exact Ex.loadM Try.isAgg3 rfl | exact Ex.loadVc Try.isAgg3 rfl | exact Ex.loadP Try.isAgg3 rfl | exact Ex.loadIn1 Try.isAgg3 rfl (Holds.to (by assumption)) | exact Ex.loadMh Try.isAgg3 rfl | exact Ex.loadR Try.isAgg3 rfl | exact Ex.loadQ Try.isAgg3 rfl)) rfl ?_
          refine OQ.ex rfl (fun w H => (Ex.move rfl)) rfl ?_
          refine OQ.ex rfl (fun w H => (Ex.move rfl)) rfl ?_
          refine OQ.ex rfl (fun w H => (Ex.idxArr Try.runUnderlying30 Try.sizeOf29 rfl rfl)) rfl ?_
          refine OQ.ex rfl (fun w H => (Ex.idxArr Try.runUnderlying29 Try.sizeOf3 rfl rfl)) rfl ?_
          refine OQ.ex rfl (fun w H => (by first | exact Ex.loadM Try.isAgg3 rfl | exact Ex.loadVc Try.isAgg3 rfl | exact Ex.loadP Try.isAgg3 rfl | exact Ex.loadIn1 Try.isAgg3 rfl (Holds.to (by assumption)) | exact Ex.loadMh Try.isAgg3 rfl | exact Ex.loadR Try.isAgg3 rfl | exact Ex.loadQ Try.isAgg3 rfl)) rfl ?_
          refine OQ.step rfl ?_
          refine O.callF Try.call52 rfl rfl (CT.mono (refTwo_ct (Holds.to (by assumption)) (hE _ _) (hE _ _)) ?_)
          rintro _ w ⟨rfl, H⟩
          refine O.thenNil ⟨(by first | exact Holds.to (by assumption) | assumption), ?_⟩
          refine OQ.ex rfl (fun w H => (Ex.assign rfl)) rfl ?_
          refine OQ.done ?_
          refine hK20 _ _ _ ?_
          refine W.seq (fun K21 hK21 => ?_)
          refine W.region ?_
          rw [e1, e2]
          refine O.ex (Ex.move rfl) rfl ?_
          refine O.ex (Ex.move rfl) rfl ?_
          refine O.ex (Ex.move rfl) rfl ?_
          refine O.ex (Ex.idxArr Try.runUnderlying30 Try.sizeOf29 rfl rfl) rfl ?_
          refine O.ex (Ex.idxArr Try.runUnderlying29 Try.sizeOf3 rfl rfl) rfl ?_
          refine O.ex (by first | exact Ex.loadM Try.isAgg3 rfl | exact Ex.loadVc Try.isAgg3 rfl | exact Ex.loadP Try.isAgg3 rfl | exact Ex.loadIn1 Try.isAgg3 rfl (Holds.to (by assumption)) | exact Ex.loadMh Try.isAgg3 rfl | exact Ex.loadR Try.isAgg3 rfl | exact Ex.loadQ Try.isAgg3 rfl) rfl ?_
          rw [e3]
          refine O.ex (Ex.lss rfl rfl) rfl ?_
          refine O.nil ?_
          refine hK21 _ _ _ ?_
          first | refine W.cond_p rfl (fun hl1 => ?_) (fun hl2 => ?_) | refine W.cond_b rfl (fun hl1 => ?_) (fun hl2 => ?_)
          · refine W.region ?_
            refine O.ex (Ex.move rfl) rfl ?_
            refine O.ex (Ex.move rfl) rfl ?_
            refine O.ex (Ex.move rfl) rfl ?_
            refine O.ex (Ex.idxArr Try.runUnderlying30 Try.sizeOf29 rfl rfl) rfl ?_
            refine O.ex (Ex.idxArr Try.runUnderlying29 Try.sizeOf3 rfl rfl) rfl ?_
            first | refine O.storeP Try.sizeOf3 rfl rfl (fun w H => ?_) | refine O.storeR Try.sizeOf3 rfl rfl (fun w H => ?_) | refine O.storeM Try.sizeOf3 rfl rfl (fun w H => ?_) | refine O.storeVc Try.sizeOf3 rfl rfl (fun w H => ?_)
            refine O.nil ?_
            refine hK19 _ _ _ ?_
            refine W.region ?_
            refine O.ex (Ex.move rfl) rfl ?_
            refine O.ex (by first | exact Ex.addI rfl rfl | exact Ex.add rfl rfl rfl) rfl ?_
            refine O.ex (Ex.assign rfl) rfl ?_
            refine O.nil ?_
            first
            | (rw [fwE_lt (by omega) (by omega) hl1] at H
               exact ⟨v + 1, ⟨rfl, rfl, rfl, rfl, rfl, rfl, trivial⟩, ⟨rfl, by omega, Holds.to (by assumption)⟩, by omega⟩)
            | (rw [fwE_ge hl2] at H
               exact ⟨v + 1, ⟨rfl, rfl, rfl, rfl, rfl, rfl, trivial⟩, ⟨rfl, by omega, Holds.to (by assumption)⟩, by omega⟩)
          · refine W.skip ?_
            refine hK19 _ _ _ ?_
            refine W.region ?_
            refine O.ex (Ex.move rfl) rfl ?_
            refine O.ex (by first | exact Ex.addI rfl rfl | exact Ex.add rfl rfl rfl) rfl ?_
            refine O.ex (Ex.assign rfl) rfl ?_
            refine O.nil ?_
            first
            | (rw [fwE_lt (by omega) (by omega) hl1] at H
               exact ⟨v + 1, ⟨rfl, rfl, rfl, rfl, rfl, rfl, trivial⟩, ⟨rfl, by omega, Holds.to (by assumption)⟩, by omega⟩)
            | (rw [fwE_ge hl2] at H
               exact ⟨v + 1, ⟨rfl, rfl, rfl, rfl, rfl, rfl, trivial⟩, ⟨rfl, by omega, Holds.to (by assumption)⟩, by omega⟩)
        · refine W.exit ?_
          refine hK15 _ _ _ ?_
          refine W.region ?_
          refine O.ex (Ex.move rfl) rfl ?_
          refine O.ex (by first | exact Ex.addI rfl rfl | exact Ex.add rfl rfl rfl) rfl ?_
          refine O.ex (Ex.assign rfl) rfl ?_
          refine O.nil ?_
          have H : Holds w (mtx b3 30 [] (fwE (fw c k) n k ((u + 1 : Nat) : Int) 0) :: mtx b2 30 [] (fun _ _ => 0) :: mtx m 32 [.int .i64 n] c :: L) := by
            rw [mtx_congr (D := fwE (fw c k) n k ((u + 1 : Nat) : Int) 0) (D' := fwE (fw c k) n k u v) (fun a b h0 _ h2 _ => by
              unfold fwE
              by_cases e : a < n ∧ b < n ∧ (a < (u : Nat) ∨ (a = (u : Nat) ∧ b < (v : Nat)))
              · rw [if_pos e, if_pos (by omega)]
              · rw [if_neg e, if_neg (by omega)])]; exact Holds.to (by assumption)
          exact ⟨u + 1, ⟨rfl, rfl, rfl, rfl, rfl, trivial⟩, ⟨rfl, by omega, Holds.to (by assumption)⟩, by omega⟩
      · refine W.exit ?_
        refine hK11 _ _ _ ?_
        refine W.region ?_
        refine O.ex (Ex.move rfl) rfl ?_
        refine O.ex (by first | exact Ex.addI rfl rfl | exact Ex.add rfl rfl rfl) rfl ?_
        refine O.ex (Ex.assign rfl) rfl ?_
        refine O.nil ?_
        have H : Holds w (mtx b3 30 [] (fw c (k + 1)) :: mtx b2 30 [] (fun _ _ => 0) :: mtx m 32 [.int .i64 n] c :: L) := by
          rw [mtx_congr (D := fw c (k + 1)) (D' := fwE (fw c k) n k u 0) (fun a b h0 _ h2 _ => by
            have hout := fw_out hg k
            unfold fwE
            by_cases e : a < n ∧ b < n ∧ (a < (u : Nat) ∨ (a = (u : Nat) ∧ b < 0))
            · rw [if_pos e]; rfl
            · rw [if_neg e]
              show min (fw c k a b) (two (fw c k a (k : Nat)) (fw c k (k : Nat) b)) = _
              by_cases ea : a < n
              · rw [hout (k : Nat) b (by omega) (by omega) (by omega), two_none_right, Int.min_def, if_pos (hD _ _).2]
              · rw [hout a (k : Nat) (by omega) (by omega) (by omega), two_none_left, Int.min_def, if_pos (hD _ _).2])]; exact Holds.to (by assumption)
        exact ⟨k + 1, ⟨rfl, rfl, rfl, rfl, trivial⟩, ⟨rfl, by omega, Holds.to (by assumption)⟩, by omega⟩
    · refine W.exit ?_
      refine hK7 _ _ _ ?_
      refine W.seq (fun K22 hK22 => ?_)
      refine W.region ?_
      obtain rfl : k = n.toNat := by omega
      refine O.ex (Ex.loadMall Try.isAgg30 Try.sizeOf30 (hd := []) rfl rfl) rfl ?_
      refine O.storeMall (hd := []) Try.sizeOf30 rfl rfl rfl rfl rfl (fun w H => ?_)
      refine O.nil ?_
      refine hK22 _ _ _ ?_
      refine W.ret ?_
      try dsimp only [thenQ, blockQ, retQ]
      first | refine ⟨_, ⟨_, _, _, rfl, rfl, (by first | exact loadVar_mtx Try.isAgg30 Try.sizeOf30 | exact loadVar_agg Try.isAgg30 Try.sizeOf30), rfl⟩, ?_⟩ | (refine retD_mark ?_; intro w H; refine ⟨_, ⟨_, _, _, rfl, rfl, (by first | exact loadVar_mtx Try.isAgg30 Try.sizeOf30 | exact loadVar_agg Try.isAgg30 Try.sizeOf30), rfl⟩, ?_⟩) | (refine retD_mark2 ?_; intro w H; refine ⟨_, ⟨_, _, _, rfl, rfl, (by first | exact loadVar_mtx Try.isAgg30 Try.sizeOf30 | exact loadVar_agg Try.isAgg30 Try.sizeOf30), rfl⟩, ?_⟩)
      exact ⟨rfl, rh_open.2 (Holds.to (by assumption))⟩
end Go.Proofs.Ytblapiiinbppiaa
