import Derived.Test.YtblapiiinbppiaaMesh6
--ARR
--INF
namespace Go.Proofs.Ytblapiiinbppiaa
open Go.Rr Go
set_option linter.unusedVariables false
set_option maxHeartbeats 2000000 in
theorem meshLast_ct {w0 : World} {q u v : Int} {lv ov : Value} {l : List Step} {os : List Int} (hq : (Lit.int .u8 q).wf = true) (hx : SlIn w0 3 Step.enc lv l) (hl : l.length ≤ 9223372036854775807) (ho : SlIn w0 1 (fun s : Int => [.int .u8 s]) ov os) (hob : ∀ x ∈ os, (Lit.int .u8 x).wf = true) (hol : os.length ≤ 9223372036854775807) (hu : (Lit.int .u8 u).wf = true) (hv : (Lit.int .u8 v).wf = true) :
    CT Try.prog 3 [.int .u8 q, lv, ov, .int .u8 u, .int .u8 v] w0 fun x w' => x = .bool true ∧ RowKit.Below w0.heap.size w0 w' := by
  have H := Holds.base_refl w0
  obtain ⟨u0, u1⟩ := bounds_u8 hu
  obtain ⟨v0, v1⟩ := bounds_u8 hv
  refine CT.enter (N := 125) Try.func3 rfl rfl rfl rfl ?_
  refine W.seq (fun K0 hK0 => ?_)
  refine W.region ?_
  refine O.ex (Ex.assign rfl) rfl ?_
  refine O.nil ?_
  refine hK0 _ _ _ ?_
  refine W.seq (fun K1 hK1 => ?_)
  refine W.seq (fun K2 hK2 => ?_)
  refine W.region ?_
  refine O.callF Try.call15 rfl rfl (CT.mono (awake12_ct (Holds.to (by assumption))) ?_)
  rintro _ w ⟨rfl, H⟩
  refine O.ex (by first | exact Ex.notD rfl | exact Ex.not rfl) rfl ?_
  refine O.nil ?_
  refine hK2 _ _ _ ?_
  refine W.known_f rfl (by first | rfl | decide | exact decide_eq_true e1) ?_
  refine W.skip ?_
  refine hK1 _ _ _ ?_
  refine W.seq (fun K3 hK3 => ?_)
  refine W.region ?_
  refine O.ex (Ex.move rfl) rfl ?_
  refine O.ex (Ex.move rfl) rfl ?_
  refine O.callF Try.call16 rfl rfl (CT.mono (made_ct hq hx hl (Holds.to (by assumption))) ?_)
  rintro _ w ⟨m, r, n, c, hg, rfl, H⟩
  have n1 := hg.n1
  have n2 := hg.n2
  refine O.ex (Ex.move rfl) rfl ?_
  refine O.ex (Ex.extract rfl rfl) rfl ?_
  refine O.ex (Ex.extract rfl rfl) rfl ?_
  refine O.ex (Ex.assign rfl) rfl ?_
  refine O.ex (Ex.assign rfl) rfl ?_
  refine O.nil ?_
  refine hK3 _ _ _ ?_
  refine W.seq (fun K4 hK4 => ?_)
  refine W.seq (fun K5 hK5 => ?_)
  refine W.region ?_
  refine O.ex (Ex.move rfl) rfl ?_
  refine O.ex (Ex.nilEq Try.runUnderlying25 rfl rfl) rfl ?_
  refine O.nil ?_
  refine hK5 _ _ _ ?_
  refine W.known_f rfl (by first | rfl | decide | exact decide_eq_true e1) ?_
  refine W.skip ?_
  refine hK4 _ _ _ ?_
  refine W.seq (fun K6 hK6 => ?_)
  have H := (rh_open (m := r) (n := n) (c := c)).1 (Holds.to (by assumption))
  refine W.drawTo _ (.take 0 (.take 1 (.take 2 (.take 3 (.take 4 (.take 5 (.take 6 (.take 7 (.take 8 (.take 9 (.take 10 (.take 11 (.take 12 (.take 13 (.take 14 (.take 15 .nil)))))))))))))))) (mixed) (fun _ _ _ _ h => h) (by assumption) (PP.refl _) (by decide +kernel) (fun w H => ?_)
  refine OQ.ex rfl (fun w H => (Ex.move rfl)) rfl ?_
  refine OQ.ex rfl (fun w H => (by first | exact Ex.convToI Try.runUnderlying5 Try.runUnderlying3 rfl | exact Ex.convW Try.runUnderlying5 Try.runUnderlying3 rfl)) rfl ?_
  refine OQ.ex rfl (fun w H => (Ex.move rfl)) rfl ?_
  refine OQ.ex rfl (fun w H => (by first | exact Ex.nilPtr rfl | exact Ex.nilFunc rfl | exact Ex.nilYield rfl)) rfl ?_
  refine OQ.ex rfl (fun w H => (by first | exact Ex.field0 fld32_0 rfl | exact Ex.field fld32_0 rfl | exact Ex.fieldS fld32_0 rfl | exact Ex.fieldIn fld32_0 rfl)) rfl ?_
  refine OQ.ex rfl (fun w H => (by first | exact Ex.loadInF Try.isAgg3 rfl (Holds.to (by assumption)) | exact Ex.loadIn1 Try.isAgg3 rfl (Holds.to (by assumption)) | exact Ex.loadMh Try.isAgg3 rfl | exact Ex.loadM Try.isAgg3 rfl | exact Ex.loadVc Try.isAgg3 rfl | exact Ex.loadP Try.isAgg3 rfl | exact Ex.loadR Try.isAgg3 rfl)) rfl ?_
  refine OQ.ex rfl (fun w H => (by first | exact Ex.remI rfl rfl | exact Ex.rem rfl rfl (by omega) rfl)) rfl ?_
  refine OQ.ex rfl (fun w H => (Ex.move rfl)) rfl ?_
  refine OQ.ex rfl (fun w H => (by first | exact Ex.convToI Try.runUnderlying5 Try.runUnderlying3 rfl | exact Ex.convW Try.runUnderlying5 Try.runUnderlying3 rfl)) rfl ?_
  refine OQ.ex rfl (fun w H => (Ex.move rfl)) rfl ?_
  refine OQ.ex rfl (fun w H => (by first | exact Ex.nilPtr rfl | exact Ex.nilFunc rfl | exact Ex.nilYield rfl)) rfl ?_
  refine OQ.ex rfl (fun w H => (by first | exact Ex.field0 fld32_0 rfl | exact Ex.field fld32_0 rfl | exact Ex.fieldS fld32_0 rfl | exact Ex.fieldIn fld32_0 rfl)) rfl ?_
  refine OQ.ex rfl (fun w H => (by first | exact Ex.loadInF Try.isAgg3 rfl (Holds.to (by assumption)) | exact Ex.loadIn1 Try.isAgg3 rfl (Holds.to (by assumption)) | exact Ex.loadMh Try.isAgg3 rfl | exact Ex.loadM Try.isAgg3 rfl | exact Ex.loadVc Try.isAgg3 rfl | exact Ex.loadP Try.isAgg3 rfl | exact Ex.loadR Try.isAgg3 rfl)) rfl ?_
  refine OQ.ex rfl (fun w H => (by first | exact Ex.remI rfl rfl | exact Ex.rem rfl rfl (by omega) rfl)) rfl ?_
  refine OQ.ex rfl (fun w H => (Ex.assign rfl)) rfl ?_
  refine OQ.ex rfl (fun w H => (Ex.assign rfl)) rfl ?_
  refine OQ.done ?_
  refine hK6 _ _ _ ?_
  refine W.seq (fun K7 hK7 => ?_)
  refine W.region ?_
  obtain ⟨a, ha⟩ : ∃ a, a = u % n := ⟨_, rfl⟩
  obtain ⟨b, hb⟩ : ∃ b, b = v % n := ⟨_, rfl⟩
  have a0 : 0 ≤ a := by rw [ha]; exact Int.emod_nonneg _ (by omega)
  have a1 : a < n := by rw [ha]; exact Int.emod_lt_of_pos _ (by omega)
  have b0 : 0 ≤ b := by rw [hb]; exact Int.emod_nonneg _ (by omega)
  have b1 : b < n := by rw [hb]; exact Int.emod_lt_of_pos _ (by omega)
  rw [← ha, ← hb]
  have H := (rh_open (m := r) (n := n) (c := c)).2 (Holds.to (by assumption))
  refine O.ex (Ex.move rfl) rfl ?_
  refine O.callF Try.call17 rfl rfl (CT.mono (refAll_ct hg (Holds.to (by assumption))) ?_)
  rintro _ w ⟨rfl, H⟩
  refine O.allocM [] zS (fun b15 w H => ?_)
  refine O.storeMall (hd := []) Try.sizeOf30 rfl rfl rfl rfl rfl (fun w H => ?_)
  have H := (rh_open (m := r) (n := n) (c := c)).1 (Holds.to (by assumption))
  refine O.nil ?_
  refine hK7 _ _ _ ?_
  refine W.seq (fun K8 hK8 => ?_)
  refine W.seq (fun K9 hK9 => ?_)
  refine W.region ?_
  refine O.ex (Ex.assign rfl) rfl ?_
  refine O.nil ?_
  refine hK9 _ _ _ ?_
  refine W.block ?_
  refine W.loop (σ := Nat) (fun i => [(2, ov), (11, .pointer (some ⟨m, 0, none⟩)), (12, .pointer (some ⟨r, 0, none⟩)), (13, .int .i64 a), (14, .int .i64 b), (15, .pointer (some ⟨b15, 0, none⟩)), (16, .int .i64 (i : Int))]) (fun i ds w => ds = [] ∧ i ≤ os.length ∧ i ≤ 100 ∧ ∃ cc, Good n cc ∧ far n cc a b = far n c a b ∧ far n cc b a = far n c b a ∧ Holds w [Mh m n cc, mtx r 32 [.int .i64 n] c, mtx b15 30 [] (far n c), base w0]) (fun i => os.length - i) 0 ⟨rfl, rfl, rfl, rfl, rfl, rfl, rfl, trivial⟩ ⟨rfl, by omega, by omega, c, hg, rfl, rfl, Holds.to (by assumption)⟩ ?_
  clear H
  rintro i _ w ⟨rfl, hi, hi1, cc, hgc, f1, f2, H⟩
  refine W.seq (fun K10 hK10 => ?_)
  refine W.seq (fun K11 hK11 => ?_)
  refine W.region ?_
  refine O.ex (Ex.move rfl) rfl ?_
  refine O.ex (Ex.move rfl) rfl ?_
  refine O.ex (by first | exact Ex.lenR Try.runUnderlying23 rfl | exact Ex.lenIn Try.runUnderlying23 rfl | exact Ex.lenL Try.runUnderlying23 rfl | exact Ex.len rfl Try.runUnderlying23 rfl) rfl ?_
  refine O.ex (Ex.lss rfl rfl) rfl ?_
  refine O.ex (Ex.move rfl) rfl ?_
  first | refine O.split_p (t := 49) rfl (fun h1 => ?_) (fun h1 => ?_) | refine O.split (t := 49) rfl (fun h1 => ?_) (fun h1 => ?_)
  · refine O.guard_t rfl rfl ?_
    refine O.ex (Ex.move rfl) rfl ?_
    refine O.guard_t rfl rfl ?_
    refine O.ex (Ex.lss rfl rfl) rfl ?_
    refine O.ex (Ex.pick_t rfl rfl) rfl ?_
    refine O.nil ?_
    refine hK11 _ _ _ ?_
    first | refine W.cond_p rfl (fun hlt => ?_) (fun hge => ?_) | refine W.cond_b rfl (fun hlt => ?_) (fun hge => ?_)
    · refine W.skip ?_
      refine hK10 _ _ _ ?_
      refine W.seq (fun K12 hK12 => ?_)
      refine W.block ?_
      refine W.seq (fun K13 hK13 => ?_)
      have hob0 := bounds_u8 (hob _ (by rw [List.getD_eq_getElem?_getD, List.getElem?_eq_getElem (show ((i : Nat) : Int).toNat < os.length by omega)]; exact List.getElem_mem _ : os.getD ((i : Nat) : Int).toNat default ∈ os))
      have hi0 : (0 : Int) ≤ (i : Int) := by omega
      have hi1 : (i : Int) < os.length := h1
      refine W.drawTo _ (.take 0 (.take 1 (.take 2 (.take 3 (.take 4 (.take 5 (.take 6 (.take 7 (.take 8 (.take 9 (.take 10 .nil))))))))))) (mixed) (fun _ _ _ _ h => h) (by assumption) (PP.refl _) (by decide +kernel) (fun w H => ?_)
      refine OQ.ex rfl (fun w H => (Ex.move rfl)) rfl ?_
      refine OQ.ex rfl (fun w H => (Ex.move rfl)) rfl ?_
      refine OQ.ex rfl (fun w H => (by first | exact Ex.idxR Try.runUnderlying23 Try.sizeOf5 rfl rfl | exact Ex.idxIn Try.runUnderlying23 Try.sizeOf5 rfl rfl | exact Ex.idxS Try.runUnderlying23 Try.sizeOf5 rfl rfl | exact Ex.idx Try.runUnderlying23 Try.sizeOf5 rfl rfl (by omega) (by omega))) rfl ?_
      refine OQ.ex rfl (fun w H => (by first | exact Ex.loadInF Try.isAgg5 rfl (Holds.to (by assumption)) | exact Ex.loadIn1 Try.isAgg5 rfl (Holds.to (by assumption)) | exact Ex.loadMh Try.isAgg5 rfl | exact Ex.loadM Try.isAgg5 rfl | exact Ex.loadVc Try.isAgg5 rfl | exact Ex.loadP Try.isAgg5 rfl | exact Ex.loadR Try.isAgg5 rfl)) rfl ?_
      refine OQ.ex rfl (fun w H => (by first | exact Ex.convToI Try.runUnderlying5 Try.runUnderlying3 rfl | exact Ex.convW Try.runUnderlying5 Try.runUnderlying3 rfl)) rfl ?_
      refine OQ.ex rfl (fun w H => (Ex.move rfl)) rfl ?_
      refine OQ.ex rfl (fun w H => (by first | exact Ex.nilPtr rfl | exact Ex.nilFunc rfl | exact Ex.nilYield rfl)) rfl ?_
      refine OQ.ex rfl (fun w H => (by first | exact Ex.field0 fld32_0 rfl | exact Ex.field fld32_0 rfl | exact Ex.fieldS fld32_0 rfl | exact Ex.fieldIn fld32_0 rfl)) rfl ?_
      refine OQ.ex rfl (fun w H => (by first | exact Ex.loadInF Try.isAgg3 rfl (Holds.to (by assumption)) | exact Ex.loadIn1 Try.isAgg3 rfl (Holds.to (by assumption)) | exact Ex.loadMh Try.isAgg3 rfl | exact Ex.loadM Try.isAgg3 rfl | exact Ex.loadVc Try.isAgg3 rfl | exact Ex.loadP Try.isAgg3 rfl | exact Ex.loadR Try.isAgg3 rfl)) rfl ?_
      refine OQ.ex rfl (fun w H => (by first | exact Ex.remI rfl rfl | exact Ex.rem rfl rfl (by omega) rfl)) rfl ?_
      refine OQ.ex rfl (fun w H => (Ex.assign rfl)) rfl ?_
      refine OQ.done ?_
      refine hK13 _ _ _ ?_
      refine W.seq (fun K14 hK14 => ?_)
      refine W.region ?_
      obtain ⟨x, hxx⟩ : ∃ x, x = os.getD ((i : Nat) : Int).toNat default % n := ⟨_, rfl⟩
      have x0 : 0 ≤ x := by rw [hxx]; exact Int.emod_nonneg _ (by omega)
      have x1 : x < n := by rw [hxx]; exact Int.emod_lt_of_pos _ (by omega)
      rw [← hxx]
      refine O.ex (Ex.move rfl) rfl ?_
      refine O.ex (Ex.move rfl) rfl ?_
      refine O.ex (Ex.neqI rfl rfl) rfl ?_
      refine O.ex (Ex.move rfl) rfl ?_
      first | refine O.split_p (t := 68) rfl (fun h2 => ?_) (fun h2 => ?_) | refine O.split (t := 68) rfl (fun h2 => ?_) (fun h2 => ?_)
      · refine O.guard_t rfl rfl ?_
        refine O.ex (Ex.move rfl) rfl ?_
        refine O.guard_t rfl rfl ?_
        refine O.ex (Ex.move rfl) rfl ?_
        refine O.guard_t rfl rfl ?_
        refine O.ex (Ex.neqI rfl rfl) rfl ?_
        refine O.ex (Ex.pick_t rfl rfl) rfl ?_
        refine O.nil ?_
        refine hK14 _ _ _ ?_
        first | refine W.cond_p rfl (fun h3 => ?_) (fun h3 => ?_) | refine W.cond_b rfl (fun h3 => ?_) (fun h3 => ?_)
        · refine W.region ?_
          refine O.ex (Ex.move rfl) rfl ?_
          refine O.ex (Ex.move rfl) rfl ?_
          refine O.callF Try.call18 rfl rfl (CT.mono (contract_ct hgc (Holds.to (by assumption))) ?_)
          rintro _ w (⟨-, -, H⟩ | ⟨hno, -⟩)
          rotate_left
          · exact absurd (by omega) hno
          refine O.nil ?_
          refine hK12 _ _ _ ?_
          refine W.region ?_
          refine O.ex (Ex.move rfl) rfl ?_
          refine O.ex (by first | exact Ex.addI rfl rfl | exact Ex.add rfl rfl rfl) rfl ?_
          refine O.ex (Ex.assign rfl) rfl ?_
          refine O.nil ?_
          first
          | exact ⟨i + 1, ⟨rfl, rfl, rfl, rfl, rfl, rfl, rfl, trivial⟩, ⟨rfl, by omega, by omega, _, good_contr hgc x, (contr_far hgc x a b (by omega) (by omega)).trans f1, (contr_far hgc x b a (by omega) (by omega)).trans f2, Holds.to (by assumption)⟩, by omega⟩
          | exact ⟨i + 1, ⟨rfl, rfl, rfl, rfl, rfl, rfl, rfl, trivial⟩, ⟨rfl, by omega, by omega, cc, hgc, f1, f2, Holds.to (by assumption)⟩, by omega⟩
        · refine W.skip ?_
          refine hK12 _ _ _ ?_
          refine W.region ?_
          refine O.ex (Ex.move rfl) rfl ?_
          refine O.ex (by first | exact Ex.addI rfl rfl | exact Ex.add rfl rfl rfl) rfl ?_
          refine O.ex (Ex.assign rfl) rfl ?_
          refine O.nil ?_
          first
          | exact ⟨i + 1, ⟨rfl, rfl, rfl, rfl, rfl, rfl, rfl, trivial⟩, ⟨rfl, by omega, by omega, _, good_contr hgc x, (contr_far hgc x a b (by omega) (by omega)).trans f1, (contr_far hgc x b a (by omega) (by omega)).trans f2, Holds.to (by assumption)⟩, by omega⟩
          | exact ⟨i + 1, ⟨rfl, rfl, rfl, rfl, rfl, rfl, rfl, trivial⟩, ⟨rfl, by omega, by omega, cc, hgc, f1, f2, Holds.to (by assumption)⟩, by omega⟩
      · refine O.guard_f rfl rfl rfl rfl ?_
        refine O.guard_f rfl rfl rfl rfl ?_
        refine O.guard_f rfl rfl rfl rfl ?_
        refine O.ex (Ex.pick_f rfl rfl) rfl ?_
        refine O.nil ?_
        refine hK14 _ _ _ ?_
        refine W.cond_f rfl ?_
        refine W.skip ?_
        refine hK12 _ _ _ ?_
        refine W.region ?_
        refine O.ex (Ex.move rfl) rfl ?_
        refine O.ex (by first | exact Ex.addI rfl rfl | exact Ex.add rfl rfl rfl) rfl ?_
        refine O.ex (Ex.assign rfl) rfl ?_
        refine O.nil ?_
        first
        | exact ⟨i + 1, ⟨rfl, rfl, rfl, rfl, rfl, rfl, rfl, trivial⟩, ⟨rfl, by omega, by omega, _, good_contr hgc x, (contr_far hgc x a b (by omega) (by omega)).trans f1, (contr_far hgc x b a (by omega) (by omega)).trans f2, Holds.to (by assumption)⟩, by omega⟩
        | exact ⟨i + 1, ⟨rfl, rfl, rfl, rfl, rfl, rfl, rfl, trivial⟩, ⟨rfl, by omega, by omega, cc, hgc, f1, f2, Holds.to (by assumption)⟩, by omega⟩
    · refine W.exit ?_
      refine hK8 _ _ _ ?_
      refine W.seq (fun K15 hK15 => ?_)
      refine W.seq (fun K16 hK16 => ?_)
      refine W.region ?_
      refine O.ex (Ex.assign rfl) rfl ?_
      refine O.nil ?_
      refine hK16 _ _ _ ?_
      refine W.block ?_
      refine W.loop (σ := Nat) (fun i => [(11, .pointer (some ⟨m, 0, none⟩)), (12, .pointer (some ⟨r, 0, none⟩)), (13, .int .i64 a), (14, .int .i64 b), (15, .pointer (some ⟨b15, 0, none⟩)), (18, .int .i64 (i : Int))]) (fun i ds w => ds = [] ∧ (i : Int) ≤ n ∧ ∃ cc, Good n cc ∧ far n cc a b = far n c a b ∧ far n cc b a = far n c b a ∧ (∀ x : Int, 0 ≤ x → x < (i : Nat) → x ≠ a → x ≠ b → gone cc x) ∧ Holds w [Mh m n cc, mtx r 32 [.int .i64 n] c, mtx b15 30 [] (far n c), base w0]) (fun i => n.toNat - i) 0 ⟨rfl, rfl, rfl, rfl, rfl, rfl, trivial⟩ ⟨rfl, by omega, cc, hgc, f1, f2, fun x h1 h2 => absurd h2 (by omega), Holds.to (by assumption)⟩ ?_
      clear H hgc f1 f2
      rintro i _ w ⟨rfl, hi, cc, hgc, f1, f2, hgo, H⟩
      refine W.seq (fun K17 hK17 => ?_)
      refine W.seq (fun K18 hK18 => ?_)
      refine W.region ?_
      refine O.ex (Ex.move rfl) rfl ?_
      refine O.ex (Ex.move rfl) rfl ?_
      refine O.ex (by first | exact Ex.nilPtr rfl | exact Ex.nilFunc rfl | exact Ex.nilYield rfl) rfl ?_
      refine O.ex (by first | exact Ex.field0 fld32_0 rfl | exact Ex.field fld32_0 rfl | exact Ex.fieldS fld32_0 rfl | exact Ex.fieldIn fld32_0 rfl) rfl ?_
      refine O.ex (by first | exact Ex.loadInF Try.isAgg3 rfl (Holds.to (by assumption)) | exact Ex.loadIn1 Try.isAgg3 rfl (Holds.to (by assumption)) | exact Ex.loadMh Try.isAgg3 rfl | exact Ex.loadM Try.isAgg3 rfl | exact Ex.loadVc Try.isAgg3 rfl | exact Ex.loadP Try.isAgg3 rfl | exact Ex.loadR Try.isAgg3 rfl) rfl ?_
      refine O.ex (Ex.lss rfl rfl) rfl ?_
      refine O.nil ?_
      refine hK18 _ _ _ ?_
      first | refine W.cond_p rfl (fun hlt => ?_) (fun hge => ?_) | refine W.cond_b rfl (fun hlt => ?_) (fun hge => ?_)
      · refine W.skip ?_
        refine hK17 _ _ _ ?_
        refine W.seq (fun K19 hK19 => ?_)
        refine W.block ?_
        refine W.seq (fun K20 hK20 => ?_)
        refine W.region ?_
        refine O.ex (Ex.move rfl) rfl ?_
        refine O.ex (Ex.move rfl) rfl ?_
        refine O.ex (Ex.neqI rfl rfl) rfl ?_
        refine O.ex (Ex.move rfl) rfl ?_
        first | refine O.split_p (t := 87) rfl (fun h2 => ?_) (fun h2 => ?_) | refine O.split (t := 87) rfl (fun h2 => ?_) (fun h2 => ?_)
        · refine O.guard_t rfl rfl ?_
          refine O.ex (Ex.move rfl) rfl ?_
          refine O.guard_t rfl rfl ?_
          refine O.ex (Ex.move rfl) rfl ?_
          refine O.guard_t rfl rfl ?_
          refine O.ex (Ex.neqI rfl rfl) rfl ?_
          refine O.ex (Ex.pick_t rfl rfl) rfl ?_
          refine O.nil ?_
          refine hK20 _ _ _ ?_
          first | refine W.cond_p rfl (fun h3 => ?_) (fun h3 => ?_) | refine W.cond_b rfl (fun h3 => ?_) (fun h3 => ?_)
          · refine W.region ?_
            refine O.ex (Ex.move rfl) rfl ?_
            refine O.ex (Ex.move rfl) rfl ?_
            refine O.callF Try.call18 rfl rfl (CT.mono (contract_ct hgc (Holds.to (by assumption))) ?_)
            rintro _ w (⟨-, -, H⟩ | ⟨hno, -⟩)
            rotate_left
            · exact absurd (by omega) hno
            refine O.nil ?_
            refine hK19 _ _ _ ?_
            refine W.region ?_
            refine O.ex (Ex.move rfl) rfl ?_
            refine O.ex (by first | exact Ex.addI rfl rfl | exact Ex.add rfl rfl rfl) rfl ?_
            refine O.ex (Ex.assign rfl) rfl ?_
            refine O.nil ?_
            first
            | (refine ⟨i + 1, ⟨rfl, rfl, rfl, rfl, rfl, rfl, trivial⟩, ⟨rfl, by omega, _, good_contr hgc (i : Nat), (contr_far hgc (i : Nat) a b (by omega) (by omega)).trans f1, (contr_far hgc (i : Nat) b a (by omega) (by omega)).trans f2, ?_, Holds.to (by assumption)⟩, by omega⟩
               intro x hx0 hx1 hxa hxb
               by_cases e : x = (i : Nat)
               · subst e; exact gone_contr hgc _
               · exact gone_keep hgc _ _ (hgo x hx0 (by omega) hxa hxb))
            | (refine ⟨i + 1, ⟨rfl, rfl, rfl, rfl, rfl, rfl, trivial⟩, ⟨rfl, by omega, cc, hgc, f1, f2, ?_, Holds.to (by assumption)⟩, by omega⟩
               intro x hx0 hx1 hxa hxb
               exact hgo x hx0 (by omega) hxa hxb)
          · refine W.skip ?_
            refine hK19 _ _ _ ?_
            refine W.region ?_
            refine O.ex (Ex.move rfl) rfl ?_
            refine O.ex (by first | exact Ex.addI rfl rfl | exact Ex.add rfl rfl rfl) rfl ?_
            refine O.ex (Ex.assign rfl) rfl ?_
            refine O.nil ?_
            first
            | (refine ⟨i + 1, ⟨rfl, rfl, rfl, rfl, rfl, rfl, trivial⟩, ⟨rfl, by omega, _, good_contr hgc (i : Nat), (contr_far hgc (i : Nat) a b (by omega) (by omega)).trans f1, (contr_far hgc (i : Nat) b a (by omega) (by omega)).trans f2, ?_, Holds.to (by assumption)⟩, by omega⟩
               intro x hx0 hx1 hxa hxb
               by_cases e : x = (i : Nat)
               · subst e; exact gone_contr hgc _
               · exact gone_keep hgc _ _ (hgo x hx0 (by omega) hxa hxb))
            | (refine ⟨i + 1, ⟨rfl, rfl, rfl, rfl, rfl, rfl, trivial⟩, ⟨rfl, by omega, cc, hgc, f1, f2, ?_, Holds.to (by assumption)⟩, by omega⟩
               intro x hx0 hx1 hxa hxb
               exact hgo x hx0 (by omega) hxa hxb)
        · refine O.guard_f rfl rfl rfl rfl ?_
          refine O.guard_f rfl rfl rfl rfl ?_
          refine O.guard_f rfl rfl rfl rfl ?_
          refine O.ex (Ex.pick_f rfl rfl) rfl ?_
          refine O.nil ?_
          refine hK20 _ _ _ ?_
          refine W.cond_f rfl ?_
          refine W.skip ?_
          refine hK19 _ _ _ ?_
          refine W.region ?_
          refine O.ex (Ex.move rfl) rfl ?_
          refine O.ex (by first | exact Ex.addI rfl rfl | exact Ex.add rfl rfl rfl) rfl ?_
          refine O.ex (Ex.assign rfl) rfl ?_
          refine O.nil ?_
          first
          | (refine ⟨i + 1, ⟨rfl, rfl, rfl, rfl, rfl, rfl, trivial⟩, ⟨rfl, by omega, _, good_contr hgc (i : Nat), (contr_far hgc (i : Nat) a b (by omega) (by omega)).trans f1, (contr_far hgc (i : Nat) b a (by omega) (by omega)).trans f2, ?_, Holds.to (by assumption)⟩, by omega⟩
             intro x hx0 hx1 hxa hxb
             by_cases e : x = (i : Nat)
             · subst e; exact gone_contr hgc _
             · exact gone_keep hgc _ _ (hgo x hx0 (by omega) hxa hxb))
          | (refine ⟨i + 1, ⟨rfl, rfl, rfl, rfl, rfl, rfl, trivial⟩, ⟨rfl, by omega, cc, hgc, f1, f2, ?_, Holds.to (by assumption)⟩, by omega⟩
             intro x hx0 hx1 hxa hxb
             exact hgo x hx0 (by omega) hxa hxb)
      · refine W.exit ?_
        refine hK15 _ _ _ ?_
        refine W.seq (fun K21 hK21 => ?_)
        refine W.seq (fun K22 hK22 => ?_)
        refine W.region ?_
        refine O.ex (Ex.move rfl) rfl ?_
        refine O.ex (Ex.move rfl) rfl ?_
        refine O.ex (Ex.eqlI rfl rfl) rfl ?_
        refine O.nil ?_
        refine hK22 _ _ _ ?_
        first | refine W.cond_p rfl (fun hab => ?_) (fun hab => ?_) | refine W.cond_b rfl (fun hab => ?_) (fun hab => ?_)
        · refine W.seq (fun K23 hK23 => ?_)
          refine W.region ?_
          refine O.ex (Ex.move rfl) rfl ?_
          refine O.ex (Ex.move rfl) rfl ?_
          refine O.ex (Ex.move rfl) rfl ?_
          refine O.callF Try.call19 rfl rfl (CT.mono (at_ct hgc (Holds.to (by assumption))) ?_)
          rintro _ w ⟨rfl, H⟩
          refine O.ex (Ex.eqlI rfl rfl) rfl ?_
          refine O.ex (Ex.assign rfl) rfl ?_
          refine O.nil ?_
          refine hK23 _ _ _ ?_
          refine W.ret ?_
          try dsimp only [thenQ, blockQ, retQ]
          first | refine ⟨_, ⟨_, _, rfl, rfl, rfl⟩, ?_⟩ | (refine retD_mark ?_; intro w H; refine ⟨_, ⟨_, _, rfl, rfl, rfl⟩, ?_⟩) | (refine retD_mark2 ?_; intro w H; refine ⟨_, ⟨_, _, rfl, rfl, rfl⟩, ?_⟩)
          first
          | (refine ⟨congrArg Value.bool (decide_eq_true ?_), Holds.base_below (L := []) (Holds.to (by assumption))⟩
             rw [hab]; exact hgc.dg _)
          | exact ⟨congrArg Value.bool (decide_eq_true e2), Holds.base_below (L := []) (Holds.to (by assumption))⟩
        · refine W.skip ?_
          refine hK21 _ _ _ ?_
          refine W.seq (fun K24 hK24 => ?_)
          have e1 : cc a b = far n c a b := (last_law hgc a b hab (fun x h0 h1 h2 h3 => hgo x h0 (by omega) h2 h3)).symm.trans f1
          have e2 : cc b a = far n c b a := (last_law hgc b a (Ne.symm hab) (fun x h0 h1 h2 h3 => hgo x h0 (by omega) h3 h2)).symm.trans f2
          refine W.drawTo _ (.take 0 (.take 1 (.take 2 (.take 4 (.take 5 (.take 6 (.take 7 (.take 8 (.one 3 (.take 9 (.take 10 (.take 11 (.take 12 (.take 13 (.take 15 (.take 16 (.take 17 (.take 18 (.take 19 (.one 14 (.take 20 (.take 21 (.take 22 .nil))))))))))))))))))))))) (mixed) (fun _ _ _ _ h => h) (by assumption) (PP.refl _) (by decide +kernel) (fun w H => ?_)
          refine OQ.ex rfl (fun w H => (Ex.move rfl)) rfl ?_
          refine OQ.ex rfl (fun w H => (Ex.move rfl)) rfl ?_
          refine OQ.ex rfl (fun w H => (Ex.move rfl)) rfl ?_
          refine OQ.ex rfl (fun w H => (Ex.move rfl)) rfl ?_
          refine OQ.ex rfl (fun w H => (Ex.move rfl)) rfl ?_
          refine OQ.ex rfl (fun w H => (Ex.idxArr Try.runUnderlying30 Try.sizeOf29 rfl rfl)) rfl ?_
          refine OQ.ex rfl (fun w H => (Ex.idxArr Try.runUnderlying29 Try.sizeOf3 rfl rfl)) rfl ?_
          refine OQ.ex rfl (fun w H => (by first | exact Ex.loadInF Try.isAgg3 rfl (Holds.to (by assumption)) | exact Ex.loadIn1 Try.isAgg3 rfl (Holds.to (by assumption)) | exact Ex.loadMh Try.isAgg3 rfl | exact Ex.loadM Try.isAgg3 rfl | exact Ex.loadVc Try.isAgg3 rfl | exact Ex.loadP Try.isAgg3 rfl | exact Ex.loadR Try.isAgg3 rfl)) rfl ?_
          refine OQ.step rfl ?_
          refine O.callF Try.call19 rfl rfl (CT.mono (at_ct hgc (Holds.to (by assumption))) ?_)
          rintro _ w ⟨rfl, H⟩
          refine O.thenNil ⟨(by first | exact Holds.to (by assumption) | assumption), ?_⟩
          refine OQ.ex rfl (fun w H => (Ex.eqlI rfl rfl)) rfl ?_
          refine OQ.ex rfl (fun w H => (Ex.move rfl)) rfl ?_
          refine OQ.known (t := 113) (c := true) rfl (by first | rfl | decide | exact decide_eq_true e1) ?_
          refine OQ.exT rfl rfl rfl (fun w H => (Ex.move rfl)) rfl ?_
          refine OQ.exT rfl rfl rfl (fun w H => (Ex.move rfl)) rfl ?_
          refine OQ.exT rfl rfl rfl (fun w H => (Ex.move rfl)) rfl ?_
          refine OQ.exT rfl rfl rfl (fun w H => (Ex.move rfl)) rfl ?_
          refine OQ.exT rfl rfl rfl (fun w H => (Ex.move rfl)) rfl ?_
          refine OQ.exT rfl rfl rfl (fun w H => (Ex.idxArr Try.runUnderlying30 Try.sizeOf29 rfl rfl)) rfl ?_
          refine OQ.exT rfl rfl rfl (fun w H => (Ex.idxArr Try.runUnderlying29 Try.sizeOf3 rfl rfl)) rfl ?_
          refine OQ.exT rfl rfl rfl (fun w H => (by first | exact Ex.loadInF Try.isAgg3 rfl (Holds.to (by assumption)) | exact Ex.loadIn1 Try.isAgg3 rfl (Holds.to (by assumption)) | exact Ex.loadMh Try.isAgg3 rfl | exact Ex.loadM Try.isAgg3 rfl | exact Ex.loadVc Try.isAgg3 rfl | exact Ex.loadP Try.isAgg3 rfl | exact Ex.loadR Try.isAgg3 rfl)) rfl ?_
          refine OQ.step rfl ?_
          refine O.guard_t rfl rfl ?_
          refine O.callF Try.call19 rfl rfl (CT.mono (at_ct hgc (Holds.to (by assumption))) ?_)
          rintro _ w ⟨rfl, H⟩
          refine O.thenNil ⟨(by first | exact Holds.to (by assumption) | assumption), ?_⟩
          refine OQ.exT rfl rfl rfl (fun w H => (Ex.eqlI rfl rfl)) rfl ?_
          refine OQ.ex rfl (fun w H => (Ex.pick_t rfl rfl)) rfl ?_
          refine OQ.ex rfl (fun w H => (Ex.assign rfl)) rfl ?_
          refine OQ.done ?_
          refine hK24 _ _ _ ?_
          refine W.ret ?_
          try dsimp only [thenQ, blockQ, retQ]
          first | refine ⟨_, ⟨_, _, rfl, rfl, rfl⟩, ?_⟩ | (refine retD_mark ?_; intro w H; refine ⟨_, ⟨_, _, rfl, rfl, rfl⟩, ?_⟩) | (refine retD_mark2 ?_; intro w H; refine ⟨_, ⟨_, _, rfl, rfl, rfl⟩, ?_⟩)
          first
          | (refine ⟨congrArg Value.bool (decide_eq_true ?_), Holds.base_below (L := []) (Holds.to (by assumption))⟩
             rw [hab]; exact hgc.dg _)
          | exact ⟨congrArg Value.bool (decide_eq_true e2), Holds.base_below (L := []) (Holds.to (by assumption))⟩
  · refine O.guard_f rfl rfl rfl rfl ?_
    refine O.guard_f rfl rfl rfl rfl ?_
    refine O.ex (Ex.pick_f rfl rfl) rfl ?_
    refine O.nil ?_
    refine hK11 _ _ _ ?_
    refine W.cond_f rfl ?_
    refine W.exit ?_
    refine hK8 _ _ _ ?_
    refine W.seq (fun K25 hK25 => ?_)
    refine W.seq (fun K26 hK26 => ?_)
    refine W.region ?_
    refine O.ex (Ex.assign rfl) rfl ?_
    refine O.nil ?_
    refine hK26 _ _ _ ?_
    refine W.block ?_
    refine W.loop (σ := Nat) (fun i => [(11, .pointer (some ⟨m, 0, none⟩)), (12, .pointer (some ⟨r, 0, none⟩)), (13, .int .i64 a), (14, .int .i64 b), (15, .pointer (some ⟨b15, 0, none⟩)), (18, .int .i64 (i : Int))]) (fun i ds w => ds = [] ∧ (i : Int) ≤ n ∧ ∃ cc, Good n cc ∧ far n cc a b = far n c a b ∧ far n cc b a = far n c b a ∧ (∀ x : Int, 0 ≤ x → x < (i : Nat) → x ≠ a → x ≠ b → gone cc x) ∧ Holds w [Mh m n cc, mtx r 32 [.int .i64 n] c, mtx b15 30 [] (far n c), base w0]) (fun i => n.toNat - i) 0 ⟨rfl, rfl, rfl, rfl, rfl, rfl, trivial⟩ ⟨rfl, by omega, cc, hgc, f1, f2, fun x h1 h2 => absurd h2 (by omega), Holds.to (by assumption)⟩ ?_
    clear H hgc f1 f2
    rintro i _ w ⟨rfl, hi, cc, hgc, f1, f2, hgo, H⟩
    refine W.seq (fun K27 hK27 => ?_)
    refine W.seq (fun K28 hK28 => ?_)
    refine W.region ?_
    refine O.ex (Ex.move rfl) rfl ?_
    refine O.ex (Ex.move rfl) rfl ?_
    refine O.ex (by first | exact Ex.nilPtr rfl | exact Ex.nilFunc rfl | exact Ex.nilYield rfl) rfl ?_
    refine O.ex (by first | exact Ex.field0 fld32_0 rfl | exact Ex.field fld32_0 rfl | exact Ex.fieldS fld32_0 rfl | exact Ex.fieldIn fld32_0 rfl) rfl ?_
    refine O.ex (by first | exact Ex.loadInF Try.isAgg3 rfl (Holds.to (by assumption)) | exact Ex.loadIn1 Try.isAgg3 rfl (Holds.to (by assumption)) | exact Ex.loadMh Try.isAgg3 rfl | exact Ex.loadM Try.isAgg3 rfl | exact Ex.loadVc Try.isAgg3 rfl | exact Ex.loadP Try.isAgg3 rfl | exact Ex.loadR Try.isAgg3 rfl) rfl ?_
    refine O.ex (Ex.lss rfl rfl) rfl ?_
    refine O.nil ?_
    refine hK28 _ _ _ ?_
    first | refine W.cond_p rfl (fun hlt => ?_) (fun hge => ?_) | refine W.cond_b rfl (fun hlt => ?_) (fun hge => ?_)
    · refine W.skip ?_
      refine hK27 _ _ _ ?_
      refine W.seq (fun K29 hK29 => ?_)
      refine W.block ?_
      refine W.seq (fun K30 hK30 => ?_)
      refine W.region ?_
      refine O.ex (Ex.move rfl) rfl ?_
      refine O.ex (Ex.move rfl) rfl ?_
      refine O.ex (Ex.neqI rfl rfl) rfl ?_
      refine O.ex (Ex.move rfl) rfl ?_
      first | refine O.split_p (t := 87) rfl (fun h2 => ?_) (fun h2 => ?_) | refine O.split (t := 87) rfl (fun h2 => ?_) (fun h2 => ?_)
      · refine O.guard_t rfl rfl ?_
        refine O.ex (Ex.move rfl) rfl ?_
        refine O.guard_t rfl rfl ?_
        refine O.ex (Ex.move rfl) rfl ?_
        refine O.guard_t rfl rfl ?_
        refine O.ex (Ex.neqI rfl rfl) rfl ?_
        refine O.ex (Ex.pick_t rfl rfl) rfl ?_
        refine O.nil ?_
        refine hK30 _ _ _ ?_
        first | refine W.cond_p rfl (fun h3 => ?_) (fun h3 => ?_) | refine W.cond_b rfl (fun h3 => ?_) (fun h3 => ?_)
        · refine W.region ?_
          refine O.ex (Ex.move rfl) rfl ?_
          refine O.ex (Ex.move rfl) rfl ?_
          refine O.callF Try.call18 rfl rfl (CT.mono (contract_ct hgc (Holds.to (by assumption))) ?_)
          rintro _ w (⟨-, -, H⟩ | ⟨hno, -⟩)
          rotate_left
          · exact absurd (by omega) hno
          refine O.nil ?_
          refine hK29 _ _ _ ?_
          refine W.region ?_
          refine O.ex (Ex.move rfl) rfl ?_
          refine O.ex (by first | exact Ex.addI rfl rfl | exact Ex.add rfl rfl rfl) rfl ?_
          refine O.ex (Ex.assign rfl) rfl ?_
          refine O.nil ?_
          first
          | (refine ⟨i + 1, ⟨rfl, rfl, rfl, rfl, rfl, rfl, trivial⟩, ⟨rfl, by omega, _, good_contr hgc (i : Nat), (contr_far hgc (i : Nat) a b (by omega) (by omega)).trans f1, (contr_far hgc (i : Nat) b a (by omega) (by omega)).trans f2, ?_, Holds.to (by assumption)⟩, by omega⟩
             intro x hx0 hx1 hxa hxb
             by_cases e : x = (i : Nat)
             · subst e; exact gone_contr hgc _
             · exact gone_keep hgc _ _ (hgo x hx0 (by omega) hxa hxb))
          | (refine ⟨i + 1, ⟨rfl, rfl, rfl, rfl, rfl, rfl, trivial⟩, ⟨rfl, by omega, cc, hgc, f1, f2, ?_, Holds.to (by assumption)⟩, by omega⟩
             intro x hx0 hx1 hxa hxb
             exact hgo x hx0 (by omega) hxa hxb)
        · refine W.skip ?_
          refine hK29 _ _ _ ?_
          refine W.region ?_
          refine O.ex (Ex.move rfl) rfl ?_
          refine O.ex (by first | exact Ex.addI rfl rfl | exact Ex.add rfl rfl rfl) rfl ?_
          refine O.ex (Ex.assign rfl) rfl ?_
          refine O.nil ?_
          first
          | (refine ⟨i + 1, ⟨rfl, rfl, rfl, rfl, rfl, rfl, trivial⟩, ⟨rfl, by omega, _, good_contr hgc (i : Nat), (contr_far hgc (i : Nat) a b (by omega) (by omega)).trans f1, (contr_far hgc (i : Nat) b a (by omega) (by omega)).trans f2, ?_, Holds.to (by assumption)⟩, by omega⟩
             intro x hx0 hx1 hxa hxb
             by_cases e : x = (i : Nat)
             · subst e; exact gone_contr hgc _
             · exact gone_keep hgc _ _ (hgo x hx0 (by omega) hxa hxb))
          | (refine ⟨i + 1, ⟨rfl, rfl, rfl, rfl, rfl, rfl, trivial⟩, ⟨rfl, by omega, cc, hgc, f1, f2, ?_, Holds.to (by assumption)⟩, by omega⟩
             intro x hx0 hx1 hxa hxb
             exact hgo x hx0 (by omega) hxa hxb)
      · refine O.guard_f rfl rfl rfl rfl ?_
        refine O.guard_f rfl rfl rfl rfl ?_
        refine O.guard_f rfl rfl rfl rfl ?_
        refine O.ex (Ex.pick_f rfl rfl) rfl ?_
        refine O.nil ?_
        refine hK30 _ _ _ ?_
        refine W.cond_f rfl ?_
        refine W.skip ?_
        refine hK29 _ _ _ ?_
        refine W.region ?_
        refine O.ex (Ex.move rfl) rfl ?_
        refine O.ex (by first | exact Ex.addI rfl rfl | exact Ex.add rfl rfl rfl) rfl ?_
        refine O.ex (Ex.assign rfl) rfl ?_
        refine O.nil ?_
        first
        | (refine ⟨i + 1, ⟨rfl, rfl, rfl, rfl, rfl, rfl, trivial⟩, ⟨rfl, by omega, _, good_contr hgc (i : Nat), (contr_far hgc (i : Nat) a b (by omega) (by omega)).trans f1, (contr_far hgc (i : Nat) b a (by omega) (by omega)).trans f2, ?_, Holds.to (by assumption)⟩, by omega⟩
           intro x hx0 hx1 hxa hxb
           by_cases e : x = (i : Nat)
           · subst e; exact gone_contr hgc _
           · exact gone_keep hgc _ _ (hgo x hx0 (by omega) hxa hxb))
        | (refine ⟨i + 1, ⟨rfl, rfl, rfl, rfl, rfl, rfl, trivial⟩, ⟨rfl, by omega, cc, hgc, f1, f2, ?_, Holds.to (by assumption)⟩, by omega⟩
           intro x hx0 hx1 hxa hxb
           exact hgo x hx0 (by omega) hxa hxb)
    · refine W.exit ?_
      refine hK25 _ _ _ ?_
      refine W.seq (fun K31 hK31 => ?_)
      refine W.seq (fun K32 hK32 => ?_)
      refine W.region ?_
      refine O.ex (Ex.move rfl) rfl ?_
      refine O.ex (Ex.move rfl) rfl ?_
      refine O.ex (Ex.eqlI rfl rfl) rfl ?_
      refine O.nil ?_
      refine hK32 _ _ _ ?_
      first | refine W.cond_p rfl (fun hab => ?_) (fun hab => ?_) | refine W.cond_b rfl (fun hab => ?_) (fun hab => ?_)
      · refine W.seq (fun K33 hK33 => ?_)
        refine W.region ?_
        refine O.ex (Ex.move rfl) rfl ?_
        refine O.ex (Ex.move rfl) rfl ?_
        refine O.ex (Ex.move rfl) rfl ?_
        refine O.callF Try.call19 rfl rfl (CT.mono (at_ct hgc (Holds.to (by assumption))) ?_)
        rintro _ w ⟨rfl, H⟩
        refine O.ex (Ex.eqlI rfl rfl) rfl ?_
        refine O.ex (Ex.assign rfl) rfl ?_
        refine O.nil ?_
        refine hK33 _ _ _ ?_
        refine W.ret ?_
        try dsimp only [thenQ, blockQ, retQ]
        first | refine ⟨_, ⟨_, _, rfl, rfl, rfl⟩, ?_⟩ | (refine retD_mark ?_; intro w H; refine ⟨_, ⟨_, _, rfl, rfl, rfl⟩, ?_⟩) | (refine retD_mark2 ?_; intro w H; refine ⟨_, ⟨_, _, rfl, rfl, rfl⟩, ?_⟩)
        first
        | (refine ⟨congrArg Value.bool (decide_eq_true ?_), Holds.base_below (L := []) (Holds.to (by assumption))⟩
           rw [hab]; exact hgc.dg _)
        | exact ⟨congrArg Value.bool (decide_eq_true e2), Holds.base_below (L := []) (Holds.to (by assumption))⟩
      · refine W.skip ?_
        refine hK31 _ _ _ ?_
        refine W.seq (fun K34 hK34 => ?_)
        have e1 : cc a b = far n c a b := (last_law hgc a b hab (fun x h0 h1 h2 h3 => hgo x h0 (by omega) h2 h3)).symm.trans f1
        have e2 : cc b a = far n c b a := (last_law hgc b a (Ne.symm hab) (fun x h0 h1 h2 h3 => hgo x h0 (by omega) h3 h2)).symm.trans f2
        refine W.drawTo _ (.take 0 (.take 1 (.take 2 (.take 4 (.take 5 (.take 6 (.take 7 (.take 8 (.one 3 (.take 9 (.take 10 (.take 11 (.take 12 (.take 13 (.take 15 (.take 16 (.take 17 (.take 18 (.take 19 (.one 14 (.take 20 (.take 21 (.take 22 .nil))))))))))))))))))))))) (mixed) (fun _ _ _ _ h => h) (by assumption) (PP.refl _) (by decide +kernel) (fun w H => ?_)
        refine OQ.ex rfl (fun w H => (Ex.move rfl)) rfl ?_
        refine OQ.ex rfl (fun w H => (Ex.move rfl)) rfl ?_
        refine OQ.ex rfl (fun w H => (Ex.move rfl)) rfl ?_
        refine OQ.ex rfl (fun w H => (Ex.move rfl)) rfl ?_
        refine OQ.ex rfl (fun w H => (Ex.move rfl)) rfl ?_
        refine OQ.ex rfl (fun w H => (Ex.idxArr Try.runUnderlying30 Try.sizeOf29 rfl rfl)) rfl ?_
        refine OQ.ex rfl (fun w H => (Ex.idxArr Try.runUnderlying29 Try.sizeOf3 rfl rfl)) rfl ?_
        refine OQ.ex rfl (fun w H => (by first | exact Ex.loadInF Try.isAgg3 rfl (Holds.to (by assumption)) | exact Ex.loadIn1 Try.isAgg3 rfl (Holds.to (by assumption)) | exact Ex.loadMh Try.isAgg3 rfl | exact Ex.loadM Try.isAgg3 rfl | exact Ex.loadVc Try.isAgg3 rfl | exact Ex.loadP Try.isAgg3 rfl | exact Ex.loadR Try.isAgg3 rfl)) rfl ?_
        refine OQ.step rfl ?_
        refine O.callF Try.call19 rfl rfl (CT.mono (at_ct hgc (Holds.to (by assumption))) ?_)
        rintro _ w ⟨rfl, H⟩
        refine O.thenNil ⟨(by first | exact Holds.to (by assumption) | assumption), ?_⟩
        refine OQ.ex rfl (fun w H => (Ex.eqlI rfl rfl)) rfl ?_
        refine OQ.ex rfl (fun w H => (Ex.move rfl)) rfl ?_
        refine OQ.known (t := 113) (c := true) rfl (by first | rfl | decide | exact decide_eq_true e1) ?_
        refine OQ.exT rfl rfl rfl (fun w H => (Ex.move rfl)) rfl ?_
        refine OQ.exT rfl rfl rfl (fun w H => (Ex.move rfl)) rfl ?_
        refine OQ.exT rfl rfl rfl (fun w H => (Ex.move rfl)) rfl ?_
        refine OQ.exT rfl rfl rfl (fun w H => (Ex.move rfl)) rfl ?_
        refine OQ.exT rfl rfl rfl (fun w H => (Ex.move rfl)) rfl ?_
        refine OQ.exT rfl rfl rfl (fun w H => (Ex.idxArr Try.runUnderlying30 Try.sizeOf29 rfl rfl)) rfl ?_
        refine OQ.exT rfl rfl rfl (fun w H => (Ex.idxArr Try.runUnderlying29 Try.sizeOf3 rfl rfl)) rfl ?_
        refine OQ.exT rfl rfl rfl (fun w H => (by first | exact Ex.loadInF Try.isAgg3 rfl (Holds.to (by assumption)) | exact Ex.loadIn1 Try.isAgg3 rfl (Holds.to (by assumption)) | exact Ex.loadMh Try.isAgg3 rfl | exact Ex.loadM Try.isAgg3 rfl | exact Ex.loadVc Try.isAgg3 rfl | exact Ex.loadP Try.isAgg3 rfl | exact Ex.loadR Try.isAgg3 rfl)) rfl ?_
        refine OQ.step rfl ?_
        refine O.guard_t rfl rfl ?_
        refine O.callF Try.call19 rfl rfl (CT.mono (at_ct hgc (Holds.to (by assumption))) ?_)
        rintro _ w ⟨rfl, H⟩
        refine O.thenNil ⟨(by first | exact Holds.to (by assumption) | assumption), ?_⟩
        refine OQ.exT rfl rfl rfl (fun w H => (Ex.eqlI rfl rfl)) rfl ?_
        refine OQ.ex rfl (fun w H => (Ex.pick_t rfl rfl)) rfl ?_
        refine OQ.ex rfl (fun w H => (Ex.assign rfl)) rfl ?_
        refine OQ.done ?_
        refine hK34 _ _ _ ?_
        refine W.ret ?_
        try dsimp only [thenQ, blockQ, retQ]
        first | refine ⟨_, ⟨_, _, rfl, rfl, rfl⟩, ?_⟩ | (refine retD_mark ?_; intro w H; refine ⟨_, ⟨_, _, rfl, rfl, rfl⟩, ?_⟩) | (refine retD_mark2 ?_; intro w H; refine ⟨_, ⟨_, _, rfl, rfl, rfl⟩, ?_⟩)
        first
        | (refine ⟨congrArg Value.bool (decide_eq_true ?_), Holds.base_below (L := []) (Holds.to (by assumption))⟩
           rw [hab]; exact hgc.dg _)
        | exact ⟨congrArg Value.bool (decide_eq_true e2), Holds.base_below (L := []) (Holds.to (by assumption))⟩
theorem meshLast_row {w0 : World} {q u v : Int} {lv ov : Value} {l : List Step} {os : List Int} (hq : (Lit.int .u8 q).wf = true) (hx : SlIn w0 3 Step.enc lv l) (hg : ∀ x ∈ l, x.ok) (hl : l.length ≤ maxLen) (ho : SlIn w0 1 (fun s : Int => [.int .u8 s]) ov os) (hob : ∀ x ∈ os, (Lit.int .u8 x).wf = true) (hol : os.length ≤ maxLen) (hu : (Lit.int .u8 u).wf = true) (hv : (Lit.int .u8 v).wf = true) :
    CT Try.prog 3 [.int .u8 q, lv, ov, .int .u8 u, .int .u8 v] w0 fun x w' => x = .bool true ∧ RowKit.Below w0.heap.size w0 w' :=
  meshLast_ct hq hx (by unfold maxLen at hl; omega) ho hob (by unfold maxLen at hol; omega) hu hv
end Go.Proofs.Ytblapiiinbppiaa
