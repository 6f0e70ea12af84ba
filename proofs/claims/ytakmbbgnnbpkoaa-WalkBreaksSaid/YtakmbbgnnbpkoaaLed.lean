import Derived.Test.YtakmbbgnnbpkoaaWalkLaw2
import Derived.Test.YtakmbbgnnbpkoaaLaw09
--ARR
--INF
--DEEP
--LOADS loadRT loadRA loadRN loadRM
--AGGLOADS loadRArc
namespace Go.Proofs.Ytakmbbgnnbpkoaa
open Go.Rr Go Gr
set_option linter.unusedVariables false
theorem mem_getDI {l : List Int} {i : Nat} (h : i < l.length) : l.getD i default ∈ l := by
  rw [List.getD_eq_getElem?_getD, List.getElem?_eq_getElem h]; exact List.getElem_mem h
set_option maxHeartbeats 2000000 in
theorem led_ct {w w0 : World} {r : Nat} {n most v : Int} {s : St} {cv : Value} {cs : List Int} {L : List HProp} (hg : GOk n most s) (hc : SlIn w0 1 (fun s : Int => [.int .u8 s]) cv cs) (hb : ∀ x ∈ cs, (Lit.int .u8 x).wf = true) (hl : cs.length ≤ 100) (H : Holds w (Rg r n most s :: base w0 :: L)) :
    CT Try.prog 49 [.pointer (some ⟨r, 0, none⟩), .int .i64 v, cv] w fun u w' => ∃ x xs, u = .tuple #[x, .int .i64 (wrun s v xs).2.1] ∧ x.oneCell' = true ∧ xs.length ≤ cs.length ∧ (wrun s v xs).2.2 = 0 ∧ Holds w' (arr 3 (Value.int .i64) x xs :: Rg r n most s :: base w0 :: L) := by
  refine CT.enter (N := 78) Try.func49 rfl rfl rfl rfl ?_
  refine W.seq (fun K0 hK0 => ?_)
  refine W.region ?_
  refine O.ex (Ex.assign rfl) rfl ?_
  refine O.ex (Ex.assign rfl) rfl ?_
  refine O.nil ?_
  refine hK0 _ _ _ ?_
  refine W.seq (fun K1 hK1 => ?_)
  refine W.region ?_
  refine O.ex (Ex.assign rfl) rfl ?_
  refine O.nil ?_
  refine hK1 _ _ _ ?_
  refine W.seq (fun K2 hK2 => ?_)
  refine W.region ?_
  refine O.ex (Ex.move rfl) rfl ?_
  refine O.ex (Ex.assign rfl) rfl ?_
  refine O.nil ?_
  refine hK2 _ _ _ ?_
  refine W.seq (fun K3 hK3 => ?_)
  refine W.seq (fun K4 hK4 => ?_)
  refine W.region ?_
  refine O.ex (Ex.assign rfl) rfl ?_
  refine O.nil ?_
  refine hK4 _ _ _ ?_
  refine W.block ?_
  have H := arr_nil (T := 3) (e := Value.int .i64) H
  refine W.loop (σ := Nat × Value × List Int) (fun z => [(0, .pointer (some ⟨r, 0, none⟩)), (2, cv), (8, z.2.1), (9, .int .i64 (wrun s v z.2.2).2.1), (10, .int .i64 (z.1 : Int))]) (fun z ds w => ds = [] ∧ z.1 ≤ cs.length ∧ z.2.2.length = z.1 ∧ z.2.1.oneCell' = true ∧ (wrun s v z.2.2).2.2 = 0 ∧ Holds w (arr 3 (Value.int .i64) z.2.1 z.2.2 :: Rg r n most s :: base w0 :: L)) (fun z => cs.length - z.1) (0, .slice none 0 0, []) ⟨rfl, rfl, rfl, rfl, rfl, trivial⟩ ⟨rfl, by dsimp only; omega, rfl, rfl, rfl, Holds.to H⟩ ?_
  clear H
  rintro ⟨i, x, xs⟩ _ w ⟨rfl, hi, hxl, hx1, hc0, H⟩
  dsimp only at hi hxl hx1 hc0 H ⊢
  refine W.seq (fun K5 hK5 => ?_)
  refine W.seq (fun K6 hK6 => ?_)
  refine W.region ?_
  refine O.ex (Ex.move rfl) rfl ?_
  refine O.ex (Ex.move rfl) rfl ?_
  refine O.ex (by first | exact Ex.lenR Try.runUnderlying75 rfl | exact Ex.lenIn Try.runUnderlying75 rfl | exact Ex.lenL Try.runUnderlying75 rfl | exact Ex.len rfl Try.runUnderlying75 rfl) rfl ?_
  refine O.ex (Ex.lss rfl rfl) rfl ?_
  refine O.nil ?_
  refine hK6 _ _ _ ?_
  first | refine W.cond_p rfl (fun hlt => ?_) (fun hge => ?_) | refine W.cond_b rfl (fun hlt => ?_) (fun hge => ?_)
  · refine W.skip ?_
    refine hK5 _ _ _ ?_
    refine W.seq (fun K7 hK7 => ?_)
    refine W.block ?_
    refine W.seq (fun K8 hK8 => ?_)
    refine W.region ?_
    refine O.ex (Ex.assign rfl) rfl ?_
    refine O.nil ?_
    refine hK8 _ _ _ ?_
    refine W.seq (fun K9 hK9 => ?_)
    refine W.region ?_
    refine O.ex (Ex.move rfl) rfl ?_
    refine O.ex (Ex.move rfl) rfl ?_
    refine O.callF Try.call24 rfl rfl (CT.mono (rendsO_ct (v := (wrun s v xs).2.1) (Holds.to (by assumption))) ?_)
    rintro _ w ⟨he1, H⟩
    rename_i ev
    have H : Holds w (arr 3 (Value.int .i64) ev (outI s (wrun s v xs).2.1) :: Rg r n most s :: arr 3 (Value.int .i64) x xs :: base w0 :: L) := Holds.to H
    refine O.ex (Ex.assign rfl) rfl ?_
    refine O.nil ?_
    refine hK9 _ _ _ ?_
    refine W.seq (fun K10 hK10 => ?_)
    refine W.seq (fun K11 hK11 => ?_)
    refine W.region ?_
    refine O.ex (Ex.assign rfl) rfl ?_
    refine O.nil ?_
    refine hK11 _ _ _ ?_
    refine W.block ?_
    have hil : i < cs.length := by omega
    have hell : (outI s (wrun s v xs).2.1).length ≤ 64 := lstP_len _
    have H := arr_nil (T := 3) (e := Value.int .i64) H
    refine W.loop (σ := Nat × Value × List Int) (fun z => [(0, .pointer (some ⟨r, 0, none⟩)), (2, cv), (8, x), (9, .int .i64 (wrun s v xs).2.1), (10, .int .i64 (i : Int)), (11, z.2.1), (12, ev), (13, .int .i64 (z.1 : Int))]) (fun z ds w => ds = [] ∧ z.1 ≤ (outI s (wrun s v xs).2.1).length ∧ z.2.2.length ≤ z.1 ∧ z.2.1.oneCell' = true ∧ (∀ y ∈ z.2.2, y ∈ outI s (wrun s v xs).2.1 ∧ (s y.toNat).a.cl = false) ∧ Holds w (arr 3 (Value.int .i64) z.2.1 z.2.2 :: arr 3 (Value.int .i64) ev (outI s (wrun s v xs).2.1) :: arr 3 (Value.int .i64) x xs :: Rg r n most s :: base w0 :: L)) (fun z => (outI s (wrun s v xs).2.1).length - z.1) (0, .slice none 0 0, []) ⟨rfl, rfl, rfl, rfl, rfl, rfl, rfl, rfl, trivial⟩ ⟨rfl, by dsimp only; omega, Nat.le_refl _, rfl, (fun y hy => by cases hy), Holds.to H⟩ ?_
    clear H
    rintro ⟨k, m, ys⟩ _ w ⟨rfl, hk, hyl, hm1, hys, H⟩
    dsimp only at hk hyl hm1 hys H ⊢
    refine W.seq (fun K12 hK12 => ?_)
    refine W.seq (fun K13 hK13 => ?_)
    refine W.region ?_
    refine O.ex (Ex.move rfl) rfl ?_
    refine O.ex (Ex.move rfl) rfl ?_
    refine O.ex (by first | exact Ex.lenR Try.runUnderlying37 rfl | exact Ex.lenIn Try.runUnderlying37 rfl | exact Ex.lenL Try.runUnderlying37 rfl | exact Ex.len rfl Try.runUnderlying37 rfl) rfl ?_
    refine O.ex (Ex.lss rfl rfl) rfl ?_
    refine O.nil ?_
    refine hK13 _ _ _ ?_
    first | refine W.cond_p rfl (fun klt => ?_) (fun kge => ?_) | refine W.cond_b rfl (fun klt => ?_) (fun kge => ?_)
    · refine W.skip ?_
      refine hK12 _ _ _ ?_
      refine W.seq (fun K14 hK14 => ?_)
      refine W.block ?_
      refine W.seq (fun K15 hK15 => ?_)
      have hkl : k < (outI s (wrun s v xs).2.1).length := by omega
      have hmem := mem_getDI hkl
      obtain ⟨⟨r0, r1⟩, r2, r3⟩ := out_mem hmem
      refine W.drawTo _ (.take 0 (.take 1 (.take 2 (.take 3 (.take 4 (.take 5 (.take 6 (.take 7 (.take 8 (.take 9 (.take 10 .nil))))))))))) (mixed) (fun _ _ _ _ h => h) (by assumption) (PP.refl _) (by decide +kernel) (fun w H => ?_)
      refine OQ.ex rfl (fun w H => (Ex.move rfl)) rfl ?_
      refine OQ.ex rfl (fun w H => (Ex.move rfl)) rfl ?_
      refine OQ.ex rfl (fun w H => (Ex.move rfl)) rfl ?_
      refine OQ.ex rfl (fun w H => (by first | exact Ex.idxR Try.runUnderlying37 Try.sizeOf3 rfl rfl | exact Ex.idxIn Try.runUnderlying37 Try.sizeOf3 rfl rfl | exact Ex.idxS Try.runUnderlying37 Try.sizeOf3 rfl rfl | exact Ex.idx Try.runUnderlying37 Try.sizeOf3 rfl rfl (by omega) (by omega))) rfl ?_
      refine OQ.ex rfl (fun w H => (by first | exact Ex.loadRT Try.isAgg3 rfl | exact Ex.loadRA Try.isAgg3 rfl | exact Ex.loadRN Try.isAgg3 rfl | exact Ex.loadRM Try.isAgg3 rfl | exact Ex.loadR Try.isAgg3 rfl | exact Ex.loadIn1 Try.isAgg3 rfl (Holds.to (by assumption)) | exact Ex.loadInF Try.isAgg3 rfl (Holds.to (by assumption)) | exact Ex.loadP Try.isAgg3 rfl | exact Ex.loadMh Try.isAgg3 rfl | exact Ex.loadM Try.isAgg3 rfl | exact Ex.loadVc Try.isAgg3 rfl | exact Ex.loadQ Try.isAgg3 rfl)) rfl ?_
      refine OQ.ex rfl (fun w H => (by first | exact Ex.nilPtr rfl | exact Ex.nilFunc rfl | exact Ex.nilYield rfl)) rfl ?_
      refine OQ.ex rfl (fun w H => (by first | exact Ex.field0 fld54_3 rfl | exact Ex.field fld54_3 rfl | exact Ex.fieldS fld54_3 rfl | exact Ex.fieldIn fld54_3 rfl)) rfl ?_
      refine OQ.ex rfl (fun w H => (Ex.idxArr Try.runUnderlying52 Try.sizeOf31 rfl rfl)) rfl ?_
      refine OQ.ex rfl (fun w H => (by first | exact Ex.field0 fld31_3 rfl | exact Ex.field fld31_3 rfl | exact Ex.fieldS fld31_3 rfl | exact Ex.fieldIn fld31_3 rfl)) rfl ?_
      refine OQ.ex rfl (fun w H => (by first | exact Ex.loadRT Try.isAgg4 rfl | exact Ex.loadRA Try.isAgg4 rfl | exact Ex.loadRN Try.isAgg4 rfl | exact Ex.loadRM Try.isAgg4 rfl | exact Ex.loadMh Try.isAgg4 rfl | exact Ex.loadInF Try.isAgg4 rfl (Holds.to (by assumption)) | exact Ex.loadP Try.isAgg4 rfl | exact Ex.loadM Try.isAgg4 rfl | exact Ex.loadIn1 Try.isAgg4 rfl (Holds.to (by assumption)) | exact Ex.loadVc Try.isAgg4 rfl | exact Ex.loadR Try.isAgg4 rfl | exact Ex.loadQ Try.isAgg4 rfl)) rfl ?_
      refine OQ.ex rfl (fun w H => (by first | exact Ex.notD rfl | exact Ex.not rfl)) rfl ?_
      refine OQ.done ?_
      refine hK15 _ _ _ ?_
      first | refine W.cond_p rfl (fun hop => ?_) (fun hcl => ?_) | refine W.cond_b rfl (fun hop => ?_) (fun hcl => ?_)
      · refine W.region ?_
        refine O.ex (Ex.move rfl) rfl ?_
        refine O.ex (Ex.move rfl) rfl ?_
        refine O.ex (Ex.move rfl) rfl ?_
        refine O.ex (by first | exact Ex.idxR Try.runUnderlying37 Try.sizeOf3 rfl rfl | exact Ex.idxIn Try.runUnderlying37 Try.sizeOf3 rfl rfl | exact Ex.idxS Try.runUnderlying37 Try.sizeOf3 rfl rfl | exact Ex.idx Try.runUnderlying37 Try.sizeOf3 rfl rfl (by omega) (by omega)) rfl ?_
        refine O.ex (by first | exact Ex.loadRT Try.isAgg3 rfl | exact Ex.loadRA Try.isAgg3 rfl | exact Ex.loadRN Try.isAgg3 rfl | exact Ex.loadRM Try.isAgg3 rfl | exact Ex.loadR Try.isAgg3 rfl | exact Ex.loadIn1 Try.isAgg3 rfl (Holds.to (by assumption)) | exact Ex.loadInF Try.isAgg3 rfl (Holds.to (by assumption)) | exact Ex.loadP Try.isAgg3 rfl | exact Ex.loadMh Try.isAgg3 rfl | exact Ex.loadM Try.isAgg3 rfl | exact Ex.loadVc Try.isAgg3 rfl | exact Ex.loadQ Try.isAgg3 rfl) rfl ?_
        refine O.build1 (e := Value.int .i64) Try.runUnderlying37 Try.sizeOf3 Try.zeroValue3 rfl (fun v47 w hv47 H => ?_)
        refine O.appendR Try.runUnderlying37 Try.typeInfo3 (bt := 8) rfl Try.sizeOf3 Try.zeroValue3 rfl rfl (fun v48 w hv48 H => ?_)
        refine O.ex (Ex.assign rfl) rfl ?_
        refine O.nil ?_
        refine hK14 _ _ _ ?_
        refine W.region ?_
        refine O.ex (Ex.move rfl) rfl ?_
        refine O.ex (by first | exact Ex.addI rfl rfl | exact Ex.add rfl rfl rfl) rfl ?_
        refine O.ex (Ex.assign rfl) rfl ?_
        refine O.nil ?_
        first
        | (have hop' : (s ((outI s (wrun s v xs).2.1).getD k default).toNat).a.cl = false := by simpa using hop
           exact ⟨(k + 1, v48, ys ++ [(outI s (wrun s v xs).2.1).getD k default]), ⟨rfl, rfl, rfl, rfl, rfl, rfl, rfl, rfl, trivial⟩, ⟨rfl, by dsimp only; omega, by dsimp only; rw [List.length_append]; simp; omega, hv48, (fun y hy => by
             rcases List.mem_append.1 hy with hy | hy
             · exact hys y hy
             · rw [List.mem_singleton.1 hy]; exact ⟨hmem, hop'⟩), Holds.to (by assumption)⟩, by dsimp only; omega⟩)
        | exact ⟨(k + 1, m, ys), ⟨rfl, rfl, rfl, rfl, rfl, rfl, rfl, rfl, trivial⟩, ⟨rfl, by dsimp only; omega, by dsimp only; omega, hm1, hys, Holds.to (by assumption)⟩, by dsimp only; omega⟩
      · refine W.skip ?_
        refine hK14 _ _ _ ?_
        refine W.region ?_
        refine O.ex (Ex.move rfl) rfl ?_
        refine O.ex (by first | exact Ex.addI rfl rfl | exact Ex.add rfl rfl rfl) rfl ?_
        refine O.ex (Ex.assign rfl) rfl ?_
        refine O.nil ?_
        first
        | (have hop' : (s ((outI s (wrun s v xs).2.1).getD k default).toNat).a.cl = false := by simpa using hop
           exact ⟨(k + 1, v48, ys ++ [(outI s (wrun s v xs).2.1).getD k default]), ⟨rfl, rfl, rfl, rfl, rfl, rfl, rfl, rfl, trivial⟩, ⟨rfl, by dsimp only; omega, by dsimp only; rw [List.length_append]; simp; omega, hv48, (fun y hy => by
             rcases List.mem_append.1 hy with hy | hy
             · exact hys y hy
             · rw [List.mem_singleton.1 hy]; exact ⟨hmem, hop'⟩), Holds.to (by assumption)⟩, by dsimp only; omega⟩)
        | exact ⟨(k + 1, m, ys), ⟨rfl, rfl, rfl, rfl, rfl, rfl, rfl, rfl, trivial⟩, ⟨rfl, by dsimp only; omega, by dsimp only; omega, hm1, hys, Holds.to (by assumption)⟩, by dsimp only; omega⟩
    · refine W.exit ?_
      refine hK10 _ _ _ ?_
      refine W.seq (fun K16 hK16 => ?_)
      refine W.seq (fun K17 hK17 => ?_)
      refine W.region ?_
      refine O.ex (Ex.move rfl) rfl ?_
      refine O.ex (by first | exact Ex.lenR Try.runUnderlying37 rfl | exact Ex.lenIn Try.runUnderlying37 rfl | exact Ex.lenL Try.runUnderlying37 rfl | exact Ex.len rfl Try.runUnderlying37 rfl) rfl ?_
      refine O.ex (Ex.eqlI rfl rfl) rfl ?_
      refine O.nil ?_
      refine hK17 _ _ _ ?_
      first | refine W.cond_p rfl (fun hno => ?_) (fun hyes => ?_) | refine W.cond_b rfl (fun hno => ?_) (fun hyes => ?_)
      · refine W.seq (fun K18 hK18 => ?_)
        refine W.region ?_
        refine O.ex (Ex.move rfl) rfl ?_
        refine O.ex (Ex.move rfl) rfl ?_
        refine O.ex (Ex.assign rfl) rfl ?_
        refine O.ex (Ex.assign rfl) rfl ?_
        refine O.nil ?_
        refine hK18 _ _ _ ?_
        refine W.ret ?_
        try dsimp only [thenQ, blockQ, retQ]
        first | refine ⟨_, ⟨_, _, rfl, rfl, _, _, rfl, rfl, rfl⟩, ?_⟩ | (refine retD_mark ?_; intro w H; refine ⟨_, ⟨_, _, rfl, rfl, _, _, rfl, rfl, rfl⟩, ?_⟩) | (refine retD_mark2 ?_; intro w H; refine ⟨_, ⟨_, _, rfl, rfl, _, _, rfl, rfl, rfl⟩, ?_⟩)
        exact ⟨x, xs, rfl, hx1, by omega, hc0, Holds.to (by assumption)⟩
      · refine W.skip ?_
        refine hK16 _ _ _ ?_
        refine W.seq (fun K19 hK19 => ?_)
        refine W.region ?_
        have hi0 : (0 : Int) ≤ (i : Int) := by omega
        have hi1 : (i : Int) < (cs.length : Int) := by omega
        obtain ⟨c0, c1⟩ := bounds_u8 (hb _ (mem_getDI hil))
        have hyp : (0 : Int) < (ys.length : Int) := by omega
        have hm0 : (0 : Int) ≤ cs.getD i default % (ys.length : Int) := Int.emod_nonneg _ (by omega)
        have hm1' : cs.getD i default % (ys.length : Int) < (ys.length : Int) := Int.emod_lt_of_pos _ hyp
        have hm2 : (0 : Int) ≤ cs.getD ((i : Nat) : Int).toNat default % (ys.length : Int) := hm0
        have hm3 : cs.getD ((i : Nat) : Int).toNat default % (ys.length : Int) < (ys.length : Int) := hm1'
        have c2 : (0 : Int) ≤ cs.getD ((i : Nat) : Int).toNat default := c0
        have c3 : cs.getD ((i : Nat) : Int).toNat default ≤ 255 := c1
        refine O.ex (Ex.move rfl) rfl ?_
        refine O.ex (Ex.move rfl) rfl ?_
        refine O.ex (Ex.move rfl) rfl ?_
        refine O.ex (by first | exact Ex.idxR Try.runUnderlying75 Try.sizeOf5 rfl rfl | exact Ex.idxIn Try.runUnderlying75 Try.sizeOf5 rfl rfl | exact Ex.idxS Try.runUnderlying75 Try.sizeOf5 rfl rfl | exact Ex.idx Try.runUnderlying75 Try.sizeOf5 rfl rfl (by omega) (by omega)) rfl ?_
        refine O.ex (by first | exact Ex.loadRT Try.isAgg5 rfl | exact Ex.loadRA Try.isAgg5 rfl | exact Ex.loadRN Try.isAgg5 rfl | exact Ex.loadRM Try.isAgg5 rfl | exact Ex.loadR Try.isAgg5 rfl | exact Ex.loadIn1 Try.isAgg5 rfl (Holds.to (by assumption)) | exact Ex.loadInF Try.isAgg5 rfl (Holds.to (by assumption)) | exact Ex.loadP Try.isAgg5 rfl | exact Ex.loadMh Try.isAgg5 rfl | exact Ex.loadM Try.isAgg5 rfl | exact Ex.loadVc Try.isAgg5 rfl | exact Ex.loadQ Try.isAgg5 rfl) rfl ?_
        refine O.ex (by first | exact Ex.convToI Try.runUnderlying5 Try.runUnderlying3 rfl | exact Ex.convW Try.runUnderlying5 Try.runUnderlying3 rfl) rfl ?_
        refine O.ex (Ex.move rfl) rfl ?_
        refine O.ex (by first | exact Ex.lenR Try.runUnderlying37 rfl | exact Ex.lenIn Try.runUnderlying37 rfl | exact Ex.lenL Try.runUnderlying37 rfl | exact Ex.len rfl Try.runUnderlying37 rfl) rfl ?_
        refine O.ex (by first | exact Ex.remI rfl rfl | exact Ex.rem rfl rfl (by omega) rfl) rfl ?_
        refine O.ex (by first | exact Ex.idxR Try.runUnderlying37 Try.sizeOf3 rfl rfl | exact Ex.idxIn Try.runUnderlying37 Try.sizeOf3 rfl rfl | exact Ex.idxS Try.runUnderlying37 Try.sizeOf3 rfl rfl | exact Ex.idx Try.runUnderlying37 Try.sizeOf3 rfl rfl (by omega) (by omega)) rfl ?_
        refine O.ex (by first | exact Ex.loadRT Try.isAgg3 rfl | exact Ex.loadRA Try.isAgg3 rfl | exact Ex.loadRN Try.isAgg3 rfl | exact Ex.loadRM Try.isAgg3 rfl | exact Ex.loadR Try.isAgg3 rfl | exact Ex.loadIn1 Try.isAgg3 rfl (Holds.to (by assumption)) | exact Ex.loadInF Try.isAgg3 rfl (Holds.to (by assumption)) | exact Ex.loadP Try.isAgg3 rfl | exact Ex.loadMh Try.isAgg3 rfl | exact Ex.loadM Try.isAgg3 rfl | exact Ex.loadVc Try.isAgg3 rfl | exact Ex.loadQ Try.isAgg3 rfl) rfl ?_
        refine O.ex (Ex.assign rfl) rfl ?_
        refine O.nil ?_
        refine hK19 _ _ _ ?_
        refine W.seq (fun K20 hK20 => ?_)
        refine W.region ?_
        refine O.ex (Ex.move rfl) rfl ?_
        refine O.ex (Ex.move rfl) rfl ?_
        refine O.build1 (e := Value.int .i64) Try.runUnderlying37 Try.sizeOf3 Try.zeroValue3 rfl (fun v67 w hv67 H => ?_)
        refine O.appendR Try.runUnderlying37 Try.typeInfo3 (bt := 8) rfl Try.sizeOf3 Try.zeroValue3 rfl rfl (fun v68 w hv68 H => ?_)
        refine O.ex (Ex.assign rfl) rfl ?_
        refine O.nil ?_
        refine hK20 _ _ _ ?_
        refine W.region ?_
        obtain ⟨id, hid⟩ : ∃ id, id = ys.getD (cs.getD ((i : Nat) : Int).toNat default % (ys.length : Int)).toNat default := ⟨_, rfl⟩
        have hmem : id ∈ ys := hid ▸ mem_getDI (by omega)
        obtain ⟨hy1, hy2⟩ := hys id hmem
        obtain ⟨⟨r0, r1⟩, r2, r3⟩ := out_mem hy1
        rw [← hid]
        refine O.ex (Ex.move rfl) rfl ?_
        refine O.ex (Ex.move rfl) rfl ?_
        refine O.ex (by first | exact Ex.nilPtr rfl | exact Ex.nilFunc rfl | exact Ex.nilYield rfl) rfl ?_
        refine O.ex (by first | exact Ex.field0 fld54_3 rfl | exact Ex.field fld54_3 rfl | exact Ex.fieldS fld54_3 rfl | exact Ex.fieldIn fld54_3 rfl) rfl ?_
        refine O.ex (Ex.idxArr Try.runUnderlying52 Try.sizeOf31 rfl rfl) rfl ?_
        refine O.ex (by first | exact Ex.field0 fld31_1 rfl | exact Ex.field fld31_1 rfl | exact Ex.fieldS fld31_1 rfl | exact Ex.fieldIn fld31_1 rfl) rfl ?_
        refine O.ex (by first | exact Ex.loadRT Try.isAgg3 rfl | exact Ex.loadRA Try.isAgg3 rfl | exact Ex.loadRN Try.isAgg3 rfl | exact Ex.loadRM Try.isAgg3 rfl | exact Ex.loadMh Try.isAgg3 rfl | exact Ex.loadInF Try.isAgg3 rfl (Holds.to (by assumption)) | exact Ex.loadP Try.isAgg3 rfl | exact Ex.loadM Try.isAgg3 rfl | exact Ex.loadIn1 Try.isAgg3 rfl (Holds.to (by assumption)) | exact Ex.loadVc Try.isAgg3 rfl | exact Ex.loadR Try.isAgg3 rfl | exact Ex.loadQ Try.isAgg3 rfl) rfl ?_
        refine O.ex (Ex.assign rfl) rfl ?_
        refine O.nil ?_
        refine hK7 _ _ _ ?_
        refine W.region ?_
        refine O.ex (Ex.move rfl) rfl ?_
        refine O.ex (by first | exact Ex.addI rfl rfl | exact Ex.add rfl rfl rfl) rfl ?_
        refine O.ex (Ex.assign rfl) rfl ?_
        refine O.nil ?_
        exact ⟨(i + 1, v68, xs ++ [id]), ⟨rfl, rfl, rfl, by rw [led_step hc0 hy1 hy2]; rfl, rfl, trivial⟩, ⟨rfl, by dsimp only; omega, by dsimp only; rw [List.length_append, hxl]; rfl, hv68, by dsimp only; rw [led_step hc0 hy1 hy2], by rw [hid]; exact Holds.to (by assumption)⟩, by dsimp only; omega⟩
  · refine W.exit ?_
    refine hK3 _ _ _ ?_
    refine W.seq (fun K21 hK21 => ?_)
    refine W.region ?_
    refine O.ex (Ex.move rfl) rfl ?_
    refine O.ex (Ex.move rfl) rfl ?_
    refine O.ex (Ex.assign rfl) rfl ?_
    refine O.ex (Ex.assign rfl) rfl ?_
    refine O.nil ?_
    refine hK21 _ _ _ ?_
    refine W.ret ?_
    try dsimp only [thenQ, blockQ, retQ]
    first | refine ⟨_, ⟨_, _, rfl, rfl, _, _, rfl, rfl, rfl⟩, ?_⟩ | (refine retD_mark ?_; intro w H; refine ⟨_, ⟨_, _, rfl, rfl, _, _, rfl, rfl, rfl⟩, ?_⟩) | (refine retD_mark2 ?_; intro w H; refine ⟨_, ⟨_, _, rfl, rfl, _, _, rfl, rfl, rfl⟩, ?_⟩)
    exact ⟨x, xs, rfl, hx1, by omega, hc0, Holds.to (by assumption)⟩
end Go.Proofs.Ytakmbbgnnbpkoaa
