import Derived.Test.YtakmbbgnnbpkoaaLaw08c
import Derived.Test.YtakmbbgnnbpkoaaGraph7
--ARR
--INF
--DEEP
--LOADS loadRT loadRA loadRN loadRM
--AGGLOADS loadRArc
namespace Go.Proofs.Ytakmbbgnnbpkoaa
open Go.Rr Go Gr
set_option linter.unusedVariables false
theorem up_other {s : St} {i : Nat} {id : Int} {x : Sl} (hp : pl id) (h : (i : Int) ≠ id) : upS s id.toNat x i = s i := upS_other (by omega)
theorem ins_other {n most : Int} {s : St} {i : Nat} {id : Int} {a : Arc} (h : (i : Int) ≠ id) : insS n most s id a i = s i := by
  unfold insS
  split
  · rename_i e; exact up_other (insC_zero.1 e).1.1 h
  · rfl
theorem del_other {s : St} {i : Nat} {id : Int} (h : (i : Int) ≠ id) : delS s id i = s i := by
  unfold delS
  split
  · rename_i e; exact up_other (thC_zero.1 e).1 h
  · rfl
theorem turn_other {s : St} {i : Nat} {id : Int} {b : Bool} (h : (i : Int) ≠ id) : turnS s id b i = s i := by
  unfold turnS
  split
  · rename_i e; exact up_other (turnC_zero.1 e).1.1 h
  · rfl
theorem weigh_other {s : St} {i : Nat} {id v : Int} (h : (i : Int) ≠ id) : weighS s id v i = s i := by
  unfold weighS
  split
  · rename_i e; exact up_other (weighC_zero.1 e).2.1 h
  · rfl
theorem do_other {n most : Int} {s : St} {i : Nat} {c : Chg} (h : (i : Int) ≠ c.f_ID) : doS n most s c i = s i := by
  unfold doS
  split
  · exact ins_other h
  · split
    · exact del_other h
    · split
      · exact turn_other h
      · split
        · exact turn_other h
        · exact weigh_other h
theorem all_other {n most : Int} {i : Nat} : ∀ (l : List Chg) (s : St), (∀ c ∈ l, (i : Int) ≠ c.f_ID) → doAll n most s l i = s i
  | [], s, _ => rfl
  | c :: l, s, h => (all_other l (doS n most s c) (fun x hx => h x (List.mem_cons_of_mem _ hx))).trans (do_other (h c (List.mem_cons_self ..)))
def delAll (s : St) (l : List Chg) : St := l.foldl (fun s c => delS s c.f_ID) s
theorem delAll_snoc (s : St) (l : List Chg) (c : Chg) : delAll s (l ++ [c]) = delS (delAll s l) c.f_ID := by unfold delAll; rw [List.foldl_append]; rfl
theorem ok_delAll {n most : Int} : ∀ (l : List Chg) (s : St), GOk n most s → GOk n most (delAll s l)
  | [], s, h => h
  | c :: l, s, h => ok_delAll l _ (ok_del h c.f_ID)
theorem del_here {n most : Int} {s : St} {i : Nat} (hg : GOk n most s) : delS s (i : Int) i = Sl.zero := by
  unfold delS
  split
  · rename_i e
    exact upS_same s i Sl.zero
  · rename_i e
    by_cases h : i < 64
    · refine hg.free i ?_
      cases ht : (s i).tk with
      | false => rfl
      | true => exact absurd (thC_zero.2 ⟨⟨by omega, by omega⟩, ht⟩) e
    · exact hg.low i (by omega)
theorem delAll_none {n most : Int} : ∀ (l : List Chg) (s : St), GOk n most s → (∀ i, (∀ c ∈ l, ((i : Nat) : Int) ≠ c.f_ID) → s i = Sl.zero) → delAll s l = noS
  | [], s, hg, h => funext fun i => h i (fun c hc => by cases hc)
  | c :: l, s, hg, h => delAll_none l (delS s c.f_ID) (ok_del hg _) fun i hi => by
    by_cases e : (i : Int) = c.f_ID
    · rw [← e]; exact del_here hg
    · rw [del_other e]
      exact h i fun x hx => by
        rcases List.mem_cons.1 hx with rfl | hx
        · exact e
        · exact hi x hx
theorem gone_all {n : Int} (h1 : 1 ≤ n) (h2 : n ≤ 24) (l : List Chg) : delAll (doAll n 64 noS l) l = noS :=
  delAll_none l _ (ok_all l _ (ok_none h1 h2 (by omega) (by omega))) fun i hi => all_other l noS hi
def oneA : Arc := ⟨0, 0, 1, false⟩
theorem one_in {n : Int} (h1 : 1 ≤ n) : insC n 64 noS 0 oneA = 0 := insC_zero.2 ⟨⟨⟨by omega, by omega⟩, ⟨⟨by show (0 : Int) ≤ 0; omega, by show (0 : Int) < n; omega⟩, by show (0 : Int) ≤ 0; omega, by show (0 : Int) < n; omega⟩, by show (1 : Int) ≤ 1; omega, by show (1 : Int) ≤ 4611686018427387904; omega⟩, rfl, by show (cnt noS) < 64; decide +kernel⟩
theorem len_none : cnt noS = 0 := by decide +kernel
theorem ids_none : (idsI noS).length = 0 := by decide +kernel
set_option maxHeartbeats 4000000 in
theorem graphCopies_ct {w0 : World} {q : Int} {lv mv : Value} {l m : List Chg} (hq : (Lit.int .u8 q).wf = true) (hx : SlIn w0 6 Chg.enc lv l) (hl : l.length ≤ 9223372036854775807) (hy : SlIn w0 6 Chg.enc mv m) (hm : m.length ≤ 9223372036854775807) :
    CT Try.prog 7 [.int .u8 q, lv, mv] w0 fun x w' => x = .bool true ∧ RowKit.Below w0.heap.size w0 w' := by
  obtain ⟨q0, q1⟩ := bounds_u8 hq
  have H := Holds.base_refl w0
  refine CT.enter (N := 110) Try.func7 rfl rfl rfl rfl ?_
  refine W.seq (fun K0 hK0 => ?_)
  refine W.region ?_
  refine O.ex (Ex.assign rfl) rfl ?_
  refine O.nil ?_
  refine hK0 _ _ _ ?_
  refine W.seq (fun K1 hK1 => ?_)
  refine W.seq (fun K2 hK2 => ?_)
  refine W.region ?_
  refine O.callF Try.call17 rfl rfl (CT.mono (awake08_ct (Holds.to (by assumption))) ?_)
  rintro _ w ⟨rfl, H⟩
  refine O.ex (by first | exact Ex.notD rfl | exact Ex.not rfl) rfl ?_
  refine O.nil ?_
  refine hK2 _ _ _ ?_
  refine W.known_f rfl (by first | exact decide_eq_true rfl | rfl | decide | exact decide_eq_false (fun hh => hh rfl) | exact decide_eq_true len_none | exact decide_eq_true (congrArg Int.ofNat ids_none) | exact decide_eq_true (one_in n1)) ?_
  refine W.skip ?_
  refine hK1 _ _ _ ?_
  refine W.seq (fun K3 hK3 => ?_)
  refine W.region ?_
  refine O.ex (Ex.move rfl) rfl ?_
  refine O.ex (Ex.move rfl) rfl ?_
  refine O.callF Try.call18 rfl rfl (CT.mono (made08_ct hq hx hl (Holds.to (M := base w0 :: _) (by assumption))) ?_)
  rintro _ w ⟨g, r, hg, rfl, H⟩
  refine O.ex (Ex.move rfl) rfl ?_
  refine O.ex (Ex.extract rfl rfl) rfl ?_
  refine O.ex (Ex.extract rfl rfl) rfl ?_
  refine O.ex (Ex.assign rfl) rfl ?_
  refine O.ex (Ex.assign rfl) rfl ?_
  refine O.nil ?_
  refine hK3 _ _ _ ?_
  refine W.seq (fun K4 hK4 => ?_)
  refine W.seq (fun K5 hK5 => ?_)
  refine W.region ?_
  refine O.ex (Ex.move rfl) rfl ?_
  refine O.ex (Ex.nilEq Try.runUnderlying24 rfl rfl) rfl ?_
  refine O.nil ?_
  refine hK5 _ _ _ ?_
  refine W.known_f rfl (by first | exact decide_eq_true rfl | rfl | decide | exact decide_eq_false (fun hh => hh rfl) | exact decide_eq_true len_none | exact decide_eq_true (congrArg Int.ofNat ids_none) | exact decide_eq_true (one_in n1)) ?_
  refine W.skip ?_
  refine hK4 _ _ _ ?_
  refine W.seq (fun K6 hK6 => ?_)
  refine W.region ?_
  obtain ⟨n, hn⟩ : ∃ n, n = 1 + q % 24 := ⟨_, rfl⟩
  rw [← hn] at hg H
  have n1 : 1 ≤ n := by omega
  have n2 : n ≤ 24 := by omega
  obtain ⟨s, hs⟩ : ∃ s, s = doAll n 64 noS (l.take 150) := ⟨_, rfl⟩
  rw [← hs] at hg H
  refine O.ex (Ex.move rfl) rfl ?_
  refine O.callF Try.call36 rfl rfl (CT.mono (gcopy_ct hg (Holds.to (by assumption))) ?_)
  rintro _ w ⟨c, rfl, H⟩
  refine O.ex (Ex.assign rfl) rfl ?_
  refine O.nil ?_
  refine hK6 _ _ _ ?_
  refine W.seq (fun K7 hK7 => ?_)
  refine W.seq (fun K8 hK8 => ?_)
  refine W.region ?_
  refine O.ex (Ex.move rfl) rfl ?_
  refine O.ex (Ex.nilEq Try.runUnderlying24 rfl rfl) rfl ?_
  refine O.ex (Ex.move rfl) rfl ?_
  refine O.known (t := 27) (c := false) rfl (by first | exact decide_eq_true rfl | rfl | decide | exact decide_eq_false (fun hh => hh rfl) | exact decide_eq_true len_none | exact decide_eq_true (congrArg Int.ofNat ids_none) | exact decide_eq_true (one_in n1)) ?_
  refine O.guard_t rfl rfl ?_
  refine O.ex (Ex.move rfl) rfl ?_
  refine O.guard_t rfl rfl ?_
  refine O.ex (Ex.move rfl) rfl ?_
  refine O.guard_t rfl rfl ?_
  refine O.callF Try.call30 rfl rfl (CT.mono (same08_ct (g := c) hg (Holds.to (by assumption))) ?_)
  rintro _ w ⟨rfl, H⟩
  refine O.guard_t rfl rfl ?_
  refine O.ex (by first | exact Ex.notD rfl | exact Ex.not rfl) rfl ?_
  refine O.ex (Ex.pick_f rfl rfl) rfl ?_
  refine O.nil ?_
  refine hK8 _ _ _ ?_
  refine W.known_f rfl (by first | exact decide_eq_true rfl | rfl | decide | exact decide_eq_false (fun hh => hh rfl) | exact decide_eq_true len_none | exact decide_eq_true (congrArg Int.ofNat ids_none) | exact decide_eq_true (one_in n1)) ?_
  refine W.skip ?_
  refine hK7 _ _ _ ?_
  refine W.seq (fun K9 hK9 => ?_)
  refine W.seq (fun K10 hK10 => ?_)
  refine W.region ?_
  refine O.ex (Ex.assign rfl) rfl ?_
  refine O.nil ?_
  refine hK10 _ _ _ ?_
  refine W.block ?_
  refine W.loop (σ := Nat) (fun i => [(1, lv), (2, mv), (7, .pointer (some ⟨g, 0, none⟩)), (8, .pointer (some ⟨r, 0, none⟩)), (9, .pointer (some ⟨c, 0, none⟩)), (10, .int .i64 (i : Int))]) (fun i ds w => ds = [] ∧ i ≤ m.length ∧ i ≤ 150 ∧ Holds w (Gh c n 64 (doAll n 64 s (m.take i)) :: Rg r n 64 (doAll n 64 s (m.take i)) :: Gh g n 64 s :: base w0 :: [])) (fun i => m.length - i) 0 ⟨rfl, rfl, rfl, rfl, rfl, rfl, trivial⟩ ⟨rfl, by omega, by omega, Holds.to (by assumption)⟩ ?_
  clear H
  rintro i _ w ⟨rfl, hi, hi4, H⟩
  have hgc := ok_all (m.take i) s hg
  refine W.seq (fun K11 hK11 => ?_)
  refine W.seq (fun K12 hK12 => ?_)
  refine W.region ?_
  refine O.ex (Ex.move rfl) rfl ?_
  refine O.ex (Ex.move rfl) rfl ?_
  refine O.ex (by first | exact Ex.lenN Try.runUnderlying22 rfl | exact Ex.lenIn Try.runUnderlying22 rfl | exact Ex.lenL Try.runUnderlying22 rfl | exact Ex.len rfl Try.runUnderlying22 rfl) rfl ?_
  refine O.ex (Ex.lss rfl rfl) rfl ?_
  refine O.ex (Ex.move rfl) rfl ?_
  first | refine O.split_p (t := 37) rfl (fun h1 => ?_) (fun h1 => ?_) | refine O.split (t := 37) rfl (fun h1 => ?_) (fun h1 => ?_)
  · refine O.guard_t rfl rfl ?_
    refine O.ex (Ex.move rfl) rfl ?_
    refine O.guard_t rfl rfl ?_
    refine O.ex (Ex.lss rfl rfl) rfl ?_
    refine O.ex (Ex.pick_t rfl rfl) rfl ?_
    refine O.nil ?_
    refine hK12 _ _ _ ?_
    first | refine W.cond_p rfl (fun hlt => ?_) (fun hge => ?_) | refine W.cond_b rfl (fun hlt => ?_) (fun hge => ?_)
    · refine W.skip ?_
      refine hK11 _ _ _ ?_
      refine W.seq (fun K13 hK13 => ?_)
      refine W.block ?_
      refine W.seq (fun K14 hK14 => ?_)
      have hi0 : (0 : Int) ≤ (i : Int) := by omega
      have hi1 : (i : Int) < m.length := h1
      have hil : i < m.length := by omega
      have e1 : doS n 64 (doAll n 64 s (m.take i)) (m.getD i default) = doAll n 64 s (m.take (i + 1)) := by rw [take_getCh m hil, doAll_snoc]
      refine W.drawTo (base w0 :: []) (.take 0 (.take 1 (.take 2 (.take 3 (.take 4 (.take 6 (.take 7 (.take 8 (.take 9 (.take 10 (.one 5 (.one 11 (.take 12 .nil))))))))))))) (mixed) (fun _ _ _ _ h => h) (by assumption) PP.auto (by decide +kernel) (fun w H => ?_)
      refine OQ.ex rfl (fun w H => (Ex.move rfl)) rfl ?_
      refine OQ.ex rfl (fun w H => (Ex.move rfl)) rfl ?_
      refine OQ.ex rfl (fun w H => (Ex.move rfl)) rfl ?_
      refine OQ.ex rfl (fun w H => (by first | exact Ex.idxIn Try.runUnderlying22 Try.sizeOf47 rfl rfl | exact Ex.idxN Try.runUnderlying22 Try.sizeOf47 rfl rfl | exact Ex.idxSN Try.runUnderlying22 Try.sizeOf47 rfl rfl | exact Ex.idx Try.runUnderlying22 Try.sizeOf47 rfl rfl (by omega) (by omega))) rfl ?_
      refine OQ.ex rfl (fun w H => (by first | exact Ex.loadRArc Try.isAgg47 Try.sizeOf47 rfl | exact Ex.loadAggP Try.isAgg47 Try.sizeOf47 rfl | exact Ex.loadAggN Try.isAgg47 Try.sizeOf47 rfl | exact Ex.loadIn Try.isAgg47 Try.sizeOf47 rfl (Holds.to (by assumption)))) rfl ?_
      refine OQ.ex rfl (fun w H => (Ex.move rfl)) rfl ?_
      refine OQ.ex rfl (fun w H => (Ex.move rfl)) rfl ?_
      refine OQ.ex rfl (fun w H => (Ex.move rfl)) rfl ?_
      refine OQ.ex rfl (fun w H => (by first | exact Ex.idxIn Try.runUnderlying22 Try.sizeOf47 rfl rfl | exact Ex.idxN Try.runUnderlying22 Try.sizeOf47 rfl rfl | exact Ex.idxSN Try.runUnderlying22 Try.sizeOf47 rfl rfl | exact Ex.idx Try.runUnderlying22 Try.sizeOf47 rfl rfl (by omega) (by omega))) rfl ?_
      refine OQ.ex rfl (fun w H => (by first | exact Ex.loadRArc Try.isAgg47 Try.sizeOf47 rfl | exact Ex.loadAggP Try.isAgg47 Try.sizeOf47 rfl | exact Ex.loadAggN Try.isAgg47 Try.sizeOf47 rfl | exact Ex.loadIn Try.isAgg47 Try.sizeOf47 rfl (Holds.to (by assumption)))) rfl ?_
      refine OQ.step rfl ?_
      refine O.callF Try.call28 rfl rfl (CT.mono (do_ct (g := c) (c := m.getD i default) hgc (Holds.to (by assumption))) ?_)
      rintro _ w ⟨rfl, H⟩
      refine O.thenNil ⟨(by first | exact Holds.to (by assumption) | assumption), ?_⟩
      refine OQ.step rfl ?_
      refine O.callF Try.call29 rfl rfl (CT.mono (doRef_ct (r := r) (c := m.getD i default) (Holds.to (by assumption))) ?_)
      rintro _ w ⟨rfl, H⟩
      rw [e1] at H
      refine O.thenNil ⟨(by first | exact Holds.to (by assumption) | assumption), ?_⟩
      refine OQ.ex rfl (fun w H => (Ex.neqI rfl rfl)) rfl ?_
      refine OQ.done ?_
      refine hK14 _ _ _ ?_
      refine W.known_f rfl (by first | exact decide_eq_true rfl | rfl | decide | exact decide_eq_false (fun hh => hh rfl) | exact decide_eq_true len_none | exact decide_eq_true (congrArg Int.ofNat ids_none) | exact decide_eq_true (one_in n1)) ?_
      refine W.skip ?_
      refine hK13 _ _ _ ?_
      refine W.region ?_
      refine O.ex (Ex.move rfl) rfl ?_
      refine O.ex (by first | exact Ex.addI rfl rfl | exact Ex.add rfl rfl rfl) rfl ?_
      refine O.ex (Ex.assign rfl) rfl ?_
      refine O.nil ?_
      exact ⟨i + 1, ⟨rfl, rfl, rfl, rfl, rfl, rfl, trivial⟩, ⟨rfl, by omega, by omega, Holds.to (by assumption)⟩, by omega⟩
    · refine W.exit ?_
      refine hK9 _ _ _ ?_
      refine W.seq (fun K15 hK15 => ?_)
      refine W.region ?_
      refine O.ex (Ex.move rfl) rfl ?_
      refine O.callF Try.call36 rfl rfl (CT.mono (gcopy_ct (g := c) hgc (Holds.to (by assumption))) ?_)
      rintro _ w ⟨d, rfl, H⟩
      refine O.ex (Ex.assign rfl) rfl ?_
      refine O.nil ?_
      refine hK15 _ _ _ ?_
      refine W.seq (fun K16 hK16 => ?_)
      refine W.seq (fun K17 hK17 => ?_)
      refine W.region ?_
      refine O.ex (Ex.assign rfl) rfl ?_
      refine O.nil ?_
      refine hK17 _ _ _ ?_
      refine W.block ?_
      obtain ⟨s1, hs1⟩ : ∃ s1, s1 = doAll n 64 s (m.take i) := ⟨_, rfl⟩
      rw [← hs1] at hgc H
      refine W.loop (σ := Nat) (fun i => [(1, lv), (7, .pointer (some ⟨g, 0, none⟩)), (8, .pointer (some ⟨r, 0, none⟩)), (9, .pointer (some ⟨c, 0, none⟩)), (11, .pointer (some ⟨d, 0, none⟩)), (12, .int .i64 (i : Int))]) (fun i ds w => ds = [] ∧ i ≤ l.length ∧ i ≤ 150 ∧ Holds w (Gh g n 64 (delAll s (l.take i)) :: Gh d n 64 s1 :: Gh c n 64 s1 :: Rg r n 64 s1 :: base w0 :: [])) (fun i => l.length - i) 0 ⟨rfl, rfl, rfl, rfl, rfl, rfl, trivial⟩ ⟨rfl, by omega, by omega, Holds.to (by assumption)⟩ ?_
      clear H
      rintro j _ w ⟨rfl, hj, hj4, H⟩
      have hgd := ok_delAll (l.take j) s hg
      refine W.seq (fun K18 hK18 => ?_)
      refine W.seq (fun K19 hK19 => ?_)
      refine W.region ?_
      refine O.ex (Ex.move rfl) rfl ?_
      refine O.ex (Ex.move rfl) rfl ?_
      refine O.ex (by first | exact Ex.lenN Try.runUnderlying22 rfl | exact Ex.lenIn Try.runUnderlying22 rfl | exact Ex.lenL Try.runUnderlying22 rfl | exact Ex.len rfl Try.runUnderlying22 rfl) rfl ?_
      refine O.ex (Ex.lss rfl rfl) rfl ?_
      refine O.ex (Ex.move rfl) rfl ?_
      first | refine O.split_p (t := 62) rfl (fun k1 => ?_) (fun k1 => ?_) | refine O.split (t := 62) rfl (fun k1 => ?_) (fun k1 => ?_)
      · refine O.guard_t rfl rfl ?_
        refine O.ex (Ex.move rfl) rfl ?_
        refine O.guard_t rfl rfl ?_
        refine O.ex (Ex.lss rfl rfl) rfl ?_
        refine O.ex (Ex.pick_t rfl rfl) rfl ?_
        refine O.nil ?_
        refine hK19 _ _ _ ?_
        first | refine W.cond_p rfl (fun klt => ?_) (fun kge => ?_) | refine W.cond_b rfl (fun klt => ?_) (fun kge => ?_)
        · refine W.skip ?_
          refine hK18 _ _ _ ?_
          refine W.seq (fun K20 hK20 => ?_)
          refine W.block ?_
          refine W.region ?_
          have hj0 : (0 : Int) ≤ (j : Int) := by omega
          have hj1 : (j : Int) < l.length := k1
          have hjl : j < l.length := by omega
          have e2 : doS n 64 (delAll s (l.take j)) ⟨1, (l.getD j default).f_ID, 0, 0, 0, false⟩ = delAll s (l.take (j + 1)) := by rw [take_getCh l hjl, delAll_snoc]; rfl
          refine O.ex (Ex.move rfl) rfl ?_
          refine O.ex (Ex.move rfl) rfl ?_
          refine O.ex (Ex.move rfl) rfl ?_
          refine O.ex (by first | exact Ex.idxIn Try.runUnderlying22 Try.sizeOf47 rfl rfl | exact Ex.idxN Try.runUnderlying22 Try.sizeOf47 rfl rfl | exact Ex.idxSN Try.runUnderlying22 Try.sizeOf47 rfl rfl | exact Ex.idx Try.runUnderlying22 Try.sizeOf47 rfl rfl (by omega) (by omega)) rfl ?_
          refine O.ex (by first | exact Ex.field0 fld47_1 rfl | exact Ex.field fld47_1 rfl | exact Ex.fieldS fld47_1 rfl | exact Ex.fieldIn fld47_1 rfl) rfl ?_
          refine O.ex (Ex.loadInF Try.isAgg3 rfl (Holds.to (by assumption))) rfl ?_
          refine O.ex (Ex.build rfl (bld47_0_1 _ _ (by first | rfl | assumption) (by first | rfl | assumption))) rfl ?_
          refine O.callF Try.call28 rfl rfl (CT.mono (do_ct (g := g) (c := ⟨1, (l.getD j default).f_ID, 0, 0, 0, false⟩) hgd (Holds.to (by assumption))) ?_)
          rintro _ w ⟨-, H⟩
          rw [e2] at H
          refine O.nil ?_
          refine hK20 _ _ _ ?_
          refine W.region ?_
          refine O.ex (Ex.move rfl) rfl ?_
          refine O.ex (by first | exact Ex.addI rfl rfl | exact Ex.add rfl rfl rfl) rfl ?_
          refine O.ex (Ex.assign rfl) rfl ?_
          refine O.nil ?_
          exact ⟨j + 1, ⟨rfl, rfl, rfl, rfl, rfl, rfl, trivial⟩, ⟨rfl, by omega, by omega, Holds.to (by assumption)⟩, by omega⟩
        · refine W.exit ?_
          refine hK16 _ _ _ ?_
          refine W.seq (fun K21 hK21 => ?_)
          refine W.region ?_
          have e : l.take 150 = l.take j := by
            by_cases h : j = l.length
            · rw [h, List.take_length, List.take_of_length_le (by omega)]
            · rw [show j = 150 by omega]
          rw [hs, e, gone_all n1 n2] at H
          have g0 : GOk n 64 noS := ok_none n1 n2 (by omega) (by omega)
          refine O.ex (Ex.move rfl) rfl ?_
          refine O.ex (Ex.nilNe Try.runUnderlying24 rfl rfl) rfl ?_
          refine O.ex (Ex.move rfl) rfl ?_
          refine O.known (t := 78) (c := true) rfl (by first | exact decide_eq_true rfl | rfl | decide | exact decide_eq_false (fun hh => hh rfl) | exact decide_eq_true len_none | exact decide_eq_true (congrArg Int.ofNat ids_none) | exact decide_eq_true (one_in n1)) ?_
          refine O.guard_t rfl rfl ?_
          refine O.ex (Ex.move rfl) rfl ?_
          refine O.guard_t rfl rfl ?_
          refine O.ex (Ex.move rfl) rfl ?_
          refine O.guard_t rfl rfl ?_
          refine O.callF Try.call30 rfl rfl (CT.mono (same08_ct (g := c) (r := r) hgc (Holds.to (by assumption))) ?_)
          rintro _ w ⟨rfl, H⟩
          refine O.ex (Ex.pick_t rfl rfl) rfl ?_
          refine O.ex (Ex.move rfl) rfl ?_
          refine O.known (t := 83) (c := true) rfl (by first | exact decide_eq_true rfl | rfl | decide | exact decide_eq_false (fun hh => hh rfl) | exact decide_eq_true len_none | exact decide_eq_true (congrArg Int.ofNat ids_none) | exact decide_eq_true (one_in n1)) ?_
          refine O.guard_t rfl rfl ?_
          refine O.ex (Ex.move rfl) rfl ?_
          refine O.guard_t rfl rfl ?_
          refine O.ex (Ex.move rfl) rfl ?_
          refine O.guard_t rfl rfl ?_
          refine O.callF Try.call30 rfl rfl (CT.mono (same08_ct (g := d) (r := r) hgc (Holds.to (by assumption))) ?_)
          rintro _ w ⟨rfl, H⟩
          refine O.ex (Ex.pick_t rfl rfl) rfl ?_
          refine O.ex (Ex.move rfl) rfl ?_
          refine O.known (t := 88) (c := true) rfl (by first | exact decide_eq_true rfl | rfl | decide | exact decide_eq_false (fun hh => hh rfl) | exact decide_eq_true len_none | exact decide_eq_true (congrArg Int.ofNat ids_none) | exact decide_eq_true (one_in n1)) ?_
          refine O.guard_t rfl rfl ?_
          refine O.ex (Ex.move rfl) rfl ?_
          refine O.guard_t rfl rfl ?_
          refine O.callF Try.call37 rfl rfl (CT.mono (glen_ct (g := g) (Holds.to (by assumption))) ?_)
          rintro _ w ⟨rfl, H⟩
          refine O.guard_t rfl rfl ?_
          refine O.ex (Ex.eqlI rfl rfl) rfl ?_
          refine O.ex (Ex.pick_t rfl rfl) rfl ?_
          refine O.ex (Ex.move rfl) rfl ?_
          refine O.known (t := 93) (c := true) rfl (by first | exact decide_eq_true rfl | rfl | decide | exact decide_eq_false (fun hh => hh rfl) | exact decide_eq_true len_none | exact decide_eq_true (congrArg Int.ofNat ids_none) | exact decide_eq_true (one_in n1)) ?_
          refine O.guard_t rfl rfl ?_
          refine O.ex (Ex.move rfl) rfl ?_
          refine O.guard_t rfl rfl ?_
          refine O.callF Try.call38 rfl rfl (CT.mono (gids_ct (g := g) (Holds.to (by assumption))) ?_)
          rintro _ w ⟨hu1, H⟩
          refine O.guard_t rfl rfl ?_
          refine O.ex (by first | exact Ex.lenR Try.runUnderlying37 rfl | exact Ex.lenIn Try.runUnderlying37 rfl | exact Ex.lenL Try.runUnderlying37 rfl | exact Ex.len rfl Try.runUnderlying37 rfl) rfl ?_
          refine O.guard_t rfl rfl ?_
          refine O.ex (Ex.eqlI rfl rfl) rfl ?_
          refine O.ex (Ex.pick_t rfl rfl) rfl ?_
          refine O.ex (Ex.move rfl) rfl ?_
          refine O.known (t := 99) (c := true) rfl (by first | exact decide_eq_true rfl | rfl | decide | exact decide_eq_false (fun hh => hh rfl) | exact decide_eq_true len_none | exact decide_eq_true (congrArg Int.ofNat ids_none) | exact decide_eq_true (one_in n1)) ?_
          refine O.guard_t rfl rfl ?_
          refine O.ex (Ex.move rfl) rfl ?_
          refine O.guard_t rfl rfl ?_
          refine O.ex (Ex.build rfl (bld31_2 _ (by first | rfl | assumption))) rfl ?_
          refine O.guard_t rfl rfl ?_
          refine O.callF Try.call32 rfl rfl (CT.mono (ginsert_ct (g := g) (a := oneA) g0 (Holds.to (by assumption))) ?_)
          rintro _ w ⟨rfl, H⟩
          refine O.guard_t rfl rfl ?_
          refine O.ex (Ex.eqlI rfl rfl) rfl ?_
          refine O.ex (Ex.pick_t rfl rfl) rfl ?_
          refine O.ex (Ex.move rfl) rfl ?_
          refine O.known (t := 105) (c := true) rfl (by first | exact decide_eq_true rfl | rfl | decide | exact decide_eq_false (fun hh => hh rfl) | exact decide_eq_true len_none | exact decide_eq_true (congrArg Int.ofNat ids_none) | exact decide_eq_true (one_in n1)) ?_
          refine O.guard_t rfl rfl ?_
          refine O.ex (Ex.move rfl) rfl ?_
          refine O.guard_t rfl rfl ?_
          refine O.ex (Ex.move rfl) rfl ?_
          refine O.guard_t rfl rfl ?_
          refine O.callF Try.call30 rfl rfl (CT.mono (same08_ct (g := c) (r := r) hgc (Holds.to (by assumption))) ?_)
          rintro _ w ⟨rfl, H⟩
          refine O.ex (Ex.pick_t rfl rfl) rfl ?_
          refine O.ex (Ex.assign rfl) rfl ?_
          refine O.nil ?_
          refine hK21 _ _ _ ?_
          refine W.ret ?_
          try dsimp only [thenQ, blockQ, retQ]
          first | refine ⟨_, ⟨_, _, rfl, rfl, rfl⟩, ?_⟩ | (refine retD_mark ?_; intro w H; refine ⟨_, ⟨_, _, rfl, rfl, rfl⟩, ?_⟩) | (refine retD_mark2 ?_; intro w H; refine ⟨_, ⟨_, _, rfl, rfl, rfl⟩, ?_⟩)
          exact ⟨rfl, Holds.base_below (L := []) (Holds.to (by assumption))⟩
      · refine O.guard_f rfl rfl rfl rfl ?_
        refine O.guard_f rfl rfl rfl rfl ?_
        refine O.ex (Ex.pick_f rfl rfl) rfl ?_
        refine O.nil ?_
        refine hK19 _ _ _ ?_
        refine W.cond_f rfl ?_
        refine W.exit ?_
        refine hK16 _ _ _ ?_
        refine W.seq (fun K22 hK22 => ?_)
        refine W.region ?_
        have e : l.take 150 = l.take j := by
          by_cases h : j = l.length
          · rw [h, List.take_length, List.take_of_length_le (by omega)]
          · rw [show j = 150 by omega]
        rw [hs, e, gone_all n1 n2] at H
        have g0 : GOk n 64 noS := ok_none n1 n2 (by omega) (by omega)
        refine O.ex (Ex.move rfl) rfl ?_
        refine O.ex (Ex.nilNe Try.runUnderlying24 rfl rfl) rfl ?_
        refine O.ex (Ex.move rfl) rfl ?_
        refine O.known (t := 78) (c := true) rfl (by first | exact decide_eq_true rfl | rfl | decide | exact decide_eq_false (fun hh => hh rfl) | exact decide_eq_true len_none | exact decide_eq_true (congrArg Int.ofNat ids_none) | exact decide_eq_true (one_in n1)) ?_
        refine O.guard_t rfl rfl ?_
        refine O.ex (Ex.move rfl) rfl ?_
        refine O.guard_t rfl rfl ?_
        refine O.ex (Ex.move rfl) rfl ?_
        refine O.guard_t rfl rfl ?_
        refine O.callF Try.call30 rfl rfl (CT.mono (same08_ct (g := c) (r := r) hgc (Holds.to (by assumption))) ?_)
        rintro _ w ⟨rfl, H⟩
        refine O.ex (Ex.pick_t rfl rfl) rfl ?_
        refine O.ex (Ex.move rfl) rfl ?_
        refine O.known (t := 83) (c := true) rfl (by first | exact decide_eq_true rfl | rfl | decide | exact decide_eq_false (fun hh => hh rfl) | exact decide_eq_true len_none | exact decide_eq_true (congrArg Int.ofNat ids_none) | exact decide_eq_true (one_in n1)) ?_
        refine O.guard_t rfl rfl ?_
        refine O.ex (Ex.move rfl) rfl ?_
        refine O.guard_t rfl rfl ?_
        refine O.ex (Ex.move rfl) rfl ?_
        refine O.guard_t rfl rfl ?_
        refine O.callF Try.call30 rfl rfl (CT.mono (same08_ct (g := d) (r := r) hgc (Holds.to (by assumption))) ?_)
        rintro _ w ⟨rfl, H⟩
        refine O.ex (Ex.pick_t rfl rfl) rfl ?_
        refine O.ex (Ex.move rfl) rfl ?_
        refine O.known (t := 88) (c := true) rfl (by first | exact decide_eq_true rfl | rfl | decide | exact decide_eq_false (fun hh => hh rfl) | exact decide_eq_true len_none | exact decide_eq_true (congrArg Int.ofNat ids_none) | exact decide_eq_true (one_in n1)) ?_
        refine O.guard_t rfl rfl ?_
        refine O.ex (Ex.move rfl) rfl ?_
        refine O.guard_t rfl rfl ?_
        refine O.callF Try.call37 rfl rfl (CT.mono (glen_ct (g := g) (Holds.to (by assumption))) ?_)
        rintro _ w ⟨rfl, H⟩
        refine O.guard_t rfl rfl ?_
        refine O.ex (Ex.eqlI rfl rfl) rfl ?_
        refine O.ex (Ex.pick_t rfl rfl) rfl ?_
        refine O.ex (Ex.move rfl) rfl ?_
        refine O.known (t := 93) (c := true) rfl (by first | exact decide_eq_true rfl | rfl | decide | exact decide_eq_false (fun hh => hh rfl) | exact decide_eq_true len_none | exact decide_eq_true (congrArg Int.ofNat ids_none) | exact decide_eq_true (one_in n1)) ?_
        refine O.guard_t rfl rfl ?_
        refine O.ex (Ex.move rfl) rfl ?_
        refine O.guard_t rfl rfl ?_
        refine O.callF Try.call38 rfl rfl (CT.mono (gids_ct (g := g) (Holds.to (by assumption))) ?_)
        rintro _ w ⟨hu1, H⟩
        refine O.guard_t rfl rfl ?_
        refine O.ex (by first | exact Ex.lenR Try.runUnderlying37 rfl | exact Ex.lenIn Try.runUnderlying37 rfl | exact Ex.lenL Try.runUnderlying37 rfl | exact Ex.len rfl Try.runUnderlying37 rfl) rfl ?_
        refine O.guard_t rfl rfl ?_
        refine O.ex (Ex.eqlI rfl rfl) rfl ?_
        refine O.ex (Ex.pick_t rfl rfl) rfl ?_
        refine O.ex (Ex.move rfl) rfl ?_
        refine O.known (t := 99) (c := true) rfl (by first | exact decide_eq_true rfl | rfl | decide | exact decide_eq_false (fun hh => hh rfl) | exact decide_eq_true len_none | exact decide_eq_true (congrArg Int.ofNat ids_none) | exact decide_eq_true (one_in n1)) ?_
        refine O.guard_t rfl rfl ?_
        refine O.ex (Ex.move rfl) rfl ?_
        refine O.guard_t rfl rfl ?_
        refine O.ex (Ex.build rfl (bld31_2 _ (by first | rfl | assumption))) rfl ?_
        refine O.guard_t rfl rfl ?_
        refine O.callF Try.call32 rfl rfl (CT.mono (ginsert_ct (g := g) (a := oneA) g0 (Holds.to (by assumption))) ?_)
        rintro _ w ⟨rfl, H⟩
        refine O.guard_t rfl rfl ?_
        refine O.ex (Ex.eqlI rfl rfl) rfl ?_
        refine O.ex (Ex.pick_t rfl rfl) rfl ?_
        refine O.ex (Ex.move rfl) rfl ?_
        refine O.known (t := 105) (c := true) rfl (by first | exact decide_eq_true rfl | rfl | decide | exact decide_eq_false (fun hh => hh rfl) | exact decide_eq_true len_none | exact decide_eq_true (congrArg Int.ofNat ids_none) | exact decide_eq_true (one_in n1)) ?_
        refine O.guard_t rfl rfl ?_
        refine O.ex (Ex.move rfl) rfl ?_
        refine O.guard_t rfl rfl ?_
        refine O.ex (Ex.move rfl) rfl ?_
        refine O.guard_t rfl rfl ?_
        refine O.callF Try.call30 rfl rfl (CT.mono (same08_ct (g := c) (r := r) hgc (Holds.to (by assumption))) ?_)
        rintro _ w ⟨rfl, H⟩
        refine O.ex (Ex.pick_t rfl rfl) rfl ?_
        refine O.ex (Ex.assign rfl) rfl ?_
        refine O.nil ?_
        refine hK22 _ _ _ ?_
        refine W.ret ?_
        try dsimp only [thenQ, blockQ, retQ]
        first | refine ⟨_, ⟨_, _, rfl, rfl, rfl⟩, ?_⟩ | (refine retD_mark ?_; intro w H; refine ⟨_, ⟨_, _, rfl, rfl, rfl⟩, ?_⟩) | (refine retD_mark2 ?_; intro w H; refine ⟨_, ⟨_, _, rfl, rfl, rfl⟩, ?_⟩)
        exact ⟨rfl, Holds.base_below (L := []) (Holds.to (by assumption))⟩
  · refine O.guard_f rfl rfl rfl rfl ?_
    refine O.guard_f rfl rfl rfl rfl ?_
    refine O.ex (Ex.pick_f rfl rfl) rfl ?_
    refine O.nil ?_
    refine hK12 _ _ _ ?_
    refine W.cond_f rfl ?_
    refine W.exit ?_
    refine hK9 _ _ _ ?_
    refine W.seq (fun K23 hK23 => ?_)
    refine W.region ?_
    refine O.ex (Ex.move rfl) rfl ?_
    refine O.callF Try.call36 rfl rfl (CT.mono (gcopy_ct (g := c) hgc (Holds.to (by assumption))) ?_)
    rintro _ w ⟨d, rfl, H⟩
    refine O.ex (Ex.assign rfl) rfl ?_
    refine O.nil ?_
    refine hK23 _ _ _ ?_
    refine W.seq (fun K24 hK24 => ?_)
    refine W.seq (fun K25 hK25 => ?_)
    refine W.region ?_
    refine O.ex (Ex.assign rfl) rfl ?_
    refine O.nil ?_
    refine hK25 _ _ _ ?_
    refine W.block ?_
    obtain ⟨s1, hs1⟩ : ∃ s1, s1 = doAll n 64 s (m.take i) := ⟨_, rfl⟩
    rw [← hs1] at hgc H
    refine W.loop (σ := Nat) (fun i => [(1, lv), (7, .pointer (some ⟨g, 0, none⟩)), (8, .pointer (some ⟨r, 0, none⟩)), (9, .pointer (some ⟨c, 0, none⟩)), (11, .pointer (some ⟨d, 0, none⟩)), (12, .int .i64 (i : Int))]) (fun i ds w => ds = [] ∧ i ≤ l.length ∧ i ≤ 150 ∧ Holds w (Gh g n 64 (delAll s (l.take i)) :: Gh d n 64 s1 :: Gh c n 64 s1 :: Rg r n 64 s1 :: base w0 :: [])) (fun i => l.length - i) 0 ⟨rfl, rfl, rfl, rfl, rfl, rfl, trivial⟩ ⟨rfl, by omega, by omega, Holds.to (by assumption)⟩ ?_
    clear H
    rintro j _ w ⟨rfl, hj, hj4, H⟩
    have hgd := ok_delAll (l.take j) s hg
    refine W.seq (fun K26 hK26 => ?_)
    refine W.seq (fun K27 hK27 => ?_)
    refine W.region ?_
    refine O.ex (Ex.move rfl) rfl ?_
    refine O.ex (Ex.move rfl) rfl ?_
    refine O.ex (by first | exact Ex.lenN Try.runUnderlying22 rfl | exact Ex.lenIn Try.runUnderlying22 rfl | exact Ex.lenL Try.runUnderlying22 rfl | exact Ex.len rfl Try.runUnderlying22 rfl) rfl ?_
    refine O.ex (Ex.lss rfl rfl) rfl ?_
    refine O.ex (Ex.move rfl) rfl ?_
    first | refine O.split_p (t := 62) rfl (fun k1 => ?_) (fun k1 => ?_) | refine O.split (t := 62) rfl (fun k1 => ?_) (fun k1 => ?_)
    · refine O.guard_t rfl rfl ?_
      refine O.ex (Ex.move rfl) rfl ?_
      refine O.guard_t rfl rfl ?_
      refine O.ex (Ex.lss rfl rfl) rfl ?_
      refine O.ex (Ex.pick_t rfl rfl) rfl ?_
      refine O.nil ?_
      refine hK27 _ _ _ ?_
      first | refine W.cond_p rfl (fun klt => ?_) (fun kge => ?_) | refine W.cond_b rfl (fun klt => ?_) (fun kge => ?_)
      · refine W.skip ?_
        refine hK26 _ _ _ ?_
        refine W.seq (fun K28 hK28 => ?_)
        refine W.block ?_
        refine W.region ?_
        have hj0 : (0 : Int) ≤ (j : Int) := by omega
        have hj1 : (j : Int) < l.length := k1
        have hjl : j < l.length := by omega
        have e2 : doS n 64 (delAll s (l.take j)) ⟨1, (l.getD j default).f_ID, 0, 0, 0, false⟩ = delAll s (l.take (j + 1)) := by rw [take_getCh l hjl, delAll_snoc]; rfl
        refine O.ex (Ex.move rfl) rfl ?_
        refine O.ex (Ex.move rfl) rfl ?_
        refine O.ex (Ex.move rfl) rfl ?_
        refine O.ex (by first | exact Ex.idxIn Try.runUnderlying22 Try.sizeOf47 rfl rfl | exact Ex.idxN Try.runUnderlying22 Try.sizeOf47 rfl rfl | exact Ex.idxSN Try.runUnderlying22 Try.sizeOf47 rfl rfl | exact Ex.idx Try.runUnderlying22 Try.sizeOf47 rfl rfl (by omega) (by omega)) rfl ?_
        refine O.ex (by first | exact Ex.field0 fld47_1 rfl | exact Ex.field fld47_1 rfl | exact Ex.fieldS fld47_1 rfl | exact Ex.fieldIn fld47_1 rfl) rfl ?_
        refine O.ex (Ex.loadInF Try.isAgg3 rfl (Holds.to (by assumption))) rfl ?_
        refine O.ex (Ex.build rfl (bld47_0_1 _ _ (by first | rfl | assumption) (by first | rfl | assumption))) rfl ?_
        refine O.callF Try.call28 rfl rfl (CT.mono (do_ct (g := g) (c := ⟨1, (l.getD j default).f_ID, 0, 0, 0, false⟩) hgd (Holds.to (by assumption))) ?_)
        rintro _ w ⟨-, H⟩
        rw [e2] at H
        refine O.nil ?_
        refine hK28 _ _ _ ?_
        refine W.region ?_
        refine O.ex (Ex.move rfl) rfl ?_
        refine O.ex (by first | exact Ex.addI rfl rfl | exact Ex.add rfl rfl rfl) rfl ?_
        refine O.ex (Ex.assign rfl) rfl ?_
        refine O.nil ?_
        exact ⟨j + 1, ⟨rfl, rfl, rfl, rfl, rfl, rfl, trivial⟩, ⟨rfl, by omega, by omega, Holds.to (by assumption)⟩, by omega⟩
      · refine W.exit ?_
        refine hK24 _ _ _ ?_
        refine W.seq (fun K29 hK29 => ?_)
        refine W.region ?_
        have e : l.take 150 = l.take j := by
          by_cases h : j = l.length
          · rw [h, List.take_length, List.take_of_length_le (by omega)]
          · rw [show j = 150 by omega]
        rw [hs, e, gone_all n1 n2] at H
        have g0 : GOk n 64 noS := ok_none n1 n2 (by omega) (by omega)
        refine O.ex (Ex.move rfl) rfl ?_
        refine O.ex (Ex.nilNe Try.runUnderlying24 rfl rfl) rfl ?_
        refine O.ex (Ex.move rfl) rfl ?_
        refine O.known (t := 78) (c := true) rfl (by first | exact decide_eq_true rfl | rfl | decide | exact decide_eq_false (fun hh => hh rfl) | exact decide_eq_true len_none | exact decide_eq_true (congrArg Int.ofNat ids_none) | exact decide_eq_true (one_in n1)) ?_
        refine O.guard_t rfl rfl ?_
        refine O.ex (Ex.move rfl) rfl ?_
        refine O.guard_t rfl rfl ?_
        refine O.ex (Ex.move rfl) rfl ?_
        refine O.guard_t rfl rfl ?_
        refine O.callF Try.call30 rfl rfl (CT.mono (same08_ct (g := c) (r := r) hgc (Holds.to (by assumption))) ?_)
        rintro _ w ⟨rfl, H⟩
        refine O.ex (Ex.pick_t rfl rfl) rfl ?_
        refine O.ex (Ex.move rfl) rfl ?_
        refine O.known (t := 83) (c := true) rfl (by first | exact decide_eq_true rfl | rfl | decide | exact decide_eq_false (fun hh => hh rfl) | exact decide_eq_true len_none | exact decide_eq_true (congrArg Int.ofNat ids_none) | exact decide_eq_true (one_in n1)) ?_
        refine O.guard_t rfl rfl ?_
        refine O.ex (Ex.move rfl) rfl ?_
        refine O.guard_t rfl rfl ?_
        refine O.ex (Ex.move rfl) rfl ?_
        refine O.guard_t rfl rfl ?_
        refine O.callF Try.call30 rfl rfl (CT.mono (same08_ct (g := d) (r := r) hgc (Holds.to (by assumption))) ?_)
        rintro _ w ⟨rfl, H⟩
        refine O.ex (Ex.pick_t rfl rfl) rfl ?_
        refine O.ex (Ex.move rfl) rfl ?_
        refine O.known (t := 88) (c := true) rfl (by first | exact decide_eq_true rfl | rfl | decide | exact decide_eq_false (fun hh => hh rfl) | exact decide_eq_true len_none | exact decide_eq_true (congrArg Int.ofNat ids_none) | exact decide_eq_true (one_in n1)) ?_
        refine O.guard_t rfl rfl ?_
        refine O.ex (Ex.move rfl) rfl ?_
        refine O.guard_t rfl rfl ?_
        refine O.callF Try.call37 rfl rfl (CT.mono (glen_ct (g := g) (Holds.to (by assumption))) ?_)
        rintro _ w ⟨rfl, H⟩
        refine O.guard_t rfl rfl ?_
        refine O.ex (Ex.eqlI rfl rfl) rfl ?_
        refine O.ex (Ex.pick_t rfl rfl) rfl ?_
        refine O.ex (Ex.move rfl) rfl ?_
        refine O.known (t := 93) (c := true) rfl (by first | exact decide_eq_true rfl | rfl | decide | exact decide_eq_false (fun hh => hh rfl) | exact decide_eq_true len_none | exact decide_eq_true (congrArg Int.ofNat ids_none) | exact decide_eq_true (one_in n1)) ?_
        refine O.guard_t rfl rfl ?_
        refine O.ex (Ex.move rfl) rfl ?_
        refine O.guard_t rfl rfl ?_
        refine O.callF Try.call38 rfl rfl (CT.mono (gids_ct (g := g) (Holds.to (by assumption))) ?_)
        rintro _ w ⟨hu1, H⟩
        refine O.guard_t rfl rfl ?_
        refine O.ex (by first | exact Ex.lenR Try.runUnderlying37 rfl | exact Ex.lenIn Try.runUnderlying37 rfl | exact Ex.lenL Try.runUnderlying37 rfl | exact Ex.len rfl Try.runUnderlying37 rfl) rfl ?_
        refine O.guard_t rfl rfl ?_
        refine O.ex (Ex.eqlI rfl rfl) rfl ?_
        refine O.ex (Ex.pick_t rfl rfl) rfl ?_
        refine O.ex (Ex.move rfl) rfl ?_
        refine O.known (t := 99) (c := true) rfl (by first | exact decide_eq_true rfl | rfl | decide | exact decide_eq_false (fun hh => hh rfl) | exact decide_eq_true len_none | exact decide_eq_true (congrArg Int.ofNat ids_none) | exact decide_eq_true (one_in n1)) ?_
        refine O.guard_t rfl rfl ?_
        refine O.ex (Ex.move rfl) rfl ?_
        refine O.guard_t rfl rfl ?_
        refine O.ex (Ex.build rfl (bld31_2 _ (by first | rfl | assumption))) rfl ?_
        refine O.guard_t rfl rfl ?_
        refine O.callF Try.call32 rfl rfl (CT.mono (ginsert_ct (g := g) (a := oneA) g0 (Holds.to (by assumption))) ?_)
        rintro _ w ⟨rfl, H⟩
        refine O.guard_t rfl rfl ?_
        refine O.ex (Ex.eqlI rfl rfl) rfl ?_
        refine O.ex (Ex.pick_t rfl rfl) rfl ?_
        refine O.ex (Ex.move rfl) rfl ?_
        refine O.known (t := 105) (c := true) rfl (by first | exact decide_eq_true rfl | rfl | decide | exact decide_eq_false (fun hh => hh rfl) | exact decide_eq_true len_none | exact decide_eq_true (congrArg Int.ofNat ids_none) | exact decide_eq_true (one_in n1)) ?_
        refine O.guard_t rfl rfl ?_
        refine O.ex (Ex.move rfl) rfl ?_
        refine O.guard_t rfl rfl ?_
        refine O.ex (Ex.move rfl) rfl ?_
        refine O.guard_t rfl rfl ?_
        refine O.callF Try.call30 rfl rfl (CT.mono (same08_ct (g := c) (r := r) hgc (Holds.to (by assumption))) ?_)
        rintro _ w ⟨rfl, H⟩
        refine O.ex (Ex.pick_t rfl rfl) rfl ?_
        refine O.ex (Ex.assign rfl) rfl ?_
        refine O.nil ?_
        refine hK29 _ _ _ ?_
        refine W.ret ?_
        try dsimp only [thenQ, blockQ, retQ]
        first | refine ⟨_, ⟨_, _, rfl, rfl, rfl⟩, ?_⟩ | (refine retD_mark ?_; intro w H; refine ⟨_, ⟨_, _, rfl, rfl, rfl⟩, ?_⟩) | (refine retD_mark2 ?_; intro w H; refine ⟨_, ⟨_, _, rfl, rfl, rfl⟩, ?_⟩)
        exact ⟨rfl, Holds.base_below (L := []) (Holds.to (by assumption))⟩
    · refine O.guard_f rfl rfl rfl rfl ?_
      refine O.guard_f rfl rfl rfl rfl ?_
      refine O.ex (Ex.pick_f rfl rfl) rfl ?_
      refine O.nil ?_
      refine hK27 _ _ _ ?_
      refine W.cond_f rfl ?_
      refine W.exit ?_
      refine hK24 _ _ _ ?_
      refine W.seq (fun K30 hK30 => ?_)
      refine W.region ?_
      have e : l.take 150 = l.take j := by
        by_cases h : j = l.length
        · rw [h, List.take_length, List.take_of_length_le (by omega)]
        · rw [show j = 150 by omega]
      rw [hs, e, gone_all n1 n2] at H
      have g0 : GOk n 64 noS := ok_none n1 n2 (by omega) (by omega)
      refine O.ex (Ex.move rfl) rfl ?_
      refine O.ex (Ex.nilNe Try.runUnderlying24 rfl rfl) rfl ?_
      refine O.ex (Ex.move rfl) rfl ?_
      refine O.known (t := 78) (c := true) rfl (by first | exact decide_eq_true rfl | rfl | decide | exact decide_eq_false (fun hh => hh rfl) | exact decide_eq_true len_none | exact decide_eq_true (congrArg Int.ofNat ids_none) | exact decide_eq_true (one_in n1)) ?_
      refine O.guard_t rfl rfl ?_
      refine O.ex (Ex.move rfl) rfl ?_
      refine O.guard_t rfl rfl ?_
      refine O.ex (Ex.move rfl) rfl ?_
      refine O.guard_t rfl rfl ?_
      refine O.callF Try.call30 rfl rfl (CT.mono (same08_ct (g := c) (r := r) hgc (Holds.to (by assumption))) ?_)
      rintro _ w ⟨rfl, H⟩
      refine O.ex (Ex.pick_t rfl rfl) rfl ?_
      refine O.ex (Ex.move rfl) rfl ?_
      refine O.known (t := 83) (c := true) rfl (by first | exact decide_eq_true rfl | rfl | decide | exact decide_eq_false (fun hh => hh rfl) | exact decide_eq_true len_none | exact decide_eq_true (congrArg Int.ofNat ids_none) | exact decide_eq_true (one_in n1)) ?_
      refine O.guard_t rfl rfl ?_
      refine O.ex (Ex.move rfl) rfl ?_
      refine O.guard_t rfl rfl ?_
      refine O.ex (Ex.move rfl) rfl ?_
      refine O.guard_t rfl rfl ?_
      refine O.callF Try.call30 rfl rfl (CT.mono (same08_ct (g := d) (r := r) hgc (Holds.to (by assumption))) ?_)
      rintro _ w ⟨rfl, H⟩
      refine O.ex (Ex.pick_t rfl rfl) rfl ?_
      refine O.ex (Ex.move rfl) rfl ?_
      refine O.known (t := 88) (c := true) rfl (by first | exact decide_eq_true rfl | rfl | decide | exact decide_eq_false (fun hh => hh rfl) | exact decide_eq_true len_none | exact decide_eq_true (congrArg Int.ofNat ids_none) | exact decide_eq_true (one_in n1)) ?_
      refine O.guard_t rfl rfl ?_
      refine O.ex (Ex.move rfl) rfl ?_
      refine O.guard_t rfl rfl ?_
      refine O.callF Try.call37 rfl rfl (CT.mono (glen_ct (g := g) (Holds.to (by assumption))) ?_)
      rintro _ w ⟨rfl, H⟩
      refine O.guard_t rfl rfl ?_
      refine O.ex (Ex.eqlI rfl rfl) rfl ?_
      refine O.ex (Ex.pick_t rfl rfl) rfl ?_
      refine O.ex (Ex.move rfl) rfl ?_
      refine O.known (t := 93) (c := true) rfl (by first | exact decide_eq_true rfl | rfl | decide | exact decide_eq_false (fun hh => hh rfl) | exact decide_eq_true len_none | exact decide_eq_true (congrArg Int.ofNat ids_none) | exact decide_eq_true (one_in n1)) ?_
      refine O.guard_t rfl rfl ?_
      refine O.ex (Ex.move rfl) rfl ?_
      refine O.guard_t rfl rfl ?_
      refine O.callF Try.call38 rfl rfl (CT.mono (gids_ct (g := g) (Holds.to (by assumption))) ?_)
      rintro _ w ⟨hu1, H⟩
      refine O.guard_t rfl rfl ?_
      refine O.ex (by first | exact Ex.lenR Try.runUnderlying37 rfl | exact Ex.lenIn Try.runUnderlying37 rfl | exact Ex.lenL Try.runUnderlying37 rfl | exact Ex.len rfl Try.runUnderlying37 rfl) rfl ?_
      refine O.guard_t rfl rfl ?_
      refine O.ex (Ex.eqlI rfl rfl) rfl ?_
      refine O.ex (Ex.pick_t rfl rfl) rfl ?_
      refine O.ex (Ex.move rfl) rfl ?_
      refine O.known (t := 99) (c := true) rfl (by first | exact decide_eq_true rfl | rfl | decide | exact decide_eq_false (fun hh => hh rfl) | exact decide_eq_true len_none | exact decide_eq_true (congrArg Int.ofNat ids_none) | exact decide_eq_true (one_in n1)) ?_
      refine O.guard_t rfl rfl ?_
      refine O.ex (Ex.move rfl) rfl ?_
      refine O.guard_t rfl rfl ?_
      refine O.ex (Ex.build rfl (bld31_2 _ (by first | rfl | assumption))) rfl ?_
      refine O.guard_t rfl rfl ?_
      refine O.callF Try.call32 rfl rfl (CT.mono (ginsert_ct (g := g) (a := oneA) g0 (Holds.to (by assumption))) ?_)
      rintro _ w ⟨rfl, H⟩
      refine O.guard_t rfl rfl ?_
      refine O.ex (Ex.eqlI rfl rfl) rfl ?_
      refine O.ex (Ex.pick_t rfl rfl) rfl ?_
      refine O.ex (Ex.move rfl) rfl ?_
      refine O.known (t := 105) (c := true) rfl (by first | exact decide_eq_true rfl | rfl | decide | exact decide_eq_false (fun hh => hh rfl) | exact decide_eq_true len_none | exact decide_eq_true (congrArg Int.ofNat ids_none) | exact decide_eq_true (one_in n1)) ?_
      refine O.guard_t rfl rfl ?_
      refine O.ex (Ex.move rfl) rfl ?_
      refine O.guard_t rfl rfl ?_
      refine O.ex (Ex.move rfl) rfl ?_
      refine O.guard_t rfl rfl ?_
      refine O.callF Try.call30 rfl rfl (CT.mono (same08_ct (g := c) (r := r) hgc (Holds.to (by assumption))) ?_)
      rintro _ w ⟨rfl, H⟩
      refine O.ex (Ex.pick_t rfl rfl) rfl ?_
      refine O.ex (Ex.assign rfl) rfl ?_
      refine O.nil ?_
      refine hK30 _ _ _ ?_
      refine W.ret ?_
      try dsimp only [thenQ, blockQ, retQ]
      first | refine ⟨_, ⟨_, _, rfl, rfl, rfl⟩, ?_⟩ | (refine retD_mark ?_; intro w H; refine ⟨_, ⟨_, _, rfl, rfl, rfl⟩, ?_⟩) | (refine retD_mark2 ?_; intro w H; refine ⟨_, ⟨_, _, rfl, rfl, rfl⟩, ?_⟩)
      exact ⟨rfl, Holds.base_below (L := []) (Holds.to (by assumption))⟩
theorem graphCopies_row {w0 : World} {q : Int} {lv mv : Value} {l m : List Chg} (hq : (Lit.int .u8 q).wf = true) (hx : SlIn w0 6 Chg.enc lv l) (hg : ∀ x ∈ l, x.ok) (hl : l.length ≤ maxLen) (hy : SlIn w0 6 Chg.enc mv m) (hg2 : ∀ x ∈ m, x.ok) (hm : m.length ≤ maxLen) :
    CT Try.prog 7 [.int .u8 q, lv, mv] w0 fun x w' => x = .bool true ∧ RowKit.Below w0.heap.size w0 w' :=
  graphCopies_ct hq hx (by unfold maxLen at hl; omega) hy (by unfold maxLen at hm; omega)
end Go.Proofs.Ytakmbbgnnbpkoaa
