import Derived.Test.YtliofdfhimmjmaaGraph
--LOADS loadG1 loadG2 loadAt loadCn loadMo loadE0 loadE1
--AGGLOADS loadArc
namespace Go.Proofs.Ytliofdfhimmjmaa
open Go.Rr Go Gr
set_option linter.unusedVariables false
theorem gzero : Try.zeroCells93 = cs 323 (gf noS (.slice none 0 0) 0 0) := by kernel_rfl
theorem gZ : ZeroIs Try.prog 93 (cval 323 (gf noS (.slice none 0 0) 0 0)) := fun w => (Try.zeroValue93 w).trans (by rw [gzero]; rfl)
theorem atc_new {w : World} {ab n : Nat} {rest : List Value} {L : List HProp} (H : Holds w (pt ab (.cells ((List.replicate n ((Value.slice none 0 0, Value.slice none 0 0) : Value × Value)).flatMap (fun p => [p.1, p.2]) ++ rest).toArray 96 (0, 0)) :: L)) :
    Holds w (atc ab n (fun _ => (.slice none 0 0, .slice none 0 0)) :: L) := by
  have hl : ∀ n : Nat, ((List.replicate n ((Value.slice none 0 0, Value.slice none 0 0) : Value × Value)).flatMap (fun p => [p.1, p.2])) = List.replicate (2 * n) (Value.slice none 0 0) := by
    intro n
    induction n with
    | zero => rfl
    | succ n ih => rw [List.replicate_succ, List.flatMap_cons, ih, show 2 * (n + 1) = 2 * n + 1 + 1 by omega, List.replicate_succ, List.replicate_succ]; rfl
  rw [hl] at H
  refine atc_open.2 ⟨2 * n + rest.length, fun q => (List.replicate (2 * n) (Value.slice none 0 0) ++ rest).getD q default, ⟨by omega, fun i hi => ?_⟩, cel_pt.2 ?_⟩
  · constructor <;> (dsimp only; rw [List.getD_eq_getElem?_getD, List.getElem?_append_left (by simp; omega), List.getElem?_replicate, if_pos (by omega)]; rfl)
  · rw [← cs_ext (c := (List.replicate (2 * n) (Value.slice none 0 0) ++ rest).toArray) (by simp) (fun i hi => by
      rw [List.getElem?_toArray, List.getD_eq_getElem?_getD, List.getElem?_eq_getElem (by simp; omega)]; rfl)]
    exact H
theorem big_new {w : World} {n : Nat} {L : List HProp} (H : Holds w L) : Holds w (big (endF (fun _ => (.slice none 0 0, .slice none 0 0)) noS noS) (List.range n) :: L) := by
  induction n with
  | zero => exact big_nil.2 H
  | succ n ih =>
    refine big_succ (endF_open.2 ?_)
    have e1 : outI noS (n : Int) = [] := rfl
    have e2 : inI noS (n : Int) = [] := rfl
    rw [e1, e2]
    exact arr_nil (arr_nil ih)
set_option maxHeartbeats 1000000 in
theorem gnew_ct {w : World} {n most : Int} {L : List HProp} (H : Holds w L) :
    CT Try.prog 34 [.int .i64 n, .int .i64 most] w fun u w' => (¬ ((1 ≤ n ∧ n ≤ 24) ∧ (1 ≤ most ∧ most ≤ 64)) ∧ u = .tuple #[.pointer none, .int .i64 1] ∧ Holds w' L) ∨ (((1 ≤ n ∧ n ≤ 24) ∧ (1 ≤ most ∧ most ≤ 64)) ∧ ∃ g, u = .tuple #[.pointer (some ⟨g, 0, none⟩), .int .i64 0] ∧ Holds w' (Gh g n most noS :: L)) := by
  refine CT.enter (N := 25) Try.func34 rfl rfl rfl rfl ?_
  refine W.seq (fun K0 hK0 => ?_)
  refine W.region ?_
  refine O.ex (Ex.assign rfl) rfl ?_
  refine O.ex (Ex.assign rfl) rfl ?_
  refine O.nil ?_
  refine hK0 _ _ _ ?_
  refine W.seq (fun K1 hK1 => ?_)
  refine W.seq (fun K2 hK2 => ?_)
  refine W.region ?_
  refine O.ex (Ex.move rfl) rfl ?_
  refine O.ex (Ex.lss rfl rfl) rfl ?_
  refine O.ex (Ex.move rfl) rfl ?_
  first | refine O.split_p (t := 8) rfl (fun h0 => ?_) (fun h0 => ?_) | refine O.split (t := 8) rfl (fun h0 => ?_) (fun h0 => ?_)
  · refine O.guard_f rfl rfl rfl rfl ?_
    refine O.guard_f rfl rfl rfl rfl ?_
    refine O.ex (Ex.pick_t rfl rfl) rfl ?_
    refine O.ex (Ex.move rfl) rfl ?_
    refine O.guard_f rfl rfl rfl rfl ?_
    refine O.guard_f rfl rfl rfl rfl ?_
    refine O.ex (Ex.pick_t rfl rfl) rfl ?_
    refine O.ex (Ex.move rfl) rfl ?_
    refine O.guard_f rfl rfl rfl rfl ?_
    refine O.guard_f rfl rfl rfl rfl ?_
    refine O.ex (Ex.pick_t rfl rfl) rfl ?_
    refine O.nil ?_
    refine hK2 _ _ _ ?_
    refine W.cond_t rfl ?_
    refine W.seq (fun K3 hK3 => ?_)
    refine W.region ?_
    refine O.ex (Ex.assign rfl) rfl ?_
    refine O.ex (Ex.assign rfl) rfl ?_
    refine O.nil ?_
    refine hK3 _ _ _ ?_
    refine W.ret ?_
    try dsimp only [thenQ, blockQ, retQ]
    first | refine ⟨_, ⟨_, _, rfl, rfl, _, _, rfl, rfl, rfl⟩, ?_⟩ | (refine retD_mark ?_; intro w H; refine ⟨_, ⟨_, _, rfl, rfl, _, _, rfl, rfl, rfl⟩, ?_⟩) | (refine retD_mark2 ?_; intro w H; refine ⟨_, ⟨_, _, rfl, rfl, _, _, rfl, rfl, rfl⟩, ?_⟩)
    first
    | exact .inl ⟨fun h => by omega, rfl, Holds.to (by assumption)⟩
    | (refine .inr ⟨by omega, b24, rfl, gh_open.2 ⟨ab, cap, fun _ => (.slice none 0 0, .slice none 0 0), ghO_open.2 ?_⟩⟩
       have H : Holds w (gcel b24 noS (avV ab cap n) 0 most :: atc ab n.toNat (fun _ => (.slice none 0 0, .slice none 0 0)) :: L) := H.celTo (fun q hq => by
         unfold gf
         by_cases e1 : q = 322
         · subst e1; rfl
         · rw [if_neg e1]
           by_cases e2 : q = 320
           · subst e2; rfl
           · rw [if_neg e2]
             by_cases e3 : q < 320
             · rw [if_pos e3, if_pos e3]
             · rw [if_neg e3, if_neg e3, if_neg e2, if_neg e2, if_pos (by omega), if_pos (by omega)])
       exact Holds.to (big_new H))
  · refine O.guard_t rfl rfl ?_
    refine O.ex (Ex.move rfl) rfl ?_
    refine O.guard_t rfl rfl ?_
    refine O.ex (Ex.gtr rfl rfl) rfl ?_
    refine O.ex (Ex.pick_f rfl rfl) rfl ?_
    refine O.ex (Ex.move rfl) rfl ?_
    first | refine O.split_p (t := 12) rfl (fun h1 => ?_) (fun h1 => ?_) | refine O.split (t := 12) rfl (fun h1 => ?_) (fun h1 => ?_)
    · refine O.guard_f rfl rfl rfl rfl ?_
      refine O.guard_f rfl rfl rfl rfl ?_
      refine O.ex (Ex.pick_t rfl rfl) rfl ?_
      refine O.ex (Ex.move rfl) rfl ?_
      refine O.guard_f rfl rfl rfl rfl ?_
      refine O.guard_f rfl rfl rfl rfl ?_
      refine O.ex (Ex.pick_t rfl rfl) rfl ?_
      refine O.nil ?_
      refine hK2 _ _ _ ?_
      refine W.cond_t rfl ?_
      refine W.seq (fun K4 hK4 => ?_)
      refine W.region ?_
      refine O.ex (Ex.assign rfl) rfl ?_
      refine O.ex (Ex.assign rfl) rfl ?_
      refine O.nil ?_
      refine hK4 _ _ _ ?_
      refine W.ret ?_
      try dsimp only [thenQ, blockQ, retQ]
      first | refine ⟨_, ⟨_, _, rfl, rfl, _, _, rfl, rfl, rfl⟩, ?_⟩ | (refine retD_mark ?_; intro w H; refine ⟨_, ⟨_, _, rfl, rfl, _, _, rfl, rfl, rfl⟩, ?_⟩) | (refine retD_mark2 ?_; intro w H; refine ⟨_, ⟨_, _, rfl, rfl, _, _, rfl, rfl, rfl⟩, ?_⟩)
      first
      | exact .inl ⟨fun h => by omega, rfl, Holds.to (by assumption)⟩
      | (refine .inr ⟨by omega, b24, rfl, gh_open.2 ⟨ab, cap, fun _ => (.slice none 0 0, .slice none 0 0), ghO_open.2 ?_⟩⟩
         have H : Holds w (gcel b24 noS (avV ab cap n) 0 most :: atc ab n.toNat (fun _ => (.slice none 0 0, .slice none 0 0)) :: L) := H.celTo (fun q hq => by
           unfold gf
           by_cases e1 : q = 322
           · subst e1; rfl
           · rw [if_neg e1]
             by_cases e2 : q = 320
             · subst e2; rfl
             · rw [if_neg e2]
               by_cases e3 : q < 320
               · rw [if_pos e3, if_pos e3]
               · rw [if_neg e3, if_neg e3, if_neg e2, if_neg e2, if_pos (by omega), if_pos (by omega)])
         exact Holds.to (big_new H))
    · refine O.guard_t rfl rfl ?_
      refine O.ex (Ex.move rfl) rfl ?_
      refine O.guard_t rfl rfl ?_
      refine O.ex (Ex.lss rfl rfl) rfl ?_
      refine O.ex (Ex.pick_f rfl rfl) rfl ?_
      refine O.ex (Ex.move rfl) rfl ?_
      first | refine O.split_p (t := 16) rfl (fun h2 => ?_) (fun h2 => ?_) | refine O.split (t := 16) rfl (fun h2 => ?_) (fun h2 => ?_)
      · refine O.guard_f rfl rfl rfl rfl ?_
        refine O.guard_f rfl rfl rfl rfl ?_
        refine O.ex (Ex.pick_t rfl rfl) rfl ?_
        refine O.nil ?_
        refine hK2 _ _ _ ?_
        refine W.cond_t rfl ?_
        refine W.seq (fun K5 hK5 => ?_)
        refine W.region ?_
        refine O.ex (Ex.assign rfl) rfl ?_
        refine O.ex (Ex.assign rfl) rfl ?_
        refine O.nil ?_
        refine hK5 _ _ _ ?_
        refine W.ret ?_
        try dsimp only [thenQ, blockQ, retQ]
        first | refine ⟨_, ⟨_, _, rfl, rfl, _, _, rfl, rfl, rfl⟩, ?_⟩ | (refine retD_mark ?_; intro w H; refine ⟨_, ⟨_, _, rfl, rfl, _, _, rfl, rfl, rfl⟩, ?_⟩) | (refine retD_mark2 ?_; intro w H; refine ⟨_, ⟨_, _, rfl, rfl, _, _, rfl, rfl, rfl⟩, ?_⟩)
        first
        | exact .inl ⟨fun h => by omega, rfl, Holds.to (by assumption)⟩
        | (refine .inr ⟨by omega, b24, rfl, gh_open.2 ⟨ab, cap, fun _ => (.slice none 0 0, .slice none 0 0), ghO_open.2 ?_⟩⟩
           have H : Holds w (gcel b24 noS (avV ab cap n) 0 most :: atc ab n.toNat (fun _ => (.slice none 0 0, .slice none 0 0)) :: L) := H.celTo (fun q hq => by
             unfold gf
             by_cases e1 : q = 322
             · subst e1; rfl
             · rw [if_neg e1]
               by_cases e2 : q = 320
               · subst e2; rfl
               · rw [if_neg e2]
                 by_cases e3 : q < 320
                 · rw [if_pos e3, if_pos e3]
                 · rw [if_neg e3, if_neg e3, if_neg e2, if_neg e2, if_pos (by omega), if_pos (by omega)])
           exact Holds.to (big_new H))
      · refine O.guard_t rfl rfl ?_
        refine O.ex (Ex.move rfl) rfl ?_
        refine O.guard_t rfl rfl ?_
        refine O.ex (Ex.gtr rfl rfl) rfl ?_
        refine O.ex (Ex.pick_f rfl rfl) rfl ?_
        refine O.nil ?_
        refine hK2 _ _ _ ?_
        first | refine W.cond_p rfl (fun h3 => ?_) (fun h3 => ?_) | refine W.cond_b rfl (fun h3 => ?_) (fun h3 => ?_)
        · refine W.seq (fun K6 hK6 => ?_)
          refine W.region ?_
          refine O.ex (Ex.assign rfl) rfl ?_
          refine O.ex (Ex.assign rfl) rfl ?_
          refine O.nil ?_
          refine hK6 _ _ _ ?_
          refine W.ret ?_
          try dsimp only [thenQ, blockQ, retQ]
          first | refine ⟨_, ⟨_, _, rfl, rfl, _, _, rfl, rfl, rfl⟩, ?_⟩ | (refine retD_mark ?_; intro w H; refine ⟨_, ⟨_, _, rfl, rfl, _, _, rfl, rfl, rfl⟩, ?_⟩) | (refine retD_mark2 ?_; intro w H; refine ⟨_, ⟨_, _, rfl, rfl, _, _, rfl, rfl, rfl⟩, ?_⟩)
          first
          | exact .inl ⟨fun h => by omega, rfl, Holds.to (by assumption)⟩
          | (refine .inr ⟨by omega, b24, rfl, gh_open.2 ⟨ab, cap, fun _ => (.slice none 0 0, .slice none 0 0), ghO_open.2 ?_⟩⟩
             have H : Holds w (gcel b24 noS (avV ab cap n) 0 most :: atc ab n.toNat (fun _ => (.slice none 0 0, .slice none 0 0)) :: L) := H.celTo (fun q hq => by
               unfold gf
               by_cases e1 : q = 322
               · subst e1; rfl
               · rw [if_neg e1]
                 by_cases e2 : q = 320
                 · subst e2; rfl
                 · rw [if_neg e2]
                   by_cases e3 : q < 320
                   · rw [if_pos e3, if_pos e3]
                   · rw [if_neg e3, if_neg e3, if_neg e2, if_neg e2, if_pos (by omega), if_pos (by omega)])
             exact Holds.to (big_new H))
        · refine W.skip ?_
          refine hK1 _ _ _ ?_
          refine W.seq (fun K7 hK7 => ?_)
          refine W.region ?_
          refine O.ex (Ex.move rfl) rfl ?_
          refine O.makeN ((Value.slice none 0 0, Value.slice none 0 0) : Value × Value) (e := fun p => [p.1, p.2]) (bt := 48) Try.runUnderlying88 Try.sizeOf96 Try.zeroValue96 Try.typeInfo96 rfl rfl rfl rfl (by decide) (fun s21 w hs21 H => ?_)
          obtain ⟨ab, cap, rest, rfl, hcap, hcl, H⟩ := arrN_some H (by rw [List.length_replicate]; omega)
          rw [List.length_replicate]
          have H := atc_new H
          refine O.ex (Ex.move rfl) rfl ?_
          refine O.ex (Ex.buildC2 (i1 := 1) (i2 := 3) (o1 := 320) (o2 := 322) Try.runUnderlying93 gZ rfl (fun w => by simp [Try.sizeOf3, Try.sizeOf91, Try.sizeOf88]; rfl) rfl rfl (by decide) (by decide) rfl rfl rfl rfl) rfl ?_
          refine O.boxC rfl (fun b24 w H => ?_)
          refine O.ex (Ex.assign rfl) rfl ?_
          refine O.ex (Ex.assign rfl) rfl ?_
          refine O.nil ?_
          refine hK7 _ _ _ ?_
          refine W.ret ?_
          try dsimp only [thenQ, blockQ, retQ]
          first | refine ⟨_, ⟨_, _, rfl, rfl, _, _, rfl, rfl, rfl⟩, ?_⟩ | (refine retD_mark ?_; intro w H; refine ⟨_, ⟨_, _, rfl, rfl, _, _, rfl, rfl, rfl⟩, ?_⟩) | (refine retD_mark2 ?_; intro w H; refine ⟨_, ⟨_, _, rfl, rfl, _, _, rfl, rfl, rfl⟩, ?_⟩)
          first
          | exact .inl ⟨fun h => by omega, rfl, Holds.to (by assumption)⟩
          | (refine .inr ⟨by omega, b24, rfl, gh_open.2 ⟨ab, cap, fun _ => (.slice none 0 0, .slice none 0 0), ghO_open.2 ?_⟩⟩
             have H : Holds w (gcel b24 noS (avV ab cap n) 0 most :: atc ab n.toNat (fun _ => (.slice none 0 0, .slice none 0 0)) :: L) := H.celTo (fun q hq => by
               unfold gf
               by_cases e1 : q = 322
               · subst e1; rfl
               · rw [if_neg e1]
                 by_cases e2 : q = 320
                 · subst e2; rfl
                 · rw [if_neg e2]
                   by_cases e3 : q < 320
                   · rw [if_pos e3, if_pos e3]
                   · rw [if_neg e3, if_neg e3, if_neg e2, if_neg e2, if_pos (by omega), if_pos (by omega)])
             exact Holds.to (big_new H))
abbrev arcCells (a : Arc) : Array Value := #[.int .i64 a.t, .int .i64 a.h, .int .i64 a.w, .bool a.cl]
theorem lists_ins {s : St} {i : Nat} {a : Arc} (hf : (s i).tk = false) : (∀ v, v ≠ a.t → outI (upS s i ⟨a, true⟩) v = outI s v) ∧ (∀ v, v ≠ a.h → inI (upS s i ⟨a, true⟩) v = inI s v) :=
  ⟨fun v hv => outI_other (fun h => by rw [hf] at h; cases h) (fun _ e => hv e.symm), fun v hv => inI_other (fun h => by rw [hf] at h; cases h) (fun _ e => hv e.symm)⟩
set_option maxHeartbeats 4000000 in
theorem ginsert_ct {w : World} {g : Nat} {n most id : Int} {s : St} {a : Arc} {L : List HProp} (hg : GOk n most s) (H : Holds w (Gh g n most s :: L)) :
    CT Try.prog 35 [.pointer (some ⟨g, 0, none⟩), .int .i64 id, a.val] w fun u w' => u = .int .i64 (insC n most s id a) ∧ Holds w' (Gh g n most (insS n most s id a) :: L) := by
  have n1 := hg.n1
  have n2 := hg.n2
  obtain ⟨ab, cap, es, H⟩ := gh_open.1 H
  have H := ghO_open.1 H
  obtain ⟨c0, c1⟩ := cnt_rng s
  refine CT.enter (N := 101) Try.func35 rfl rfl rfl rfl ?_
  refine W.seq (fun K0 hK0 => ?_)
  refine W.region ?_
  refine O.boxP rfl (fun b5 w H => ?_)
  refine O.ex (Ex.assign rfl) rfl ?_
  refine O.nil ?_
  refine hK0 _ _ _ ?_
  refine W.seq (fun K1 hK1 => ?_)
  refine W.block ?_
  refine W.seq (fun K2 hK2 => ?_)
  refine W.region ?_
  refine O.ex (Ex.move rfl) rfl ?_
  refine O.callF Try.call56 rfl rfl (CT.mono (place_ct (Holds.to (by assumption))) ?_)
  rintro _ w ⟨rfl, H⟩
  refine O.ex (by first | exact Ex.notD rfl | exact Ex.not rfl) rfl ?_
  refine O.ex (Ex.move rfl) rfl ?_
  first | refine O.split_p (t := 11) rfl (fun h0 => ?_) (fun h0 => ?_) | refine O.split (t := 11) rfl (fun h0 => ?_) (fun h0 => ?_)
  · refine O.guard_f rfl rfl rfl rfl ?_
    refine O.guard_f rfl rfl rfl rfl ?_
    refine O.guard_f rfl rfl rfl rfl ?_
    refine O.guard_f rfl rfl rfl rfl ?_
    refine O.guard_f rfl rfl rfl rfl ?_
    refine O.ex (Ex.pick_t rfl rfl) rfl ?_
    refine O.ex (Ex.move rfl) rfl ?_
    refine O.guard_f rfl rfl rfl rfl ?_
    refine O.guard_f rfl rfl rfl rfl ?_
    refine O.guard_f rfl rfl rfl rfl ?_
    refine O.guard_f rfl rfl rfl rfl ?_
    refine O.guard_f rfl rfl rfl rfl ?_
    refine O.ex (Ex.pick_t rfl rfl) rfl ?_
    refine O.ex (Ex.move rfl) rfl ?_
    refine O.guard_f rfl rfl rfl rfl ?_
    refine O.guard_f rfl rfl rfl rfl ?_
    refine O.guard_f rfl rfl rfl rfl ?_
    refine O.guard_f rfl rfl rfl rfl ?_
    refine O.ex (Ex.pick_t rfl rfl) rfl ?_
    refine O.ex (Ex.assign rfl) rfl ?_
    refine O.nil ?_
    refine hK2 _ _ _ ?_
    refine W.cond_t rfl ?_
    refine W.seq (fun K3 hK3 => ?_)
    refine W.region ?_
    refine O.ex (Ex.assign rfl) rfl ?_
    refine O.nil ?_
    refine hK3 _ _ _ ?_
    refine W.ret ?_
    try dsimp only [thenQ, blockQ, retQ]
    first | refine ⟨_, ⟨_, _, rfl, rfl, rfl⟩, ?_⟩ | (refine retD_mark ?_; intro w H; refine ⟨_, ⟨_, _, rfl, rfl, rfl⟩, ?_⟩) | (refine retD_mark2 ?_; intro w H; refine ⟨_, ⟨_, _, rfl, rfl, rfl⟩, ?_⟩)
    first
    | (rw [hin, hS]
       refine ⟨rfl, gh_open.2 ⟨ab, cap, upE es1 a.h.toNat ((es1 a.h.toNat).1, u2), ghO_open.2 ?_⟩⟩
       rw [cnt_ins (by omega) hf rfl]
       exact Holds.to (by assumption))
    | (have hc : insC n most s id a = 1 := if_pos (fun hh => by first | exact h0 hh.1 | exact h1 hh.2.1.1 | exact h2 hh.2.1.2 | exact h3 hh.2.2)
       have hS : insS n most s id a = s := if_neg (by rw [hc]; decide)
       rw [hc, hS]
       exact ⟨rfl, gh_open.2 ⟨ab, cap, es, ghO_open.2 (Holds.to (by assumption))⟩⟩)
    | (have hc : insC n most s id a = 4 := by unfold insC; rw [if_neg (fun hh => hh ⟨hpl, hok⟩), if_pos h4]
       have hS : insS n most s id a = s := if_neg (by rw [hc]; decide)
       rw [hc, hS]
       exact ⟨rfl, gh_open.2 ⟨ab, cap, es, ghO_open.2 (Holds.to (by assumption))⟩⟩)
    | (have hc : insC n most s id a = 2 := by unfold insC; rw [if_neg (fun hh => hh ⟨hpl, hok⟩), if_neg (by simpa using h4), if_pos h5]
       have hS : insS n most s id a = s := if_neg (by rw [hc]; decide)
       rw [hc, hS]
       exact ⟨rfl, gh_open.2 ⟨ab, cap, es, ghO_open.2 (Holds.to (by assumption))⟩⟩)
  · refine O.guard_t rfl rfl ?_
    refine O.ex (Ex.move rfl) rfl ?_
    refine O.guard_t rfl rfl ?_
    refine O.ex (by first | exact Ex.field0 fld42_0 rfl | exact Ex.field fld42_0 rfl | exact Ex.fieldS fld42_0 rfl) rfl ?_
    refine O.guard_t rfl rfl ?_
    refine O.ex (by first | exact Ex.loadG1 Try.isAgg3 rfl | exact Ex.loadG2 Try.isAgg3 rfl | exact Ex.loadAt Try.isAgg3 rfl | exact Ex.loadCn Try.isAgg3 rfl | exact Ex.loadMo Try.isAgg3 rfl | exact Ex.loadE0 Try.isAgg3 rfl | exact Ex.loadE1 Try.isAgg3 rfl | exact Ex.loadP Try.isAgg3 rfl | exact Ex.loadR Try.isAgg3 rfl | exact Ex.loadIn1 Try.isAgg3 rfl (Holds.to (by assumption))) rfl ?_
    refine O.guard_t rfl rfl ?_
    refine O.callF Try.call57 rfl rfl (CT.mono (gvertexO_ct (g := g) (s := s) (ab := ab) (cap := cap) (n := n) (k := cnt s) (most := most) (by omega) (Holds.to (by assumption))) ?_)
    rintro _ w ⟨rfl, H⟩
    refine O.guard_t rfl rfl ?_
    refine O.ex (by first | exact Ex.notD rfl | exact Ex.not rfl) rfl ?_
    refine O.ex (Ex.pick_f rfl rfl) rfl ?_
    refine O.ex (Ex.move rfl) rfl ?_
    first | refine O.split_p (t := 18) rfl (fun h1 => ?_) (fun h1 => ?_) | refine O.split (t := 18) rfl (fun h1 => ?_) (fun h1 => ?_)
    · refine O.guard_f rfl rfl rfl rfl ?_
      refine O.guard_f rfl rfl rfl rfl ?_
      refine O.guard_f rfl rfl rfl rfl ?_
      refine O.guard_f rfl rfl rfl rfl ?_
      refine O.guard_f rfl rfl rfl rfl ?_
      refine O.ex (Ex.pick_t rfl rfl) rfl ?_
      refine O.ex (Ex.move rfl) rfl ?_
      refine O.guard_f rfl rfl rfl rfl ?_
      refine O.guard_f rfl rfl rfl rfl ?_
      refine O.guard_f rfl rfl rfl rfl ?_
      refine O.guard_f rfl rfl rfl rfl ?_
      refine O.ex (Ex.pick_t rfl rfl) rfl ?_
      refine O.ex (Ex.assign rfl) rfl ?_
      refine O.nil ?_
      refine hK2 _ _ _ ?_
      refine W.cond_t rfl ?_
      refine W.seq (fun K4 hK4 => ?_)
      refine W.region ?_
      refine O.ex (Ex.assign rfl) rfl ?_
      refine O.nil ?_
      refine hK4 _ _ _ ?_
      refine W.ret ?_
      try dsimp only [thenQ, blockQ, retQ]
      first | refine ⟨_, ⟨_, _, rfl, rfl, rfl⟩, ?_⟩ | (refine retD_mark ?_; intro w H; refine ⟨_, ⟨_, _, rfl, rfl, rfl⟩, ?_⟩) | (refine retD_mark2 ?_; intro w H; refine ⟨_, ⟨_, _, rfl, rfl, rfl⟩, ?_⟩)
      first
      | (rw [hin, hS]
         refine ⟨rfl, gh_open.2 ⟨ab, cap, upE es1 a.h.toNat ((es1 a.h.toNat).1, u2), ghO_open.2 ?_⟩⟩
         rw [cnt_ins (by omega) hf rfl]
         exact Holds.to (by assumption))
      | (have hc : insC n most s id a = 1 := if_pos (fun hh => by first | exact h0 hh.1 | exact h1 hh.2.1.1 | exact h2 hh.2.1.2 | exact h3 hh.2.2)
         have hS : insS n most s id a = s := if_neg (by rw [hc]; decide)
         rw [hc, hS]
         exact ⟨rfl, gh_open.2 ⟨ab, cap, es, ghO_open.2 (Holds.to (by assumption))⟩⟩)
      | (have hc : insC n most s id a = 4 := by unfold insC; rw [if_neg (fun hh => hh ⟨hpl, hok⟩), if_pos h4]
         have hS : insS n most s id a = s := if_neg (by rw [hc]; decide)
         rw [hc, hS]
         exact ⟨rfl, gh_open.2 ⟨ab, cap, es, ghO_open.2 (Holds.to (by assumption))⟩⟩)
      | (have hc : insC n most s id a = 2 := by unfold insC; rw [if_neg (fun hh => hh ⟨hpl, hok⟩), if_neg (by simpa using h4), if_pos h5]
         have hS : insS n most s id a = s := if_neg (by rw [hc]; decide)
         rw [hc, hS]
         exact ⟨rfl, gh_open.2 ⟨ab, cap, es, ghO_open.2 (Holds.to (by assumption))⟩⟩)
    · refine O.guard_t rfl rfl ?_
      refine O.ex (Ex.move rfl) rfl ?_
      refine O.guard_t rfl rfl ?_
      refine O.ex (by first | exact Ex.field0 fld42_1 rfl | exact Ex.field fld42_1 rfl | exact Ex.fieldS fld42_1 rfl) rfl ?_
      refine O.guard_t rfl rfl ?_
      refine O.ex (by first | exact Ex.loadG1 Try.isAgg3 rfl | exact Ex.loadG2 Try.isAgg3 rfl | exact Ex.loadAt Try.isAgg3 rfl | exact Ex.loadCn Try.isAgg3 rfl | exact Ex.loadMo Try.isAgg3 rfl | exact Ex.loadE0 Try.isAgg3 rfl | exact Ex.loadE1 Try.isAgg3 rfl | exact Ex.loadP Try.isAgg3 rfl | exact Ex.loadR Try.isAgg3 rfl | exact Ex.loadIn1 Try.isAgg3 rfl (Holds.to (by assumption))) rfl ?_
      refine O.guard_t rfl rfl ?_
      refine O.callF Try.call57 rfl rfl (CT.mono (gvertexO_ct (g := g) (s := s) (ab := ab) (cap := cap) (n := n) (k := cnt s) (most := most) (by omega) (Holds.to (by assumption))) ?_)
      rintro _ w ⟨rfl, H⟩
      refine O.guard_t rfl rfl ?_
      refine O.ex (by first | exact Ex.notD rfl | exact Ex.not rfl) rfl ?_
      refine O.ex (Ex.pick_f rfl rfl) rfl ?_
      refine O.ex (Ex.move rfl) rfl ?_
      first | refine O.split_p (t := 25) rfl (fun h2 => ?_) (fun h2 => ?_) | refine O.split (t := 25) rfl (fun h2 => ?_) (fun h2 => ?_)
      · refine O.guard_f rfl rfl rfl rfl ?_
        refine O.guard_f rfl rfl rfl rfl ?_
        refine O.guard_f rfl rfl rfl rfl ?_
        refine O.guard_f rfl rfl rfl rfl ?_
        refine O.ex (Ex.pick_t rfl rfl) rfl ?_
        refine O.ex (Ex.assign rfl) rfl ?_
        refine O.nil ?_
        refine hK2 _ _ _ ?_
        refine W.cond_t rfl ?_
        refine W.seq (fun K5 hK5 => ?_)
        refine W.region ?_
        refine O.ex (Ex.assign rfl) rfl ?_
        refine O.nil ?_
        refine hK5 _ _ _ ?_
        refine W.ret ?_
        try dsimp only [thenQ, blockQ, retQ]
        first | refine ⟨_, ⟨_, _, rfl, rfl, rfl⟩, ?_⟩ | (refine retD_mark ?_; intro w H; refine ⟨_, ⟨_, _, rfl, rfl, rfl⟩, ?_⟩) | (refine retD_mark2 ?_; intro w H; refine ⟨_, ⟨_, _, rfl, rfl, rfl⟩, ?_⟩)
        first
        | (rw [hin, hS]
           refine ⟨rfl, gh_open.2 ⟨ab, cap, upE es1 a.h.toNat ((es1 a.h.toNat).1, u2), ghO_open.2 ?_⟩⟩
           rw [cnt_ins (by omega) hf rfl]
           exact Holds.to (by assumption))
        | (have hc : insC n most s id a = 1 := if_pos (fun hh => by first | exact h0 hh.1 | exact h1 hh.2.1.1 | exact h2 hh.2.1.2 | exact h3 hh.2.2)
           have hS : insS n most s id a = s := if_neg (by rw [hc]; decide)
           rw [hc, hS]
           exact ⟨rfl, gh_open.2 ⟨ab, cap, es, ghO_open.2 (Holds.to (by assumption))⟩⟩)
        | (have hc : insC n most s id a = 4 := by unfold insC; rw [if_neg (fun hh => hh ⟨hpl, hok⟩), if_pos h4]
           have hS : insS n most s id a = s := if_neg (by rw [hc]; decide)
           rw [hc, hS]
           exact ⟨rfl, gh_open.2 ⟨ab, cap, es, ghO_open.2 (Holds.to (by assumption))⟩⟩)
        | (have hc : insC n most s id a = 2 := by unfold insC; rw [if_neg (fun hh => hh ⟨hpl, hok⟩), if_neg (by simpa using h4), if_pos h5]
           have hS : insS n most s id a = s := if_neg (by rw [hc]; decide)
           rw [hc, hS]
           exact ⟨rfl, gh_open.2 ⟨ab, cap, es, ghO_open.2 (Holds.to (by assumption))⟩⟩)
      · refine O.guard_t rfl rfl ?_
        refine O.ex (by first | exact Ex.field0 fld42_2 rfl | exact Ex.field fld42_2 rfl | exact Ex.fieldS fld42_2 rfl) rfl ?_
        refine O.guard_t rfl rfl ?_
        refine O.ex (by first | exact Ex.loadG1 Try.isAgg3 rfl | exact Ex.loadG2 Try.isAgg3 rfl | exact Ex.loadAt Try.isAgg3 rfl | exact Ex.loadCn Try.isAgg3 rfl | exact Ex.loadMo Try.isAgg3 rfl | exact Ex.loadE0 Try.isAgg3 rfl | exact Ex.loadE1 Try.isAgg3 rfl | exact Ex.loadP Try.isAgg3 rfl | exact Ex.loadR Try.isAgg3 rfl | exact Ex.loadIn1 Try.isAgg3 rfl (Holds.to (by assumption))) rfl ?_
        refine O.guard_t rfl rfl ?_
        refine O.callF Try.call58 rfl rfl (CT.mono (weight_ct (Holds.to (by assumption))) ?_)
        rintro _ w ⟨rfl, H⟩
        refine O.guard_t rfl rfl ?_
        refine O.ex (by first | exact Ex.notD rfl | exact Ex.not rfl) rfl ?_
        refine O.ex (Ex.pick_f rfl rfl) rfl ?_
        refine O.ex (Ex.assign rfl) rfl ?_
        refine O.nil ?_
        refine hK2 _ _ _ ?_
        first | refine W.cond_p rfl (fun h3 => ?_) (fun h3 => ?_) | refine W.cond_b rfl (fun h3 => ?_) (fun h3 => ?_)
        · refine W.seq (fun K6 hK6 => ?_)
          refine W.region ?_
          refine O.ex (Ex.assign rfl) rfl ?_
          refine O.nil ?_
          refine hK6 _ _ _ ?_
          refine W.ret ?_
          try dsimp only [thenQ, blockQ, retQ]
          first | refine ⟨_, ⟨_, _, rfl, rfl, rfl⟩, ?_⟩ | (refine retD_mark ?_; intro w H; refine ⟨_, ⟨_, _, rfl, rfl, rfl⟩, ?_⟩) | (refine retD_mark2 ?_; intro w H; refine ⟨_, ⟨_, _, rfl, rfl, rfl⟩, ?_⟩)
          first
          | (rw [hin, hS]
             refine ⟨rfl, gh_open.2 ⟨ab, cap, upE es1 a.h.toNat ((es1 a.h.toNat).1, u2), ghO_open.2 ?_⟩⟩
             rw [cnt_ins (by omega) hf rfl]
             exact Holds.to (by assumption))
          | (have hc : insC n most s id a = 1 := if_pos (fun hh => by first | exact h0 hh.1 | exact h1 hh.2.1.1 | exact h2 hh.2.1.2 | exact h3 hh.2.2)
             have hS : insS n most s id a = s := if_neg (by rw [hc]; decide)
             rw [hc, hS]
             exact ⟨rfl, gh_open.2 ⟨ab, cap, es, ghO_open.2 (Holds.to (by assumption))⟩⟩)
          | (have hc : insC n most s id a = 4 := by unfold insC; rw [if_neg (fun hh => hh ⟨hpl, hok⟩), if_pos h4]
             have hS : insS n most s id a = s := if_neg (by rw [hc]; decide)
             rw [hc, hS]
             exact ⟨rfl, gh_open.2 ⟨ab, cap, es, ghO_open.2 (Holds.to (by assumption))⟩⟩)
          | (have hc : insC n most s id a = 2 := by unfold insC; rw [if_neg (fun hh => hh ⟨hpl, hok⟩), if_neg (by simpa using h4), if_pos h5]
             have hS : insS n most s id a = s := if_neg (by rw [hc]; decide)
             rw [hc, hS]
             exact ⟨rfl, gh_open.2 ⟨ab, cap, es, ghO_open.2 (Holds.to (by assumption))⟩⟩)
        · refine W.seq (fun K7 hK7 => ?_)
          refine W.region ?_
          have hpl : pl id := Decidable.not_not.1 h0
          have hok : okA n a := ⟨⟨Decidable.not_not.1 h1, Decidable.not_not.1 h2⟩, Decidable.not_not.1 h3⟩
          have p0 := hpl.1
          have p1 := hpl.2
          refine O.ex (Ex.move rfl) rfl ?_
          refine O.ex (Ex.move rfl) rfl ?_
          refine O.ex (by first | exact Ex.nilPtr rfl | exact Ex.nilFunc rfl | exact Ex.nilYield rfl) rfl ?_
          refine O.ex (by first | exact Ex.field0 fld93_0 rfl | exact Ex.field fld93_0 rfl | exact Ex.fieldS fld93_0 rfl) rfl ?_
          refine O.ex (Ex.idxArr Try.runUnderlying91 Try.sizeOf90 rfl rfl) rfl ?_
          refine O.ex (by first | exact Ex.field0 fld90_1 rfl | exact Ex.field fld90_1 rfl | exact Ex.fieldS fld90_1 rfl) rfl ?_
          refine O.ex (by first | exact Ex.loadG1 Try.isAgg4 rfl | exact Ex.loadG2 Try.isAgg4 rfl | exact Ex.loadAt Try.isAgg4 rfl | exact Ex.loadCn Try.isAgg4 rfl | exact Ex.loadMo Try.isAgg4 rfl | exact Ex.loadE0 Try.isAgg4 rfl | exact Ex.loadE1 Try.isAgg4 rfl | exact Ex.loadP Try.isAgg4 rfl | exact Ex.loadR Try.isAgg4 rfl | exact Ex.loadIn1 Try.isAgg4 rfl (Holds.to (by assumption))) rfl ?_
          refine O.ex (Ex.assign rfl) rfl ?_
          refine O.nil ?_
          refine hK7 _ _ _ ?_
          first | refine W.cond_p rfl (fun h4 => ?_) (fun h4 => ?_) | refine W.cond_b rfl (fun h4 => ?_) (fun h4 => ?_)
          · refine W.seq (fun K8 hK8 => ?_)
            refine W.region ?_
            refine O.ex (Ex.assign rfl) rfl ?_
            refine O.nil ?_
            refine hK8 _ _ _ ?_
            refine W.ret ?_
            try dsimp only [thenQ, blockQ, retQ]
            first | refine ⟨_, ⟨_, _, rfl, rfl, rfl⟩, ?_⟩ | (refine retD_mark ?_; intro w H; refine ⟨_, ⟨_, _, rfl, rfl, rfl⟩, ?_⟩) | (refine retD_mark2 ?_; intro w H; refine ⟨_, ⟨_, _, rfl, rfl, rfl⟩, ?_⟩)
            first
            | (rw [hin, hS]
               refine ⟨rfl, gh_open.2 ⟨ab, cap, upE es1 a.h.toNat ((es1 a.h.toNat).1, u2), ghO_open.2 ?_⟩⟩
               rw [cnt_ins (by omega) hf rfl]
               exact Holds.to (by assumption))
            | (have hc : insC n most s id a = 1 := if_pos (fun hh => by first | exact h0 hh.1 | exact h1 hh.2.1.1 | exact h2 hh.2.1.2 | exact h3 hh.2.2)
               have hS : insS n most s id a = s := if_neg (by rw [hc]; decide)
               rw [hc, hS]
               exact ⟨rfl, gh_open.2 ⟨ab, cap, es, ghO_open.2 (Holds.to (by assumption))⟩⟩)
            | (have hc : insC n most s id a = 4 := by unfold insC; rw [if_neg (fun hh => hh ⟨hpl, hok⟩), if_pos h4]
               have hS : insS n most s id a = s := if_neg (by rw [hc]; decide)
               rw [hc, hS]
               exact ⟨rfl, gh_open.2 ⟨ab, cap, es, ghO_open.2 (Holds.to (by assumption))⟩⟩)
            | (have hc : insC n most s id a = 2 := by unfold insC; rw [if_neg (fun hh => hh ⟨hpl, hok⟩), if_neg (by simpa using h4), if_pos h5]
               have hS : insS n most s id a = s := if_neg (by rw [hc]; decide)
               rw [hc, hS]
               exact ⟨rfl, gh_open.2 ⟨ab, cap, es, ghO_open.2 (Holds.to (by assumption))⟩⟩)
          · refine W.seq (fun K9 hK9 => ?_)
            refine W.drawTo _ (.take 0 (.take 1 (.take 2 (.take 3 (.take 4 (.take 5 (.take 6 (.take 7 (.take 8 (.take 9 .nil)))))))))) (mixed) (fun _ _ _ _ h => h) (by assumption) (PP.refl _) (by decide +kernel) (fun w H => ?_)
            refine OQ.ex rfl (fun w H => (Ex.move rfl)) rfl ?_
            refine OQ.ex rfl (fun w H => (by first | exact Ex.nilPtr rfl | exact Ex.nilFunc rfl | exact Ex.nilYield rfl)) rfl ?_
            refine OQ.ex rfl (fun w H => (by first | exact Ex.field0 fld93_2 rfl | exact Ex.field fld93_2 rfl | exact Ex.fieldS fld93_2 rfl)) rfl ?_
            refine OQ.ex rfl (fun w H => (by first | exact Ex.loadG1 Try.isAgg3 rfl | exact Ex.loadG2 Try.isAgg3 rfl | exact Ex.loadAt Try.isAgg3 rfl | exact Ex.loadCn Try.isAgg3 rfl | exact Ex.loadMo Try.isAgg3 rfl | exact Ex.loadE0 Try.isAgg3 rfl | exact Ex.loadE1 Try.isAgg3 rfl | exact Ex.loadP Try.isAgg3 rfl | exact Ex.loadR Try.isAgg3 rfl | exact Ex.loadIn1 Try.isAgg3 rfl (Holds.to (by assumption)))) rfl ?_
            refine OQ.ex rfl (fun w H => (Ex.move rfl)) rfl ?_
            refine OQ.ex rfl (fun w H => (by first | exact Ex.nilPtr rfl | exact Ex.nilFunc rfl | exact Ex.nilYield rfl)) rfl ?_
            refine OQ.ex rfl (fun w H => (by first | exact Ex.field0 fld93_3 rfl | exact Ex.field fld93_3 rfl | exact Ex.fieldS fld93_3 rfl)) rfl ?_
            refine OQ.ex rfl (fun w H => (by first | exact Ex.loadG1 Try.isAgg3 rfl | exact Ex.loadG2 Try.isAgg3 rfl | exact Ex.loadAt Try.isAgg3 rfl | exact Ex.loadCn Try.isAgg3 rfl | exact Ex.loadMo Try.isAgg3 rfl | exact Ex.loadE0 Try.isAgg3 rfl | exact Ex.loadE1 Try.isAgg3 rfl | exact Ex.loadP Try.isAgg3 rfl | exact Ex.loadR Try.isAgg3 rfl | exact Ex.loadIn1 Try.isAgg3 rfl (Holds.to (by assumption)))) rfl ?_
            refine OQ.ex rfl (fun w H => (Ex.geq rfl rfl)) rfl ?_
            refine OQ.ex rfl (fun w H => (Ex.assign rfl)) rfl ?_
            refine OQ.done ?_
            refine hK9 _ _ _ ?_
            first | refine W.cond_p rfl (fun h5 => ?_) (fun h5 => ?_) | refine W.cond_b rfl (fun h5 => ?_) (fun h5 => ?_)
            · refine W.seq (fun K10 hK10 => ?_)
              refine W.region ?_
              refine O.ex (Ex.assign rfl) rfl ?_
              refine O.nil ?_
              refine hK10 _ _ _ ?_
              refine W.ret ?_
              try dsimp only [thenQ, blockQ, retQ]
              first | refine ⟨_, ⟨_, _, rfl, rfl, rfl⟩, ?_⟩ | (refine retD_mark ?_; intro w H; refine ⟨_, ⟨_, _, rfl, rfl, rfl⟩, ?_⟩) | (refine retD_mark2 ?_; intro w H; refine ⟨_, ⟨_, _, rfl, rfl, rfl⟩, ?_⟩)
              first
              | (rw [hin, hS]
                 refine ⟨rfl, gh_open.2 ⟨ab, cap, upE es1 a.h.toNat ((es1 a.h.toNat).1, u2), ghO_open.2 ?_⟩⟩
                 rw [cnt_ins (by omega) hf rfl]
                 exact Holds.to (by assumption))
              | (have hc : insC n most s id a = 1 := if_pos (fun hh => by first | exact h0 hh.1 | exact h1 hh.2.1.1 | exact h2 hh.2.1.2 | exact h3 hh.2.2)
                 have hS : insS n most s id a = s := if_neg (by rw [hc]; decide)
                 rw [hc, hS]
                 exact ⟨rfl, gh_open.2 ⟨ab, cap, es, ghO_open.2 (Holds.to (by assumption))⟩⟩)
              | (have hc : insC n most s id a = 4 := by unfold insC; rw [if_neg (fun hh => hh ⟨hpl, hok⟩), if_pos h4]
                 have hS : insS n most s id a = s := if_neg (by rw [hc]; decide)
                 rw [hc, hS]
                 exact ⟨rfl, gh_open.2 ⟨ab, cap, es, ghO_open.2 (Holds.to (by assumption))⟩⟩)
              | (have hc : insC n most s id a = 2 := by unfold insC; rw [if_neg (fun hh => hh ⟨hpl, hok⟩), if_neg (by simpa using h4), if_pos h5]
                 have hS : insS n most s id a = s := if_neg (by rw [hc]; decide)
                 rw [hc, hS]
                 exact ⟨rfl, gh_open.2 ⟨ab, cap, es, ghO_open.2 (Holds.to (by assumption))⟩⟩)
            · refine W.skip ?_
              refine hK1 _ _ _ ?_
              refine W.seq (fun K11 hK11 => ?_)
              have hin : insC n most s id a = 0 := insC_zero.2 ⟨⟨hpl, hok⟩, by simpa using h4, by omega⟩
              have hS : insS n most s id a = upS s id.toNat ⟨a, true⟩ := if_pos hin
              have hf : (s id.toNat).tk = false := by simpa using h4
              obtain ⟨lo1, lo2⟩ := lists_ins (a := a) hf
              have t0 := hok.1.1.1
              have t1 := hok.1.1.2
              have t2 : a.t.toNat < n.toNat := by omega
              have k0 := hok.1.2.1
              have k1 := hok.1.2.2
              have k2 : a.h.toNat < n.toNat := by omega
              refine W.drawTo (pt b5 _ :: []) (.take 0 (.take 1 (.take 2 (.take 3 (.take 4 (.take 5 (.take 6 (.one 7 .nil)))))))) (mixed) (fun _ _ _ _ h => h) (by assumption) PP.auto (by decide +kernel) (fun w H => ?_)
              refine OQ.ex rfl (fun w H => (Ex.move rfl)) rfl ?_
              refine OQ.ex rfl (fun w H => (Ex.move rfl)) rfl ?_
              refine OQ.ex rfl (fun w H => (by first | exact Ex.loadArc Try.isAgg42 Try.sizeOf42 rfl | exact Ex.loadAggP Try.isAgg42 Try.sizeOf42 rfl | exact Ex.loadAggN Try.isAgg42 Try.sizeOf42 rfl | exact Ex.loadIn Try.isAgg42 Try.sizeOf42 rfl (Holds.to (by assumption)))) rfl ?_
              refine OQ.ex rfl (fun w H => (Ex.build rfl (bld90_0_1 _ _ _ _ _ (by first | rfl | assumption)))) rfl ?_
              refine OQ.ex rfl (fun w H => (by first | exact Ex.nilPtr rfl | exact Ex.nilFunc rfl | exact Ex.nilYield rfl)) rfl ?_
              refine OQ.ex rfl (fun w H => (by first | exact Ex.field0 fld93_0 rfl | exact Ex.field fld93_0 rfl | exact Ex.fieldS fld93_0 rfl)) rfl ?_
              refine OQ.ex rfl (fun w H => (Ex.idxArr Try.runUnderlying91 Try.sizeOf90 rfl rfl)) rfl ?_
              refine OQ.last rfl (by decide +kernel) ?_
              refine O.storeSl (i := id.toNat) (z := ⟨a, true⟩) Try.sizeOf90 rfl rfl rfl (by omega) (by omega) (fun w H => ?_)
              refine O.nil ?_
              refine hK11 _ _ _ ?_
              refine W.seq (fun K12 hK12 => ?_)
              have H := big_takeE t0 t2 (Holds.to (M := big (endF es s s) (List.range n.toNat) :: gcel g (upS s id.toNat ⟨a, true⟩) (avV ab cap n) (cnt s) most :: atc ab n.toNat es :: pt b5 (.cells a.val.cells 42 (0, 0)) :: L) H)
              refine W.drawTo (gcel g (upS s id.toNat ⟨a, true⟩) (avV ab cap n) (cnt s) most :: atc ab n.toNat es :: pt b5 (.cells a.val.cells 42 (0, 0)) :: []) (.take 0 (.take 1 (.take 2 (.take 3 (.take 4 (.take 5 (.take 6 (.take 7 (.take 8 (.take 9 (.take 10 (.take 11 (.take 12 (.take 13 (.take 14 (.take 15 (.one 16 (.take 17 (.take 18 (.one 19 .nil)))))))))))))))))))) (mixed) (fun _ _ _ _ h => h) (by assumption) PP.auto (by decide +kernel) (fun w H => ?_)
              refine OQ.ex rfl (fun w H => (Ex.move rfl)) rfl ?_
              refine OQ.ex rfl (fun w H => (by first | exact Ex.nilPtr rfl | exact Ex.nilFunc rfl | exact Ex.nilYield rfl)) rfl ?_
              refine OQ.ex rfl (fun w H => (by first | exact Ex.field0 fld93_1 rfl | exact Ex.field fld93_1 rfl | exact Ex.fieldS fld93_1 rfl)) rfl ?_
              refine OQ.ex rfl (fun w H => (by first | exact Ex.loadG1 Try.isAgg88 rfl | exact Ex.loadG2 Try.isAgg88 rfl | exact Ex.loadAt Try.isAgg88 rfl | exact Ex.loadCn Try.isAgg88 rfl | exact Ex.loadMo Try.isAgg88 rfl | exact Ex.loadE0 Try.isAgg88 rfl | exact Ex.loadE1 Try.isAgg88 rfl | exact Ex.loadP Try.isAgg88 rfl | exact Ex.loadR Try.isAgg88 rfl | exact Ex.loadIn1 Try.isAgg88 rfl (Holds.to (by assumption)))) rfl ?_
              refine OQ.ex rfl (fun w H => (by first | exact Ex.field0 fld42_0 rfl | exact Ex.field fld42_0 rfl | exact Ex.fieldS fld42_0 rfl)) rfl ?_
              refine OQ.ex rfl (fun w H => (by first | exact Ex.loadG1 Try.isAgg3 rfl | exact Ex.loadG2 Try.isAgg3 rfl | exact Ex.loadAt Try.isAgg3 rfl | exact Ex.loadCn Try.isAgg3 rfl | exact Ex.loadMo Try.isAgg3 rfl | exact Ex.loadE0 Try.isAgg3 rfl | exact Ex.loadE1 Try.isAgg3 rfl | exact Ex.loadP Try.isAgg3 rfl | exact Ex.loadR Try.isAgg3 rfl | exact Ex.loadIn1 Try.isAgg3 rfl (Holds.to (by assumption)))) rfl ?_
              refine OQ.ex rfl (fun w H => (Ex.move rfl)) rfl ?_
              refine OQ.ex rfl (fun w H => (by first | exact Ex.nilPtr rfl | exact Ex.nilFunc rfl | exact Ex.nilYield rfl)) rfl ?_
              refine OQ.ex rfl (fun w H => (by first | exact Ex.field0 fld93_1 rfl | exact Ex.field fld93_1 rfl | exact Ex.fieldS fld93_1 rfl)) rfl ?_
              refine OQ.ex rfl (fun w H => (by first | exact Ex.loadG1 Try.isAgg88 rfl | exact Ex.loadG2 Try.isAgg88 rfl | exact Ex.loadAt Try.isAgg88 rfl | exact Ex.loadCn Try.isAgg88 rfl | exact Ex.loadMo Try.isAgg88 rfl | exact Ex.loadE0 Try.isAgg88 rfl | exact Ex.loadE1 Try.isAgg88 rfl | exact Ex.loadP Try.isAgg88 rfl | exact Ex.loadR Try.isAgg88 rfl | exact Ex.loadIn1 Try.isAgg88 rfl (Holds.to (by assumption)))) rfl ?_
              refine OQ.ex rfl (fun w H => (by first | exact Ex.field0 fld42_0 rfl | exact Ex.field fld42_0 rfl | exact Ex.fieldS fld42_0 rfl)) rfl ?_
              refine OQ.ex rfl (fun w H => (by first | exact Ex.loadG1 Try.isAgg3 rfl | exact Ex.loadG2 Try.isAgg3 rfl | exact Ex.loadAt Try.isAgg3 rfl | exact Ex.loadCn Try.isAgg3 rfl | exact Ex.loadMo Try.isAgg3 rfl | exact Ex.loadE0 Try.isAgg3 rfl | exact Ex.loadE1 Try.isAgg3 rfl | exact Ex.loadP Try.isAgg3 rfl | exact Ex.loadR Try.isAgg3 rfl | exact Ex.loadIn1 Try.isAgg3 rfl (Holds.to (by assumption)))) rfl ?_
              refine OQ.ex rfl (fun w H => (by first | exact Ex.idxN Try.runUnderlying88 Try.sizeOf96 rfl rfl | exact Ex.idxSN Try.runUnderlying88 Try.sizeOf96 rfl rfl | exact Ex.idxIn Try.runUnderlying88 Try.sizeOf96 rfl rfl | exact Ex.idx Try.runUnderlying88 Try.sizeOf96 rfl rfl (by omega) (by omega))) rfl ?_
              refine OQ.ex rfl (fun w H => (by first | exact Ex.field0 fld96_0 rfl | exact Ex.field fld96_0 rfl | exact Ex.fieldS fld96_0 rfl)) rfl ?_
              refine OQ.ex rfl (fun w H => (by first | exact Ex.loadG1 Try.isAgg28 rfl | exact Ex.loadG2 Try.isAgg28 rfl | exact Ex.loadAt Try.isAgg28 rfl | exact Ex.loadCn Try.isAgg28 rfl | exact Ex.loadMo Try.isAgg28 rfl | exact Ex.loadE0 Try.isAgg28 rfl | exact Ex.loadE1 Try.isAgg28 rfl | exact Ex.loadP Try.isAgg28 rfl | exact Ex.loadR Try.isAgg28 rfl | exact Ex.loadIn1 Try.isAgg28 rfl (Holds.to (by assumption)))) rfl ?_
              refine OQ.ex rfl (fun w H => (Ex.move rfl)) rfl ?_
              refine OQ.step rfl ?_
              refine O.callF Try.call59 rfl rfl (CT.mono (withI_ct (p := outP s a.t) (q := outP (upS s id.toNat ⟨a, true⟩) a.t) p0 p1 (by unfold outP; rw [hf]; rfl) (by unfold outP; rw [upS_same]; exact decide_eq_true rfl) (fun i hi => by unfold outP; rw [upS_other hi]) (Holds.to (by assumption))) ?_)
              rintro _ w ⟨hu1, H⟩
              rename_i u1
              refine O.thenNil ⟨(by first | exact Holds.to (by assumption) | assumption), ?_⟩
              refine OQ.ex rfl (fun w H => (by first | exact Ex.idxN Try.runUnderlying88 Try.sizeOf96 rfl rfl | exact Ex.idxSN Try.runUnderlying88 Try.sizeOf96 rfl rfl | exact Ex.idxIn Try.runUnderlying88 Try.sizeOf96 rfl rfl | exact Ex.idx Try.runUnderlying88 Try.sizeOf96 rfl rfl (by omega) (by omega))) rfl ?_
              refine OQ.ex rfl (fun w H => (by first | exact Ex.field0 fld96_0 rfl | exact Ex.field fld96_0 rfl | exact Ex.fieldS fld96_0 rfl)) rfl ?_
              refine OQ.last rfl (by decide +kernel) ?_
              refine O.storeE0 (i := a.t) (n := n.toNat) (es := es) Try.sizeOf28 rfl rfl hu1 (fun w H => ?_)
              refine O.nil ?_
              refine hK12 _ _ _ ?_
              refine W.seq (fun K13 hK13 => ?_)
              have H := big_out (so' := upS s id.toNat ⟨a, true⟩) (so := s) (si := s) (es := es) (u := u1) t0 t2 lo1 (Holds.to (M := arr 3 (Value.int .i64) u1 (lstP (outP (upS s id.toNat ⟨a, true⟩) a.t)) :: arr 3 (Value.int .i64) (es a.t.toNat).2 (lstP (inP s a.t)) :: bigBut (endF es s s) (List.range n.toNat) a.t.toNat :: gcel g (upS s id.toNat ⟨a, true⟩) (avV ab cap n) (cnt s) most :: atc ab n.toNat (upE es a.t.toNat (u1, (es a.t.toNat).2)) :: pt b5 (.cells a.val.cells 42 (0, 0)) :: L) H)
              obtain ⟨es1, hes1⟩ : ∃ es1, es1 = upE es a.t.toNat (u1, (es a.t.toNat).2) := ⟨_, rfl⟩
              rw [← hes1] at H
              have H := big_takeE k0 k2 H
              refine W.drawTo (gcel g (upS s id.toNat ⟨a, true⟩) (avV ab cap n) (cnt s) most :: atc ab n.toNat es1 :: pt b5 (.cells a.val.cells 42 (0, 0)) :: []) (.take 0 (.take 1 (.take 2 (.take 3 (.take 4 (.take 5 (.take 6 (.take 7 (.take 8 (.take 9 (.take 10 (.take 11 (.take 12 (.take 13 (.take 14 (.take 15 (.one 16 (.take 17 (.take 18 (.one 19 .nil)))))))))))))))))))) (mixed) (fun _ _ _ _ h => h) (by assumption) PP.auto (by decide +kernel) (fun w H => ?_)
              refine OQ.ex rfl (fun w H => (Ex.move rfl)) rfl ?_
              refine OQ.ex rfl (fun w H => (by first | exact Ex.nilPtr rfl | exact Ex.nilFunc rfl | exact Ex.nilYield rfl)) rfl ?_
              refine OQ.ex rfl (fun w H => (by first | exact Ex.field0 fld93_1 rfl | exact Ex.field fld93_1 rfl | exact Ex.fieldS fld93_1 rfl)) rfl ?_
              refine OQ.ex rfl (fun w H => (by first | exact Ex.loadG1 Try.isAgg88 rfl | exact Ex.loadG2 Try.isAgg88 rfl | exact Ex.loadAt Try.isAgg88 rfl | exact Ex.loadCn Try.isAgg88 rfl | exact Ex.loadMo Try.isAgg88 rfl | exact Ex.loadE0 Try.isAgg88 rfl | exact Ex.loadE1 Try.isAgg88 rfl | exact Ex.loadP Try.isAgg88 rfl | exact Ex.loadR Try.isAgg88 rfl | exact Ex.loadIn1 Try.isAgg88 rfl (Holds.to (by assumption)))) rfl ?_
              refine OQ.ex rfl (fun w H => (by first | exact Ex.field0 fld42_1 rfl | exact Ex.field fld42_1 rfl | exact Ex.fieldS fld42_1 rfl)) rfl ?_
              refine OQ.ex rfl (fun w H => (by first | exact Ex.loadG1 Try.isAgg3 rfl | exact Ex.loadG2 Try.isAgg3 rfl | exact Ex.loadAt Try.isAgg3 rfl | exact Ex.loadCn Try.isAgg3 rfl | exact Ex.loadMo Try.isAgg3 rfl | exact Ex.loadE0 Try.isAgg3 rfl | exact Ex.loadE1 Try.isAgg3 rfl | exact Ex.loadP Try.isAgg3 rfl | exact Ex.loadR Try.isAgg3 rfl | exact Ex.loadIn1 Try.isAgg3 rfl (Holds.to (by assumption)))) rfl ?_
              refine OQ.ex rfl (fun w H => (Ex.move rfl)) rfl ?_
              refine OQ.ex rfl (fun w H => (by first | exact Ex.nilPtr rfl | exact Ex.nilFunc rfl | exact Ex.nilYield rfl)) rfl ?_
              refine OQ.ex rfl (fun w H => (by first | exact Ex.field0 fld93_1 rfl | exact Ex.field fld93_1 rfl | exact Ex.fieldS fld93_1 rfl)) rfl ?_
              refine OQ.ex rfl (fun w H => (by first | exact Ex.loadG1 Try.isAgg88 rfl | exact Ex.loadG2 Try.isAgg88 rfl | exact Ex.loadAt Try.isAgg88 rfl | exact Ex.loadCn Try.isAgg88 rfl | exact Ex.loadMo Try.isAgg88 rfl | exact Ex.loadE0 Try.isAgg88 rfl | exact Ex.loadE1 Try.isAgg88 rfl | exact Ex.loadP Try.isAgg88 rfl | exact Ex.loadR Try.isAgg88 rfl | exact Ex.loadIn1 Try.isAgg88 rfl (Holds.to (by assumption)))) rfl ?_
              refine OQ.ex rfl (fun w H => (by first | exact Ex.field0 fld42_1 rfl | exact Ex.field fld42_1 rfl | exact Ex.fieldS fld42_1 rfl)) rfl ?_
              refine OQ.ex rfl (fun w H => (by first | exact Ex.loadG1 Try.isAgg3 rfl | exact Ex.loadG2 Try.isAgg3 rfl | exact Ex.loadAt Try.isAgg3 rfl | exact Ex.loadCn Try.isAgg3 rfl | exact Ex.loadMo Try.isAgg3 rfl | exact Ex.loadE0 Try.isAgg3 rfl | exact Ex.loadE1 Try.isAgg3 rfl | exact Ex.loadP Try.isAgg3 rfl | exact Ex.loadR Try.isAgg3 rfl | exact Ex.loadIn1 Try.isAgg3 rfl (Holds.to (by assumption)))) rfl ?_
              refine OQ.ex rfl (fun w H => (by first | exact Ex.idxN Try.runUnderlying88 Try.sizeOf96 rfl rfl | exact Ex.idxSN Try.runUnderlying88 Try.sizeOf96 rfl rfl | exact Ex.idxIn Try.runUnderlying88 Try.sizeOf96 rfl rfl | exact Ex.idx Try.runUnderlying88 Try.sizeOf96 rfl rfl (by omega) (by omega))) rfl ?_
              refine OQ.ex rfl (fun w H => (by first | exact Ex.field0 fld96_1 rfl | exact Ex.field fld96_1 rfl | exact Ex.fieldS fld96_1 rfl)) rfl ?_
              refine OQ.ex rfl (fun w H => (by first | exact Ex.loadG1 Try.isAgg28 rfl | exact Ex.loadG2 Try.isAgg28 rfl | exact Ex.loadAt Try.isAgg28 rfl | exact Ex.loadCn Try.isAgg28 rfl | exact Ex.loadMo Try.isAgg28 rfl | exact Ex.loadE0 Try.isAgg28 rfl | exact Ex.loadE1 Try.isAgg28 rfl | exact Ex.loadP Try.isAgg28 rfl | exact Ex.loadR Try.isAgg28 rfl | exact Ex.loadIn1 Try.isAgg28 rfl (Holds.to (by assumption)))) rfl ?_
              refine OQ.ex rfl (fun w H => (Ex.move rfl)) rfl ?_
              refine OQ.step rfl ?_
              refine O.callF Try.call59 rfl rfl (CT.mono (withI_ct (p := inP s a.h) (q := inP (upS s id.toNat ⟨a, true⟩) a.h) p0 p1 (by unfold inP; rw [hf]; rfl) (by unfold inP; rw [upS_same]; exact decide_eq_true rfl) (fun i hi => by unfold inP; rw [upS_other hi]) (Holds.to (by assumption))) ?_)
              rintro _ w ⟨hu2, H⟩
              rename_i u2
              refine O.thenNil ⟨(by first | exact Holds.to (by assumption) | assumption), ?_⟩
              refine OQ.ex rfl (fun w H => (by first | exact Ex.idxN Try.runUnderlying88 Try.sizeOf96 rfl rfl | exact Ex.idxSN Try.runUnderlying88 Try.sizeOf96 rfl rfl | exact Ex.idxIn Try.runUnderlying88 Try.sizeOf96 rfl rfl | exact Ex.idx Try.runUnderlying88 Try.sizeOf96 rfl rfl (by omega) (by omega))) rfl ?_
              refine OQ.ex rfl (fun w H => (by first | exact Ex.field0 fld96_1 rfl | exact Ex.field fld96_1 rfl | exact Ex.fieldS fld96_1 rfl)) rfl ?_
              refine OQ.last rfl (by decide +kernel) ?_
              refine O.storeE1 (i := a.h) (n := n.toNat) (es := es1) Try.sizeOf28 rfl rfl hu2 (fun w H => ?_)
              refine O.nil ?_
              refine hK13 _ _ _ ?_
              refine W.seq (fun K14 hK14 => ?_)
              refine W.region ?_
              have H := big_in (so := upS s id.toNat ⟨a, true⟩) (si := s) (si' := upS s id.toNat ⟨a, true⟩) (es := es1) (u := u2) k0 k2 lo2 (Holds.to (M := arr 3 (Value.int .i64) (es1 a.h.toNat).1 (lstP (outP (upS s id.toNat ⟨a, true⟩) a.h)) :: arr 3 (Value.int .i64) u2 (lstP (inP (upS s id.toNat ⟨a, true⟩) a.h)) :: bigBut (endF es1 (upS s id.toNat ⟨a, true⟩) s) (List.range n.toNat) a.h.toNat :: gcel g (upS s id.toNat ⟨a, true⟩) (avV ab cap n) (cnt s) most :: atc ab n.toNat (upE es1 a.h.toNat ((es1 a.h.toNat).1, u2)) :: L) H)
              refine O.ex (Ex.move rfl) rfl ?_
              refine O.ex (by first | exact Ex.nilPtr rfl | exact Ex.nilFunc rfl | exact Ex.nilYield rfl) rfl ?_
              refine O.ex (by first | exact Ex.field0 fld93_2 rfl | exact Ex.field fld93_2 rfl | exact Ex.fieldS fld93_2 rfl) rfl ?_
              refine O.ex (by first | exact Ex.loadG1 Try.isAgg3 rfl | exact Ex.loadG2 Try.isAgg3 rfl | exact Ex.loadAt Try.isAgg3 rfl | exact Ex.loadCn Try.isAgg3 rfl | exact Ex.loadMo Try.isAgg3 rfl | exact Ex.loadE0 Try.isAgg3 rfl | exact Ex.loadE1 Try.isAgg3 rfl | exact Ex.loadP Try.isAgg3 rfl | exact Ex.loadR Try.isAgg3 rfl | exact Ex.loadIn1 Try.isAgg3 rfl (Holds.to (by assumption))) rfl ?_
              refine O.ex (by first | exact Ex.addI rfl rfl | exact Ex.add rfl rfl rfl) rfl ?_
              refine O.ex (by first | exact Ex.nilPtr rfl | exact Ex.nilFunc rfl | exact Ex.nilYield rfl) rfl ?_
              refine O.ex (by first | exact Ex.field0 fld93_2 rfl | exact Ex.field fld93_2 rfl | exact Ex.fieldS fld93_2 rfl) rfl ?_
              refine O.storeCn Try.sizeOf3 rfl rfl (fun w H => ?_)
              refine O.nil ?_
              refine hK14 _ _ _ ?_
              refine W.seq (fun K15 hK15 => ?_)
              refine W.region ?_
              refine O.ex (Ex.assign rfl) rfl ?_
              refine O.nil ?_
              refine hK15 _ _ _ ?_
              refine W.ret ?_
              try dsimp only [thenQ, blockQ, retQ]
              first | refine ⟨_, ⟨_, _, rfl, rfl, rfl⟩, ?_⟩ | (refine retD_mark ?_; intro w H; refine ⟨_, ⟨_, _, rfl, rfl, rfl⟩, ?_⟩) | (refine retD_mark2 ?_; intro w H; refine ⟨_, ⟨_, _, rfl, rfl, rfl⟩, ?_⟩)
              first
              | (rw [hin, hS]
                 refine ⟨rfl, gh_open.2 ⟨ab, cap, upE es1 a.h.toNat ((es1 a.h.toNat).1, u2), ghO_open.2 ?_⟩⟩
                 rw [cnt_ins (by omega) hf rfl]
                 exact Holds.to (by assumption))
              | (have hc : insC n most s id a = 1 := if_pos (fun hh => by first | exact h0 hh.1 | exact h1 hh.2.1.1 | exact h2 hh.2.1.2 | exact h3 hh.2.2)
                 have hS : insS n most s id a = s := if_neg (by rw [hc]; decide)
                 rw [hc, hS]
                 exact ⟨rfl, gh_open.2 ⟨ab, cap, es, ghO_open.2 (Holds.to (by assumption))⟩⟩)
              | (have hc : insC n most s id a = 4 := by unfold insC; rw [if_neg (fun hh => hh ⟨hpl, hok⟩), if_pos h4]
                 have hS : insS n most s id a = s := if_neg (by rw [hc]; decide)
                 rw [hc, hS]
                 exact ⟨rfl, gh_open.2 ⟨ab, cap, es, ghO_open.2 (Holds.to (by assumption))⟩⟩)
              | (have hc : insC n most s id a = 2 := by unfold insC; rw [if_neg (fun hh => hh ⟨hpl, hok⟩), if_neg (by simpa using h4), if_pos h5]
                 have hS : insS n most s id a = s := if_neg (by rw [hc]; decide)
                 rw [hc, hS]
                 exact ⟨rfl, gh_open.2 ⟨ab, cap, es, ghO_open.2 (Holds.to (by assumption))⟩⟩)
end Go.Proofs.Ytliofdfhimmjmaa
