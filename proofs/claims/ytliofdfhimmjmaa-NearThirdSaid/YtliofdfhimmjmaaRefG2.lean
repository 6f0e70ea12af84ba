import Derived.Test.YtliofdfhimmjmaaRefG
--ARR
--LOADS loadRT loadRA loadRN loadRM
--AGGLOADS loadRArc
namespace Go.Proofs.Ytliofdfhimmjmaa
open Go.Rr Go Gr
set_option linter.unusedVariables false
theorem upS_tk {s : St} {i : Nat} {x : Sl} (k : Nat) : (upS s i x k).tk = if k = i then x.tk else (s k).tk := by unfold upS; split <;> rfl
theorem upS_a {s : St} {i : Nat} {x : Sl} (k : Nat) : (upS s i x k).a = if k = i then x.a else (s k).a := by unfold upS; split <;> rfl
theorem rcode_ct {w : World} {r : Nat} {n most id : Int} {s : St} {L : List HProp} (H : Holds w (Rg r n most s :: L)) :
    CT Try.prog 46 [.pointer (some ⟨r, 0, none⟩), .int .i64 id] w fun u w' => u = .int .i64 (thC s id) ∧ Holds w' (Rg r n most s :: L) := by
  refine CT.enter (N := 18) Try.func46 rfl rfl rfl rfl ?_
  refine W.seq (fun K0 hK0 => ?_)
  refine W.region ?_
  refine O.ex (Ex.assign rfl) rfl ?_
  refine O.nil ?_
  refine hK0 _ _ _ ?_
  refine W.seq (fun K1 hK1 => ?_)
  refine W.seq (fun K2 hK2 => ?_)
  refine W.region ?_
  refine O.ex (Ex.move rfl) rfl ?_
  refine O.ex (Ex.lss rfl rfl) rfl ?_
  refine O.ex (Ex.move rfl) rfl ?_
  first | refine O.split_p (t := 7) rfl (fun h0 => ?_) (fun h0 => ?_) | refine O.split (t := 7) rfl (fun h0 => ?_) (fun h0 => ?_)
  · refine O.guard_f rfl rfl rfl rfl ?_
    refine O.guard_f rfl rfl rfl rfl ?_
    refine O.ex (Ex.pick_t rfl rfl) rfl ?_
    refine O.nil ?_
    refine hK2 _ _ _ ?_
    refine W.cond_t rfl ?_
    refine W.seq (fun K3 hK3 => ?_)
    refine W.region ?_
    refine O.ex (Ex.assign rfl) rfl ?_
    refine O.nil ?_
    refine hK3 _ _ _ ?_
    refine W.ret ?_
    try dsimp only [thenQ, blockQ, retQ]
    first | refine ⟨_, ⟨_, _, rfl, rfl, rfl⟩, ?_⟩ | (refine retD_mark ?_; intro w H; refine ⟨_, ⟨_, _, rfl, rfl, rfl⟩, ?_⟩) | (refine retD_mark2 ?_; intro w H; refine ⟨_, ⟨_, _, rfl, rfl, rfl⟩, ?_⟩)
    first
    | (rw [show thC s id = 1 from if_pos (fun hh => by have := hh.1; have := hh.2; omega)]; exact ⟨rfl, Holds.to (by assumption)⟩)
    | (rw [show thC s id = 3 from by unfold thC; rw [if_neg (fun hh => hh ⟨by omega, by omega⟩), if_neg (by simpa using hC)]]; exact ⟨rfl, Holds.to (by assumption)⟩)
    | (rw [show thC s id = 0 from thC_zero.2 ⟨⟨by omega, by omega⟩, by simpa using hD⟩]; exact ⟨rfl, Holds.to (by assumption)⟩)
  · refine O.guard_t rfl rfl ?_
    refine O.ex (Ex.move rfl) rfl ?_
    refine O.guard_t rfl rfl ?_
    refine O.ex (Ex.gtr rfl rfl) rfl ?_
    refine O.ex (Ex.pick_f rfl rfl) rfl ?_
    refine O.nil ?_
    refine hK2 _ _ _ ?_
    first | refine W.cond_p rfl (fun h1 => ?_) (fun h1 => ?_) | refine W.cond_b rfl (fun h1 => ?_) (fun h1 => ?_)
    · refine W.seq (fun K4 hK4 => ?_)
      refine W.region ?_
      refine O.ex (Ex.assign rfl) rfl ?_
      refine O.nil ?_
      refine hK4 _ _ _ ?_
      refine W.ret ?_
      try dsimp only [thenQ, blockQ, retQ]
      first | refine ⟨_, ⟨_, _, rfl, rfl, rfl⟩, ?_⟩ | (refine retD_mark ?_; intro w H; refine ⟨_, ⟨_, _, rfl, rfl, rfl⟩, ?_⟩) | (refine retD_mark2 ?_; intro w H; refine ⟨_, ⟨_, _, rfl, rfl, rfl⟩, ?_⟩)
      first
      | (rw [show thC s id = 1 from if_pos (fun hh => by have := hh.1; have := hh.2; omega)]; exact ⟨rfl, Holds.to (by assumption)⟩)
      | (rw [show thC s id = 3 from by unfold thC; rw [if_neg (fun hh => hh ⟨by omega, by omega⟩), if_neg (by simpa using hC)]]; exact ⟨rfl, Holds.to (by assumption)⟩)
      | (rw [show thC s id = 0 from thC_zero.2 ⟨⟨by omega, by omega⟩, by simpa using hD⟩]; exact ⟨rfl, Holds.to (by assumption)⟩)
    · refine W.skip ?_
      refine hK1 _ _ _ ?_
      refine W.seq (fun K5 hK5 => ?_)
      refine W.seq (fun K6 hK6 => ?_)
      refine W.region ?_
      refine O.ex (Ex.move rfl) rfl ?_
      refine O.ex (Ex.move rfl) rfl ?_
      refine O.ex (by first | exact Ex.nilPtr rfl | exact Ex.nilFunc rfl | exact Ex.nilYield rfl) rfl ?_
      refine O.ex (by first | exact Ex.field0 fld45_2 rfl | exact Ex.field fld45_2 rfl | exact Ex.fieldS fld45_2 rfl) rfl ?_
      refine O.ex (Ex.idxArr Try.runUnderlying40 Try.sizeOf4 rfl rfl) rfl ?_
      refine O.ex (by first | exact Ex.loadRT Try.isAgg4 rfl | exact Ex.loadRA Try.isAgg4 rfl | exact Ex.loadRN Try.isAgg4 rfl | exact Ex.loadRM Try.isAgg4 rfl | exact Ex.loadM Try.isAgg4 rfl | exact Ex.loadVc Try.isAgg4 rfl | exact Ex.loadP Try.isAgg4 rfl | exact Ex.loadIn1 Try.isAgg4 rfl (Holds.to (by assumption)) | exact Ex.loadMh Try.isAgg4 rfl | exact Ex.loadR Try.isAgg4 rfl | exact Ex.loadQ Try.isAgg4 rfl) rfl ?_
      refine O.ex (by first | exact Ex.notD rfl | exact Ex.not rfl) rfl ?_
      refine O.nil ?_
      refine hK6 _ _ _ ?_
      first | refine W.cond_p rfl (fun hC => ?_) (fun hD => ?_) | refine W.cond_b rfl (fun hC => ?_) (fun hD => ?_)
      · refine W.seq (fun K7 hK7 => ?_)
        refine W.region ?_
        refine O.ex (Ex.assign rfl) rfl ?_
        refine O.nil ?_
        refine hK7 _ _ _ ?_
        refine W.ret ?_
        try dsimp only [thenQ, blockQ, retQ]
        first | refine ⟨_, ⟨_, _, rfl, rfl, rfl⟩, ?_⟩ | (refine retD_mark ?_; intro w H; refine ⟨_, ⟨_, _, rfl, rfl, rfl⟩, ?_⟩) | (refine retD_mark2 ?_; intro w H; refine ⟨_, ⟨_, _, rfl, rfl, rfl⟩, ?_⟩)
        first
        | (rw [show thC s id = 1 from if_pos (fun hh => by have := hh.1; have := hh.2; omega)]; exact ⟨rfl, Holds.to (by assumption)⟩)
        | (rw [show thC s id = 3 from by unfold thC; rw [if_neg (fun hh => hh ⟨by omega, by omega⟩), if_neg (by simpa using hC)]]; exact ⟨rfl, Holds.to (by assumption)⟩)
        | (rw [show thC s id = 0 from thC_zero.2 ⟨⟨by omega, by omega⟩, by simpa using hD⟩]; exact ⟨rfl, Holds.to (by assumption)⟩)
      · refine W.skip ?_
        refine hK5 _ _ _ ?_
        refine W.seq (fun K8 hK8 => ?_)
        refine W.region ?_
        refine O.ex (Ex.assign rfl) rfl ?_
        refine O.nil ?_
        refine hK8 _ _ _ ?_
        refine W.ret ?_
        try dsimp only [thenQ, blockQ, retQ]
        first | refine ⟨_, ⟨_, _, rfl, rfl, rfl⟩, ?_⟩ | (refine retD_mark ?_; intro w H; refine ⟨_, ⟨_, _, rfl, rfl, rfl⟩, ?_⟩) | (refine retD_mark2 ?_; intro w H; refine ⟨_, ⟨_, _, rfl, rfl, rfl⟩, ?_⟩)
        first
        | (rw [show thC s id = 1 from if_pos (fun hh => by have := hh.1; have := hh.2; omega)]; exact ⟨rfl, Holds.to (by assumption)⟩)
        | (rw [show thC s id = 3 from by unfold thC; rw [if_neg (fun hh => hh ⟨by omega, by omega⟩), if_neg (by simpa using hC)]]; exact ⟨rfl, Holds.to (by assumption)⟩)
        | (rw [show thC s id = 0 from thC_zero.2 ⟨⟨by omega, by omega⟩, by simpa using hD⟩]; exact ⟨rfl, Holds.to (by assumption)⟩)
set_option maxHeartbeats 1000000 in
theorem rinsert_ct {w : World} {r : Nat} {n most id : Int} {s : St} {a : Arc} {L : List HProp} (H : Holds w (Rg r n most s :: L)) :
    CT Try.prog 62 [.pointer (some ⟨r, 0, none⟩), .int .i64 id, a.val] w fun u w' => u = .int .i64 (insC n most s id a) ∧ Holds w' (Rg r n most (insS n most s id a) :: L) := by
  refine CT.enter (N := 57) Try.func62 rfl rfl rfl rfl ?_
  refine W.seq (fun K0 hK0 => ?_)
  refine W.region ?_
  refine O.boxP rfl (fun b5 w H => ?_)
  refine O.ex (Ex.assign rfl) rfl ?_
  refine O.nil ?_
  refine hK0 _ _ _ ?_
  refine W.seq (fun K1 hK1 => ?_)
  refine W.seq (fun K2 hK2 => ?_)
  refine W.region ?_
  refine O.ex (Ex.move rfl) rfl ?_
  refine O.ex (Ex.lss rfl rfl) rfl ?_
  refine O.ex (Ex.move rfl) rfl ?_
  first | refine O.split_p (t := 9) rfl (fun h0 => ?_) (fun h0 => ?_) | refine O.split (t := 9) rfl (fun h0 => ?_) (fun h0 => ?_)
  · refine O.guard_f rfl rfl rfl rfl ?_
    refine O.guard_f rfl rfl rfl rfl ?_
    refine O.ex (Ex.pick_t rfl rfl) rfl ?_
    refine O.ex (Ex.move rfl) rfl ?_
    refine O.guard_f rfl rfl rfl rfl ?_
    refine O.guard_f rfl rfl rfl rfl ?_
    refine O.guard_f rfl rfl rfl rfl ?_
    refine O.guard_f rfl rfl rfl rfl ?_
    refine O.guard_f rfl rfl rfl rfl ?_
    refine O.ex (Ex.pick_t rfl rfl) rfl ?_
    refine O.ex (Ex.move rfl) rfl ?_
    refine O.guard_f rfl rfl rfl rfl ?_
    refine O.guard_f rfl rfl rfl rfl ?_
    refine O.guard_f rfl rfl rfl rfl ?_
    refine O.guard_f rfl rfl rfl rfl ?_
    refine O.guard_f rfl rfl rfl rfl ?_
    refine O.ex (Ex.pick_t rfl rfl) rfl ?_
    refine O.ex (Ex.move rfl) rfl ?_
    refine O.guard_f rfl rfl rfl rfl ?_
    refine O.guard_f rfl rfl rfl rfl ?_
    refine O.guard_f rfl rfl rfl rfl ?_
    refine O.guard_f rfl rfl rfl rfl ?_
    refine O.ex (Ex.pick_t rfl rfl) rfl ?_
    refine O.nil ?_
    refine hK2 _ _ _ ?_
    refine W.cond_t rfl ?_
    refine W.seq (fun K3 hK3 => ?_)
    refine W.region ?_
    refine O.ex (Ex.assign rfl) rfl ?_
    refine O.nil ?_
    refine hK3 _ _ _ ?_
    refine W.ret ?_
    try dsimp only [thenQ, blockQ, retQ]
    first | refine ⟨_, ⟨_, _, rfl, rfl, rfl⟩, ?_⟩ | (refine retD_mark ?_; intro w H; refine ⟨_, ⟨_, _, rfl, rfl, rfl⟩, ?_⟩) | (refine retD_mark2 ?_; intro w H; refine ⟨_, ⟨_, _, rfl, rfl, rfl⟩, ?_⟩)
    first
    | (rw [hin, hS]; exact ⟨rfl, Holds.to (by assumption)⟩)
    | (have hc : insC n most s id a = 1 := if_pos (fun hh => by
         first
         | exact h2 hh.2.1.1
         | exact h3 hh.2.1.2
         | exact h4 hh.2.2
         | (have := hh.1.1; have := hh.1.2; omega))
       rw [hc, show insS n most s id a = s from if_neg (by rw [hc]; decide)]
       exact ⟨rfl, Holds.to (by assumption)⟩)
    | (have hc : insC n most s id a = 4 := by unfold insC; rw [if_neg (fun hh => hh ⟨hpl, hok⟩), if_pos h5]
       rw [hc, show insS n most s id a = s from if_neg (by rw [hc]; decide)]
       exact ⟨rfl, Holds.to (by assumption)⟩)
    | (have hc : insC n most s id a = 2 := by unfold insC; rw [if_neg (fun hh => hh ⟨hpl, hok⟩), if_neg (by simpa using h5), if_pos h6]
       rw [hc, show insS n most s id a = s from if_neg (by rw [hc]; decide)]
       exact ⟨rfl, Holds.to (by assumption)⟩)
  · refine O.guard_t rfl rfl ?_
    refine O.ex (Ex.move rfl) rfl ?_
    refine O.guard_t rfl rfl ?_
    refine O.ex (Ex.gtr rfl rfl) rfl ?_
    refine O.ex (Ex.pick_f rfl rfl) rfl ?_
    refine O.ex (Ex.move rfl) rfl ?_
    first | refine O.split_p (t := 13) rfl (fun h1 => ?_) (fun h1 => ?_) | refine O.split (t := 13) rfl (fun h1 => ?_) (fun h1 => ?_)
    · refine O.guard_f rfl rfl rfl rfl ?_
      refine O.guard_f rfl rfl rfl rfl ?_
      refine O.guard_f rfl rfl rfl rfl ?_
      refine O.guard_f rfl rfl rfl rfl ?_
      refine O.guard_f rfl rfl rfl rfl ?_
      refine O.ex (Ex.pick_t rfl rfl) rfl ?_
      refine O.ex (Ex.move rfl) rfl ?_
      refine O.guard_f rfl rfl rfl rfl ?_
      refine O.guard_f rfl rfl rfl rfl ?_
      refine O.guard_f rfl rfl rfl rfl ?_
      refine O.guard_f rfl rfl rfl rfl ?_
      refine O.guard_f rfl rfl rfl rfl ?_
      refine O.ex (Ex.pick_t rfl rfl) rfl ?_
      refine O.ex (Ex.move rfl) rfl ?_
      refine O.guard_f rfl rfl rfl rfl ?_
      refine O.guard_f rfl rfl rfl rfl ?_
      refine O.guard_f rfl rfl rfl rfl ?_
      refine O.guard_f rfl rfl rfl rfl ?_
      refine O.ex (Ex.pick_t rfl rfl) rfl ?_
      refine O.nil ?_
      refine hK2 _ _ _ ?_
      refine W.cond_t rfl ?_
      refine W.seq (fun K4 hK4 => ?_)
      refine W.region ?_
      refine O.ex (Ex.assign rfl) rfl ?_
      refine O.nil ?_
      refine hK4 _ _ _ ?_
      refine W.ret ?_
      try dsimp only [thenQ, blockQ, retQ]
      first | refine ⟨_, ⟨_, _, rfl, rfl, rfl⟩, ?_⟩ | (refine retD_mark ?_; intro w H; refine ⟨_, ⟨_, _, rfl, rfl, rfl⟩, ?_⟩) | (refine retD_mark2 ?_; intro w H; refine ⟨_, ⟨_, _, rfl, rfl, rfl⟩, ?_⟩)
      first
      | (rw [hin, hS]; exact ⟨rfl, Holds.to (by assumption)⟩)
      | (have hc : insC n most s id a = 1 := if_pos (fun hh => by
           first
           | exact h2 hh.2.1.1
           | exact h3 hh.2.1.2
           | exact h4 hh.2.2
           | (have := hh.1.1; have := hh.1.2; omega))
         rw [hc, show insS n most s id a = s from if_neg (by rw [hc]; decide)]
         exact ⟨rfl, Holds.to (by assumption)⟩)
      | (have hc : insC n most s id a = 4 := by unfold insC; rw [if_neg (fun hh => hh ⟨hpl, hok⟩), if_pos h5]
         rw [hc, show insS n most s id a = s from if_neg (by rw [hc]; decide)]
         exact ⟨rfl, Holds.to (by assumption)⟩)
      | (have hc : insC n most s id a = 2 := by unfold insC; rw [if_neg (fun hh => hh ⟨hpl, hok⟩), if_neg (by simpa using h5), if_pos h6]
         rw [hc, show insS n most s id a = s from if_neg (by rw [hc]; decide)]
         exact ⟨rfl, Holds.to (by assumption)⟩)
    · refine O.guard_t rfl rfl ?_
      refine O.ex (Ex.move rfl) rfl ?_
      refine O.guard_t rfl rfl ?_
      refine O.ex (by first | exact Ex.field0 fld42_0 rfl | exact Ex.field fld42_0 rfl | exact Ex.fieldS fld42_0 rfl) rfl ?_
      refine O.guard_t rfl rfl ?_
      refine O.ex (by first | exact Ex.loadRT Try.isAgg3 rfl | exact Ex.loadRA Try.isAgg3 rfl | exact Ex.loadRN Try.isAgg3 rfl | exact Ex.loadRM Try.isAgg3 rfl | exact Ex.loadMh Try.isAgg3 rfl | exact Ex.loadP Try.isAgg3 rfl | exact Ex.loadM Try.isAgg3 rfl | exact Ex.loadIn1 Try.isAgg3 rfl (Holds.to (by assumption)) | exact Ex.loadVc Try.isAgg3 rfl | exact Ex.loadR Try.isAgg3 rfl | exact Ex.loadQ Try.isAgg3 rfl) rfl ?_
      refine O.guard_t rfl rfl ?_
      refine O.callF Try.call13 rfl rfl (CT.mono (rvertex_ct (Holds.to (by assumption))) ?_)
      rintro _ w ⟨rfl, H⟩
      refine O.guard_t rfl rfl ?_
      refine O.ex (by first | exact Ex.notD rfl | exact Ex.not rfl) rfl ?_
      refine O.ex (Ex.pick_f rfl rfl) rfl ?_
      refine O.ex (Ex.move rfl) rfl ?_
      first | refine O.split_p (t := 20) rfl (fun h2 => ?_) (fun h2 => ?_) | refine O.split (t := 20) rfl (fun h2 => ?_) (fun h2 => ?_)
      · refine O.guard_f rfl rfl rfl rfl ?_
        refine O.guard_f rfl rfl rfl rfl ?_
        refine O.guard_f rfl rfl rfl rfl ?_
        refine O.guard_f rfl rfl rfl rfl ?_
        refine O.guard_f rfl rfl rfl rfl ?_
        refine O.ex (Ex.pick_t rfl rfl) rfl ?_
        refine O.ex (Ex.move rfl) rfl ?_
        refine O.guard_f rfl rfl rfl rfl ?_
        refine O.guard_f rfl rfl rfl rfl ?_
        refine O.guard_f rfl rfl rfl rfl ?_
        refine O.guard_f rfl rfl rfl rfl ?_
        refine O.ex (Ex.pick_t rfl rfl) rfl ?_
        refine O.nil ?_
        refine hK2 _ _ _ ?_
        refine W.cond_t rfl ?_
        refine W.seq (fun K5 hK5 => ?_)
        refine W.region ?_
        refine O.ex (Ex.assign rfl) rfl ?_
        refine O.nil ?_
        refine hK5 _ _ _ ?_
        refine W.ret ?_
        try dsimp only [thenQ, blockQ, retQ]
        first | refine ⟨_, ⟨_, _, rfl, rfl, rfl⟩, ?_⟩ | (refine retD_mark ?_; intro w H; refine ⟨_, ⟨_, _, rfl, rfl, rfl⟩, ?_⟩) | (refine retD_mark2 ?_; intro w H; refine ⟨_, ⟨_, _, rfl, rfl, rfl⟩, ?_⟩)
        first
        | (rw [hin, hS]; exact ⟨rfl, Holds.to (by assumption)⟩)
        | (have hc : insC n most s id a = 1 := if_pos (fun hh => by
             first
             | exact h2 hh.2.1.1
             | exact h3 hh.2.1.2
             | exact h4 hh.2.2
             | (have := hh.1.1; have := hh.1.2; omega))
           rw [hc, show insS n most s id a = s from if_neg (by rw [hc]; decide)]
           exact ⟨rfl, Holds.to (by assumption)⟩)
        | (have hc : insC n most s id a = 4 := by unfold insC; rw [if_neg (fun hh => hh ⟨hpl, hok⟩), if_pos h5]
           rw [hc, show insS n most s id a = s from if_neg (by rw [hc]; decide)]
           exact ⟨rfl, Holds.to (by assumption)⟩)
        | (have hc : insC n most s id a = 2 := by unfold insC; rw [if_neg (fun hh => hh ⟨hpl, hok⟩), if_neg (by simpa using h5), if_pos h6]
           rw [hc, show insS n most s id a = s from if_neg (by rw [hc]; decide)]
           exact ⟨rfl, Holds.to (by assumption)⟩)
      · refine O.guard_t rfl rfl ?_
        refine O.ex (Ex.move rfl) rfl ?_
        refine O.guard_t rfl rfl ?_
        refine O.ex (by first | exact Ex.field0 fld42_1 rfl | exact Ex.field fld42_1 rfl | exact Ex.fieldS fld42_1 rfl) rfl ?_
        refine O.guard_t rfl rfl ?_
        refine O.ex (by first | exact Ex.loadRT Try.isAgg3 rfl | exact Ex.loadRA Try.isAgg3 rfl | exact Ex.loadRN Try.isAgg3 rfl | exact Ex.loadRM Try.isAgg3 rfl | exact Ex.loadMh Try.isAgg3 rfl | exact Ex.loadP Try.isAgg3 rfl | exact Ex.loadM Try.isAgg3 rfl | exact Ex.loadIn1 Try.isAgg3 rfl (Holds.to (by assumption)) | exact Ex.loadVc Try.isAgg3 rfl | exact Ex.loadR Try.isAgg3 rfl | exact Ex.loadQ Try.isAgg3 rfl) rfl ?_
        refine O.guard_t rfl rfl ?_
        refine O.callF Try.call13 rfl rfl (CT.mono (rvertex_ct (Holds.to (by assumption))) ?_)
        rintro _ w ⟨rfl, H⟩
        refine O.guard_t rfl rfl ?_
        refine O.ex (by first | exact Ex.notD rfl | exact Ex.not rfl) rfl ?_
        refine O.ex (Ex.pick_f rfl rfl) rfl ?_
        refine O.ex (Ex.move rfl) rfl ?_
        first | refine O.split_p (t := 27) rfl (fun h3 => ?_) (fun h3 => ?_) | refine O.split (t := 27) rfl (fun h3 => ?_) (fun h3 => ?_)
        · refine O.guard_f rfl rfl rfl rfl ?_
          refine O.guard_f rfl rfl rfl rfl ?_
          refine O.guard_f rfl rfl rfl rfl ?_
          refine O.guard_f rfl rfl rfl rfl ?_
          refine O.ex (Ex.pick_t rfl rfl) rfl ?_
          refine O.nil ?_
          refine hK2 _ _ _ ?_
          refine W.cond_t rfl ?_
          refine W.seq (fun K6 hK6 => ?_)
          refine W.region ?_
          refine O.ex (Ex.assign rfl) rfl ?_
          refine O.nil ?_
          refine hK6 _ _ _ ?_
          refine W.ret ?_
          try dsimp only [thenQ, blockQ, retQ]
          first | refine ⟨_, ⟨_, _, rfl, rfl, rfl⟩, ?_⟩ | (refine retD_mark ?_; intro w H; refine ⟨_, ⟨_, _, rfl, rfl, rfl⟩, ?_⟩) | (refine retD_mark2 ?_; intro w H; refine ⟨_, ⟨_, _, rfl, rfl, rfl⟩, ?_⟩)
          first
          | (rw [hin, hS]; exact ⟨rfl, Holds.to (by assumption)⟩)
          | (have hc : insC n most s id a = 1 := if_pos (fun hh => by
               first
               | exact h2 hh.2.1.1
               | exact h3 hh.2.1.2
               | exact h4 hh.2.2
               | (have := hh.1.1; have := hh.1.2; omega))
             rw [hc, show insS n most s id a = s from if_neg (by rw [hc]; decide)]
             exact ⟨rfl, Holds.to (by assumption)⟩)
          | (have hc : insC n most s id a = 4 := by unfold insC; rw [if_neg (fun hh => hh ⟨hpl, hok⟩), if_pos h5]
             rw [hc, show insS n most s id a = s from if_neg (by rw [hc]; decide)]
             exact ⟨rfl, Holds.to (by assumption)⟩)
          | (have hc : insC n most s id a = 2 := by unfold insC; rw [if_neg (fun hh => hh ⟨hpl, hok⟩), if_neg (by simpa using h5), if_pos h6]
             rw [hc, show insS n most s id a = s from if_neg (by rw [hc]; decide)]
             exact ⟨rfl, Holds.to (by assumption)⟩)
        · refine O.guard_t rfl rfl ?_
          refine O.ex (by first | exact Ex.field0 fld42_2 rfl | exact Ex.field fld42_2 rfl | exact Ex.fieldS fld42_2 rfl) rfl ?_
          refine O.guard_t rfl rfl ?_
          refine O.ex (by first | exact Ex.loadRT Try.isAgg3 rfl | exact Ex.loadRA Try.isAgg3 rfl | exact Ex.loadRN Try.isAgg3 rfl | exact Ex.loadRM Try.isAgg3 rfl | exact Ex.loadMh Try.isAgg3 rfl | exact Ex.loadP Try.isAgg3 rfl | exact Ex.loadM Try.isAgg3 rfl | exact Ex.loadIn1 Try.isAgg3 rfl (Holds.to (by assumption)) | exact Ex.loadVc Try.isAgg3 rfl | exact Ex.loadR Try.isAgg3 rfl | exact Ex.loadQ Try.isAgg3 rfl) rfl ?_
          refine O.guard_t rfl rfl ?_
          refine O.callF Try.call90 rfl rfl (CT.mono (rweight_ct (Holds.to (by assumption))) ?_)
          rintro _ w ⟨rfl, H⟩
          refine O.guard_t rfl rfl ?_
          refine O.ex (by first | exact Ex.notD rfl | exact Ex.not rfl) rfl ?_
          refine O.ex (Ex.pick_f rfl rfl) rfl ?_
          refine O.nil ?_
          refine hK2 _ _ _ ?_
          first | refine W.cond_p rfl (fun h4 => ?_) (fun h4 => ?_) | refine W.cond_b rfl (fun h4 => ?_) (fun h4 => ?_)
          · refine W.seq (fun K7 hK7 => ?_)
            refine W.region ?_
            refine O.ex (Ex.assign rfl) rfl ?_
            refine O.nil ?_
            refine hK7 _ _ _ ?_
            refine W.ret ?_
            try dsimp only [thenQ, blockQ, retQ]
            first | refine ⟨_, ⟨_, _, rfl, rfl, rfl⟩, ?_⟩ | (refine retD_mark ?_; intro w H; refine ⟨_, ⟨_, _, rfl, rfl, rfl⟩, ?_⟩) | (refine retD_mark2 ?_; intro w H; refine ⟨_, ⟨_, _, rfl, rfl, rfl⟩, ?_⟩)
            first
            | (rw [hin, hS]; exact ⟨rfl, Holds.to (by assumption)⟩)
            | (have hc : insC n most s id a = 1 := if_pos (fun hh => by
                 first
                 | exact h2 hh.2.1.1
                 | exact h3 hh.2.1.2
                 | exact h4 hh.2.2
                 | (have := hh.1.1; have := hh.1.2; omega))
               rw [hc, show insS n most s id a = s from if_neg (by rw [hc]; decide)]
               exact ⟨rfl, Holds.to (by assumption)⟩)
            | (have hc : insC n most s id a = 4 := by unfold insC; rw [if_neg (fun hh => hh ⟨hpl, hok⟩), if_pos h5]
               rw [hc, show insS n most s id a = s from if_neg (by rw [hc]; decide)]
               exact ⟨rfl, Holds.to (by assumption)⟩)
            | (have hc : insC n most s id a = 2 := by unfold insC; rw [if_neg (fun hh => hh ⟨hpl, hok⟩), if_neg (by simpa using h5), if_pos h6]
               rw [hc, show insS n most s id a = s from if_neg (by rw [hc]; decide)]
               exact ⟨rfl, Holds.to (by assumption)⟩)
          · refine W.skip ?_
            refine hK1 _ _ _ ?_
            refine W.seq (fun K8 hK8 => ?_)
            refine W.seq (fun K9 hK9 => ?_)
            refine W.region ?_
            have hpl : pl id := ⟨by omega, by omega⟩
            have hok : okA n a := ⟨⟨Decidable.not_not.1 h2, Decidable.not_not.1 h3⟩, Decidable.not_not.1 h4⟩
            have p0 := hpl.1
            have p1 := hpl.2
            refine O.ex (Ex.move rfl) rfl ?_
            refine O.ex (Ex.move rfl) rfl ?_
            refine O.ex (by first | exact Ex.nilPtr rfl | exact Ex.nilFunc rfl | exact Ex.nilYield rfl) rfl ?_
            refine O.ex (by first | exact Ex.field0 fld45_2 rfl | exact Ex.field fld45_2 rfl | exact Ex.fieldS fld45_2 rfl) rfl ?_
            refine O.ex (Ex.idxArr Try.runUnderlying40 Try.sizeOf4 rfl rfl) rfl ?_
            refine O.ex (by first | exact Ex.loadRT Try.isAgg4 rfl | exact Ex.loadRA Try.isAgg4 rfl | exact Ex.loadRN Try.isAgg4 rfl | exact Ex.loadRM Try.isAgg4 rfl | exact Ex.loadM Try.isAgg4 rfl | exact Ex.loadVc Try.isAgg4 rfl | exact Ex.loadP Try.isAgg4 rfl | exact Ex.loadIn1 Try.isAgg4 rfl (Holds.to (by assumption)) | exact Ex.loadMh Try.isAgg4 rfl | exact Ex.loadR Try.isAgg4 rfl | exact Ex.loadQ Try.isAgg4 rfl) rfl ?_
            refine O.nil ?_
            refine hK9 _ _ _ ?_
            first | refine W.cond_p rfl (fun h5 => ?_) (fun h5 => ?_) | refine W.cond_b rfl (fun h5 => ?_) (fun h5 => ?_)
            · refine W.seq (fun K10 hK10 => ?_)
              refine W.region ?_
              refine O.ex (Ex.assign rfl) rfl ?_
              refine O.nil ?_
              refine hK10 _ _ _ ?_
              refine W.ret ?_
              try dsimp only [thenQ, blockQ, retQ]
              first | refine ⟨_, ⟨_, _, rfl, rfl, rfl⟩, ?_⟩ | (refine retD_mark ?_; intro w H; refine ⟨_, ⟨_, _, rfl, rfl, rfl⟩, ?_⟩) | (refine retD_mark2 ?_; intro w H; refine ⟨_, ⟨_, _, rfl, rfl, rfl⟩, ?_⟩)
              first
              | (rw [hin, hS]; exact ⟨rfl, Holds.to (by assumption)⟩)
              | (have hc : insC n most s id a = 1 := if_pos (fun hh => by
                   first
                   | exact h2 hh.2.1.1
                   | exact h3 hh.2.1.2
                   | exact h4 hh.2.2
                   | (have := hh.1.1; have := hh.1.2; omega))
                 rw [hc, show insS n most s id a = s from if_neg (by rw [hc]; decide)]
                 exact ⟨rfl, Holds.to (by assumption)⟩)
              | (have hc : insC n most s id a = 4 := by unfold insC; rw [if_neg (fun hh => hh ⟨hpl, hok⟩), if_pos h5]
                 rw [hc, show insS n most s id a = s from if_neg (by rw [hc]; decide)]
                 exact ⟨rfl, Holds.to (by assumption)⟩)
              | (have hc : insC n most s id a = 2 := by unfold insC; rw [if_neg (fun hh => hh ⟨hpl, hok⟩), if_neg (by simpa using h5), if_pos h6]
                 rw [hc, show insS n most s id a = s from if_neg (by rw [hc]; decide)]
                 exact ⟨rfl, Holds.to (by assumption)⟩)
            · refine W.skip ?_
              refine hK8 _ _ _ ?_
              refine W.seq (fun K11 hK11 => ?_)
              refine W.seq (fun K12 hK12 => ?_)
              refine W.drawTo _ (.take 0 (.take 2 (.take 3 (.take 4 (.take 5 (.one 1 (.take 6 .nil))))))) (mixed) (fun _ _ _ _ h => h) (by assumption) (PP.refl _) (by decide +kernel) (fun w H => ?_)
              refine OQ.ex rfl (fun w H => (Ex.move rfl)) rfl ?_
              refine OQ.ex rfl (fun w H => (Ex.move rfl)) rfl ?_
              refine OQ.ex rfl (fun w H => (by first | exact Ex.nilPtr rfl | exact Ex.nilFunc rfl | exact Ex.nilYield rfl)) rfl ?_
              refine OQ.ex rfl (fun w H => (by first | exact Ex.field0 fld45_1 rfl | exact Ex.field fld45_1 rfl | exact Ex.fieldS fld45_1 rfl)) rfl ?_
              refine OQ.ex rfl (fun w H => (by first | exact Ex.loadRT Try.isAgg3 rfl | exact Ex.loadRA Try.isAgg3 rfl | exact Ex.loadRN Try.isAgg3 rfl | exact Ex.loadRM Try.isAgg3 rfl | exact Ex.loadMh Try.isAgg3 rfl | exact Ex.loadP Try.isAgg3 rfl | exact Ex.loadM Try.isAgg3 rfl | exact Ex.loadIn1 Try.isAgg3 rfl (Holds.to (by assumption)) | exact Ex.loadVc Try.isAgg3 rfl | exact Ex.loadR Try.isAgg3 rfl | exact Ex.loadQ Try.isAgg3 rfl)) rfl ?_
              refine OQ.step rfl ?_
              refine O.callF Try.call91 rfl rfl (CT.mono (rlen_ct (Holds.to (by assumption))) ?_)
              rintro _ w ⟨rfl, H⟩
              refine O.thenNil ⟨(by first | exact Holds.to (by assumption) | assumption), ?_⟩
              refine OQ.ex rfl (fun w H => (Ex.geq rfl rfl)) rfl ?_
              refine OQ.done ?_
              refine hK12 _ _ _ ?_
              first | refine W.cond_p rfl (fun h6 => ?_) (fun h6 => ?_) | refine W.cond_b rfl (fun h6 => ?_) (fun h6 => ?_)
              · refine W.seq (fun K13 hK13 => ?_)
                refine W.region ?_
                refine O.ex (Ex.assign rfl) rfl ?_
                refine O.nil ?_
                refine hK13 _ _ _ ?_
                refine W.ret ?_
                try dsimp only [thenQ, blockQ, retQ]
                first | refine ⟨_, ⟨_, _, rfl, rfl, rfl⟩, ?_⟩ | (refine retD_mark ?_; intro w H; refine ⟨_, ⟨_, _, rfl, rfl, rfl⟩, ?_⟩) | (refine retD_mark2 ?_; intro w H; refine ⟨_, ⟨_, _, rfl, rfl, rfl⟩, ?_⟩)
                first
                | (rw [hin, hS]; exact ⟨rfl, Holds.to (by assumption)⟩)
                | (have hc : insC n most s id a = 1 := if_pos (fun hh => by
                     first
                     | exact h2 hh.2.1.1
                     | exact h3 hh.2.1.2
                     | exact h4 hh.2.2
                     | (have := hh.1.1; have := hh.1.2; omega))
                   rw [hc, show insS n most s id a = s from if_neg (by rw [hc]; decide)]
                   exact ⟨rfl, Holds.to (by assumption)⟩)
                | (have hc : insC n most s id a = 4 := by unfold insC; rw [if_neg (fun hh => hh ⟨hpl, hok⟩), if_pos h5]
                   rw [hc, show insS n most s id a = s from if_neg (by rw [hc]; decide)]
                   exact ⟨rfl, Holds.to (by assumption)⟩)
                | (have hc : insC n most s id a = 2 := by unfold insC; rw [if_neg (fun hh => hh ⟨hpl, hok⟩), if_neg (by simpa using h5), if_pos h6]
                   rw [hc, show insS n most s id a = s from if_neg (by rw [hc]; decide)]
                   exact ⟨rfl, Holds.to (by assumption)⟩)
              · refine W.skip ?_
                refine hK11 _ _ _ ?_
                refine W.seq (fun K14 hK14 => ?_)
                refine W.region ?_
                have hin : insC n most s id a = 0 := insC_zero.2 ⟨⟨hpl, hok⟩, by simpa using h5, by omega⟩
                have hS : insS n most s id a = upS s id.toNat ⟨a, true⟩ := if_pos hin
                refine O.ex (Ex.move rfl) rfl ?_
                refine O.ex (Ex.move rfl) rfl ?_
                refine O.ex (by first | exact Ex.nilPtr rfl | exact Ex.nilFunc rfl | exact Ex.nilYield rfl) rfl ?_
                refine O.ex (by first | exact Ex.field0 fld45_2 rfl | exact Ex.field fld45_2 rfl | exact Ex.fieldS fld45_2 rfl) rfl ?_
                refine O.ex (Ex.idxArr Try.runUnderlying40 Try.sizeOf4 rfl rfl) rfl ?_
                refine O.storeRT (i := id) (st' := upS s id.toNat ⟨a, true⟩) Try.sizeOf4 rfl rfl (fun k => upS_tk k) (fun w H => ?_)
                refine O.nil ?_
                refine hK14 _ _ _ ?_
                refine W.seq (fun K15 hK15 => ?_)
                refine W.drawTo (pt b5 _ :: []) (.take 0 (.take 1 (.take 2 (.take 3 (.take 4 (.take 5 (.one 6 .nil))))))) (mixed) (fun _ _ _ _ h => h) (by assumption) PP.auto (by decide +kernel) (fun w H => ?_)
                refine OQ.ex rfl (fun w H => (Ex.move rfl)) rfl ?_
                refine OQ.ex rfl (fun w H => (Ex.move rfl)) rfl ?_
                refine OQ.ex rfl (fun w H => (by first | exact Ex.loadRArc Try.isAgg42 Try.sizeOf42 rfl | exact Ex.loadAggP Try.isAgg42 Try.sizeOf42 rfl | exact Ex.loadAggN Try.isAgg42 Try.sizeOf42 rfl | exact Ex.loadIn Try.isAgg42 Try.sizeOf42 rfl (Holds.to (by assumption)))) rfl ?_
                refine OQ.ex rfl (fun w H => (by first | exact Ex.nilPtr rfl | exact Ex.nilFunc rfl | exact Ex.nilYield rfl)) rfl ?_
                refine OQ.ex rfl (fun w H => (by first | exact Ex.field0 fld45_3 rfl | exact Ex.field fld45_3 rfl | exact Ex.fieldS fld45_3 rfl)) rfl ?_
                refine OQ.ex rfl (fun w H => (Ex.idxArr Try.runUnderlying43 Try.sizeOf42 rfl rfl)) rfl ?_
                refine OQ.last rfl (by decide +kernel) ?_
                refine O.storeRArc (i := id) (z := a) (sa' := upS s id.toNat ⟨a, true⟩) Try.sizeOf42 rfl rfl rfl (fun k => upS_a k) (fun w H => ?_)
                refine O.nil ?_
                refine hK15 _ _ _ ?_
                refine W.seq (fun K16 hK16 => ?_)
                refine W.region ?_
                refine O.ex (Ex.assign rfl) rfl ?_
                refine O.nil ?_
                refine hK16 _ _ _ ?_
                refine W.ret ?_
                try dsimp only [thenQ, blockQ, retQ]
                first | refine ⟨_, ⟨_, _, rfl, rfl, rfl⟩, ?_⟩ | (refine retD_mark ?_; intro w H; refine ⟨_, ⟨_, _, rfl, rfl, rfl⟩, ?_⟩) | (refine retD_mark2 ?_; intro w H; refine ⟨_, ⟨_, _, rfl, rfl, rfl⟩, ?_⟩)
                first
                | (rw [hin, hS]; exact ⟨rfl, Holds.to (by assumption)⟩)
                | (have hc : insC n most s id a = 1 := if_pos (fun hh => by
                     first
                     | exact h2 hh.2.1.1
                     | exact h3 hh.2.1.2
                     | exact h4 hh.2.2
                     | (have := hh.1.1; have := hh.1.2; omega))
                   rw [hc, show insS n most s id a = s from if_neg (by rw [hc]; decide)]
                   exact ⟨rfl, Holds.to (by assumption)⟩)
                | (have hc : insC n most s id a = 4 := by unfold insC; rw [if_neg (fun hh => hh ⟨hpl, hok⟩), if_pos h5]
                   rw [hc, show insS n most s id a = s from if_neg (by rw [hc]; decide)]
                   exact ⟨rfl, Holds.to (by assumption)⟩)
                | (have hc : insC n most s id a = 2 := by unfold insC; rw [if_neg (fun hh => hh ⟨hpl, hok⟩), if_neg (by simpa using h5), if_pos h6]
                   rw [hc, show insS n most s id a = s from if_neg (by rw [hc]; decide)]
                   exact ⟨rfl, Holds.to (by assumption)⟩)
theorem rdelete_ct {w : World} {r : Nat} {n most id : Int} {s : St} {L : List HProp} (H : Holds w (Rg r n most s :: L)) :
    CT Try.prog 63 [.pointer (some ⟨r, 0, none⟩), .int .i64 id] w fun u w' => u = .int .i64 (thC s id) ∧ Holds w' (Rg r n most (delS s id) :: L) := by
  refine CT.enter (N := 23) Try.func63 rfl rfl rfl rfl ?_
  refine W.seq (fun K0 hK0 => ?_)
  refine W.region ?_
  refine O.ex (Ex.assign rfl) rfl ?_
  refine O.nil ?_
  refine hK0 _ _ _ ?_
  refine W.seq (fun K1 hK1 => ?_)
  refine W.region ?_
  refine O.ex (Ex.move rfl) rfl ?_
  refine O.ex (Ex.move rfl) rfl ?_
  refine O.callF Try.call46 rfl rfl (CT.mono (rcode_ct (Holds.to (by assumption))) ?_)
  rintro _ w ⟨rfl, H⟩
  refine O.ex (Ex.assign rfl) rfl ?_
  refine O.nil ?_
  refine hK1 _ _ _ ?_
  refine W.seq (fun K2 hK2 => ?_)
  refine W.seq (fun K3 hK3 => ?_)
  refine W.region ?_
  refine O.ex (Ex.move rfl) rfl ?_
  refine O.ex (Ex.eqlI rfl rfl) rfl ?_
  refine O.nil ?_
  refine hK3 _ _ _ ?_
  first | refine W.cond_p rfl (fun hc => ?_) (fun hc => ?_) | refine W.cond_b rfl (fun hc => ?_) (fun hc => ?_)
  · refine W.seq (fun K4 hK4 => ?_)
    refine W.region ?_
    have hpl := (thC_zero.1 hc).1
    have p0 := hpl.1
    have p1 := hpl.2
    refine O.ex (Ex.move rfl) rfl ?_
    refine O.ex (Ex.move rfl) rfl ?_
    refine O.ex (by first | exact Ex.nilPtr rfl | exact Ex.nilFunc rfl | exact Ex.nilYield rfl) rfl ?_
    refine O.ex (by first | exact Ex.field0 fld45_2 rfl | exact Ex.field fld45_2 rfl | exact Ex.fieldS fld45_2 rfl) rfl ?_
    refine O.ex (Ex.idxArr Try.runUnderlying40 Try.sizeOf4 rfl rfl) rfl ?_
    refine O.storeRT (i := id) (st' := upS s id.toNat Sl.zero) Try.sizeOf4 rfl rfl (fun k => upS_tk k) (fun w H => ?_)
    refine O.nil ?_
    refine hK4 _ _ _ ?_
    refine W.region ?_
    refine O.ex (Ex.move rfl) rfl ?_
    refine O.ex (Ex.move rfl) rfl ?_
    refine O.ex (Ex.build rfl (bld42_  )) rfl ?_
    refine O.ex (by first | exact Ex.nilPtr rfl | exact Ex.nilFunc rfl | exact Ex.nilYield rfl) rfl ?_
    refine O.ex (by first | exact Ex.field0 fld45_3 rfl | exact Ex.field fld45_3 rfl | exact Ex.fieldS fld45_3 rfl) rfl ?_
    refine O.ex (Ex.idxArr Try.runUnderlying43 Try.sizeOf42 rfl rfl) rfl ?_
    refine O.storeRArc (i := id) (z := Arc.zero) (sa' := upS s id.toNat Sl.zero) Try.sizeOf42 rfl rfl rfl (fun k => upS_a k) (fun w H => ?_)
    refine O.nil ?_
    refine hK2 _ _ _ ?_
    refine W.seq (fun K5 hK5 => ?_)
    refine W.region ?_
    refine O.ex (Ex.move rfl) rfl ?_
    refine O.ex (Ex.assign rfl) rfl ?_
    refine O.nil ?_
    refine hK5 _ _ _ ?_
    refine W.ret ?_
    try dsimp only [thenQ, blockQ, retQ]
    first | refine ⟨_, ⟨_, _, rfl, rfl, rfl⟩, ?_⟩ | (refine retD_mark ?_; intro w H; refine ⟨_, ⟨_, _, rfl, rfl, rfl⟩, ?_⟩) | (refine retD_mark2 ?_; intro w H; refine ⟨_, ⟨_, _, rfl, rfl, rfl⟩, ?_⟩)
    first
    | (rw [show delS s id = upS s id.toNat Sl.zero from if_pos hc]; exact ⟨rfl, Holds.to (by assumption)⟩)
    | (rw [show delS s id = s from if_neg hc]; exact ⟨rfl, Holds.to (by assumption)⟩)
  · refine W.skip ?_
    refine hK2 _ _ _ ?_
    refine W.seq (fun K6 hK6 => ?_)
    refine W.region ?_
    refine O.ex (Ex.move rfl) rfl ?_
    refine O.ex (Ex.assign rfl) rfl ?_
    refine O.nil ?_
    refine hK6 _ _ _ ?_
    refine W.ret ?_
    try dsimp only [thenQ, blockQ, retQ]
    first | refine ⟨_, ⟨_, _, rfl, rfl, rfl⟩, ?_⟩ | (refine retD_mark ?_; intro w H; refine ⟨_, ⟨_, _, rfl, rfl, rfl⟩, ?_⟩) | (refine retD_mark2 ?_; intro w H; refine ⟨_, ⟨_, _, rfl, rfl, rfl⟩, ?_⟩)
    first
    | (rw [show delS s id = upS s id.toNat Sl.zero from if_pos hc]; exact ⟨rfl, Holds.to (by assumption)⟩)
    | (rw [show delS s id = s from if_neg hc]; exact ⟨rfl, Holds.to (by assumption)⟩)
theorem rturn_ct {w : World} {r : Nat} {n most id : Int} {b : Bool} {s : St} {L : List HProp} (H : Holds w (Rg r n most s :: L)) :
    CT Try.prog 64 [.pointer (some ⟨r, 0, none⟩), .int .i64 id, .bool b] w fun u w' => u = .int .i64 (turnC s id b) ∧ Holds w' (Rg r n most (turnS s id b) :: L) := by
  refine CT.enter (N := 30) Try.func64 rfl rfl rfl rfl ?_
  refine W.seq (fun K0 hK0 => ?_)
  refine W.region ?_
  refine O.ex (Ex.assign rfl) rfl ?_
  refine O.nil ?_
  refine hK0 _ _ _ ?_
  refine W.seq (fun K1 hK1 => ?_)
  refine W.region ?_
  refine O.ex (Ex.move rfl) rfl ?_
  refine O.ex (Ex.move rfl) rfl ?_
  refine O.callF Try.call46 rfl rfl (CT.mono (rcode_ct (Holds.to (by assumption))) ?_)
  rintro _ w ⟨rfl, H⟩
  refine O.ex (Ex.assign rfl) rfl ?_
  refine O.nil ?_
  refine hK1 _ _ _ ?_
  refine W.seq (fun K2 hK2 => ?_)
  refine W.seq (fun K3 hK3 => ?_)
  refine W.region ?_
  refine O.ex (Ex.move rfl) rfl ?_
  refine O.ex (Ex.neqI rfl rfl) rfl ?_
  refine O.nil ?_
  refine hK3 _ _ _ ?_
  first | refine W.cond_p rfl (fun hc => ?_) (fun hc => ?_) | refine W.cond_b rfl (fun hc => ?_) (fun hc => ?_)
  · refine W.seq (fun K4 hK4 => ?_)
    refine W.region ?_
    refine O.ex (Ex.move rfl) rfl ?_
    refine O.ex (Ex.assign rfl) rfl ?_
    refine O.nil ?_
    refine hK4 _ _ _ ?_
    refine W.ret ?_
    try dsimp only [thenQ, blockQ, retQ]
    first | refine ⟨_, ⟨_, _, rfl, rfl, rfl⟩, ?_⟩ | (refine retD_mark ?_; intro w H; refine ⟨_, ⟨_, _, rfl, rfl, rfl⟩, ?_⟩) | (refine retD_mark2 ?_; intro w H; refine ⟨_, ⟨_, _, rfl, rfl, rfl⟩, ?_⟩)
    first
    | (have e : turnC s id b = thC s id := if_neg hc
       rw [e, show turnS s id b = s from if_neg (by rw [e]; exact hc)]
       exact ⟨rfl, Holds.to (by assumption)⟩)
    | (have e : turnC s id b = 5 := by unfold turnC; rw [if_pos hc0, if_pos heq]
       rw [e, show turnS s id b = s from if_neg (by rw [e]; decide)]
       exact ⟨rfl, Holds.to (by assumption)⟩)
    | (have e : turnC s id b = 0 := by unfold turnC; rw [if_pos hc0, if_neg hne]
       rw [e, show turnS s id b = upS s id.toNat (shut (s id.toNat) b) from if_pos e]
       refine ⟨rfl, rg_to (st := s) (sa := upS s id.toNat (shut (s id.toNat) b)) (fun k => ?_) (fun k => rfl) (Holds.to (by assumption))⟩
       rw [upS_tk]; split
       · rename_i e; rw [e]; rfl
       · rfl)
  · refine W.skip ?_
    refine hK2 _ _ _ ?_
    refine W.seq (fun K5 hK5 => ?_)
    refine W.seq (fun K6 hK6 => ?_)
    refine W.region ?_
    have hc0 := Decidable.not_not.1 hc
    have hpl := (thC_zero.1 hc0).1
    have p0 := hpl.1
    have p1 := hpl.2
    refine O.ex (Ex.move rfl) rfl ?_
    refine O.ex (Ex.move rfl) rfl ?_
    refine O.ex (by first | exact Ex.nilPtr rfl | exact Ex.nilFunc rfl | exact Ex.nilYield rfl) rfl ?_
    refine O.ex (by first | exact Ex.field0 fld45_3 rfl | exact Ex.field fld45_3 rfl | exact Ex.fieldS fld45_3 rfl) rfl ?_
    refine O.ex (Ex.idxArr Try.runUnderlying43 Try.sizeOf42 rfl rfl) rfl ?_
    refine O.ex (by first | exact Ex.field0 fld42_3 rfl | exact Ex.field fld42_3 rfl | exact Ex.fieldS fld42_3 rfl) rfl ?_
    refine O.ex (by first | exact Ex.loadRT Try.isAgg4 rfl | exact Ex.loadRA Try.isAgg4 rfl | exact Ex.loadRN Try.isAgg4 rfl | exact Ex.loadRM Try.isAgg4 rfl | exact Ex.loadMh Try.isAgg4 rfl | exact Ex.loadP Try.isAgg4 rfl | exact Ex.loadM Try.isAgg4 rfl | exact Ex.loadIn1 Try.isAgg4 rfl (Holds.to (by assumption)) | exact Ex.loadVc Try.isAgg4 rfl | exact Ex.loadR Try.isAgg4 rfl | exact Ex.loadQ Try.isAgg4 rfl) rfl ?_
    refine O.ex (Ex.move rfl) rfl ?_
    refine O.ex (Ex.eqlB Try.runUnderlying4 rfl rfl) rfl ?_
    refine O.nil ?_
    refine hK6 _ _ _ ?_
    first | refine W.cond_p rfl (fun heq => ?_) (fun hne => ?_) | refine W.cond_b rfl (fun heq => ?_) (fun hne => ?_)
    · refine W.seq (fun K7 hK7 => ?_)
      refine W.region ?_
      refine O.ex (Ex.assign rfl) rfl ?_
      refine O.nil ?_
      refine hK7 _ _ _ ?_
      refine W.ret ?_
      try dsimp only [thenQ, blockQ, retQ]
      first | refine ⟨_, ⟨_, _, rfl, rfl, rfl⟩, ?_⟩ | (refine retD_mark ?_; intro w H; refine ⟨_, ⟨_, _, rfl, rfl, rfl⟩, ?_⟩) | (refine retD_mark2 ?_; intro w H; refine ⟨_, ⟨_, _, rfl, rfl, rfl⟩, ?_⟩)
      first
      | (have e : turnC s id b = thC s id := if_neg hc
         rw [e, show turnS s id b = s from if_neg (by rw [e]; exact hc)]
         exact ⟨rfl, Holds.to (by assumption)⟩)
      | (have e : turnC s id b = 5 := by unfold turnC; rw [if_pos hc0, if_pos heq]
         rw [e, show turnS s id b = s from if_neg (by rw [e]; decide)]
         exact ⟨rfl, Holds.to (by assumption)⟩)
      | (have e : turnC s id b = 0 := by unfold turnC; rw [if_pos hc0, if_neg hne]
         rw [e, show turnS s id b = upS s id.toNat (shut (s id.toNat) b) from if_pos e]
         refine ⟨rfl, rg_to (st := s) (sa := upS s id.toNat (shut (s id.toNat) b)) (fun k => ?_) (fun k => rfl) (Holds.to (by assumption))⟩
         rw [upS_tk]; split
         · rename_i e; rw [e]; rfl
         · rfl)
    · refine W.skip ?_
      refine hK5 _ _ _ ?_
      refine W.seq (fun K8 hK8 => ?_)
      refine W.region ?_
      refine O.ex (Ex.move rfl) rfl ?_
      refine O.ex (Ex.move rfl) rfl ?_
      refine O.ex (Ex.move rfl) rfl ?_
      refine O.ex (by first | exact Ex.nilPtr rfl | exact Ex.nilFunc rfl | exact Ex.nilYield rfl) rfl ?_
      refine O.ex (by first | exact Ex.field0 fld45_3 rfl | exact Ex.field fld45_3 rfl | exact Ex.fieldS fld45_3 rfl) rfl ?_
      refine O.ex (Ex.idxArr Try.runUnderlying43 Try.sizeOf42 rfl rfl) rfl ?_
      refine O.ex (by first | exact Ex.field0 fld42_3 rfl | exact Ex.field fld42_3 rfl | exact Ex.fieldS fld42_3 rfl) rfl ?_
      refine O.storeRA (i := id) (k := 3) (z := { (s id.toNat).a with cl := b }) (sa' := upS s id.toNat (shut (s id.toNat) b)) Try.sizeOf4 rfl rfl (by decide) rfl (fun j h1 h2 => by
        have : j = 0 ∨ j = 1 ∨ j = 2 := by omega
        rcases this with rfl | rfl | rfl <;> rfl) (fun k => upS_a k) (fun w H => ?_)
      refine O.nil ?_
      refine hK8 _ _ _ ?_
      refine W.seq (fun K9 hK9 => ?_)
      refine W.region ?_
      refine O.ex (Ex.assign rfl) rfl ?_
      refine O.nil ?_
      refine hK9 _ _ _ ?_
      refine W.ret ?_
      try dsimp only [thenQ, blockQ, retQ]
      first | refine ⟨_, ⟨_, _, rfl, rfl, rfl⟩, ?_⟩ | (refine retD_mark ?_; intro w H; refine ⟨_, ⟨_, _, rfl, rfl, rfl⟩, ?_⟩) | (refine retD_mark2 ?_; intro w H; refine ⟨_, ⟨_, _, rfl, rfl, rfl⟩, ?_⟩)
      first
      | (have e : turnC s id b = thC s id := if_neg hc
         rw [e, show turnS s id b = s from if_neg (by rw [e]; exact hc)]
         exact ⟨rfl, Holds.to (by assumption)⟩)
      | (have e : turnC s id b = 5 := by unfold turnC; rw [if_pos hc0, if_pos heq]
         rw [e, show turnS s id b = s from if_neg (by rw [e]; decide)]
         exact ⟨rfl, Holds.to (by assumption)⟩)
      | (have e : turnC s id b = 0 := by unfold turnC; rw [if_pos hc0, if_neg hne]
         rw [e, show turnS s id b = upS s id.toNat (shut (s id.toNat) b) from if_pos e]
         refine ⟨rfl, rg_to (st := s) (sa := upS s id.toNat (shut (s id.toNat) b)) (fun k => ?_) (fun k => rfl) (Holds.to (by assumption))⟩
         rw [upS_tk]; split
         · rename_i e; rw [e]; rfl
         · rfl)
theorem rweigh_ct {w : World} {r : Nat} {n most id v : Int} {s : St} {L : List HProp} (H : Holds w (Rg r n most s :: L)) :
    CT Try.prog 65 [.pointer (some ⟨r, 0, none⟩), .int .i64 id, .int .i64 v] w fun u w' => u = .int .i64 (weighC s id v) ∧ Holds w' (Rg r n most (weighS s id v) :: L) := by
  refine CT.enter (N := 24) Try.func65 rfl rfl rfl rfl ?_
  refine W.seq (fun K0 hK0 => ?_)
  refine W.region ?_
  refine O.ex (Ex.assign rfl) rfl ?_
  refine O.nil ?_
  refine hK0 _ _ _ ?_
  refine W.seq (fun K1 hK1 => ?_)
  refine W.seq (fun K2 hK2 => ?_)
  refine W.region ?_
  refine O.ex (Ex.move rfl) rfl ?_
  refine O.callF Try.call90 rfl rfl (CT.mono (rweight_ct (Holds.to (by assumption))) ?_)
  rintro _ w ⟨rfl, H⟩
  refine O.ex (by first | exact Ex.notD rfl | exact Ex.not rfl) rfl ?_
  refine O.nil ?_
  refine hK2 _ _ _ ?_
  first | refine W.cond_p rfl (fun hbad => ?_) (fun hok => ?_) | refine W.cond_b rfl (fun hbad => ?_) (fun hok => ?_)
  · refine W.seq (fun K3 hK3 => ?_)
    refine W.region ?_
    refine O.ex (Ex.assign rfl) rfl ?_
    refine O.nil ?_
    refine hK3 _ _ _ ?_
    refine W.ret ?_
    try dsimp only [thenQ, blockQ, retQ]
    first | refine ⟨_, ⟨_, _, rfl, rfl, rfl⟩, ?_⟩ | (refine retD_mark ?_; intro w H; refine ⟨_, ⟨_, _, rfl, rfl, rfl⟩, ?_⟩) | (refine retD_mark2 ?_; intro w H; refine ⟨_, ⟨_, _, rfl, rfl, rfl⟩, ?_⟩)
    first
    | (have e : weighC s id v = 1 := if_pos hbad
       rw [e, show weighS s id v = s from if_neg (by rw [e]; decide)]
       exact ⟨rfl, Holds.to (by assumption)⟩)
    | (have e : weighC s id v = thC s id := if_neg (fun hh => hh (Decidable.not_not.1 hok))
       rw [e, show weighS s id v = upS s id.toNat (wgt (s id.toNat) v) from if_pos (by rw [e]; exact hc)]
       refine ⟨rfl, rg_to (st := s) (sa := upS s id.toNat (wgt (s id.toNat) v)) (fun k => ?_) (fun k => rfl) (Holds.to (by assumption))⟩
       rw [upS_tk]; split
       · rename_i e; rw [e]; rfl
       · rfl)
    | (have e : weighC s id v = thC s id := if_neg (fun hh => hh (Decidable.not_not.1 hok))
       rw [e, show weighS s id v = s from if_neg (by rw [e]; exact hc)]
       exact ⟨rfl, Holds.to (by assumption)⟩)
  · refine W.skip ?_
    refine hK1 _ _ _ ?_
    refine W.seq (fun K4 hK4 => ?_)
    refine W.region ?_
    refine O.ex (Ex.move rfl) rfl ?_
    refine O.ex (Ex.move rfl) rfl ?_
    refine O.callF Try.call46 rfl rfl (CT.mono (rcode_ct (Holds.to (by assumption))) ?_)
    rintro _ w ⟨rfl, H⟩
    refine O.ex (Ex.assign rfl) rfl ?_
    refine O.nil ?_
    refine hK4 _ _ _ ?_
    refine W.seq (fun K5 hK5 => ?_)
    refine W.seq (fun K6 hK6 => ?_)
    refine W.region ?_
    refine O.ex (Ex.move rfl) rfl ?_
    refine O.ex (Ex.eqlI rfl rfl) rfl ?_
    refine O.nil ?_
    refine hK6 _ _ _ ?_
    first | refine W.cond_p rfl (fun hc => ?_) (fun hc => ?_) | refine W.cond_b rfl (fun hc => ?_) (fun hc => ?_)
    · refine W.region ?_
      have hpl := (thC_zero.1 hc).1
      have p0 := hpl.1
      have p1 := hpl.2
      refine O.ex (Ex.move rfl) rfl ?_
      refine O.ex (Ex.move rfl) rfl ?_
      refine O.ex (Ex.move rfl) rfl ?_
      refine O.ex (by first | exact Ex.nilPtr rfl | exact Ex.nilFunc rfl | exact Ex.nilYield rfl) rfl ?_
      refine O.ex (by first | exact Ex.field0 fld45_3 rfl | exact Ex.field fld45_3 rfl | exact Ex.fieldS fld45_3 rfl) rfl ?_
      refine O.ex (Ex.idxArr Try.runUnderlying43 Try.sizeOf42 rfl rfl) rfl ?_
      refine O.ex (by first | exact Ex.field0 fld42_2 rfl | exact Ex.field fld42_2 rfl | exact Ex.fieldS fld42_2 rfl) rfl ?_
      refine O.storeRA (i := id) (k := 2) (z := { (s id.toNat).a with w := v }) (sa' := upS s id.toNat (wgt (s id.toNat) v)) Try.sizeOf3 rfl rfl (by decide) rfl (fun j h1 h2 => by
        have : j = 0 ∨ j = 1 ∨ j = 3 := by omega
        rcases this with rfl | rfl | rfl <;> rfl) (fun k => upS_a k) (fun w H => ?_)
      refine O.nil ?_
      refine hK5 _ _ _ ?_
      refine W.seq (fun K7 hK7 => ?_)
      refine W.region ?_
      refine O.ex (Ex.move rfl) rfl ?_
      refine O.ex (Ex.assign rfl) rfl ?_
      refine O.nil ?_
      refine hK7 _ _ _ ?_
      refine W.ret ?_
      try dsimp only [thenQ, blockQ, retQ]
      first | refine ⟨_, ⟨_, _, rfl, rfl, rfl⟩, ?_⟩ | (refine retD_mark ?_; intro w H; refine ⟨_, ⟨_, _, rfl, rfl, rfl⟩, ?_⟩) | (refine retD_mark2 ?_; intro w H; refine ⟨_, ⟨_, _, rfl, rfl, rfl⟩, ?_⟩)
      first
      | (have e : weighC s id v = 1 := if_pos hbad
         rw [e, show weighS s id v = s from if_neg (by rw [e]; decide)]
         exact ⟨rfl, Holds.to (by assumption)⟩)
      | (have e : weighC s id v = thC s id := if_neg (fun hh => hh (Decidable.not_not.1 hok))
         rw [e, show weighS s id v = upS s id.toNat (wgt (s id.toNat) v) from if_pos (by rw [e]; exact hc)]
         refine ⟨rfl, rg_to (st := s) (sa := upS s id.toNat (wgt (s id.toNat) v)) (fun k => ?_) (fun k => rfl) (Holds.to (by assumption))⟩
         rw [upS_tk]; split
         · rename_i e; rw [e]; rfl
         · rfl)
      | (have e : weighC s id v = thC s id := if_neg (fun hh => hh (Decidable.not_not.1 hok))
         rw [e, show weighS s id v = s from if_neg (by rw [e]; exact hc)]
         exact ⟨rfl, Holds.to (by assumption)⟩)
    · refine W.skip ?_
      refine hK5 _ _ _ ?_
      refine W.seq (fun K8 hK8 => ?_)
      refine W.region ?_
      refine O.ex (Ex.move rfl) rfl ?_
      refine O.ex (Ex.assign rfl) rfl ?_
      refine O.nil ?_
      refine hK8 _ _ _ ?_
      refine W.ret ?_
      try dsimp only [thenQ, blockQ, retQ]
      first | refine ⟨_, ⟨_, _, rfl, rfl, rfl⟩, ?_⟩ | (refine retD_mark ?_; intro w H; refine ⟨_, ⟨_, _, rfl, rfl, rfl⟩, ?_⟩) | (refine retD_mark2 ?_; intro w H; refine ⟨_, ⟨_, _, rfl, rfl, rfl⟩, ?_⟩)
      first
      | (have e : weighC s id v = 1 := if_pos hbad
         rw [e, show weighS s id v = s from if_neg (by rw [e]; decide)]
         exact ⟨rfl, Holds.to (by assumption)⟩)
      | (have e : weighC s id v = thC s id := if_neg (fun hh => hh (Decidable.not_not.1 hok))
         rw [e, show weighS s id v = upS s id.toNat (wgt (s id.toNat) v) from if_pos (by rw [e]; exact hc)]
         refine ⟨rfl, rg_to (st := s) (sa := upS s id.toNat (wgt (s id.toNat) v)) (fun k => ?_) (fun k => rfl) (Holds.to (by assumption))⟩
         rw [upS_tk]; split
         · rename_i e; rw [e]; rfl
         · rfl)
      | (have e : weighC s id v = thC s id := if_neg (fun hh => hh (Decidable.not_not.1 hok))
         rw [e, show weighS s id v = s from if_neg (by rw [e]; exact hc)]
         exact ⟨rfl, Holds.to (by assumption)⟩)
theorem arcQ_of {n most : Int} {s : St} (hg : GOk n most s) {id : Int} (h : thC s id ≠ 0) : arcQ s id = Arc.zero ∧ thB s id = false := by
  unfold arcQ thB
  by_cases hp : pl id
  · cases ht : (s id.toNat).tk with
    | true => exact absurd (thC_zero.2 ⟨hp, ht⟩) h
    | false => rw [if_pos hp, hg.free _ ht]; exact ⟨rfl, by rw [Bool.and_false]⟩
  · rw [if_neg hp, decide_eq_false hp]; exact ⟨rfl, rfl⟩
theorem rarc_ct {w : World} {r : Nat} {n most id : Int} {s : St} {L : List HProp} (hg : GOk n most s) (H : Holds w (Rg r n most s :: L)) :
    CT Try.prog 22 [.pointer (some ⟨r, 0, none⟩), .int .i64 id] w fun u w' => u = .tuple #[(arcQ s id).val, .bool (thB s id)] ∧ Holds w' (Rg r n most s :: L) := by
  refine CT.enter (N := 17) Try.func22 rfl rfl rfl rfl ?_
  refine W.seq (fun K0 hK0 => ?_)
  refine W.region ?_
  refine O.allocP Try.zeroValue42 (fun b4 w H => ?_)
  refine O.ex (Ex.assign rfl) rfl ?_
  refine O.nil ?_
  refine hK0 _ _ _ ?_
  refine W.seq (fun K1 hK1 => ?_)
  refine W.seq (fun K2 hK2 => ?_)
  refine W.region ?_
  refine O.ex (Ex.move rfl) rfl ?_
  refine O.ex (Ex.move rfl) rfl ?_
  refine O.callF Try.call46 rfl rfl (CT.mono (rcode_ct (Holds.to (by assumption))) ?_)
  rintro _ w ⟨rfl, H⟩
  refine O.ex (Ex.neqI rfl rfl) rfl ?_
  refine O.nil ?_
  refine hK2 _ _ _ ?_
  first | refine W.cond_p rfl (fun hc => ?_) (fun hc => ?_) | refine W.cond_b rfl (fun hc => ?_) (fun hc => ?_)
  · refine W.seq (fun K3 hK3 => ?_)
    refine W.region ?_
    refine O.ex (Ex.build rfl (bld42_  )) rfl ?_
    first | refine O.storeAggP Try.sizeOf42 rfl rfl rfl rfl (fun w H => ?_) | refine O.storeAggN Try.sizeOf42 rfl rfl rfl (fun w H => ?_) rfl
    refine O.ex (Ex.assign rfl) rfl ?_
    refine O.nil ?_
    refine hK3 _ _ _ ?_
    refine W.ret ?_
    try dsimp only [thenQ, blockQ, retQ]
    first | refine ⟨_, ⟨_, _, _, rfl, rfl, (by first | exact loadVar_mtx Try.isAgg42 Try.sizeOf42 | exact loadVar_agg Try.isAgg42 Try.sizeOf42), _, _, rfl, rfl, rfl⟩, ?_⟩ | (refine retD_mark ?_; intro w H; refine ⟨_, ⟨_, _, _, rfl, rfl, (by first | exact loadVar_mtx Try.isAgg42 Try.sizeOf42 | exact loadVar_agg Try.isAgg42 Try.sizeOf42), _, _, rfl, rfl, rfl⟩, ?_⟩) | (refine retD_mark2 ?_; intro w H; refine ⟨_, ⟨_, _, _, rfl, rfl, (by first | exact loadVar_mtx Try.isAgg42 Try.sizeOf42 | exact loadVar_agg Try.isAgg42 Try.sizeOf42), _, _, rfl, rfl, rfl⟩, ?_⟩)
    first
    | (rw [(arcQ_of hg hc).1, (arcQ_of hg hc).2]; exact ⟨rfl, Holds.to (by assumption)⟩)
    | (rw [show arcQ s id = (s id.toNat).a from if_pos hpl, show thB s id = true from by unfold thB; rw [decide_eq_true hpl, htk]; rfl]; exact ⟨rfl, Holds.to (by assumption)⟩)
  · refine W.skip ?_
    refine hK1 _ _ _ ?_
    refine W.seq (fun K4 hK4 => ?_)
    refine W.region ?_
    have hc0 := Decidable.not_not.1 hc
    have hpl := (thC_zero.1 hc0).1
    have htk := (thC_zero.1 hc0).2
    have p0 := hpl.1
    have p1 := hpl.2
    refine O.ex (Ex.move rfl) rfl ?_
    refine O.ex (Ex.move rfl) rfl ?_
    refine O.ex (by first | exact Ex.nilPtr rfl | exact Ex.nilFunc rfl | exact Ex.nilYield rfl) rfl ?_
    refine O.ex (by first | exact Ex.field0 fld45_3 rfl | exact Ex.field fld45_3 rfl | exact Ex.fieldS fld45_3 rfl) rfl ?_
    refine O.ex (Ex.idxArr Try.runUnderlying43 Try.sizeOf42 rfl rfl) rfl ?_
    refine O.ex (by first | exact Ex.loadRArc Try.isAgg42 Try.sizeOf42 rfl | exact Ex.loadAggP Try.isAgg42 Try.sizeOf42 rfl | exact Ex.loadAggN Try.isAgg42 Try.sizeOf42 rfl | exact Ex.loadIn Try.isAgg42 Try.sizeOf42 rfl (Holds.to (by assumption))) rfl ?_
    first | refine O.storeAggP Try.sizeOf42 rfl rfl rfl rfl (fun w H => ?_) | refine O.storeAggN Try.sizeOf42 rfl rfl rfl (fun w H => ?_) rfl
    refine O.ex (Ex.assign rfl) rfl ?_
    refine O.nil ?_
    refine hK4 _ _ _ ?_
    refine W.ret ?_
    try dsimp only [thenQ, blockQ, retQ]
    first | refine ⟨_, ⟨_, _, _, rfl, rfl, (by first | exact loadVar_mtx Try.isAgg42 Try.sizeOf42 | exact loadVar_agg Try.isAgg42 Try.sizeOf42), _, _, rfl, rfl, rfl⟩, ?_⟩ | (refine retD_mark ?_; intro w H; refine ⟨_, ⟨_, _, _, rfl, rfl, (by first | exact loadVar_mtx Try.isAgg42 Try.sizeOf42 | exact loadVar_agg Try.isAgg42 Try.sizeOf42), _, _, rfl, rfl, rfl⟩, ?_⟩) | (refine retD_mark2 ?_; intro w H; refine ⟨_, ⟨_, _, _, rfl, rfl, (by first | exact loadVar_mtx Try.isAgg42 Try.sizeOf42 | exact loadVar_agg Try.isAgg42 Try.sizeOf42), _, _, rfl, rfl, rfl⟩, ?_⟩)
    first
    | (rw [(arcQ_of hg hc).1, (arcQ_of hg hc).2]; exact ⟨rfl, Holds.to (by assumption)⟩)
    | (rw [show arcQ s id = (s id.toNat).a from if_pos hpl, show thB s id = true from by unfold thB; rw [decide_eq_true hpl, htk]; rfl]; exact ⟨rfl, Holds.to (by assumption)⟩)
end Go.Proofs.Ytliofdfhimmjmaa
