/- ringroadlaw18.MarkPlays: WHATEVER THE INPUT THE LAW RETURNS TRUE, AND WHAT CAME IN READS AS IT DID. Conditions: none beyond the row's own. -/
import Derived.Test.YtgbhccpjpimgfaaDoorRows
import Derived.Test.YtgbhccpjpimgfaaDoorTie
import Derived.Test.YtgbhccpjpimgfaaDoorCards
import Derived.Test.YtgbhccpjpimgfaaDoorLaid
import Derived.Test.YtgbhccpjpimgfaaDoorMarkPlays
import Derived.Test.YtgbhccpjpimgfaaDoorRrRow
import Derived.SevenTiedAt
namespace Go.Proofs.YtgbhccpjpimgfaaDoor.markPlays
open Go.Rr Go.ChangeShapes Go.WideShapes Go.ChangeAt Go.RowKit
open Go.ChangeMaps (open_string shut_string)
set_option linter.unusedVariables false
theorem own : ownKnob Tryd.prog.godebug = none := by kernel_rfl
theorem laidOut : laidOutB Tryd.prog = true := by kernel_rfl
set_option maxRecDepth 100000 in
theorem lifted (os : Os) (started : os.Started) (H : Type) (enc : TypeId × Value → H) :
    ReturnsInHanded {} Tryd.checked os 5 .any (fun w args => (Rows.markPlaysSpec.pre enc Tryd.prog Tryd.f5 [] false w args ∧ laidMetH Tryd.prog Lay.laidL w) ∧ sizedMet enc Tryd.prog Tryd.f5 (OpenSpec.ofChange Rows.markPlaysSpec) false w args) (Rows.markPlaysSpec.post enc Tryd.prog Tryd.f5 false true false false) := by
  refine returnsInHanded_of_change_and (C := Tryd.checked) (X := fun w _ => laidMetH Tryd.prog Lay.laidL w) (fun _ _ _ hh h => h.of_heap hh) own started (by kernel_rfl) Tryd.func5
    (ChangeSpec.witness_shaped (enc := enc) (C := Tryd.checked) (os := os) (X := fun w _ => laidMetH Tryd.prog Lay.laidL w) false (World.doorLaid Tryd.prog 400 os) #[.slice none 0 0, .slice none 0 0] 8 rfl (World.shaped_of_RefB (by kernel_rfl) (by kernel_rfl)) (by kernel_rfl) (by kernel_rfl) (by kernel_rfl) (Lay.door_met os _)) ?_
  intro W base args ds gs before hval0 hW hcnd hsz0 hL _
  have hsz : (DataW.weightsEach Tryd.prog (Tryd.f5.params.toList ++ Rows.markPlaysSpec.plain.varTypes Tryd.prog) (ds ++ gs)).all (· ≤ reachBytes) = true := hsz0
  have hval : ∀ (j : Nat) t v, Tryd.f5.params[j]? = some t → args[j]? = some v → Value.okWide Tryd.prog W .any base t v := hval0
  have hW' := hW
  obtain ⟨p, q, hA0, hV, rfl, hfz, hnd⟩ := hW
  have hA : DataW.TrodAll enc Tryd.prog W 0 (fun _ => true) true Tryd.f5.params.toList args.toList ds p := hA0
  rw [Tryd.params5] at hA hval hsz
  obtain ⟨v0, vs0, d0, ds0, p0, q0, hargs, rfl, rfl, h0, r0⟩ := trodAll_cons hA
  obtain ⟨v1, vs1, d1, ds1, p1, q1, rfl, rfl, rfl, h1, r1⟩ := trodAll_cons r0
  obtain ⟨rfl, rfl, rfl⟩ := trodAll_nil r1
  obtain rfl : args = #[v0, v1] := by cases args; simp_all
  obtain ⟨rfl, rfl⟩ := trodVars_none hV
  have k0 := h0
  have lt0 : ∀ x ∈ p0, x.block < W.heap.size := by obtain ⟨m, hm⟩ := k0; exact DataW.trod_lt m _ _ _ hm
  obtain ⟨xs0, s0, g0, l0⟩ := slIn_of_trod (lay := (fun s => [Value.int .i64 s])) Tryd.underlying22 (show Tryd.prog.cellsOf 3 = 1 by kernel_rfl) (by decide) (fun _ => rfl) (ElemOk.int Tryd.underlying3) (okWide_slice Tryd.underlying22 (hval 0 22 v0 rfl rfl)) h0
  have k1 := h1
  have lt1 : ∀ x ∈ p1, x.block < W.heap.size := by obtain ⟨m, hm⟩ := k1; exact DataW.trod_lt m _ _ _ hm
  obtain ⟨xs1, s1, g1, l1⟩ := slIn_of_trod (lay := ActQ.enc) Tryd.underlying46 (show Tryd.prog.cellsOf 48 = 2 by kernel_rfl) (by decide) (fun _ => rfl) (ActQ.elem) (okWide_slice Tryd.underlying46 (hval 1 46 v1 rfl rfl)) h1
  refine (callsIn_wide.1 (markPlays_row (Lay.of_laid hL) s0 g0 l0 s1 g1 l1)).mono fun e W' ⟨u, he, hu, bel⟩ => ?_
  subst he
  subst hu
  exact ⟨_, rfl, _, _, _, [], _, [], hW', trodAll_mk1 (shut_bool Tryd.underlying4 _), (trodAll_cons_mk (Below.trod laidOut (by kernel_rfl) (of_decide_eq_true (by kernel_rfl)) k0 bel lt0) (trodAll_cons_mk (Below.trod laidOut (by kernel_rfl) (of_decide_eq_true (by kernel_rfl)) k1 bel lt1) trodAll_mk0)), rfl, bel.frame _, fun h => by cases h⟩
theorem over : Rows.markPlaysRow.holds Tryd.pinned (OpenSpec.ofChange Rows.markPlaysSpec) :=
  OpenClaim.holds_of_wide 5 Tryd.f5 rfl rfl rfl rfl rfl rfl rfl ⟨rfl, rfl, rfl, rfl, rfl⟩ rfl rfl rfl rfl rfl (by kernel_rfl) Tryd.func5 (by kernel_rfl)
    (of_decide_eq_true (by kernel_rfl)) (by unfold Func.isWrapper; first | (rw [if_pos (by decide +kernel)]; kernel_rfl) | (rw [if_neg (by decide +kernel)]; exact ⟨rfl, rfl⟩))
    (fun os started H enc _ => lifted os started H enc)
theorem proved : Rows.MarkPlaysSaid := over
theorem tied : Rows.MarkPlaysCardSaid :=
  Claim7.holds_tied_plain_at .later [] [.data] true (true, "25205de471c1bf7526a1cee733e9050e6595d3118a75d2a8323f96552cf7236c") false
    over (fun _ h => by cases h) (by kernel_rfl) (fun _ h => by cases h) markPlays_row_tie rfl ⟨rfl, rfl⟩ (by kernel_rfl) rfl
    (fun f fn hf hfn => by
      obtain rfl : f = 5 := Option.some.inj ((show Tryd.prog.funcNamed "ringroad/ringroadlaw18.MarkPlays" = some 5 by kernel_rfl).symm.trans hf) |>.symm
      obtain rfl : fn = Tryd.f5 := (Option.some.inj (Tryd.func5.symm.trans hfn)).symm
      exact ⟨by kernel_rfl, fun j t ht => by
        rw [Tryd.params5] at ht
        have hm : t ∈ ([22, 46] : List Nat) := by simpa using Array.mem_of_getElem? ht
        have hall : (([22, 46] : List Nat).all fun u => !Tryd.prog.wantsStandIn u) = true := by kernel_rfl
        exact (show Tryd.prog.wantsStandIn t = false by simpa using List.all_eq_true.1 hall t hm)⟩)
    (by kernel_rfl)
end Go.Proofs.YtgbhccpjpimgfaaDoor.markPlays
namespace Go.Proofs.YtgbhccpjpimgfaaDoor
theorem markPlays_holds : Rows.MarkPlaysCardSaid := markPlays.tied
#print axioms markPlays_holds
end Go.Proofs.YtgbhccpjpimgfaaDoor
