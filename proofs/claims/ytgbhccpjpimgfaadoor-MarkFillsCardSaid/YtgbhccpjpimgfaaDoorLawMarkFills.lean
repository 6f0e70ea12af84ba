/- ringroadlaw18.MarkFills: WHATEVER THE INPUT THE LAW RETURNS TRUE, AND WHAT CAME IN READS AS IT DID. Conditions: none beyond the row's own. -/
import Derived.Test.YtgbhccpjpimgfaaDoorRows
import Derived.Test.YtgbhccpjpimgfaaDoorTie
import Derived.Test.YtgbhccpjpimgfaaDoorCards
import Derived.Test.YtgbhccpjpimgfaaDoorLaid
import Derived.Test.YtgbhccpjpimgfaaDoorMarkFills
import Derived.Test.YtgbhccpjpimgfaaDoorRrRow
import Derived.SevenTiedAt
namespace Go.Proofs.YtgbhccpjpimgfaaDoor.markFills
open Go.Rr Go.ChangeShapes Go.WideShapes Go.ChangeAt Go.RowKit
open Go.ChangeMaps (open_string shut_string)
set_option linter.unusedVariables false
theorem own : ownKnob Tryd.prog.godebug = none := by kernel_rfl
theorem laidOut : laidOutB Tryd.prog = true := by kernel_rfl
set_option maxRecDepth 100000 in
theorem lifted (os : Os) (started : os.Started) (H : Type) (enc : TypeId × Value → H) :
    ReturnsInHanded {} Tryd.checked os 6 .any (fun w args => (Rows.markFillsSpec.pre enc Tryd.prog Tryd.f6 [] false w args ∧ laidMetH Tryd.prog Lay.laidL w) ∧ sizedMet enc Tryd.prog Tryd.f6 (OpenSpec.ofChange Rows.markFillsSpec) false w args) (Rows.markFillsSpec.post enc Tryd.prog Tryd.f6 false true false false) := by
  refine returnsInHanded_of_change_and (C := Tryd.checked) (X := fun w _ => laidMetH Tryd.prog Lay.laidL w) (fun _ _ _ hh h => h.of_heap hh) own started (by kernel_rfl) Tryd.func6
    (ChangeSpec.witness_shaped (enc := enc) (C := Tryd.checked) (os := os) (X := fun w _ => laidMetH Tryd.prog Lay.laidL w) false (World.doorLaid Tryd.prog 400 os) #[.slice none 0 0] 8 rfl (World.shaped_of_RefB (by kernel_rfl) (by kernel_rfl)) (by kernel_rfl) (by kernel_rfl) (by kernel_rfl) (Lay.door_met os _)) ?_
  intro W base args ds gs before hval0 hW hcnd hsz0 hL _
  have hsz : (DataW.weightsEach Tryd.prog (Tryd.f6.params.toList ++ Rows.markFillsSpec.plain.varTypes Tryd.prog) (ds ++ gs)).all (· ≤ reachBytes) = true := hsz0
  have hval : ∀ (j : Nat) t v, Tryd.f6.params[j]? = some t → args[j]? = some v → Value.okWide Tryd.prog W .any base t v := hval0
  have hW' := hW
  obtain ⟨p, q, hA0, hV, rfl, hfz, hnd⟩ := hW
  have hA : DataW.TrodAll enc Tryd.prog W 0 (fun _ => true) true Tryd.f6.params.toList args.toList ds p := hA0
  rw [Tryd.params6] at hA hval hsz
  obtain ⟨v0, vs0, d0, ds0, p0, q0, hargs, rfl, rfl, h0, r0⟩ := trodAll_cons hA
  obtain ⟨rfl, rfl, rfl⟩ := trodAll_nil r0
  obtain rfl : args = #[v0] := by cases args; simp_all
  obtain ⟨rfl, rfl⟩ := trodVars_none hV
  have k0 := h0
  have lt0 : ∀ x ∈ p0, x.block < W.heap.size := by obtain ⟨m, hm⟩ := k0; exact DataW.trod_lt m _ _ _ hm
  obtain ⟨xs0, s0, g0, l0⟩ := slIn_of_trod (lay := (fun s => [Value.int .i64 s])) Tryd.underlying22 (show Tryd.prog.cellsOf 3 = 1 by kernel_rfl) (by decide) (fun _ => rfl) (ElemOk.int Tryd.underlying3) (okWide_slice Tryd.underlying22 (hval 0 22 v0 rfl rfl)) h0
  refine (callsIn_wide.1 (markFills_row (Lay.of_laid hL) s0 g0 l0)).mono fun e W' ⟨u, he, hu, bel⟩ => ?_
  subst he
  subst hu
  exact ⟨_, rfl, _, _, _, [], _, [], hW', trodAll_mk1 (shut_bool Tryd.underlying4 _), (trodAll_cons_mk (Below.trod laidOut (by kernel_rfl) (of_decide_eq_true (by kernel_rfl)) k0 bel lt0) trodAll_mk0), rfl, bel.frame _, fun h => by cases h⟩
theorem over : Rows.markFillsRow.holds Tryd.pinned (OpenSpec.ofChange Rows.markFillsSpec) :=
  OpenClaim.holds_of_wide 6 Tryd.f6 rfl rfl rfl rfl rfl rfl rfl ⟨rfl, rfl, rfl, rfl, rfl⟩ rfl rfl rfl rfl rfl (by kernel_rfl) Tryd.func6 (by kernel_rfl)
    (of_decide_eq_true (by kernel_rfl)) (by unfold Func.isWrapper; first | (rw [if_pos (by decide +kernel)]; kernel_rfl) | (rw [if_neg (by decide +kernel)]; exact ⟨rfl, rfl⟩))
    (fun os started H enc _ => lifted os started H enc)
theorem proved : Rows.MarkFillsSaid := over
theorem tied : Rows.MarkFillsCardSaid :=
  Claim7.holds_tied_plain_at .later [] [.data] true (true, "25205de471c1bf7526a1cee733e9050e6595d3118a75d2a8323f96552cf7236c") false
    over (fun _ h => by cases h) (by kernel_rfl) (fun _ h => by cases h) markFills_row_tie rfl ⟨rfl, rfl⟩ (by kernel_rfl) rfl
    (fun f fn hf hfn => by
      obtain rfl : f = 6 := Option.some.inj ((show Tryd.prog.funcNamed "ringroad/ringroadlaw18.MarkFills" = some 6 by kernel_rfl).symm.trans hf) |>.symm
      obtain rfl : fn = Tryd.f6 := (Option.some.inj (Tryd.func6.symm.trans hfn)).symm
      exact ⟨by kernel_rfl, fun j t ht => by
        rw [Tryd.params6] at ht
        have hm : t ∈ ([22] : List Nat) := by simpa using Array.mem_of_getElem? ht
        have hall : (([22] : List Nat).all fun u => !Tryd.prog.wantsStandIn u) = true := by kernel_rfl
        exact (show Tryd.prog.wantsStandIn t = false by simpa using List.all_eq_true.1 hall t hm)⟩)
    (by kernel_rfl)
end Go.Proofs.YtgbhccpjpimgfaaDoor.markFills
namespace Go.Proofs.YtgbhccpjpimgfaaDoor
theorem markFills_holds : Rows.MarkFillsCardSaid := markFills.tied
#print axioms markFills_holds
end Go.Proofs.YtgbhccpjpimgfaaDoor
