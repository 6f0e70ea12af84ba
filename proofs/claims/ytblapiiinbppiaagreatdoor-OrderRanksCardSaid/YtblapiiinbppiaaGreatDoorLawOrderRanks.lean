/- ringroadlaw14.OrderRanks: WHATEVER THE INPUT THE LAW RETURNS TRUE, AND WHAT CAME IN READS AS IT DID. Conditions: none beyond the row's own. -/
import Derived.Test.YtblapiiinbppiaaGreatDoorRows
import Derived.Test.YtblapiiinbppiaaGreatDoorTie
import Derived.Test.YtblapiiinbppiaaGreatDoorCards
import Derived.Test.YtblapiiinbppiaaGreatDoorLaid
import Derived.Test.YtblapiiinbppiaaGreatDoorOrderRanks
import Derived.Test.YtblapiiinbppiaaGreatDoorRrBase
import Derived.SevenTiedAt
namespace Go.Proofs.YtblapiiinbppiaaGreatDoor.orderRanks
open Go.Rr Go.ChangeShapes Go.WideShapes Go.ChangeAt Go.RowKit
open Go.ChangeMaps (open_string shut_string)
set_option linter.unusedVariables false
theorem own : ownKnob Tryz.prog.godebug = none:=by kernel_rfl
theorem laidOut : laidOutB Tryz.prog = true:=by kernel_rfl
set_option maxRecDepth 100000 in
theorem lifted (os : Os) (started : os.Started) (H : Type) (enc : TypeId × Value → H) :
    ReturnsInHanded {} Tryz.checked os 3 .any (fun w args=>(Rows.orderRanksSpec.pre enc Tryz.prog Tryz.f3 [] false w args ∧ laidMetH Tryz.prog Lay.laidL w) ∧ sizedMet enc Tryz.prog Tryz.f3 (OpenSpec.ofChange Rows.orderRanksSpec) false w args) (Rows.orderRanksSpec.post enc Tryz.prog Tryz.f3 false true false false):=by
  refine returnsInHanded_of_change_and (C:=Tryz.checked) (X:=fun w _=>laidMetH Tryz.prog Lay.laidL w) (fun _ _ _ hh h=>h.of_heap hh) own started (by kernel_rfl) Tryz.func3
    (ChangeSpec.witness_shaped (enc:=enc) (C:=Tryz.checked) (os:=os) (X:=fun w _=>laidMetH Tryz.prog Lay.laidL w) false (World.doorLaid Tryz.prog 400 os) #[.int .u8 0,.slice none 0 0,.int .i64 0] 8 rfl (World.shaped_of_RefB (by kernel_rfl) (by kernel_rfl)) (by kernel_rfl) (by kernel_rfl) (by kernel_rfl) (Lay.door_met os _)) ?_
  intro W base args ds gs before hval0 hW hcnd hsz0 hL _
  have hsz : (DataW.weightsEach Tryz.prog (Tryz.f3.params.toList ++ Rows.orderRanksSpec.plain.varTypes Tryz.prog) (ds ++ gs)).all (· ≤ reachBytes) = true:=hsz0
  have hval : ∀ (j : Nat) t v,Tryz.f3.params[j]? = some t → args[j]? = some v → Value.okWide Tryz.prog W .any base t v:=hval0
  have hW':=hW
  obtain ⟨p,q,hA0,hV,rfl,hfz,hnd⟩:=hW
  have hA : DataW.TrodAll enc Tryz.prog W 0 (fun _=>true) true Tryz.f3.params.toList args.toList ds p:=hA0
  rw [Tryz.params3] at hA hval hsz
  obtain ⟨v0,vs0,d0,ds0,p0,q0,hargs,rfl,rfl,h0,r0⟩:=trodAll_cons hA
  obtain ⟨v1,vs1,d1,ds1,p1,q1,rfl,rfl,rfl,h1,r1⟩:=trodAll_cons r0
  obtain ⟨v2,vs2,d2,ds2,p2,q2,rfl,rfl,rfl,h2,r2⟩:=trodAll_cons r1
  obtain ⟨rfl,rfl,rfl⟩:=trodAll_nil r2
  obtain rfl : args = #[v0,v1,v2]:=by cases args; simp_all
  obtain ⟨rfl,rfl⟩:=trodVars_none hV
  obtain ⟨a0,rfl,rfl,rfl,w0⟩:=open_int Tryz.underlying5 (hval 0 5 v0 rfl rfl) h0
  have k1:=h1
  have lt1 : ∀ x ∈ p1,x.block < W.heap.size:=by obtain ⟨m,hm⟩:=k1; exact DataW.trod_lt m _ _ _ hm
  obtain ⟨xs1,s1,g1,l1⟩:=slIn_of_trod (lay:=Chg.enc) Tryz.underlying22 (show Tryz.prog.cellsOf 56 = 6 by kernel_rfl) (by decide) (fun _=>rfl) (Chg.elem) (okWide_slice Tryz.underlying22 (hval 1 22 v1 rfl rfl)) h1
  obtain ⟨a2,rfl,rfl,rfl,w2⟩:=open_int Tryz.underlying3 (hval 2 3 v2 rfl rfl) h2
  refine (callsIn_wide.1 (orderRanks_row (Lay.of_laid hL) w0 s1 g1 l1 w2)).mono fun e W' ⟨u,he,hu,bel⟩=>?_
  subst he
  subst hu
  exact ⟨_,rfl,_,_,_,[],_,[],hW',trodAll_mk1 (shut_bool Tryz.underlying4 _),(trodAll_cons_mk (shut_int Tryz.underlying5 w0) (trodAll_cons_mk (Below.trod laidOut (by kernel_rfl) (of_decide_eq_true (by kernel_rfl)) k1 bel lt1) (trodAll_cons_mk (shut_int Tryz.underlying3 w2) trodAll_mk0))),rfl,bel.frame _,fun h=>by cases h⟩
theorem over : Rows.orderRanksRow.holds Tryz.pinned (OpenSpec.ofChange Rows.orderRanksSpec) :=
  OpenClaim.holds_of_wide 3 Tryz.f3 rfl rfl rfl rfl rfl rfl rfl ⟨rfl,rfl,rfl,rfl,rfl⟩ rfl rfl rfl rfl rfl (by kernel_rfl) Tryz.func3 (by kernel_rfl)
    (of_decide_eq_true (by kernel_rfl)) (by unfold Func.isWrapper; first|(rw [if_pos (by decide +kernel)]; kernel_rfl)|(rw [if_neg (by decide +kernel)]; exact ⟨rfl,rfl⟩))
    (fun os started H enc _=>lifted os started H enc)
theorem proved : Rows.OrderRanksSaid:=over
theorem tied : Rows.OrderRanksCardSaid :=
  Claim7.holds_tied_plain_at .later [] [.data] true (true, "3ce06a51db2fe0d61ec19b8d8573f4e329a76b44aed2b51c21dbdfffd23ece27") false
    over (fun _ h=>by cases h) (by kernel_rfl) (fun _ h=>by cases h) orderRanks_row_tie rfl ⟨rfl,rfl⟩ (by kernel_rfl) rfl
    (fun f fn hf hfn=>by
      obtain rfl : f = 3 := Option.some.inj ((show Tryz.prog.funcNamed "ringroad/ringroadlaw14.OrderRanks" = some 3 by kernel_rfl).symm.trans hf) |>.symm
      obtain rfl : fn = Tryz.f3:=(Option.some.inj (Tryz.func3.symm.trans hfn)).symm
      exact ⟨by kernel_rfl,fun j t ht=>by
        rw [Tryz.params3] at ht
        have hm : t ∈ ([5,22,3] : List Nat):=by simpa using Array.mem_of_getElem? ht
        have hall : (([5,22,3] : List Nat).all fun u=>!Tryz.prog.wantsStandIn u) = true:=by kernel_rfl
        exact (show Tryz.prog.wantsStandIn t = false by simpa using List.all_eq_true.1 hall t hm)⟩)
    (by kernel_rfl)
end Go.Proofs.YtblapiiinbppiaaGreatDoor.orderRanks
namespace Go.Proofs.YtblapiiinbppiaaGreatDoor
theorem orderRanks_holds : Rows.OrderRanksCardSaid:=orderRanks.tied
#print axioms orderRanks_holds
end Go.Proofs.YtblapiiinbppiaaGreatDoor
