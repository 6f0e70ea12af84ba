/- What the listed table gives the walks; the door's own heap meets the condition. -/
import Derived.Test.YtblapiiinbppiaaGreatDoorRows
import Derived.Test.YtblapiiinbppiaaGreatDoorBits
import Derived.ProofKit
import Derived.LaidMore
import Derived.OpenShut
import Derived.Stop.Joined
namespace Go.Proofs.YtblapiiinbppiaaGreatDoor
open Go.ChangeShapes Go.WideShapes Go.ChangeAt Go.RowKit
namespace Lay
def laidL : List (String × DataW Unit) := [("math/bits.deBruijn64tab", Rows.laid_math_bits_deBruijn64tab)]
theorem gTab : Tryz.prog.globalNamed "math/bits.deBruijn64tab" = some 0 := by kernel_rfl
theorem tTab : (Tryz.prog.globals[0]?).map (·.type) = some 139:=by kernel_rfl
theorem door_met (os : Os) (args : Array Value) : laidMetH Tryz.prog laidL ((World.doorLaid Tryz.prog 400 os).forCall (fun _ _=>0) ⟨#[],args,[]⟩).memory :=
  laidMetH_of_parts3 (fuel:=8) (laidMet_of_run' 8 (by kernel_rfl) (by kernel_rfl)) (by kernel_rfl) (by kernel_rfl)
theorem datum {H : Type} : (Rows.laid_math_bits_deBruijn64tab : DataW H) = .agg (Lib.deBruijn64tab.map fun n=>.lit (.int .u8 (n : Nat))):=rfl
theorem of_laid {W : World} (h : laidMetH Tryz.prog laidL W) : TabAt W:=by
  rw [MakeChecks.laidMetH_plain _ _ _ (by kernel_rfl)] at h
  obtain ⟨ps,⟨g0,t0,cs0,f0,p0,q0,hg0,ht0,hv0,hd0,_,_⟩,_,_⟩:=h
  obtain rfl:=Option.some.inj (gTab.symm.trans hg0)
  obtain rfl:=Option.some.inj (tTab.symm.trans ht0)
  obtain ⟨xs,m1,rfl,hx1,hlen,hn3,hel⟩:=DataW.trod_array Tryz.underlying139 hd0
  have c1 : Tryz.prog.cellsOf 5 = 1:=by kernel_rfl
  rw [datum] at hx1
  simp only [Prod.mk.injEq,DataW.agg.injEq] at hx1
  intro j hj
  have h0:=hel j hj
  rw [c1,List.getElem?_eq_getElem (by omega)] at h0
  obtain ⟨k,e1,e2,_⟩:=DataW.trod_int Tryz.underlying5 h0
  have hx:=congrArg (fun l=>l[j]?) hx1.1
  have hjl : j < Lib.deBruijn64tab.length:=hj
  simp only [List.getElem?_map,List.getElem?_eq_getElem hjl,List.getElem?_eq_getElem (show j < xs.length by omega),Option.map_some,e2,Option.some.injEq,DataW.lit.injEq,Lit.int.injEq,true_and] at hx
  have hc:=World.var?_cell hg0 hv0 j
  rw [hc]
  have hl:=congrArg (fun l=>l[0]?) e1
  simp only [Nat.mul_one,List.getElem?_take,List.getElem?_drop,Nat.add_zero,List.getElem?_cons_zero] at hl
  rw [if_pos (by decide)] at hl
  rw [← Array.getElem?_toList,hl,← hx,List.getD_eq_getElem?_getD,List.getElem?_eq_getElem hjl]
  rfl
end Lay
end Go.Proofs.YtblapiiinbppiaaGreatDoor
