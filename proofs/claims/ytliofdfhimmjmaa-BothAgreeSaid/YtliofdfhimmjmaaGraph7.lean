import Derived.Test.YtliofdfhimmjmaaGraphAll
import Derived.Test.YtliofdfhimmjmaaClone
namespace Go.Proofs.Ytliofdfhimmjmaa
open Go.Rr Go Gr
set_option linter.unusedVariables false
section
variable {P : Program} {ro : Option Nat} {N : Nat} {Q : Q0} {l : Regs} {ds : List Deferred} {w w' : World} {ops : Array Oper} {os : List Oper}
variable {d : Tmp} {ty : TypeId} {pos : String} {af : Array Edge} {x y : Operand} {t T yt : TypeId} {L : List HProp}
theorem Ex.loadEE {ab n : Nat} {es : Nat → Value × Value} {i : Int} (ht : AggIs P t true) (hz : SizeIs P t 2) (e1 : ev l x = some (.pointer (some ⟨ab,0 + i.toNat * 2,none⟩))) (H : Holds w (atc ab n es::L):=by exact Holds.to (by assumption)) (h0 : 0 ≤ i:=by first|assumption|omega) (h1 : i.toNat < n:=by first|assumption|omega) :
    Ex P N l (.load t x) ty w (.agg #[(es i.toNat).1,(es i.toNat).2]) w:=by
  obtain ⟨m,f,h,H⟩:=atc_open.1 H
  have:=Ex.loadAggC (N:=N) (m:=2) (ty:=ty) ht hz e1 H (by omega)
  rw [show cval 2 (fun k=>f (0 + i.toNat * 2 + k)) = .agg #[(es i.toNat).1,(es i.toNat).2] from ?_] at this
  · exact this
  · show Value.agg #[f (0 + i.toNat * 2 + 0),f (0 + i.toNat * 2 + 1)] = _
    rw [← (h.2 _ h1).1,← (h.2 _ h1).2,show 0 + i.toNat * 2 + 0 = 2 * i.toNat by omega,show 0 + i.toNat * 2 + 1 = 2 * i.toNat + 1 by omega]
end
end Go.Proofs.Ytliofdfhimmjmaa
