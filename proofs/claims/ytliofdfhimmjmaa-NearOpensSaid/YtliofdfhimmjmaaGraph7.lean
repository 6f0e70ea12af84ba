import Derived.Test.YtliofdfhimmjmaaGraph6
import Derived.Test.YtliofdfhimmjmaaClone
--ARR
--LOADS loadG1 loadG2 loadAt loadCn loadMo loadE0 loadE1
--AGGLOADS loadArc loadEE
namespace Go.Proofs.Ytliofdfhimmjmaa
open Go.Rr Go Gr
set_option linter.unusedVariables false
section
variable {P : Program} {ro : Option Nat} {N : Nat} {Q : Q0} {l : Regs} {ds : List Deferred} {w w' : World} {ops : Array Oper} {os : List Oper}
variable {d : Tmp} {ty : TypeId} {pos : String} {af : Array Edge} {x y : Operand} {t T yt : TypeId} {L : List HProp}
theorem Ex.loadEE {ab n : Nat} {es : Nat → Value × Value} {i : Int} (ht : AggIs P t true) (hz : SizeIs P t 2) (e1 : ev l x = some (.pointer (some ⟨ab, 0 + i.toNat * 2, none⟩))) (H : Holds w (atc ab n es :: L) := by exact Holds.to (by assumption)) (h0 : 0 ≤ i := by first | assumption | omega) (h1 : i.toNat < n := by first | assumption | omega) :
    Ex P N l (.load t x) ty w (.agg #[(es i.toNat).1, (es i.toNat).2]) w := by
  obtain ⟨m, f, h, H⟩ := atc_open.1 H
  have := Ex.loadAggC (N := N) (m := 2) (ty := ty) ht hz e1 H (by omega)
  rw [show cval 2 (fun k => f (0 + i.toNat * 2 + k)) = .agg #[(es i.toNat).1, (es i.toNat).2] from ?_] at this
  · exact this
  · show Value.agg #[f (0 + i.toNat * 2 + 0), f (0 + i.toNat * 2 + 1)] = _
    rw [← (h.2 _ h1).1, ← (h.2 _ h1).2, show 0 + i.toNat * 2 + 0 = 2 * i.toNat by omega, show 0 + i.toNat * 2 + 1 = 2 * i.toNat + 1 by omega]
theorem O.storeEE {ab n : Nat} {es : Nat → Value × Value} {i : Int} {v1 v2 : Value} (hs : SizeIs P t 2) (e1 : ev l x = some (.pointer (some ⟨ab, 0 + i.toNat * 2, none⟩))) (e2 : ev l y = some (.agg #[v1, v2])) (hv1 : v1.oneCell' = true) (hv2 : v2.oneCell' = true)
    (hk : ∀ w', Holds w' (atc ab n (upE es i.toNat (v1, v2)) :: L) → O P ro N ops os Q l ds w') (H : Holds w (atc ab n es :: L) := by exact Holds.to (by assumption)) (h0 : 0 ≤ i := by first | assumption | omega) (h1 : i.toNat < n := by first | assumption | omega) :
    O P ro N ops (⟨none, .store t x y, ty, pos, af, none⟩ :: os) Q l ds w := by
  obtain ⟨m, f, h, H⟩ := atc_open.1 H
  refine O.storeAggC hs e1 e2 rfl (fun v hv => ?_) H (by omega) fun w' H' => hk w' (atc_open.2 ⟨m, _, ⟨h.1, fun k hk => ?_⟩, H'⟩)
  · simp at hv
    rcases hv with rfl | rfl <;> assumption
  · have hk2 := h.2 k hk
    unfold upE
    dsimp only
    by_cases e : k = i.toNat
    · subst e
      rw [if_pos rfl, if_pos (by omega), if_pos (by omega), show 2 * i.toNat - (0 + i.toNat * 2) = 0 by omega, show 2 * i.toNat + 1 - (0 + i.toNat * 2) = 1 by omega]
      exact ⟨rfl, rfl⟩
    · rw [if_neg e, if_neg (by omega), if_neg (by omega)]
      exact hk2
end
end Go.Proofs.Ytliofdfhimmjmaa
