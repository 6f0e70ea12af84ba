import Derived.Test.YtliofdfhimmjmaaGraph5
--ARR
--DEEP
--LOADS loadG1 loadG2 loadAt loadCn loadMo loadE0 loadE1
--AGGLOADS loadArc
namespace Go.Proofs.Ytliofdfhimmjmaa
open Go.Rr Go Gr
set_option linter.unusedVariables false
theorem go_gcel {w : World} {g ab cap : Nat} {es : Nat → Value × Value} {n most : Int} {s : St} {L : List HProp} : Holds w (GO g ab cap es n most s :: L) ↔ Holds w (gcel g s (avV ab cap n) (cnt s) most :: atc ab n.toNat es :: big (endF es s s) (List.range n.toNat) :: L) := ghO_open
theorem mem_getL {l : List Int} {i : Nat} (h : i < l.length) : l.getD i default ∈ l := by
  rw [List.getD_eq_getElem?_getD, List.getElem?_eq_getElem h]; exact List.getElem_mem _
theorem out_rng {s : St} {v : Int} {i : Nat} (h : i < (outI s v).length) : (0 ≤ (outI s v).getD i default ∧ (outI s v).getD i default < 64) ∧ outP s v ((outI s v).getD i default).toNat = true := mem_lstP.1 (mem_getL h)
theorem in_rng {s : St} {v : Int} {i : Nat} (h : i < (inI s v).length) : (0 ≤ (inI s v).getD i default ∧ (inI s v).getD i default < 64) ∧ inP s v ((inI s v).getD i default).toNat = true := mem_lstP.1 (mem_getL h)
theorem takeI (l : List Int) {i : Nat} (h : i < l.length) : l.take (i + 1) = l.take i ++ [l.getD i default] := by
  rw [List.take_succ_eq_append_getElem h]; simp [List.getD_eq_getElem?_getD, h]
end Go.Proofs.Ytliofdfhimmjmaa
