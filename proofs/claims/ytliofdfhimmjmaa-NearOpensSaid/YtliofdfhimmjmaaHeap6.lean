import Derived.Test.YtliofdfhimmjmaaHeap5
import Derived.Test.YtliofdfhimmjmaaRrBase
namespace Go.Proofs.Ytliofdfhimmjmaa
open Go.Rr Go Hp
set_option linter.unusedVariables false
def capH (c s : Nat) : HProp := pt c (.cells #[.pointer (some ⟨s, 0, none⟩)] 99 (0, 0))
/-- What is left behind j that came out. -/
def itS (s : List (Option Int)) : Nat → List (Option Int)
  | 0 => s
  | j + 1 => popL RI (itS s j)
theorem popI1_ct {w : World} {h : Nat} {s : List (Option Int)} {L : List HProp} (H : Holds w (HqI h s :: L)) :
    CT Try.prog 70 [.pointer (some ⟨h, 0, none⟩)] w fun u w' => u = .tuple #[.int .i64 (pkN RI s : Int), .int .i64 (pkP RI s), .bool (pkO RI s)] ∧ Holds w' (HqI h (popL RI s) :: L) :=
  (popIH_ct H).mono fun u w' hh => by
    rcases hh with ⟨e, hu, H⟩ | ⟨b, e, hu, H⟩
    · rw [hu]; unfold pkN pkP pkO popL; rw [e]; exact ⟨rfl, H⟩
    · rw [hu]; unfold pkN pkP pkO popL; rw [e]; exact ⟨rfl, H⟩
end Go.Proofs.Ytliofdfhimmjmaa
