/- The marks that ranges over functions leave, however many. No program in sight. -/
import Derived.Test.YtakmbbgnnbpkoaaRrRange
namespace Go.Rr
set_option linter.unusedVariables false
section
variable {P : Program} {w : World} {L : List HProp} {l : Regs} {ds : List Deferred} {D : Nat}
theorem marks_nil (H : Holds w L) : Holds w (marks [] :: L) := Holds.star.2 H
theorem marks_push (H : Holds w (dblk D :: marks ds :: L)) : Holds w (marks (⟨.collected D, #[]⟩ :: ds) :: L) := by
  have H1 : Holds w (marks ds :: dblk D :: L) := H.swap
  have H2 : Holds w (ds.map markOf ++ (dblk D :: L)) := Holds.star.1 H1
  have key : ∀ (A : List HProp) (w : World) (B : HProp) (L : List HProp), Holds w (A ++ (B :: L)) → Holds w (B :: (A ++ L)) := by
    intro A
    induction A with
    | nil => intro w B L h; exact h
    | cons a A ih =>
      intro w B L h
      exact Holds.swap (Holds.cons (fun f hf => by
        have hk : ∀ (r : Rest) (A : List HProp) (f : Frag), sep (A ++ (B :: L)) r f → sep (B :: (A ++ L)) r f := by
          intro r A
          induction A with
          | nil => intro f h; exact h
          | cons a A ih => intro f h; exact sep_swap (sep_cons (fun f h => ih f h) h)
        exact hk _ A f hf) h)
  have H3 := key _ _ _ _ H2
  have H4 : Holds w (markOf ⟨.collected D, #[]⟩ :: (ds.map markOf ++ L)) := Holds.hex.2 ⟨D, Holds.star.2 (Holds.hp.2 ⟨rfl, H3⟩)⟩
  exact Holds.star.2 H4
theorem retD_gen {rs : List ResultVar} {R : Value → World → Prop} (H : Holds w (marks ds :: L)) (h : ∀ w', Holds w' L → ∃ vs, RV P l w' rs vs ∧ R (oneOf vs) w') : retD P rs R l w ds := by
  cases ds with
  | nil => exact h w H.drop
  | cons d ds => exact ⟨L, H, h⟩
end
end Go.Rr
