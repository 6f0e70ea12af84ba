import Derived.Test.YtliofdfhimmjmaaNear5
import Derived.Test.YtliofdfhimmjmaaRrBase
namespace Go.Proofs.Ytliofdfhimmjmaa
open Go.Rr Go Gr Hp
set_option linter.unusedVariables false
set_option linter.unusedSimpArgs false
theorem nfromG_ct {w : World} {g : Nat} {n most v : Int} {s : St} {L : List HProp} (hg : GOk n most s) (h0 : 0 ≤ v) (h1 : v < n) (H : Holds w (Gh g n most s::L)) :
    CT Try.prog 20 [.pointer (some ⟨g,0,none⟩),.int .i64 v] w fun u w'=>∃ fv,u = .tuple #[fv,.int .i64 0] ∧ fv.oneCell' = true ∧ Holds w' (arr 3 (Value.int .i64) fv (farL n (cG s) v.toNat)::Gh g n most s::L) :=
  (nfrom_ct hg H).mono fun u w' hh=>by
    rcases hh with ⟨hno,_⟩|⟨_,fv,e,ho,H⟩
    · exact absurd ⟨h0,h1⟩ hno
    · exact ⟨fv,e,ho,H⟩
def nw1 : St:=insS 3 4 noS 4 ⟨0,1,5,false⟩
def nw2 : St:=insS 3 4 nw1 2 ⟨1,2,5,false⟩
def nw3 : St:=insS 3 4 nw2 1 ⟨0,2,11,false⟩
theorem nw_f : fG 3 nw3 0 2 = 10:=by decide +kernel
end Go.Proofs.Ytliofdfhimmjmaa
