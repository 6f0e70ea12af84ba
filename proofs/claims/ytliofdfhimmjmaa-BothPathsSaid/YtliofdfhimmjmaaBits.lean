import Derived.Test.YtliofdfhimmjmaaFacts
import Derived.Test.YtliofdfhimmjmaaRrBits
import Derived.Test.YtliofdfhimmjmaaRrSets
namespace Go.Proofs.Ytliofdfhimmjmaa
open Go.Rr
set_option linter.unusedVariables false
end Go.Proofs.Ytliofdfhimmjmaa
