import Derived.Test.YtliofdfhimmjmaaFacts
import Derived.Test.YtliofdfhimmjmaaRrBase
namespace Go.Proofs.Ytliofdfhimmjmaa
open Go.Rr Go
set_option linter.unusedVariables false
end Go.Proofs.Ytliofdfhimmjmaa
