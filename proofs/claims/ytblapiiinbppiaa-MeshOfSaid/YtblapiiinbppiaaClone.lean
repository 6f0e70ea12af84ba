import Derived.Test.YtblapiiinbppiaaFacts
import Derived.Test.YtblapiiinbppiaaRrBase
namespace Go.Proofs.Ytblapiiinbppiaa
open Go.Rr Go
set_option linter.unusedVariables false
end Go.Proofs.Ytblapiiinbppiaa
