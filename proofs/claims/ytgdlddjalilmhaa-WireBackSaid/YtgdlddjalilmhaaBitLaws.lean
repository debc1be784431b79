import Derived.Test.YtgdlddjalilmhaaBit
set_option linter.unusedVariables false
set_option linter.unusedSimpArgs false
namespace Go.SL
open Go.Proofs


end Go.SL
