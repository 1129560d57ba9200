/- Ends and beginnings of words: the reference. -/
import Derived.Test.YtggppceiapjadaaFwHs19a
set_option linter.unusedVariables false
set_option linter.unusedSimpArgs false
namespace Go.Fw.L19
open Go Go.Fw
set_option maxRecDepth 100000
set_option linter.unusedSimpArgs false
set_option linter.unusedVariables false
end Go.Fw.L19
