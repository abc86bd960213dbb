
import Derived.Test.YtlgiakkejlbbfaaQW
import Derived.Test.YtlgiakkejlbbfaaAmY
set_option linter.unusedVariables false
set_option linter.unusedSimpArgs false
namespace Go.Proofs.PlG
open Go.AM Go.Proofs.PlW
end Go.Proofs.PlG
