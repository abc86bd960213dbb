
import Derived.Test.YtlgiakkejlbbfaaQV
set_option linter.unusedVariables false
set_option linter.unusedSimpArgs false
set_option maxRecDepth 100000
namespace Go.Proofs.PlV
open Go.AM Go.Proofs.PlB Go.Proofs.PlW Go.Proofs.PlT
end Go.Proofs.PlV
