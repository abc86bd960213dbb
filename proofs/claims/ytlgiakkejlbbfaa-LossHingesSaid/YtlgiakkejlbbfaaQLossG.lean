
import Derived.Test.YtlgiakkejlbbfaaQLossB
import Derived.Test.YtlgiakkejlbbfaaQG
set_option linter.unusedVariables false
set_option linter.unusedSimpArgs false
namespace Go.Proofs.Loss
open Go.AM
theorem row_i16 {l : List Int} (h : Ty.wf (.sl (.int .i16)) l) : in16 l := fun x hx => by
 have h : (Lit.int .i16 x).wf = true := h.2 x hx
 simp only [Lit.wf, IntKind.min, IntKind.max, IntKind.signed, IntKind.bits, Bool.and_eq_true, decide_eq_true_eq, if_true] at h
 omega
end Go.Proofs.Loss
