/- Plain law: GradJoins: what is in range. -/
import Derived.Test.YtgkmdgdkmgkelaaGreatPlJB
import Derived.Test.YtgkmdgdkmgkelaaGreatAmY
set_option linter.unusedVariables false
set_option linter.unusedSimpArgs false
namespace Go.Proofs.PlJ
open Go.AM
theorem range_i64 {x : Int} (h : Ty.wf (.int .i64) x) : -9223372036854775808 ≤ x ∧ x < 9223372036854775808 := by
  have h : (Lit.int .i64 x).wf = true := h
  simp only [Lit.wf, IntKind.min, IntKind.max, IntKind.signed, IntKind.bits, Bool.and_eq_true, decide_eq_true_eq, if_true] at h
  omega
theorem range_u64 {x : Int} (h : Ty.wf (.int .u64) x) : 0 ≤ x ∧ x < 18446744073709551616 := by
  have h : (Lit.int .u64 x).wf = true := h
  simp only [Lit.wf, IntKind.min, IntKind.max, IntKind.signed, IntKind.bits, Bool.and_eq_true, decide_eq_true_eq, if_true] at h
  have h1 := h.1; have h2 := h.2
  simp at h1 h2
  omega
theorem row_w {l : List (Int × Int)} (h : Ty.wf (.sl (.p (.int .i64) (.int .u64))) l) : inW l := fun x hx => by
  have := h.2 x hx
  have h1 := range_i64 (x := x.1) this.1
  have h2 := range_u64 (x := x.2) this.2
  exact ⟨h1.1, h1.2, h2.1, h2.2⟩
end Go.Proofs.PlJ
