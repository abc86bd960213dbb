
import Derived.Test.YtlgiakkejlbbfaaQB
set_option linter.unusedVariables false
set_option linter.unusedSimpArgs false
set_option maxRecDepth 100000
namespace Go.Proofs.PlB
open Go.AM
theorem clone_v (d : List Int) (h : d.length ≤ 17592186044416) : f28 d = some d := by
 unfold f28 nilF
 cases d with
 | nil => rfl
 | cons x r =>
  simp only
  rw [guardF_pos (by simp at h ⊢; omega)]
  rfl
theorem copy_t (t : List Int × List Int) (h1 : t.1.length ≤ 17592186044416) (h2 : t.2.length ≤ 17592186044416) : f16 t = some t := by
 unfold f16
 simp only [clone_d _ h1, clone_v _ h2, bindF_some]
end Go.Proofs.PlB
