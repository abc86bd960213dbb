
import Derived.Test.YtlgiakkejlbbfaaQRB
set_option linter.unusedVariables false
set_option linter.unusedSimpArgs false
set_option maxRecDepth 100000
namespace Go.Proofs.Loss
open Go.AM Go.Proofs.PlB Go.Proofs.PlW Go.Proofs.PlT Go.Proofs.PlS Go.Proofs.PlV Go.Proofs.PlR
theorem s_leaf (l : List Nd) (was : Int) (x : List Int) (h : l.length < 512) (h0 : 1 ≤ x.length) (h1 : x.length ≤ 4096) : ∃ n : Nd, n.2.2.2.2 = row x ∧ f20 l was 0 x = some ((l.length : Int), was, 0, l ++ [n]) := by
 refine ⟨(1, -1, -1, 0, (row x).1, (row x).2), rfl, ?_⟩
 unfold f20
 rw [show ((0 : Int) != 0) = false from rfl]
 simp only [cond_false]
 rw [show ([(x.length : Int)], x) = row x from rfl, leaf_ok l (row x) h (row_good x h0 h1)]
 rfl
theorem s_do (l : List Nd) (was op a b k i e : Int) (m : List Nd) (h : f30 l op a b k = some (i, e, m)) : f19 l was 0 op a b k = some (i, was, e, m) := by
 unfold f19
 rw [show ((0 : Int) != 0) = false from rfl]
 simp only [cond_false]
 rw [h]
 rfl
theorem s_told (l : List Nd) (was n : Int) : f21 l was 0 n = some (n, 0, was, 0, l) := rfl
end Go.Proofs.Loss
