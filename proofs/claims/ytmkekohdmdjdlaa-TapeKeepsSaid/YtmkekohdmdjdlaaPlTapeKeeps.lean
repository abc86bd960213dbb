/- Plain law: TapeKeeps. -/
import Derived.Test.YtmkekohdmdjdlaaPlC
set_option linter.unusedVariables false
set_option linter.unusedSimpArgs false
set_option maxRecDepth 100000
namespace Go.Proofs.TapeKeeps
open Go.AM Go.Proofs.PlB
theorem p26 : f26 = some true := by kernel_rfl
theorem prd_one (m : Nat) (h1 : 1 ≤ m) (h2 : m ≤ 4096) : prd [(m : Int)] = m := by
  simp only [prd, pgo]
  rw [if_neg (by simp), if_neg (by omega)]
  omega
theorem plain (l : List Int) : f11 l = some true := by
  unfold f11
  simp only [p26, bindF_some, Bool.not_true, cond_false]
  unfold f11_j1
  by_cases h0 : l.length < 1
  · rw [show decide ((l.length : Int) < 1) = true by simp; omega]; rfl
  · rw [show decide ((l.length : Int) < 1) = false by simp; omega]
    by_cases h1 : l.length > 50
    · rw [show decide ((l.length : Int) > 50) = true by simp; omega]; rfl
    · rw [show decide ((l.length : Int) > 50) = false by simp; omega]
      simp only [cond_false, bindF_some, sumF_inl]
      rw [guardF_pos (by simp; omega)]
      simp only [f30_o, f27, bindF_some, List.nil_append]
      have hleaf : f28_o [] [(l.length : Int)] l = some (0, 0, [(l.length : Int)], l, [(1, -1, -1, 0, [(l.length : Int)], l)]) := by
        unfold f28_o
        rw [show decide ((List.length ([] : List (Int × Int × Int × Int × (List Int) × (List Int))) : Int) ≥ 512) = false by rfl]
        have hg : tgood ([(l.length : Int)], l) = true := by
          simp only [tgood, prd_one l.length (by omega) (by omega)]
          simp; omega
        simp only [cond_false, good_ok, hg, bindF_some, Bool.not_true, copy_t ([(l.length : Int)], l) (by simp) (by simp only; omega)]
        unfold f56
        rw [guardF_pos (by simp)]
        rfl
      simp only [hleaf, bindF_some]
      rw [guardF_pos (by omega), guardF_pos (by omega)]
      have hval : f32 [(1, -1, -1, 0, [(l.length : Int)], l)] 0 = some (true, [(l.length : Int)], l, [(1, -1, -1, 0, [(l.length : Int)], l)]) := by
        unfold f32 f31 f58
        rw [show decide ((0 : Int) ≥ 0) = true by rfl]
        simp only [cond_true, bindF_some]
        rw [show decide ((0 : Int) < (List.length [((1 : Int), (-1 : Int), (-1 : Int), (0 : Int), [(l.length : Int)], l)] : Int)) = true by rfl]
        simp only [Bool.not_true, cond_false]
        rw [guardF_pos (by simp)]
        have hr : ∀ z, rd z [((1 : Int), (-1 : Int), (-1 : Int), (0 : Int), [(l.length : Int)], l)] 0 = (1, -1, -1, 0, [(l.length : Int)], l) := fun z => rfl
        simp only [hr, copy_t ([(l.length : Int)], l) (by simp) (by simp only; omega), bindF_some]
      simp only [hval, bindF_some]
      rw [guardF_pos (by omega), guardF_pos (by simp)]
      simp only [hval, bindF_some, f30]
      rw [alike_ok _ (by simp) (by simp only; omega)]
      rfl
end Go.Proofs.TapeKeeps
