
import Derived.Test.YtlgiakkejlbbfaaQSD
set_option linter.unusedVariables false
set_option linter.unusedSimpArgs false
set_option maxRecDepth 100000
namespace Go.Proofs.PlV
open Go.AM Go.Proofs.PlB Go.Proofs.PlW Go.Proofs.PlT
def pair (V : Int) : Int × Int := (V / 18446744073709551616, V % 18446744073709551616)
def far (V : Int) : Prop := -85070591730234615865843651857942052864 ≤ V ∧ V ≤ 85070591730234615865843651857942052864
theorem of_ok (v : Int) (h0 : -9223372036854775808 ≤ v) (h1 : v < 9223372036854775808) : f69 v = some (pair v) := by
 unfold f69 pair
 rw [sh63i, wu]
 congr 2
 omega
theorem add_w (A B : Int) (ha : far A) (hb : far B) (hs : far (A + B)) : f68 (pair A) (pair B) = some (pair (A + B)) := by
 obtain ⟨a0, a1⟩ := ha
 obtain ⟨b0, b1⟩ := hb
 obtain ⟨s0, s1⟩ := hs
 unfold f68 pair
 simp only
 rw [add_ok _ _ _ (by omega) (by omega) (by decide) (by decide)]
 simp only [bindF_some, wu]
 rw [add_ok _ _ _ (by omega) (by omega) (by omega) (by omega)]
 simp only [bindF_some, Option.some.injEq, Prod.mk.injEq]
 refine ⟨?_, by omega⟩
 rw [wi_mod, ← wi_mod]
 rw [show (A / 18446744073709551616 % 18446744073709551616 + B / 18446744073709551616 % 18446744073709551616 + (A % 18446744073709551616 + B % 18446744073709551616 + 0) / 18446744073709551616) % 18446744073709551616 = (A + B) / 18446744073709551616 % 18446744073709551616 by omega]
 rw [wi_mod, wrap_i64 (by omega) (by omega)]
theorem fix_ok (V : Int) (hv : far V) : f70 (pair V) = some (sat V) := by
 obtain ⟨a0, a1⟩ := hv
 unfold f70 f70_j2 f70_j3 pair sat
 simp only
 by_cases h1 : V / 18446744073709551616 > 0
 ·rw [show decide (V / 18446744073709551616 > 0) = true by simpa using h1, if_pos (by omega)]
  rfl
 ·rw [show decide (V / 18446744073709551616 > 0) = false by simpa using h1]
  simp only [cond_false]
  by_cases h2 : V / 18446744073709551616 = 0
  ·rw [show (V / 18446744073709551616 == 0) = true by simpa using h2]
   simp only [cond_true, bindF_some]
   rw [show decide (V / 18446744073709551616 < -1) = false by simp; omega, show (V / 18446744073709551616 == -1) = false by simp; omega]
   by_cases h3 : V % 18446744073709551616 ≥ 9223372036854775808
   ·rw [show decide (V % 18446744073709551616 ≥ 9223372036854775808) = true by simpa using h3, if_pos (by omega)]
    rfl
   ·rw [show decide (V % 18446744073709551616 ≥ 9223372036854775808) = false by simpa using h3, if_neg (by omega), if_neg (by omega)]
    simp only [cond_false, bindF_some, sumF_inl, Option.some.injEq]
    rw [wrap_i64 (by omega) (by omega)]
    omega
  ·rw [show (V / 18446744073709551616 == 0) = false by simpa using h2]
   simp only [cond_false, bindF_some]
   by_cases h3 : V / 18446744073709551616 < -1
   ·rw [show decide (V / 18446744073709551616 < -1) = true by simpa using h3, if_neg (by omega), if_pos (by omega)]
    rfl
   ·rw [show decide (V / 18446744073709551616 < -1) = false by simpa using h3, show (V / 18446744073709551616 == -1) = true by simp; omega]
    simp only [cond_false, cond_true]
    by_cases h4 : V % 18446744073709551616 < 9223372036854775808
    ·rw [show decide (V % 18446744073709551616 < 9223372036854775808) = true by simpa using h4, if_neg (by omega), if_pos (by omega)]
     rfl
    ·rw [show decide (V % 18446744073709551616 < 9223372036854775808) = false by simpa using h4, if_neg (by omega), if_neg (by omega)]
     simp only [cond_false, bindF_some, sumF_inl, Option.some.injEq]
     rw [wi]
     split <;> omega
end Go.Proofs.PlV
