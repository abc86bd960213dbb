
import Derived.Test.YtlgiakkejlbbfaaQSB
set_option linter.unusedVariables false
set_option linter.unusedSimpArgs false
set_option maxRecDepth 100000
namespace Go.Proofs.PlS
open Go.AM Go.Proofs.PlB Go.Proofs.PlW Go.Proofs.PlT
theorem rhe_minus (S : Int) : rhe (-S) = -rhe S := by
 unfold rhe
 split <;> split <;> omega
def mulX (a b : Int) : Int := sat (rhe (a * b))
theorem sizeF_ok (v : Int) (h0 : -9223372036854775808 ≤ v) (h1 : v < 9223372036854775808) : f77 v = some (if v < 0 then -v else v) := by
 unfold f77
 by_cases h : v < 0
 ·rw [show decide (v < 0) = true by simpa using h, if_pos h]
  simp only [cond_true, wu, Option.some.injEq]
  omega
 ·rw [show decide (v < 0) = false by simpa using h, if_neg h]
  simp only [cond_false, wu, Option.some.injEq]
  omega
theorem held_ok (R : Int) (s : Bool) (h0 : 0 ≤ R) (h1 : R ≤ 85070591730234615865843651857942052864) : f79 (R / 18446744073709551616) (R % 18446744073709551616) s = some (sat (if s then -R else R)) := by
 unfold f79 f79_j1
 cases s
 ·simp only [cond_false, bindF_some, Bool.false_eq_true, if_false]
  unfold sat
  by_cases h2 : R / 18446744073709551616 > 0
  ·rw [show decide (R / 18446744073709551616 > 0) = true by simpa using h2, if_pos (by omega)]; rfl
  ·rw [show decide (R / 18446744073709551616 > 0) = false by simpa using h2]
   by_cases h3 : R % 18446744073709551616 ≥ 9223372036854775808
   ·rw [show decide (R % 18446744073709551616 ≥ 9223372036854775808) = true by simpa using h3, if_pos (by omega)]; rfl
   ·rw [show decide (R % 18446744073709551616 ≥ 9223372036854775808) = false by simpa using h3, if_neg (by omega), if_neg (by omega)]
    simp only [cond_false, Option.some.injEq]
    rw [wrap_i64 (by omega) (by omega)]
    omega
 ·simp only [cond_true, if_true]
  unfold sat
  by_cases h2 : R / 18446744073709551616 > 0
  ·rw [show decide (R / 18446744073709551616 > 0) = true by simpa using h2, if_neg (by omega), if_pos (by omega)]; rfl
  ·rw [show decide (R / 18446744073709551616 > 0) = false by simpa using h2]
   by_cases h3 : R % 18446744073709551616 ≥ 9223372036854775808
   ·rw [show decide (R % 18446744073709551616 ≥ 9223372036854775808) = true by simpa using h3, if_neg (by omega)]
    simp only [cond_false, bindF_some, cond_true, Option.some.injEq]
    split <;> omega
   ·rw [show decide (R % 18446744073709551616 ≥ 9223372036854775808) = false by simpa using h3, if_neg (by omega), if_neg (by omega)]
    simp only [cond_false, bindF_some, Option.some.injEq]
    rw [wrap_i64 (n := R % 18446744073709551616) (by omega) (by omega), wrap_i64 (by omega) (by omega)]
    omega
theorem roundF_ok (P : Int) (h0 : 0 ≤ P) (h1 : P ≤ 85070591730234615865843651857942052864) :
  ∃ x y : Int, f58_j2 (P / 18446744073709551616, P % 18446744073709551616) = some (x, y) ∧ y = rhe P / 18446744073709551616 ∧ x = rhe P % 18446744073709551616 := by
 have hor : bitsOf IntKind.u64 (fun p q => p ||| q) (IntKind.u64.wrap (P / 18446744073709551616 * 2 ^ min (Int.toNat (32 : Int)) (IntKind.bits IntKind.u64))) (P % 18446744073709551616 / 4294967296) = P / 4294967296 % 18446744073709551616 := by
  rw [show ((2 : Int) ^ min (Int.toNat (32 : Int)) (IntKind.bits IntKind.u64)) = 4294967296 from rfl, wu, show P / 18446744073709551616 * 4294967296 % 18446744073709551616 = P / 18446744073709551616 % 4294967296 * 4294967296 by omega, or32 _ _ (by omega) (by omega) (by omega) (by omega)]
  omega
 have hand : bitsOf IntKind.u64 (fun p q => p &&& q) (P % 18446744073709551616) 4294967295 = P % 4294967296 := by rw [and32 _ (by omega) (by omega)]; omega
 have hodd : bitsOf IntKind.u64 (fun p q => p &&& q) (P / 4294967296 % 18446744073709551616) 1 = P / 4294967296 % 2 := by rw [and1 _ (by omega) (by omega)]; omega
 have hj3 : f58_j3 (P / 18446744073709551616, P % 18446744073709551616) = some (decide (P % 4294967296 > 2147483648 ∨ (P % 4294967296 = 2147483648 ∧ P / 4294967296 % 2 = 1))) := by
  unfold f58_j3
  simp only
  rw [hand, sh32u, hor, hodd]
  by_cases c1 : P % 4294967296 > 2147483648
  ·rw [show decide (P % 4294967296 > 2147483648) = true by simpa using c1]
   simp only [cond_true, Option.some.injEq]
   symm; rw [decide_eq_true_iff]; exact .inl c1
  ·rw [show decide (P % 4294967296 > 2147483648) = false by simpa using c1]
   simp only [cond_false]
   by_cases c2 : P % 4294967296 = 2147483648
   ·rw [show (P % 4294967296 == 2147483648) = true by simpa using c2]
    simp only [cond_true, Option.some.injEq]
    rw [Bool.eq_iff_iff, beq_iff_eq, decide_eq_true_iff]
    omega
   ·rw [show (P % 4294967296 == 2147483648) = false by simpa using c2]
    simp only [cond_false, Option.some.injEq]
    symm; rw [decide_eq_false_iff_not]; omega
 unfold f58_j2
 rw [hj3]
 simp only [bindF_some]
 rw [sh32u, sh32u, hor]
 by_cases c : P % 4294967296 > 2147483648 ∨ (P % 4294967296 = 2147483648 ∧ P / 4294967296 % 2 = 1)
 ·have hr : rhe P = P / 4294967296 + 1 := by unfold rhe; rw [if_pos c]
  rw [show decide (P % 4294967296 > 2147483648 ∨ (P % 4294967296 = 2147483648 ∧ P / 4294967296 % 2 = 1)) = true by rw [decide_eq_true_iff]; exact c]
  simp only [cond_true]
  rw [add_ok _ _ _ (by omega) (by omega) (by omega) (by omega)]
  simp only [bindF_some, wu]
  refine ⟨_, _, rfl, ?_, ?_⟩
  ·rw [hr]; omega
  ·rw [hr]; omega
 ·have hr : rhe P = P / 4294967296 := by unfold rhe; rw [if_neg c]
  rw [show decide (P % 4294967296 > 2147483648 ∨ (P % 4294967296 = 2147483648 ∧ P / 4294967296 % 2 = 1)) = false by rw [decide_eq_false_iff_not]; exact c]
  simp only [cond_false]
  refine ⟨_, _, rfl, ?_, ?_⟩
  ·rw [hr]; omega
  ·rw [hr]
theorem mulF_ok (a b : Int) (a0 : -9223372036854775808 ≤ a) (a1 : a < 9223372036854775808) (b0 : -9223372036854775808 ≤ b) (b1 : b < 9223372036854775808) : f58 a b = some (mulX a b) := by
 have key : ∀ x y : Int, 0 ≤ x → x ≤ 9223372036854775808 → 0 ≤ y → y ≤ 9223372036854775808 → 0 ≤ x * y ∧ x * y ≤ 85070591730234615865843651857942052864 := fun x y h0 h1 g0 g1 => ⟨Int.mul_nonneg h0 g0, Int.mul_le_mul h1 g1 g0 (by decide)⟩
 have fin : ∀ (x y : Int) (s : Bool), 0 ≤ x → x ≤ 9223372036854775808 → 0 ≤ y → y ≤ 9223372036854775808 → (if s then -(x * y) else x * y) = a * b →
   (bindF (f40 x y) fun r3 => bindF (f58_j2 r3) fun z6 => bindF (f79 z6.2 z6.1 s) fun r9 => some r9) = some (mulX a b) := fun x y s x0 x1 y0 y1 hs => by
  obtain ⟨k0, k1⟩ := key x y x0 x1 y0 y1
  rw [mul64_ok _ _ (by omega) (by omega) (by omega) (by omega)]
  simp only [bindF_some]
  obtain ⟨p, q, e, hq, hp⟩ := roundF_ok (x * y) k0 k1
  rw [e]
  simp only [bindF_some]
  have hr : 0 ≤ rhe (x * y) ∧ rhe (x * y) ≤ 85070591730234615865843651857942052864 := by unfold rhe; split <;> omega
  rw [hq, hp, held_ok _ _ hr.1 hr.2]
  simp only [bindF_some, mulX]
  rw [← hs]
  cases s
  ·rfl
  ·simp only [if_true]; rw [rhe_minus]
 unfold f58
 rw [sizeF_ok a a0 a1, sizeF_ok b b0 b1]
 simp only [bindF_some]
 by_cases ha : a < 0 <;> by_cases hb : b < 0
 ·rw [if_pos ha, if_pos hb, show (!(decide (a < 0) == decide (b < 0))) = false by simp [ha, hb]]
  exact fin (-a) (-b) false (by omega) (by omega) (by omega) (by omega) (by rw [Int.neg_mul_neg]; rfl)
 ·rw [if_pos ha, if_neg hb, show (!(decide (a < 0) == decide (b < 0))) = true by simp [ha, hb]]
  exact fin (-a) b true (by omega) (by omega) (by omega) (by omega) (by rw [Int.neg_mul, Int.neg_neg]; rfl)
 ·rw [if_neg ha, if_pos hb, show (!(decide (a < 0) == decide (b < 0))) = true by simp [ha, hb]]
  exact fin a (-b) true (by omega) (by omega) (by omega) (by omega) (by rw [Int.mul_neg, Int.neg_neg]; rfl)
 ·rw [if_neg ha, if_neg hb, show (!(decide (a < 0) == decide (b < 0))) = false by simp [ha, hb]]
  exact fin a b false (by omega) (by omega) (by omega) (by omega) rfl
theorem good_len {t : List Int × List Int} (h : tgood t = true) : 0 < prd t.1 ∧ (t.2.length : Int) = prd t.1 ∧ t.1.length ≤ 4 ∧ t.2.length ≤ 4096 := by
 unfold tgood at h
 simp at h
 have := prd_range t.1
 exact ⟨h.1, h.2, prd_len h.1, by omega⟩
end Go.Proofs.PlS
