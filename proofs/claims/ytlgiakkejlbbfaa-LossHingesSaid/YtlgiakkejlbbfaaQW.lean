
import Derived.Test.YtlgiakkejlbbfaaQA
set_option linter.unusedVariables false
set_option linter.unusedSimpArgs false
set_option maxRecDepth 100000
namespace Go.Proofs.PlW
open Go.AM
theorem wu (n : Int) : IntKind.u64.wrap n = n % 18446744073709551616 := by
 simp [IntKind.wrap, IntKind.signed, IntKind.bits]
theorem wi (n : Int) : IntKind.i64.wrap n = if n % 18446744073709551616 ≥ 9223372036854775808 then n % 18446744073709551616 - 18446744073709551616 else n % 18446744073709551616 := by
 simp [IntKind.wrap, IntKind.signed, IntKind.bits]
theorem wi_mod (n : Int) : IntKind.i64.wrap (n % 18446744073709551616) = IntKind.i64.wrap n := by
 rw [wi, wi, Int.emod_emod_of_dvd _ (Int.dvd_refl _)]
theorem sh32u (x : Int) : Int.fdiv x (2 ^ min (Int.toNat (32 : Int)) (IntKind.bits IntKind.u64)) = x / 4294967296 := by
 rw [show ((2 : Int) ^ min (Int.toNat (32 : Int)) (IntKind.bits IntKind.u64)) = 4294967296 from rfl]
 exact Int.fdiv_eq_ediv_of_nonneg _ (by decide)
theorem sh63i (x : Int) : Int.fdiv x (2 ^ min (Int.toNat (63 : Int)) (IntKind.bits IntKind.i64)) = x / 9223372036854775808 := by
 rw [show ((2 : Int) ^ min (Int.toNat (63 : Int)) (IntKind.bits IntKind.i64)) = 9223372036854775808 from rfl]
 exact Int.fdiv_eq_ediv_of_nonneg _ (by decide)
theorem bits_nat (f : BitVec 64 → BitVec 64 → BitVec 64) (a b : Int) : bitsOf IntKind.u64 f a b = ((f (BitVec.ofInt 64 a) (BitVec.ofInt 64 b)).toNat : Int) := by
 have h : bitsOf IntKind.u64 f a b = IntKind.u64.wrap (((f (BitVec.ofInt 64 a) (BitVec.ofInt 64 b)).toNat : Nat) : Int) := rfl
 rw [h, wu]
 have := (f (BitVec.ofInt 64 a) (BitVec.ofInt 64 b)).isLt
 omega
theorem ofInt_nat (a : Int) (h0 : 0 ≤ a) (h1 : a < 18446744073709551616) : (BitVec.ofInt 64 a).toNat = a.toNat := by
 rw [BitVec.toNat_ofInt]
 have : a % ((2 ^ 64 : Nat) : Int) = a := Int.emod_eq_of_lt h0 (by simpa using h1)
 rw [this]
theorem and_nat (a b : Int) (h0 : 0 ≤ a) (h1 : a < 18446744073709551616) (g0 : 0 ≤ b) (g1 : b < 18446744073709551616) :
  bitsOf IntKind.u64 (fun p q => p &&& q) a b = ((a.toNat &&& b.toNat : Nat) : Int) := by
 refine (bits_nat (fun p q => p &&& q) a b).trans ?_
 rw [BitVec.toNat_and, ofInt_nat a h0 h1, ofInt_nat b g0 g1]
theorem or_nat (a b : Int) (h0 : 0 ≤ a) (h1 : a < 18446744073709551616) (g0 : 0 ≤ b) (g1 : b < 18446744073709551616) :
  bitsOf IntKind.u64 (fun p q => p ||| q) a b = ((a.toNat ||| b.toNat : Nat) : Int) := by
 refine (bits_nat (fun p q => p ||| q) a b).trans ?_
 rw [BitVec.toNat_or, ofInt_nat a h0 h1, ofInt_nat b g0 g1]
theorem and32 (x : Int) (h0 : 0 ≤ x) (h1 : x < 18446744073709551616) : bitsOf IntKind.u64 (fun p q => p &&& q) x 4294967295 = x % 4294967296 := by
 rw [and_nat x _ h0 h1 (by decide) (by decide)]
 have := Nat.and_two_pow_sub_one_eq_mod x.toNat 32
 rw [show (4294967295 : Int).toNat = 2 ^ 32 - 1 from rfl, this]
 omega
theorem and1 (x : Int) (h0 : 0 ≤ x) (h1 : x < 18446744073709551616) : bitsOf IntKind.u64 (fun p q => p &&& q) x 1 = x % 2 := by
 rw [and_nat x _ h0 h1 (by decide) (by decide)]
 have := Nat.and_two_pow_sub_one_eq_mod x.toNat 1
 rw [show (1 : Int).toNat = 2 ^ 1 - 1 from rfl, this]
 omega
theorem or32 (a b : Int) (h0 : 0 ≤ a) (h1 : a < 4294967296) (g0 : 0 ≤ b) (g1 : b < 4294967296) : bitsOf IntKind.u64 (fun p q => p ||| q) (a * 4294967296) b = a * 4294967296 + b := by
 rw [or_nat _ _ (by omega) (by omega) (by omega) (by omega)]
 have := Nat.two_pow_add_eq_or_of_lt (i := 32) (b := b.toNat) (by omega) a.toNat
 rw [show (a * 4294967296).toNat = 2 ^ 32 * a.toNat by omega, ← this]
 omega
theorem add_ok (x y c : Int) (h0 : 0 ≤ x) (h1 : 0 ≤ y) (h2 : 0 ≤ c) (h3 : c ≤ 1) : add64 x y c = some ((x + y + c) % 18446744073709551616, (x + y + c) / 18446744073709551616) := by
 unfold add64
 rw [show Nat.ble c.toNat 1 = true by rw [Nat.ble_eq]; omega]
 simp only [Option.some.injEq, Prod.mk.injEq, Int.ofNat_eq_natCast]
 constructor <;> omega
theorem size_ok (v : Int) (h0 : -9223372036854775808 ≤ v) (h1 : v < 9223372036854775808) : f88 v = some (if v < 0 then -v else v) := by
 unfold f88
 by_cases h : v < 0
 ·rw [show decide (v < 0) = true by simpa using h, if_pos h]
  simp only [cond_true, wu, Option.some.injEq]
  omega
 ·rw [show decide (v < 0) = false by simpa using h, if_neg h]
  simp only [cond_false, wu, Option.some.injEq]
  omega
theorem mul_bound (a b : Int) (h0 : 0 ≤ a) (h1 : a ≤ 4294967295) (g0 : 0 ≤ b) (g1 : b ≤ 4294967295) : 0 ≤ a * b ∧ a * b ≤ 18446744065119617025 :=
 ⟨Int.mul_nonneg h0 g0, Int.mul_le_mul h1 g1 g0 (by decide)⟩
theorem mul64_ok (x y : Int) (h0 : 0 ≤ x) (h1 : x < 18446744073709551616) (g0 : 0 ≤ y) (g1 : y < 18446744073709551616) :
  f40 x y = some (x * y / 18446744073709551616, x * y % 18446744073709551616) := by
 unfold f40
 have x1 := Int.mul_ediv_add_emod x 4294967296
 have y1 := Int.mul_ediv_add_emod y 4294967296
 simp only [sh32u, and32 x h0 h1, and32 y g0 g1, wu]
 rw [and32 _ (by omega) (by omega)]
 generalize hx1 : x / 4294967296 = a at *
 generalize hx0 : x % 4294967296 = b at *
 generalize hy1 : y / 4294967296 = c at *
 generalize hy0 : y % 4294967296 = d at *
 obtain ⟨p0, p1⟩ := mul_bound a c (by omega) (by omega) (by omega) (by omega)
 obtain ⟨q0, q1⟩ := mul_bound a d (by omega) (by omega) (by omega) (by omega)
 obtain ⟨r0, r1⟩ := mul_bound b c (by omega) (by omega) (by omega) (by omega)
 obtain ⟨s0, s1⟩ := mul_bound b d (by omega) (by omega) (by omega) (by omega)
 have hxy : x * y = 18446744073709551616 * (a * c) + 4294967296 * (a * d) + 4294967296 * (b * c) + b * d := by
  rw [← x1, ← y1, Int.add_mul, Int.mul_add, Int.mul_add]
  have e1 : 4294967296 * a * (4294967296 * c) = 18446744073709551616 * (a * c) := by
   rw [show (18446744073709551616 : Int) = 4294967296 * 4294967296 from rfl]; ac_rfl
  have e2 : 4294967296 * a * d = 4294967296 * (a * d) := Int.mul_assoc _ _ _
  have e3 : b * (4294967296 * c) = 4294967296 * (b * c) := Int.mul_left_comm _ _ _
  rw [e1, e2, e3]; omega
 rw [hxy]
 generalize a * c = P at *
 generalize a * d = Q at *
 generalize b * c = R at *
 generalize b * d = S at *
 have w0 : ∀ n : Int, 0 ≤ n → n < 18446744073709551616 → n % 18446744073709551616 = n := fun n h0 h1 => Int.emod_eq_of_lt h0 h1
 rw [w0 P (by omega) (by omega), w0 Q (by omega) (by omega), w0 R (by omega) (by omega), w0 S (by omega) (by omega)]
 rw [w0 (Q + S / 4294967296) (by omega) (by omega)]
 rw [w0 ((Q + S / 4294967296) % 4294967296 + R) (by omega) (by omega)]
 rw [w0 (P + (Q + S / 4294967296) / 4294967296) (by omega) (by omega)]
 rw [w0 (P + (Q + S / 4294967296) / 4294967296 + ((Q + S / 4294967296) % 4294967296 + R) / 4294967296) (by omega) (by omega)]
 have hh : (18446744073709551616 * P + 4294967296 * Q + 4294967296 * R + S) / 18446744073709551616 = P + (Q + S / 4294967296) / 4294967296 + ((Q + S / 4294967296) % 4294967296 + R) / 4294967296 := by omega
 rw [hh]
def rhe (S : Int) : Int := if S % 4294967296 > 2147483648 ∨ (S % 4294967296 = 2147483648 ∧ S / 4294967296 % 2 = 1) then S / 4294967296 + 1 else S / 4294967296
def sat (x : Int) : Int := if x ≥ 9223372036854775808 then 9223372036854775807 else if x < -9223372036854775808 then -9223372036854775808 else x
theorem fix_ok (R : Int) (h0 : -1000000000000000000000000000000000000 ≤ R) (h1 : R ≤ 1000000000000000000000000000000000000) : f70 (R / 18446744073709551616, R % 18446744073709551616) = some (sat R) := by
 unfold f70 f70_j2 f70_j3 sat
 simp only
 by_cases c1 : R / 18446744073709551616 > 0
 ·rw [show decide (R / 18446744073709551616 > 0) = true by simpa using c1]
  simp only [cond_true, bindF_some, sumF_inr]
  rw [if_pos (by omega)]
 ·rw [show decide (R / 18446744073709551616 > 0) = false by simpa using c1]
  simp only [cond_false]
  by_cases c2 : R / 18446744073709551616 = 0
  ·rw [show (R / 18446744073709551616 == 0) = true by simpa using c2]
   simp only [cond_true, bindF_some]
   by_cases c3 : R % 18446744073709551616 ≥ 9223372036854775808
   ·rw [show decide (R % 18446744073709551616 ≥ 9223372036854775808) = true by simpa using c3]
    simp only [cond_true, bindF_some, sumF_inr]
    rw [if_pos (by omega)]
   ·rw [show decide (R % 18446744073709551616 ≥ 9223372036854775808) = false by simpa using c3]
    simp only [cond_false]
    rw [show decide (R / 18446744073709551616 < -1) = false by simp; omega, show (R / 18446744073709551616 == -1) = false by simp; omega]
    simp only [cond_false, bindF_some, sumF_inl]
    rw [if_neg (by omega), if_neg (by omega), wrap_i64 (by omega) (by omega)]
    congr 1; omega
  ·rw [show (R / 18446744073709551616 == 0) = false by simpa using c2]
   simp only [cond_false, bindF_some]
   by_cases c4 : R / 18446744073709551616 < -1
   ·rw [show decide (R / 18446744073709551616 < -1) = true by simpa using c4]
    simp only [cond_true, bindF_some, sumF_inr]
    rw [if_neg (by omega), if_pos (by omega)]
   ·rw [show decide (R / 18446744073709551616 < -1) = false by simpa using c4, show (R / 18446744073709551616 == -1) = true by simp; omega]
    simp only [cond_false, cond_true]
    by_cases c5 : R % 18446744073709551616 < 9223372036854775808
    ·rw [show decide (R % 18446744073709551616 < 9223372036854775808) = true by simpa using c5]
     simp only [cond_true, bindF_some, sumF_inr]
     rw [if_neg (by omega), if_pos (by omega)]
    ·rw [show decide (R % 18446744073709551616 < 9223372036854775808) = false by simpa using c5]
     simp only [cond_false, bindF_some, sumF_inl]
     rw [if_neg (by omega), if_neg (by omega), wi]
     congr 1
     split <;> omega
def inI (l : List Int) : Prop := ∀ x ∈ l, -9223372036854775808 ≤ x ∧ x < 9223372036854775808
end Go.Proofs.PlW
