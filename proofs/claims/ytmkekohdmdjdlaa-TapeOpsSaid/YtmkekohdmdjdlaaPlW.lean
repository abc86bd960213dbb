/- Plain laws, part W: numbers of 128 bits. -/
import Derived.Test.YtmkekohdmdjdlaaPlA
set_option linter.unusedVariables false
set_option linter.unusedSimpArgs false
set_option maxRecDepth 100000
namespace Go.Proofs.PlW
open Go.AM

theorem wu (n : Int) : IntKind.u64.wrap n = n % 18446744073709551616 := by
  simp [IntKind.wrap, IntKind.signed, IntKind.bits]
theorem wi (n : Int) : IntKind.i64.wrap n = if n % 18446744073709551616 ≥ 9223372036854775808 then n % 18446744073709551616 - 18446744073709551616 else n % 18446744073709551616 := by
  simp [IntKind.wrap, IntKind.signed, IntKind.bits]
theorem wu_wi (n : Int) : IntKind.u64.wrap (IntKind.i64.wrap n) = n % 18446744073709551616 := by
  rw [wu, wi]; split <;> omega
theorem wi_mod (n : Int) : IntKind.i64.wrap (n % 18446744073709551616) = IntKind.i64.wrap n := by
  rw [wi, wi, Int.emod_emod_of_dvd _ (Int.dvd_refl _)]
theorem sh32u (x : Int) : Int.fdiv x (2 ^ min (Int.toNat (32 : Int)) (IntKind.bits IntKind.u64)) = x / 4294967296 := by
  rw [show ((2 : Int) ^ min (Int.toNat (32 : Int)) (IntKind.bits IntKind.u64)) = 4294967296 from rfl]
  exact Int.fdiv_eq_ediv_of_nonneg _ (by decide)
theorem sh32i (x : Int) : Int.fdiv x (2 ^ min (Int.toNat (32 : Int)) (IntKind.bits IntKind.i64)) = x / 4294967296 := by
  rw [show ((2 : Int) ^ min (Int.toNat (32 : Int)) (IntKind.bits IntKind.i64)) = 4294967296 from rfl]
  exact Int.fdiv_eq_ediv_of_nonneg _ (by decide)
theorem sh63i (x : Int) : Int.fdiv x (2 ^ min (Int.toNat (63 : Int)) (IntKind.bits IntKind.i64)) = x / 9223372036854775808 := by
  rw [show ((2 : Int) ^ min (Int.toNat (63 : Int)) (IntKind.bits IntKind.i64)) = 9223372036854775808 from rfl]
  exact Int.fdiv_eq_ediv_of_nonneg _ (by decide)

theorem bits_nat (f : BitVec 64 → BitVec 64 → BitVec 64) (a b : Int) : bitsOf IntKind.u64 f a b = ((f (BitVec.ofInt 64 a) (BitVec.ofInt 64 b)).toNat : Int) := by
  have h : bitsOf IntKind.u64 f a b = IntKind.u64.wrap (((f (BitVec.ofInt 64 a) (BitVec.ofInt 64 b)).toNat : Nat) : Int) := rfl
  rw [h, wu]
  have := (f (BitVec.ofInt 64 a) (BitVec.ofInt 64 b)).isLt
  omega
theorem ofInt_nat (a : Int) (h0 : 0 ≤ a) (h1 : a < 18446744073709551616) : (BitVec.ofInt 64 a).toNat = a.toNat := by
  rw [BitVec.toNat_ofInt]
  have : a % ((2 ^ 64 : Nat) : Int) = a := Int.emod_eq_of_lt h0 (by simpa using h1)
  rw [this]
theorem and_nat (a b : Int) (h0 : 0 ≤ a) (h1 : a < 18446744073709551616) (g0 : 0 ≤ b) (g1 : b < 18446744073709551616) :
    bitsOf IntKind.u64 (fun p q => p &&& q) a b = ((a.toNat &&& b.toNat : Nat) : Int) := by
  refine (bits_nat (fun p q => p &&& q) a b).trans ?_
  rw [BitVec.toNat_and, ofInt_nat a h0 h1, ofInt_nat b g0 g1]
theorem or_nat (a b : Int) (h0 : 0 ≤ a) (h1 : a < 18446744073709551616) (g0 : 0 ≤ b) (g1 : b < 18446744073709551616) :
    bitsOf IntKind.u64 (fun p q => p ||| q) a b = ((a.toNat ||| b.toNat : Nat) : Int) := by
  refine (bits_nat (fun p q => p ||| q) a b).trans ?_
  rw [BitVec.toNat_or, ofInt_nat a h0 h1, ofInt_nat b g0 g1]
theorem and32 (x : Int) (h0 : 0 ≤ x) (h1 : x < 18446744073709551616) : bitsOf IntKind.u64 (fun p q => p &&& q) x 4294967295 = x % 4294967296 := by
  rw [and_nat x _ h0 h1 (by decide) (by decide)]
  have := Nat.and_two_pow_sub_one_eq_mod x.toNat 32
  rw [show (4294967295 : Int).toNat = 2 ^ 32 - 1 from rfl, this]
  omega
theorem and1 (x : Int) (h0 : 0 ≤ x) (h1 : x < 18446744073709551616) : bitsOf IntKind.u64 (fun p q => p &&& q) x 1 = x % 2 := by
  rw [and_nat x _ h0 h1 (by decide) (by decide)]
  have := Nat.and_two_pow_sub_one_eq_mod x.toNat 1
  rw [show (1 : Int).toNat = 2 ^ 1 - 1 from rfl, this]
  omega
theorem or32 (a b : Int) (h0 : 0 ≤ a) (h1 : a < 4294967296) (g0 : 0 ≤ b) (g1 : b < 4294967296) : bitsOf IntKind.u64 (fun p q => p ||| q) (a * 4294967296) b = a * 4294967296 + b := by
  rw [or_nat _ _ (by omega) (by omega) (by omega) (by omega)]
  have := Nat.two_pow_add_eq_or_of_lt (i := 32) (b := b.toNat) (by omega) a.toNat
  rw [show (a * 4294967296).toNat = 2 ^ 32 * a.toNat by omega, ← this]
  omega

theorem add_ok (x y c : Int) (h0 : 0 ≤ x) (h1 : 0 ≤ y) (h2 : 0 ≤ c) (h3 : c ≤ 1) : add64 x y c = some ((x + y + c) % 18446744073709551616, (x + y + c) / 18446744073709551616) := by
  unfold add64
  rw [show Nat.ble c.toNat 1 = true by rw [Nat.ble_eq]; omega]
  simp only [Option.some.injEq, Prod.mk.injEq, Int.ofNat_eq_natCast]
  constructor <;> omega
theorem sub_ok (x y c : Int) (h0 : 0 ≤ x) (h0' : x < 18446744073709551616) (h1 : 0 ≤ y) (h1' : y < 18446744073709551616) (h2 : 0 ≤ c) (h3 : c ≤ 1) :
    sub64 x y c = some ((x - y - c) % 18446744073709551616, if x < y + c then 1 else 0) := by
  unfold sub64
  rw [show Nat.ble c.toNat 1 = true by rw [Nat.ble_eq]; omega]
  simp only [Option.some.injEq, Prod.mk.injEq, Int.ofNat_eq_natCast]
  constructor
  · omega
  · by_cases h : x < y + c
    · rw [if_pos h, if_pos (by omega)]
    · rw [if_neg h, if_neg (by omega)]

theorem size_ok (v : Int) (h0 : -9223372036854775808 ≤ v) (h1 : v < 9223372036854775808) : f84 v = some (if v < 0 then -v else v) := by
  unfold f84
  by_cases h : v < 0
  · rw [show decide (v < 0) = true by simpa using h, if_pos h]
    simp only [cond_true, wu, Option.some.injEq]
    omega
  · rw [show decide (v < 0) = false by simpa using h, if_neg h]
    simp only [cond_false, wu, Option.some.injEq]
    omega

theorem mul_bound (a b : Int) (h0 : 0 ≤ a) (h1 : a ≤ 4294967295) (g0 : 0 ≤ b) (g1 : b ≤ 4294967295) : 0 ≤ a * b ∧ a * b ≤ 18446744065119617025 :=
  ⟨Int.mul_nonneg h0 g0, Int.mul_le_mul h1 g1 g0 (by decide)⟩

theorem mul64_ok (x y : Int) (h0 : 0 ≤ x) (h1 : x < 18446744073709551616) (g0 : 0 ≤ y) (g1 : y < 18446744073709551616) :
    f97 x y = some (x * y / 18446744073709551616, x * y % 18446744073709551616) := by
  unfold f97
  have x1 := Int.mul_ediv_add_emod x 4294967296
  have y1 := Int.mul_ediv_add_emod y 4294967296
  simp only [sh32u, and32 x h0 h1, and32 y g0 g1, wu]
  rw [and32 _ (by omega) (by omega)]
  generalize hx1 : x / 4294967296 = a at *
  generalize hx0 : x % 4294967296 = b at *
  generalize hy1 : y / 4294967296 = c at *
  generalize hy0 : y % 4294967296 = d at *
  obtain ⟨p0, p1⟩ := mul_bound a c (by omega) (by omega) (by omega) (by omega)
  obtain ⟨q0, q1⟩ := mul_bound a d (by omega) (by omega) (by omega) (by omega)
  obtain ⟨r0, r1⟩ := mul_bound b c (by omega) (by omega) (by omega) (by omega)
  obtain ⟨s0, s1⟩ := mul_bound b d (by omega) (by omega) (by omega) (by omega)
  have hxy : x * y = 18446744073709551616 * (a * c) + 4294967296 * (a * d) + 4294967296 * (b * c) + b * d := by
    rw [← x1, ← y1, Int.add_mul, Int.mul_add, Int.mul_add]
    have e1 : 4294967296 * a * (4294967296 * c) = 18446744073709551616 * (a * c) := by
      rw [show (18446744073709551616 : Int) = 4294967296 * 4294967296 from rfl]; ac_rfl
    have e2 : 4294967296 * a * d = 4294967296 * (a * d) := Int.mul_assoc _ _ _
    have e3 : b * (4294967296 * c) = 4294967296 * (b * c) := Int.mul_left_comm _ _ _
    rw [e1, e2, e3]; omega
  rw [hxy]
  generalize a * c = P at *
  generalize a * d = Q at *
  generalize b * c = R at *
  generalize b * d = S at *
  have w0 : ∀ n : Int, 0 ≤ n → n < 18446744073709551616 → n % 18446744073709551616 = n := fun n h0 h1 => Int.emod_eq_of_lt h0 h1
  rw [w0 P (by omega) (by omega), w0 Q (by omega) (by omega), w0 R (by omega) (by omega), w0 S (by omega) (by omega)]
  rw [w0 (Q + S / 4294967296) (by omega) (by omega)]
  rw [w0 ((Q + S / 4294967296) % 4294967296 + R) (by omega) (by omega)]
  rw [w0 (P + (Q + S / 4294967296) / 4294967296) (by omega) (by omega)]
  rw [w0 (P + (Q + S / 4294967296) / 4294967296 + ((Q + S / 4294967296) % 4294967296 + R) / 4294967296) (by omega) (by omega)]
  have hh : (18446744073709551616 * P + 4294967296 * Q + 4294967296 * R + S) / 18446744073709551616 = P + (Q + S / 4294967296) / 4294967296 + ((Q + S / 4294967296) % 4294967296 + R) / 4294967296 := by omega
  rw [hh]

/-- A number of 128 bits: its two words. -/
theorem prod_ok (a b : Int) (a0 : -9223372036854775808 ≤ a) (a1 : a < 9223372036854775808) (b0 : -9223372036854775808 ≤ b) (b1 : b < 9223372036854775808) :
    f66 a b = some (a * b / 18446744073709551616, a * b % 18446744073709551616) := by
  unfold f66
  rw [size_ok a a0 a1, size_ok b b0 b1]
  simp only [bindF_some]
  have key : ∀ x y : Int, 0 ≤ x → x ≤ 9223372036854775808 → 0 ≤ y → y ≤ 9223372036854775808 → 0 ≤ x * y ∧ x * y ≤ 85070591730234615865843651857942052864 := fun x y h0 h1 g0 g1 => ⟨Int.mul_nonneg h0 g0, Int.mul_le_mul h1 g1 g0 (by decide)⟩
  have pos : ∀ q : Int, 0 ≤ q → q ≤ 85070591730234615865843651857942052864 → IntKind.i64.wrap (q / 18446744073709551616) = q / 18446744073709551616 := fun q h0 h1 => wrap_i64 (by omega) (by omega)
  have neg : ∀ q : Int, 0 ≤ q → q ≤ 85070591730234615865843651857942052864 → f86 (q / 18446744073709551616, q % 18446744073709551616) = some (-q / 18446744073709551616, -q % 18446744073709551616) := fun q h0 h1 => by
    unfold f86 f104
    simp only
    rw [sub_ok _ _ _ (by omega) (by omega) (by omega) (by omega) (by omega) (by omega)]
    simp only [bindF_some, wu]
    rw [sub_ok _ _ _ (by omega) (by omega) (by omega) (by omega) (by split <;> omega) (by split <;> omega)]
    simp only [bindF_some, Option.some.injEq, Prod.mk.injEq]
    constructor
    · rw [wi]; split <;> split <;> omega
    · omega
  by_cases ha : a < 0 <;> by_cases hb : b < 0
  · rw [show (decide (a < 0) == decide (b < 0)) = true by simp [ha, hb], if_pos ha, if_pos hb]
    obtain ⟨k0, k1⟩ := key (-a) (-b) (by omega) (by omega) (by omega) (by omega)
    rw [mul64_ok _ _ (by omega) (by omega) (by omega) (by omega)]
    simp only [bindF_some, Bool.not_true, cond_false]
    rw [Int.neg_mul_neg] at *
    rw [pos _ k0 k1]
  · rw [show (decide (a < 0) == decide (b < 0)) = false by simp [ha, hb], if_pos ha, if_neg hb]
    obtain ⟨k0, k1⟩ := key (-a) b (by omega) (by omega) (by omega) (by omega)
    rw [mul64_ok _ _ (by omega) (by omega) (by omega) (by omega)]
    simp only [bindF_some, Bool.not_false, cond_true]
    rw [pos _ k0 k1, neg _ k0 k1]
    simp only [bindF_some, Int.neg_mul, Int.neg_neg]
  · rw [show (decide (a < 0) == decide (b < 0)) = false by simp [ha, hb], if_neg ha, if_pos hb]
    obtain ⟨k0, k1⟩ := key a (-b) (by omega) (by omega) (by omega) (by omega)
    rw [mul64_ok _ _ (by omega) (by omega) (by omega) (by omega)]
    simp only [bindF_some, Bool.not_false, cond_true]
    rw [pos _ k0 k1, neg _ k0 k1]
    simp only [bindF_some, Int.mul_neg, Int.neg_neg]
  · rw [show (decide (a < 0) == decide (b < 0)) = true by simp [ha, hb], if_neg ha, if_neg hb]
    obtain ⟨k0, k1⟩ := key a b (by omega) (by omega) (by omega) (by omega)
    rw [mul64_ok _ _ (by omega) (by omega) (by omega) (by omega)]
    simp only [bindF_some, Bool.not_true, cond_false]
    rw [pos _ k0 k1]

theorem prod_bound (a b : Int) (a0 : -9223372036854775808 ≤ a) (a1 : a < 9223372036854775808) (b0 : -9223372036854775808 ≤ b) (b1 : b < 9223372036854775808) :
    -85070591730234615865843651857942052864 ≤ a * b ∧ a * b ≤ 85070591730234615865843651857942052864 := by
  have key : ∀ x y : Int, 0 ≤ x → x ≤ 9223372036854775808 → 0 ≤ y → y ≤ 9223372036854775808 → 0 ≤ x * y ∧ x * y ≤ 85070591730234615865843651857942052864 := fun x y h0 h1 g0 g1 => ⟨Int.mul_nonneg h0 g0, Int.mul_le_mul h1 g1 g0 (by decide)⟩
  by_cases ha : a < 0 <;> by_cases hb : b < 0
  · have := key (-a) (-b) (by omega) (by omega) (by omega) (by omega)
    rw [Int.neg_mul_neg] at this; omega
  · have := key (-a) b (by omega) (by omega) (by omega) (by omega)
    rw [Int.neg_mul] at this; omega
  · have := key a (-b) (by omega) (by omega) (by omega) (by omega)
    rw [Int.mul_neg] at this; omega
  · have := key a b (by omega) (by omega) (by omega) (by omega)
    omega

/-! ### the accumulator: 192 bits -/
theorem dd (S : Int) : S / 340282366920938463463374607431768211456 = S / 18446744073709551616 / 18446744073709551616 := by omega
theorem sum_div (S p : Int) : (S + p) / 18446744073709551616 = S / 18446744073709551616 + p / 18446744073709551616 + (S % 18446744073709551616 + p % 18446744073709551616) / 18446744073709551616 := by omega
theorem sum_div3 (s q k : Int) : (s + q + k) / 18446744073709551616 = s / 18446744073709551616 + q / 18446744073709551616 + (s % 18446744073709551616 + q % 18446744073709551616 + k) / 18446744073709551616 := by omega
theorem plus_ok (S a b : Int) (s0 : -1000000000000000000000000000000000000000000000 ≤ S) (s1 : S ≤ 1000000000000000000000000000000000000000000000)
    (a0 : -9223372036854775808 ≤ a) (a1 : a < 9223372036854775808) (b0 : -9223372036854775808 ≤ b) (b1 : b < 9223372036854775808) :
    f36 (S / 340282366920938463463374607431768211456) (IntKind.i64.wrap (S / 18446744073709551616)) (S % 18446744073709551616) a b =
      some ((S + a * b) / 340282366920938463463374607431768211456, IntKind.i64.wrap ((S + a * b) / 18446744073709551616), (S + a * b) % 18446744073709551616) := by
  obtain ⟨p0, p1⟩ := prod_bound a b a0 a1 b0 b1
  unfold f36
  rw [prod_ok a b a0 a1 b0 b1]
  generalize a * b = p at *
  simp only [bindF_some]
  rw [add_ok _ _ _ (by omega) (by omega) (by omega) (by omega)]
  simp only [bindF_some, wu_wi]
  rw [wu, add_ok _ _ _ (by omega) (by omega) (by omega) (by omega)]
  simp only [bindF_some, sh63i, Option.some.injEq, Prod.mk.injEq, Int.add_zero]
  have hk0 : 0 ≤ (S % 18446744073709551616 + p % 18446744073709551616) / 18446744073709551616 := by omega
  have hk1 : (S % 18446744073709551616 + p % 18446744073709551616) / 18446744073709551616 ≤ 1 := by omega
  have hlo : (S % 18446744073709551616 + p % 18446744073709551616) % 18446744073709551616 = (S + p) % 18446744073709551616 := by omega
  have hs0 : -100000000000000000000000000 ≤ S / 18446744073709551616 := by omega
  have hs1 : S / 18446744073709551616 ≤ 100000000000000000000000000 := by omega
  have hq0 : -4611686018427387905 ≤ p / 18446744073709551616 := by omega
  have hq1 : p / 18446744073709551616 ≤ 4611686018427387905 := by omega
  rw [dd S, dd (S + p), sum_div S p, hlo]
  generalize (S % 18446744073709551616 + p % 18446744073709551616) / 18446744073709551616 = k at *
  generalize S / 18446744073709551616 = s at *
  generalize p / 18446744073709551616 = q at *
  have hc0 : 0 ≤ (s % 18446744073709551616 + q % 18446744073709551616 + k) / 18446744073709551616 := by omega
  have hc1 : (s % 18446744073709551616 + q % 18446744073709551616 + k) / 18446744073709551616 ≤ 1 := by omega
  have hq : q / 9223372036854775808 = q / 18446744073709551616 := by omega
  have hqr : -1 ≤ q / 18446744073709551616 ∧ q / 18446744073709551616 ≤ 0 := by omega
  have hsr : -100000000 ≤ s / 18446744073709551616 ∧ s / 18446744073709551616 ≤ 100000000 := by omega
  refine ⟨?_, ?_, rfl⟩
  · rw [sum_div3 s q k, hq]
    generalize (s % 18446744073709551616 + q % 18446744073709551616 + k) / 18446744073709551616 = c2 at *
    rw [wrap_i64 (n := c2) (by omega) (by omega), wrap_i64 (n := q / 18446744073709551616 + c2) (by omega) (by omega), wrap_i64 (by omega) (by omega)]
    omega
  · rw [wi_mod, ← wi_mod, ← wi_mod (s + q + k)]
    congr 1
    omega

/-! ### rounding and holding -/
def rhe (S : Int) : Int := if S % 4294967296 > 2147483648 ∨ (S % 4294967296 = 2147483648 ∧ S / 4294967296 % 2 = 1) then S / 4294967296 + 1 else S / 4294967296
def sat (x : Int) : Int := if x ≥ 9223372036854775808 then 9223372036854775807 else if x < -9223372036854775808 then -9223372036854775808 else x

theorem fix_ok (R : Int) (h0 : -1000000000000000000000000000000000000 ≤ R) (h1 : R ≤ 1000000000000000000000000000000000000) : f53 (R / 18446744073709551616, R % 18446744073709551616) = some (sat R) := by
  unfold f53 f53_j2 f53_j3 sat
  simp only
  by_cases c1 : R / 18446744073709551616 > 0
  · rw [show decide (R / 18446744073709551616 > 0) = true by simpa using c1]
    simp only [cond_true, bindF_some, sumF_inr]
    rw [if_pos (by omega)]
  · rw [show decide (R / 18446744073709551616 > 0) = false by simpa using c1]
    simp only [cond_false]
    by_cases c2 : R / 18446744073709551616 = 0
    · rw [show (R / 18446744073709551616 == 0) = true by simpa using c2]
      simp only [cond_true, bindF_some]
      by_cases c3 : R % 18446744073709551616 ≥ 9223372036854775808
      · rw [show decide (R % 18446744073709551616 ≥ 9223372036854775808) = true by simpa using c3]
        simp only [cond_true, bindF_some, sumF_inr]
        rw [if_pos (by omega)]
      · rw [show decide (R % 18446744073709551616 ≥ 9223372036854775808) = false by simpa using c3]
        simp only [cond_false]
        rw [show decide (R / 18446744073709551616 < -1) = false by simp; omega, show (R / 18446744073709551616 == -1) = false by simp; omega]
        simp only [cond_false, bindF_some, sumF_inl]
        rw [if_neg (by omega), if_neg (by omega), wrap_i64 (by omega) (by omega)]
        congr 1; omega
    · rw [show (R / 18446744073709551616 == 0) = false by simpa using c2]
      simp only [cond_false, bindF_some]
      by_cases c4 : R / 18446744073709551616 < -1
      · rw [show decide (R / 18446744073709551616 < -1) = true by simpa using c4]
        simp only [cond_true, bindF_some, sumF_inr]
        rw [if_neg (by omega), if_pos (by omega)]
      · rw [show decide (R / 18446744073709551616 < -1) = false by simpa using c4, show (R / 18446744073709551616 == -1) = true by simp; omega]
        simp only [cond_false, cond_true]
        by_cases c5 : R % 18446744073709551616 < 9223372036854775808
        · rw [show decide (R % 18446744073709551616 < 9223372036854775808) = true by simpa using c5]
          simp only [cond_true, bindF_some, sumF_inr]
          rw [if_neg (by omega), if_pos (by omega)]
        · rw [show decide (R % 18446744073709551616 < 9223372036854775808) = false by simpa using c5]
          simp only [cond_false, bindF_some, sumF_inl]
          rw [if_neg (by omega), if_neg (by omega), wi]
          congr 1
          split <;> omega

theorem down_ok (S : Int) : f100 (S / 18446744073709551616, S % 18446744073709551616) 32 =
    some (S / 18446744073709551616 / 4294967296, S / 4294967296 % 18446744073709551616, S % 4294967296 * 4294967296, 0) := by
  unfold f100
  rw [show decide ((32 : Int) ≥ 64) = false from rfl]
  simp only [cond_false]
  rw [guardF_pos (by decide), guardF_pos (by decide), guardF_pos (by decide), guardF_pos (by decide)]
  simp only [sh32i, sh32u]
  rw [show ((2 : Int) ^ min (Int.toNat (IntKind.i64.wrap ((64 : Int) - 32))) (IntKind.bits IntKind.u64)) = 4294967296 from rfl]
  simp only [wu, Option.some.injEq, Prod.mk.injEq, and_true, true_and]
  refine ⟨?_, by omega⟩
  have e : S / 18446744073709551616 % 18446744073709551616 * 4294967296 % 18446744073709551616 = S / 18446744073709551616 % 4294967296 * 4294967296 := by omega
  rw [e, or32 _ _ (by omega) (by omega) (by omega) (by omega)]
  omega

theorem shift_ok (S : Int) (h0 : -170141183460469231731687303715884105728 ≤ S) (h1 : S < 170141183460469231731687303715884105728) :
    f68 (S / 18446744073709551616, S % 18446744073709551616) 32 = some (rhe S / 18446744073709551616, rhe S % 18446744073709551616) := by
  unfold f68
  rw [show f68_j1 32 = some (Sum.inl ()) from rfl]
  simp only [bindF_some, sumF_inl, down_ok]
  have hup : ∀ q : Int, f51 (q / 18446744073709551616, q % 18446744073709551616) (0, 1) = some (IntKind.i64.wrap ((q + 1) / 18446744073709551616), (q + 1) % 18446744073709551616) := fun q => by
    unfold f51
    simp only
    rw [add_ok _ _ _ (by omega) (by omega) (by omega) (by omega)]
    simp only [bindF_some, wu]
    rw [add_ok _ _ _ (by omega) (by omega) (by omega) (by omega)]
    simp only [bindF_some, Option.some.injEq, Prod.mk.injEq]
    constructor
    · rw [wi_mod, ← wi_mod, ← wi_mod ((q + 1) / 18446744073709551616)]
      congr 1
      omega
    · omega
  have e1 : S / 18446744073709551616 / 4294967296 = S / 4294967296 / 18446744073709551616 := by omega
  rw [e1]
  have hr : rhe S = S / 4294967296 + 1 ∨ rhe S = S / 4294967296 := by unfold rhe; split <;> simp
  have up : f68_j2 (S / 4294967296 / 18446744073709551616, S / 4294967296 % 18446744073709551616, S % 4294967296 * 4294967296, 0) =
      some (decide (S % 4294967296 > 2147483648 ∨ (S % 4294967296 = 2147483648 ∧ S / 4294967296 % 2 = 1))) := by
    unfold f68_j2
    simp only
    by_cases c1 : S % 4294967296 > 2147483648
    · rw [show decide (S % 4294967296 * 4294967296 > 9223372036854775808) = true by simp; omega]
      simp [c1]
    · rw [show decide (S % 4294967296 * 4294967296 > 9223372036854775808) = false by simp; omega]
      simp only [cond_false]
      by_cases c2 : S % 4294967296 = 2147483648
      · rw [show (S % 4294967296 * 4294967296 == 9223372036854775808) = true by simp; omega]
        simp only [cond_true]
        rw [show decide ((0 : Int) > 0) = false from rfl, and1 _ (by omega) (by omega)]
        simp only [cond_false, Option.some.injEq]
        rw [show S / 4294967296 % 18446744073709551616 % 2 = S / 4294967296 % 2 by omega]
        simp [c2]
        rfl
      · rw [show (S % 4294967296 * 4294967296 == 9223372036854775808) = false by simp; omega]
        simp [c1, c2]
  rw [up]
  simp only [bindF_some]
  by_cases c : S % 4294967296 > 2147483648 ∨ (S % 4294967296 = 2147483648 ∧ S / 4294967296 % 2 = 1)
  · rw [show decide _ = true from decide_eq_true c]
    have hrr : rhe S = S / 4294967296 + 1 := by unfold rhe; rw [if_pos c]
    rw [show f52 1 = some (0, 1) from rfl]
    simp only [cond_true, bindF_some, hup]
    rw [hrr, wrap_i64 (by omega) (by omega)]
  · rw [show decide _ = false from decide_eq_false c]
    have hrr : rhe S = S / 4294967296 := by unfold rhe; rw [if_neg c]
    simp only [cond_false]
    rw [hrr]

theorem accFix_ok (S : Int) (s0 : -1000000000000000000000000000000000000000000000 ≤ S) (s1 : S ≤ 1000000000000000000000000000000000000000000000) :
    ∃ x y z, f37 (S / 340282366920938463463374607431768211456) (IntKind.i64.wrap (S / 18446744073709551616)) (S % 18446744073709551616) 32 = some (sat (rhe S), x, y, z) := by
  have hrb : S / 4294967296 ≤ rhe S ∧ rhe S ≤ S / 4294967296 + 1 := by unfold rhe; split <;> omega
  unfold f37
  rw [sh63i]
  by_cases c : -170141183460469231731687303715884105728 ≤ S ∧ S < 170141183460469231731687303715884105728
  · obtain ⟨c0, c1⟩ := c
    have hw : IntKind.i64.wrap (S / 18446744073709551616) = S / 18446744073709551616 := wrap_i64 (by omega) (by omega)
    rw [hw, show (S / 340282366920938463463374607431768211456 == S / 18446744073709551616 / 9223372036854775808) = true by simp; omega]
    simp only [cond_true, shift_ok S c0 c1, bindF_some]
    rw [fix_ok _ (by omega) (by omega)]
    exact ⟨_, _, _, rfl⟩
  · have hne : ¬ S / 340282366920938463463374607431768211456 = IntKind.i64.wrap (S / 18446744073709551616) / 9223372036854775808 := by
      rw [wi]; split <;> omega
    rw [show (S / 340282366920938463463374607431768211456 == IntKind.i64.wrap (S / 18446744073709551616) / 9223372036854775808) = false by simpa using hne]
    simp only [cond_false]
    by_cases c2 : S / 340282366920938463463374607431768211456 < 0
    · rw [show decide (S / 340282366920938463463374607431768211456 < 0) = true by simpa using c2]
      refine ⟨S / 340282366920938463463374607431768211456, IntKind.i64.wrap (S / 18446744073709551616), S % 18446744073709551616, ?_⟩
      simp only [cond_true]
      congr 2
      unfold sat
      rw [if_neg (by omega), if_pos (by omega)]
    · rw [show decide (S / 340282366920938463463374607431768211456 < 0) = false by simpa using c2]
      refine ⟨S / 340282366920938463463374607431768211456, IntKind.i64.wrap (S / 18446744073709551616), S % 18446744073709551616, ?_⟩
      simp only [cond_false]
      congr 2
      unfold sat
      rw [if_pos (by omega)]

/-! ### the product of two rows -/
def dotS : List Int → List Int → Int
  | x :: a, y :: b => x * y + dotS a b
  | _, _ => 0
def inI (l : List Int) : Prop := ∀ x ∈ l, -9223372036854775808 ≤ x ∧ x < 9223372036854775808
theorem dotS_comm : ∀ a b : List Int, dotS a b = dotS b a
  | [], [] => rfl
  | [], _ :: _ => rfl
  | _ :: _, [] => rfl
  | x :: a, y :: b => by simp only [dotS, dotS_comm a b, Int.mul_comm x y]

theorem dot_ok (a b : List Int) (ha : inI a) (hb : inI b) (hl : a.length ≤ 5000 ∨ b.length ≤ 5000) : f14 a b = some (sat (rhe (dotS a b))) := by
  unfold f14
  have hmin : ∀ n : Int, (if (List.length b : Int) < (List.length a : Int) then (List.length b : Int) else (List.length a : Int)) = ((min a.length b.length : Nat) : Int) := fun _ => by split <;> omega
  have H : ∀ x : Int × Int × Int × Int, (∃ (k : Nat) (S : Int), k ≤ a.length ∧ k ≤ b.length ∧ x = ((k : Int), S / 340282366920938463463374607431768211456, IntKind.i64.wrap (S / 18446744073709551616), S % 18446744073709551616) ∧
        S + dotS (a.drop k) (b.drop k) = dotS a b ∧ -(k * 85070591730234615865843651857942052864) ≤ S ∧ S ≤ k * 85070591730234615865843651857942052864) →
      (∃ z, (∀ go, f14_l1 a b go x.1 x.2.1 x.2.2.1 x.2.2.2 = some z) ∧ (∃ S : Int, S = dotS a b ∧ -1000000000000000000000000000000000000000000000 ≤ S ∧ S ≤ 1000000000000000000000000000000000000000000000 ∧ z = (S / 340282366920938463463374607431768211456, IntKind.i64.wrap (S / 18446744073709551616), S % 18446744073709551616))) ∨
      (∃ y : Int × Int × Int × Int, (∀ go, f14_l1 a b go x.1 x.2.1 x.2.2.1 x.2.2.2 = go y) ∧ (∃ (k : Nat) (S : Int), k ≤ a.length ∧ k ≤ b.length ∧ y = ((k : Int), S / 340282366920938463463374607431768211456, IntKind.i64.wrap (S / 18446744073709551616), S % 18446744073709551616) ∧
        S + dotS (a.drop k) (b.drop k) = dotS a b ∧ -(k * 85070591730234615865843651857942052864) ≤ S ∧ S ≤ k * 85070591730234615865843651857942052864) ∧ (((min a.length b.length : Nat) : Int) - y.1).toNat < (((min a.length b.length : Nat) : Int) - x.1).toNat) := by
    rintro _ ⟨k, S, ka, kb, rfl, hS, s0, s1⟩
    by_cases hlt : k < a.length ∧ k < b.length
    · right
      obtain ⟨la, lb⟩ := hlt
      have xa := ha a[k] (List.getElem_mem la)
      have xb := hb b[k] (List.getElem_mem lb)
      obtain ⟨p0, p1⟩ := prod_bound a[k] b[k] xa.1 xa.2 xb.1 xb.2
      refine ⟨(((k + 1 : Nat) : Int), _, _, _), fun go => ?_, ⟨k + 1, S + a[k] * b[k], la, lb, rfl, ?_, ?_, ?_⟩, by simp only; omega⟩
      · simp only [f14_l1, hmin 0]
        rw [show decide ((k : Int) < ((min a.length b.length : Nat) : Int)) = true by simp; omega]
        simp only [cond_true]
        rw [guardF_pos (by omega), guardF_pos (by omega), rd_nat _ _ _ la, rd_nat _ _ _ lb, plus_ok S _ _ (by omega) (by omega) xa.1 xa.2 xb.1 xb.2]
        simp only [bindF_some]
        rw [wrap_i64 (by omega) (by omega)]
        rfl
      · rw [List.drop_eq_getElem_cons la, List.drop_eq_getElem_cons lb] at hS
        simp only [dotS] at hS
        omega
      · simp only [Int.natCast_add, Int.natCast_one, Int.add_mul]; omega
      · simp only [Int.natCast_add, Int.natCast_one, Int.add_mul]; omega
    · left
      refine ⟨_, fun go => ?_, S, ?_, by omega, by omega, rfl⟩
      · simp only [f14_l1, hmin 0]
        rw [show decide ((k : Int) < ((min a.length b.length : Nat) : Int)) = false by simp; omega]
        rfl
      · have : dotS (a.drop k) (b.drop k) = 0 := by
          by_cases h : k < a.length
          · have hb0 : b.drop k = [] := List.drop_eq_nil_of_le (by omega)
            rw [hb0]
            cases a.drop k <;> rfl
          · have ha0 : a.drop k = [] := List.drop_eq_nil_of_le (by omega)
            rw [ha0]
            cases b.drop k <;> rfl
        omega
  obtain ⟨z, e, S, hS, s0, s1, rfl⟩ := loop_fuel (B := fun go (x : Int × Int × Int × Int) => f14_l1 a b go x.1 x.2.1 x.2.2.1 x.2.2.2) _ (fun x => (((min a.length b.length : Nat) : Int) - x.1).toNat) _ H ((0 : Int), (0 : Int), (0 : Int), (0 : Int))
    ⟨0, 0, Nat.zero_le _, Nat.zero_le _, rfl, by simp, by simp, by simp⟩ (by simp; omega)
  rw [e]
  simp only [bindF_some]
  obtain ⟨x, y, w, hf⟩ := accFix_ok S s0 s1
  rw [hf]
  simp only [bindF_some, hS]
end Go.Proofs.PlW
