
import Derived.Test.YtlgiakkejlbbfaaQV
set_option linter.unusedVariables false
set_option linter.unusedSimpArgs false
set_option maxRecDepth 100000
namespace Go.Proofs.PlV
open Go.AM Go.Proofs.PlB Go.Proofs.PlW Go.Proofs.PlT
theorem div_56 (hi lo n : Int) (h0 : 0 < hi) (h1 : hi < n) (l0 : 0 ≤ lo) (l1 : lo < 18446744073709551616) (m0 : 128 ≤ n * 1) (m1 : n * 1 ≤ 255) (hc : f97 n = some 56) :
  f89 hi lo n = some ((hi * 18446744073709551616 + lo) / n, (hi * 18446744073709551616 + lo) % n) := by
 unfold f89
 rw [show (n == 0) = false by simp; omega, show decide (n ≤ hi) = false by simp; omega, show (hi == 0) = false by simp; omega]
 simp only [cond_false]
 rw [hc]
 simp only [bindF_some]
 have a1 : IntKind.u64.wrap 56 = 56 := rfl
 have a2 : IntKind.u64.wrap (64 - 56) = 8 := rfl
 have p1 : (2 : Int) ^ min (Int.toNat 56) (IntKind.bits IntKind.u64) = 72057594037927936 := rfl
 have p2 : (2 : Int) ^ min (Int.toNat 8) (IntKind.bits IntKind.u64) = 256 := rfl
 simp only [a1, a2, p1, p2, sh32u]
 have y : IntKind.u64.wrap (n * 72057594037927936) = n * 72057594037927936 := by rw [wu]; omega
 have u : IntKind.u64.wrap (hi * 72057594037927936) = hi * 72057594037927936 := by rw [wu]; omega
 have lR : Int.fdiv lo 256 = lo / 256 := Int.fdiv_eq_ediv_of_nonneg _ (by decide)
 have lS : IntKind.u64.wrap (lo * 72057594037927936) = lo % 256 * 72057594037927936 := by rw [wu]; omega
 have ho : bitsOf IntKind.u64 (fun p q => p ||| q) (hi * 72057594037927936) (lo / 256) = hi * 72057594037927936 + lo / 256 := by
  rw [or_nat _ _ (by omega) (by omega) (by omega) (by omega)]
  have := Nat.two_pow_add_eq_or_of_lt (i := 56) (b := (lo / 256).toNat) (by omega) hi.toNat
  rw [show (hi * 72057594037927936).toNat = 2 ^ 56 * hi.toNat by omega, ← this]
  omega
 have lo0 : bitsOf IntKind.u64 (fun p q => p &&& q) (lo % 256 * 72057594037927936) 4294967295 = 0 := by rw [and32 _ (by omega) (by omega)]; omega
 simp only [y, u, lR, lS, ho, lo0]
 have y1 : n * 72057594037927936 / 4294967296 = n * 16777216 := by omega
 have u1 : lo % 256 * 72057594037927936 / 4294967296 = lo % 256 * 16777216 := by omega
 simp only [y1, u1]
 have L3 : ∀ (go : Int × Int → Option Int) (q r : Int), 0 ≤ q → q < 4294967296 → f89_l3 lo n 56 go q r = some q := fun go q r q0 q1 => by
  unfold f89_l3 f89_j4
  simp only [a1, p1, sh32u]
  rw [y, and32 _ (by omega) (by omega), show n * 72057594037927936 % 4294967296 = 0 by omega, Int.mul_zero, show decide (q ≥ 4294967296) = false by simp; omega]
  simp only [cond_false]
  rw [show IntKind.u64.wrap (0 : Int) = 0 from rfl, lS, u1]
  rw [show decide ((0 : Int) > IntKind.u64.wrap (IntKind.u64.wrap (4294967296 * r) + lo % 256 * 16777216)) = false by rw [decide_eq_false_iff_not, wu]; omega]
  rfl
 have L7 : ∀ (go : Int × Int → Option Int) (r q : Int), 0 ≤ q → q < 4294967296 → f89_l7 lo n 56 go r q = some q := fun go r q q0 q1 => by
  unfold f89_l7 f89_j8
  simp only [a1, p1, sh32u]
  rw [y, and32 _ (by omega) (by omega), show n * 72057594037927936 % 4294967296 = 0 by omega, Int.mul_zero, show decide (q ≥ 4294967296) = false by simp; omega]
  simp only [cond_false]
  rw [show IntKind.u64.wrap (0 : Int) = 0 from rfl, lS, lo0]
  rw [show decide ((0 : Int) > IntKind.u64.wrap (IntKind.u64.wrap (4294967296 * r) + 0)) = false by rw [decide_eq_false_iff_not, wu]; omega]
  rfl
 have nS : n * 72057594037927936 = n * 16777216 * 4294967296 := by omega
 rw [nS]
 generalize hY : n * 16777216 = Y at *
 generalize hU : hi * 72057594037927936 + lo / 256 = U at *
 generalize hu : lo % 256 * 16777216 = w at *
 have Y0 : 0 < Y := by omega
 have U0 : 0 ≤ U := by omega
 have U1 : U < Y * 4294967296 := by omega
 have U2 : U < 4294967296 * Y := by omega
 have q10 : 0 ≤ U / Y := Int.ediv_nonneg U0 (by omega)
 have q11 : U / Y < 4294967296 := Int.ediv_lt_of_lt_mul Y0 U2
 have e1 := Int.mul_ediv_add_emod U Y
 have m10 := Int.emod_nonneg U (show Y ≠ 0 by omega)
 have m11 := Int.emod_lt_of_pos U Y0
 rw [Int.tdiv_eq_ediv_of_nonneg U0]
 generalize U / Y = q1 at *
 generalize U % Y = r1 at *
 rw [Int.mul_comm Y q1] at e1
 have t1 : q1 * (Y * 4294967296) = q1 * Y * 4294967296 := (Int.mul_assoc _ _ _).symm
 have wq : IntKind.u64.wrap q1 = q1 := by rw [wu]; omega
 rw [guardF_pos (by decide), guardF_pos (by decide), guardF_pos (by decide), guardF_pos (by decide), guardF_pos (by omega), wq]
 rw [lf1]
 simp only
 rw [L3 _ _ _ q10 q11]
 simp only [bindF_some]
 rw [guardF_pos (by omega), t1]
 have v1 : IntKind.u64.wrap (IntKind.u64.wrap (IntKind.u64.wrap (U * 4294967296) + w) - IntKind.u64.wrap (q1 * Y * 4294967296)) = r1 * 4294967296 + w := by
  simp only [wu]
  generalize q1 * Y = T1 at *
  omega
 rw [v1]
 have V1 : r1 * 4294967296 + w < 4294967296 * Y := by omega
 generalize hV : r1 * 4294967296 + w = V at *
 have V0 : 0 ≤ V := by omega
 have q00 : 0 ≤ V / Y := Int.ediv_nonneg V0 (by omega)
 have q01 : V / Y < 4294967296 := Int.ediv_lt_of_lt_mul Y0 V1
 have e0 := Int.mul_ediv_add_emod V Y
 have m00 := Int.emod_nonneg V (show Y ≠ 0 by omega)
 have m01 := Int.emod_lt_of_pos V Y0
 rw [Int.tdiv_eq_ediv_of_nonneg V0]
 generalize V / Y = q0 at *
 generalize V % Y = r0 at *
 rw [Int.mul_comm Y q0] at e0
 have wq0 : IntKind.u64.wrap q0 = q0 := by rw [wu]; omega
 rw [wq0, lf1]
 simp only
 rw [L7 _ _ _ q00 q01]
 simp only [bindF_some]
 rw [guardF_pos (by decide)]
 have t0 : q0 * (Y * 4294967296) = q0 * Y * 4294967296 := (Int.mul_assoc _ _ _).symm
 rw [t0]
 have v0 : IntKind.u64.wrap (IntKind.u64.wrap (IntKind.u64.wrap (V * 4294967296) + 0) - IntKind.u64.wrap (q0 * Y * 4294967296)) = r0 * 4294967296 := by
  simp only [wu]
  generalize q0 * Y = T0 at *
  omega
 have vq : IntKind.u64.wrap (IntKind.u64.wrap (q1 * 4294967296) + q0) = q1 * 4294967296 + q0 := by
  simp only [wu]; omega
 rw [v0, vq, Int.fdiv_eq_ediv_of_nonneg _ (by decide)]
 have hQ : (q1 * 4294967296 + q0) * n * 16777216 = q1 * Y * 4294967296 + q0 * Y := by
  rw [Int.mul_assoc, hY, Int.add_mul, Int.mul_assoc, Int.mul_comm 4294967296 Y, ← Int.mul_assoc]
 generalize q1 * Y = T1 at *
 generalize q0 * Y = T0 at *
 rw [Int.mul_comm (q1 * 4294967296 + q0) n] at hQ
 generalize hqq : q1 * 4294967296 + q0 = Q at *
 generalize hnq : n * Q = M at *
 have key : (hi * 18446744073709551616 + lo) / n = Q ∧ (hi * 18446744073709551616 + lo) % n = r0 * 4294967296 / 72057594037927936 := by
  apply (Int.ediv_emod_unique (show 0 < n by omega)).2
  rw [hnq]
  refine ⟨?_, ?_, ?_⟩ <;> omega
 rw [key.1, key.2]
theorem div_57 (hi lo n : Int) (h0 : 0 < hi) (h1 : hi < n) (l0 : 0 ≤ lo) (l1 : lo < 18446744073709551616) (m0 : 128 ≤ n * 2) (m1 : n * 2 ≤ 255) (hc : f97 n = some 57) :
  f89 hi lo n = some ((hi * 18446744073709551616 + lo) / n, (hi * 18446744073709551616 + lo) % n) := by
 unfold f89
 rw [show (n == 0) = false by simp; omega, show decide (n ≤ hi) = false by simp; omega, show (hi == 0) = false by simp; omega]
 simp only [cond_false]
 rw [hc]
 simp only [bindF_some]
 have a1 : IntKind.u64.wrap 57 = 57 := rfl
 have a2 : IntKind.u64.wrap (64 - 57) = 7 := rfl
 have p1 : (2 : Int) ^ min (Int.toNat 57) (IntKind.bits IntKind.u64) = 144115188075855872 := rfl
 have p2 : (2 : Int) ^ min (Int.toNat 7) (IntKind.bits IntKind.u64) = 128 := rfl
 simp only [a1, a2, p1, p2, sh32u]
 have y : IntKind.u64.wrap (n * 144115188075855872) = n * 144115188075855872 := by rw [wu]; omega
 have u : IntKind.u64.wrap (hi * 144115188075855872) = hi * 144115188075855872 := by rw [wu]; omega
 have lR : Int.fdiv lo 128 = lo / 128 := Int.fdiv_eq_ediv_of_nonneg _ (by decide)
 have lS : IntKind.u64.wrap (lo * 144115188075855872) = lo % 128 * 144115188075855872 := by rw [wu]; omega
 have ho : bitsOf IntKind.u64 (fun p q => p ||| q) (hi * 144115188075855872) (lo / 128) = hi * 144115188075855872 + lo / 128 := by
  rw [or_nat _ _ (by omega) (by omega) (by omega) (by omega)]
  have := Nat.two_pow_add_eq_or_of_lt (i := 57) (b := (lo / 128).toNat) (by omega) hi.toNat
  rw [show (hi * 144115188075855872).toNat = 2 ^ 57 * hi.toNat by omega, ← this]
  omega
 have lo0 : bitsOf IntKind.u64 (fun p q => p &&& q) (lo % 128 * 144115188075855872) 4294967295 = 0 := by rw [and32 _ (by omega) (by omega)]; omega
 simp only [y, u, lR, lS, ho, lo0]
 have y1 : n * 144115188075855872 / 4294967296 = n * 33554432 := by omega
 have u1 : lo % 128 * 144115188075855872 / 4294967296 = lo % 128 * 33554432 := by omega
 simp only [y1, u1]
 have L3 : ∀ (go : Int × Int → Option Int) (q r : Int), 0 ≤ q → q < 4294967296 → f89_l3 lo n 57 go q r = some q := fun go q r q0 q1 => by
  unfold f89_l3 f89_j4
  simp only [a1, p1, sh32u]
  rw [y, and32 _ (by omega) (by omega), show n * 144115188075855872 % 4294967296 = 0 by omega, Int.mul_zero, show decide (q ≥ 4294967296) = false by simp; omega]
  simp only [cond_false]
  rw [show IntKind.u64.wrap (0 : Int) = 0 from rfl, lS, u1]
  rw [show decide ((0 : Int) > IntKind.u64.wrap (IntKind.u64.wrap (4294967296 * r) + lo % 128 * 33554432)) = false by rw [decide_eq_false_iff_not, wu]; omega]
  rfl
 have L7 : ∀ (go : Int × Int → Option Int) (r q : Int), 0 ≤ q → q < 4294967296 → f89_l7 lo n 57 go r q = some q := fun go r q q0 q1 => by
  unfold f89_l7 f89_j8
  simp only [a1, p1, sh32u]
  rw [y, and32 _ (by omega) (by omega), show n * 144115188075855872 % 4294967296 = 0 by omega, Int.mul_zero, show decide (q ≥ 4294967296) = false by simp; omega]
  simp only [cond_false]
  rw [show IntKind.u64.wrap (0 : Int) = 0 from rfl, lS, lo0]
  rw [show decide ((0 : Int) > IntKind.u64.wrap (IntKind.u64.wrap (4294967296 * r) + 0)) = false by rw [decide_eq_false_iff_not, wu]; omega]
  rfl
 have nS : n * 144115188075855872 = n * 33554432 * 4294967296 := by omega
 rw [nS]
 generalize hY : n * 33554432 = Y at *
 generalize hU : hi * 144115188075855872 + lo / 128 = U at *
 generalize hu : lo % 128 * 33554432 = w at *
 have Y0 : 0 < Y := by omega
 have U0 : 0 ≤ U := by omega
 have U1 : U < Y * 4294967296 := by omega
 have U2 : U < 4294967296 * Y := by omega
 have q10 : 0 ≤ U / Y := Int.ediv_nonneg U0 (by omega)
 have q11 : U / Y < 4294967296 := Int.ediv_lt_of_lt_mul Y0 U2
 have e1 := Int.mul_ediv_add_emod U Y
 have m10 := Int.emod_nonneg U (show Y ≠ 0 by omega)
 have m11 := Int.emod_lt_of_pos U Y0
 rw [Int.tdiv_eq_ediv_of_nonneg U0]
 generalize U / Y = q1 at *
 generalize U % Y = r1 at *
 rw [Int.mul_comm Y q1] at e1
 have t1 : q1 * (Y * 4294967296) = q1 * Y * 4294967296 := (Int.mul_assoc _ _ _).symm
 have wq : IntKind.u64.wrap q1 = q1 := by rw [wu]; omega
 rw [guardF_pos (by decide), guardF_pos (by decide), guardF_pos (by decide), guardF_pos (by decide), guardF_pos (by omega), wq]
 rw [lf1]
 simp only
 rw [L3 _ _ _ q10 q11]
 simp only [bindF_some]
 rw [guardF_pos (by omega), t1]
 have v1 : IntKind.u64.wrap (IntKind.u64.wrap (IntKind.u64.wrap (U * 4294967296) + w) - IntKind.u64.wrap (q1 * Y * 4294967296)) = r1 * 4294967296 + w := by
  simp only [wu]
  generalize q1 * Y = T1 at *
  omega
 rw [v1]
 have V1 : r1 * 4294967296 + w < 4294967296 * Y := by omega
 generalize hV : r1 * 4294967296 + w = V at *
 have V0 : 0 ≤ V := by omega
 have q00 : 0 ≤ V / Y := Int.ediv_nonneg V0 (by omega)
 have q01 : V / Y < 4294967296 := Int.ediv_lt_of_lt_mul Y0 V1
 have e0 := Int.mul_ediv_add_emod V Y
 have m00 := Int.emod_nonneg V (show Y ≠ 0 by omega)
 have m01 := Int.emod_lt_of_pos V Y0
 rw [Int.tdiv_eq_ediv_of_nonneg V0]
 generalize V / Y = q0 at *
 generalize V % Y = r0 at *
 rw [Int.mul_comm Y q0] at e0
 have wq0 : IntKind.u64.wrap q0 = q0 := by rw [wu]; omega
 rw [wq0, lf1]
 simp only
 rw [L7 _ _ _ q00 q01]
 simp only [bindF_some]
 rw [guardF_pos (by decide)]
 have t0 : q0 * (Y * 4294967296) = q0 * Y * 4294967296 := (Int.mul_assoc _ _ _).symm
 rw [t0]
 have v0 : IntKind.u64.wrap (IntKind.u64.wrap (IntKind.u64.wrap (V * 4294967296) + 0) - IntKind.u64.wrap (q0 * Y * 4294967296)) = r0 * 4294967296 := by
  simp only [wu]
  generalize q0 * Y = T0 at *
  omega
 have vq : IntKind.u64.wrap (IntKind.u64.wrap (q1 * 4294967296) + q0) = q1 * 4294967296 + q0 := by
  simp only [wu]; omega
 rw [v0, vq, Int.fdiv_eq_ediv_of_nonneg _ (by decide)]
 have hQ : (q1 * 4294967296 + q0) * n * 33554432 = q1 * Y * 4294967296 + q0 * Y := by
  rw [Int.mul_assoc, hY, Int.add_mul, Int.mul_assoc, Int.mul_comm 4294967296 Y, ← Int.mul_assoc]
 generalize q1 * Y = T1 at *
 generalize q0 * Y = T0 at *
 rw [Int.mul_comm (q1 * 4294967296 + q0) n] at hQ
 generalize hqq : q1 * 4294967296 + q0 = Q at *
 generalize hnq : n * Q = M at *
 have key : (hi * 18446744073709551616 + lo) / n = Q ∧ (hi * 18446744073709551616 + lo) % n = r0 * 4294967296 / 144115188075855872 := by
  apply (Int.ediv_emod_unique (show 0 < n by omega)).2
  rw [hnq]
  refine ⟨?_, ?_, ?_⟩ <;> omega
 rw [key.1, key.2]
theorem div_58 (hi lo n : Int) (h0 : 0 < hi) (h1 : hi < n) (l0 : 0 ≤ lo) (l1 : lo < 18446744073709551616) (m0 : 128 ≤ n * 4) (m1 : n * 4 ≤ 255) (hc : f97 n = some 58) :
  f89 hi lo n = some ((hi * 18446744073709551616 + lo) / n, (hi * 18446744073709551616 + lo) % n) := by
 unfold f89
 rw [show (n == 0) = false by simp; omega, show decide (n ≤ hi) = false by simp; omega, show (hi == 0) = false by simp; omega]
 simp only [cond_false]
 rw [hc]
 simp only [bindF_some]
 have a1 : IntKind.u64.wrap 58 = 58 := rfl
 have a2 : IntKind.u64.wrap (64 - 58) = 6 := rfl
 have p1 : (2 : Int) ^ min (Int.toNat 58) (IntKind.bits IntKind.u64) = 288230376151711744 := rfl
 have p2 : (2 : Int) ^ min (Int.toNat 6) (IntKind.bits IntKind.u64) = 64 := rfl
 simp only [a1, a2, p1, p2, sh32u]
 have y : IntKind.u64.wrap (n * 288230376151711744) = n * 288230376151711744 := by rw [wu]; omega
 have u : IntKind.u64.wrap (hi * 288230376151711744) = hi * 288230376151711744 := by rw [wu]; omega
 have lR : Int.fdiv lo 64 = lo / 64 := Int.fdiv_eq_ediv_of_nonneg _ (by decide)
 have lS : IntKind.u64.wrap (lo * 288230376151711744) = lo % 64 * 288230376151711744 := by rw [wu]; omega
 have ho : bitsOf IntKind.u64 (fun p q => p ||| q) (hi * 288230376151711744) (lo / 64) = hi * 288230376151711744 + lo / 64 := by
  rw [or_nat _ _ (by omega) (by omega) (by omega) (by omega)]
  have := Nat.two_pow_add_eq_or_of_lt (i := 58) (b := (lo / 64).toNat) (by omega) hi.toNat
  rw [show (hi * 288230376151711744).toNat = 2 ^ 58 * hi.toNat by omega, ← this]
  omega
 have lo0 : bitsOf IntKind.u64 (fun p q => p &&& q) (lo % 64 * 288230376151711744) 4294967295 = 0 := by rw [and32 _ (by omega) (by omega)]; omega
 simp only [y, u, lR, lS, ho, lo0]
 have y1 : n * 288230376151711744 / 4294967296 = n * 67108864 := by omega
 have u1 : lo % 64 * 288230376151711744 / 4294967296 = lo % 64 * 67108864 := by omega
 simp only [y1, u1]
 have L3 : ∀ (go : Int × Int → Option Int) (q r : Int), 0 ≤ q → q < 4294967296 → f89_l3 lo n 58 go q r = some q := fun go q r q0 q1 => by
  unfold f89_l3 f89_j4
  simp only [a1, p1, sh32u]
  rw [y, and32 _ (by omega) (by omega), show n * 288230376151711744 % 4294967296 = 0 by omega, Int.mul_zero, show decide (q ≥ 4294967296) = false by simp; omega]
  simp only [cond_false]
  rw [show IntKind.u64.wrap (0 : Int) = 0 from rfl, lS, u1]
  rw [show decide ((0 : Int) > IntKind.u64.wrap (IntKind.u64.wrap (4294967296 * r) + lo % 64 * 67108864)) = false by rw [decide_eq_false_iff_not, wu]; omega]
  rfl
 have L7 : ∀ (go : Int × Int → Option Int) (r q : Int), 0 ≤ q → q < 4294967296 → f89_l7 lo n 58 go r q = some q := fun go r q q0 q1 => by
  unfold f89_l7 f89_j8
  simp only [a1, p1, sh32u]
  rw [y, and32 _ (by omega) (by omega), show n * 288230376151711744 % 4294967296 = 0 by omega, Int.mul_zero, show decide (q ≥ 4294967296) = false by simp; omega]
  simp only [cond_false]
  rw [show IntKind.u64.wrap (0 : Int) = 0 from rfl, lS, lo0]
  rw [show decide ((0 : Int) > IntKind.u64.wrap (IntKind.u64.wrap (4294967296 * r) + 0)) = false by rw [decide_eq_false_iff_not, wu]; omega]
  rfl
 have nS : n * 288230376151711744 = n * 67108864 * 4294967296 := by omega
 rw [nS]
 generalize hY : n * 67108864 = Y at *
 generalize hU : hi * 288230376151711744 + lo / 64 = U at *
 generalize hu : lo % 64 * 67108864 = w at *
 have Y0 : 0 < Y := by omega
 have U0 : 0 ≤ U := by omega
 have U1 : U < Y * 4294967296 := by omega
 have U2 : U < 4294967296 * Y := by omega
 have q10 : 0 ≤ U / Y := Int.ediv_nonneg U0 (by omega)
 have q11 : U / Y < 4294967296 := Int.ediv_lt_of_lt_mul Y0 U2
 have e1 := Int.mul_ediv_add_emod U Y
 have m10 := Int.emod_nonneg U (show Y ≠ 0 by omega)
 have m11 := Int.emod_lt_of_pos U Y0
 rw [Int.tdiv_eq_ediv_of_nonneg U0]
 generalize U / Y = q1 at *
 generalize U % Y = r1 at *
 rw [Int.mul_comm Y q1] at e1
 have t1 : q1 * (Y * 4294967296) = q1 * Y * 4294967296 := (Int.mul_assoc _ _ _).symm
 have wq : IntKind.u64.wrap q1 = q1 := by rw [wu]; omega
 rw [guardF_pos (by decide), guardF_pos (by decide), guardF_pos (by decide), guardF_pos (by decide), guardF_pos (by omega), wq]
 rw [lf1]
 simp only
 rw [L3 _ _ _ q10 q11]
 simp only [bindF_some]
 rw [guardF_pos (by omega), t1]
 have v1 : IntKind.u64.wrap (IntKind.u64.wrap (IntKind.u64.wrap (U * 4294967296) + w) - IntKind.u64.wrap (q1 * Y * 4294967296)) = r1 * 4294967296 + w := by
  simp only [wu]
  generalize q1 * Y = T1 at *
  omega
 rw [v1]
 have V1 : r1 * 4294967296 + w < 4294967296 * Y := by omega
 generalize hV : r1 * 4294967296 + w = V at *
 have V0 : 0 ≤ V := by omega
 have q00 : 0 ≤ V / Y := Int.ediv_nonneg V0 (by omega)
 have q01 : V / Y < 4294967296 := Int.ediv_lt_of_lt_mul Y0 V1
 have e0 := Int.mul_ediv_add_emod V Y
 have m00 := Int.emod_nonneg V (show Y ≠ 0 by omega)
 have m01 := Int.emod_lt_of_pos V Y0
 rw [Int.tdiv_eq_ediv_of_nonneg V0]
 generalize V / Y = q0 at *
 generalize V % Y = r0 at *
 rw [Int.mul_comm Y q0] at e0
 have wq0 : IntKind.u64.wrap q0 = q0 := by rw [wu]; omega
 rw [wq0, lf1]
 simp only
 rw [L7 _ _ _ q00 q01]
 simp only [bindF_some]
 rw [guardF_pos (by decide)]
 have t0 : q0 * (Y * 4294967296) = q0 * Y * 4294967296 := (Int.mul_assoc _ _ _).symm
 rw [t0]
 have v0 : IntKind.u64.wrap (IntKind.u64.wrap (IntKind.u64.wrap (V * 4294967296) + 0) - IntKind.u64.wrap (q0 * Y * 4294967296)) = r0 * 4294967296 := by
  simp only [wu]
  generalize q0 * Y = T0 at *
  omega
 have vq : IntKind.u64.wrap (IntKind.u64.wrap (q1 * 4294967296) + q0) = q1 * 4294967296 + q0 := by
  simp only [wu]; omega
 rw [v0, vq, Int.fdiv_eq_ediv_of_nonneg _ (by decide)]
 have hQ : (q1 * 4294967296 + q0) * n * 67108864 = q1 * Y * 4294967296 + q0 * Y := by
  rw [Int.mul_assoc, hY, Int.add_mul, Int.mul_assoc, Int.mul_comm 4294967296 Y, ← Int.mul_assoc]
 generalize q1 * Y = T1 at *
 generalize q0 * Y = T0 at *
 rw [Int.mul_comm (q1 * 4294967296 + q0) n] at hQ
 generalize hqq : q1 * 4294967296 + q0 = Q at *
 generalize hnq : n * Q = M at *
 have key : (hi * 18446744073709551616 + lo) / n = Q ∧ (hi * 18446744073709551616 + lo) % n = r0 * 4294967296 / 288230376151711744 := by
  apply (Int.ediv_emod_unique (show 0 < n by omega)).2
  rw [hnq]
  refine ⟨?_, ?_, ?_⟩ <;> omega
 rw [key.1, key.2]
theorem div_59 (hi lo n : Int) (h0 : 0 < hi) (h1 : hi < n) (l0 : 0 ≤ lo) (l1 : lo < 18446744073709551616) (m0 : 128 ≤ n * 8) (m1 : n * 8 ≤ 255) (hc : f97 n = some 59) :
  f89 hi lo n = some ((hi * 18446744073709551616 + lo) / n, (hi * 18446744073709551616 + lo) % n) := by
 unfold f89
 rw [show (n == 0) = false by simp; omega, show decide (n ≤ hi) = false by simp; omega, show (hi == 0) = false by simp; omega]
 simp only [cond_false]
 rw [hc]
 simp only [bindF_some]
 have a1 : IntKind.u64.wrap 59 = 59 := rfl
 have a2 : IntKind.u64.wrap (64 - 59) = 5 := rfl
 have p1 : (2 : Int) ^ min (Int.toNat 59) (IntKind.bits IntKind.u64) = 576460752303423488 := rfl
 have p2 : (2 : Int) ^ min (Int.toNat 5) (IntKind.bits IntKind.u64) = 32 := rfl
 simp only [a1, a2, p1, p2, sh32u]
 have y : IntKind.u64.wrap (n * 576460752303423488) = n * 576460752303423488 := by rw [wu]; omega
 have u : IntKind.u64.wrap (hi * 576460752303423488) = hi * 576460752303423488 := by rw [wu]; omega
 have lR : Int.fdiv lo 32 = lo / 32 := Int.fdiv_eq_ediv_of_nonneg _ (by decide)
 have lS : IntKind.u64.wrap (lo * 576460752303423488) = lo % 32 * 576460752303423488 := by rw [wu]; omega
 have ho : bitsOf IntKind.u64 (fun p q => p ||| q) (hi * 576460752303423488) (lo / 32) = hi * 576460752303423488 + lo / 32 := by
  rw [or_nat _ _ (by omega) (by omega) (by omega) (by omega)]
  have := Nat.two_pow_add_eq_or_of_lt (i := 59) (b := (lo / 32).toNat) (by omega) hi.toNat
  rw [show (hi * 576460752303423488).toNat = 2 ^ 59 * hi.toNat by omega, ← this]
  omega
 have lo0 : bitsOf IntKind.u64 (fun p q => p &&& q) (lo % 32 * 576460752303423488) 4294967295 = 0 := by rw [and32 _ (by omega) (by omega)]; omega
 simp only [y, u, lR, lS, ho, lo0]
 have y1 : n * 576460752303423488 / 4294967296 = n * 134217728 := by omega
 have u1 : lo % 32 * 576460752303423488 / 4294967296 = lo % 32 * 134217728 := by omega
 simp only [y1, u1]
 have L3 : ∀ (go : Int × Int → Option Int) (q r : Int), 0 ≤ q → q < 4294967296 → f89_l3 lo n 59 go q r = some q := fun go q r q0 q1 => by
  unfold f89_l3 f89_j4
  simp only [a1, p1, sh32u]
  rw [y, and32 _ (by omega) (by omega), show n * 576460752303423488 % 4294967296 = 0 by omega, Int.mul_zero, show decide (q ≥ 4294967296) = false by simp; omega]
  simp only [cond_false]
  rw [show IntKind.u64.wrap (0 : Int) = 0 from rfl, lS, u1]
  rw [show decide ((0 : Int) > IntKind.u64.wrap (IntKind.u64.wrap (4294967296 * r) + lo % 32 * 134217728)) = false by rw [decide_eq_false_iff_not, wu]; omega]
  rfl
 have L7 : ∀ (go : Int × Int → Option Int) (r q : Int), 0 ≤ q → q < 4294967296 → f89_l7 lo n 59 go r q = some q := fun go r q q0 q1 => by
  unfold f89_l7 f89_j8
  simp only [a1, p1, sh32u]
  rw [y, and32 _ (by omega) (by omega), show n * 576460752303423488 % 4294967296 = 0 by omega, Int.mul_zero, show decide (q ≥ 4294967296) = false by simp; omega]
  simp only [cond_false]
  rw [show IntKind.u64.wrap (0 : Int) = 0 from rfl, lS, lo0]
  rw [show decide ((0 : Int) > IntKind.u64.wrap (IntKind.u64.wrap (4294967296 * r) + 0)) = false by rw [decide_eq_false_iff_not, wu]; omega]
  rfl
 have nS : n * 576460752303423488 = n * 134217728 * 4294967296 := by omega
 rw [nS]
 generalize hY : n * 134217728 = Y at *
 generalize hU : hi * 576460752303423488 + lo / 32 = U at *
 generalize hu : lo % 32 * 134217728 = w at *
 have Y0 : 0 < Y := by omega
 have U0 : 0 ≤ U := by omega
 have U1 : U < Y * 4294967296 := by omega
 have U2 : U < 4294967296 * Y := by omega
 have q10 : 0 ≤ U / Y := Int.ediv_nonneg U0 (by omega)
 have q11 : U / Y < 4294967296 := Int.ediv_lt_of_lt_mul Y0 U2
 have e1 := Int.mul_ediv_add_emod U Y
 have m10 := Int.emod_nonneg U (show Y ≠ 0 by omega)
 have m11 := Int.emod_lt_of_pos U Y0
 rw [Int.tdiv_eq_ediv_of_nonneg U0]
 generalize U / Y = q1 at *
 generalize U % Y = r1 at *
 rw [Int.mul_comm Y q1] at e1
 have t1 : q1 * (Y * 4294967296) = q1 * Y * 4294967296 := (Int.mul_assoc _ _ _).symm
 have wq : IntKind.u64.wrap q1 = q1 := by rw [wu]; omega
 rw [guardF_pos (by decide), guardF_pos (by decide), guardF_pos (by decide), guardF_pos (by decide), guardF_pos (by omega), wq]
 rw [lf1]
 simp only
 rw [L3 _ _ _ q10 q11]
 simp only [bindF_some]
 rw [guardF_pos (by omega), t1]
 have v1 : IntKind.u64.wrap (IntKind.u64.wrap (IntKind.u64.wrap (U * 4294967296) + w) - IntKind.u64.wrap (q1 * Y * 4294967296)) = r1 * 4294967296 + w := by
  simp only [wu]
  generalize q1 * Y = T1 at *
  omega
 rw [v1]
 have V1 : r1 * 4294967296 + w < 4294967296 * Y := by omega
 generalize hV : r1 * 4294967296 + w = V at *
 have V0 : 0 ≤ V := by omega
 have q00 : 0 ≤ V / Y := Int.ediv_nonneg V0 (by omega)
 have q01 : V / Y < 4294967296 := Int.ediv_lt_of_lt_mul Y0 V1
 have e0 := Int.mul_ediv_add_emod V Y
 have m00 := Int.emod_nonneg V (show Y ≠ 0 by omega)
 have m01 := Int.emod_lt_of_pos V Y0
 rw [Int.tdiv_eq_ediv_of_nonneg V0]
 generalize V / Y = q0 at *
 generalize V % Y = r0 at *
 rw [Int.mul_comm Y q0] at e0
 have wq0 : IntKind.u64.wrap q0 = q0 := by rw [wu]; omega
 rw [wq0, lf1]
 simp only
 rw [L7 _ _ _ q00 q01]
 simp only [bindF_some]
 rw [guardF_pos (by decide)]
 have t0 : q0 * (Y * 4294967296) = q0 * Y * 4294967296 := (Int.mul_assoc _ _ _).symm
 rw [t0]
 have v0 : IntKind.u64.wrap (IntKind.u64.wrap (IntKind.u64.wrap (V * 4294967296) + 0) - IntKind.u64.wrap (q0 * Y * 4294967296)) = r0 * 4294967296 := by
  simp only [wu]
  generalize q0 * Y = T0 at *
  omega
 have vq : IntKind.u64.wrap (IntKind.u64.wrap (q1 * 4294967296) + q0) = q1 * 4294967296 + q0 := by
  simp only [wu]; omega
 rw [v0, vq, Int.fdiv_eq_ediv_of_nonneg _ (by decide)]
 have hQ : (q1 * 4294967296 + q0) * n * 134217728 = q1 * Y * 4294967296 + q0 * Y := by
  rw [Int.mul_assoc, hY, Int.add_mul, Int.mul_assoc, Int.mul_comm 4294967296 Y, ← Int.mul_assoc]
 generalize q1 * Y = T1 at *
 generalize q0 * Y = T0 at *
 rw [Int.mul_comm (q1 * 4294967296 + q0) n] at hQ
 generalize hqq : q1 * 4294967296 + q0 = Q at *
 generalize hnq : n * Q = M at *
 have key : (hi * 18446744073709551616 + lo) / n = Q ∧ (hi * 18446744073709551616 + lo) % n = r0 * 4294967296 / 576460752303423488 := by
  apply (Int.ediv_emod_unique (show 0 < n by omega)).2
  rw [hnq]
  refine ⟨?_, ?_, ?_⟩ <;> omega
 rw [key.1, key.2]
theorem div_60 (hi lo n : Int) (h0 : 0 < hi) (h1 : hi < n) (l0 : 0 ≤ lo) (l1 : lo < 18446744073709551616) (m0 : 128 ≤ n * 16) (m1 : n * 16 ≤ 255) (hc : f97 n = some 60) :
  f89 hi lo n = some ((hi * 18446744073709551616 + lo) / n, (hi * 18446744073709551616 + lo) % n) := by
 unfold f89
 rw [show (n == 0) = false by simp; omega, show decide (n ≤ hi) = false by simp; omega, show (hi == 0) = false by simp; omega]
 simp only [cond_false]
 rw [hc]
 simp only [bindF_some]
 have a1 : IntKind.u64.wrap 60 = 60 := rfl
 have a2 : IntKind.u64.wrap (64 - 60) = 4 := rfl
 have p1 : (2 : Int) ^ min (Int.toNat 60) (IntKind.bits IntKind.u64) = 1152921504606846976 := rfl
 have p2 : (2 : Int) ^ min (Int.toNat 4) (IntKind.bits IntKind.u64) = 16 := rfl
 simp only [a1, a2, p1, p2, sh32u]
 have y : IntKind.u64.wrap (n * 1152921504606846976) = n * 1152921504606846976 := by rw [wu]; omega
 have u : IntKind.u64.wrap (hi * 1152921504606846976) = hi * 1152921504606846976 := by rw [wu]; omega
 have lR : Int.fdiv lo 16 = lo / 16 := Int.fdiv_eq_ediv_of_nonneg _ (by decide)
 have lS : IntKind.u64.wrap (lo * 1152921504606846976) = lo % 16 * 1152921504606846976 := by rw [wu]; omega
 have ho : bitsOf IntKind.u64 (fun p q => p ||| q) (hi * 1152921504606846976) (lo / 16) = hi * 1152921504606846976 + lo / 16 := by
  rw [or_nat _ _ (by omega) (by omega) (by omega) (by omega)]
  have := Nat.two_pow_add_eq_or_of_lt (i := 60) (b := (lo / 16).toNat) (by omega) hi.toNat
  rw [show (hi * 1152921504606846976).toNat = 2 ^ 60 * hi.toNat by omega, ← this]
  omega
 have lo0 : bitsOf IntKind.u64 (fun p q => p &&& q) (lo % 16 * 1152921504606846976) 4294967295 = 0 := by rw [and32 _ (by omega) (by omega)]; omega
 simp only [y, u, lR, lS, ho, lo0]
 have y1 : n * 1152921504606846976 / 4294967296 = n * 268435456 := by omega
 have u1 : lo % 16 * 1152921504606846976 / 4294967296 = lo % 16 * 268435456 := by omega
 simp only [y1, u1]
 have L3 : ∀ (go : Int × Int → Option Int) (q r : Int), 0 ≤ q → q < 4294967296 → f89_l3 lo n 60 go q r = some q := fun go q r q0 q1 => by
  unfold f89_l3 f89_j4
  simp only [a1, p1, sh32u]
  rw [y, and32 _ (by omega) (by omega), show n * 1152921504606846976 % 4294967296 = 0 by omega, Int.mul_zero, show decide (q ≥ 4294967296) = false by simp; omega]
  simp only [cond_false]
  rw [show IntKind.u64.wrap (0 : Int) = 0 from rfl, lS, u1]
  rw [show decide ((0 : Int) > IntKind.u64.wrap (IntKind.u64.wrap (4294967296 * r) + lo % 16 * 268435456)) = false by rw [decide_eq_false_iff_not, wu]; omega]
  rfl
 have L7 : ∀ (go : Int × Int → Option Int) (r q : Int), 0 ≤ q → q < 4294967296 → f89_l7 lo n 60 go r q = some q := fun go r q q0 q1 => by
  unfold f89_l7 f89_j8
  simp only [a1, p1, sh32u]
  rw [y, and32 _ (by omega) (by omega), show n * 1152921504606846976 % 4294967296 = 0 by omega, Int.mul_zero, show decide (q ≥ 4294967296) = false by simp; omega]
  simp only [cond_false]
  rw [show IntKind.u64.wrap (0 : Int) = 0 from rfl, lS, lo0]
  rw [show decide ((0 : Int) > IntKind.u64.wrap (IntKind.u64.wrap (4294967296 * r) + 0)) = false by rw [decide_eq_false_iff_not, wu]; omega]
  rfl
 have nS : n * 1152921504606846976 = n * 268435456 * 4294967296 := by omega
 rw [nS]
 generalize hY : n * 268435456 = Y at *
 generalize hU : hi * 1152921504606846976 + lo / 16 = U at *
 generalize hu : lo % 16 * 268435456 = w at *
 have Y0 : 0 < Y := by omega
 have U0 : 0 ≤ U := by omega
 have U1 : U < Y * 4294967296 := by omega
 have U2 : U < 4294967296 * Y := by omega
 have q10 : 0 ≤ U / Y := Int.ediv_nonneg U0 (by omega)
 have q11 : U / Y < 4294967296 := Int.ediv_lt_of_lt_mul Y0 U2
 have e1 := Int.mul_ediv_add_emod U Y
 have m10 := Int.emod_nonneg U (show Y ≠ 0 by omega)
 have m11 := Int.emod_lt_of_pos U Y0
 rw [Int.tdiv_eq_ediv_of_nonneg U0]
 generalize U / Y = q1 at *
 generalize U % Y = r1 at *
 rw [Int.mul_comm Y q1] at e1
 have t1 : q1 * (Y * 4294967296) = q1 * Y * 4294967296 := (Int.mul_assoc _ _ _).symm
 have wq : IntKind.u64.wrap q1 = q1 := by rw [wu]; omega
 rw [guardF_pos (by decide), guardF_pos (by decide), guardF_pos (by decide), guardF_pos (by decide), guardF_pos (by omega), wq]
 rw [lf1]
 simp only
 rw [L3 _ _ _ q10 q11]
 simp only [bindF_some]
 rw [guardF_pos (by omega), t1]
 have v1 : IntKind.u64.wrap (IntKind.u64.wrap (IntKind.u64.wrap (U * 4294967296) + w) - IntKind.u64.wrap (q1 * Y * 4294967296)) = r1 * 4294967296 + w := by
  simp only [wu]
  generalize q1 * Y = T1 at *
  omega
 rw [v1]
 have V1 : r1 * 4294967296 + w < 4294967296 * Y := by omega
 generalize hV : r1 * 4294967296 + w = V at *
 have V0 : 0 ≤ V := by omega
 have q00 : 0 ≤ V / Y := Int.ediv_nonneg V0 (by omega)
 have q01 : V / Y < 4294967296 := Int.ediv_lt_of_lt_mul Y0 V1
 have e0 := Int.mul_ediv_add_emod V Y
 have m00 := Int.emod_nonneg V (show Y ≠ 0 by omega)
 have m01 := Int.emod_lt_of_pos V Y0
 rw [Int.tdiv_eq_ediv_of_nonneg V0]
 generalize V / Y = q0 at *
 generalize V % Y = r0 at *
 rw [Int.mul_comm Y q0] at e0
 have wq0 : IntKind.u64.wrap q0 = q0 := by rw [wu]; omega
 rw [wq0, lf1]
 simp only
 rw [L7 _ _ _ q00 q01]
 simp only [bindF_some]
 rw [guardF_pos (by decide)]
 have t0 : q0 * (Y * 4294967296) = q0 * Y * 4294967296 := (Int.mul_assoc _ _ _).symm
 rw [t0]
 have v0 : IntKind.u64.wrap (IntKind.u64.wrap (IntKind.u64.wrap (V * 4294967296) + 0) - IntKind.u64.wrap (q0 * Y * 4294967296)) = r0 * 4294967296 := by
  simp only [wu]
  generalize q0 * Y = T0 at *
  omega
 have vq : IntKind.u64.wrap (IntKind.u64.wrap (q1 * 4294967296) + q0) = q1 * 4294967296 + q0 := by
  simp only [wu]; omega
 rw [v0, vq, Int.fdiv_eq_ediv_of_nonneg _ (by decide)]
 have hQ : (q1 * 4294967296 + q0) * n * 268435456 = q1 * Y * 4294967296 + q0 * Y := by
  rw [Int.mul_assoc, hY, Int.add_mul, Int.mul_assoc, Int.mul_comm 4294967296 Y, ← Int.mul_assoc]
 generalize q1 * Y = T1 at *
 generalize q0 * Y = T0 at *
 rw [Int.mul_comm (q1 * 4294967296 + q0) n] at hQ
 generalize hqq : q1 * 4294967296 + q0 = Q at *
 generalize hnq : n * Q = M at *
 have key : (hi * 18446744073709551616 + lo) / n = Q ∧ (hi * 18446744073709551616 + lo) % n = r0 * 4294967296 / 1152921504606846976 := by
  apply (Int.ediv_emod_unique (show 0 < n by omega)).2
  rw [hnq]
  refine ⟨?_, ?_, ?_⟩ <;> omega
 rw [key.1, key.2]
theorem div_61 (hi lo n : Int) (h0 : 0 < hi) (h1 : hi < n) (l0 : 0 ≤ lo) (l1 : lo < 18446744073709551616) (m0 : 128 ≤ n * 32) (m1 : n * 32 ≤ 255) (hc : f97 n = some 61) :
  f89 hi lo n = some ((hi * 18446744073709551616 + lo) / n, (hi * 18446744073709551616 + lo) % n) := by
 unfold f89
 rw [show (n == 0) = false by simp; omega, show decide (n ≤ hi) = false by simp; omega, show (hi == 0) = false by simp; omega]
 simp only [cond_false]
 rw [hc]
 simp only [bindF_some]
 have a1 : IntKind.u64.wrap 61 = 61 := rfl
 have a2 : IntKind.u64.wrap (64 - 61) = 3 := rfl
 have p1 : (2 : Int) ^ min (Int.toNat 61) (IntKind.bits IntKind.u64) = 2305843009213693952 := rfl
 have p2 : (2 : Int) ^ min (Int.toNat 3) (IntKind.bits IntKind.u64) = 8 := rfl
 simp only [a1, a2, p1, p2, sh32u]
 have y : IntKind.u64.wrap (n * 2305843009213693952) = n * 2305843009213693952 := by rw [wu]; omega
 have u : IntKind.u64.wrap (hi * 2305843009213693952) = hi * 2305843009213693952 := by rw [wu]; omega
 have lR : Int.fdiv lo 8 = lo / 8 := Int.fdiv_eq_ediv_of_nonneg _ (by decide)
 have lS : IntKind.u64.wrap (lo * 2305843009213693952) = lo % 8 * 2305843009213693952 := by rw [wu]; omega
 have ho : bitsOf IntKind.u64 (fun p q => p ||| q) (hi * 2305843009213693952) (lo / 8) = hi * 2305843009213693952 + lo / 8 := by
  rw [or_nat _ _ (by omega) (by omega) (by omega) (by omega)]
  have := Nat.two_pow_add_eq_or_of_lt (i := 61) (b := (lo / 8).toNat) (by omega) hi.toNat
  rw [show (hi * 2305843009213693952).toNat = 2 ^ 61 * hi.toNat by omega, ← this]
  omega
 have lo0 : bitsOf IntKind.u64 (fun p q => p &&& q) (lo % 8 * 2305843009213693952) 4294967295 = 0 := by rw [and32 _ (by omega) (by omega)]; omega
 simp only [y, u, lR, lS, ho, lo0]
 have y1 : n * 2305843009213693952 / 4294967296 = n * 536870912 := by omega
 have u1 : lo % 8 * 2305843009213693952 / 4294967296 = lo % 8 * 536870912 := by omega
 simp only [y1, u1]
 have L3 : ∀ (go : Int × Int → Option Int) (q r : Int), 0 ≤ q → q < 4294967296 → f89_l3 lo n 61 go q r = some q := fun go q r q0 q1 => by
  unfold f89_l3 f89_j4
  simp only [a1, p1, sh32u]
  rw [y, and32 _ (by omega) (by omega), show n * 2305843009213693952 % 4294967296 = 0 by omega, Int.mul_zero, show decide (q ≥ 4294967296) = false by simp; omega]
  simp only [cond_false]
  rw [show IntKind.u64.wrap (0 : Int) = 0 from rfl, lS, u1]
  rw [show decide ((0 : Int) > IntKind.u64.wrap (IntKind.u64.wrap (4294967296 * r) + lo % 8 * 536870912)) = false by rw [decide_eq_false_iff_not, wu]; omega]
  rfl
 have L7 : ∀ (go : Int × Int → Option Int) (r q : Int), 0 ≤ q → q < 4294967296 → f89_l7 lo n 61 go r q = some q := fun go r q q0 q1 => by
  unfold f89_l7 f89_j8
  simp only [a1, p1, sh32u]
  rw [y, and32 _ (by omega) (by omega), show n * 2305843009213693952 % 4294967296 = 0 by omega, Int.mul_zero, show decide (q ≥ 4294967296) = false by simp; omega]
  simp only [cond_false]
  rw [show IntKind.u64.wrap (0 : Int) = 0 from rfl, lS, lo0]
  rw [show decide ((0 : Int) > IntKind.u64.wrap (IntKind.u64.wrap (4294967296 * r) + 0)) = false by rw [decide_eq_false_iff_not, wu]; omega]
  rfl
 have nS : n * 2305843009213693952 = n * 536870912 * 4294967296 := by omega
 rw [nS]
 generalize hY : n * 536870912 = Y at *
 generalize hU : hi * 2305843009213693952 + lo / 8 = U at *
 generalize hu : lo % 8 * 536870912 = w at *
 have Y0 : 0 < Y := by omega
 have U0 : 0 ≤ U := by omega
 have U1 : U < Y * 4294967296 := by omega
 have U2 : U < 4294967296 * Y := by omega
 have q10 : 0 ≤ U / Y := Int.ediv_nonneg U0 (by omega)
 have q11 : U / Y < 4294967296 := Int.ediv_lt_of_lt_mul Y0 U2
 have e1 := Int.mul_ediv_add_emod U Y
 have m10 := Int.emod_nonneg U (show Y ≠ 0 by omega)
 have m11 := Int.emod_lt_of_pos U Y0
 rw [Int.tdiv_eq_ediv_of_nonneg U0]
 generalize U / Y = q1 at *
 generalize U % Y = r1 at *
 rw [Int.mul_comm Y q1] at e1
 have t1 : q1 * (Y * 4294967296) = q1 * Y * 4294967296 := (Int.mul_assoc _ _ _).symm
 have wq : IntKind.u64.wrap q1 = q1 := by rw [wu]; omega
 rw [guardF_pos (by decide), guardF_pos (by decide), guardF_pos (by decide), guardF_pos (by decide), guardF_pos (by omega), wq]
 rw [lf1]
 simp only
 rw [L3 _ _ _ q10 q11]
 simp only [bindF_some]
 rw [guardF_pos (by omega), t1]
 have v1 : IntKind.u64.wrap (IntKind.u64.wrap (IntKind.u64.wrap (U * 4294967296) + w) - IntKind.u64.wrap (q1 * Y * 4294967296)) = r1 * 4294967296 + w := by
  simp only [wu]
  generalize q1 * Y = T1 at *
  omega
 rw [v1]
 have V1 : r1 * 4294967296 + w < 4294967296 * Y := by omega
 generalize hV : r1 * 4294967296 + w = V at *
 have V0 : 0 ≤ V := by omega
 have q00 : 0 ≤ V / Y := Int.ediv_nonneg V0 (by omega)
 have q01 : V / Y < 4294967296 := Int.ediv_lt_of_lt_mul Y0 V1
 have e0 := Int.mul_ediv_add_emod V Y
 have m00 := Int.emod_nonneg V (show Y ≠ 0 by omega)
 have m01 := Int.emod_lt_of_pos V Y0
 rw [Int.tdiv_eq_ediv_of_nonneg V0]
 generalize V / Y = q0 at *
 generalize V % Y = r0 at *
 rw [Int.mul_comm Y q0] at e0
 have wq0 : IntKind.u64.wrap q0 = q0 := by rw [wu]; omega
 rw [wq0, lf1]
 simp only
 rw [L7 _ _ _ q00 q01]
 simp only [bindF_some]
 rw [guardF_pos (by decide)]
 have t0 : q0 * (Y * 4294967296) = q0 * Y * 4294967296 := (Int.mul_assoc _ _ _).symm
 rw [t0]
 have v0 : IntKind.u64.wrap (IntKind.u64.wrap (IntKind.u64.wrap (V * 4294967296) + 0) - IntKind.u64.wrap (q0 * Y * 4294967296)) = r0 * 4294967296 := by
  simp only [wu]
  generalize q0 * Y = T0 at *
  omega
 have vq : IntKind.u64.wrap (IntKind.u64.wrap (q1 * 4294967296) + q0) = q1 * 4294967296 + q0 := by
  simp only [wu]; omega
 rw [v0, vq, Int.fdiv_eq_ediv_of_nonneg _ (by decide)]
 have hQ : (q1 * 4294967296 + q0) * n * 536870912 = q1 * Y * 4294967296 + q0 * Y := by
  rw [Int.mul_assoc, hY, Int.add_mul, Int.mul_assoc, Int.mul_comm 4294967296 Y, ← Int.mul_assoc]
 generalize q1 * Y = T1 at *
 generalize q0 * Y = T0 at *
 rw [Int.mul_comm (q1 * 4294967296 + q0) n] at hQ
 generalize hqq : q1 * 4294967296 + q0 = Q at *
 generalize hnq : n * Q = M at *
 have key : (hi * 18446744073709551616 + lo) / n = Q ∧ (hi * 18446744073709551616 + lo) % n = r0 * 4294967296 / 2305843009213693952 := by
  apply (Int.ediv_emod_unique (show 0 < n by omega)).2
  rw [hnq]
  refine ⟨?_, ?_, ?_⟩ <;> omega
 rw [key.1, key.2]
theorem div_62 (hi lo n : Int) (h0 : 0 < hi) (h1 : hi < n) (l0 : 0 ≤ lo) (l1 : lo < 18446744073709551616) (m0 : 128 ≤ n * 64) (m1 : n * 64 ≤ 255) (hc : f97 n = some 62) :
  f89 hi lo n = some ((hi * 18446744073709551616 + lo) / n, (hi * 18446744073709551616 + lo) % n) := by
 unfold f89
 rw [show (n == 0) = false by simp; omega, show decide (n ≤ hi) = false by simp; omega, show (hi == 0) = false by simp; omega]
 simp only [cond_false]
 rw [hc]
 simp only [bindF_some]
 have a1 : IntKind.u64.wrap 62 = 62 := rfl
 have a2 : IntKind.u64.wrap (64 - 62) = 2 := rfl
 have p1 : (2 : Int) ^ min (Int.toNat 62) (IntKind.bits IntKind.u64) = 4611686018427387904 := rfl
 have p2 : (2 : Int) ^ min (Int.toNat 2) (IntKind.bits IntKind.u64) = 4 := rfl
 simp only [a1, a2, p1, p2, sh32u]
 have y : IntKind.u64.wrap (n * 4611686018427387904) = n * 4611686018427387904 := by rw [wu]; omega
 have u : IntKind.u64.wrap (hi * 4611686018427387904) = hi * 4611686018427387904 := by rw [wu]; omega
 have lR : Int.fdiv lo 4 = lo / 4 := Int.fdiv_eq_ediv_of_nonneg _ (by decide)
 have lS : IntKind.u64.wrap (lo * 4611686018427387904) = lo % 4 * 4611686018427387904 := by rw [wu]; omega
 have ho : bitsOf IntKind.u64 (fun p q => p ||| q) (hi * 4611686018427387904) (lo / 4) = hi * 4611686018427387904 + lo / 4 := by
  rw [or_nat _ _ (by omega) (by omega) (by omega) (by omega)]
  have := Nat.two_pow_add_eq_or_of_lt (i := 62) (b := (lo / 4).toNat) (by omega) hi.toNat
  rw [show (hi * 4611686018427387904).toNat = 2 ^ 62 * hi.toNat by omega, ← this]
  omega
 have lo0 : bitsOf IntKind.u64 (fun p q => p &&& q) (lo % 4 * 4611686018427387904) 4294967295 = 0 := by rw [and32 _ (by omega) (by omega)]; omega
 simp only [y, u, lR, lS, ho, lo0]
 have y1 : n * 4611686018427387904 / 4294967296 = n * 1073741824 := by omega
 have u1 : lo % 4 * 4611686018427387904 / 4294967296 = lo % 4 * 1073741824 := by omega
 simp only [y1, u1]
 have L3 : ∀ (go : Int × Int → Option Int) (q r : Int), 0 ≤ q → q < 4294967296 → f89_l3 lo n 62 go q r = some q := fun go q r q0 q1 => by
  unfold f89_l3 f89_j4
  simp only [a1, p1, sh32u]
  rw [y, and32 _ (by omega) (by omega), show n * 4611686018427387904 % 4294967296 = 0 by omega, Int.mul_zero, show decide (q ≥ 4294967296) = false by simp; omega]
  simp only [cond_false]
  rw [show IntKind.u64.wrap (0 : Int) = 0 from rfl, lS, u1]
  rw [show decide ((0 : Int) > IntKind.u64.wrap (IntKind.u64.wrap (4294967296 * r) + lo % 4 * 1073741824)) = false by rw [decide_eq_false_iff_not, wu]; omega]
  rfl
 have L7 : ∀ (go : Int × Int → Option Int) (r q : Int), 0 ≤ q → q < 4294967296 → f89_l7 lo n 62 go r q = some q := fun go r q q0 q1 => by
  unfold f89_l7 f89_j8
  simp only [a1, p1, sh32u]
  rw [y, and32 _ (by omega) (by omega), show n * 4611686018427387904 % 4294967296 = 0 by omega, Int.mul_zero, show decide (q ≥ 4294967296) = false by simp; omega]
  simp only [cond_false]
  rw [show IntKind.u64.wrap (0 : Int) = 0 from rfl, lS, lo0]
  rw [show decide ((0 : Int) > IntKind.u64.wrap (IntKind.u64.wrap (4294967296 * r) + 0)) = false by rw [decide_eq_false_iff_not, wu]; omega]
  rfl
 have nS : n * 4611686018427387904 = n * 1073741824 * 4294967296 := by omega
 rw [nS]
 generalize hY : n * 1073741824 = Y at *
 generalize hU : hi * 4611686018427387904 + lo / 4 = U at *
 generalize hu : lo % 4 * 1073741824 = w at *
 have Y0 : 0 < Y := by omega
 have U0 : 0 ≤ U := by omega
 have U1 : U < Y * 4294967296 := by omega
 have U2 : U < 4294967296 * Y := by omega
 have q10 : 0 ≤ U / Y := Int.ediv_nonneg U0 (by omega)
 have q11 : U / Y < 4294967296 := Int.ediv_lt_of_lt_mul Y0 U2
 have e1 := Int.mul_ediv_add_emod U Y
 have m10 := Int.emod_nonneg U (show Y ≠ 0 by omega)
 have m11 := Int.emod_lt_of_pos U Y0
 rw [Int.tdiv_eq_ediv_of_nonneg U0]
 generalize U / Y = q1 at *
 generalize U % Y = r1 at *
 rw [Int.mul_comm Y q1] at e1
 have t1 : q1 * (Y * 4294967296) = q1 * Y * 4294967296 := (Int.mul_assoc _ _ _).symm
 have wq : IntKind.u64.wrap q1 = q1 := by rw [wu]; omega
 rw [guardF_pos (by decide), guardF_pos (by decide), guardF_pos (by decide), guardF_pos (by decide), guardF_pos (by omega), wq]
 rw [lf1]
 simp only
 rw [L3 _ _ _ q10 q11]
 simp only [bindF_some]
 rw [guardF_pos (by omega), t1]
 have v1 : IntKind.u64.wrap (IntKind.u64.wrap (IntKind.u64.wrap (U * 4294967296) + w) - IntKind.u64.wrap (q1 * Y * 4294967296)) = r1 * 4294967296 + w := by
  simp only [wu]
  generalize q1 * Y = T1 at *
  omega
 rw [v1]
 have V1 : r1 * 4294967296 + w < 4294967296 * Y := by omega
 generalize hV : r1 * 4294967296 + w = V at *
 have V0 : 0 ≤ V := by omega
 have q00 : 0 ≤ V / Y := Int.ediv_nonneg V0 (by omega)
 have q01 : V / Y < 4294967296 := Int.ediv_lt_of_lt_mul Y0 V1
 have e0 := Int.mul_ediv_add_emod V Y
 have m00 := Int.emod_nonneg V (show Y ≠ 0 by omega)
 have m01 := Int.emod_lt_of_pos V Y0
 rw [Int.tdiv_eq_ediv_of_nonneg V0]
 generalize V / Y = q0 at *
 generalize V % Y = r0 at *
 rw [Int.mul_comm Y q0] at e0
 have wq0 : IntKind.u64.wrap q0 = q0 := by rw [wu]; omega
 rw [wq0, lf1]
 simp only
 rw [L7 _ _ _ q00 q01]
 simp only [bindF_some]
 rw [guardF_pos (by decide)]
 have t0 : q0 * (Y * 4294967296) = q0 * Y * 4294967296 := (Int.mul_assoc _ _ _).symm
 rw [t0]
 have v0 : IntKind.u64.wrap (IntKind.u64.wrap (IntKind.u64.wrap (V * 4294967296) + 0) - IntKind.u64.wrap (q0 * Y * 4294967296)) = r0 * 4294967296 := by
  simp only [wu]
  generalize q0 * Y = T0 at *
  omega
 have vq : IntKind.u64.wrap (IntKind.u64.wrap (q1 * 4294967296) + q0) = q1 * 4294967296 + q0 := by
  simp only [wu]; omega
 rw [v0, vq, Int.fdiv_eq_ediv_of_nonneg _ (by decide)]
 have hQ : (q1 * 4294967296 + q0) * n * 1073741824 = q1 * Y * 4294967296 + q0 * Y := by
  rw [Int.mul_assoc, hY, Int.add_mul, Int.mul_assoc, Int.mul_comm 4294967296 Y, ← Int.mul_assoc]
 generalize q1 * Y = T1 at *
 generalize q0 * Y = T0 at *
 rw [Int.mul_comm (q1 * 4294967296 + q0) n] at hQ
 generalize hqq : q1 * 4294967296 + q0 = Q at *
 generalize hnq : n * Q = M at *
 have key : (hi * 18446744073709551616 + lo) / n = Q ∧ (hi * 18446744073709551616 + lo) % n = r0 * 4294967296 / 4611686018427387904 := by
  apply (Int.ediv_emod_unique (show 0 < n by omega)).2
  rw [hnq]
  refine ⟨?_, ?_, ?_⟩ <;> omega
 rw [key.1, key.2]
theorem div_63 (hi lo n : Int) (h0 : 0 < hi) (h1 : hi < n) (l0 : 0 ≤ lo) (l1 : lo < 18446744073709551616) (m0 : 128 ≤ n * 128) (m1 : n * 128 ≤ 255) (hc : f97 n = some 63) :
  f89 hi lo n = some ((hi * 18446744073709551616 + lo) / n, (hi * 18446744073709551616 + lo) % n) := by
 unfold f89
 rw [show (n == 0) = false by simp; omega, show decide (n ≤ hi) = false by simp; omega, show (hi == 0) = false by simp; omega]
 simp only [cond_false]
 rw [hc]
 simp only [bindF_some]
 have a1 : IntKind.u64.wrap 63 = 63 := rfl
 have a2 : IntKind.u64.wrap (64 - 63) = 1 := rfl
 have p1 : (2 : Int) ^ min (Int.toNat 63) (IntKind.bits IntKind.u64) = 9223372036854775808 := rfl
 have p2 : (2 : Int) ^ min (Int.toNat 1) (IntKind.bits IntKind.u64) = 2 := rfl
 simp only [a1, a2, p1, p2, sh32u]
 have y : IntKind.u64.wrap (n * 9223372036854775808) = n * 9223372036854775808 := by rw [wu]; omega
 have u : IntKind.u64.wrap (hi * 9223372036854775808) = hi * 9223372036854775808 := by rw [wu]; omega
 have lR : Int.fdiv lo 2 = lo / 2 := Int.fdiv_eq_ediv_of_nonneg _ (by decide)
 have lS : IntKind.u64.wrap (lo * 9223372036854775808) = lo % 2 * 9223372036854775808 := by rw [wu]; omega
 have ho : bitsOf IntKind.u64 (fun p q => p ||| q) (hi * 9223372036854775808) (lo / 2) = hi * 9223372036854775808 + lo / 2 := by
  rw [or_nat _ _ (by omega) (by omega) (by omega) (by omega)]
  have := Nat.two_pow_add_eq_or_of_lt (i := 63) (b := (lo / 2).toNat) (by omega) hi.toNat
  rw [show (hi * 9223372036854775808).toNat = 2 ^ 63 * hi.toNat by omega, ← this]
  omega
 have lo0 : bitsOf IntKind.u64 (fun p q => p &&& q) (lo % 2 * 9223372036854775808) 4294967295 = 0 := by rw [and32 _ (by omega) (by omega)]; omega
 simp only [y, u, lR, lS, ho, lo0]
 have y1 : n * 9223372036854775808 / 4294967296 = n * 2147483648 := by omega
 have u1 : lo % 2 * 9223372036854775808 / 4294967296 = lo % 2 * 2147483648 := by omega
 simp only [y1, u1]
 have L3 : ∀ (go : Int × Int → Option Int) (q r : Int), 0 ≤ q → q < 4294967296 → f89_l3 lo n 63 go q r = some q := fun go q r q0 q1 => by
  unfold f89_l3 f89_j4
  simp only [a1, p1, sh32u]
  rw [y, and32 _ (by omega) (by omega), show n * 9223372036854775808 % 4294967296 = 0 by omega, Int.mul_zero, show decide (q ≥ 4294967296) = false by simp; omega]
  simp only [cond_false]
  rw [show IntKind.u64.wrap (0 : Int) = 0 from rfl, lS, u1]
  rw [show decide ((0 : Int) > IntKind.u64.wrap (IntKind.u64.wrap (4294967296 * r) + lo % 2 * 2147483648)) = false by rw [decide_eq_false_iff_not, wu]; omega]
  rfl
 have L7 : ∀ (go : Int × Int → Option Int) (r q : Int), 0 ≤ q → q < 4294967296 → f89_l7 lo n 63 go r q = some q := fun go r q q0 q1 => by
  unfold f89_l7 f89_j8
  simp only [a1, p1, sh32u]
  rw [y, and32 _ (by omega) (by omega), show n * 9223372036854775808 % 4294967296 = 0 by omega, Int.mul_zero, show decide (q ≥ 4294967296) = false by simp; omega]
  simp only [cond_false]
  rw [show IntKind.u64.wrap (0 : Int) = 0 from rfl, lS, lo0]
  rw [show decide ((0 : Int) > IntKind.u64.wrap (IntKind.u64.wrap (4294967296 * r) + 0)) = false by rw [decide_eq_false_iff_not, wu]; omega]
  rfl
 have nS : n * 9223372036854775808 = n * 2147483648 * 4294967296 := by omega
 rw [nS]
 generalize hY : n * 2147483648 = Y at *
 generalize hU : hi * 9223372036854775808 + lo / 2 = U at *
 generalize hu : lo % 2 * 2147483648 = w at *
 have Y0 : 0 < Y := by omega
 have U0 : 0 ≤ U := by omega
 have U1 : U < Y * 4294967296 := by omega
 have U2 : U < 4294967296 * Y := by omega
 have q10 : 0 ≤ U / Y := Int.ediv_nonneg U0 (by omega)
 have q11 : U / Y < 4294967296 := Int.ediv_lt_of_lt_mul Y0 U2
 have e1 := Int.mul_ediv_add_emod U Y
 have m10 := Int.emod_nonneg U (show Y ≠ 0 by omega)
 have m11 := Int.emod_lt_of_pos U Y0
 rw [Int.tdiv_eq_ediv_of_nonneg U0]
 generalize U / Y = q1 at *
 generalize U % Y = r1 at *
 rw [Int.mul_comm Y q1] at e1
 have t1 : q1 * (Y * 4294967296) = q1 * Y * 4294967296 := (Int.mul_assoc _ _ _).symm
 have wq : IntKind.u64.wrap q1 = q1 := by rw [wu]; omega
 rw [guardF_pos (by decide), guardF_pos (by decide), guardF_pos (by decide), guardF_pos (by decide), guardF_pos (by omega), wq]
 rw [lf1]
 simp only
 rw [L3 _ _ _ q10 q11]
 simp only [bindF_some]
 rw [guardF_pos (by omega), t1]
 have v1 : IntKind.u64.wrap (IntKind.u64.wrap (IntKind.u64.wrap (U * 4294967296) + w) - IntKind.u64.wrap (q1 * Y * 4294967296)) = r1 * 4294967296 + w := by
  simp only [wu]
  generalize q1 * Y = T1 at *
  omega
 rw [v1]
 have V1 : r1 * 4294967296 + w < 4294967296 * Y := by omega
 generalize hV : r1 * 4294967296 + w = V at *
 have V0 : 0 ≤ V := by omega
 have q00 : 0 ≤ V / Y := Int.ediv_nonneg V0 (by omega)
 have q01 : V / Y < 4294967296 := Int.ediv_lt_of_lt_mul Y0 V1
 have e0 := Int.mul_ediv_add_emod V Y
 have m00 := Int.emod_nonneg V (show Y ≠ 0 by omega)
 have m01 := Int.emod_lt_of_pos V Y0
 rw [Int.tdiv_eq_ediv_of_nonneg V0]
 generalize V / Y = q0 at *
 generalize V % Y = r0 at *
 rw [Int.mul_comm Y q0] at e0
 have wq0 : IntKind.u64.wrap q0 = q0 := by rw [wu]; omega
 rw [wq0, lf1]
 simp only
 rw [L7 _ _ _ q00 q01]
 simp only [bindF_some]
 rw [guardF_pos (by decide)]
 have t0 : q0 * (Y * 4294967296) = q0 * Y * 4294967296 := (Int.mul_assoc _ _ _).symm
 rw [t0]
 have v0 : IntKind.u64.wrap (IntKind.u64.wrap (IntKind.u64.wrap (V * 4294967296) + 0) - IntKind.u64.wrap (q0 * Y * 4294967296)) = r0 * 4294967296 := by
  simp only [wu]
  generalize q0 * Y = T0 at *
  omega
 have vq : IntKind.u64.wrap (IntKind.u64.wrap (q1 * 4294967296) + q0) = q1 * 4294967296 + q0 := by
  simp only [wu]; omega
 rw [v0, vq, Int.fdiv_eq_ediv_of_nonneg _ (by decide)]
 have hQ : (q1 * 4294967296 + q0) * n * 2147483648 = q1 * Y * 4294967296 + q0 * Y := by
  rw [Int.mul_assoc, hY, Int.add_mul, Int.mul_assoc, Int.mul_comm 4294967296 Y, ← Int.mul_assoc]
 generalize q1 * Y = T1 at *
 generalize q0 * Y = T0 at *
 rw [Int.mul_comm (q1 * 4294967296 + q0) n] at hQ
 generalize hqq : q1 * 4294967296 + q0 = Q at *
 generalize hnq : n * Q = M at *
 have key : (hi * 18446744073709551616 + lo) / n = Q ∧ (hi * 18446744073709551616 + lo) % n = r0 * 4294967296 / 9223372036854775808 := by
  apply (Int.ediv_emod_unique (show 0 < n by omega)).2
  rw [hnq]
  refine ⟨?_, ?_, ?_⟩ <;> omega
 rw [key.1, key.2]
def cl (n : Nat) : Bool := (f97 (n : Int) == some 56 && (decide (128 ≤ (n : Int) * 1) && decide ((n : Int) * 1 ≤ 255))) || (f97 (n : Int) == some 57 && (decide (128 ≤ (n : Int) * 2) && decide ((n : Int) * 2 ≤ 255))) || (f97 (n : Int) == some 58 && (decide (128 ≤ (n : Int) * 4) && decide ((n : Int) * 4 ≤ 255))) || (f97 (n : Int) == some 59 && (decide (128 ≤ (n : Int) * 8) && decide ((n : Int) * 8 ≤ 255))) || (f97 (n : Int) == some 60 && (decide (128 ≤ (n : Int) * 16) && decide ((n : Int) * 16 ≤ 255))) || (f97 (n : Int) == some 61 && (decide (128 ≤ (n : Int) * 32) && decide ((n : Int) * 32 ≤ 255))) || (f97 (n : Int) == some 62 && (decide (128 ≤ (n : Int) * 64) && decide ((n : Int) * 64 ≤ 255))) || (f97 (n : Int) == some 63 && (decide (128 ≤ (n : Int) * 128) && decide ((n : Int) * 128 ≤ 255)))
theorem cl_all : (List.range 201).all (fun n => n == 0 || cl n) = true := by kernel_rfl
theorem clz_ok (n : Nat) (h1 : n < 201) (h0 : 1 ≤ n) : (f97 (n : Int) = some 56 ∧ 128 ≤ (n : Int) * 1 ∧ (n : Int) * 1 ≤ 255) ∨ (f97 (n : Int) = some 57 ∧ 128 ≤ (n : Int) * 2 ∧ (n : Int) * 2 ≤ 255) ∨ (f97 (n : Int) = some 58 ∧ 128 ≤ (n : Int) * 4 ∧ (n : Int) * 4 ≤ 255) ∨ (f97 (n : Int) = some 59 ∧ 128 ≤ (n : Int) * 8 ∧ (n : Int) * 8 ≤ 255) ∨ (f97 (n : Int) = some 60 ∧ 128 ≤ (n : Int) * 16 ∧ (n : Int) * 16 ≤ 255) ∨ (f97 (n : Int) = some 61 ∧ 128 ≤ (n : Int) * 32 ∧ (n : Int) * 32 ≤ 255) ∨ (f97 (n : Int) = some 62 ∧ 128 ≤ (n : Int) * 64 ∧ (n : Int) * 64 ≤ 255) ∨ (f97 (n : Int) = some 63 ∧ 128 ≤ (n : Int) * 128 ∧ (n : Int) * 128 ≤ 255) := by
 have h := List.all_eq_true.1 cl_all n (List.mem_range.2 h1)
 rw [Bool.or_eq_true] at h
 rcases h with h | h
 ·simp at h; omega
 ·simpa only [cl, Bool.or_eq_true, Bool.and_eq_true, beq_iff_eq, decide_eq_true_eq, or_assoc] using h
theorem div_ok (hi lo : Int) (n : Nat) (h0 : 0 ≤ hi) (h1 : hi < n) (l0 : 0 ≤ lo) (l1 : lo < 18446744073709551616) (n0 : 1 ≤ n) (n1 : n ≤ 200) :
  f89 hi lo n = some ((hi * 18446744073709551616 + lo) / n, (hi * 18446744073709551616 + lo) % n) := by
 by_cases h : hi = 0
 ·subst h
  unfold f89
  rw [show ((n : Int) == 0) = false by simp; omega, show decide ((n : Int) ≤ 0) = false by simp; omega, show ((0 : Int) == 0) = true from rfl]
  simp only [cond_false, cond_true]
  rw [guardF_pos (by omega), guardF_pos (by omega), Int.tdiv_eq_ediv_of_nonneg l0, Int.tmod_eq_emod_of_nonneg l0]
  have d0 : 0 ≤ lo / (n : Int) := Int.ediv_nonneg l0 (by omega)
  have d1 : lo / (n : Int) ≤ lo := Int.ediv_le_self _ l0
  rw [wu, Int.zero_mul, Int.zero_add, Int.emod_eq_of_lt d0 (by omega)]
 ·rcases clz_ok n (by omega) n0 with ⟨e, a, b⟩ | ⟨e, a, b⟩ | ⟨e, a, b⟩ | ⟨e, a, b⟩ | ⟨e, a, b⟩ | ⟨e, a, b⟩ | ⟨e, a, b⟩ | ⟨e, a, b⟩
  ·exact div_56 hi lo n (by omega) h1 l0 l1 a b e
  ·exact div_57 hi lo n (by omega) h1 l0 l1 a b e
  ·exact div_58 hi lo n (by omega) h1 l0 l1 a b e
  ·exact div_59 hi lo n (by omega) h1 l0 l1 a b e
  ·exact div_60 hi lo n (by omega) h1 l0 l1 a b e
  ·exact div_61 hi lo n (by omega) h1 l0 l1 a b e
  ·exact div_62 hi lo n (by omega) h1 l0 l1 a b e
  ·exact div_63 hi lo n (by omega) h1 l0 l1 a b e
end Go.Proofs.PlV
