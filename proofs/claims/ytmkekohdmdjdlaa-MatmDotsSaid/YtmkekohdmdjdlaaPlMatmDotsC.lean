/- Plain law: MatmDots: halving and holding, and the law. -/
import Derived.Test.YtmkekohdmdjdlaaPlMatmDotsB
set_option linter.unusedVariables false
set_option linter.unusedSimpArgs false
set_option maxRecDepth 100000
namespace Go.Proofs.Dots
open Go.AM Go.Proofs.PlW

def word (q N : Nat) : Nat := N / 2 ^ (64 * q) % 2 ^ 64
theorem word_lt (q N : Nat) : word q N < 18446744073709551616 := Nat.mod_lt _ (by decide)
theorem word_bit (q N j : Nat) : (word q N).testBit j = (decide (j < 64) && N.testBit (j + 64 * q)) := by
  unfold word; rw [Nat.testBit_mod_two_pow, Nat.testBit_div_two_pow]
theorem word_step (D m q : Nat) : word q (D % 2 ^ (m + 1)) = if q = m / 64 ∧ D.testBit m = true then word q (D % 2 ^ m) ||| 2 ^ (m % 64) else word q (D % 2 ^ m) := by
  apply Nat.eq_of_testBit_eq
  intro j
  by_cases h : q = m / 64 ∧ D.testBit m = true
  · rw [if_pos h, Nat.testBit_or, word_bit, word_bit, Nat.testBit_two_pow, Nat.testBit_mod_two_pow, Nat.testBit_mod_two_pow]
    by_cases hj : m % 64 = j
    · have e : j + 64 * q = m := by omega
      have h64 : j < 64 := by omega
      rw [e, h.2]
      simp [hj, h64]
    · by_cases h64 : j < 64
      · have hn : j + 64 * q ≠ m := by omega
        have e : decide (j + 64 * q < m + 1) = decide (j + 64 * q < m) := by rw [decide_eq_decide]; omega
        simp [e, h64, hj]
      · simp [h64, hj]
  · rw [if_neg h, word_bit, word_bit, Nat.testBit_mod_two_pow, Nat.testBit_mod_two_pow]
    by_cases h64 : j < 64
    · by_cases he : j + 64 * q = m
      · have hb : D.testBit m = false := by
          cases hd : D.testBit m
          · rfl
          · exact absurd ⟨by omega, hd⟩ h
        rw [he, hb]
        simp
      · have e : decide (j + 64 * q < m + 1) = decide (j + 64 * q < m) := by rw [decide_eq_decide]; omega
        rw [e]
    · simp [h64]
theorem W_word (N : Nat) : W0 (N : Int) = (word 0 N : Int) ∧ W1 (N : Int) = (word 1 N : Int) ∧ W2 (N : Int) = (word 2 N : Int) ∧ W3 (N : Int) = (word 3 N : Int) := by
  have d1 : N / 2 ^ (64 * 1) = N / 18446744073709551616 := rfl
  have d2 : N / 2 ^ (64 * 2) = N / 18446744073709551616 / 18446744073709551616 := by rw [Nat.div_div_eq_div_mul]
  have d3 : N / 2 ^ (64 * 3) = N / 18446744073709551616 / 18446744073709551616 / 18446744073709551616 := by rw [Nat.div_div_eq_div_mul, Nat.div_div_eq_div_mul]
  have m : (2 : Nat) ^ 64 = 18446744073709551616 := rfl
  have m0 : N / 2 ^ (64 * 0) = N := Nat.div_one N
  unfold word
  rw [d1, d2, d3, m0, m]
  unfold W0 W1 W2 W3
  refine ⟨?_, ?_, ?_, ?_⟩ <;> simp

theorem bit_word (q N r : Nat) (hr : r < 64) : bitsOf IntKind.u64 (fun p q => p &&& q) (Int.fdiv (word q N : Int) (2 ^ r)) 1 = if N.testBit (r + 64 * q) = true then 1 else 0 := by
  rw [Int.fdiv_eq_ediv_of_nonneg _ (Int.le_of_lt (Int.pow_pos (by decide)))]
  have e : ((word q N : Int) / 2 ^ r) = ((word q N / 2 ^ r : Nat) : Int) := by simp
  have hl := word_lt q N
  have hd := Nat.div_le_self (word q N) (2 ^ r)
  have hb := word_bit q N r
  rw [Nat.testBit_eq_decide_div_mod_eq] at hb
  rw [show decide (r < 64) = true by simpa using hr, Bool.true_and] at hb
  rw [← hb, e]
  generalize word q N / 2 ^ r = x at *
  rw [and1 _ (by omega) (by omega)]
  by_cases h : x % 2 = 1
  · rw [if_pos (by simpa using h)]; omega
  · rw [if_neg (by simpa using h)]; omega

theorem idx (i : Nat) (hi : i < 256) : IntKind.i64.wrap (Int.tdiv (i : Int) 64) = ((i / 64 : Nat) : Int) ∧ IntKind.u64.wrap (Int.tmod (i : Int) 64) = ((i % 64 : Nat) : Int) ∧
    min (Int.toNat ((i % 64 : Nat) : Int)) (IntKind.bits IntKind.u64) = i % 64 := by
  refine ⟨?_, ?_, ?_⟩
  · rw [Int.tdiv_eq_ediv_of_nonneg (by omega), wrap_i64 (by omega) (by omega)]; omega
  · rw [Int.tmod_eq_emod_of_nonneg (by omega), wu]; omega
  · rw [show IntKind.bits IntKind.u64 = 64 from rfl]; omega

theorem bit_ok (N i : Nat) (hi : i < 256) : f73 (W0 N) (W1 N) (W2 N) (W3 N) (i : Int) = some (if N.testBit i = true then 1 else 0) := by
  obtain ⟨e0, e1, e2, e3⟩ := W_word N
  obtain ⟨t1, t2, t3⟩ := idx i hi
  unfold f73
  rw [t1, t2, t3, e0, e1, e2, e3, guardF_pos (by omega), guardF_pos (by omega), guardF_pos (by omega), guardF_pos (by omega), guardF_pos (by omega)]
  rw [bit_word 0 N _ (by omega), bit_word 1 N _ (by omega), bit_word 2 N _ (by omega), bit_word 3 N _ (by omega)]
  have h : i / 64 = 0 ∨ i / 64 = 1 ∨ i / 64 = 2 ∨ i / 64 = 3 := by omega
  rcases h with h | h | h | h
  · rw [h, show i % 64 + 64 * 0 = i by omega]; exact pick0 _ _ _ _
  · rw [h, show i % 64 + 64 * 1 = i by omega]; exact pick1 _ _ _ _
  · rw [h, show i % 64 + 64 * 2 = i by omega]; exact pick2 _ _ _ _
  · rw [h, show i % 64 + 64 * 3 = i by omega]; exact pick3 _ _ _ _

theorem or_word (q C r : Nat) (hr : r < 64) : bitsOf IntKind.u64 (fun p q => p ||| q) (word q C : Int) (IntKind.u64.wrap (1 * 2 ^ r)) = ((word q C ||| 2 ^ r : Nat) : Int) := by
  have hp : (2 : Nat) ^ r < 2 ^ 64 := Nat.pow_lt_pow_right (by decide) hr
  rw [show (2 : Nat) ^ 64 = 18446744073709551616 from rfl] at hp
  have e : (1 * 2 ^ r : Int) = ((2 ^ r : Nat) : Int) := by simp
  have hl := word_lt q C
  rw [e]
  generalize 2 ^ r = x at *
  rw [wu, show (x : Int) % 18446744073709551616 = (x : Int) by omega, or_nat _ _ (by omega) (by omega) (by omega) (by omega)]
  rfl

theorem halve_loop (N : Nat) (hN : N < 2 ^ 256) :
    loopF (fun go (x : Int × Int × Int × Int × Int) => f41_l1 (W0 N) (W1 N) (W2 N) (W3 N) 32 go x.1 x.2.1 x.2.2.1 x.2.2.2.1 x.2.2.2.2) fuelN (32, (0 : Int), (0 : Int), (0 : Int), (0 : Int)) =
      some ((word 0 (N / 4294967296) : Int), (word 1 (N / 4294967296) : Int), (word 2 (N / 4294967296) : Int), (word 3 (N / 4294967296) : Int)) := by
  have hD : ∀ m, (N / 4294967296).testBit m = N.testBit (m + 32) := fun m => Nat.testBit_div_two_pow (n := 32) N m
  have hD2 : N / 4294967296 % 2 ^ 224 = N / 4294967296 := by
    apply Nat.mod_eq_of_lt
    rw [Nat.div_lt_iff_lt_mul (by decide)]
    exact hN
  generalize hDD : N / 4294967296 = D at *
  have H : ∀ x : Int × Int × Int × Int × Int, (∃ m : Nat, m ≤ 224 ∧ x = (((m + 32 : Nat) : Int), (word 0 (D % 2 ^ m) : Int), (word 1 (D % 2 ^ m) : Int), (word 2 (D % 2 ^ m) : Int), (word 3 (D % 2 ^ m) : Int))) →
      (∃ z, (∀ go, f41_l1 (W0 N) (W1 N) (W2 N) (W3 N) 32 go x.1 x.2.1 x.2.2.1 x.2.2.2.1 x.2.2.2.2 = some z) ∧ z = ((word 0 D : Int), (word 1 D : Int), (word 2 D : Int), (word 3 D : Int))) ∨
      (∃ y : Int × Int × Int × Int × Int, (∀ go, f41_l1 (W0 N) (W1 N) (W2 N) (W3 N) 32 go x.1 x.2.1 x.2.2.1 x.2.2.2.1 x.2.2.2.2 = go y) ∧
        (∃ m : Nat, m ≤ 224 ∧ y = (((m + 32 : Nat) : Int), (word 0 (D % 2 ^ m) : Int), (word 1 (D % 2 ^ m) : Int), (word 2 (D % 2 ^ m) : Int), (word 3 (D % 2 ^ m) : Int))) ∧ ((256 : Int) - y.1).toNat < ((256 : Int) - x.1).toNat) := by
    rintro _ ⟨m, hm, rfl⟩
    by_cases hlt : m < 224
    · right
      refine ⟨(((m + 1 + 32 : Nat) : Int), (word 0 (D % 2 ^ (m + 1)) : Int), (word 1 (D % 2 ^ (m + 1)) : Int), (word 2 (D % 2 ^ (m + 1)) : Int), (word 3 (D % 2 ^ (m + 1)) : Int)), fun go => ?_, ⟨m + 1, hlt, rfl⟩, by simp only; omega⟩
      unfold f41_l1
      simp only
      rw [show decide (((m + 32 : Nat) : Int) < 256) = true by simp; omega]
      simp only [cond_true]
      rw [bit_ok N (m + 32) (by omega)]
      simp only [bindF_some]
      rw [← hD]
      have hi : IntKind.i64.wrap (((m + 32 : Nat) : Int) + 1) = ((m + 1 + 32 : Nat) : Int) := by rw [wrap_i64 (by omega) (by omega)]; omega
      have hs : IntKind.i64.wrap (((m + 32 : Nat) : Int) - 32) = (m : Int) := by rw [wrap_i64 (by omega) (by omega)]; omega
      obtain ⟨t1, t2, t3⟩ := idx m (by omega)
      by_cases hb : D.testBit m = true
      · rw [if_pos hb, show ((1 : Int) == 1) = true from rfl]
        simp only [cond_true]
        rw [hi, hs, t1, t2, t3, guardF_pos (by omega), guardF_pos (by omega), guardF_pos (by omega), guardF_pos (by omega), guardF_pos (by omega)]
        rw [or_word 0 _ _ (by omega), or_word 1 _ _ (by omega), or_word 2 _ _ (by omega), or_word 3 _ _ (by omega)]
        have h : m / 64 = 0 ∨ m / 64 = 1 ∨ m / 64 = 2 ∨ m / 64 = 3 := by omega
        rcases h with h | h | h | h
        · have k0 := word_step D m 0; have k1 := word_step D m 1; have k2 := word_step D m 2; have k3 := word_step D m 3
          rw [if_pos ⟨by omega, hb⟩] at k0
          rw [if_neg (by omega)] at k1 k2 k3
          rw [k0, k1, k2, k3, h]
          exact pick0 _ _ _ _
        · have k0 := word_step D m 0; have k1 := word_step D m 1; have k2 := word_step D m 2; have k3 := word_step D m 3
          rw [if_pos ⟨by omega, hb⟩] at k1
          rw [if_neg (by omega)] at k0 k2 k3
          rw [k0, k1, k2, k3, h]
          exact pick1 _ _ _ _
        · have k0 := word_step D m 0; have k1 := word_step D m 1; have k2 := word_step D m 2; have k3 := word_step D m 3
          rw [if_pos ⟨by omega, hb⟩] at k2
          rw [if_neg (by omega)] at k0 k1 k3
          rw [k0, k1, k2, k3, h]
          exact pick2 _ _ _ _
        · have k0 := word_step D m 0; have k1 := word_step D m 1; have k2 := word_step D m 2; have k3 := word_step D m 3
          rw [if_pos ⟨by omega, hb⟩] at k3
          rw [if_neg (by omega)] at k0 k1 k2
          rw [k0, k1, k2, k3, h]
          exact pick3 _ _ _ _
      · rw [if_neg hb, show ((0 : Int) == 1) = false from rfl]
        simp only [cond_false]
        have k : ∀ q, word q (D % 2 ^ (m + 1)) = word q (D % 2 ^ m) := fun q => by rw [word_step, if_neg (fun h => hb h.2)]
        rw [hi, k, k, k, k]
    · left
      have : m = 224 := by omega
      subst this
      refine ⟨_, fun go => ?_, rfl⟩
      unfold f41_l1
      simp only
      rw [show decide ((((224 + 32 : Nat)) : Int) < 256) = false from rfl, hD2]
      rfl
  have z0 : ∀ q, word q (D % 2 ^ 0) = 0 := fun q => by
    rw [Nat.pow_zero, Nat.mod_one]; unfold word; rw [Nat.zero_div]
  obtain ⟨z, e, rfl⟩ := loop_fuel (B := fun go (x : Int × Int × Int × Int × Int) => f41_l1 (W0 N) (W1 N) (W2 N) (W3 N) 32 go x.1 x.2.1 x.2.2.1 x.2.2.2.1 x.2.2.2.2) _ (fun x => ((256 : Int) - x.1).toNat) _ H
    (32, (0 : Int), (0 : Int), (0 : Int), (0 : Int)) ⟨0, by decide, by rw [z0, z0, z0, z0]; rfl⟩ (by decide)
  exact e

theorem low_bits (N m : Nat) : N % 2 ^ (m + 1) = 0 ↔ N % 2 ^ m = 0 ∧ N.testBit m = false := by
  rw [Nat.testBit_eq_decide_div_mod_eq, Nat.mod_pow_succ]
  have hp : 0 < 2 ^ m := Nat.two_pow_pos m
  have h2 : N / 2 ^ m % 2 < 2 := Nat.mod_lt _ (by decide)
  generalize N / 2 ^ m % 2 = b at *
  generalize N % 2 ^ m = a at *
  have hb : b = 0 ∨ b = 1 := by omega
  rcases hb with rfl | rfl
  · simp
  · simp
    try omega

theorem more_loop (N : Nat) (o : Bool) :
    loopF (fun go (x : Bool × Int) => f41_l3 (W0 N) (W1 N) (W2 N) (W3 N) 32 go x.1 x.2) fuelN (o, 0) = some (o || !(decide (N % 2147483648 = 0))) := by
  have H : ∀ x : Bool × Int, (∃ m : Nat, m ≤ 31 ∧ x = ((o || !(decide (N % 2 ^ m = 0))), (m : Int))) →
      (∃ z, (∀ go, f41_l3 (W0 N) (W1 N) (W2 N) (W3 N) 32 go x.1 x.2 = some z) ∧ z = (o || !(decide (N % 2147483648 = 0)))) ∨
      (∃ y : Bool × Int, (∀ go, f41_l3 (W0 N) (W1 N) (W2 N) (W3 N) 32 go x.1 x.2 = go y) ∧
        (∃ m : Nat, m ≤ 31 ∧ y = ((o || !(decide (N % 2 ^ m = 0))), (m : Int))) ∧ ((31 : Int) - y.2).toNat < ((31 : Int) - x.2).toNat) := by
    rintro _ ⟨m, hm, rfl⟩
    have w31 : IntKind.i64.wrap ((32 : Int) - 1) = 31 := rfl
    by_cases hlt : m < 31
    · right
      refine ⟨((o || !(decide (N % 2 ^ (m + 1) = 0))), ((m + 1 : Nat) : Int)), fun go => ?_, ⟨m + 1, hlt, rfl⟩, by simp only; omega⟩
      unfold f41_l3
      simp only
      rw [w31, show decide ((m : Int) < 31) = true by simp; omega]
      simp only [cond_true]
      rw [show IntKind.i64.wrap ((m : Int) + 1) = ((m + 1 : Nat) : Int) by rw [wrap_i64 (by omega) (by omega)]; omega]
      have lb := low_bits N m
      by_cases h : (o || !(decide (N % 2 ^ m = 0))) = true
      · rw [h]
        simp only [cond_true]
        have : (o || !(decide (N % 2 ^ (m + 1) = 0))) = true := by
          cases o
          · simp only [Bool.false_or, Bool.not_eq_true', decide_eq_false_iff_not] at h ⊢
            exact fun h2 => h (lb.1 h2).1
          · rfl
        rw [this]
      · have hf : (o || !(decide (N % 2 ^ m = 0))) = false := by simpa using h
        rw [hf]
        simp only [cond_false]
        rw [bit_ok N m (by omega)]
        simp only [bindF_some]
        have ho : o = false := by cases o <;> simp at hf ⊢
        have hz : N % 2 ^ m = 0 := by subst ho; simpa using hf
        subst ho
        cases hb : N.testBit m
        · have : N % 2 ^ (m + 1) = 0 := lb.2 ⟨hz, hb⟩
          rw [this]
          rfl
        · have : N % 2 ^ (m + 1) ≠ 0 := fun h2 => by have := (lb.1 h2).2; rw [hb] at this; exact Bool.noConfusion this
          rw [show decide (N % 2 ^ (m + 1) = 0) = false by simpa using this]
          rfl
    · left
      have : m = 31 := by omega
      subst this
      refine ⟨_, fun go => ?_, rfl⟩
      unfold f41_l3
      simp only
      rw [w31, show decide (((31 : Nat) : Int) < 31) = false from rfl]
      rfl
  obtain ⟨z, e, rfl⟩ := loop_fuel (B := fun go (x : Bool × Int) => f41_l3 (W0 N) (W1 N) (W2 N) (W3 N) 32 go x.1 x.2) _ (fun x => ((31 : Int) - x.2).toNat) _ H
    (o, 0) ⟨0, by decide, by rw [Nat.pow_zero, Nat.mod_one]; simp⟩ (by simp)
  exact e

theorem rhe_neg (S : Int) : rhe (-S) = -rhe S := by
  unfold rhe
  split <;> split <;> omega

theorem halved_ok (s : Bool) (A : Int) (h0 : 0 ≤ A) (h1 : A ≤ 100000000000000000000000000000000000000000000) :
    f41 s (W0 A) (W1 A) (W2 A) (W3 A) 32 = some (s, W0 (rhe A), W1 (rhe A), W2 (rhe A), W3 (rhe A)) := by
  obtain ⟨N, rfl⟩ := Int.eq_ofNat_of_zero_le h0
  have hN : N < 2 ^ 256 := by
    have : (2 : Nat) ^ 256 = 115792089237316195423570985008687907853269984665640564039457584007913129639936 := by decide
    omega
  unfold f41
  rw [halve_loop N hN]
  simp only [bindF_some]
  obtain ⟨e0, e1, e2, e3⟩ := W_word (N / 4294967296)
  rw [← e0, ← e1, ← e2, ← e3]
  have hd : ((N / 4294967296 : Nat) : Int) = (N : Int) / 4294967296 := by omega
  rw [hd]
  have hj : f41_j2 (W0 N) (W1 N) (W2 N) (W3 N) 32 = some (if N.testBit 31 = true then Sum.inl () else Sum.inr ()) := by
    unfold f41_j2
    rw [show ((32 : Int) == 0) = false from rfl]
    simp only [cond_false]
    have := bit_ok N 31 (by decide)
    rw [show IntKind.i64.wrap ((32 : Int) - 1) = ((31 : Nat) : Int) from rfl, this]
    simp only [bindF_some]
    cases N.testBit 31 <;> rfl
  rw [hj]
  have hb : N.testBit 31 = decide (N / 2147483648 % 2 = 1) := Nat.testBit_eq_decide_div_mod_eq
  by_cases hbit : N.testBit 31 = true
  · rw [if_pos hbit]
    rw [hb] at hbit
    have hbit : N / 2147483648 % 2 = 1 := by simpa using hbit
    simp only [bindF_some, sumF_inl]
    rw [more_loop]
    simp only [bindF_some]
    have w0 : W0 ((N : Int) / 4294967296) = (N : Int) / 4294967296 % 18446744073709551616 := rfl
    have ha : bitsOf IntKind.u64 (fun p q => p &&& q) (W0 ((N : Int) / 4294967296)) 1 = (N : Int) / 4294967296 % 2 := by
      rw [and1 _ (by rw [w0]; omega) (by rw [w0]; omega), w0]; omega
    rw [ha]
    by_cases hm : ((N : Int) / 4294967296 % 2 == 1 || !(decide (N % 2147483648 = 0))) = true
    · rw [hm]
      simp only [cond_true]
      have h1 : W0 1 = 1 ∧ W1 1 = 0 ∧ W2 1 = 0 ∧ W3 1 = 0 := small 1 (by decide) (by decide)
      have hp := plus_ok ((N : Int) / 4294967296) 1
      rw [h1.1, h1.2.1, h1.2.2.1, h1.2.2.2] at hp
      rw [hp]
      have hr : rhe (N : Int) = (N : Int) / 4294967296 + 1 := by
        unfold rhe
        rw [if_pos]
        simp only [Bool.or_eq_true, beq_iff_eq, Bool.not_eq_true', decide_eq_false_iff_not] at hm
        omega
      rw [hr]
      rfl
    · rw [show ((N : Int) / 4294967296 % 2 == 1 || !(decide (N % 2147483648 = 0))) = false by simpa using hm]
      simp only [cond_false]
      have hr : rhe (N : Int) = (N : Int) / 4294967296 := by
        unfold rhe
        rw [if_neg]
        simp only [Bool.or_eq_true, beq_iff_eq, Bool.not_eq_true', decide_eq_false_iff_not] at hm
        omega
      rw [hr]
  · rw [if_neg hbit]
    rw [hb] at hbit
    have hbit : ¬ (N / 2147483648 % 2 = 1) := by simpa using hbit
    simp only [bindF_some, sumF_inr]
    have hr : rhe (N : Int) = (N : Int) / 4294967296 := by
      unfold rhe
      rw [if_neg]
      omega
    rw [hr]

theorem or_zero (a b : Int) (h0 : 0 ≤ a) (h1 : a < 18446744073709551616) (g0 : 0 ≤ b) (g1 : b < 18446744073709551616) :
    ∃ n : Nat, bitsOf IntKind.u64 (fun p q => p ||| q) a b = (n : Int) ∧ n < 18446744073709551616 ∧ (n = 0 ↔ a = 0 ∧ b = 0) := by
  refine ⟨a.toNat ||| b.toNat, or_nat a b h0 h1 g0 g1, ?_, ?_⟩
  · exact Nat.or_lt_two_pow (n := 64) (by omega) (by omega)
  · rw [Nat.or_eq_zero_iff]; omega

theorem held_ok (s : Bool) (R : Int) (h0 : 0 ≤ R) (h1 : R ≤ 100000000000000000000000000000000000000000000) :
    f40 s (W0 R) (W1 R) (W2 R) (W3 R) = some (sat (if s then -R else R)) := by
  obtain ⟨⟨r0, s0⟩, ⟨r1, s1⟩, ⟨r2, s2⟩, ⟨r3, s3⟩⟩ := W_range R
  have hj : f40_j3 (W0 R) (W1 R) (W2 R) (W3 R) = some (decide (R ≥ 9223372036854775808)) := by
    unfold f40_j3
    obtain ⟨n, e, hn, hz⟩ := or_zero (W1 R) (W2 R) r1 s1 r2 s2
    obtain ⟨p, e', hp, hz'⟩ := or_zero (n : Int) (W3 R) (by omega) (by omega) r3 s3
    rw [e, e']
    have w : W0 R = R % 18446744073709551616 := rfl
    have w1 : W1 R = R / 18446744073709551616 % 18446744073709551616 := rfl
    have w2 : W2 R = R / 18446744073709551616 / 18446744073709551616 % 18446744073709551616 := rfl
    by_cases hp0 : p = 0
    · subst hp0
      rw [show (((0 : Nat) : Int) != 0) = false from rfl]
      simp only [cond_false, Option.some.injEq]
      rw [decide_eq_decide]
      have hn0 : (n : Int) = 0 := (hz'.1 rfl).1
      have hq := hz.1 (by omega)
      omega
    · rw [show ((p : Int) != 0) = true by simp; omega]
      simp only [cond_true, Option.some.injEq]
      symm
      rw [decide_eq_true_iff]
      by_cases hR : R < 18446744073709551616
      · exfalso
        obtain ⟨k0, k1, k2, k3⟩ := small R h0 hR
        have hn0 : n = 0 := hz.2 ⟨k1, k2⟩
        exact hp0 (hz'.2 ⟨by omega, k3⟩)
      · omega
  unfold f40 f40_j2
  rw [hj]
  simp only [bindF_some]
  by_cases hR : R ≥ 9223372036854775808
  · rw [show decide (R ≥ 9223372036854775808) = true by simpa using hR]
    simp only [cond_true]
    cases s
    · simp only [cond_false, bindF_some, sumF_inr, Option.some.injEq, sat]
      simp only [Bool.false_eq_true, if_false]
      rw [if_pos hR]
    · simp only [cond_true, bindF_some, sumF_inr, Option.some.injEq, sat]
      simp only [if_true]
      rw [if_neg (by omega)]
      split <;> omega
  · rw [show decide (R ≥ 9223372036854775808) = false by simpa using hR]
    simp only [cond_false]
    obtain ⟨k0, k1, k2, k3⟩ := small R h0 (by omega)
    rw [k0]
    cases s
    · simp only [cond_false, bindF_some, sumF_inl, Option.some.injEq, sat]
      simp only [Bool.false_eq_true, if_false]
      rw [if_neg hR, if_neg (by omega), wrap_i64 (by omega) (by omega)]
    · simp only [cond_true, bindF_some, sumF_inl, Option.some.injEq, sat]
      simp only [if_true]
      rw [if_neg (by omega), if_neg (by omega), wrap_i64 (n := R) (by omega) (by omega), wrap_i64 (by omega) (by omega)]
      omega

theorem rhe_range (A : Int) (h0 : 0 ≤ A) (h1 : A ≤ 10000000000000000000000000000000000000000000) : 0 ≤ rhe A ∧ rhe A ≤ 100000000000000000000000000000000000000000000 := by
  unfold rhe; split <;> omega

theorem dotref_ok (a b : List Int) (ha : inI a) (hb : inI b) (hl : a.length ≤ 200) : f15 a b = some (sat (rhe (dotS a b))) := by
  unfold f15
  obtain ⟨s, A, e, h0, h1, hS⟩ := sum_ok a b ha hb hl
  rw [e]
  simp only [bindF_some]
  obtain ⟨k0, k1⟩ := rhe_range A h0 (by omega)
  rw [halved_ok s A h0 (by omega)]
  simp only [bindF_some]
  rw [held_ok s _ k0 k1]
  simp only [bindF_some]
  rw [← hS]
  cases s
  · rfl
  · simp only [if_true]; rw [rhe_neg]

/-- The law. -/
theorem dots (a b : List Int) (ha : inI a) (hb : inI b) : f3 a b = some true := by
  unfold f3
  rw [p13]
  simp only [bindF_some, Bool.not_true, cond_false]
  by_cases h1 : a.length ≤ 200 ∧ b.length ≤ 200
  · have hj : f3_j1 a b = some (Sum.inl ()) := by
      unfold f3_j1
      rw [show decide ((a.length : Int) > 200) = false by simp; omega, show decide ((b.length : Int) > 200) = false by simp; omega]
      rfl
    rw [hj]
    simp only [bindF_some, sumF_inl]
    rw [dot_ok a b ha hb (by omega), dot_ok b a hb ha (by omega), dotref_ok a b ha hb h1.1, dotS_comm b a]
    simp only [bindF_some]
    rw [show (sat (rhe (dotS a b)) == sat (rhe (dotS a b))) = true by simp]
    rfl
  · have hj : f3_j1 a b = some (Sum.inr ()) := by
      unfold f3_j1
      by_cases h : a.length ≤ 200
      · rw [show decide ((a.length : Int) > 200) = false by simp; omega, show decide ((b.length : Int) > 200) = true by simp; omega]
        rfl
      · rw [show decide ((a.length : Int) > 200) = true by simp; omega]
        rfl
    rw [hj]
    rfl
end Go.Proofs.Dots
