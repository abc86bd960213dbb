/- Plain law: MatmDots: the document's own product of two rows. -/
import Derived.Test.YtmkekohdmdjdlaaPlMatmDots
set_option linter.unusedVariables false
set_option linter.unusedSimpArgs false
set_option maxRecDepth 100000
namespace Go.Proofs.Dots
open Go.AM Go.Proofs.PlW

theorem pickA {Y : Type} (a b : Option Y) : pickF (0 : Int) [a, b] = a := rfl
theorem pickB {Y : Type} (a b : Option Y) : pickF (1 : Int) [a, b] = b := rfl
theorem small (n : Int) (h0 : 0 ≤ n) (h1 : n < 18446744073709551616) : W0 n = n ∧ W1 n = 0 ∧ W2 n = 0 ∧ W3 n = 0 := by
  have e : n / 18446744073709551616 = 0 := by omega
  refine ⟨by unfold W0; omega, by unfold W1; rw [e]; rfl, by unfold W2; rw [e]; rfl, by unfold W3; rw [e]; rfl⟩
theorem two (s p : Int) (h0 : 0 ≤ s) (h1 : s < 18446744073709551616) (g0 : 0 ≤ p) (g1 : p < 18446744073709551616) : W0 (s + 18446744073709551616 * p) = s ∧ W1 (s + 18446744073709551616 * p) = p ∧ W2 (s + 18446744073709551616 * p) = 0 ∧ W3 (s + 18446744073709551616 * p) = 0 := by
  have e : (s + 18446744073709551616 * p) / 18446744073709551616 = p := by omega
  obtain ⟨k0, k1, k2, k3⟩ := small p g0 g1
  refine ⟨by unfold W0; omega, ?_, ?_, ?_⟩
  · rw [W1_eq, e]; exact k0
  · rw [W2_eq, e]; exact k1
  · rw [W3_eq, e]; exact k2

theorem times_step (x y k : Int) (s : Int) (h0 : 0 ≤ x) (h1 : x < 18446744073709551616) (A : Int) :
    f69 (W0 A) (W1 A) (W2 A) (W3 A) (x * 4294967296 % 18446744073709551616) (x / 4294967296) 0 0 = some (W0 (A + 4294967296 * x), W1 (A + 4294967296 * x), W2 (A + 4294967296 * x), W3 (A + 4294967296 * x)) := by
  have h := plus_ok A (4294967296 * x)
  obtain ⟨t0, t1, t2, t3⟩ := two (x * 4294967296 % 18446744073709551616) (x / 4294967296) (by omega) (by omega) (by omega) (by omega)
  have e : x * 4294967296 % 18446744073709551616 + 18446744073709551616 * (x / 4294967296) = 4294967296 * x := by omega
  rw [e] at t0 t1 t2 t3
  rw [t0, t1, t2, t3] at h
  exact h

theorem times_loop (x y : Int) (h0 : 0 ≤ x) (h1 : x ≤ 9223372036854775808) (g0 : 0 ≤ y) (g1 : y ≤ 9223372036854775808) :
    loopF (fun go (z : Int × Int × Int × Int × Int) => f39_l1 x y go z.1 z.2.1 z.2.2.1 z.2.2.2.1 z.2.2.2.2) fuelN ((0 : Int), (IntKind.u64.wrap ((bitsOf IntKind.u64 (fun p q => p &&& q) x (4294967295 : Int)) * (bitsOf IntKind.u64 (fun p q => p &&& q) y (4294967295 : Int)))), (IntKind.u64.wrap ((Int.fdiv x (2 ^ min (Int.toNat (32 : Int)) (IntKind.bits IntKind.u64))) * (Int.fdiv y (2 ^ min (Int.toNat (32 : Int)) (IntKind.bits IntKind.u64))))), (0 : Int), (0 : Int)) =
      some (W0 (x * y), W1 (x * y), W2 (x * y), W3 (x * y)) := by
  have x1 := Int.mul_ediv_add_emod x 4294967296
  have y1 := Int.mul_ediv_add_emod y 4294967296
  have x2 : x < 18446744073709551616 := by omega
  have y2 : y < 18446744073709551616 := by omega
  obtain ⟨p0, p1⟩ := mul_bound (x / 4294967296) (y / 4294967296) (by omega) (by omega) (by omega) (by omega)
  obtain ⟨q0, q1⟩ := mul_bound (x / 4294967296) (y % 4294967296) (by omega) (by omega) (by omega) (by omega)
  obtain ⟨r0, r1⟩ := mul_bound (x % 4294967296) (y / 4294967296) (by omega) (by omega) (by omega) (by omega)
  obtain ⟨s0, s1⟩ := mul_bound (x % 4294967296) (y % 4294967296) (by omega) (by omega) (by omega) (by omega)
  have hxy : x * y = x % 4294967296 * (y % 4294967296) + 18446744073709551616 * (x / 4294967296 * (y / 4294967296)) + 4294967296 * (x % 4294967296 * (y / 4294967296)) + 4294967296 * (x / 4294967296 * (y % 4294967296)) := by
    conv => lhs; rw [← x1, ← y1, Int.add_mul, Int.mul_add, Int.mul_add]
    have e1 : 4294967296 * (x / 4294967296) * (4294967296 * (y / 4294967296)) = 18446744073709551616 * (x / 4294967296 * (y / 4294967296)) := by
      rw [show (18446744073709551616 : Int) = 4294967296 * 4294967296 from rfl]; ac_rfl
    have e2 : 4294967296 * (x / 4294967296) * (y % 4294967296) = 4294967296 * (x / 4294967296 * (y % 4294967296)) := Int.mul_assoc _ _ _
    have e3 : x % 4294967296 * (4294967296 * (y / 4294967296)) = 4294967296 * (x % 4294967296 * (y / 4294967296)) := Int.mul_left_comm _ _ _
    rw [e1, e2, e3]; omega
  have w0 : ∀ n : Int, 0 ≤ n → n ≤ 18446744065119617025 → IntKind.u64.wrap n = n := fun n h0 h1 => by rw [wu]; omega
  have sh : ((2 : Int) ^ min (Int.toNat (32 : Int)) (IntKind.bits IntKind.u64)) = 4294967296 := rfl
  have st0 : ∀ go a b c d, f39_l1 x y go 0 a b c d = bindF (f69 a b c d (x % 4294967296 * (y / 4294967296) * 4294967296 % 18446744073709551616) (x % 4294967296 * (y / 4294967296) / 4294967296) 0 0) fun r9 => go (1, r9.1, r9.2.1, r9.2.2.1, r9.2.2.2) := fun go a b c d => by
    unfold f39_l1
    rw [show decide ((0 : Int) < 2) = true from rfl]
    simp only [cond_true]
    rw [guardF_pos (by decide), pickA, show IntKind.i64.wrap ((0 : Int) + 1) = 1 from rfl]
    simp only [sh32u, and32 x h0 x2, and32 y g0 y2, w0 _ r0 r1, wu]; rw [sh]
  have st1 : ∀ go a b c d, f39_l1 x y go 1 a b c d = bindF (f69 a b c d (x / 4294967296 * (y % 4294967296) * 4294967296 % 18446744073709551616) (x / 4294967296 * (y % 4294967296) / 4294967296) 0 0) fun r9 => go (2, r9.1, r9.2.1, r9.2.2.1, r9.2.2.2) := fun go a b c d => by
    unfold f39_l1
    rw [show decide ((1 : Int) < 2) = true from rfl]
    simp only [cond_true]
    rw [guardF_pos (by decide), pickB, show IntKind.i64.wrap ((1 : Int) + 1) = 2 from rfl]
    simp only [sh32u, and32 x h0 x2, and32 y g0 y2, w0 _ q0 q1, wu]; rw [sh]
  have st2 : ∀ go a b c d, f39_l1 x y go 2 a b c d = some (a, b, c, d) := fun go a b c d => by
    unfold f39_l1
    rw [show decide ((2 : Int) < 2) = false from rfl]
    rfl
  obtain ⟨t0, t1, t2, t3⟩ := two (x % 4294967296 * (y % 4294967296)) (x / 4294967296 * (y / 4294967296)) s0 (by omega) p0 (by omega)
  rw [and32 x h0 (by omega), and32 y g0 (by omega), sh32u, sh32u, w0 _ s0 s1, w0 _ p0 p1, lf1]
  simp only
  rw [st0]
  have f1 := times_step (x % 4294967296 * (y / 4294967296)) 0 0 0 r0 (by omega) (x % 4294967296 * (y % 4294967296) + 18446744073709551616 * (x / 4294967296 * (y / 4294967296)))
  rw [t0, t1, t2, t3] at f1
  rw [f1]
  simp only [bindF_some]
  rw [lf2]
  simp only
  rw [st1, times_step (x / 4294967296 * (y % 4294967296)) 0 0 0 q0 (by omega)]
  simp only [bindF_some]
  rw [lf3]
  simp only
  rw [st2, ← hxy]

theorem times_ok (a b : Int) (a0 : -9223372036854775808 ≤ a) (a1 : a < 9223372036854775808) (b0 : -9223372036854775808 ≤ b) (b1 : b < 9223372036854775808) :
    ∃ (s : Bool) (P : Int), f39 a b = some (s, W0 P, W1 P, W2 P, W3 P) ∧ 0 ≤ P ∧ P ≤ 85070591730234615865843651857942052864 ∧ (if s then -P else P) = a * b := by
  have key : ∀ x y : Int, 0 ≤ x → x ≤ 9223372036854775808 → 0 ≤ y → y ≤ 9223372036854775808 → 0 ≤ x * y ∧ x * y ≤ 85070591730234615865843651857942052864 := fun x y h0 h1 g0 g1 => ⟨Int.mul_nonneg h0 g0, Int.mul_le_mul h1 g1 g0 (by decide)⟩
  unfold f39
  rw [refSize_ok a a0 a1, refSize_ok b b0 b1]
  simp only [bindF_some]
  by_cases ha : a < 0 <;> by_cases hb : b < 0
  · rw [if_pos ha, if_pos hb, times_loop _ _ (by omega) (by omega) (by omega) (by omega)]
    obtain ⟨k0, k1⟩ := key (-a) (-b) (by omega) (by omega) (by omega) (by omega)
    refine ⟨false, -a * -b, ?_, k0, k1, by rw [Int.neg_mul_neg]; rfl⟩
    simp only [bindF_some]
    rw [show (!(decide (a < 0) == decide (b < 0))) = false by simp [ha, hb]]
  · rw [if_pos ha, if_neg hb, times_loop _ _ (by omega) (by omega) (by omega) (by omega)]
    obtain ⟨k0, k1⟩ := key (-a) b (by omega) (by omega) (by omega) (by omega)
    refine ⟨true, -a * b, ?_, k0, k1, by rw [if_pos rfl, Int.neg_mul, Int.neg_neg]⟩
    simp only [bindF_some]
    rw [show (!(decide (a < 0) == decide (b < 0))) = true by simp [ha, hb]]
  · rw [if_neg ha, if_pos hb, times_loop _ _ (by omega) (by omega) (by omega) (by omega)]
    obtain ⟨k0, k1⟩ := key a (-b) (by omega) (by omega) (by omega) (by omega)
    refine ⟨true, a * -b, ?_, k0, k1, by rw [if_pos rfl, Int.mul_neg, Int.neg_neg]⟩
    simp only [bindF_some]
    rw [show (!(decide (a < 0) == decide (b < 0))) = true by simp [ha, hb]]
  · rw [if_neg ha, if_neg hb, times_loop _ _ (by omega) (by omega) (by omega) (by omega)]
    obtain ⟨k0, k1⟩ := key a b (by omega) (by omega) (by omega) (by omega)
    refine ⟨false, a * b, ?_, k0, k1, rfl⟩
    simp only [bindF_some]
    rw [show (!(decide (a < 0) == decide (b < 0))) = false by simp [ha, hb]]

theorem signed_ok (s t : Bool) (A B : Int) (a0 : 0 ≤ A) (a1 : A ≤ 100000000000000000000000000000000000000000000) (b0 : 0 ≤ B) (b1 : B ≤ 100000000000000000000000000000000000000000000) :
    ∃ (u : Bool) (C : Int), f38 s (W0 A) (W1 A) (W2 A) (W3 A) t (W0 B) (W1 B) (W2 B) (W3 B) = some (u, W0 C, W1 C, W2 C, W3 C) ∧ 0 ≤ C ∧ C ≤ A + B ∧ (if u then -C else C) = (if s then -A else A) + (if t then -B else B) := by
  unfold f38
  by_cases h : s = t
  · subst h
    rw [show (s == s) = true by simp]
    simp only [cond_true]
    rw [plus_ok]
    refine ⟨s, A + B, rfl, by omega, by omega, ?_⟩
    cases s
    · rfl
    · simp only [if_true]; omega
  · rw [show (s == t) = false by simpa using h, less_ok A B (four_of a0 (by omega)) (four_of b0 (by omega))]
    simp only [cond_false, bindF_some]
    by_cases hl : A < B
    · rw [show decide (A < B) = true by simpa using hl]
      simp only [cond_true]
      rw [minus_ok]
      refine ⟨t, B - A, rfl, by omega, by omega, ?_⟩
      cases s <;> cases t <;> simp at h ⊢ <;> omega
    · rw [show decide (A < B) = false by simpa using hl]
      simp only [cond_false]
      rw [minus_ok]
      refine ⟨s, A - B, rfl, by omega, by omega, ?_⟩
      cases s <;> cases t <;> simp at h ⊢ <;> omega

theorem sum_ok (a b : List Int) (ha : inI a) (hb : inI b) (hl : a.length ≤ 200) :
    ∃ (s : Bool) (A : Int), loopF (fun go (x : Int × Bool × Int × Int × Int × Int) => f15_l3 a b go x.1 x.2.1 x.2.2.1 x.2.2.2.1 x.2.2.2.2.1 x.2.2.2.2.2) fuelN ((0 : Int), false, (0 : Int), (0 : Int), (0 : Int), (0 : Int)) = some (s, W0 A, W1 A, W2 A, W3 A) ∧
      0 ≤ A ∧ A ≤ 200 * 85070591730234615865843651857942052864 ∧ (if s then -A else A) = dotS a b := by
  have H : ∀ x : Int × Bool × Int × Int × Int × Int, (∃ (k : Nat) (s : Bool) (A : Int), k ≤ a.length ∧ k ≤ b.length ∧ x = ((k : Int), s, W0 A, W1 A, W2 A, W3 A) ∧ 0 ≤ A ∧ A ≤ k * 85070591730234615865843651857942052864 ∧ (if s then -A else A) + dotS (a.drop k) (b.drop k) = dotS a b) →
      (∃ z, (∀ go, f15_l3 a b go x.1 x.2.1 x.2.2.1 x.2.2.2.1 x.2.2.2.2.1 x.2.2.2.2.2 = some z) ∧ (∃ (s : Bool) (A : Int), z = (s, W0 A, W1 A, W2 A, W3 A) ∧ 0 ≤ A ∧ A ≤ 200 * 85070591730234615865843651857942052864 ∧ (if s then -A else A) = dotS a b)) ∨
      (∃ y : Int × Bool × Int × Int × Int × Int, (∀ go, f15_l3 a b go x.1 x.2.1 x.2.2.1 x.2.2.2.1 x.2.2.2.2.1 x.2.2.2.2.2 = go y) ∧ (∃ (k : Nat) (s : Bool) (A : Int), k ≤ a.length ∧ k ≤ b.length ∧ y = ((k : Int), s, W0 A, W1 A, W2 A, W3 A) ∧ 0 ≤ A ∧ A ≤ k * 85070591730234615865843651857942052864 ∧ (if s then -A else A) + dotS (a.drop k) (b.drop k) = dotS a b) ∧
        (((min a.length b.length : Nat) : Int) - y.1).toNat < (((min a.length b.length : Nat) : Int) - x.1).toNat) := by
    rintro _ ⟨k, s, A, ka, kb, rfl, A0, A1, hS⟩
    by_cases hlt : k < a.length ∧ k < b.length
    · right
      obtain ⟨la, lb⟩ := hlt
      have xa := ha a[k] (List.getElem_mem la)
      have xb := hb b[k] (List.getElem_mem lb)
      obtain ⟨t, P, e1, P0, P1, hP⟩ := times_ok a[k] b[k] xa.1 xa.2 xb.1 xb.2
      have hk : (k : Int) * 85070591730234615865843651857942052864 ≤ 200 * 85070591730234615865843651857942052864 := Int.mul_le_mul_of_nonneg_right (by omega) (by omega)
      obtain ⟨u, C, e2, C0, C1, hC⟩ := signed_ok s t A P A0 (by omega) P0 (by omega)
      refine ⟨(((k + 1 : Nat) : Int), u, W0 C, W1 C, W2 C, W3 C), fun go => ?_, ⟨k + 1, u, C, la, lb, rfl, C0, ?_, ?_⟩, by simp only; omega⟩
      · have hj : f15_j4 a b (k : Int) = some (Sum.inl ()) := by
          unfold f15_j4
          rw [show decide ((k : Int) < (a.length : Int)) = true by simpa using la, show decide ((k : Int) < (b.length : Int)) = true by simpa using lb]
          rfl
        simp only [f15_l3, hj, bindF_some, sumF_inl]
        rw [guardF_pos (by omega), guardF_pos (by omega), rd_nat _ _ _ la, rd_nat _ _ _ lb, e1]
        simp only [bindF_some, e2]
        rw [wrap_i64 (by omega) (by omega)]
        rfl
      · simp only [Int.natCast_add, Int.natCast_one, Int.add_mul]; omega
      · rw [List.drop_eq_getElem_cons la, List.drop_eq_getElem_cons lb] at hS
        simp only [dotS] at hS
        rw [hC, hP]
        omega
    · left
      have hk : (k : Int) * 85070591730234615865843651857942052864 ≤ 200 * 85070591730234615865843651857942052864 := Int.mul_le_mul_of_nonneg_right (by omega) (by omega)
      refine ⟨_, fun go => ?_, s, A, rfl, A0, by omega, ?_⟩
      · have hj : f15_j4 a b (k : Int) = some (Sum.inr ()) := by
          unfold f15_j4
          by_cases la : k < a.length
          · rw [show decide ((k : Int) < (a.length : Int)) = true by simpa using la, show decide ((k : Int) < (b.length : Int)) = false by simp; omega]
            rfl
          · rw [show decide ((k : Int) < (a.length : Int)) = false by simp; omega]
            rfl
        simp only [f15_l3, hj, bindF_some, sumF_inr]
      · have : dotS (a.drop k) (b.drop k) = 0 := by
          by_cases h : k < a.length
          · have hb0 : b.drop k = [] := List.drop_eq_nil_of_le (by omega)
            rw [hb0]
            cases a.drop k <;> rfl
          · have ha0 : a.drop k = [] := List.drop_eq_nil_of_le (by omega)
            rw [ha0]
            cases b.drop k <;> rfl
        omega
  obtain ⟨z, e, s, A, rfl, h0, h1, h2⟩ := loop_fuel (B := fun go (x : Int × Bool × Int × Int × Int × Int) => f15_l3 a b go x.1 x.2.1 x.2.2.1 x.2.2.2.1 x.2.2.2.2.1 x.2.2.2.2.2) _ (fun x => (((min a.length b.length : Nat) : Int) - x.1).toNat) _ H
    ((0 : Int), false, (0 : Int), (0 : Int), (0 : Int), (0 : Int)) ⟨0, false, 0, Nat.zero_le _, Nat.zero_le _, rfl, by decide, by simp, by simp⟩ (by simp; omega)
  exact ⟨s, A, e, h0, h1, h2⟩
end Go.Proofs.Dots
