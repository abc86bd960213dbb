/- Plain laws for wide sums, part A: words of 64 bits. -/
import Derived.Test.YtgkmdgdkmgkelaaGreatPlA4
set_option linter.unusedVariables false
set_option linter.unusedSimpArgs false
set_option maxRecDepth 100000
namespace Go.Proofs.PlJ
open Go.AM

theorem wu (n : Int) : IntKind.u64.wrap n = n % 18446744073709551616 := by
  simp [IntKind.wrap, IntKind.signed, IntKind.bits]
theorem wi (n : Int) : IntKind.i64.wrap n = if n % 18446744073709551616 ≥ 9223372036854775808 then n % 18446744073709551616 - 18446744073709551616 else n % 18446744073709551616 := by
  simp [IntKind.wrap, IntKind.signed, IntKind.bits]
theorem wu_wi (n : Int) : IntKind.u64.wrap (IntKind.i64.wrap n) = n % 18446744073709551616 := by
  rw [wu, wi]; split <;> omega
theorem wi_mod (n : Int) : IntKind.i64.wrap (n % 18446744073709551616) = IntKind.i64.wrap n := by
  rw [wi, wi, Int.emod_emod_of_dvd _ (Int.dvd_refl _)]
theorem sh32u (x : Int) : Int.fdiv x (2 ^ min (Int.toNat (32 : Int)) (IntKind.bits IntKind.u64)) = x / 4294967296 := by
  rw [show ((2 : Int) ^ min (Int.toNat (32 : Int)) (IntKind.bits IntKind.u64)) = 4294967296 from rfl]
  exact Int.fdiv_eq_ediv_of_nonneg _ (by decide)
theorem sh32i (x : Int) : Int.fdiv x (2 ^ min (Int.toNat (32 : Int)) (IntKind.bits IntKind.i64)) = x / 4294967296 := by
  rw [show ((2 : Int) ^ min (Int.toNat (32 : Int)) (IntKind.bits IntKind.i64)) = 4294967296 from rfl]
  exact Int.fdiv_eq_ediv_of_nonneg _ (by decide)
theorem sh63i (x : Int) : Int.fdiv x (2 ^ min (Int.toNat (63 : Int)) (IntKind.bits IntKind.i64)) = x / 9223372036854775808 := by
  rw [show ((2 : Int) ^ min (Int.toNat (63 : Int)) (IntKind.bits IntKind.i64)) = 9223372036854775808 from rfl]
  exact Int.fdiv_eq_ediv_of_nonneg _ (by decide)

theorem bits_nat (f : BitVec 64 → BitVec 64 → BitVec 64) (a b : Int) : bitsOf IntKind.u64 f a b = ((f (BitVec.ofInt 64 a) (BitVec.ofInt 64 b)).toNat : Int) := by
  have h : bitsOf IntKind.u64 f a b = IntKind.u64.wrap (((f (BitVec.ofInt 64 a) (BitVec.ofInt 64 b)).toNat : Nat) : Int) := rfl
  rw [h, wu]
  have := (f (BitVec.ofInt 64 a) (BitVec.ofInt 64 b)).isLt
  omega
theorem ofInt_nat (a : Int) (h0 : 0 ≤ a) (h1 : a < 18446744073709551616) : (BitVec.ofInt 64 a).toNat = a.toNat := by
  rw [BitVec.toNat_ofInt]
  have : a % ((2 ^ 64 : Nat) : Int) = a := Int.emod_eq_of_lt h0 (by simpa using h1)
  rw [this]
theorem and_nat (a b : Int) (h0 : 0 ≤ a) (h1 : a < 18446744073709551616) (g0 : 0 ≤ b) (g1 : b < 18446744073709551616) :
    bitsOf IntKind.u64 (fun p q => p &&& q) a b = ((a.toNat &&& b.toNat : Nat) : Int) := by
  refine (bits_nat (fun p q => p &&& q) a b).trans ?_
  rw [BitVec.toNat_and, ofInt_nat a h0 h1, ofInt_nat b g0 g1]
theorem or_nat (a b : Int) (h0 : 0 ≤ a) (h1 : a < 18446744073709551616) (g0 : 0 ≤ b) (g1 : b < 18446744073709551616) :
    bitsOf IntKind.u64 (fun p q => p ||| q) a b = ((a.toNat ||| b.toNat : Nat) : Int) := by
  refine (bits_nat (fun p q => p ||| q) a b).trans ?_
  rw [BitVec.toNat_or, ofInt_nat a h0 h1, ofInt_nat b g0 g1]
theorem and32 (x : Int) (h0 : 0 ≤ x) (h1 : x < 18446744073709551616) : bitsOf IntKind.u64 (fun p q => p &&& q) x 4294967295 = x % 4294967296 := by
  rw [and_nat x _ h0 h1 (by decide) (by decide)]
  have := Nat.and_two_pow_sub_one_eq_mod x.toNat 32
  rw [show (4294967295 : Int).toNat = 2 ^ 32 - 1 from rfl, this]
  omega
theorem and1 (x : Int) (h0 : 0 ≤ x) (h1 : x < 18446744073709551616) : bitsOf IntKind.u64 (fun p q => p &&& q) x 1 = x % 2 := by
  rw [and_nat x _ h0 h1 (by decide) (by decide)]
  have := Nat.and_two_pow_sub_one_eq_mod x.toNat 1
  rw [show (1 : Int).toNat = 2 ^ 1 - 1 from rfl, this]
  omega
theorem or32 (a b : Int) (h0 : 0 ≤ a) (h1 : a < 4294967296) (g0 : 0 ≤ b) (g1 : b < 4294967296) : bitsOf IntKind.u64 (fun p q => p ||| q) (a * 4294967296) b = a * 4294967296 + b := by
  rw [or_nat _ _ (by omega) (by omega) (by omega) (by omega)]
  have := Nat.two_pow_add_eq_or_of_lt (i := 32) (b := b.toNat) (by omega) a.toNat
  rw [show (a * 4294967296).toNat = 2 ^ 32 * a.toNat by omega, ← this]
  omega

theorem add_ok (x y c : Int) (h0 : 0 ≤ x) (h1 : 0 ≤ y) (h2 : 0 ≤ c) (h3 : c ≤ 1) : add64 x y c = some ((x + y + c) % 18446744073709551616, (x + y + c) / 18446744073709551616) := by
  unfold add64
  rw [show Nat.ble c.toNat 1 = true by rw [Nat.ble_eq]; omega]
  simp only [Option.some.injEq, Prod.mk.injEq, Int.ofNat_eq_natCast]
  constructor <;> omega
theorem sub_ok (x y c : Int) (h0 : 0 ≤ x) (h0' : x < 18446744073709551616) (h1 : 0 ≤ y) (h1' : y < 18446744073709551616) (h2 : 0 ≤ c) (h3 : c ≤ 1) :
    sub64 x y c = some ((x - y - c) % 18446744073709551616, if x < y + c then 1 else 0) := by
  unfold sub64
  rw [show Nat.ble c.toNat 1 = true by rw [Nat.ble_eq]; omega]
  simp only [Option.some.injEq, Prod.mk.injEq, Int.ofNat_eq_natCast]
  constructor
  · omega
  · by_cases h : x < y + c
    · rw [if_pos h, if_pos (by omega)]
    · rw [if_neg h, if_neg (by omega)]

theorem lf1 {X Z : Type} (B : (X → Option Z) → X → Option Z) (x : X) : loopF B fuelN x = B (loopF B 18446744073709551615) x := rfl
theorem lf2 {X Z : Type} (B : (X → Option Z) → X → Option Z) (x : X) : loopF B 18446744073709551615 x = B (loopF B 18446744073709551614) x := rfl
theorem lf3 {X Z : Type} (B : (X → Option Z) → X → Option Z) (x : X) : loopF B 18446744073709551614 x = B (loopF B 18446744073709551613) x := rfl
theorem lf4 {X Z : Type} (B : (X → Option Z) → X → Option Z) (x : X) : loopF B 18446744073709551613 x = B (loopF B 18446744073709551612) x := rfl
theorem lf5 {X Z : Type} (B : (X → Option Z) → X → Option Z) (x : X) : loopF B 18446744073709551612 x = B (loopF B 18446744073709551611) x := rfl

/-! ### words of 64 bits -/
def W0 (A : Int) : Int := A % 18446744073709551616
def W1 (A : Int) : Int := A / 18446744073709551616 % 18446744073709551616
def W2 (A : Int) : Int := A / 18446744073709551616 / 18446744073709551616 % 18446744073709551616
def W3 (A : Int) : Int := A / 18446744073709551616 / 18446744073709551616 / 18446744073709551616 % 18446744073709551616
theorem W1_eq (A : Int) : W1 A = W0 (A / 18446744073709551616) := rfl
theorem W2_eq (A : Int) : W2 A = W1 (A / 18446744073709551616) := rfl
theorem W3_eq (A : Int) : W3 A = W2 (A / 18446744073709551616) := rfl

theorem W_range (A : Int) : (0 ≤ W0 A ∧ W0 A < 18446744073709551616) ∧ (0 ≤ W1 A ∧ W1 A < 18446744073709551616) ∧ (0 ≤ W2 A ∧ W2 A < 18446744073709551616) ∧ (0 ≤ W3 A ∧ W3 A < 18446744073709551616) := by
  have w : ∀ n : Int, 0 ≤ n % 18446744073709551616 ∧ n % 18446744073709551616 < 18446744073709551616 := fun n => by omega
  exact ⟨w _, w _, w _, w _⟩

/-- Digits of a sum. -/
theorem sm (s q k : Int) : (s % 18446744073709551616 + q % 18446744073709551616 + k) % 18446744073709551616 = (s + q + k) % 18446744073709551616 := by omega
theorem sd (s q k : Int) : (s + q + k) / 18446744073709551616 = s / 18446744073709551616 + q / 18446744073709551616 + (s % 18446744073709551616 + q % 18446744073709551616 + k) / 18446744073709551616 := by omega
theorem mm (s q k : Int) : (s % 18446744073709551616 - q % 18446744073709551616 - k) % 18446744073709551616 = (s - q - k) % 18446744073709551616 := by omega
theorem md (s q k : Int) : (s - q - k) / 18446744073709551616 = s / 18446744073709551616 - q / 18446744073709551616 - -((s % 18446744073709551616 - q % 18446744073709551616 - k) / 18446744073709551616) := by omega
theorem lt_digit (s q : Int) : s < q ↔ s / 18446744073709551616 < q / 18446744073709551616 ∨ (s / 18446744073709551616 = q / 18446744073709551616 ∧ s % 18446744073709551616 < q % 18446744073709551616) := by omega

theorem carry_step {Y : Type} (x y c : Int) (x0 : 0 ≤ x) (x1 : x < 18446744073709551616) (y0 : 0 ≤ y) (y1 : y < 18446744073709551616) (c0 : 0 ≤ c) (c1 : c ≤ 1) (k : Int → Int → Option Y) :
    (bif decide (IntKind.u64.wrap (x + y) < x) then k 1 (IntKind.u64.wrap (IntKind.u64.wrap (x + y) + c)) else
      bif decide (IntKind.u64.wrap (IntKind.u64.wrap (x + y) + c) < IntKind.u64.wrap (x + y)) then k 1 (IntKind.u64.wrap (IntKind.u64.wrap (x + y) + c)) else k 0 (IntKind.u64.wrap (IntKind.u64.wrap (x + y) + c))) =
    k ((x + y + c) / 18446744073709551616) ((x + y + c) % 18446744073709551616) := by
  simp only [wu]
  have e : ((x + y) % 18446744073709551616 + c) % 18446744073709551616 = (x + y + c) % 18446744073709551616 := by omega
  rw [e]
  by_cases h1 : (x + y) % 18446744073709551616 < x
  · rw [show decide ((x + y) % 18446744073709551616 < x) = true by simpa using h1, show (x + y + c) / 18446744073709551616 = 1 by omega]; rfl
  · rw [show decide ((x + y) % 18446744073709551616 < x) = false by simpa using h1]
    by_cases h2 : (x + y + c) % 18446744073709551616 < (x + y) % 18446744073709551616
    · rw [show decide ((x + y + c) % 18446744073709551616 < (x + y) % 18446744073709551616) = true by simpa using h2, show (x + y + c) / 18446744073709551616 = 1 by omega]; rfl
    · rw [show decide ((x + y + c) % 18446744073709551616 < (x + y) % 18446744073709551616) = false by simpa using h2, show (x + y + c) / 18446744073709551616 = 0 by omega]; rfl

theorem borrow_step {Y : Type} (x y c : Int) (x0 : 0 ≤ x) (x1 : x < 18446744073709551616) (y0 : 0 ≤ y) (y1 : y < 18446744073709551616) (c0 : 0 ≤ c) (c1 : c ≤ 1) (k : Int → Int → Option Y) :
    (bif decide (x < y) then k 1 (IntKind.u64.wrap (IntKind.u64.wrap (x - y) - c)) else
      bif decide (IntKind.u64.wrap (x - y) < c) then k 1 (IntKind.u64.wrap (IntKind.u64.wrap (x - y) - c)) else k 0 (IntKind.u64.wrap (IntKind.u64.wrap (x - y) - c))) =
    k (-((x - y - c) / 18446744073709551616)) ((x - y - c) % 18446744073709551616) := by
  simp only [wu]
  have e : ((x - y) % 18446744073709551616 - c) % 18446744073709551616 = (x - y - c) % 18446744073709551616 := by omega
  rw [e]
  by_cases h1 : x < y
  · rw [show decide (x < y) = true by simpa using h1, show -((x - y - c) / 18446744073709551616) = 1 by omega]; rfl
  · rw [show decide (x < y) = false by simpa using h1]
    by_cases h2 : (x - y) % 18446744073709551616 < c
    · rw [show decide ((x - y) % 18446744073709551616 < c) = true by simpa using h2, show -((x - y - c) / 18446744073709551616) = 1 by omega]; rfl
    · rw [show decide ((x - y) % 18446744073709551616 < c) = false by simpa using h2, show -((x - y - c) / 18446744073709551616) = 0 by omega]; rfl

theorem pick0 {Y : Type} (a b c d : Option Y) : pickF (0 : Int) [a, b, c, d] = a := rfl
theorem pick1 {Y : Type} (a b c d : Option Y) : pickF (1 : Int) [a, b, c, d] = b := rfl
theorem pick2 {Y : Type} (a b c d : Option Y) : pickF (2 : Int) [a, b, c, d] = c := rfl
theorem pick3 {Y : Type} (a b c d : Option Y) : pickF (3 : Int) [a, b, c, d] = d := rfl

theorem plus_w (a0 a1 a2 a3 b0 b1 b2 b3 : Int) (ha : (0 ≤ a0 ∧ a0 < 18446744073709551616) ∧ (0 ≤ a1 ∧ a1 < 18446744073709551616) ∧ (0 ≤ a2 ∧ a2 < 18446744073709551616) ∧ (0 ≤ a3 ∧ a3 < 18446744073709551616))
    (hb : (0 ≤ b0 ∧ b0 < 18446744073709551616) ∧ (0 ≤ b1 ∧ b1 < 18446744073709551616) ∧ (0 ≤ b2 ∧ b2 < 18446744073709551616) ∧ (0 ≤ b3 ∧ b3 < 18446744073709551616)) :
    ∃ c1 c2 c3 : Int, c1 = (a0 + b0 + 0) / 18446744073709551616 ∧ c2 = (a1 + b1 + c1) / 18446744073709551616 ∧ c3 = (a2 + b2 + c2) / 18446744073709551616 ∧
      f57 a0 a1 a2 a3 b0 b1 b2 b3 = some ((a0 + b0 + 0) % 18446744073709551616, (a1 + b1 + c1) % 18446744073709551616, (a2 + b2 + c2) % 18446744073709551616, (a3 + b3 + c3) % 18446744073709551616) := by
  obtain ⟨⟨p0, q0⟩, ⟨p1, q1⟩, ⟨p2, q2⟩, ⟨p3, q3⟩⟩ := ha
  obtain ⟨⟨r0, s0⟩, ⟨r1, s1⟩, ⟨r2, s2⟩, ⟨r3, s3⟩⟩ := hb
  refine ⟨_, _, _, rfl, rfl, rfl, ?_⟩
  unfold f57
  rw [lf1]
  simp only [f57_l1]
  rw [show decide ((0 : Int) < 4) = true from rfl]
  simp only [cond_true]
  rw [guardF_pos (by decide), pick0, show IntKind.i64.wrap ((0 : Int) + 1) = 1 from rfl, carry_step a0 b0 0 p0 q0 r0 s0 (by omega) (by omega) (fun c v => loopF _ 18446744073709551615 (c, 1, v, 0, 0, 0)), lf2]
  simp only [f57_l1]
  rw [show decide ((1 : Int) < 4) = true from rfl]
  simp only [cond_true]
  rw [guardF_pos (by decide), pick1, show IntKind.i64.wrap ((1 : Int) + 1) = 2 from rfl, carry_step a1 b1 _ p1 q1 r1 s1 (by omega) (by omega) (fun c v => loopF _ 18446744073709551614 (c, 2, _, v, 0, 0)), lf3]
  simp only [f57_l1]
  rw [show decide ((2 : Int) < 4) = true from rfl]
  simp only [cond_true]
  rw [guardF_pos (by decide), pick2, show IntKind.i64.wrap ((2 : Int) + 1) = 3 from rfl, carry_step a2 b2 _ p2 q2 r2 s2 (by omega) (by omega) (fun c v => loopF _ 18446744073709551613 (c, 3, _, _, v, 0)), lf4]
  simp only [f57_l1]
  rw [show decide ((3 : Int) < 4) = true from rfl]
  simp only [cond_true]
  rw [guardF_pos (by decide), pick3, show IntKind.i64.wrap ((3 : Int) + 1) = 4 from rfl, carry_step a3 b3 _ p3 q3 r3 s3 (by omega) (by omega) (fun c v => loopF _ 18446744073709551612 (c, 4, _, _, _, v)), lf5]
  simp only [f57_l1]
  rw [show decide ((4 : Int) < 4) = false from rfl]
  rfl

theorem plus_ok (A B : Int) : f57 (W0 A) (W1 A) (W2 A) (W3 A) (W0 B) (W1 B) (W2 B) (W3 B) = some (W0 (A + B), W1 (A + B), W2 (A + B), W3 (A + B)) := by
  obtain ⟨c1, c2, c3, h1, h2, h3, e⟩ := plus_w _ _ _ _ _ _ _ _ (W_range A) (W_range B)
  rw [e]
  have d1 : (A + B) / 18446744073709551616 = A / 18446744073709551616 + B / 18446744073709551616 + c1 := by
    rw [h1]; have := sd A B 0; rwa [Int.add_zero] at this
  have d2 : (A + B) / 18446744073709551616 / 18446744073709551616 = A / 18446744073709551616 / 18446744073709551616 + B / 18446744073709551616 / 18446744073709551616 + c2 := by
    rw [d1, sd, h2]; rfl
  have d3 : (A + B) / 18446744073709551616 / 18446744073709551616 / 18446744073709551616 = A / 18446744073709551616 / 18446744073709551616 / 18446744073709551616 + B / 18446744073709551616 / 18446744073709551616 / 18446744073709551616 + c3 := by
    rw [d2, sd, h3]; rfl
  have e0 : (W0 A + W0 B + 0) % 18446744073709551616 = W0 (A + B) := by
    have := sm A B 0; rw [Int.add_zero] at this ⊢; rw [Int.add_zero] at this; exact this
  have e1 : (W1 A + W1 B + c1) % 18446744073709551616 = W1 (A + B) := by
    unfold W1; rw [d1]; exact sm _ _ _
  have e2 : (W2 A + W2 B + c2) % 18446744073709551616 = W2 (A + B) := by
    unfold W2; rw [d2]; exact sm _ _ _
  have e3 : (W3 A + W3 B + c3) % 18446744073709551616 = W3 (A + B) := by
    unfold W3; rw [d3]; exact sm _ _ _
  rw [e0, e1, e2, e3]

theorem minus_w (a0 a1 a2 a3 b0 b1 b2 b3 : Int) (ha : (0 ≤ a0 ∧ a0 < 18446744073709551616) ∧ (0 ≤ a1 ∧ a1 < 18446744073709551616) ∧ (0 ≤ a2 ∧ a2 < 18446744073709551616) ∧ (0 ≤ a3 ∧ a3 < 18446744073709551616))
    (hb : (0 ≤ b0 ∧ b0 < 18446744073709551616) ∧ (0 ≤ b1 ∧ b1 < 18446744073709551616) ∧ (0 ≤ b2 ∧ b2 < 18446744073709551616) ∧ (0 ≤ b3 ∧ b3 < 18446744073709551616)) :
    ∃ c1 c2 c3 : Int, c1 = -((a0 - b0 - 0) / 18446744073709551616) ∧ c2 = -((a1 - b1 - c1) / 18446744073709551616) ∧ c3 = -((a2 - b2 - c2) / 18446744073709551616) ∧
      f59 a0 a1 a2 a3 b0 b1 b2 b3 = some ((a0 - b0 - 0) % 18446744073709551616, (a1 - b1 - c1) % 18446744073709551616, (a2 - b2 - c2) % 18446744073709551616, (a3 - b3 - c3) % 18446744073709551616) := by
  obtain ⟨⟨p0, q0⟩, ⟨p1, q1⟩, ⟨p2, q2⟩, ⟨p3, q3⟩⟩ := ha
  obtain ⟨⟨r0, s0⟩, ⟨r1, s1⟩, ⟨r2, s2⟩, ⟨r3, s3⟩⟩ := hb
  refine ⟨_, _, _, rfl, rfl, rfl, ?_⟩
  unfold f59
  rw [lf1]
  simp only [f59_l1]
  rw [show decide ((0 : Int) < 4) = true from rfl]
  simp only [cond_true]
  rw [guardF_pos (by decide), pick0, show IntKind.i64.wrap ((0 : Int) + 1) = 1 from rfl, borrow_step a0 b0 0 p0 q0 r0 s0 (by omega) (by omega) (fun c v => loopF _ 18446744073709551615 (c, 1, v, 0, 0, 0)), lf2]
  simp only [f59_l1]
  rw [show decide ((1 : Int) < 4) = true from rfl]
  simp only [cond_true]
  rw [guardF_pos (by decide), pick1, show IntKind.i64.wrap ((1 : Int) + 1) = 2 from rfl, borrow_step a1 b1 _ p1 q1 r1 s1 (by omega) (by omega) (fun c v => loopF _ 18446744073709551614 (c, 2, _, v, 0, 0)), lf3]
  simp only [f59_l1]
  rw [show decide ((2 : Int) < 4) = true from rfl]
  simp only [cond_true]
  rw [guardF_pos (by decide), pick2, show IntKind.i64.wrap ((2 : Int) + 1) = 3 from rfl, borrow_step a2 b2 _ p2 q2 r2 s2 (by omega) (by omega) (fun c v => loopF _ 18446744073709551613 (c, 3, _, _, v, 0)), lf4]
  simp only [f59_l1]
  rw [show decide ((3 : Int) < 4) = true from rfl]
  simp only [cond_true]
  rw [guardF_pos (by decide), pick3, show IntKind.i64.wrap ((3 : Int) + 1) = 4 from rfl, borrow_step a3 b3 _ p3 q3 r3 s3 (by omega) (by omega) (fun c v => loopF _ 18446744073709551612 (c, 4, _, _, _, v)), lf5]
  simp only [f59_l1]
  rw [show decide ((4 : Int) < 4) = false from rfl]
  rfl

theorem minus_ok (A B : Int) : f59 (W0 A) (W1 A) (W2 A) (W3 A) (W0 B) (W1 B) (W2 B) (W3 B) = some (W0 (A - B), W1 (A - B), W2 (A - B), W3 (A - B)) := by
  obtain ⟨c1, c2, c3, h1, h2, h3, e⟩ := minus_w _ _ _ _ _ _ _ _ (W_range A) (W_range B)
  rw [e]
  have d1 : (A - B) / 18446744073709551616 = A / 18446744073709551616 - B / 18446744073709551616 - c1 := by
    rw [h1]; have := md A B 0; rwa [Int.sub_zero] at this
  have d2 : (A - B) / 18446744073709551616 / 18446744073709551616 = A / 18446744073709551616 / 18446744073709551616 - B / 18446744073709551616 / 18446744073709551616 - c2 := by
    rw [d1, md, h2]; rfl
  have d3 : (A - B) / 18446744073709551616 / 18446744073709551616 / 18446744073709551616 = A / 18446744073709551616 / 18446744073709551616 / 18446744073709551616 - B / 18446744073709551616 / 18446744073709551616 / 18446744073709551616 - c3 := by
    rw [d2, md, h3]; rfl
  have e0 : (W0 A - W0 B - 0) % 18446744073709551616 = W0 (A - B) := by
    have := mm A B 0; rw [Int.sub_zero] at this ⊢; rw [Int.sub_zero] at this; exact this
  have e1 : (W1 A - W1 B - c1) % 18446744073709551616 = W1 (A - B) := by
    unfold W1; rw [d1]; exact mm _ _ _
  have e2 : (W2 A - W2 B - c2) % 18446744073709551616 = W2 (A - B) := by
    unfold W2; rw [d2]; exact mm _ _ _
  have e3 : (W3 A - W3 B - c3) % 18446744073709551616 = W3 (A - B) := by
    unfold W3; rw [d3]; exact mm _ _ _
  rw [e0, e1, e2, e3]

theorem less_w (a0 a1 a2 a3 b0 b1 b2 b3 : Int) : f58 a0 a1 a2 a3 b0 b1 b2 b3 = some (decide (a3 < b3 ∨ (a3 = b3 ∧ (a2 < b2 ∨ (a2 = b2 ∧ (a1 < b1 ∨ (a1 = b1 ∧ a0 < b0))))))) := by
  have s3 : ∀ go, f58_l1 a0 a1 a2 a3 b0 b1 b2 b3 go 3 = if a3 = b3 then go (2) else some (Sum.inl (decide (a3 < b3))) := fun go => by
    unfold f58_l1
    rw [show decide ((3 : Int) ≥ 0) = true from rfl]
    simp only [cond_true]
    rw [guardF_pos (by decide), pick3, show IntKind.i64.wrap ((3 : Int) - 1) = 2 from rfl]
    by_cases h : a3 = b3
    · rw [show (a3 != b3) = false by simpa using h, if_pos h]; rfl
    · rw [show (a3 != b3) = true by simpa using h, if_neg h]; rfl
  have s2 : ∀ go, f58_l1 a0 a1 a2 a3 b0 b1 b2 b3 go 2 = if a2 = b2 then go (1) else some (Sum.inl (decide (a2 < b2))) := fun go => by
    unfold f58_l1
    rw [show decide ((2 : Int) ≥ 0) = true from rfl]
    simp only [cond_true]
    rw [guardF_pos (by decide), pick2, show IntKind.i64.wrap ((2 : Int) - 1) = 1 from rfl]
    by_cases h : a2 = b2
    · rw [show (a2 != b2) = false by simpa using h, if_pos h]; rfl
    · rw [show (a2 != b2) = true by simpa using h, if_neg h]; rfl
  have s1 : ∀ go, f58_l1 a0 a1 a2 a3 b0 b1 b2 b3 go 1 = if a1 = b1 then go (0) else some (Sum.inl (decide (a1 < b1))) := fun go => by
    unfold f58_l1
    rw [show decide ((1 : Int) ≥ 0) = true from rfl]
    simp only [cond_true]
    rw [guardF_pos (by decide), pick1, show IntKind.i64.wrap ((1 : Int) - 1) = 0 from rfl]
    by_cases h : a1 = b1
    · rw [show (a1 != b1) = false by simpa using h, if_pos h]; rfl
    · rw [show (a1 != b1) = true by simpa using h, if_neg h]; rfl
  have s0 : ∀ go, f58_l1 a0 a1 a2 a3 b0 b1 b2 b3 go 0 = if a0 = b0 then go (-1) else some (Sum.inl (decide (a0 < b0))) := fun go => by
    unfold f58_l1
    rw [show decide ((0 : Int) ≥ 0) = true from rfl]
    simp only [cond_true]
    rw [guardF_pos (by decide), pick0, show IntKind.i64.wrap ((0 : Int) - 1) = -1 from rfl]
    by_cases h : a0 = b0
    · rw [show (a0 != b0) = false by simpa using h, if_pos h]; rfl
    · rw [show (a0 != b0) = true by simpa using h, if_neg h]; rfl
  have s4 : ∀ go, f58_l1 a0 a1 a2 a3 b0 b1 b2 b3 go (-1) = some (Sum.inr ()) := fun go => by
    unfold f58_l1
    rw [show decide ((-1 : Int) ≥ 0) = false from rfl]
    rfl
  have hl : loopF (fun go x => f58_l1 a0 a1 a2 a3 b0 b1 b2 b3 go x) fuelN 3 = if a3 = b3 then (if a2 = b2 then (if a1 = b1 then (if a0 = b0 then some (Sum.inr ()) else some (Sum.inl (decide (a0 < b0)))) else some (Sum.inl (decide (a1 < b1)))) else some (Sum.inl (decide (a2 < b2)))) else some (Sum.inl (decide (a3 < b3))) := by
    rw [lf1, s3, lf2, s2, lf3, s1, lf4, s0, lf5, s4]
  unfold f58
  rw [hl]
  by_cases h3 : a3 = b3
  · by_cases h2 : a2 = b2
    · by_cases h1 : a1 = b1
      · by_cases h0 : a0 = b0
        · rw [if_pos h3, if_pos h2, if_pos h1, if_pos h0]
          simp only [bindF_some, sumF_inr, Option.some.injEq]
          simp [h0, h1, h2, h3]
        · rw [if_pos h3, if_pos h2, if_pos h1, if_neg h0]
          simp only [bindF_some, sumF_inl, Option.some.injEq]
          simp [h1, h2, h3]
      · rw [if_pos h3, if_pos h2, if_neg h1]
        simp only [bindF_some, sumF_inl, Option.some.injEq]
        simp [h1, h2, h3]
    · rw [if_pos h3, if_neg h2]
      simp only [bindF_some, sumF_inl, Option.some.injEq]
      simp [h2, h3]
  · rw [if_neg h3]
    simp only [bindF_some, sumF_inl, Option.some.injEq]
    simp [h3]

/-- No more than four words. -/
def four (A : Int) : Prop := 0 ≤ A / 18446744073709551616 / 18446744073709551616 / 18446744073709551616 ∧ A / 18446744073709551616 / 18446744073709551616 / 18446744073709551616 < 18446744073709551616
theorem four_of {A : Int} (h0 : 0 ≤ A) (h1 : A ≤ 1000000000000000000000000000000000000000000000) : four A := by
  have h2 : 0 ≤ A / 18446744073709551616 := by omega
  have h3 : A / 18446744073709551616 ≤ 100000000000000000000000000 := by omega
  generalize A / 18446744073709551616 = s at *
  have h4 : 0 ≤ s / 18446744073709551616 := by omega
  have h5 : s / 18446744073709551616 ≤ 100000000 := by omega
  unfold four
  generalize hs : s / 18446744073709551616 = t at *
  omega
theorem less_ok (A B : Int) (ha : four A) (hb : four B) : f58 (W0 A) (W1 A) (W2 A) (W3 A) (W0 B) (W1 B) (W2 B) (W3 B) = some (decide (A < B)) := by
  rw [less_w]
  congr 1
  rw [decide_eq_decide]
  unfold four at ha hb
  rw [lt_digit A B, lt_digit (A / 18446744073709551616) (B / 18446744073709551616), lt_digit (A / 18446744073709551616 / 18446744073709551616) (B / 18446744073709551616 / 18446744073709551616)]
  unfold W0 W1 W2 W3
  generalize ha3 : A / 18446744073709551616 / 18446744073709551616 / 18446744073709551616 = a3 at *
  generalize hb3 : B / 18446744073709551616 / 18446744073709551616 / 18446744073709551616 = b3 at *
  rw [show a3 % 18446744073709551616 = a3 by omega, show b3 % 18446744073709551616 = b3 by omega]
  have k2 : a3 = b3 → (A / 18446744073709551616 / 18446744073709551616 = B / 18446744073709551616 / 18446744073709551616 ↔ A / 18446744073709551616 / 18446744073709551616 % 18446744073709551616 = B / 18446744073709551616 / 18446744073709551616 % 18446744073709551616) := fun h => by
    subst ha3; rw [← hb3] at h
    generalize A / 18446744073709551616 / 18446744073709551616 = s at *
    generalize B / 18446744073709551616 / 18446744073709551616 = t at *
    omega
  have k1 : A / 18446744073709551616 / 18446744073709551616 = B / 18446744073709551616 / 18446744073709551616 → (A / 18446744073709551616 = B / 18446744073709551616 ↔ A / 18446744073709551616 % 18446744073709551616 = B / 18446744073709551616 % 18446744073709551616) := fun h => by
    generalize A / 18446744073709551616 = s at *
    generalize B / 18446744073709551616 = t at *
    omega
  have k0 : A / 18446744073709551616 / 18446744073709551616 = B / 18446744073709551616 / 18446744073709551616 → a3 = b3 := fun h => by rw [← ha3, ← hb3, h]
  have k00 : A / 18446744073709551616 = B / 18446744073709551616 → A / 18446744073709551616 / 18446744073709551616 = B / 18446744073709551616 / 18446744073709551616 := fun h => by rw [h]
  generalize A / 18446744073709551616 / 18446744073709551616 % 18446744073709551616 = x2 at *
  generalize B / 18446744073709551616 / 18446744073709551616 % 18446744073709551616 = y2 at *
  generalize A / 18446744073709551616 % 18446744073709551616 = x1 at *
  generalize B / 18446744073709551616 % 18446744073709551616 = y1 at *
  generalize (A % 18446744073709551616 < B % 18446744073709551616) = p0 at *
  generalize A / 18446744073709551616 / 18446744073709551616 = x22 at *
  generalize B / 18446744073709551616 / 18446744073709551616 = y22 at *
  generalize A / 18446744073709551616 = x11 at *
  generalize B / 18446744073709551616 = y11 at *
  constructor
  · rintro (h | ⟨rfl, h | ⟨rfl, h | ⟨rfl, h⟩⟩⟩)
    · exact .inl (.inl (.inl h))
    · exact .inl (.inl (.inr ⟨rfl, h⟩))
    · exact .inl (.inr ⟨(k2 rfl).2 rfl, h⟩)
    · exact .inr ⟨(k1 ((k2 rfl).2 rfl)).2 rfl, h⟩
  · rintro (((h | ⟨h', h⟩) | ⟨h', h⟩) | ⟨h', h⟩)
    · exact .inl h
    · exact .inr ⟨h', .inl h⟩
    · exact .inr ⟨k0 h', .inr ⟨(k2 (k0 h')).1 h', .inl h⟩⟩
    · have h2 := k00 h'
      exact .inr ⟨k0 h2, .inr ⟨(k2 (k0 h2)).1 h2, .inr ⟨(k1 h2).1 h', h⟩⟩⟩

theorem small (n : Int) (h0 : 0 ≤ n) (h1 : n < 18446744073709551616) : W0 n = n ∧ W1 n = 0 ∧ W2 n = 0 ∧ W3 n = 0 := by
  have e : n / 18446744073709551616 = 0 := by omega
  refine ⟨by unfold W0; omega, by unfold W1; rw [e]; rfl, by unfold W2; rw [e]; rfl, by unfold W3; rw [e]; rfl⟩
theorem two (s p : Int) (h0 : 0 ≤ s) (h1 : s < 18446744073709551616) (g0 : 0 ≤ p) (g1 : p < 18446744073709551616) : W0 (s + 18446744073709551616 * p) = s ∧ W1 (s + 18446744073709551616 * p) = p ∧ W2 (s + 18446744073709551616 * p) = 0 ∧ W3 (s + 18446744073709551616 * p) = 0 := by
  have e : (s + 18446744073709551616 * p) / 18446744073709551616 = p := by omega
  obtain ⟨k0, k1, k2, k3⟩ := small p g0 g1
  refine ⟨by unfold W0; omega, ?_, ?_, ?_⟩
  · rw [W1_eq, e]; exact k0
  · rw [W2_eq, e]; exact k1
  · rw [W3_eq, e]; exact k2

theorem signed_ok (s t : Bool) (A B : Int) (a0 : 0 ≤ A) (a1 : A ≤ 100000000000000000000000000000000000000000000) (b0 : 0 ≤ B) (b1 : B ≤ 100000000000000000000000000000000000000000000) :
    ∃ (u : Bool) (C : Int), f28 s (W0 A) (W1 A) (W2 A) (W3 A) t (W0 B) (W1 B) (W2 B) (W3 B) = some (u, W0 C, W1 C, W2 C, W3 C) ∧ 0 ≤ C ∧ C ≤ A + B ∧ (if u then -C else C) = (if s then -A else A) + (if t then -B else B) := by
  unfold f28
  by_cases h : s = t
  · subst h
    rw [show (s == s) = true by simp]
    simp only [cond_true]
    rw [plus_ok]
    refine ⟨s, A + B, rfl, by omega, by omega, ?_⟩
    cases s
    · rfl
    · simp only [if_true]; omega
  · rw [show (s == t) = false by simpa using h, less_ok A B (four_of a0 (by omega)) (four_of b0 (by omega))]
    simp only [cond_false, bindF_some]
    by_cases hl : A < B
    · rw [show decide (A < B) = true by simpa using hl]
      simp only [cond_true]
      rw [minus_ok]
      refine ⟨t, B - A, rfl, by omega, by omega, ?_⟩
      cases s <;> cases t <;> simp at h ⊢ <;> omega
    · rw [show decide (A < B) = false by simpa using hl]
      simp only [cond_false]
      rw [minus_ok]
      refine ⟨s, A - B, rfl, by omega, by omega, ?_⟩
      cases s <;> cases t <;> simp at h ⊢ <;> omega

end Go.Proofs.PlJ
