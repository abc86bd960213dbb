import Derived.Test.YtdnlicefpmiljaaGreatDoorModelCountsF7
import Derived.Test.YtdnlicefpmiljaaGreatDoorAmY
set_option linter.unusedVariables false
set_option linter.unusedSimpArgs false
set_option maxRecDepth 100000
set_option linter.unusedSectionVars false
set_option maxRecDepth 1000000

namespace Go.AM
theorem bindF_some {X Y : Type} (x : X) (f : X → Option Y) : bindF (some x) f = f x := rfl
theorem sumF_inl {A B Y : Type} (a : A) (f : A → Option Y) (g : B → Option Y) : sumF (.inl a) f g = f a := rfl
theorem sumF_inr {A B Y : Type} (b : B) (f : A → Option Y) (g : B → Option Y) : sumF (.inr b) f g = g b := rfl
theorem guardF_pos {Y : Type} {p : Prop} [Decidable p] {r : Option Y} (h : p) : guardF p r = r := if_pos h
theorem loopF_succ {X Z : Type} (B : (X → Option Z) → X → Option Z) (n : Nat) (x : X) : loopF B (n + 1) x = B (loopF B n) x := rfl
theorem loop_inv {X Z : Type} {B : (X → Option Z) → X → Option Z} (I : X → Prop) (μ : X → Nat) (Q : Z → Prop)
  (h : ∀ x, I x → (∃ z, (∀ go, B go x = some z) ∧ Q z) ∨ (∃ y, (∀ go, B go x = go y) ∧ I y ∧ μ y < μ x)) :
  ∀ (n : Nat) (x : X), I x → μ x < n → ∃ z, loopF B n x = some z ∧ Q z
 | 0, x, _, hm => absurd hm (Nat.not_lt_zero _)
 | n + 1, x, hi, hm => by
  rw [loopF_succ]
  rcases h x hi with ⟨z, h1, h2⟩ | ⟨y, h1, h2, h3⟩
  ·exact ⟨z, h1 _, h2⟩
  ·rw [h1]; exact loop_inv I μ Q h n y h2 (by omega)
theorem loop_fuel {X Z : Type} {B : (X → Option Z) → X → Option Z} (I : X → Prop) (μ : X → Nat) (Q : Z → Prop)
  (h : ∀ x, I x → (∃ z, (∀ go, B go x = some z) ∧ Q z) ∨ (∃ y, (∀ go, B go x = go y) ∧ I y ∧ μ y < μ x)) (x : X) (hi : I x) (hm : μ x < 18446744073709551616) :
  ∃ z, loopF B fuelN x = some z ∧ Q z := loop_inv I μ Q h fuelN x hi hm
theorem wrap_i64 {n : Int} (h1 : -9223372036854775808 ≤ n) (h2 : n < 9223372036854775808) : IntKind.i64.wrap n = n := by
 simp only [IntKind.wrap, IntKind.signed, IntKind.bits]
 have : n % 2 ^ 64 = if 0 ≤ n then n else n + 18446744073709551616 := by
  split <;> omega
 simp only [this]
 split <;> split <;> simp_all <;> omega
theorem rd_nat {α : Type} (z : α) (xs : List α) (i : Nat) (h : i < xs.length) : rd z xs (i : Int) = xs[i] := by
 simp [rd, h]
end Go.AM
namespace Go.Proofs.PlB
open Go.AM
theorem clone_d (d : List Int) (h : d.length ≤ 17592186044416) : f61 d = some d := by
 unfold f61 nilF
 cases d with
 | nil => rfl
 | cons x r =>
  simp only
  rw [guardF_pos (by simp at h ⊢; omega)]
  rfl
def pgo : Int → List Int → Int
 | n, [] => n
 | n, x :: r => if x < 1 ∨ x > 4096 ∨ n * x > 4096 then 0 else pgo (n * x) r
def prd (d : List Int) : Int := if d.length > 4 then 0 else pgo 1 d
theorem drop_cons {α : Type} (d : List α) (k : Nat) (h : k < d.length) : d.drop k = d[k] :: d.drop (k + 1) := by
 rw [List.drop_eq_getElem_cons h]
theorem product_ok (d : List Int) : f89 d = some (prd d) := by
 unfold f89 prd
 by_cases h4 : d.length > 4
 ·rw [show decide ((List.length d : Int) > 4) = true by simp; omega, if_pos h4]; rfl
 ·rw [show decide ((List.length d : Int) > 4) = false by simp; omega, if_neg h4]
  simp only [cond_false]
  have H : ∀ x : Int × Int, (∃ k : Nat, x.2 = (k : Int) ∧ k ≤ d.length ∧ 1 ≤ x.1 ∧ x.1 ≤ 4096 ∧ pgo x.1 (d.drop k) = pgo 1 d) →
    (∃ z, (∀ go, f89_l3 d go x.1 x.2 = some z) ∧ ((z = Sum.inl () ∧ pgo 1 d = 0) ∨ z = Sum.inr (pgo 1 d))) ∨
    (∃ y : Int × Int, (∀ go, f89_l3 d go x.1 x.2 = go y) ∧ (∃ k : Nat, y.2 = (k : Int) ∧ k ≤ d.length ∧ 1 ≤ y.1 ∧ y.1 ≤ 4096 ∧ pgo y.1 (d.drop k) = pgo 1 d) ∧ ((d.length : Int) - y.2).toNat < ((d.length : Int) - x.2).toNat) := by
   rintro ⟨n, _⟩ ⟨k, rfl, hk, hn1, hn2, hp⟩
   simp only at hn1 hn2 hp ⊢
   by_cases hlt : k < d.length
   ·rw [drop_cons d k hlt] at hp
    simp only [pgo] at hp
    have hrd : rd (0 : Int) d (k : Int) = d[k] := rd_nat _ _ _ hlt
    by_cases c1 : d[k] < 1
    ·left
     rw [if_pos (.inl c1)] at hp
     refine ⟨Sum.inl (), fun go => ?_, .inl ⟨rfl, hp.symm⟩⟩
     simp only [f89_l3, f89_j4, hrd]
     rw [show decide ((k : Int) < (d.length : Int)) = true by simpa using hlt, show decide (d[k] < (1 : Int)) = true by simpa using c1]
     simp only [cond_true]
     rw [guardF_pos (by omega)]
     rfl
    ·by_cases c2 : d[k] > 4096
     ·left
      rw [if_pos (.inr (.inl c2))] at hp
      refine ⟨Sum.inl (), fun go => ?_, .inl ⟨rfl, hp.symm⟩⟩
      simp only [f89_l3, f89_j4, hrd]
      rw [show decide ((k : Int) < (d.length : Int)) = true by simpa using hlt, show decide (d[k] < (1 : Int)) = false by simpa using c1, show decide (d[k] > (4096 : Int)) = true by simpa using c2]
      simp only [cond_true, cond_false]
      rw [guardF_pos (by omega)]
      rfl
     ·have hb1 : n * d[k] ≤ 4096 * 4096 := Int.mul_le_mul hn2 (by omega) (by omega) (by omega)
      have hb0 : 1 * 1 ≤ n * d[k] := Int.mul_le_mul hn1 (by omega) (by omega) (by omega)
      have hw : IntKind.i64.wrap (n * d[k]) = n * d[k] := wrap_i64 (by omega) (by omega)
      by_cases c3 : n * d[k] > 4096
      ·left
       rw [if_pos (.inr (.inr c3))] at hp
       refine ⟨Sum.inl (), fun go => ?_, .inl ⟨rfl, hp.symm⟩⟩
       simp only [f89_l3, f89_j4, hrd, hw]
       rw [show decide ((k : Int) < (d.length : Int)) = true by simpa using hlt, show decide (d[k] < (1 : Int)) = false by simpa using c1, show decide (d[k] > (4096 : Int)) = false by simpa using c2, show decide (n * d[k] > (4096 : Int)) = true by simpa using c3]
       simp only [cond_true, cond_false]
       rw [guardF_pos (by omega)]
       rfl
      ·right
       rw [if_neg (by omega)] at hp
       refine ⟨(n * d[k], ((k + 1 : Nat) : Int)), fun go => ?_, ⟨k + 1, rfl, hlt, by simp only; omega, by simp only; omega, hp⟩, by simp only; omega⟩
       simp only [f89_l3, f89_j4, hrd, hw]
       rw [show decide ((k : Int) < (d.length : Int)) = true by simpa using hlt, show decide (d[k] < (1 : Int)) = false by simpa using c1, show decide (d[k] > (4096 : Int)) = false by simpa using c2, show decide (n * d[k] > (4096 : Int)) = false by simpa using c3]
       simp only [cond_true, cond_false]
       rw [guardF_pos (by omega), wrap_i64 (by omega) (by omega)]
       rfl
   ·left
    have : k = d.length := by omega
    subst this
    simp only [List.drop_length, pgo] at hp
    refine ⟨Sum.inr n, fun go => ?_, .inr (by rw [hp])⟩
    simp only [f89_l3]
    rw [show decide ((d.length : Int) < (d.length : Int)) = false by simp]
    rfl
  obtain ⟨z, e, hz⟩ := loop_fuel (B := fun go (x : Int × Int) => f89_l3 d go x.1 x.2) _ (fun x => ((d.length : Int) - x.2).toNat) _ H ((1 : Int), (0 : Int)) ⟨0, rfl, Nat.zero_le _, by decide, by decide, rfl⟩ (by simp; omega)
  rw [e]
  simp only [bindF_some]
  rcases hz with ⟨rfl, h0⟩ | rfl
  ·simp only [sumF_inl, h0]
  ·simp only [sumF_inr]
theorem shapeGood_ok (d : List Int) : f65 d = some (decide (prd d > 0)) := by
 unfold f65
 simp only [product_ok, bindF_some]
theorem size_ok (d : List Int) : f117 d = some (prd d) := by
 unfold f117
 simp only [product_ok, bindF_some]
def tgood (t : List Int × List Int) : Bool := decide (prd t.1 > 0) && ((t.2.length : Int) == prd t.1)
theorem good_ok (t : List Int × List Int) : f91 t = some (tgood t) := by
 unfold f91 tgood
 simp only [shapeGood_ok, size_ok, bindF_some]
 cases decide (prd t.1 > 0) <;> rfl
end Go.Proofs.PlB
namespace Go.Proofs.PlW
open Go.AM
theorem wu (n : Int) : IntKind.u64.wrap n = n % 18446744073709551616 := by
 simp [IntKind.wrap, IntKind.signed, IntKind.bits]
theorem wi (n : Int) : IntKind.i64.wrap n = if n % 18446744073709551616 ≥ 9223372036854775808 then n % 18446744073709551616 - 18446744073709551616 else n % 18446744073709551616 := by
 simp [IntKind.wrap, IntKind.signed, IntKind.bits]
theorem wi_mod (n : Int) : IntKind.i64.wrap (n % 18446744073709551616) = IntKind.i64.wrap n := by
 rw [wi, wi, Int.emod_emod_of_dvd _ (Int.dvd_refl _)]
theorem sh32u (x : Int) : Int.fdiv x (2 ^ min (Int.toNat (32 : Int)) (IntKind.bits IntKind.u64)) = x / 4294967296 := by
 rw [show ((2 : Int) ^ min (Int.toNat (32 : Int)) (IntKind.bits IntKind.u64)) = 4294967296 from rfl]
 exact Int.fdiv_eq_ediv_of_nonneg _ (by decide)
theorem sh63i (x : Int) : Int.fdiv x (2 ^ min (Int.toNat (63 : Int)) (IntKind.bits IntKind.i64)) = x / 9223372036854775808 := by
 rw [show ((2 : Int) ^ min (Int.toNat (63 : Int)) (IntKind.bits IntKind.i64)) = 9223372036854775808 from rfl]
 exact Int.fdiv_eq_ediv_of_nonneg _ (by decide)
theorem bits_nat (f : BitVec 64 → BitVec 64 → BitVec 64) (a b : Int) : bitsOf IntKind.u64 f a b = ((f (BitVec.ofInt 64 a) (BitVec.ofInt 64 b)).toNat : Int) := by
 have h : bitsOf IntKind.u64 f a b = IntKind.u64.wrap (((f (BitVec.ofInt 64 a) (BitVec.ofInt 64 b)).toNat : Nat) : Int) := rfl
 rw [h, wu]
 have := (f (BitVec.ofInt 64 a) (BitVec.ofInt 64 b)).isLt
 omega
theorem ofInt_nat (a : Int) (h0 : 0 ≤ a) (h1 : a < 18446744073709551616) : (BitVec.ofInt 64 a).toNat = a.toNat := by
 rw [BitVec.toNat_ofInt]
 have : a % ((2 ^ 64 : Nat) : Int) = a := Int.emod_eq_of_lt h0 (by simpa using h1)
 rw [this]
theorem and_nat (a b : Int) (h0 : 0 ≤ a) (h1 : a < 18446744073709551616) (g0 : 0 ≤ b) (g1 : b < 18446744073709551616) :
  bitsOf IntKind.u64 (fun p q => p &&& q) a b = ((a.toNat &&& b.toNat : Nat) : Int) := by
 refine (bits_nat (fun p q => p &&& q) a b).trans ?_
 rw [BitVec.toNat_and, ofInt_nat a h0 h1, ofInt_nat b g0 g1]
theorem and32 (x : Int) (h0 : 0 ≤ x) (h1 : x < 18446744073709551616) : bitsOf IntKind.u64 (fun p q => p &&& q) x 4294967295 = x % 4294967296 := by
 rw [and_nat x _ h0 h1 (by decide) (by decide)]
 have := Nat.and_two_pow_sub_one_eq_mod x.toNat 32
 rw [show (4294967295 : Int).toNat = 2 ^ 32 - 1 from rfl, this]
 omega
theorem add_ok (x y c : Int) (h0 : 0 ≤ x) (h1 : 0 ≤ y) (h2 : 0 ≤ c) (h3 : c ≤ 1) : add64 x y c = some ((x + y + c) % 18446744073709551616, (x + y + c) / 18446744073709551616) := by
 unfold add64
 rw [show Nat.ble c.toNat 1 = true by rw [Nat.ble_eq]; omega]
 simp only [Option.some.injEq, Prod.mk.injEq, Int.ofNat_eq_natCast]
 constructor <;> omega
theorem sub_ok (x y c : Int) (h0 : 0 ≤ x) (h0' : x < 18446744073709551616) (h1 : 0 ≤ y) (h1' : y < 18446744073709551616) (h2 : 0 ≤ c) (h3 : c ≤ 1) :
  sub64 x y c = some ((x - y - c) % 18446744073709551616, if x < y + c then 1 else 0) := by
 unfold sub64
 rw [show Nat.ble c.toNat 1 = true by rw [Nat.ble_eq]; omega]
 simp only [Option.some.injEq, Prod.mk.injEq, Int.ofNat_eq_natCast]
 constructor
 ·omega
 ·by_cases h : x < y + c
  ·rw [if_pos h, if_pos (by omega)]
  ·rw [if_neg h, if_neg (by omega)]
theorem size_ok (v : Int) (h0 : -9223372036854775808 ≤ v) (h1 : v < 9223372036854775808) : f210 v = some (if v < 0 then -v else v) := by
 unfold f210
 by_cases h : v < 0
 ·rw [show decide (v < 0) = true by simpa using h, if_pos h]
  simp only [cond_true, wu, Option.some.injEq]
  omega
 ·rw [show decide (v < 0) = false by simpa using h, if_neg h]
  simp only [cond_false, wu, Option.some.injEq]
  omega
theorem mul_bound (a b : Int) (h0 : 0 ≤ a) (h1 : a ≤ 4294967295) (g0 : 0 ≤ b) (g1 : b ≤ 4294967295) : 0 ≤ a * b ∧ a * b ≤ 18446744065119617025 :=
 ⟨Int.mul_nonneg h0 g0, Int.mul_le_mul h1 g1 g0 (by decide)⟩
theorem mul64_ok (x y : Int) (h0 : 0 ≤ x) (h1 : x < 18446744073709551616) (g0 : 0 ≤ y) (g1 : y < 18446744073709551616) :
  f197 x y = some (x * y / 18446744073709551616, x * y % 18446744073709551616) := by
 unfold f197
 have x1 := Int.mul_ediv_add_emod x 4294967296
 have y1 := Int.mul_ediv_add_emod y 4294967296
 simp only [sh32u, and32 x h0 h1, and32 y g0 g1, wu]
 rw [and32 _ (by omega) (by omega)]
 generalize hx1 : x / 4294967296 = a at *
 generalize hx0 : x % 4294967296 = b at *
 generalize hy1 : y / 4294967296 = c at *
 generalize hy0 : y % 4294967296 = d at *
 obtain ⟨p0, p1⟩ := mul_bound a c (by omega) (by omega) (by omega) (by omega)
 obtain ⟨q0, q1⟩ := mul_bound a d (by omega) (by omega) (by omega) (by omega)
 obtain ⟨r0, r1⟩ := mul_bound b c (by omega) (by omega) (by omega) (by omega)
 obtain ⟨s0, s1⟩ := mul_bound b d (by omega) (by omega) (by omega) (by omega)
 have hxy : x * y = 18446744073709551616 * (a * c) + 4294967296 * (a * d) + 4294967296 * (b * c) + b * d := by
  rw [← x1, ← y1, Int.add_mul, Int.mul_add, Int.mul_add]
  have e1 : 4294967296 * a * (4294967296 * c) = 18446744073709551616 * (a * c) := by
   rw [show (18446744073709551616 : Int) = 4294967296 * 4294967296 from rfl]; ac_rfl
  have e2 : 4294967296 * a * d = 4294967296 * (a * d) := Int.mul_assoc _ _ _
  have e3 : b * (4294967296 * c) = 4294967296 * (b * c) := Int.mul_left_comm _ _ _
  rw [e1, e2, e3]; omega
 rw [hxy]
 generalize a * c = P at *
 generalize a * d = Q at *
 generalize b * c = R at *
 generalize b * d = S at *
 have w0 : ∀ n : Int, 0 ≤ n → n < 18446744073709551616 → n % 18446744073709551616 = n := fun n h0 h1 => Int.emod_eq_of_lt h0 h1
 rw [w0 P (by omega) (by omega), w0 Q (by omega) (by omega), w0 R (by omega) (by omega), w0 S (by omega) (by omega)]
 rw [w0 (Q + S / 4294967296) (by omega) (by omega)]
 rw [w0 ((Q + S / 4294967296) % 4294967296 + R) (by omega) (by omega)]
 rw [w0 (P + (Q + S / 4294967296) / 4294967296) (by omega) (by omega)]
 rw [w0 (P + (Q + S / 4294967296) / 4294967296 + ((Q + S / 4294967296) % 4294967296 + R) / 4294967296) (by omega) (by omega)]
 have hh : (18446744073709551616 * P + 4294967296 * Q + 4294967296 * R + S) / 18446744073709551616 = P + (Q + S / 4294967296) / 4294967296 + ((Q + S / 4294967296) % 4294967296 + R) / 4294967296 := by omega
 rw [hh]
theorem prod_ok (a b : Int) (a0 : -9223372036854775808 ≤ a) (a1 : a < 9223372036854775808) (b0 : -9223372036854775808 ≤ b) (b1 : b < 9223372036854775808) :
  f202 a b = some (a * b / 18446744073709551616, a * b % 18446744073709551616) := by
 unfold f202
 rw [size_ok a a0 a1, size_ok b b0 b1]
 simp only [bindF_some]
 have key : ∀ x y : Int, 0 ≤ x → x ≤ 9223372036854775808 → 0 ≤ y → y ≤ 9223372036854775808 → 0 ≤ x * y ∧ x * y ≤ 85070591730234615865843651857942052864 := fun x y h0 h1 g0 g1 => ⟨Int.mul_nonneg h0 g0, Int.mul_le_mul h1 g1 g0 (by decide)⟩
 have pos : ∀ q : Int, 0 ≤ q → q ≤ 85070591730234615865843651857942052864 → IntKind.i64.wrap (q / 18446744073709551616) = q / 18446744073709551616 := fun q h0 h1 => wrap_i64 (by omega) (by omega)
 have neg : ∀ q : Int, 0 ≤ q → q ≤ 85070591730234615865843651857942052864 → f212 (q / 18446744073709551616, q % 18446744073709551616) = some (-q / 18446744073709551616, -q % 18446744073709551616) := fun q h0 h1 => by
  unfold f212 f227
  simp only
  rw [sub_ok _ _ _ (by omega) (by omega) (by omega) (by omega) (by omega) (by omega)]
  simp only [bindF_some, wu]
  rw [sub_ok _ _ _ (by omega) (by omega) (by omega) (by omega) (by split <;> omega) (by split <;> omega)]
  simp only [bindF_some, Option.some.injEq, Prod.mk.injEq]
  constructor
  ·rw [wi]; split <;> split <;> omega
  ·omega
 by_cases ha : a < 0 <;> by_cases hb : b < 0
 ·rw [show (decide (a < 0) == decide (b < 0)) = true by simp [ha, hb], if_pos ha, if_pos hb]
  obtain ⟨k0, k1⟩ := key (-a) (-b) (by omega) (by omega) (by omega) (by omega)
  rw [mul64_ok _ _ (by omega) (by omega) (by omega) (by omega)]
  simp only [bindF_some, Bool.not_true, cond_false]
  rw [Int.neg_mul_neg] at *
  rw [pos _ k0 k1]
 ·rw [show (decide (a < 0) == decide (b < 0)) = false by simp [ha, hb], if_pos ha, if_neg hb]
  obtain ⟨k0, k1⟩ := key (-a) b (by omega) (by omega) (by omega) (by omega)
  rw [mul64_ok _ _ (by omega) (by omega) (by omega) (by omega)]
  simp only [bindF_some, Bool.not_false, cond_true]
  rw [pos _ k0 k1, neg _ k0 k1]
  simp only [bindF_some, Int.neg_mul, Int.neg_neg]
 ·rw [show (decide (a < 0) == decide (b < 0)) = false by simp [ha, hb], if_neg ha, if_pos hb]
  obtain ⟨k0, k1⟩ := key a (-b) (by omega) (by omega) (by omega) (by omega)
  rw [mul64_ok _ _ (by omega) (by omega) (by omega) (by omega)]
  simp only [bindF_some, Bool.not_false, cond_true]
  rw [pos _ k0 k1, neg _ k0 k1]
  simp only [bindF_some, Int.mul_neg, Int.neg_neg]
 ·rw [show (decide (a < 0) == decide (b < 0)) = true by simp [ha, hb], if_neg ha, if_neg hb]
  obtain ⟨k0, k1⟩ := key a b (by omega) (by omega) (by omega) (by omega)
  rw [mul64_ok _ _ (by omega) (by omega) (by omega) (by omega)]
  simp only [bindF_some, Bool.not_true, cond_false]
  rw [pos _ k0 k1]
def sat (x : Int) : Int := if x ≥ 9223372036854775808 then 9223372036854775807 else if x < -9223372036854775808 then -9223372036854775808 else x
theorem fix_ok (R : Int) (h0 : -1000000000000000000000000000000000000 ≤ R) (h1 : R ≤ 1000000000000000000000000000000000000) : f182 (R / 18446744073709551616, R % 18446744073709551616) = some (sat R) := by
 unfold f182 f182_j2 f182_j3 sat
 simp only
 by_cases c1 : R / 18446744073709551616 > 0
 ·rw [show decide (R / 18446744073709551616 > 0) = true by simpa using c1]
  simp only [cond_true, bindF_some, sumF_inr]
  rw [if_pos (by omega)]
 ·rw [show decide (R / 18446744073709551616 > 0) = false by simpa using c1]
  simp only [cond_false]
  by_cases c2 : R / 18446744073709551616 = 0
  ·rw [show (R / 18446744073709551616 == 0) = true by simpa using c2]
   simp only [cond_true, bindF_some]
   by_cases c3 : R % 18446744073709551616 ≥ 9223372036854775808
   ·rw [show decide (R % 18446744073709551616 ≥ 9223372036854775808) = true by simpa using c3]
    simp only [cond_true, bindF_some, sumF_inr]
    rw [if_pos (by omega)]
   ·rw [show decide (R % 18446744073709551616 ≥ 9223372036854775808) = false by simpa using c3]
    simp only [cond_false]
    rw [show decide (R / 18446744073709551616 < -1) = false by simp; omega, show (R / 18446744073709551616 == -1) = false by simp; omega]
    simp only [cond_false, bindF_some, sumF_inl]
    rw [if_neg (by omega), if_neg (by omega), wrap_i64 (by omega) (by omega)]
    congr 1; omega
  ·rw [show (R / 18446744073709551616 == 0) = false by simpa using c2]
   simp only [cond_false, bindF_some]
   by_cases c4 : R / 18446744073709551616 < -1
   ·rw [show decide (R / 18446744073709551616 < -1) = true by simpa using c4]
    simp only [cond_true, bindF_some, sumF_inr]
    rw [if_neg (by omega), if_pos (by omega)]
   ·rw [show decide (R / 18446744073709551616 < -1) = false by simpa using c4, show (R / 18446744073709551616 == -1) = true by simp; omega]
    simp only [cond_false, cond_true]
    by_cases c5 : R % 18446744073709551616 < 9223372036854775808
    ·rw [show decide (R % 18446744073709551616 < 9223372036854775808) = true by simpa using c5]
     simp only [cond_true, bindF_some, sumF_inr]
     rw [if_neg (by omega), if_pos (by omega)]
    ·rw [show decide (R % 18446744073709551616 < 9223372036854775808) = false by simpa using c5]
     simp only [cond_false, bindF_some, sumF_inl]
     rw [if_neg (by omega), if_neg (by omega), wi]
     congr 1
     split <;> omega
def inI (l : List Int) : Prop := ∀ x ∈ l, -9223372036854775808 ≤ x ∧ x < 9223372036854775808
end Go.Proofs.PlW
namespace Go.Proofs.PlT
open Go.AM Go.Proofs.PlB Go.Proofs.PlW
theorem pgo_range : ∀ (d : List Int) (n : Int), 0 ≤ n → n ≤ 4096 → 0 ≤ pgo n d ∧ pgo n d ≤ 4096
 | [], n, h0, h1 => ⟨h0, h1⟩
 | x :: r, n, h0, h1 => by
  simp only [pgo]
  split
  ·omega
  ·have : 0 ≤ n * x := Int.mul_nonneg h0 (by omega)
   exact pgo_range r _ this (by omega)
theorem prd_range (d : List Int) : 0 ≤ prd d ∧ prd d ≤ 4096 := by
 unfold prd
 split
 ·omega
 ·exact pgo_range d 1 (by omega) (by omega)
theorem prd_len {d : List Int} (h : 0 < prd d) : d.length ≤ 4 := by
 unfold prd at h
 split at h <;> omega
theorem over_rep (v : Int) (n c m : Nat) (h : c + m ≤ n) : over (List.replicate c v ++ List.replicate (n - c) 0) (c : Int) (List.replicate m v) = List.replicate (c + m) v ++ List.replicate (n - (c + m)) 0 := by
 unfold over
 simp only [Int.toNat_natCast, List.length_replicate]
 rw [List.take_append_of_le_length (by simp), List.take_of_length_le (by simp), List.drop_append, List.drop_of_length_le (by simp), List.nil_append, List.length_replicate, List.drop_replicate, List.replicate_append_replicate]
 congr 2
 omega
theorem repeat_ok (v : Int) (n : Nat) (h : n ≤ 4096) : f201 [v] (n : Int) = some (List.replicate n v) := by
 unfold f201
 rw [show decide ((n : Int) < 0) = false by simp]
 simp only [cond_false, f223]
 rw [mul64_ok _ _ (by rw [wu]; omega) (by rw [wu]; omega) (by rw [wu]; omega) (by rw [wu]; omega)]
 simp only [bindF_some, wu, List.length_cons, List.length_nil]
 have e1 : (((0 + 1 : Nat) : Int) % 18446744073709551616 * ((n : Int) % 18446744073709551616)) = n := by
  rw [show (((0 + 1 : Nat) : Int) % 18446744073709551616) = 1 from rfl, Int.one_mul]; omega
 rw [e1, show (n : Int) / 18446744073709551616 = 0 by omega, show (n : Int) % 18446744073709551616 = n by omega]
 have hj : f201_j1 ((0 : Int), (n : Int)) = some () := by
  unfold f201_j1
  simp only
  rw [show decide ((0 : Int) > 0) = false from rfl, show decide ((n : Int) > 9223372036854775807) = false by simp; omega]
  rfl
 rw [hj, wrap_i64 (by omega) (by omega)]
 simp only [bindF_some, Int.toNat_natCast, List.length_replicate]
 rw [guardF_pos (by omega)]
 have e2 : List.take (n - (0 : Int).toNat) [v] = List.replicate (min n 1) v := by
  cases n with
  | zero => rfl
  | succ n => rw [show min (n + 1) 1 = 1 by omega]; simp
 rw [show (0 : Int).toNat = 0 from rfl] at *
 rw [e2]
 have H : ∀ x : Int × List Int, (∃ c : Nat, x = ((c : Int), List.replicate c v ++ List.replicate (n - c) 0) ∧ c ≤ n ∧ (1 ≤ n → 1 ≤ c)) →
   (∃ z, (∀ go, f201_l2 go x.1 x.2 = some z) ∧ z = List.replicate n v) ∨
   (∃ y : Int × List Int, (∀ go, f201_l2 go x.1 x.2 = go y) ∧ (∃ c : Nat, y = ((c : Int), List.replicate c v ++ List.replicate (n - c) 0) ∧ c ≤ n ∧ (1 ≤ n → 1 ≤ c)) ∧ ((n : Int) - y.1).toNat < ((n : Int) - x.1).toNat) := by
  rintro _ ⟨c, rfl, hc, h1⟩
  have hlen : (List.replicate c v ++ List.replicate (n - c) (0 : Int)).length = n := by simp; omega
  by_cases hlt : c < n
  ·right
   have ht : List.take ((n : Int).toNat - (c : Int).toNat) (List.drop (0 : Int).toNat (List.take (c : Int).toNat (List.replicate c v ++ List.replicate (n - c) (0 : Int)))) = List.replicate (min (n - c) c) v := by
    simp only [Int.toNat_natCast, show (0 : Int).toNat = 0 from rfl, List.drop_zero]
    rw [List.take_append_of_le_length (by simp), List.take_replicate, List.take_replicate]
    congr 1; omega
   refine ⟨(((c + min (n - c) c : Nat) : Int), _), fun go => ?_, ⟨c + min (n - c) c, rfl, by omega, by omega⟩, by simp only; omega⟩
   simp only [f201_l2, hlen]
   rw [show decide ((c : Int) < (n : Int)) = true by simpa using hlt]
   simp only [cond_true]
   rw [guardF_pos (by omega), guardF_pos (by omega), ht, List.length_replicate, wrap_i64 (by omega) (by omega), over_rep v n c _ (by omega)]
   rfl
  ·left
   have : c = n := by omega
   subst this
   refine ⟨_, fun go => ?_, rfl⟩
   simp only [f201_l2, hlen]
   rw [show decide ((c : Int) < (c : Int)) = false by simp]
   simp
 have e3 : (((List.replicate (min n 1) v).length : Int), over (List.replicate n (0 : Int)) 0 (List.replicate (min n 1) v)) = (((min n 1 : Nat) : Int), List.replicate (min n 1) v ++ List.replicate (n - min n 1) 0) := by
  have := over_rep v n 0 (min n 1) (by omega)
  simp only [List.replicate_zero, List.nil_append, Nat.sub_zero, Nat.zero_add] at this
  rw [List.length_replicate]
  exact Prod.ext rfl this
 rw [e3]
 obtain ⟨z, e, rfl⟩ := loop_fuel (B := fun go (x : Int × List Int) => f201_l2 go x.1 x.2) _ (fun x => ((n : Int) - x.1).toNat) _ H _ ⟨min n 1, rfl, by omega, by omega⟩ (by simp only; omega)
 rw [e]
 rfl
theorem new_ok (d : List Int) (v : Int) : f171 d v = some (if 0 < prd d then (0, d, List.replicate (prd d).toNat v) else (1, [], [])) := by
 unfold f171
 rw [shapeGood_ok]
 simp only [bindF_some]
 by_cases h : 0 < prd d
 ·have hl := prd_len h
  have hr := prd_range d
  rw [show decide (prd d > 0) = true by simpa using h, if_pos h, clone_d d (by omega), PlB.size_ok]
  simp only [Bool.not_true, cond_false, bindF_some]
  rw [show prd d = (((prd d).toNat : Nat) : Int) by omega, repeat_ok v _ (by omega)]
  simp only [bindF_some, Int.toNat_natCast]
 ·rw [show decide (prd d > 0) = false by simpa using h, if_neg h]
  rfl
theorem prd_two (n m : Int) : prd [n, m] = if n < 1 ∨ n > 4096 ∨ m < 1 ∨ m > 4096 ∨ n * m > 4096 then 0 else n * m := by
 simp only [prd, pgo, List.length_cons, List.length_nil, Int.one_mul]
 rw [if_neg (by omega)]
 by_cases h1 : n < 1 ∨ n > 4096 ∨ n > 4096
 ·rw [if_pos h1, if_pos (by omega)]
 ·rw [if_neg h1]
  by_cases h2 : m < 1 ∨ m > 4096 ∨ n * m > 4096
  ·rw [if_pos h2, if_pos (by omega)]
  ·rw [if_neg h2, if_neg (by omega)]
end Go.Proofs.PlT
namespace Go.AM
open Go.Proofs.PlT
theorem dT {p : Prop} [Decidable p] (h : p) : decide p = true := decide_eq_true h
theorem dF {p : Prop} [Decidable p] (h : ¬p) : decide p = false := decide_eq_false h
theorem bT {a b : Int} (h : a = b) : (a == b) = true := by simpa using h
theorem nT {a b : Int} (h : ¬a = b) : (a != b) = true := by simpa using h
theorem nF {a b : Int} (h : a = b) : (a != b) = false := by simpa using h
theorem loop_for_aux {X Z : Type} {B : (X → Option Z) → X → Option Z} (s : Nat → X) (n : Nat) (z : Z)
  (hs : ∀ k, k < n → ∀ go, B go (s k) = go (s (k + 1))) (he : ∀ go, B go (s n) = some z) :
  ∀ m k, k ≤ n → n < m + k → loopF B m (s k) = some z
 | 0, k, h1, h2 => absurd h1 (by omega)
 | m + 1, k, h1, h2 => by
  rw [loopF_succ]
  by_cases h : k < n
  ·rw [hs k h]; exact loop_for_aux s n z hs he m (k + 1) h (by omega)
  ·rw [show k = n by omega]; exact he _
theorem loop_for {X Z : Type} {B : (X → Option Z) → X → Option Z} (s : Nat → X) (n : Nat) (z : Z)
  (hs : ∀ k, k < n → ∀ go, B go (s k) = go (s (k + 1))) (he : ∀ go, B go (s n) = some z) (hn : n < 18446744073709551616) :
  loopF B fuelN (s 0) = some z := loop_for_aux s n z hs he fuelN 0 (Nat.zero_le _) (by show n < 18446744073709551616 + 0; omega)
end Go.AM
namespace Go.Proofs.PlB
open Go.AM
end Go.Proofs.PlB
namespace Go.Proofs.PlS
open Go.AM Go.Proofs.PlB Go.Proofs.PlW Go.Proofs.PlT
def prodL : List Int → Int
 | [] => 1
 | x :: r => x * prodL r
theorem pgo_prod : ∀ (d : List Int) (n : Int), 1 ≤ n → 0 < pgo n d → pgo n d = n * prodL d ∧ ∀ x ∈ d, 1 ≤ x ∧ x ≤ 4096
 | [], n, h, hp => ⟨by simp [pgo, prodL], fun x hx => by simp at hx⟩
 | x :: r, n, h, hp => by
  simp only [pgo] at hp ⊢
  by_cases hb : x < 1 ∨ x > 4096 ∨ n * x > 4096
  ·rw [if_pos hb] at hp; exact absurd hp (by decide)
  ·rw [if_neg hb] at hp ⊢
   have h1 : 1 * 1 ≤ n * x := Int.mul_le_mul h (by omega) (by omega) (by omega)
   obtain ⟨e, m⟩ := pgo_prod r (n * x) (by omega) hp
   refine ⟨by rw [e, prodL, Int.mul_assoc], fun y hy => ?_⟩
   rcases List.mem_cons.1 hy with rfl | hy
   ·omega
   ·exact m y hy
theorem prd_prod {d : List Int} (h : 0 < prd d) : prd d = prodL d ∧ (∀ x ∈ d, 1 ≤ x ∧ x ≤ 4096) ∧ d.length ≤ 4 := by
 have hl := prd_len h
 have e : prd d = pgo 1 d := by unfold prd; rw [if_neg (by omega)]
 rw [e] at h ⊢
 obtain ⟨a, b⟩ := pgo_prod d 1 (by omega) h
 exact ⟨by rw [a, Int.one_mul], b, hl⟩
def side (d : List Int) (k : Nat) : Int := if k < d.length then d.getD (d.length - 1 - k) 0 else 1
structure Joined (a b d : List Int) : Prop where
 pa : 0 < prd a
 pb : 0 < prd b
 pd : 0 < prd d
 len : d.length = max a.length b.length
 le : ∀ k, k < d.length → side d k = max (side a k) (side b k)
 ok : ∀ k, k < d.length → side a k = side b k ∨ side a k = 1 ∨ side b k = 1
end Go.Proofs.PlS
namespace Go.Proofs.PlS
open Go.AM Go.Proofs.PlB Go.Proofs.PlW Go.Proofs.PlT
structure Fits (d big : List Int) : Prop where
 pd : 0 < prd d
 pb : 0 < prd big
 len : d.length ≤ big.length
 eq : ∀ k, k < d.length → 1 < side d k → side big k = side d k
end Go.Proofs.PlS
namespace Go.Proofs.PlS
open Go.AM Go.Proofs.PlB Go.Proofs.PlW Go.Proofs.PlT
theorem good_len {t : List Int × List Int} (h : tgood t = true) : 0 < prd t.1 ∧ (t.2.length : Int) = prd t.1 ∧ t.1.length ≤ 4 ∧ t.2.length ≤ 4096 := by
 unfold tgood at h
 simp at h
 have := prd_range t.1
 exact ⟨h.1, h.2, prd_len h.1, by omega⟩
end Go.Proofs.PlS
namespace Go.Proofs.PlS
open Go.AM Go.Proofs.PlB Go.Proofs.PlW Go.Proofs.PlT
end Go.Proofs.PlS
namespace Go.Proofs.Sh
open Go.AM Go.Proofs.PlB Go.Proofs.PlW Go.Proofs.PlT Go.Proofs.PlS
theorem prodL_pos : ∀ d : List Int, (∀ x ∈ d, 1 ≤ x) → 1 ≤ prodL d
 | [], _ => by simp [prodL]
 | x :: r, h => by
  have h1 := h x (by simp)
  have h2 := prodL_pos r (fun y hy => h y (by simp [hy]))
  have : 1 * 1 ≤ x * prodL r := Int.mul_le_mul h1 h2 (by omega) (by omega)
  simp only [prodL]; omega
end Go.Proofs.Sh
namespace Go.Proofs.Sh
open Go.AM Go.Proofs.PlB Go.Proofs.PlW Go.Proofs.PlT Go.Proofs.PlS
end Go.Proofs.Sh
namespace Go.Proofs.Dots
open Go.AM Go.Proofs.PlW
def W0 (A : Int) : Int := A % 18446744073709551616
def W1 (A : Int) : Int := A / 18446744073709551616 % 18446744073709551616
def W2 (A : Int) : Int := A / 18446744073709551616 / 18446744073709551616 % 18446744073709551616
def W3 (A : Int) : Int := A / 18446744073709551616 / 18446744073709551616 / 18446744073709551616 % 18446744073709551616
theorem W1_eq (A : Int) : W1 A = W0 (A / 18446744073709551616) := rfl
theorem W2_eq (A : Int) : W2 A = W1 (A / 18446744073709551616) := rfl
theorem W3_eq (A : Int) : W3 A = W2 (A / 18446744073709551616) := rfl
theorem md (s q k : Int) : (s - q - k) / 18446744073709551616 = s / 18446744073709551616 - q / 18446744073709551616 - -((s % 18446744073709551616 - q % 18446744073709551616 - k) / 18446744073709551616) := by omega
end Go.Proofs.Dots
namespace Go.Proofs.Dots
open Go.AM Go.Proofs.PlW
theorem small (n : Int) (h0 : 0 ≤ n) (h1 : n < 18446744073709551616) : W0 n = n ∧ W1 n = 0 ∧ W2 n = 0 ∧ W3 n = 0 := by
 have e : n / 18446744073709551616 = 0 := by omega
 refine ⟨by unfold W0; omega, by unfold W1; rw [e]; rfl, by unfold W2; rw [e]; rfl, by unfold W3; rw [e]; rfl⟩
theorem two (s p : Int) (h0 : 0 ≤ s) (h1 : s < 18446744073709551616) (g0 : 0 ≤ p) (g1 : p < 18446744073709551616) : W0 (s + 18446744073709551616 * p) = s ∧ W1 (s + 18446744073709551616 * p) = p ∧ W2 (s + 18446744073709551616 * p) = 0 ∧ W3 (s + 18446744073709551616 * p) = 0 := by
 have e : (s + 18446744073709551616 * p) / 18446744073709551616 = p := by omega
 obtain ⟨k0, k1, k2, k3⟩ := small p g0 g1
 refine ⟨by unfold W0; omega, ?_, ?_, ?_⟩
 ·rw [W1_eq, e]; exact k0
 ·rw [W2_eq, e]; exact k1
 ·rw [W3_eq, e]; exact k2
end Go.Proofs.Dots
namespace Go.Proofs.Dots
open Go.AM Go.Proofs.PlW
end Go.Proofs.Dots
namespace Go.Proofs.Num
open Go.AM Go.Proofs.PlW Go.Proofs.Dots
end Go.Proofs.Num
namespace Go.Proofs.Num
open Go.AM Go.Proofs.PlW Go.Proofs.Dots
def top (D j : Nat) : Nat := D / 2 ^ j * 2 ^ j
end Go.Proofs.Num
namespace Go.Proofs.Div
open Go.AM Go.Proofs.PlW
def tabOk (x : Nat) : Bool := match (bt f162_s1 (x : Int)) with
 | .ofNat t => decide (1 ≤ t) && decide (t ≤ 8) && decide (2 ^ (t - 1) ≤ x) && decide (x + 1 ≤ 2 ^ t)
 | .negSucc _ => false
theorem tab_all : (List.range 256).all (fun x => x == 0 || tabOk x) = true := by kernel_rfl
theorem tab_ok (x : Nat) (h0 : 0 < x) (h1 : x < 256) : ∃ t : Nat, bt f162_s1 (x : Int) = (t : Int) ∧ 1 ≤ t ∧ t ≤ 8 ∧ 2 ^ (t - 1) ≤ x ∧ x + 1 ≤ 2 ^ t := by
 have := List.all_eq_true.1 tab_all x (List.mem_range.2 h1)
 rw [show (x == 0) = false by simp; omega, Bool.false_or] at this
 unfold tabOk at this
 split at this
 ·next t ht =>
  simp only [Bool.and_eq_true, decide_eq_true_eq] at this
  exact ⟨t, ht, this.1.1.1, this.1.1.2, this.1.2, this.2⟩
 ·exact absurd this (by decide)
structure Dig (Y a b u d q r : Int) : Prop where
 eq : q * a + r = u
 r0 : 0 ≤ r
 r1 : r < 4294967296
 q0 : 0 ≤ q
 q1 : q ≤ 4294967297
 ge : (u * 4294967296 + d) / Y ≤ q
end Go.Proofs.Div
namespace Go.Proofs.PlV
open Go.AM Go.Proofs.PlB Go.Proofs.PlW Go.Proofs.PlT
def pair (V : Int) : Int × Int := (V / 18446744073709551616, V % 18446744073709551616)
def far (V : Int) : Prop := -85070591730234615865843651857942052864 ≤ V ∧ V ≤ 85070591730234615865843651857942052864
theorem of_ok (v : Int) (h0 : -9223372036854775808 ≤ v) (h1 : v < 9223372036854775808) : f181 v = some (pair v) := by
 unfold f181 pair
 rw [sh63i, wu]
 congr 2
 omega
theorem add_w (A B : Int) (ha : far A) (hb : far B) (hs : far (A + B)) : f180 (pair A) (pair B) = some (pair (A + B)) := by
 obtain ⟨a0, a1⟩ := ha
 obtain ⟨b0, b1⟩ := hb
 obtain ⟨s0, s1⟩ := hs
 unfold f180 pair
 simp only
 rw [add_ok _ _ _ (by omega) (by omega) (by decide) (by decide)]
 simp only [bindF_some, wu]
 rw [add_ok _ _ _ (by omega) (by omega) (by omega) (by omega)]
 simp only [bindF_some, Option.some.injEq, Prod.mk.injEq]
 refine ⟨?_, by omega⟩
 rw [wi_mod, ← wi_mod]
 rw [show (A / 18446744073709551616 % 18446744073709551616 + B / 18446744073709551616 % 18446744073709551616 + (A % 18446744073709551616 + B % 18446744073709551616 + 0) / 18446744073709551616) % 18446744073709551616 = (A + B) / 18446744073709551616 % 18446744073709551616 by omega]
 rw [wi_mod, wrap_i64 (by omega) (by omega)]
theorem fix_ok (V : Int) (hv : far V) : f182 (pair V) = some (sat V) := by
 obtain ⟨a0, a1⟩ := hv
 unfold f182 f182_j2 f182_j3 pair sat
 simp only
 by_cases h1 : V / 18446744073709551616 > 0
 ·rw [show decide (V / 18446744073709551616 > 0) = true by simpa using h1, if_pos (by omega)]
  rfl
 ·rw [show decide (V / 18446744073709551616 > 0) = false by simpa using h1]
  simp only [cond_false]
  by_cases h2 : V / 18446744073709551616 = 0
  ·rw [show (V / 18446744073709551616 == 0) = true by simpa using h2]
   simp only [cond_true, bindF_some]
   rw [show decide (V / 18446744073709551616 < -1) = false by simp; omega, show (V / 18446744073709551616 == -1) = false by simp; omega]
   by_cases h3 : V % 18446744073709551616 ≥ 9223372036854775808
   ·rw [show decide (V % 18446744073709551616 ≥ 9223372036854775808) = true by simpa using h3, if_pos (by omega)]
    rfl
   ·rw [show decide (V % 18446744073709551616 ≥ 9223372036854775808) = false by simpa using h3, if_neg (by omega), if_neg (by omega)]
    simp only [cond_false, bindF_some, sumF_inl, Option.some.injEq]
    rw [wrap_i64 (by omega) (by omega)]
    omega
  ·rw [show (V / 18446744073709551616 == 0) = false by simpa using h2]
   simp only [cond_false, bindF_some]
   by_cases h3 : V / 18446744073709551616 < -1
   ·rw [show decide (V / 18446744073709551616 < -1) = true by simpa using h3, if_neg (by omega), if_pos (by omega)]
    rfl
   ·rw [show decide (V / 18446744073709551616 < -1) = false by simpa using h3, show (V / 18446744073709551616 == -1) = true by simp; omega]
    simp only [cond_false, cond_true]
    by_cases h4 : V % 18446744073709551616 < 9223372036854775808
    ·rw [show decide (V % 18446744073709551616 < 9223372036854775808) = true by simpa using h4, if_neg (by omega), if_pos (by omega)]
     rfl
    ·rw [show decide (V % 18446744073709551616 < 9223372036854775808) = false by simpa using h4, if_neg (by omega), if_neg (by omega)]
     simp only [cond_false, bindF_some, sumF_inl, Option.some.injEq]
     rw [wi]
     split <;> omega
end Go.Proofs.PlV
namespace Go.Proofs.Div
open Go.AM Go.Proofs.PlW Go.Proofs.Num Go.Proofs.PlV
end Go.Proofs.Div
namespace Go.Proofs.PlR
open Go.AM Go.Proofs.PlB Go.Proofs.PlW Go.Proofs.PlT Go.Proofs.PlS
abbrev Tn := List Int × List Int
theorem prd_one (n : Int) (h0 : 1 ≤ n) (h1 : n ≤ 4096) : prd [n] = n := by
 simp only [prd, pgo, List.length_cons, List.length_nil, Int.one_mul]
 rw [if_neg (by omega), if_neg (by omega)]
theorem one_good (v : Int) : tgood (([], [v]) : Tn) = true := rfl
end Go.Proofs.PlR
namespace Go.Proofs.PlV
open Go.AM Go.Proofs.PlB Go.Proofs.PlW Go.Proofs.PlT
end Go.Proofs.PlV
namespace Go.Proofs.PlR
open Go.AM Go.Proofs.PlB Go.Proofs.PlW Go.Proofs.PlT Go.Proofs.PlS Go.Proofs.PlV
def sumL : List Int → Int
 | [] => 0
 | x :: r => x + sumL r
theorem sumL_app : ∀ a b : List Int, sumL (a ++ b) = sumL a + sumL b
 | [], b => by simp [sumL]
 | x :: r, b => by simp only [List.cons_append, sumL, sumL_app r b]; omega
theorem sumL_bound (b : Int) (hb : 0 ≤ b) : ∀ l : List Int, (∀ x ∈ l, -b ≤ x ∧ x ≤ b) → -(l.length * b) ≤ sumL l ∧ sumL l ≤ l.length * b
 | [], _ => by simp [sumL]
 | x :: r, h => by
  have h1 := h x (by simp)
  have h2 := sumL_bound b hb r (fun y hy => h y (by simp [hy]))
  simp only [sumL, List.length_cons, Int.natCast_add, Int.natCast_one, Int.add_mul, Int.one_mul]
  omega
theorem far_sum (l : List Int) (il : inI l) (hl : l.length ≤ 4096) : far (sumL l) := by
 have h := sumL_bound 9223372036854775808 (by decide) l (fun x hx => by have := il x hx; omega)
 unfold far; omega
theorem total_ok (l : List Int) (il : inI l) (hl : l.length ≤ 4096) : f183 l = some (pair (sumL l)) := by
 unfold f183
 have H : ∀ x : Int × Int × Int, (∃ k : Nat, k ≤ l.length ∧ x = ((k : Int), (pair (sumL (l.take k))).1, (pair (sumL (l.take k))).2)) →
   (∃ z, (∀ go, f183_l1 l go x.1 x.2.1 x.2.2 = some z) ∧ z = pair (sumL l)) ∨
   (∃ y : Int × Int × Int, (∀ go, f183_l1 l go x.1 x.2.1 x.2.2 = go y) ∧ (∃ k : Nat, k ≤ l.length ∧ y = ((k : Int), (pair (sumL (l.take k))).1, (pair (sumL (l.take k))).2)) ∧ ((l.length : Int) - y.1).toNat < ((l.length : Int) - x.1).toNat) := by
  rintro _ ⟨k, hk, rfl⟩
  unfold f183_l1
  simp only
  by_cases h : k < l.length
  ·right
   refine ⟨(((k + 1 : Nat) : Int), (pair (sumL (l.take (k + 1)))).1, (pair (sumL (l.take (k + 1)))).2), fun go => ?_, ⟨k + 1, h, rfl⟩, by simp only; omega⟩
   rw [show decide ((k : Int) < (l.length : Int)) = true by simpa using h]
   simp only [cond_true]
   have hr := il l[k] (List.getElem_mem h)
   rw [guardF_pos (by omega), rd_nat _ _ _ h, of_ok _ hr.1 hr.2]
   simp only [bindF_some]
   have e : sumL (l.take (k + 1)) = sumL (l.take k) + l[k] := by
    rw [List.take_succ_eq_append_getElem h, sumL_app]
    simp [sumL]
   have far1 : far (sumL (l.take k)) := far_sum _ (fun x hx => il x (List.mem_of_mem_take hx)) (by simp; omega)
   have far2 : far (sumL (l.take (k + 1))) := far_sum _ (fun x hx => il x (List.mem_of_mem_take hx)) (by simp; omega)
   rw [e] at far2 ⊢
   rw [show ((pair (sumL (l.take k))).1, (pair (sumL (l.take k))).2) = pair (sumL (l.take k)) from rfl, show ((pair l[k]).1, (pair l[k]).2) = pair l[k] from rfl, add_w _ _ far1 (by unfold far; omega) far2]
   simp only [bindF_some]
   rw [wrap_i64 (by omega) (by omega)]
   rfl
  ·left
   have : k = l.length := by omega
   subst this
   refine ⟨_, fun go => ?_, rfl⟩
   rw [show decide ((l.length : Int) < (l.length : Int)) = false by simp]
   rw [List.take_length]
   rfl
 obtain ⟨z, e, rfl⟩ := loop_fuel (B := fun go (x : Int × Int × Int) => f183_l1 l go x.1 x.2.1 x.2.2) _ (fun x => ((l.length : Int) - x.1).toNat) _ H ((0 : Int), (0 : Int), (0 : Int)) ⟨0, Nat.zero_le _, by simp [pair, sumL]⟩ (by simp; omega)
 rw [e]
 rfl
abbrev Nd := Int × Int × Int × Int × (List Int) × (List Int)
def nd (l : List Nd) (i : Nat) : Tn := (rd (Ty.z (.p (.int .i64) (.p (.int .i64) (.p (.int .i64) (.p (.int .i64) (.p (.sl (.int .i64)) (.sl (.int .i64)))))))) l (i : Int)).2.2.2.2
end Go.Proofs.PlR
namespace Go.Proofs.Op
open Go.AM Go.Proofs.PlB Go.Proofs.PlW Go.Proofs.PlT Go.Proofs.PlS Go.Proofs.Sh Go.Proofs.Num Go.Proofs.Div
abbrev Tn := List Int × List Int
theorem allP (a : Tn) (ia : inI a.2) (hg : tgood a = true) : f147 a = some (sat (PlR.sumL a.2), 0) := by
 obtain ⟨_, _, _, hl⟩ := good_len hg
 unfold f147
 rw [show ((a.1, a.2) : Tn) = a from rfl, good_ok, hg, bindF_some, Bool.not_true, cond_false, PlR.total_ok a.2 ia hl, bindF_some]
 rw [show ((PlV.pair (PlR.sumL a.2)).1, (PlV.pair (PlR.sumL a.2)).2) = PlV.pair (PlR.sumL a.2) from rfl, PlV.fix_ok _ (PlR.far_sum a.2 ia hl)]
 rfl
end Go.Proofs.Op
namespace Go.Proofs.Op
open Go.AM Go.Proofs.PlB Go.Proofs.PlW Go.Proofs.PlT Go.Proofs.PlS Go.Proofs.Sh Go.Proofs.Num Go.Proofs.Div
end Go.Proofs.Op
namespace Go.Proofs.Cv
open Go.AM Go.Proofs.PlB Go.Proofs.PlW Go.Proofs.PlT Go.Proofs.PlS Go.Proofs.Sh Go.Proofs.Num Go.Proofs.Div Go.Proofs.Op
def sg (F : Nat → Int) : Nat → Int
 | 0 => 0
 | k + 1 => sg F k + F k
theorem wnat {n : Nat} (h : n < 1000000000) : IntKind.i64.wrap (n : Int) = (n : Int) := wrap_i64 (by omega) (by omega)
theorem wmul (a b : Nat) (h : a * b < 1000000000) : IntKind.i64.wrap ((a : Int) * b) = ((a * b : Nat) : Int) := by rw [← Int.natCast_mul]; exact wnat h
theorem wadd (a b : Nat) (h : a + b < 1000000000) : IntKind.i64.wrap ((a : Int) + b) = ((a + b : Nat) : Int) := by rw [← Int.natCast_add]; exact wnat h
theorem wsucc (a : Nat) (h : a < 100000000) : IntKind.i64.wrap ((a : Int) + 1) = ((a + 1 : Nat) : Int) := wadd a 1 (by omega)
theorem ixM (i c x : Nat) (h : i * c + x < 1000000) : IntKind.i64.wrap (IntKind.i64.wrap ((i : Int) * c) + x) = ((i * c + x : Nat) : Int) := by
 rw [wmul i c (by omega), wadd _ _ (by omega)]
theorem ixK (i c x w y : Nat) (hw : 1 ≤ w) (h : (i * c + x) * w + y < 1000000) : IntKind.i64.wrap (IntKind.i64.wrap (IntKind.i64.wrap (IntKind.i64.wrap ((i : Int) * c) + x) * w) + y) = (((i * c + x) * w + y : Nat) : Int) := by
 have : i * c + x ≤ (i * c + x) * w := Nat.le_mul_of_pos_right _ hw
 rw [ixM i c x (by omega), wmul _ _ (by omega), wadd _ _ (by omega)]
end Go.Proofs.Cv
namespace Go.Proofs.Cv
open Go.AM Go.Proofs.PlB Go.Proofs.PlW Go.Proofs.PlT Go.Proofs.PlS Go.Proofs.Sh Go.Proofs.Num Go.Proofs.Div Go.Proofs.Op
def many (L w s : Nat) : Nat := (L - w) / s + 1
section
variable (A K : List Int) (c L o w s : Nat) (c1 : 1 ≤ c) (w1 : 1 ≤ w) (hA : A.length = c * L) (hK : K.length = o * (c * w)) (bA : c * L ≤ 4096) (bK : o * (c * w) ≤ 4096) (hw : w ≤ L) (s1 : 1 ≤ s) (s64 : s ≤ 64) (iA : inI A) (iK : inI K)
include c1 w1 hA hK bA bK hw s1 s64 iA iK
end
end Go.Proofs.Cv
namespace Go.Proofs.Cv
open Go.AM Go.Proofs.PlB Go.Proofs.PlW Go.Proofs.PlT Go.Proofs.PlS Go.Proofs.Sh Go.Proofs.Num Go.Proofs.Div Go.Proofs.Op
theorem of_ok (d : List Int) : f175 d = some (if 0 < prd d then (0, d, List.replicate (prd d).toNat 0) else (2, [], [])) := by
 unfold f175
 rw [new_ok]
 by_cases h : 0 < prd d
 ·rw [if_pos h, if_pos h, bindF_some, nF rfl]; rfl
 ·rw [if_neg h, if_neg h, bindF_some, nT (by decide : ¬ (1 : Int) = 0)]; rfl
section
variable (A K : List Int) (c L o w s : Nat) (c1 : 1 ≤ c) (w1 : 1 ≤ w) (hA : A.length = c * L) (hK : K.length = o * (c * w)) (bA : c * L ≤ 4096) (bK : o * (c * w) ≤ 4096) (hw : w ≤ L) (s1 : 1 ≤ s) (s64 : s ≤ 64) (iA : inI A) (iK : inI K) (o1 : 1 ≤ o)
include c1 w1 hA hK bA bK hw s1 s64 iA iK o1
end
end Go.Proofs.Cv
namespace Go.Proofs.PlM
open Go.AM Go.Proofs.PlB Go.Proofs.PlW Go.Proofs.PlT
structure Mat (n m : Int) : Prop where
 n1 : 1 ≤ n
 n2 : n ≤ 4096
 m1 : 1 ≤ m
 m2 : m ≤ 4096
 p : n * m ≤ 4096
theorem Mat.prd {n m : Int} (h : Mat n m) : prd [n, m] = n * m := by
 obtain ⟨h1, h2, h3, h4, h5⟩ := h
 rw [prd_two, if_neg (by omega)]
theorem Mat.pos {n m : Int} (h : Mat n m) : 0 < n * m := Int.mul_pos (by have := h.n1; omega) (by have := h.m1; omega)
theorem Mat.of {n m : Int} (h : 0 < PlB.prd [n, m]) : Mat n m := by
 rw [prd_two] at h
 split at h
 ·omega
 ·rename_i h'; exact ⟨by omega, by omega, by omega, by omega, by omega⟩
end Go.Proofs.PlM
namespace Go.Proofs.PlN
open Go.AM Go.Proofs.PlB Go.Proofs.PlW Go.Proofs.PlT Go.Proofs.PlM
end Go.Proofs.PlN
namespace Go.Proofs.Matm
open Go.AM Go.Proofs.PlB Go.Proofs.PlW Go.Proofs.PlT Go.Proofs.PlM Go.Proofs.PlN
end Go.Proofs.Matm
namespace Go.Proofs.Cv
open Go.AM Go.Proofs.PlB Go.Proofs.PlW Go.Proofs.PlT Go.Proofs.PlS Go.Proofs.Sh Go.Proofs.Num Go.Proofs.Div Go.Proofs.Op
section
variable (A B : List Int) (n k c : Nat) (n1 : 1 ≤ n) (k1 : 1 ≤ k) (c1 : 1 ≤ c) (hA : A.length = n * k) (hB : B.length = k * c) (bA : n * k ≤ 4096) (bB : k * c ≤ 4096) (iA : inI A) (iB : inI B)
include n1 k1 c1 hA hB bA bB iA iB
end
end Go.Proofs.Cv
namespace Go.Proofs.Op
open Go.AM Go.Proofs.PlB Go.Proofs.PlW Go.Proofs.PlT Go.Proofs.PlS Go.Proofs.Sh Go.Proofs.Num Go.Proofs.Div Go.Proofs.PlR
def GoodT (t : Tn) : Prop := tgood t = true ∧ inI t.2
def vl (l : List Nd) (n : Int) : Tn := if 0 ≤ n ∧ n < l.length then nd l n.toNat else ([], [])
abbrev Z2 : Tn := Ty.z (.p (.sl (.int .i64)) (.sl (.int .i64)))
structure Keeps (l : List Nd) (root : Nat) (st : List Tn × List Bool) : Prop where
 l1 : st.1.length = root + 1
 l2 : st.2.length = root + 1
 ok : ∀ i, i ≤ root → GoodT (rd Z2 st.1 (i : Int)) ∧ (rd Z2 st.1 (i : Int)).1 = (nd l i).1
end Go.Proofs.Op
namespace Go.Proofs.Cv
open Go.AM Go.Proofs.PlB Go.Proofs.PlW Go.Proofs.PlT Go.Proofs.PlS Go.Proofs.Sh Go.Proofs.Num Go.Proofs.Div Go.Proofs.Op
theorem prodL_app : ∀ a b : List Int, prodL (a ++ b) = prodL a * prodL b
 | [], b => by simp [prodL]
 | x :: a, b => by simp only [List.cons_append, prodL]; rw [prodL_app a b, Int.mul_assoc]
theorem prodL_take {d : List Int} (k : Nat) (h : k < d.length) : prodL (d.take (k + 1)) = prodL (d.take k) * rd (0 : Int) d (k : Int) := by
 rw [List.take_succ_eq_append_getElem h, prodL_app, rd_nat _ _ _ h]
 simp [prodL]
theorem prodL_le {d : List Int} (hd : ∀ x ∈ d, 1 ≤ x) (k : Nat) : 1 ≤ prodL (d.take k) ∧ prodL (d.take k) ≤ prodL d := by
 have h1 := prodL_pos (d.take k) (fun x hx => hd x (List.mem_of_mem_take hx))
 have h2 := prodL_pos (d.drop k) (fun x hx => hd x (List.mem_of_mem_drop hx))
 refine ⟨h1, ?_⟩
 have e : prodL d = prodL (d.take k) * prodL (d.drop k) := by rw [← prodL_app, List.take_append_drop]
 rw [e]
 have := Int.mul_le_mul_of_nonneg_left h2 (show 0 ≤ prodL (d.take k) by omega)
 omega
structure Within (d p : List Int) : Prop where
 len : p.length = d.length
 lo : ∀ k, k < d.length → 0 ≤ rd (0 : Int) p (k : Int)
 hi : ∀ k, k < d.length → rd (0 : Int) p (k : Int) < rd (0 : Int) d (k : Int)
end Go.Proofs.Cv
namespace Go.Proofs.Cv
open Go.AM Go.Proofs.PlB Go.Proofs.PlW Go.Proofs.PlT Go.Proofs.PlS Go.Proofs.Sh Go.Proofs.Num Go.Proofs.Div Go.Proofs.Op
def goes (D st i : Nat) : Nat := i / (st * D) * st + i % st
def cutD (d : List Int) (j : Nat) : List Int := d.take j ++ d.drop (j + 1)
structure Cut (d : List Int) (j H D st : Nat) : Prop where
 hj : j < d.length
 pos : 0 < prd d
 H1 : 1 ≤ H
 D1 : 1 ≤ D
 s1 : 1 ≤ st
 eH : prodL (d.take j) = (H : Int)
 eD : rd (0 : Int) d (j : Int) = (D : Int)
 eS : prodL (d.drop (j + 1)) = (st : Int)
 eN : prd d = ((H * (D * st) : Nat) : Int)
 le : H * (D * st) ≤ 4096
 leM : H * st ≤ 4096
 posM : 0 < prd (cutD d j)
 eM : prd (cutD d j) = ((H * st : Nat) : Int)
end Go.Proofs.Cv
namespace Go.Proofs.Cv
open Go.AM Go.Proofs.PlB Go.Proofs.PlW Go.Proofs.PlT Go.Proofs.PlS Go.Proofs.Sh Go.Proofs.Num Go.Proofs.Div Go.Proofs.Op
end Go.Proofs.Cv
namespace Go.Proofs.Cv
open Go.AM Go.Proofs.PlB Go.Proofs.PlW Go.Proofs.PlT Go.Proofs.PlS Go.Proofs.Sh Go.Proofs.Num Go.Proofs.Div Go.Proofs.Op
end Go.Proofs.Cv
namespace Go.Proofs.Cv
open Go.AM Go.Proofs.PlB Go.Proofs.PlW Go.Proofs.PlT Go.Proofs.PlS Go.Proofs.Sh Go.Proofs.Num Go.Proofs.Div Go.Proofs.Op
section
variable (G K : List Int) (o c w m s x l : Nat) (c1 : 1 ≤ c) (w1 : 1 ≤ w) (hG : G.length = o * m) (hK : K.length = o * (c * w)) (bG : o * m ≤ 4096) (bK : o * (c * w) ≤ 4096) (s1 : 1 ≤ s) (s64 : s ≤ 64) (iG : inI G) (iK : inI K) (hx : x < c) (hl : l < 4096)
include c1 w1 hG hK bG bK s1 s64 iG iK hx hl
end
end Go.Proofs.Cv
namespace Go.Proofs.Cv
open Go.AM Go.Proofs.PlB Go.Proofs.PlW Go.Proofs.PlT Go.Proofs.PlS Go.Proofs.Sh Go.Proofs.Num Go.Proofs.Div Go.Proofs.Op
section
variable (G A : List Int) (o c L w s : Nat) (o1 : 1 ≤ o) (c1 : 1 ≤ c) (w1 : 1 ≤ w) (hG : G.length = o * many L w s) (hA : A.length = c * L) (bG : o * many L w s ≤ 4096) (bA : c * L ≤ 4096) (hw : w ≤ L) (s1 : 1 ≤ s) (s64 : s ≤ 64) (iG : inI G) (iA : inI A)
include o1 c1 w1 hG hA bG bA hw s1 s64 iG iA
end
end Go.Proofs.Cv
namespace Go.Proofs.Cv
open Go.AM Go.Proofs.PlB Go.Proofs.PlW Go.Proofs.PlT Go.Proofs.PlS Go.Proofs.Sh Go.Proofs.Num Go.Proofs.Div Go.Proofs.Op
section
variable (G A : List Int) (o c L w s : Nat) (o1 : 1 ≤ o) (c1 : 1 ≤ c) (w1 : 1 ≤ w) (hG : G.length = o * many L w s) (hA : A.length = c * L) (bG : o * many L w s ≤ 4096) (bA : c * L ≤ 4096) (hw : w ≤ L) (s1 : 1 ≤ s) (s64 : s ≤ 64) (iG : inI G) (iA : inI A) (bq : o * (c * w) ≤ 4096)
include o1 c1 w1 hG hA bG bA hw s1 s64 iG iA bq
end
end Go.Proofs.Cv
namespace Go.Proofs.Cv
open Go.AM Go.Proofs.PlB Go.Proofs.PlW Go.Proofs.PlT Go.Proofs.PlS Go.Proofs.Sh Go.Proofs.Num Go.Proofs.Div Go.Proofs.Op
end Go.Proofs.Cv
namespace Go.Proofs.Cv
open Go.AM Go.Proofs.PlB Go.Proofs.PlW Go.Proofs.PlT Go.Proofs.PlS Go.Proofs.Sh Go.Proofs.Num Go.Proofs.Div Go.Proofs.Op
section
variable (G K : List Int) (o c w m s L : Nat) (o1 : 1 ≤ o) (c1 : 1 ≤ c) (w1 : 1 ≤ w) (hG : G.length = o * m) (hK : K.length = o * (c * w)) (bG : o * m ≤ 4096) (bK : o * (c * w) ≤ 4096) (s1 : 1 ≤ s) (s64 : s ≤ 64) (iG : inI G) (iK : inI K) (L1 : 1 ≤ L) (bL : c * L ≤ 4096)
include o1 c1 w1 hG hK bG bK s1 s64 iG iK L1 bL
end
end Go.Proofs.Cv
namespace Go.Proofs.Cv
open Go.AM Go.Proofs.PlB Go.Proofs.PlW Go.Proofs.PlT Go.Proofs.PlS Go.Proofs.Sh Go.Proofs.Num Go.Proofs.Div Go.Proofs.Op
def bst (V : List Int) (base : Nat) : Nat → Nat
 | 0 => base
 | y + 1 => if rd (0 : Int) V ((base + (y + 1) : Nat) : Int) > rd (0 : Int) V (bst V base y : Int) then base + (y + 1) else bst V base y
def pl (V : List Int) (L w q : Nat) : Nat := bst V (q / (L / w) * L + q % (L / w) * w) (w - 1)
section
variable (V : List Int) (c L w : Nat) (c1 : 1 ≤ c) (w1 : 1 ≤ w) (hw : w ≤ L) (hV : V.length = c * L) (bV : c * L ≤ 4096)
include c1 w1 hw hV bV
end
end Go.Proofs.Cv
namespace Go.Proofs.Op
open Go.AM Go.Proofs.PlB Go.Proofs.PlW Go.Proofs.PlT Go.Proofs.PlS Go.Proofs.Sh Go.Proofs.Num Go.Proofs.Div Go.Proofs.PlR
section
variable (l : List Nd) (i : Nat)
end
end Go.Proofs.Op
namespace Go.Proofs.Cv
open Go.AM Go.Proofs.PlB Go.Proofs.PlW Go.Proofs.PlT Go.Proofs.PlS Go.Proofs.Sh Go.Proofs.Num Go.Proofs.Div Go.Proofs.Op
open Go.Proofs.PlR hiding Tn
end Go.Proofs.Cv
namespace Go.Proofs.Cv
open Go.AM Go.Proofs.PlB Go.Proofs.PlW Go.Proofs.PlT Go.Proofs.PlS Go.Proofs.Sh Go.Proofs.Num Go.Proofs.Div Go.Proofs.Op
open Go.Proofs.PlR hiding Tn
structure GW (root : Nat) (ls : List Tn) (gv : List Bool) : Prop where
 w1 : ls.length = root + 1
 w2 : gv.length = root + 1
 wI : ∀ i, i ≤ root → inI (rd Z2 ls (i : Int)).2
end Go.Proofs.Cv
namespace Go.Proofs.Cv
open Go.AM Go.Proofs.PlB Go.Proofs.PlW Go.Proofs.PlT Go.Proofs.PlS Go.Proofs.Sh Go.Proofs.Num Go.Proofs.Div Go.Proofs.Op
end Go.Proofs.Cv
namespace Go.Proofs.Cv
open Go.AM Go.Proofs.PlB Go.Proofs.PlW Go.Proofs.PlT Go.Proofs.PlS Go.Proofs.Sh Go.Proofs.Num Go.Proofs.Div Go.Proofs.Op
def hQ (d : List Int) (j : Nat) : Nat → Int
 | 0 => 1
 | t + 1 => hQ d j t * rd (0 : Int) d ((j + 1 + t : Nat) : Int)
section
variable {d : List Int} {j H D st : Nat} (C : Cut d j H D st)
include C
end
end Go.Proofs.Cv
namespace Go.Proofs.Cv
open Go.AM Go.Proofs.PlB Go.Proofs.PlW Go.Proofs.PlT Go.Proofs.PlS Go.Proofs.Sh Go.Proofs.Num Go.Proofs.Div Go.Proofs.Op
def part (V : List Int) (D st k v : Nat) : Int := sg (fun i => if goes D st i = v then rd (0 : Int) V (i : Int) else 0) k
section
variable (d V : List Int) (j H D st : Nat) (C : Cut d j H D st) (hV : V.length = H * (D * st)) (iV : inI V)
include C hV iV
end
end Go.Proofs.Cv
namespace Go.Proofs.Op
open Go.AM Go.Proofs.PlB Go.Proofs.PlW Go.Proofs.PlT Go.Proofs.PlS Go.Proofs.Sh Go.Proofs.Num Go.Proofs.Div
open Go.Proofs.PlR hiding Tn
end Go.Proofs.Op
namespace Go.Proofs.Op
open Go.AM Go.Proofs.PlB Go.Proofs.PlW Go.Proofs.PlT Go.Proofs.PlS Go.Proofs.Sh Go.Proofs.Num Go.Proofs.Div
open Go.Proofs.PlR hiding Tn
section
variable (l : List Nd) (i : Nat)
end
end Go.Proofs.Op
namespace Go.Proofs.Op
open Go.AM Go.Proofs.PlB Go.Proofs.PlW Go.Proofs.PlT Go.Proofs.PlS Go.Proofs.Sh Go.Proofs.Num Go.Proofs.Div Go.Proofs.PlR
end Go.Proofs.Op
namespace Go.Proofs.Op
open Go.AM Go.Proofs.PlB Go.Proofs.PlW Go.Proofs.PlT Go.Proofs.PlS Go.Proofs.Sh Go.Proofs.Num Go.Proofs.Div
open Go.Proofs.PlR hiding Tn
end Go.Proofs.Op
namespace Go.Proofs.Cv
open Go.AM Go.Proofs.PlB Go.Proofs.PlW Go.Proofs.PlT Go.Proofs.PlS Go.Proofs.Sh Go.Proofs.Num Go.Proofs.Div Go.Proofs.Op
open Go.Proofs.PlR hiding Tn
end Go.Proofs.Cv
namespace Go.Proofs.Cv
open Go.AM Go.Proofs.PlB Go.Proofs.PlW Go.Proofs.PlT Go.Proofs.PlS Go.Proofs.Sh Go.Proofs.Num Go.Proofs.Div Go.Proofs.Op
open Go.Proofs.PlR hiding Tn
end Go.Proofs.Cv
namespace Go.Proofs.Cv
open Go.AM Go.Proofs.PlB Go.Proofs.PlW Go.Proofs.PlT Go.Proofs.PlS Go.Proofs.Sh Go.Proofs.Num Go.Proofs.Div Go.Proofs.Op
open Go.Proofs.PlR hiding Tn
abbrev Lay := ByteArray × Int × Int
abbrev Nt := (List Int) × (List Lay)
abbrev zLay : Lay := Ty.z (.p .str (.p (.int .i64) (.int .i64)))
abbrev zL : List Int := Ty.z (.sl (.int .i64))
def ly (n : Nt) (i : Nat) : Lay := rd zLay n.2 (i : Int)
def kd (b : ByteArray) (l : Lay) : Bool := (ByteArray.toList l.1 == ByteArray.toList b)
abbrev bDense : ByteArray := ByteArray.mk #[100, 101, 110, 115, 101]
theorem prod_ok {d : List Int} (h : 0 < prd d) : f42 d = some (prd d) := by
 obtain ⟨e, h1, h2⟩ := prd_prod h
 have hr := prd_range d
 unfold f42
 have L := loop_for (B := fun go (x : Int × Int) => f42_l1 d go x.1 x.2) (fun k => (prodL (d.take k), (k : Int))) d.length (prd d) ?_ ?_ (by omega)
 ·have L' : loopF (fun go (x : Int × Int) => f42_l1 d go x.1 x.2) fuelN ((1 : Int), (0 : Int)) = _ := L
  rw [L']; rfl
 ·intro k hk go
  obtain ⟨p1, p2⟩ := prodL_le (fun x hx => (h1 x hx).1) (k + 1)
  unfold f42_l1
  simp only
  rw [dT (by omega), cond_true, guardF_pos (by omega), wsucc k (by omega), ← prodL_take k hk, wrap_i64 (by omega) (by omega)]
 ·intro go
  unfold f42_l1
  simp only
  rw [dF (by omega), cond_false, List.take_length, e]
theorem within_ok (v m : Int) : f60 v m = some (decide (1 ≤ v ∧ v ≤ m)) := by
 unfold f60
 by_cases h : v ≥ 1
 ·rw [dT h, cond_true]; congr 1; rw [decide_eq_decide]; omega
 ·rw [dF h, cond_false, dF (fun hh => h hh.1)]
theorem cloneS (d : List Int) (hl : d.length ≤ 4096) : f61 d = some d := PlB.clone_d d (by omega)
def Fit (p : Option (Bool × List Int)) (n : Nat) : Prop := ∃ b d, p = some (b, d) ∧ d.length ≤ n
def dm (d : List (List Int)) (i : Nat) : List Int := rd zL d (i : Int)
end Go.Proofs.Cv
namespace Go.Proofs.Cv
open Go.AM
theorem awake12 : f9 = some true := by kernel_rfl
end Go.Proofs.Cv
namespace Go.Proofs.Cv
open Go.AM Go.Proofs.PlB Go.Proofs.PlW Go.Proofs.PlT Go.Proofs.PlS Go.Proofs.Sh Go.Proofs.Num Go.Proofs.Div Go.Proofs.Op
open Go.Proofs.PlR hiding Tn
def dN (a : Int) (L : List Int) : Nt := ([a], L.map (fun x => (bDense, x, (0 : Int))))
def dS (a : Int) (L : List Int) : List (List Int) := (a :: L).map (fun x => [x])
def fr (a : Int) (L : List Int) (k : Nat) : Int := rd (0 : Int) (a :: L) (k : Int)
def allS (a : Int) (L : List Int) : Nat → Int
 | 0 => 0
 | k + 1 => allS a L k + fr a L k * fr a L (k + 1) + fr a L (k + 1)
def grt (a : Int) (L : List Int) : Nat → Bool
 | 0 => false
 | k + 1 => grt a L k || decide (fr a L k * fr a L (k + 1) > 4096)
structure DI (a : Int) (L : List Int) : Prop where
 ia : 1 ≤ a ∧ a ≤ 1024
 il : L.length ≤ 16
 ir : ∀ x ∈ L, 1 ≤ x ∧ x ≤ 256
section
variable {a : Int} {L : List Int}
theorem fr_succ (k : Nat) (h : k < L.length) : fr a L (k + 1) = L[k] := by
 unfold fr
 rw [rd_nat _ _ _ (by simp; omega)]; rfl
theorem ly_dN (k : Nat) (h : k < L.length) : ly (dN a L) k = (bDense, fr a L (k + 1), (0 : Int)) := by
 unfold ly dN
 rw [rd_nat _ _ _ (by simpa using h), List.getElem_map, fr_succ k h]
theorem dm_dS (k : Nat) (h : k ≤ L.length) : dm (dS a L) k = [fr a L k] := by
 unfold dm dS fr
 rw [rd_nat _ _ _ (by simp; omega), rd_nat _ _ _ (by simp; omega), List.getElem_map]
theorem dN_len : (dN a L).2.length = L.length := by simp [dN]
theorem dS_len : (dS a L).length = L.length + 1 := by simp [dS]
variable (D : DI a L)
include D
theorem fr_in (k : Nat) (h : k < L.length) : 1 ≤ fr a L (k + 1) ∧ fr a L (k + 1) ≤ 256 := by
 rw [fr_succ k h]; exact D.ir _ (List.getElem_mem h)
theorem fr_any (k : Nat) (h : k ≤ L.length) : 1 ≤ fr a L k ∧ fr a L k ≤ 1024 := by
 match k, h with
 | 0, _ => exact D.ia
 | k + 1, h => have := fr_in D k h; omega
theorem fr_mul (k : Nat) (h : k < L.length) : 1 ≤ fr a L k * fr a L (k + 1) ∧ fr a L k * fr a L (k + 1) ≤ 262144 := by
 obtain ⟨a0, a1⟩ := fr_any D k (by omega)
 obtain ⟨b0, b1⟩ := fr_in D k h
 have h1 := Int.mul_le_mul a1 b1 (by omega) (by omega)
 have h2 := Int.mul_le_mul a0 b0 (by omega) (by omega)
 omega
theorem allS_in : ∀ k, k ≤ L.length → 0 ≤ allS a L k ∧ allS a L k ≤ k * 262400
 | 0, _ => by simp [allS]
 | k + 1, h => by
  have := allS_in k (by omega)
  have h1 := fr_mul D k (by omega)
  have h2 := fr_in D k (by omega)
  simp only [allS]
  omega
theorem one_good (k : Nat) (h : k ≤ L.length) : f65 [fr a L k] = some true := by
 have := fr_any D k h
 rw [shapeGood_ok, prd_one _ (by omega) (by omega), dT (by omega)]
theorem lgood_d (k : Nat) (h : k < L.length) : f59 (ly (dN a L) k) = some true := by
 have hr := fr_in D k h
 rw [ly_dN k h]
 have e1 : f59_j1 (bDense, fr a L (k + 1), (0 : Int)) = some (Sum.inl ()) := by
  have e0 : f38 bDense = some 1 := by kernel_rfl
  unfold f59_j1
  simp only
  rw [e0, bindF_some, dT (by omega), cond_true, nF rfl, cond_false]
 unfold f59
 rw [e1, bindF_some, sumF_inl]
 simp only
 rw [beq_self_eq_true, cond_true, within_ok, bindF_some, dT hr]
theorem good_d : f34 (dN a L) = some true := by
 unfold f34
 have LL := loop_for (B := fun go x => f34_l1 (dN a L) go x) (fun k => (k : Int)) L.length (Sum.inr ()) ?_ ?_ (by have := D.il; omega)
 ·have L' : loopF (fun go x => f34_l1 (dN a L) go x) fuelN (0 : Int) = _ := LL
  have e : rd (0 : Int) (dN a L).1 0 = a := rfl
  have e2 : (dN a L).1.length = 1 := rfl
  rw [L', bindF_some, sumF_inr, e2, bT (by omega), cond_true, guardF_pos (by omega), e, within_ok, bindF_some, dT D.ia]
 ·intro k hk go
  have eb2 : f59 ((rd (Ty.z (.p .str (.p (.int .i64) (.int .i64)))) (dN a L).2 (k : Int)).1, ((rd (Ty.z (.p .str (.p (.int .i64) (.int .i64)))) (dN a L).2 (k : Int)).2).1, ((rd (Ty.z (.p .str (.p (.int .i64) (.int .i64)))) (dN a L).2 (k : Int)).2).2) = some true := lgood_d D k hk
  have hl := D.il
  unfold f34_l1
  rw [dN_len, dT (by omega), cond_true, guardF_pos (by omega), eb2, bindF_some, Bool.not_true, cond_false, wsucc k (by omega)]
 ·intro go
  unfold f34_l1
  rw [dN_len, dF (by omega), cond_false]
theorem walk_d : f35 (dN a L) = some (true, dS a L) := by
 have hl := D.il
 unfold f35
 rw [cloneS (dN a L).1 (by show 1 ≤ 4096; omega), bindF_some]
 have LL := loop_for (B := fun go (x : Int × List (List Int)) => f35_l3 (dN a L) go x.1 x.2) (fun k => ((k : Int), (dS a L).take (k + 1))) L.length (Sum.inr (dS a L)) ?_ ?_ (by omega)
 ·have L' : loopF (fun go (x : Int × List (List Int)) => f35_l3 (dN a L) go x.1 x.2) fuelN ((0 : Int), [(dN a L).1]) = _ := LL
  rw [L', bindF_some, sumF_inr]
 ·intro k hk go
  have ht : ((dS a L).take (k + 1)).length = k + 1 := by rw [List.length_take, dS_len]; omega
  have ey : (rd (Ty.z (.p .str (.p (.int .i64) (.int .i64)))) (dN a L).2 (k : Int)) = (bDense, fr a L (k + 1), (0 : Int)) := ly_dN k hk
  have eo : ∀ d : List Int, f62 (bDense, fr a L (k + 1), (0 : Int)) d = some (true, [fr a L (k + 1)]) := fun d => by
   unfold f62
   simp only
   rw [beq_self_eq_true, cond_true]
  have ej : ∀ d : List (List Int), f35_j4 (dN a L) (k : Int) d (true, [fr a L (k + 1)]) = some (Sum.inl ()) := fun d => by
   have e0 : (ByteArray.toList bDense == ByteArray.toList (ByteArray.mk #[115, 107, 105, 112])) = false := by kernel_rfl
   unfold f35_j4
   rw [ey]
   simp only
   rw [Bool.not_true, cond_false, e0, cond_false]
  have g3 : (List.length ((dS a L).take (k + 1)) + List.length [[fr a L (k + 1)]]) * 24 ≤ 140737488355328 := by
   rw [ht]; simp only [List.length_cons, List.length_nil]; omega
  have et : (dS a L).take (k + 1 + 1) = (dS a L).take (k + 1) ++ [[fr a L (k + 1)]] := by
   have h1 : k + 1 < (dS a L).length := by rw [dS_len]; omega
   rw [List.take_succ_eq_append_getElem h1]
   have h2 : (dS a L)[k + 1] = dm (dS a L) (k + 1) := (rd_nat _ _ _ h1).symm
   rw [h2, dm_dS (k + 1) (by omega)]
  unfold f35_l3
  simp only
  rw [dN_len, ht, dT (by omega), cond_true, guardF_pos (by omega), guardF_pos (by omega), ey]
  simp only
  rw [eo, bindF_some, ej, bindF_some, sumF_inl]
  simp only
  rw [ht] at g3
  rw [guardF_pos g3, wsucc k (by omega), et]
 ·intro go
  unfold f35_l3
  simp only
  rw [dN_len, dF (by omega), cond_false, ← dS_len, List.take_length]
theorem prod1_d (k : Nat) (h : k ≤ L.length) : f42 [fr a L k] = some (fr a L k) := by
 have := fr_any D k h
 have e := prd_one (fr a L k) (by omega) (by omega)
 rw [prod_ok (by omega), e]
theorem prod2_d (k : Nat) (h : k < L.length) : f42 [fr a L (k + 1), fr a L k] = some (fr a L k * fr a L (k + 1)) := by
 obtain ⟨m1, m2⟩ := fr_mul D k h
 obtain ⟨b1, b2⟩ := fr_in D k h
 unfold f42
 have LL := loop_for (B := fun go (x : Int × Int) => f42_l1 [fr a L (k + 1), fr a L k] go x.1 x.2) (fun i => ((match i with | 0 => 1 | 1 => fr a L (k + 1) | _ => fr a L k * fr a L (k + 1)), (i : Int))) 2 (fr a L k * fr a L (k + 1)) ?_ ?_ (by omega)
 ·have L' : loopF (fun go (x : Int × Int) => f42_l1 [fr a L (k + 1), fr a L k] go x.1 x.2) fuelN ((1 : Int), (0 : Int)) = _ := LL
  rw [L']; rfl
 ·intro i hi go
  unfold f42_l1
  match i, hi with
  | 0, _ =>
   have e : rd (0 : Int) [fr a L (k + 1), fr a L k] ((0 : Nat) : Int) = fr a L (k + 1) := rfl
   simp only
   rw [dT (by simp), cond_true, guardF_pos (by simp), e, wsucc 0 (by omega), wrap_i64 (by omega) (by omega), Int.one_mul]
  | 1, _ =>
   have e : rd (0 : Int) [fr a L (k + 1), fr a L k] ((1 : Nat) : Int) = fr a L k := rfl
   simp only
   rw [dT (by simp), cond_true, guardF_pos (by simp), e, wsucc 1 (by omega), Int.mul_comm (fr a L (k + 1)), wrap_i64 (by omega) (by omega)]
 ·intro go
  unfold f42_l1
  simp only
  rw [dF (by simp), cond_false]
theorem sum4_d (k : Nat) (h : k < L.length) (m : Int) (hm : 0 ≤ m ∧ m ≤ 10000000) (ok : Bool) :
  loopF (fun go (x : Int × Bool × Int) => f36_l4 [[fr a L (k + 1), fr a L k], [fr a L (k + 1)]] go x.1 x.2.1 x.2.2) fuelN (m, ok, (0 : Int)) = some (m + fr a L k * fr a L (k + 1) + fr a L (k + 1), ok && !decide (fr a L k * fr a L (k + 1) > 4096)) := by
 obtain ⟨m1, m2⟩ := fr_mul D k h
 obtain ⟨b1, b2⟩ := fr_in D k h
 obtain ⟨c1, c2⟩ := fr_any D k (by omega)
 have eg : f65 [fr a L (k + 1), fr a L k] = some (!decide (fr a L k * fr a L (k + 1) > 4096)) := by
  rw [shapeGood_ok, prd_two, Int.mul_comm (fr a L (k + 1))]
  by_cases hg : fr a L k * fr a L (k + 1) > 4096
  ·rw [if_pos (by omega), dT hg]; rfl
  ·rw [if_neg (by omega), dF hg, dT (by omega)]; rfl
 have LL := loop_for (B := fun go (x : Int × Bool × Int) => f36_l4 [[fr a L (k + 1), fr a L k], [fr a L (k + 1)]] go x.1 x.2.1 x.2.2)
  (fun i => ((match i with | 0 => m | 1 => m + fr a L k * fr a L (k + 1) | _ => m + fr a L k * fr a L (k + 1) + fr a L (k + 1)), (match i with | 0 => ok | _ => ok && !decide (fr a L k * fr a L (k + 1) > 4096)), (i : Int))) 2 (m + fr a L k * fr a L (k + 1) + fr a L (k + 1), ok && !decide (fr a L k * fr a L (k + 1) > 4096)) ?_ ?_ (by omega)
 ·exact LL
 ·intro i hi go
  unfold f36_l4
  match i, hi with
  | 0, _ =>
   have e : rd (Ty.z (.sl (.int .i64))) [[fr a L (k + 1), fr a L k], [fr a L (k + 1)]] ((0 : Nat) : Int) = [fr a L (k + 1), fr a L k] := rfl
   simp only
   rw [dT (by simp), cond_true, guardF_pos (by simp), e, prod2_d D k h, bindF_some, eg, bindF_some, wsucc 0 (by omega), wrap_i64 (by omega) (by omega)]
   cases ok <;> rfl
  | 1, _ =>
   have e : rd (Ty.z (.sl (.int .i64))) [[fr a L (k + 1), fr a L k], [fr a L (k + 1)]] ((1 : Nat) : Int) = [fr a L (k + 1)] := rfl
   simp only
   rw [dT (by simp), cond_true, guardF_pos (by simp), e, prod1_d D (k + 1) h, bindF_some, one_good D (k + 1) h, bindF_some, wsucc 1 (by omega), wrap_i64 (by omega) (by omega)]
   cases (ok && !decide (fr a L k * fr a L (k + 1) > 4096)) <;> rfl
 ·intro go
  unfold f36_l4
  simp only
  rw [dF (by simp), cond_false]
theorem sum_d : f36 (dN a L) (dS a L) = some (allS a L L.length, !grt a L L.length && decide (allS a L L.length ≤ 4096)) := by
 have hl := D.il
 unfold f36
 rw [dN_len, dT (show (L.length : Int) ≤ 16 by omega)]
 have LL := loop_for (B := fun go (x : Int × Bool × Int) => f36_l3 (dN a L) (dS a L) go x.1 x.2.1 x.2.2) (fun k => (allS a L k, !grt a L k, (k : Int))) L.length (allS a L L.length, !grt a L L.length) ?_ ?_ (by omega)
 ·have L' : loopF (fun go (x : Int × Bool × Int) => f36_l3 (dN a L) (dS a L) go x.1 x.2.1 x.2.2) fuelN ((0 : Int), true, (0 : Int)) = _ := LL
  have e1 : f65 (dN a L).1 = some true := one_good D 0 (by omega)
  rw [L', bindF_some]
  simp only
  rw [e1, bindF_some, cond_true]
  cases grt a L L.length <;> rfl
 ·intro k hk go
  have ey : (rd (Ty.z (.p .str (.p (.int .i64) (.int .i64)))) (dN a L).2 (k : Int)) = (bDense, fr a L (k + 1), (0 : Int)) := ly_dN k hk
  have ed : rd (Ty.z (.sl (.int .i64))) (dS a L) (k : Int) = [fr a L k] := dm_dS k (by omega)
  have ed2 : rd (Ty.z (.sl (.int .i64))) (dS a L) ((k + 1 : Nat) : Int) = [fr a L (k + 1)] := dm_dS (k + 1) (by omega)
  have ep : f64 (bDense, fr a L (k + 1), (0 : Int)) [fr a L k] = some [[fr a L (k + 1), fr a L k], [fr a L (k + 1)]] := by
   unfold f64
   simp only
   rw [beq_self_eq_true, cond_true, prod1_d D k (by omega), bindF_some]
  obtain ⟨s1, s2⟩ := allS_in D k (by omega)
  unfold f36_l3
  simp only
  rw [dN_len, dS_len, dT (by omega), cond_true, guardF_pos (by omega), guardF_pos (by omega), ey, ed]
  simp only
  rw [ep, bindF_some, sum4_d D k hk _ ⟨s1, by omega⟩, bindF_some, wsucc k (by omega), ed2, guardF_pos (by omega), one_good D k (by omega), bindF_some, cond_true, guardF_pos (by omega), one_good D (k + 1) (by omega), bindF_some]
  have e3 : (!grt a L k && !decide (fr a L k * fr a L (k + 1) > 4096)) = !grt a L (k + 1) := by simp only [grt, Bool.not_or]
  simp only [allS]
  rw [e3]
  cases grt a L (k + 1) <;> rfl
 ·intro go
  unfold f36_l3
  simp only
  rw [dN_len, dF (by omega), cond_false]
theorem params_d : f12 (dN a L) = some (if grt a L L.length = true ∨ allS a L L.length > 4096 then (0, 2) else (allS a L L.length, 0)) := by
 have e1 : f34 ((dN a L).1, (dN a L).2) = some true := good_d D
 have e2 : f35 ((dN a L).1, (dN a L).2) = some (true, dS a L) := walk_d D
 have e3 : f36 ((dN a L).1, (dN a L).2) (dS a L) = _ := sum_d D
 have es : f11 (dN a L) = some (if grt a L L.length = true ∨ allS a L L.length > 4096 then (2, []) else (0, dS a L)) := by
  unfold f11
  rw [e1, bindF_some, Bool.not_true, cond_false, e2, bindF_some]
  simp only [Bool.not_true, cond_false]
  rw [e3, bindF_some]
  simp only
  cases h : grt a L L.length
  ·by_cases h2 : allS a L L.length ≤ 4096
   ·rw [dT h2, if_neg (by simp; omega)]; rfl
   ·rw [dF h2, if_pos (by simp; omega)]; rfl
  ·rw [if_pos (.inl rfl)]; rfl
 have es2 : f11 ((dN a L).1, (dN a L).2) = _ := es
 unfold f12
 rw [es2, bindF_some]
 by_cases h : grt a L L.length = true ∨ allS a L L.length > 4096
 ·rw [if_pos h, if_pos h]; rfl
 ·rw [if_neg h, if_neg h]
  simp only
  rw [nF rfl, cond_false, e3, bindF_some]
end
theorem counts_j1 (a : Int) (L : List Int) : (f8_j1 a L = some (Sum.inl ()) ∧ 1 ≤ a ∧ a ≤ 1024 ∧ L.length ≤ 16) ∨ f8_j1 a L = some (Sum.inr ()) := by
 unfold f8_j1
 by_cases h1 : a < 1
 ·rw [dT h1]; exact .inr rfl
 rw [dF h1, cond_false]
 by_cases h2 : a > 1024
 ·rw [dT h2]; exact .inr rfl
 rw [dF h2, cond_false]
 by_cases h3 : (List.length L : Int) > 16
 ·rw [dT h3]; exact .inr rfl
 rw [dF h3]
 exact .inl ⟨rfl, by omega, by omega, by omega⟩
theorem counts_j7 (L : List Int) (k : Nat) (h : k < L.length) : f8_j7 L (k : Int) = some (if 1 ≤ L[k] ∧ L[k] ≤ 256 then Sum.inl () else Sum.inr ()) := by
 unfold f8_j7
 rw [guardF_pos (by omega), guardF_pos (by omega), rd_nat _ _ _ h]
 by_cases h1 : L[k] < 1
 ·rw [dT h1, if_neg (by omega)]; rfl
 rw [dF h1, cond_false]
 by_cases h2 : L[k] > 256
 ·rw [dT h2, if_neg (by omega)]; rfl
 rw [dF h2, if_pos (by omega)]; rfl
abbrev ly0 (x : Int) : Lay := (bDense, x, (0 : Int))
theorem counts_no (a : Int) (L : List Int) (hl : L.length ≤ 16) (hn : ¬ ∀ x ∈ L, 1 ≤ x ∧ x ≤ 256) :
  loopF (fun go (x : Int × Bool × Int × Int × List Lay) => f8_l6 L go x.1 x.2.1 x.2.2.1 x.2.2.2.1 x.2.2.2.2) fuelN ((0 : Int), false, a, (0 : Int), []) = some (Sum.inl ()) := by
 have LL := loop_fuel (B := fun go (x : Int × Bool × Int × Int × List Lay) => f8_l6 L go x.1 x.2.1 x.2.2.1 x.2.2.2.1 x.2.2.2.2)
  (fun x => ∃ k : Nat, k ≤ L.length ∧ x.2.2.2.1 = (k : Int) ∧ x.2.2.2.2.length = k ∧ ∀ i (h : i < L.length), i < k → 1 ≤ L[i] ∧ L[i] ≤ 256) (fun x => L.length - x.2.2.2.1.toNat)
  (fun z => z = Sum.inl ()) ?_ ((0 : Int), false, a, (0 : Int), []) ⟨0, by omega, rfl, rfl, fun i _ h => absurd h (by omega)⟩ (by show L.length - Int.toNat 0 < 18446744073709551616; omega)
 ·obtain ⟨z, ez, hz⟩ := LL
  rw [ez, hz]
 ·rintro ⟨all, g, f, _, l2⟩ ⟨k, hk, rfl, hlen, hp⟩
  simp only at hlen
  by_cases h : k < L.length
  ·by_cases hr : 1 ≤ L[k] ∧ L[k] ≤ 256
   ·have ej : ∃ b, f8_j8 L g f (k : Int) = some b := by
     unfold f8_j8
     cases g
     ·rw [cond_false, guardF_pos (by omega)]; exact ⟨_, rfl⟩
     ·exact ⟨_, rfl⟩
    obtain ⟨b, eb⟩ := ej
    refine .inr ⟨(IntKind.i64.wrap (IntKind.i64.wrap (all + IntKind.i64.wrap (f * rd (0 : Int) L (k : Int))) + rd (0 : Int) L (k : Int)), b, rd (0 : Int) L (k : Int), ((k + 1 : Nat) : Int), l2 ++ [ly0 (rd (0 : Int) L (k : Int))]), fun go => ?_, ⟨k + 1, h, rfl, by simp [hlen], fun i hi hik => ?_⟩, by simp only [Int.toNat_natCast]; omega⟩
    ·have g3 : (List.length l2 + List.length [ly0 (rd (0 : Int) L (k : Int))]) * 32 ≤ 140737488355328 := by simp only [List.length_cons, List.length_nil]; omega
     unfold f8_l6
     simp only
     rw [dT (by omega), cond_true, counts_j7 L k h, if_pos hr, bindF_some, sumF_inl, guardF_pos (by omega), guardF_pos g3, eb, bindF_some, guardF_pos (by omega), guardF_pos (by omega), guardF_pos (by omega), wsucc k (by omega)]
    ·by_cases e : i = k
     ·subst e; exact hr
     ·exact hp i hi (by omega)
   ·refine .inl ⟨Sum.inl (), fun go => ?_, rfl⟩
    unfold f8_l6
    simp only
    rw [dT (by omega), cond_true, counts_j7 L k h, if_neg hr, bindF_some, sumF_inr]
  ·refine absurd (fun x hx => ?_) hn
   obtain ⟨i, hi, rfl⟩ := List.getElem_of_mem hx
   exact hp i hi (by omega)
theorem counts_yes {a : Int} {L : List Int} (D : DI a L) :
  loopF (fun go (x : Int × Bool × Int × Int × List Lay) => f8_l6 L go x.1 x.2.1 x.2.2.1 x.2.2.2.1 x.2.2.2.2) fuelN ((0 : Int), false, a, (0 : Int), []) = some (Sum.inr (allS a L L.length, grt a L L.length, L.map ly0)) := by
 have hl := D.il
 have LL := loop_for (B := fun go (x : Int × Bool × Int × Int × List Lay) => f8_l6 L go x.1 x.2.1 x.2.2.1 x.2.2.2.1 x.2.2.2.2) (fun k => (allS a L k, grt a L k, fr a L k, (k : Int), (L.take k).map ly0)) L.length (Sum.inr (allS a L L.length, grt a L L.length, L.map ly0)) ?_ ?_ (by omega)
 ·exact LL
 ·intro k hk go
  obtain ⟨m1, m2⟩ := fr_mul D k hk
  obtain ⟨b1, b2⟩ := fr_in D k hk
  obtain ⟨s1, s2⟩ := allS_in D k (by omega)
  have er : rd (0 : Int) L (k : Int) = fr a L (k + 1) := by rw [rd_nat _ _ _ hk, fr_succ k hk]
  have hr : 1 ≤ L[k] ∧ L[k] ≤ 256 := D.ir _ (List.getElem_mem hk)
  have g3 : (List.length ((L.take k).map ly0) + List.length [ly0 (fr a L (k + 1))]) * 32 ≤ 140737488355328 := by simp only [List.length_cons, List.length_nil, List.length_map, List.length_take]; omega
  have ej : f8_j8 L (grt a L k) (fr a L k) (k : Int) = some (grt a L (k + 1)) := by
   unfold f8_j8
   rw [er, wrap_i64 (by omega) (by omega)]
   simp only [grt]
   cases grt a L k
   ·rw [cond_false, guardF_pos (by omega), Bool.false_or]
   ·rfl
  have et : (L.take (k + 1)).map ly0 = (L.take k).map ly0 ++ [ly0 (fr a L (k + 1))] := by
   rw [List.take_succ_eq_append_getElem hk, List.map_append, fr_succ k hk]; rfl
  unfold f8_l6
  simp only
  rw [dT (by omega), cond_true, counts_j7 L k hk, if_pos hr, bindF_some, sumF_inl, guardF_pos (by omega), er, guardF_pos g3, ej, bindF_some, guardF_pos (by omega), guardF_pos (by omega), guardF_pos (by omega), wsucc k (by omega), et]
  simp only [allS]
  rw [wrap_i64 (n := fr a L k * fr a L (k + 1)) (by omega) (by omega), wrap_i64 (n := allS a L k + fr a L k * fr a L (k + 1)) (by omega) (by omega), wrap_i64 (by omega) (by omega)]
 ·intro go
  unfold f8_l6
  simp only
  rw [dF (by omega), cond_false, List.take_length]
theorem lawCounts (a : Int) (L : List Int) : f8 a L = some true := by
 unfold f8
 rw [awake12, bindF_some, Bool.not_true, cond_false]
 rcases counts_j1 a L with ⟨ej, h1, h2, h3⟩ | ej
 ·rw [ej, bindF_some, sumF_inl]
  by_cases hall : ∀ x ∈ L, 1 ≤ x ∧ x ≤ 256
  ·have D : DI a L := ⟨⟨h1, h2⟩, h3, hall⟩
   have ep : f12 ([a], L.map ly0) = some (if grt a L L.length = true ∨ allS a L L.length > 4096 then (0, 2) else (allS a L L.length, 0)) := params_d D
   have e := counts_yes D
   rw [e, bindF_some, sumF_inr]
   simp only
   rw [ep, bindF_some]
   unfold f8_j10 f8_j11
   simp only
   cases hg : grt a L L.length
   ·by_cases h4 : allS a L L.length > 4096
    ·rw [cond_false, dT h4, if_pos (.inr h4)]; rfl
    ·rw [cond_false, dF h4, if_neg (by simp; omega)]
     simp only [bindF_some, cond_false, sumF_inl]
     rw [bT rfl, cond_true, bT rfl]
   ·rw [if_pos (.inl rfl)]; rfl
  ·have e := counts_no a L h3 hall
   rw [e, bindF_some, sumF_inl]
 ·rw [ej, bindF_some, sumF_inr]
end Go.Proofs.Cv
namespace Go.Proofs.PlG
open Go.AM Go.Proofs.PlW
end Go.Proofs.PlG

