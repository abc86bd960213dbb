import Derived.Test.YtlgiakkejlbbfaaGreatBackChainS4
import Derived.Test.YtlgiakkejlbbfaaGreatAmY
set_option linter.unusedVariables false
set_option linter.unusedSimpArgs false
set_option maxRecDepth 100000
set_option linter.unusedSectionVars false

namespace Go.AM
theorem bindF_some {X Y : Type} (x : X) (f : X → Option Y) : bindF (some x) f = f x := rfl
theorem sumF_inl {A B Y : Type} (a : A) (f : A → Option Y) (g : B → Option Y) : sumF (.inl a) f g = f a := rfl
theorem sumF_inr {A B Y : Type} (b : B) (f : A → Option Y) (g : B → Option Y) : sumF (.inr b) f g = g b := rfl
theorem guardF_pos {Y : Type} {p : Prop} [Decidable p] {r : Option Y} (h : p) : guardF p r = r := if_pos h
theorem loopF_succ {X Z : Type} (B : (X → Option Z) → X → Option Z) (n : Nat) (x : X) : loopF B (n + 1) x = B (loopF B n) x := rfl
theorem loop_inv {X Z : Type} {B : (X → Option Z) → X → Option Z} (I : X → Prop) (μ : X → Nat) (Q : Z → Prop)
  (h : ∀ x, I x → (∃ z, (∀ go, B go x = some z) ∧ Q z) ∨ (∃ y, (∀ go, B go x = go y) ∧ I y ∧ μ y < μ x)) :
  ∀ (n : Nat) (x : X), I x → μ x < n → ∃ z, loopF B n x = some z ∧ Q z
 | 0, x, _, hm => absurd hm (Nat.not_lt_zero _)
 | n + 1, x, hi, hm => by
  rw [loopF_succ]
  rcases h x hi with ⟨z, h1, h2⟩ | ⟨y, h1, h2, h3⟩
  ·exact ⟨z, h1 _, h2⟩
  ·rw [h1]; exact loop_inv I μ Q h n y h2 (by omega)
theorem loop_fuel {X Z : Type} {B : (X → Option Z) → X → Option Z} (I : X → Prop) (μ : X → Nat) (Q : Z → Prop)
  (h : ∀ x, I x → (∃ z, (∀ go, B go x = some z) ∧ Q z) ∨ (∃ y, (∀ go, B go x = go y) ∧ I y ∧ μ y < μ x)) (x : X) (hi : I x) (hm : μ x < 18446744073709551616) :
  ∃ z, loopF B fuelN x = some z ∧ Q z := loop_inv I μ Q h fuelN x hi hm
theorem wrap_i64 {n : Int} (h1 : -9223372036854775808 ≤ n) (h2 : n < 9223372036854775808) : IntKind.i64.wrap n = n := by
 simp only [IntKind.wrap, IntKind.signed, IntKind.bits]
 have : n % 2 ^ 64 = if 0 ≤ n then n else n + 18446744073709551616 := by
  split <;> omega
 simp only [this]
 split <;> split <;> simp_all <;> omega
theorem rd_nat {α : Type} (z : α) (xs : List α) (i : Nat) (h : i < xs.length) : rd z xs (i : Int) = xs[i] := by
 simp [rd, h]
end Go.AM
namespace Go.Proofs.PlB
open Go.AM
theorem clone_d (d : List Int) (h : d.length ≤ 17592186044416) : f78 d = some d := by
 unfold f78 nilF
 cases d with
 | nil => rfl
 | cons x r =>
  simp only
  rw [guardF_pos (by simp at h ⊢; omega)]
  rfl
def pgo : Int → List Int → Int
 | n, [] => n
 | n, x :: r => if x < 1 ∨ x > 4096 ∨ n * x > 4096 then 0 else pgo (n * x) r
def prd (d : List Int) : Int := if d.length > 4 then 0 else pgo 1 d
theorem drop_cons {α : Type} (d : List α) (k : Nat) (h : k < d.length) : d.drop k = d[k] :: d.drop (k + 1) := by
 rw [List.drop_eq_getElem_cons h]
theorem product_ok (d : List Int) : f122 d = some (prd d) := by
 unfold f122 prd
 by_cases h4 : d.length > 4
 ·rw [show decide ((List.length d : Int) > 4) = true by simp; omega, if_pos h4]; rfl
 ·rw [show decide ((List.length d : Int) > 4) = false by simp; omega, if_neg h4]
  simp only [cond_false]
  have H : ∀ x : Int × Int, (∃ k : Nat, x.2 = (k : Int) ∧ k ≤ d.length ∧ 1 ≤ x.1 ∧ x.1 ≤ 4096 ∧ pgo x.1 (d.drop k) = pgo 1 d) →
    (∃ z, (∀ go, f122_l3 d go x.1 x.2 = some z) ∧ ((z = Sum.inl () ∧ pgo 1 d = 0) ∨ z = Sum.inr (pgo 1 d))) ∨
    (∃ y : Int × Int, (∀ go, f122_l3 d go x.1 x.2 = go y) ∧ (∃ k : Nat, y.2 = (k : Int) ∧ k ≤ d.length ∧ 1 ≤ y.1 ∧ y.1 ≤ 4096 ∧ pgo y.1 (d.drop k) = pgo 1 d) ∧ ((d.length : Int) - y.2).toNat < ((d.length : Int) - x.2).toNat) := by
   rintro ⟨n, _⟩ ⟨k, rfl, hk, hn1, hn2, hp⟩
   simp only at hn1 hn2 hp ⊢
   by_cases hlt : k < d.length
   ·rw [drop_cons d k hlt] at hp
    simp only [pgo] at hp
    have hrd : rd (0 : Int) d (k : Int) = d[k] := rd_nat _ _ _ hlt
    by_cases c1 : d[k] < 1
    ·left
     rw [if_pos (.inl c1)] at hp
     refine ⟨Sum.inl (), fun go => ?_, .inl ⟨rfl, hp.symm⟩⟩
     simp only [f122_l3, f122_j4, hrd]
     rw [show decide ((k : Int) < (d.length : Int)) = true by simpa using hlt, show decide (d[k] < (1 : Int)) = true by simpa using c1]
     simp only [cond_true]
     rw [guardF_pos (by omega)]
     rfl
    ·by_cases c2 : d[k] > 4096
     ·left
      rw [if_pos (.inr (.inl c2))] at hp
      refine ⟨Sum.inl (), fun go => ?_, .inl ⟨rfl, hp.symm⟩⟩
      simp only [f122_l3, f122_j4, hrd]
      rw [show decide ((k : Int) < (d.length : Int)) = true by simpa using hlt, show decide (d[k] < (1 : Int)) = false by simpa using c1, show decide (d[k] > (4096 : Int)) = true by simpa using c2]
      simp only [cond_true, cond_false]
      rw [guardF_pos (by omega)]
      rfl
     ·have hb1 : n * d[k] ≤ 4096 * 4096 := Int.mul_le_mul hn2 (by omega) (by omega) (by omega)
      have hb0 : 1 * 1 ≤ n * d[k] := Int.mul_le_mul hn1 (by omega) (by omega) (by omega)
      have hw : IntKind.i64.wrap (n * d[k]) = n * d[k] := wrap_i64 (by omega) (by omega)
      by_cases c3 : n * d[k] > 4096
      ·left
       rw [if_pos (.inr (.inr c3))] at hp
       refine ⟨Sum.inl (), fun go => ?_, .inl ⟨rfl, hp.symm⟩⟩
       simp only [f122_l3, f122_j4, hrd, hw]
       rw [show decide ((k : Int) < (d.length : Int)) = true by simpa using hlt, show decide (d[k] < (1 : Int)) = false by simpa using c1, show decide (d[k] > (4096 : Int)) = false by simpa using c2, show decide (n * d[k] > (4096 : Int)) = true by simpa using c3]
       simp only [cond_true, cond_false]
       rw [guardF_pos (by omega)]
       rfl
      ·right
       rw [if_neg (by omega)] at hp
       refine ⟨(n * d[k], ((k + 1 : Nat) : Int)), fun go => ?_, ⟨k + 1, rfl, hlt, by simp only; omega, by simp only; omega, hp⟩, by simp only; omega⟩
       simp only [f122_l3, f122_j4, hrd, hw]
       rw [show decide ((k : Int) < (d.length : Int)) = true by simpa using hlt, show decide (d[k] < (1 : Int)) = false by simpa using c1, show decide (d[k] > (4096 : Int)) = false by simpa using c2, show decide (n * d[k] > (4096 : Int)) = false by simpa using c3]
       simp only [cond_true, cond_false]
       rw [guardF_pos (by omega), wrap_i64 (by omega) (by omega)]
       rfl
   ·left
    have : k = d.length := by omega
    subst this
    simp only [List.drop_length, pgo] at hp
    refine ⟨Sum.inr n, fun go => ?_, .inr (by rw [hp])⟩
    simp only [f122_l3]
    rw [show decide ((d.length : Int) < (d.length : Int)) = false by simp]
    rfl
  obtain ⟨z, e, hz⟩ := loop_fuel (B := fun go (x : Int × Int) => f122_l3 d go x.1 x.2) _ (fun x => ((d.length : Int) - x.2).toNat) _ H ((1 : Int), (0 : Int)) ⟨0, rfl, Nat.zero_le _, by decide, by decide, rfl⟩ (by simp; omega)
  rw [e]
  simp only [bindF_some]
  rcases hz with ⟨rfl, h0⟩ | rfl
  ·simp only [sumF_inl, h0]
  ·simp only [sumF_inr]
theorem shapeGood_ok (d : List Int) : f76 d = some (decide (prd d > 0)) := by
 unfold f76
 simp only [product_ok, bindF_some]
theorem size_ok (d : List Int) : f77 d = some (prd d) := by
 unfold f77
 simp only [product_ok, bindF_some]
def tgood (t : List Int × List Int) : Bool := decide (prd t.1 > 0) && ((t.2.length : Int) == prd t.1)
theorem good_ok (t : List Int × List Int) : f33 t = some (tgood t) := by
 unfold f33 tgood
 simp only [shapeGood_ok, size_ok, bindF_some]
 cases decide (prd t.1 > 0) <;> rfl
end Go.Proofs.PlB
namespace Go.Proofs.PlW
open Go.AM
theorem wu (n : Int) : IntKind.u64.wrap n = n % 18446744073709551616 := by
 simp [IntKind.wrap, IntKind.signed, IntKind.bits]
theorem wi (n : Int) : IntKind.i64.wrap n = if n % 18446744073709551616 ≥ 9223372036854775808 then n % 18446744073709551616 - 18446744073709551616 else n % 18446744073709551616 := by
 simp [IntKind.wrap, IntKind.signed, IntKind.bits]
theorem wu_wi (n : Int) : IntKind.u64.wrap (IntKind.i64.wrap n) = n % 18446744073709551616 := by
 rw [wu, wi]; split <;> omega
theorem wi_mod (n : Int) : IntKind.i64.wrap (n % 18446744073709551616) = IntKind.i64.wrap n := by
 rw [wi, wi, Int.emod_emod_of_dvd _ (Int.dvd_refl _)]
theorem sh32u (x : Int) : Int.fdiv x (2 ^ min (Int.toNat (32 : Int)) (IntKind.bits IntKind.u64)) = x / 4294967296 := by
 rw [show ((2 : Int) ^ min (Int.toNat (32 : Int)) (IntKind.bits IntKind.u64)) = 4294967296 from rfl]
 exact Int.fdiv_eq_ediv_of_nonneg _ (by decide)
theorem sh63i (x : Int) : Int.fdiv x (2 ^ min (Int.toNat (63 : Int)) (IntKind.bits IntKind.i64)) = x / 9223372036854775808 := by
 rw [show ((2 : Int) ^ min (Int.toNat (63 : Int)) (IntKind.bits IntKind.i64)) = 9223372036854775808 from rfl]
 exact Int.fdiv_eq_ediv_of_nonneg _ (by decide)
theorem bits_nat (f : BitVec 64 → BitVec 64 → BitVec 64) (a b : Int) : bitsOf IntKind.u64 f a b = ((f (BitVec.ofInt 64 a) (BitVec.ofInt 64 b)).toNat : Int) := by
 have h : bitsOf IntKind.u64 f a b = IntKind.u64.wrap (((f (BitVec.ofInt 64 a) (BitVec.ofInt 64 b)).toNat : Nat) : Int) := rfl
 rw [h, wu]
 have := (f (BitVec.ofInt 64 a) (BitVec.ofInt 64 b)).isLt
 omega
theorem ofInt_nat (a : Int) (h0 : 0 ≤ a) (h1 : a < 18446744073709551616) : (BitVec.ofInt 64 a).toNat = a.toNat := by
 rw [BitVec.toNat_ofInt]
 have : a % ((2 ^ 64 : Nat) : Int) = a := Int.emod_eq_of_lt h0 (by simpa using h1)
 rw [this]
theorem and_nat (a b : Int) (h0 : 0 ≤ a) (h1 : a < 18446744073709551616) (g0 : 0 ≤ b) (g1 : b < 18446744073709551616) :
  bitsOf IntKind.u64 (fun p q => p &&& q) a b = ((a.toNat &&& b.toNat : Nat) : Int) := by
 refine (bits_nat (fun p q => p &&& q) a b).trans ?_
 rw [BitVec.toNat_and, ofInt_nat a h0 h1, ofInt_nat b g0 g1]
theorem or_nat (a b : Int) (h0 : 0 ≤ a) (h1 : a < 18446744073709551616) (g0 : 0 ≤ b) (g1 : b < 18446744073709551616) :
  bitsOf IntKind.u64 (fun p q => p ||| q) a b = ((a.toNat ||| b.toNat : Nat) : Int) := by
 refine (bits_nat (fun p q => p ||| q) a b).trans ?_
 rw [BitVec.toNat_or, ofInt_nat a h0 h1, ofInt_nat b g0 g1]
theorem and32 (x : Int) (h0 : 0 ≤ x) (h1 : x < 18446744073709551616) : bitsOf IntKind.u64 (fun p q => p &&& q) x 4294967295 = x % 4294967296 := by
 rw [and_nat x _ h0 h1 (by decide) (by decide)]
 have := Nat.and_two_pow_sub_one_eq_mod x.toNat 32
 rw [show (4294967295 : Int).toNat = 2 ^ 32 - 1 from rfl, this]
 omega
theorem and1 (x : Int) (h0 : 0 ≤ x) (h1 : x < 18446744073709551616) : bitsOf IntKind.u64 (fun p q => p &&& q) x 1 = x % 2 := by
 rw [and_nat x _ h0 h1 (by decide) (by decide)]
 have := Nat.and_two_pow_sub_one_eq_mod x.toNat 1
 rw [show (1 : Int).toNat = 2 ^ 1 - 1 from rfl, this]
 omega
theorem or32 (a b : Int) (h0 : 0 ≤ a) (h1 : a < 4294967296) (g0 : 0 ≤ b) (g1 : b < 4294967296) : bitsOf IntKind.u64 (fun p q => p ||| q) (a * 4294967296) b = a * 4294967296 + b := by
 rw [or_nat _ _ (by omega) (by omega) (by omega) (by omega)]
 have := Nat.two_pow_add_eq_or_of_lt (i := 32) (b := b.toNat) (by omega) a.toNat
 rw [show (a * 4294967296).toNat = 2 ^ 32 * a.toNat by omega, ← this]
 omega
theorem add_ok (x y c : Int) (h0 : 0 ≤ x) (h1 : 0 ≤ y) (h2 : 0 ≤ c) (h3 : c ≤ 1) : add64 x y c = some ((x + y + c) % 18446744073709551616, (x + y + c) / 18446744073709551616) := by
 unfold add64
 rw [show Nat.ble c.toNat 1 = true by rw [Nat.ble_eq]; omega]
 simp only [Option.some.injEq, Prod.mk.injEq, Int.ofNat_eq_natCast]
 constructor <;> omega
theorem sub_ok (x y c : Int) (h0 : 0 ≤ x) (h0' : x < 18446744073709551616) (h1 : 0 ≤ y) (h1' : y < 18446744073709551616) (h2 : 0 ≤ c) (h3 : c ≤ 1) :
  sub64 x y c = some ((x - y - c) % 18446744073709551616, if x < y + c then 1 else 0) := by
 unfold sub64
 rw [show Nat.ble c.toNat 1 = true by rw [Nat.ble_eq]; omega]
 simp only [Option.some.injEq, Prod.mk.injEq, Int.ofNat_eq_natCast]
 constructor
 ·omega
 ·by_cases h : x < y + c
  ·rw [if_pos h, if_pos (by omega)]
  ·rw [if_neg h, if_neg (by omega)]
theorem size_ok (v : Int) (h0 : -9223372036854775808 ≤ v) (h1 : v < 9223372036854775808) : f149 v = some (if v < 0 then -v else v) := by
 unfold f149
 by_cases h : v < 0
 ·rw [show decide (v < 0) = true by simpa using h, if_pos h]
  simp only [cond_true, wu, Option.some.injEq]
  omega
 ·rw [show decide (v < 0) = false by simpa using h, if_neg h]
  simp only [cond_false, wu, Option.some.injEq]
  omega
theorem mul_bound (a b : Int) (h0 : 0 ≤ a) (h1 : a ≤ 4294967295) (g0 : 0 ≤ b) (g1 : b ≤ 4294967295) : 0 ≤ a * b ∧ a * b ≤ 18446744065119617025 :=
 ⟨Int.mul_nonneg h0 g0, Int.mul_le_mul h1 g1 g0 (by decide)⟩
theorem mul64_ok (x y : Int) (h0 : 0 ≤ x) (h1 : x < 18446744073709551616) (g0 : 0 ≤ y) (g1 : y < 18446744073709551616) :
  f164 x y = some (x * y / 18446744073709551616, x * y % 18446744073709551616) := by
 unfold f164
 have x1 := Int.mul_ediv_add_emod x 4294967296
 have y1 := Int.mul_ediv_add_emod y 4294967296
 simp only [sh32u, and32 x h0 h1, and32 y g0 g1, wu]
 rw [and32 _ (by omega) (by omega)]
 generalize hx1 : x / 4294967296 = a at *
 generalize hx0 : x % 4294967296 = b at *
 generalize hy1 : y / 4294967296 = c at *
 generalize hy0 : y % 4294967296 = d at *
 obtain ⟨p0, p1⟩ := mul_bound a c (by omega) (by omega) (by omega) (by omega)
 obtain ⟨q0, q1⟩ := mul_bound a d (by omega) (by omega) (by omega) (by omega)
 obtain ⟨r0, r1⟩ := mul_bound b c (by omega) (by omega) (by omega) (by omega)
 obtain ⟨s0, s1⟩ := mul_bound b d (by omega) (by omega) (by omega) (by omega)
 have hxy : x * y = 18446744073709551616 * (a * c) + 4294967296 * (a * d) + 4294967296 * (b * c) + b * d := by
  rw [← x1, ← y1, Int.add_mul, Int.mul_add, Int.mul_add]
  have e1 : 4294967296 * a * (4294967296 * c) = 18446744073709551616 * (a * c) := by
   rw [show (18446744073709551616 : Int) = 4294967296 * 4294967296 from rfl]; ac_rfl
  have e2 : 4294967296 * a * d = 4294967296 * (a * d) := Int.mul_assoc _ _ _
  have e3 : b * (4294967296 * c) = 4294967296 * (b * c) := Int.mul_left_comm _ _ _
  rw [e1, e2, e3]; omega
 rw [hxy]
 generalize a * c = P at *
 generalize a * d = Q at *
 generalize b * c = R at *
 generalize b * d = S at *
 have w0 : ∀ n : Int, 0 ≤ n → n < 18446744073709551616 → n % 18446744073709551616 = n := fun n h0 h1 => Int.emod_eq_of_lt h0 h1
 rw [w0 P (by omega) (by omega), w0 Q (by omega) (by omega), w0 R (by omega) (by omega), w0 S (by omega) (by omega)]
 rw [w0 (Q + S / 4294967296) (by omega) (by omega)]
 rw [w0 ((Q + S / 4294967296) % 4294967296 + R) (by omega) (by omega)]
 rw [w0 (P + (Q + S / 4294967296) / 4294967296) (by omega) (by omega)]
 rw [w0 (P + (Q + S / 4294967296) / 4294967296 + ((Q + S / 4294967296) % 4294967296 + R) / 4294967296) (by omega) (by omega)]
 have hh : (18446744073709551616 * P + 4294967296 * Q + 4294967296 * R + S) / 18446744073709551616 = P + (Q + S / 4294967296) / 4294967296 + ((Q + S / 4294967296) % 4294967296 + R) / 4294967296 := by omega
 rw [hh]
theorem prod_ok (a b : Int) (a0 : -9223372036854775808 ≤ a) (a1 : a < 9223372036854775808) (b0 : -9223372036854775808 ≤ b) (b1 : b < 9223372036854775808) :
  f167 a b = some (a * b / 18446744073709551616, a * b % 18446744073709551616) := by
 unfold f167
 rw [size_ok a a0 a1, size_ok b b0 b1]
 simp only [bindF_some]
 have key : ∀ x y : Int, 0 ≤ x → x ≤ 9223372036854775808 → 0 ≤ y → y ≤ 9223372036854775808 → 0 ≤ x * y ∧ x * y ≤ 85070591730234615865843651857942052864 := fun x y h0 h1 g0 g1 => ⟨Int.mul_nonneg h0 g0, Int.mul_le_mul h1 g1 g0 (by decide)⟩
 have pos : ∀ q : Int, 0 ≤ q → q ≤ 85070591730234615865843651857942052864 → IntKind.i64.wrap (q / 18446744073709551616) = q / 18446744073709551616 := fun q h0 h1 => wrap_i64 (by omega) (by omega)
 have neg : ∀ q : Int, 0 ≤ q → q ≤ 85070591730234615865843651857942052864 → f152 (q / 18446744073709551616, q % 18446744073709551616) = some (-q / 18446744073709551616, -q % 18446744073709551616) := fun q h0 h1 => by
  unfold f152 f175
  simp only
  rw [sub_ok _ _ _ (by omega) (by omega) (by omega) (by omega) (by omega) (by omega)]
  simp only [bindF_some, wu]
  rw [sub_ok _ _ _ (by omega) (by omega) (by omega) (by omega) (by split <;> omega) (by split <;> omega)]
  simp only [bindF_some, Option.some.injEq, Prod.mk.injEq]
  constructor
  ·rw [wi]; split <;> split <;> omega
  ·omega
 by_cases ha : a < 0 <;> by_cases hb : b < 0
 ·rw [show (decide (a < 0) == decide (b < 0)) = true by simp [ha, hb], if_pos ha, if_pos hb]
  obtain ⟨k0, k1⟩ := key (-a) (-b) (by omega) (by omega) (by omega) (by omega)
  rw [mul64_ok _ _ (by omega) (by omega) (by omega) (by omega)]
  simp only [bindF_some, Bool.not_true, cond_false]
  rw [Int.neg_mul_neg] at *
  rw [pos _ k0 k1]
 ·rw [show (decide (a < 0) == decide (b < 0)) = false by simp [ha, hb], if_pos ha, if_neg hb]
  obtain ⟨k0, k1⟩ := key (-a) b (by omega) (by omega) (by omega) (by omega)
  rw [mul64_ok _ _ (by omega) (by omega) (by omega) (by omega)]
  simp only [bindF_some, Bool.not_false, cond_true]
  rw [pos _ k0 k1, neg _ k0 k1]
  simp only [bindF_some, Int.neg_mul, Int.neg_neg]
 ·rw [show (decide (a < 0) == decide (b < 0)) = false by simp [ha, hb], if_neg ha, if_pos hb]
  obtain ⟨k0, k1⟩ := key a (-b) (by omega) (by omega) (by omega) (by omega)
  rw [mul64_ok _ _ (by omega) (by omega) (by omega) (by omega)]
  simp only [bindF_some, Bool.not_false, cond_true]
  rw [pos _ k0 k1, neg _ k0 k1]
  simp only [bindF_some, Int.mul_neg, Int.neg_neg]
 ·rw [show (decide (a < 0) == decide (b < 0)) = true by simp [ha, hb], if_neg ha, if_neg hb]
  obtain ⟨k0, k1⟩ := key a b (by omega) (by omega) (by omega) (by omega)
  rw [mul64_ok _ _ (by omega) (by omega) (by omega) (by omega)]
  simp only [bindF_some, Bool.not_true, cond_false]
  rw [pos _ k0 k1]
theorem prod_bound (a b : Int) (a0 : -9223372036854775808 ≤ a) (a1 : a < 9223372036854775808) (b0 : -9223372036854775808 ≤ b) (b1 : b < 9223372036854775808) :
  -85070591730234615865843651857942052864 ≤ a * b ∧ a * b ≤ 85070591730234615865843651857942052864 := by
 have key : ∀ x y : Int, 0 ≤ x → x ≤ 9223372036854775808 → 0 ≤ y → y ≤ 9223372036854775808 → 0 ≤ x * y ∧ x * y ≤ 85070591730234615865843651857942052864 := fun x y h0 h1 g0 g1 => ⟨Int.mul_nonneg h0 g0, Int.mul_le_mul h1 g1 g0 (by decide)⟩
 by_cases ha : a < 0 <;> by_cases hb : b < 0
 ·have := key (-a) (-b) (by omega) (by omega) (by omega) (by omega)
  rw [Int.neg_mul_neg] at this; omega
 ·have := key (-a) b (by omega) (by omega) (by omega) (by omega)
  rw [Int.neg_mul] at this; omega
 ·have := key a (-b) (by omega) (by omega) (by omega) (by omega)
  rw [Int.mul_neg] at this; omega
 ·have := key a b (by omega) (by omega) (by omega) (by omega)
  omega
theorem dd (S : Int) : S / 340282366920938463463374607431768211456 = S / 18446744073709551616 / 18446744073709551616 := by omega
theorem sum_div (S p : Int) : (S + p) / 18446744073709551616 = S / 18446744073709551616 + p / 18446744073709551616 + (S % 18446744073709551616 + p % 18446744073709551616) / 18446744073709551616 := by omega
theorem sum_div3 (s q k : Int) : (s + q + k) / 18446744073709551616 = s / 18446744073709551616 + q / 18446744073709551616 + (s % 18446744073709551616 + q % 18446744073709551616 + k) / 18446744073709551616 := by omega
theorem plus_ok (S a b : Int) (s0 : -1000000000000000000000000000000000000000000000 ≤ S) (s1 : S ≤ 1000000000000000000000000000000000000000000000)
  (a0 : -9223372036854775808 ≤ a) (a1 : a < 9223372036854775808) (b0 : -9223372036854775808 ≤ b) (b1 : b < 9223372036854775808) :
  f133 (S / 340282366920938463463374607431768211456) (IntKind.i64.wrap (S / 18446744073709551616)) (S % 18446744073709551616) a b =
   some ((S + a * b) / 340282366920938463463374607431768211456, IntKind.i64.wrap ((S + a * b) / 18446744073709551616), (S + a * b) % 18446744073709551616) := by
 obtain ⟨p0, p1⟩ := prod_bound a b a0 a1 b0 b1
 unfold f133
 rw [prod_ok a b a0 a1 b0 b1]
 generalize a * b = p at *
 simp only [bindF_some]
 rw [add_ok _ _ _ (by omega) (by omega) (by omega) (by omega)]
 simp only [bindF_some, wu_wi]
 rw [wu, add_ok _ _ _ (by omega) (by omega) (by omega) (by omega)]
 simp only [bindF_some, sh63i, Option.some.injEq, Prod.mk.injEq, Int.add_zero]
 have hk0 : 0 ≤ (S % 18446744073709551616 + p % 18446744073709551616) / 18446744073709551616 := by omega
 have hk1 : (S % 18446744073709551616 + p % 18446744073709551616) / 18446744073709551616 ≤ 1 := by omega
 have hlo : (S % 18446744073709551616 + p % 18446744073709551616) % 18446744073709551616 = (S + p) % 18446744073709551616 := by omega
 have hs0 : -100000000000000000000000000 ≤ S / 18446744073709551616 := by omega
 have hs1 : S / 18446744073709551616 ≤ 100000000000000000000000000 := by omega
 have hq0 : -4611686018427387905 ≤ p / 18446744073709551616 := by omega
 have hq1 : p / 18446744073709551616 ≤ 4611686018427387905 := by omega
 rw [dd S, dd (S + p), sum_div S p, hlo]
 generalize (S % 18446744073709551616 + p % 18446744073709551616) / 18446744073709551616 = k at *
 generalize S / 18446744073709551616 = s at *
 generalize p / 18446744073709551616 = q at *
 have hc0 : 0 ≤ (s % 18446744073709551616 + q % 18446744073709551616 + k) / 18446744073709551616 := by omega
 have hc1 : (s % 18446744073709551616 + q % 18446744073709551616 + k) / 18446744073709551616 ≤ 1 := by omega
 have hq : q / 9223372036854775808 = q / 18446744073709551616 := by omega
 have hqr : -1 ≤ q / 18446744073709551616 ∧ q / 18446744073709551616 ≤ 0 := by omega
 have hsr : -100000000 ≤ s / 18446744073709551616 ∧ s / 18446744073709551616 ≤ 100000000 := by omega
 refine ⟨?_, ?_, rfl⟩
 ·rw [sum_div3 s q k, hq]
  generalize (s % 18446744073709551616 + q % 18446744073709551616 + k) / 18446744073709551616 = c2 at *
  rw [wrap_i64 (n := c2) (by omega) (by omega), wrap_i64 (n := q / 18446744073709551616 + c2) (by omega) (by omega), wrap_i64 (by omega) (by omega)]
  omega
 ·rw [wi_mod, ← wi_mod, ← wi_mod (s + q + k)]
  congr 1
  omega
def rhe (S : Int) : Int := if S % 4294967296 > 2147483648 ∨ (S % 4294967296 = 2147483648 ∧ S / 4294967296 % 2 = 1) then S / 4294967296 + 1 else S / 4294967296
def sat (x : Int) : Int := if x ≥ 9223372036854775808 then 9223372036854775807 else if x < -9223372036854775808 then -9223372036854775808 else x
theorem fix_ok (R : Int) (h0 : -1000000000000000000000000000000000000 ≤ R) (h1 : R ≤ 1000000000000000000000000000000000000) : f138 (R / 18446744073709551616, R % 18446744073709551616) = some (sat R) := by
 unfold f138 f138_j2 f138_j3 sat
 simp only
 by_cases c1 : R / 18446744073709551616 > 0
 ·rw [show decide (R / 18446744073709551616 > 0) = true by simpa using c1]
  simp only [cond_true, bindF_some, sumF_inr]
  rw [if_pos (by omega)]
 ·rw [show decide (R / 18446744073709551616 > 0) = false by simpa using c1]
  simp only [cond_false]
  by_cases c2 : R / 18446744073709551616 = 0
  ·rw [show (R / 18446744073709551616 == 0) = true by simpa using c2]
   simp only [cond_true, bindF_some]
   by_cases c3 : R % 18446744073709551616 ≥ 9223372036854775808
   ·rw [show decide (R % 18446744073709551616 ≥ 9223372036854775808) = true by simpa using c3]
    simp only [cond_true, bindF_some, sumF_inr]
    rw [if_pos (by omega)]
   ·rw [show decide (R % 18446744073709551616 ≥ 9223372036854775808) = false by simpa using c3]
    simp only [cond_false]
    rw [show decide (R / 18446744073709551616 < -1) = false by simp; omega, show (R / 18446744073709551616 == -1) = false by simp; omega]
    simp only [cond_false, bindF_some, sumF_inl]
    rw [if_neg (by omega), if_neg (by omega), wrap_i64 (by omega) (by omega)]
    congr 1; omega
  ·rw [show (R / 18446744073709551616 == 0) = false by simpa using c2]
   simp only [cond_false, bindF_some]
   by_cases c4 : R / 18446744073709551616 < -1
   ·rw [show decide (R / 18446744073709551616 < -1) = true by simpa using c4]
    simp only [cond_true, bindF_some, sumF_inr]
    rw [if_neg (by omega), if_pos (by omega)]
   ·rw [show decide (R / 18446744073709551616 < -1) = false by simpa using c4, show (R / 18446744073709551616 == -1) = true by simp; omega]
    simp only [cond_false, cond_true]
    by_cases c5 : R % 18446744073709551616 < 9223372036854775808
    ·rw [show decide (R % 18446744073709551616 < 9223372036854775808) = true by simpa using c5]
     simp only [cond_true, bindF_some, sumF_inr]
     rw [if_neg (by omega), if_pos (by omega)]
    ·rw [show decide (R % 18446744073709551616 < 9223372036854775808) = false by simpa using c5]
     simp only [cond_false, bindF_some, sumF_inl]
     rw [if_neg (by omega), if_neg (by omega), wi]
     congr 1
     split <;> omega
def inI (l : List Int) : Prop := ∀ x ∈ l, -9223372036854775808 ≤ x ∧ x < 9223372036854775808
end Go.Proofs.PlW
namespace Go.Proofs.PlT
open Go.AM Go.Proofs.PlB Go.Proofs.PlW
theorem lf1 {X Z : Type} (B : (X → Option Z) → X → Option Z) (x : X) : loopF B fuelN x = B (loopF B 18446744073709551615) x := rfl
theorem lf2 {X Z : Type} (B : (X → Option Z) → X → Option Z) (x : X) : loopF B 18446744073709551615 x = B (loopF B 18446744073709551614) x := rfl
theorem lf3 {X Z : Type} (B : (X → Option Z) → X → Option Z) (x : X) : loopF B 18446744073709551614 x = B (loopF B 18446744073709551613) x := rfl
theorem lf4 {X Z : Type} (B : (X → Option Z) → X → Option Z) (x : X) : loopF B 18446744073709551613 x = B (loopF B 18446744073709551612) x := rfl
theorem lf5 {X Z : Type} (B : (X → Option Z) → X → Option Z) (x : X) : loopF B 18446744073709551612 x = B (loopF B 18446744073709551611) x := rfl
theorem pgo_range : ∀ (d : List Int) (n : Int), 0 ≤ n → n ≤ 4096 → 0 ≤ pgo n d ∧ pgo n d ≤ 4096
 | [], n, h0, h1 => ⟨h0, h1⟩
 | x :: r, n, h0, h1 => by
  simp only [pgo]
  split
  ·omega
  ·have : 0 ≤ n * x := Int.mul_nonneg h0 (by omega)
   exact pgo_range r _ this (by omega)
theorem prd_range (d : List Int) : 0 ≤ prd d ∧ prd d ≤ 4096 := by
 unfold prd
 split
 ·omega
 ·exact pgo_range d 1 (by omega) (by omega)
theorem prd_len {d : List Int} (h : 0 < prd d) : d.length ≤ 4 := by
 unfold prd at h
 split at h <;> omega
theorem over_rep (v : Int) (n c m : Nat) (h : c + m ≤ n) : over (List.replicate c v ++ List.replicate (n - c) 0) (c : Int) (List.replicate m v) = List.replicate (c + m) v ++ List.replicate (n - (c + m)) 0 := by
 unfold over
 simp only [Int.toNat_natCast, List.length_replicate]
 rw [List.take_append_of_le_length (by simp), List.take_of_length_le (by simp), List.drop_append, List.drop_of_length_le (by simp), List.nil_append, List.length_replicate, List.drop_replicate, List.replicate_append_replicate]
 congr 2
 omega
theorem repeat_ok (v : Int) (n : Nat) (h : n ≤ 4096) : f80 [v] (n : Int) = some (List.replicate n v) := by
 unfold f80
 rw [show decide ((n : Int) < 0) = false by simp]
 simp only [cond_false, f123]
 rw [mul64_ok _ _ (by rw [wu]; omega) (by rw [wu]; omega) (by rw [wu]; omega) (by rw [wu]; omega)]
 simp only [bindF_some, wu, List.length_cons, List.length_nil]
 have e1 : (((0 + 1 : Nat) : Int) % 18446744073709551616 * ((n : Int) % 18446744073709551616)) = n := by
  rw [show (((0 + 1 : Nat) : Int) % 18446744073709551616) = 1 from rfl, Int.one_mul]; omega
 rw [e1, show (n : Int) / 18446744073709551616 = 0 by omega, show (n : Int) % 18446744073709551616 = n by omega]
 have hj : f80_j1 ((0 : Int), (n : Int)) = some () := by
  unfold f80_j1
  simp only
  rw [show decide ((0 : Int) > 0) = false from rfl, show decide ((n : Int) > 9223372036854775807) = false by simp; omega]
  rfl
 rw [hj, wrap_i64 (by omega) (by omega)]
 simp only [bindF_some, Int.toNat_natCast, List.length_replicate]
 rw [guardF_pos (by omega)]
 have e2 : List.take (n - (0 : Int).toNat) [v] = List.replicate (min n 1) v := by
  cases n with
  | zero => rfl
  | succ n => rw [show min (n + 1) 1 = 1 by omega]; simp
 rw [show (0 : Int).toNat = 0 from rfl] at *
 rw [e2]
 have H : ∀ x : Int × List Int, (∃ c : Nat, x = ((c : Int), List.replicate c v ++ List.replicate (n - c) 0) ∧ c ≤ n ∧ (1 ≤ n → 1 ≤ c)) →
   (∃ z, (∀ go, f80_l2 go x.1 x.2 = some z) ∧ z = List.replicate n v) ∨
   (∃ y : Int × List Int, (∀ go, f80_l2 go x.1 x.2 = go y) ∧ (∃ c : Nat, y = ((c : Int), List.replicate c v ++ List.replicate (n - c) 0) ∧ c ≤ n ∧ (1 ≤ n → 1 ≤ c)) ∧ ((n : Int) - y.1).toNat < ((n : Int) - x.1).toNat) := by
  rintro _ ⟨c, rfl, hc, h1⟩
  have hlen : (List.replicate c v ++ List.replicate (n - c) (0 : Int)).length = n := by simp; omega
  by_cases hlt : c < n
  ·right
   have ht : List.take ((n : Int).toNat - (c : Int).toNat) (List.drop (0 : Int).toNat (List.take (c : Int).toNat (List.replicate c v ++ List.replicate (n - c) (0 : Int)))) = List.replicate (min (n - c) c) v := by
    simp only [Int.toNat_natCast, show (0 : Int).toNat = 0 from rfl, List.drop_zero]
    rw [List.take_append_of_le_length (by simp), List.take_replicate, List.take_replicate]
    congr 1; omega
   refine ⟨(((c + min (n - c) c : Nat) : Int), _), fun go => ?_, ⟨c + min (n - c) c, rfl, by omega, by omega⟩, by simp only; omega⟩
   simp only [f80_l2, hlen]
   rw [show decide ((c : Int) < (n : Int)) = true by simpa using hlt]
   simp only [cond_true]
   rw [guardF_pos (by omega), guardF_pos (by omega), ht, List.length_replicate, wrap_i64 (by omega) (by omega), over_rep v n c _ (by omega)]
   rfl
  ·left
   have : c = n := by omega
   subst this
   refine ⟨_, fun go => ?_, rfl⟩
   simp only [f80_l2, hlen]
   rw [show decide ((c : Int) < (c : Int)) = false by simp]
   simp
 have e3 : (((List.replicate (min n 1) v).length : Int), over (List.replicate n (0 : Int)) 0 (List.replicate (min n 1) v)) = (((min n 1 : Nat) : Int), List.replicate (min n 1) v ++ List.replicate (n - min n 1) 0) := by
  have := over_rep v n 0 (min n 1) (by omega)
  simp only [List.replicate_zero, List.nil_append, Nat.sub_zero, Nat.zero_add] at this
  rw [List.length_replicate]
  exact Prod.ext rfl this
 rw [e3]
 obtain ⟨z, e, rfl⟩ := loop_fuel (B := fun go (x : Int × List Int) => f80_l2 go x.1 x.2) _ (fun x => ((n : Int) - x.1).toNat) _ H _ ⟨min n 1, rfl, by omega, by omega⟩ (by simp only; omega)
 rw [e]
 rfl
theorem new_ok (d : List Int) (v : Int) : f36 d v = some (if 0 < prd d then (0, d, List.replicate (prd d).toNat v) else (1, [], [])) := by
 unfold f36
 rw [shapeGood_ok]
 simp only [bindF_some]
 by_cases h : 0 < prd d
 ·have hl := prd_len h
  have hr := prd_range d
  rw [show decide (prd d > 0) = true by simpa using h, if_pos h, clone_d d (by omega), PlB.size_ok]
  simp only [Bool.not_true, cond_false, bindF_some]
  rw [show prd d = (((prd d).toNat : Nat) : Int) by omega, repeat_ok v _ (by omega)]
  simp only [bindF_some, Int.toNat_natCast]
 ·rw [show decide (prd d > 0) = false by simpa using h, if_neg h]
  rfl
end Go.Proofs.PlT
namespace Go.AM
open Go.Proofs.PlT
theorem dT {p : Prop} [Decidable p] (h : p) : decide p = true := decide_eq_true h
theorem dF {p : Prop} [Decidable p] (h : ¬p) : decide p = false := decide_eq_false h
theorem bT {a b : Int} (h : a = b) : (a == b) = true := by simpa using h
theorem bF {a b : Int} (h : ¬a = b) : (a == b) = false := by simpa using h
theorem nT {a b : Int} (h : ¬a = b) : (a != b) = true := by simpa using h
theorem nF {a b : Int} (h : a = b) : (a != b) = false := by simpa using h
theorem loop_for_aux {X Z : Type} {B : (X → Option Z) → X → Option Z} (s : Nat → X) (n : Nat) (z : Z)
  (hs : ∀ k, k < n → ∀ go, B go (s k) = go (s (k + 1))) (he : ∀ go, B go (s n) = some z) :
  ∀ m k, k ≤ n → n < m + k → loopF B m (s k) = some z
 | 0, k, h1, h2 => absurd h1 (by omega)
 | m + 1, k, h1, h2 => by
  rw [loopF_succ]
  by_cases h : k < n
  ·rw [hs k h]; exact loop_for_aux s n z hs he m (k + 1) h (by omega)
  ·rw [show k = n by omega]; exact he _
theorem loop_for {X Z : Type} {B : (X → Option Z) → X → Option Z} (s : Nat → X) (n : Nat) (z : Z)
  (hs : ∀ k, k < n → ∀ go, B go (s k) = go (s (k + 1))) (he : ∀ go, B go (s n) = some z) (hn : n < 18446744073709551616) :
  loopF B fuelN (s 0) = some z := loop_for_aux s n z hs he fuelN 0 (Nat.zero_le _) (by show n < 18446744073709551616 + 0; omega)
def firstB (P : Nat → Bool) : Nat → Nat → Option Nat
 | k, 0 => none
 | k, n + 1 => if P k then some k else firstB P (k + 1) n
theorem loop_find_aux {X Z : Type} {B : (X → Option Z) → X → Option Z} (s : Nat → X) (P : Nat → Bool) (zx : Nat → Z) (z : Z) (n : Nat)
  (hs : ∀ k, k < n → P k = false → ∀ go, B go (s k) = go (s (k + 1))) (hx : ∀ k, k < n → P k = true → ∀ go, B go (s k) = some (zx k)) (he : ∀ go, B go (s n) = some z) :
  ∀ r m k, k + r = n → r < m → loopF B m (s k) = some (match firstB P k r with | some i => zx i | none => z)
 | 0, 0, k, h1, h2 => absurd h2 (by omega)
 | 0, m + 1, k, h1, h2 => by rw [loopF_succ, show k = n by omega]; exact he _
 | r + 1, 0, k, h1, h2 => absurd h2 (by omega)
 | r + 1, m + 1, k, h1, h2 => by
  rw [loopF_succ]
  unfold firstB
  cases h : P k
  ·rw [hs k (by omega) h]; exact loop_find_aux s P zx z n hs hx he r m (k + 1) (by omega) (by omega)
  ·rw [hx k (by omega) h]; rfl
theorem loop_find {X Z : Type} {B : (X → Option Z) → X → Option Z} (s : Nat → X) (P : Nat → Bool) (zx : Nat → Z) (z : Z) (n : Nat)
  (hs : ∀ k, k < n → P k = false → ∀ go, B go (s k) = go (s (k + 1))) (hx : ∀ k, k < n → P k = true → ∀ go, B go (s k) = some (zx k)) (he : ∀ go, B go (s n) = some z) (hn : n < 18446744073709551616) :
  loopF B fuelN (s 0) = some (match firstB P 0 n with | some i => zx i | none => z) := loop_find_aux s P zx z n hs hx he n fuelN 0 (by omega) (by show n < 18446744073709551616; omega)
theorem firstB_none (P : Nat → Bool) : ∀ n k, (firstB P k n = none ↔ ∀ i, k ≤ i → i < k + n → P i = false)
 | 0, k => by simp only [firstB, true_iff]; intro i h1 h2; omega
 | n + 1, k => by
  unfold firstB
  by_cases h : P k = true
  ·simp only [h, if_true]
   constructor
   ·intro h'; exact absurd h' (by simp)
   ·intro h'; have := h' k (Nat.le_refl _) (by omega); rw [h] at this; exact absurd this (by decide)
  ·rw [if_neg h, firstB_none P n (k + 1)]
   constructor
   ·intro h' i h1 h2
    by_cases hk : i = k
    ·subst hk; simpa using h
    ·exact h' i (by omega) (by omega)
   ·intro h' i h1 h2; exact h' i (by omega) (by omega)
def anyB (n : Nat) (P : Nat → Bool) : Bool := (firstB P 0 n).isSome
theorem anyB_false {n : Nat} {P : Nat → Bool} : anyB n P = false ↔ ∀ i, i < n → P i = false := by
 unfold anyB
 rw [Option.isSome_eq_false_iff, Option.isNone_iff_eq_none, firstB_none]
 constructor
 ·intro h i hi; exact h i (Nat.zero_le _) (by omega)
 ·intro h i _ hi; exact h i (by omega)
theorem loop_any {X Z : Type} {B : (X → Option Z) → X → Option Z} (s : Nat → X) (P : Nat → Bool) (zx z : Z) (n : Nat)
  (hs : ∀ k, k < n → P k = false → ∀ go, B go (s k) = go (s (k + 1))) (hx : ∀ k, k < n → P k = true → ∀ go, B go (s k) = some zx) (he : ∀ go, B go (s n) = some z) (hn : n < 18446744073709551616) :
  loopF B fuelN (s 0) = some (bif anyB n P then zx else z) := by
 rw [loop_find s P (fun _ => zx) z n hs hx he hn]
 unfold anyB
 cases firstB P 0 n <;> rfl
end Go.AM
namespace Go.Proofs.PlB
open Go.AM
theorem clone_v (d : List Int) (h : d.length ≤ 17592186044416) : f79 d = some d := by
 unfold f79 nilF
 cases d with
 | nil => rfl
 | cons x r =>
  simp only
  rw [guardF_pos (by simp at h ⊢; omega)]
  rfl
theorem copy_t (t : List Int × List Int) (h1 : t.1.length ≤ 17592186044416) (h2 : t.2.length ≤ 17592186044416) : f35 t = some t := by
 unfold f35
 simp only [clone_d _ h1, clone_v _ h2, bindF_some]
end Go.Proofs.PlB
namespace Go.Proofs.PlS
open Go.AM Go.Proofs.PlB Go.Proofs.PlW Go.Proofs.PlT
def tabL {α : Type} (n : Nat) (g : Nat → α) : List α := (List.range n).map g
theorem tab_len {α : Type} (n : Nat) (g : Nat → α) : (tabL n g).length = n := by simp [tabL]
theorem tab_get {α : Type} (n : Nat) (g : Nat → α) (i : Nat) (h : i < (tabL n g).length) : (tabL n g)[i] = g i := by simp [tabL]
theorem tab_ext {α : Type} (n : Nat) (g f : Nat → α) (h : ∀ i, i < n → g i = f i) : tabL n g = tabL n f := by
 unfold tabL; exact List.map_congr_left (fun i hi => h i (List.mem_range.1 hi))
theorem tab_set {α : Type} (n : Nat) (g : Nat → α) (j : Nat) (v : α) : (tabL n g).set j v = tabL n (fun i => if i = j then v else g i) := by
 apply List.ext_getElem
 ·simp [tabL]
 ·intro i h1 h2
  rw [List.getElem_set, tab_get _ _ _ h2]
  by_cases h : j = i
  ·rw [if_pos h, if_pos h.symm]
  ·rw [if_neg h, if_neg (Ne.symm h), tab_get]
theorem tab_rep {α : Type} (n : Nat) (v : α) : List.replicate n v = tabL n (fun _ => v) := by
 apply List.ext_getElem
 ·simp [tabL]
 ·intro i h1 h2; simp [tabL]
theorem rd_tab {α : Type} (z : α) (n : Nat) (g : Nat → α) (i : Nat) (h : i < n) : rd z (tabL n g) (i : Int) = g i := by
 rw [rd_nat _ _ _ (by rw [tab_len]; exact h), tab_get]
def prodL : List Int → Int
 | [] => 1
 | x :: r => x * prodL r
theorem pgo_prod : ∀ (d : List Int) (n : Int), 1 ≤ n → 0 < pgo n d → pgo n d = n * prodL d ∧ ∀ x ∈ d, 1 ≤ x ∧ x ≤ 4096
 | [], n, h, hp => ⟨by simp [pgo, prodL], fun x hx => by simp at hx⟩
 | x :: r, n, h, hp => by
  simp only [pgo] at hp ⊢
  by_cases hb : x < 1 ∨ x > 4096 ∨ n * x > 4096
  ·rw [if_pos hb] at hp; exact absurd hp (by decide)
  ·rw [if_neg hb] at hp ⊢
   have h1 : 1 * 1 ≤ n * x := Int.mul_le_mul h (by omega) (by omega) (by omega)
   obtain ⟨e, m⟩ := pgo_prod r (n * x) (by omega) hp
   refine ⟨by rw [e, prodL, Int.mul_assoc], fun y hy => ?_⟩
   rcases List.mem_cons.1 hy with rfl | hy
   ·omega
   ·exact m y hy
theorem prd_prod {d : List Int} (h : 0 < prd d) : prd d = prodL d ∧ (∀ x ∈ d, 1 ≤ x ∧ x ≤ 4096) ∧ d.length ≤ 4 := by
 have hl := prd_len h
 have e : prd d = pgo 1 d := by unfold prd; rw [if_neg (by omega)]
 rw [e] at h ⊢
 obtain ⟨a, b⟩ := pgo_prod d 1 (by omega) h
 exact ⟨by rw [a, Int.one_mul], b, hl⟩
theorem getD_at (d : List Int) (i : Nat) (h : i < d.length) : d.getD i 0 = d[i] := by simp [List.getD, h]
def side (d : List Int) (k : Nat) : Int := if k < d.length then d.getD (d.length - 1 - k) 0 else 1
theorem side_rd (d : List Int) (k : Nat) (h : k < d.length) : rd (0 : Int) d ((d.length - 1 - k : Nat) : Int) = side d k := by
 unfold side
 rw [if_pos h, rd_nat _ _ _ (by omega), getD_at _ _ (by omega)]
theorem side_pos {d : List Int} (h : 0 < prd d) (k : Nat) : 1 ≤ side d k ∧ side d k ≤ 4096 := by
 obtain ⟨_, b, _⟩ := prd_prod h
 unfold side
 split
 ·rw [getD_at _ _ (by omega)]
  exact b _ (List.getElem_mem _)
 ·omega
def strd (d : List Int) (k : Nat) : Int := prodL (d.drop (d.length - k))
theorem strd_zero (d : List Int) : strd d 0 = 1 := by unfold strd; simp [prodL]
theorem strd_all (d : List Int) : strd d d.length = prodL d := by unfold strd; simp
theorem strd_succ (d : List Int) (k : Nat) (h : k < d.length) : strd d (k + 1) = side d k * strd d k := by
 unfold strd side
 rw [if_pos h, getD_at _ _ (by omega)]
 rw [List.drop_eq_getElem_cons (show d.length - (k + 1) < d.length by omega), prodL, show d.length - (k + 1) + 1 = d.length - k by omega]
 congr 2
 omega
theorem strd_pos {d : List Int} (h : 0 < prd d) : ∀ k, k ≤ d.length → 1 ≤ strd d k
 | 0, _ => by rw [strd_zero]; omega
 | k + 1, hk => by
  rw [strd_succ d k hk]
  have := strd_pos h k (by omega)
  have hs := (side_pos h k).1
  have : 1 * 1 ≤ side d k * strd d k := Int.mul_le_mul hs this (by omega) (by omega)
  omega
theorem strd_mono {d : List Int} (h : 0 < prd d) : ∀ n k, k + n = d.length → strd d k ≤ prodL d
 | 0, k, hk => by rw [show k = d.length by omega, strd_all]; omega
 | n + 1, k, hk => by
  have := strd_mono h n (k + 1) (by omega)
  rw [strd_succ d k (by omega)] at this
  have hs := (side_pos h k).1
  have hp := strd_pos h k (by omega)
  have : 1 * strd d k ≤ side d k * strd d k := Int.mul_le_mul_of_nonneg_right hs (by omega)
  omega
theorem strd_le {d : List Int} (h : 0 < prd d) (k : Nat) (hk : k ≤ d.length) : strd d k ≤ prd d := by
 rw [(prd_prod h).1]; exact strd_mono h (d.length - k) k (by omega)
def strL (d : List Int) : List Int := tabL d.length (fun i => strd d (d.length - 1 - i))
theorem strides (d : List Int) (h : 0 < prd d) : f136 d = some (strL d) := by
 obtain ⟨_, _, hl⟩ := prd_prod h
 have hr := prd_range d
 unfold f136
 rw [shapeGood_ok, show decide (prd d > 0) = true by simpa using h]
 simp only [bindF_some, Bool.not_true, cond_false]
 rw [guardF_pos (by omega)]
 have H : ∀ x : Int × Int × List Int, (∃ k : Nat, k ≤ d.length ∧ x = (strd d k, (d.length : Int) - 1 - k, tabL d.length (fun i => if d.length - 1 - i < k then strd d (d.length - 1 - i) else 0))) →
   (∃ z, (∀ go, f136_l1 d go x.1 x.2.1 x.2.2 = some z) ∧ z = strL d) ∨
   (∃ y : Int × Int × List Int, (∀ go, f136_l1 d go x.1 x.2.1 x.2.2 = go y) ∧ (∃ k : Nat, k ≤ d.length ∧ y = (strd d k, (d.length : Int) - 1 - k, tabL d.length (fun i => if d.length - 1 - i < k then strd d (d.length - 1 - i) else 0))) ∧ (y.2.1 + 1).toNat < (x.2.1 + 1).toNat) := by
  rintro _ ⟨k, hk, rfl⟩
  by_cases hlt : k < d.length
  ·right
   refine ⟨(strd d (k + 1), (d.length : Int) - 1 - ((k + 1 : Nat) : Int), tabL d.length (fun i => if d.length - 1 - i < k + 1 then strd d (d.length - 1 - i) else 0)), fun go => ?_, ⟨k + 1, hlt, rfl⟩, by simp only; omega⟩
   unfold f136_l1
   simp only [tab_len]
   rw [show decide ((d.length : Int) - 1 - (k : Int) ≥ 0) = true by simp; omega]
   simp only [cond_true]
   rw [guardF_pos (by omega), guardF_pos (by omega)]
   rw [show (d.length : Int) - 1 - (k : Int) = ((d.length - 1 - k : Nat) : Int) by omega, side_rd d k hlt, Int.toNat_natCast, tab_set]
   have hs := strd_succ d k hlt
   have hb1 := strd_pos h (k + 1) hlt
   have hb2 := strd_le h (k + 1) hlt
   rw [Int.mul_comm, ← hs, wrap_i64 (n := strd d (k + 1)) (by omega) (by omega), wrap_i64 (by omega) (by omega)]
   congr 1
   refine Prod.ext rfl (Prod.ext (by simp only; omega) (tab_ext _ _ _ (fun i hi => ?_)))
   by_cases he : i = d.length - 1 - k
   ·rw [if_pos he, if_pos (by omega), show d.length - 1 - i = k by omega]
   ·rw [if_neg he]
    by_cases h2 : d.length - 1 - i < k
    ·rw [if_pos h2, if_pos (by omega)]
    ·rw [if_neg h2, if_neg (by omega)]
  ·left
   have : k = d.length := by omega
   subst this
   refine ⟨_, fun go => ?_, rfl⟩
   unfold f136_l1
   simp only
   rw [show decide ((d.length : Int) - 1 - (d.length : Int) ≥ 0) = false by simp; omega]
   simp only [cond_false, Option.some.injEq]
   exact tab_ext _ _ _ (fun i hi => by rw [if_pos (by omega)])
 have e0 : ((1 : Int), IntKind.i64.wrap ((d.length : Int) - 1), List.replicate (Int.toNat (d.length : Int)) (0 : Int)) = (strd d 0, (d.length : Int) - 1 - ((0 : Nat) : Int), tabL d.length (fun i => if d.length - 1 - i < 0 then strd d (d.length - 1 - i) else 0)) := by
  rw [strd_zero, wrap_i64 (by omega) (by omega), Int.toNat_natCast, tab_rep]
  refine Prod.ext rfl (Prod.ext (by simp) (tab_ext _ _ _ (fun i hi => by rw [if_neg (by omega)])))
 rw [e0]
 obtain ⟨z, e, rfl⟩ := loop_fuel (B := fun go (x : Int × Int × List Int) => f136_l1 d go x.1 x.2.1 x.2.2) _ (fun x => (x.2.1 + 1).toNat) _ H _ ⟨0, Nat.zero_le _, rfl⟩ (by simp only; omega)
 rw [e]
 rfl
theorem side_ok (d : List Int) (k : Nat) (hl : d.length ≤ 4096) (hk : k ≤ 4096) : f173 d (k : Int) = some (side d k) := by
 unfold f173
 by_cases h : k < d.length
 ·rw [show decide ((k : Int) ≥ (d.length : Int)) = false by simp; omega]
  simp only [cond_false]
  rw [wrap_i64 (n := (d.length : Int) - 1) (by omega) (by omega), wrap_i64 (by omega) (by omega), guardF_pos (by omega), show (d.length : Int) - 1 - (k : Int) = ((d.length - 1 - k : Nat) : Int) by omega, side_rd d k h]
 ·rw [show decide ((k : Int) ≥ (d.length : Int)) = true by simp; omega]
  simp only [cond_true]
  unfold side
  rw [if_neg h]
structure Joined (a b d : List Int) : Prop where
 pa : 0 < prd a
 pb : 0 < prd b
 pd : 0 < prd d
 len : d.length = max a.length b.length
 le : ∀ k, k < d.length → side d k = max (side a k) (side b k)
 ok : ∀ k, k < d.length → side a k = side b k ∨ side a k = 1 ∨ side b k = 1
end Go.Proofs.PlS
namespace Go.Proofs.PlS
open Go.AM Go.Proofs.PlB Go.Proofs.PlW Go.Proofs.PlT
def rst (big : List Int) (v : Int) : Nat → Int
 | 0 => v
 | k + 1 => rst big v k / side big k
def accS (d big : List Int) (v : Int) : Nat → Int
 | 0 => 0
 | k + 1 => accS d big v k + (if side d k > 1 then rst big v k % side big k * strd d k else 0)
def spX (d big : List Int) (v : Nat) : Int := accS d big v d.length
structure Fits (d big : List Int) : Prop where
 pd : 0 < prd d
 pb : 0 < prd big
 len : d.length ≤ big.length
 eq : ∀ k, k < d.length → 1 < side d k → side big k = side d k
theorem rst_range {big : List Int} (h : 0 < prd big) (v : Int) (v0 : 0 ≤ v) (v1 : v ≤ 4096) : ∀ k, 0 ≤ rst big v k ∧ rst big v k ≤ 4096
 | 0 => ⟨v0, v1⟩
 | k + 1 => by
  obtain ⟨a, b⟩ := rst_range h v v0 v1 k
  have hs := (side_pos h k).1
  simp only [rst]
  exact ⟨Int.ediv_nonneg a (by omega), Int.le_trans (Int.ediv_le_self _ a) b⟩
theorem acc_range {d big : List Int} (h : Fits d big) (v : Int) (v0 : 0 ≤ v) (v1 : v ≤ 4096) : ∀ k, k ≤ d.length → 0 ≤ accS d big v k ∧ accS d big v k < strd d k
 | 0, _ => by simp only [accS, strd_zero]; omega
 | k + 1, hk => by
  obtain ⟨a, b⟩ := acc_range h v v0 v1 k (by omega)
  have hp := strd_pos h.pd k (by omega)
  have hs := (side_pos h.pd k).1
  rw [strd_succ d k hk]
  simp only [accS]
  by_cases h1 : side d k > 1
  ·rw [if_pos h1, h.eq k hk h1]
   have m0 := Int.emod_nonneg (rst big v k) (show side d k ≠ 0 by omega)
   have m1 := Int.emod_lt_of_pos (rst big v k) (show 0 < side d k by omega)
   have p0 : 0 ≤ rst big v k % side d k * strd d k := Int.mul_nonneg m0 (by omega)
   have p1 : rst big v k % side d k * strd d k ≤ (side d k - 1) * strd d k := Int.mul_le_mul_of_nonneg_right (by omega) (by omega)
   rw [Int.sub_mul, Int.one_mul] at p1
   omega
  ·rw [if_neg h1, show side d k = 1 by omega]
   omega
theorem spX_range {d big : List Int} (h : Fits d big) (v : Nat) (hv : v ≤ 4096) : 0 ≤ spX d big v ∧ spX d big v < prd d := by
 have := acc_range h (v : Int) (by omega) (by omega) d.length (Nat.le_refl _)
 rw [strd_all, ← (prd_prod h.pd).1] at this
 exact this
theorem inner {d big : List Int} (h : Fits d big) (l : List Int) (v : Nat) (hv : v < l.length) (hv2 : v ≤ 4096) (h0 : l.set v 0 = l) :
  loopF (fun go (x : Int × Int × List Int) => f143_l12 d big (strL d) v go x.1 x.2.1 x.2.2) fuelN ((v : Int), IntKind.i64.wrap ((big.length : Int) - 1), l) = some (l.set v (spX d big v)) := by
 have hd4 := (prd_prod h.pd).2.2
 have hb4 := (prd_prod h.pb).2.2
 have hle := h.len
 have hr := prd_range d
 have H : ∀ x : Int × Int × List Int, (∃ k : Nat, k ≤ d.length ∧ x = (rst big v k, (big.length : Int) - 1 - k, l.set v (accS d big v k))) →
   (∃ z, (∀ go, f143_l12 d big (strL d) v go x.1 x.2.1 x.2.2 = some z) ∧ z = l.set v (spX d big v)) ∨
   (∃ y : Int × Int × List Int, (∀ go, f143_l12 d big (strL d) v go x.1 x.2.1 x.2.2 = go y) ∧ (∃ k : Nat, k ≤ d.length ∧ y = (rst big v k, (big.length : Int) - 1 - k, l.set v (accS d big v k))) ∧ (y.2.1 + 1).toNat < (x.2.1 + 1).toNat) := by
  rintro _ ⟨k, hk, rfl⟩
  unfold f143_l12
  simp only
  have hw : IntKind.i64.wrap ((big.length : Int) - (d.length : Int)) = (big.length : Int) - (d.length : Int) := wrap_i64 (by omega) (by omega)
  rw [hw]
  by_cases hlt : k < d.length
  ·right
   refine ⟨(rst big v (k + 1), (big.length : Int) - 1 - ((k + 1 : Nat) : Int), l.set v (accS d big v (k + 1))), fun go => ?_, ⟨k + 1, hlt, rfl⟩, by simp only; omega⟩
   rw [show decide ((big.length : Int) - 1 - (k : Int) ≥ (big.length : Int) - (d.length : Int)) = true by simp; omega]
   simp only [cond_true]
   have ib : (big.length : Int) - 1 - (k : Int) = ((big.length - 1 - k : Nat) : Int) := by omega
   have id : IntKind.i64.wrap (((big.length - 1 - k : Nat) : Int) - ((big.length : Int) - (d.length : Int))) = ((d.length - 1 - k : Nat) : Int) := by
    rw [wrap_i64 (by omega) (by omega)]; omega
   obtain ⟨r0, r1⟩ := rst_range h.pb (v : Int) (by omega) (by omega) k
   obtain ⟨a0, a1⟩ := acc_range h (v : Int) (by omega) (by omega) k (by omega)
   obtain ⟨b0, b1⟩ := acc_range h (v : Int) (by omega) (by omega) (k + 1) hlt
   have sl := strd_le h.pd k (by omega)
   have sl1 := strd_le h.pd (k + 1) hlt
   have sb := side_pos h.pb k
   have hj : f143_j13 d big (strL d) v (rst big v k) ((big.length - 1 - k : Nat) : Int) (l.set v (accS d big v k)) = some (l.set v (accS d big v (k + 1))) := by
    unfold f143_j13
    rw [hw, id, guardF_pos (by omega), side_rd d k hlt]
    by_cases h1 : side d k > 1
    ·rw [show decide (side d k > 1) = true by simpa using h1]
     simp only [cond_true, List.length_set]
     rw [side_rd big k (by omega), guardF_pos (by omega), guardF_pos (by omega), guardF_pos (by omega), guardF_pos (by unfold strL; rw [tab_len]; omega), guardF_pos (by omega)]
     rw [Int.toNat_natCast, rd_nat _ _ _ (by simpa using hv), List.getElem_set_self, List.set_set]
     unfold strL
     rw [rd_tab _ _ _ _ (by omega), show d.length - 1 - (d.length - 1 - k) = k by omega, Int.tmod_eq_emod_of_nonneg r0]
     have e : accS d big v (k + 1) = accS d big v k + rst big v k % side big k * strd d k := by simp only [accS]; rw [if_pos h1]
     rw [e] at b0 b1 ⊢
     have m0 := Int.emod_nonneg (rst big v k) (show side big k ≠ 0 by omega)
     have sp := strd_pos h.pd k (by omega)
     have p0 : 0 ≤ rst big v k % side big k * strd d k := Int.mul_nonneg m0 (by omega)
     generalize rst big v k % side big k * strd d k = P at *
     rw [wrap_i64 (n := P) (by omega) (by omega), wrap_i64 (by omega) (by omega)]
    ·rw [show decide (side d k > 1) = false by simpa using h1]
     simp only [cond_false, accS]
     rw [if_neg h1, Int.add_zero]
   rw [ib, hj]
   simp only [bindF_some]
   rw [guardF_pos (by omega), side_rd big k (by omega), guardF_pos (by omega), Int.tdiv_eq_ediv_of_nonneg r0]
   have q0 := Int.ediv_nonneg r0 (show 0 ≤ side big k by omega)
   have q1 := Int.ediv_le_self (side big k) r0
   rw [wrap_i64 (n := rst big v k / side big k) (by omega) (by omega), wrap_i64 (by omega) (by omega)]
   congr 1
   exact Prod.ext rfl (Prod.ext (by simp only; omega) rfl)
  ·left
   have : k = d.length := by omega
   subst this
   refine ⟨_, fun go => ?_, rfl⟩
   rw [show decide ((big.length : Int) - 1 - (d.length : Int) ≥ (big.length : Int) - (d.length : Int)) = false by simp; omega]
   rfl
 have e0 : ((v : Int), IntKind.i64.wrap ((big.length : Int) - 1), l) = (rst big v 0, (big.length : Int) - 1 - ((0 : Nat) : Int), l.set v (accS d big v 0)) := by
  rw [wrap_i64 (by omega) (by omega)]
  refine Prod.ext rfl (Prod.ext (by simp) ?_)
  simp only [accS]
  exact h0.symm
 rw [e0]
 obtain ⟨z, e, rfl⟩ := loop_fuel (B := fun go (x : Int × Int × List Int) => f143_l12 d big (strL d) v go x.1 x.2.1 x.2.2) _ (fun x => (x.2.1 + 1).toNat) _ H _ ⟨0, Nat.zero_le _, rfl⟩ (by simp only; omega)
 exact e
theorem spread_ok {d big : List Int} (h : Fits d big) : f143 d big = some (tabL (prd big).toNat (spX d big)) := by
 have hb := prd_range big
 unfold f143
 rw [strides d h.pd, PlB.size_ok]
 simp only [bindF_some]
 rw [guardF_pos (by omega)]
 obtain ⟨N, hN⟩ : ∃ N : Nat, prd big = (N : Int) := ⟨(prd big).toNat, by omega⟩
 rw [hN, Int.toNat_natCast]
 have H : ∀ x : Int × List Int, (∃ k : Nat, k ≤ N ∧ x = ((k : Int), tabL N (fun i => if i < k then spX d big i else 0))) →
   (∃ z, (∀ go, f143_l9 d big (strL d) (N : Int) go x.1 x.2 = some z) ∧ z = tabL N (spX d big)) ∨
   (∃ y : Int × List Int, (∀ go, f143_l9 d big (strL d) (N : Int) go x.1 x.2 = go y) ∧ (∃ k : Nat, k ≤ N ∧ y = ((k : Int), tabL N (fun i => if i < k then spX d big i else 0))) ∧ ((N : Int) - y.1).toNat < ((N : Int) - x.1).toNat) := by
  rintro _ ⟨k, hk, rfl⟩
  unfold f143_l9
  simp only [Int.toNat_natCast, List.length_replicate]
  by_cases hlt : k < N
  ·right
   refine ⟨(((k + 1 : Nat) : Int), tabL N (fun i => if i < k + 1 then spX d big i else 0)), fun go => ?_, ⟨k + 1, hlt, rfl⟩, by simp only; omega⟩
   rw [show decide ((k : Int) < (N : Int)) = true by simpa using hlt]
   simp only [cond_true]
   rw [inner h _ k (by rw [tab_len]; exact hlt) (by omega) (by
    rw [tab_set]
    refine tab_ext _ _ _ (fun i hi => ?_)
    by_cases hik : i = k
    ·rw [if_pos hik, if_neg (by omega)]
    ·rw [if_neg hik])]
   simp only [bindF_some]
   rw [wrap_i64 (by omega) (by omega), tab_set]
   congr 1
   refine Prod.ext rfl (tab_ext _ _ _ (fun i hi => ?_))
   by_cases hik : i = k
   ·rw [if_pos hik, if_pos (by omega), hik]
   ·rw [if_neg hik]
    by_cases h2 : i < k
    ·rw [if_pos h2, if_pos (by omega)]
    ·rw [if_neg h2, if_neg (by omega)]
  ·left
   have : k = N := by omega
   subst this
   refine ⟨_, fun go => ?_, rfl⟩
   rw [show decide ((k : Int) < (k : Int)) = false by simp]
   simp only [cond_false, Option.some.injEq]
   exact tab_ext _ _ _ (fun i hi => by rw [if_pos hi])
 have e0 : ((0 : Int), List.replicate N (0 : Int)) = (((0 : Nat) : Int), tabL N (fun i => if i < 0 then spX d big i else 0)) := by
  rw [tab_rep]
  exact Prod.ext rfl (tab_ext _ _ _ (fun i hi => by rw [if_neg (by omega)]))
 rw [e0]
 obtain ⟨z, e, rfl⟩ := loop_fuel (B := fun go (x : Int × List Int) => f143_l9 d big (strL d) (N : Int) go x.1 x.2) _ (fun x => ((N : Int) - x.1).toNat) _ H _ ⟨0, Nat.zero_le _, rfl⟩ (by simp only; omega)
 rw [e]
 rfl
theorem Joined.fa {a b d : List Int} (h : Joined a b d) : Fits a d := ⟨h.pa, h.pd, by have := h.len; omega, fun k hk h1 => by
 have hl := h.len
 have e := h.le k (by omega)
 have o := h.ok k (by omega)
 have pb := (side_pos h.pb k).1
 omega⟩
theorem Joined.fb {a b d : List Int} (h : Joined a b d) : Fits b d := ⟨h.pb, h.pd, by have := h.len; omega, fun k hk h1 => by
 have hl := h.len
 have e := h.le k (by omega)
 have o := h.ok k (by omega)
 have pa := (side_pos h.pa k).1
 omega⟩
def addV (a b : Int) : Int := sat (a + b)
theorem addF_ok (a b : Int) (a0 : -9223372036854775808 ≤ a) (a1 : a < 9223372036854775808) (b0 : -9223372036854775808 ≤ b) (b1 : b < 9223372036854775808) : f125 a b = some (addV a b) := by
 unfold f125 addV sat
 have hw : IntKind.i64.wrap (a + b) = if a + b ≥ 9223372036854775808 then a + b - 18446744073709551616 else if a + b < -9223372036854775808 then a + b + 18446744073709551616 else a + b := by
  rw [wi]
  split <;> split <;> (try split) <;> omega
 have hj : f125_j1 a b = some (if (a < 0 ↔ b < 0) ∧ ¬ (IntKind.i64.wrap (a + b) < 0 ↔ a < 0) then Sum.inl () else Sum.inr ()) := by
  unfold f125_j1
  by_cases ha : a < 0 <;> by_cases hb : b < 0
  ·rw [show (!(decide (a < 0) == decide (b < 0))) = false by simp [ha, hb]]
   by_cases hc : IntKind.i64.wrap (a + b) < 0
   ·rw [show (decide (IntKind.i64.wrap (a + b) < 0) == decide (a < 0)) = true by simp [ha, hc], if_neg (by simp [ha, hc])]; rfl
   ·rw [show (decide (IntKind.i64.wrap (a + b) < 0) == decide (a < 0)) = false by simp [ha, hc], if_pos (by simp [ha, hb, hc])]; rfl
  ·rw [show (!(decide (a < 0) == decide (b < 0))) = true by simp [ha, hb], if_neg (by simp [ha, hb])]; rfl
  ·rw [show (!(decide (a < 0) == decide (b < 0))) = true by simp [ha, hb], if_neg (by simp [ha, hb])]; rfl
  ·rw [show (!(decide (a < 0) == decide (b < 0))) = false by simp [ha, hb]]
   by_cases hc : IntKind.i64.wrap (a + b) < 0
   ·rw [show (decide (IntKind.i64.wrap (a + b) < 0) == decide (a < 0)) = false by simp [ha, hc], if_pos (by simp [ha, hb, hc])]; rfl
   ·rw [show (decide (IntKind.i64.wrap (a + b) < 0) == decide (a < 0)) = true by simp [ha, hc], if_neg (by simp [ha, hc])]; rfl
 rw [hj]
 simp only [bindF_some]
 by_cases hc : (a < 0 ↔ b < 0) ∧ ¬ (IntKind.i64.wrap (a + b) < 0 ↔ a < 0)
 ·rw [if_pos hc]
  simp only [sumF_inl]
  rw [hw] at hc
  by_cases ha : a < 0
  ·rw [show decide (a < 0) = true by simpa using ha]
   simp only [cond_true, Option.some.injEq]
   split at hc <;> (try split at hc) <;> omega
  ·rw [show decide (a < 0) = false by simpa using ha]
   simp only [cond_false, Option.some.injEq]
   split at hc <;> (try split at hc) <;> omega
 ·rw [if_neg hc]
  simp only [sumF_inr, Option.some.injEq]
  rw [hw] at hc ⊢
  split at hc <;> (try split at hc) <;> omega
theorem inI_get {l : List Int} (h : inI l) (i : Nat) (hi : i < l.length) : -9223372036854775808 ≤ rd (0 : Int) l (i : Int) ∧ rd (0 : Int) l (i : Int) < 9223372036854775808 := by
 rw [rd_nat _ _ _ hi]
 exact h _ (List.getElem_mem hi)
end Go.Proofs.PlS
namespace Go.Proofs.PlS
open Go.AM Go.Proofs.PlB Go.Proofs.PlW Go.Proofs.PlT
theorem rhe_minus (S : Int) : rhe (-S) = -rhe S := by
 unfold rhe
 split <;> split <;> omega
def mulX (a b : Int) : Int := sat (rhe (a * b))
theorem sizeF_ok (v : Int) (h0 : -9223372036854775808 ≤ v) (h1 : v < 9223372036854775808) : f165 v = some (if v < 0 then -v else v) := by
 unfold f165
 by_cases h : v < 0
 ·rw [show decide (v < 0) = true by simpa using h, if_pos h]
  simp only [cond_true, wu, Option.some.injEq]
  omega
 ·rw [show decide (v < 0) = false by simpa using h, if_neg h]
  simp only [cond_false, wu, Option.some.injEq]
  omega
theorem held_ok (R : Int) (s : Bool) (h0 : 0 ≤ R) (h1 : R ≤ 85070591730234615865843651857942052864) : f166 (R / 18446744073709551616) (R % 18446744073709551616) s = some (sat (if s then -R else R)) := by
 unfold f166 f166_j1
 cases s
 ·simp only [cond_false, bindF_some, Bool.false_eq_true, if_false]
  unfold sat
  by_cases h2 : R / 18446744073709551616 > 0
  ·rw [show decide (R / 18446744073709551616 > 0) = true by simpa using h2, if_pos (by omega)]; rfl
  ·rw [show decide (R / 18446744073709551616 > 0) = false by simpa using h2]
   by_cases h3 : R % 18446744073709551616 ≥ 9223372036854775808
   ·rw [show decide (R % 18446744073709551616 ≥ 9223372036854775808) = true by simpa using h3, if_pos (by omega)]; rfl
   ·rw [show decide (R % 18446744073709551616 ≥ 9223372036854775808) = false by simpa using h3, if_neg (by omega), if_neg (by omega)]
    simp only [cond_false, Option.some.injEq]
    rw [wrap_i64 (by omega) (by omega)]
    omega
 ·simp only [cond_true, if_true]
  unfold sat
  by_cases h2 : R / 18446744073709551616 > 0
  ·rw [show decide (R / 18446744073709551616 > 0) = true by simpa using h2, if_neg (by omega), if_pos (by omega)]; rfl
  ·rw [show decide (R / 18446744073709551616 > 0) = false by simpa using h2]
   by_cases h3 : R % 18446744073709551616 ≥ 9223372036854775808
   ·rw [show decide (R % 18446744073709551616 ≥ 9223372036854775808) = true by simpa using h3, if_neg (by omega)]
    simp only [cond_false, bindF_some, cond_true, Option.some.injEq]
    split <;> omega
   ·rw [show decide (R % 18446744073709551616 ≥ 9223372036854775808) = false by simpa using h3, if_neg (by omega), if_neg (by omega)]
    simp only [cond_false, bindF_some, Option.some.injEq]
    rw [wrap_i64 (n := R % 18446744073709551616) (by omega) (by omega), wrap_i64 (by omega) (by omega)]
    omega
theorem roundF_ok (P : Int) (h0 : 0 ≤ P) (h1 : P ≤ 85070591730234615865843651857942052864) :
  ∃ x y : Int, f127_j2 (P / 18446744073709551616, P % 18446744073709551616) = some (x, y) ∧ y = rhe P / 18446744073709551616 ∧ x = rhe P % 18446744073709551616 := by
 have hor : bitsOf IntKind.u64 (fun p q => p ||| q) (IntKind.u64.wrap (P / 18446744073709551616 * 2 ^ min (Int.toNat (32 : Int)) (IntKind.bits IntKind.u64))) (P % 18446744073709551616 / 4294967296) = P / 4294967296 % 18446744073709551616 := by
  rw [show ((2 : Int) ^ min (Int.toNat (32 : Int)) (IntKind.bits IntKind.u64)) = 4294967296 from rfl, wu, show P / 18446744073709551616 * 4294967296 % 18446744073709551616 = P / 18446744073709551616 % 4294967296 * 4294967296 by omega, or32 _ _ (by omega) (by omega) (by omega) (by omega)]
  omega
 have hand : bitsOf IntKind.u64 (fun p q => p &&& q) (P % 18446744073709551616) 4294967295 = P % 4294967296 := by rw [and32 _ (by omega) (by omega)]; omega
 have hodd : bitsOf IntKind.u64 (fun p q => p &&& q) (P / 4294967296 % 18446744073709551616) 1 = P / 4294967296 % 2 := by rw [and1 _ (by omega) (by omega)]; omega
 have hj3 : f127_j3 (P / 18446744073709551616, P % 18446744073709551616) = some (decide (P % 4294967296 > 2147483648 ∨ (P % 4294967296 = 2147483648 ∧ P / 4294967296 % 2 = 1))) := by
  unfold f127_j3
  simp only
  rw [hand, sh32u, hor, hodd]
  by_cases c1 : P % 4294967296 > 2147483648
  ·rw [show decide (P % 4294967296 > 2147483648) = true by simpa using c1]
   simp only [cond_true, Option.some.injEq]
   symm; rw [decide_eq_true_iff]; exact .inl c1
  ·rw [show decide (P % 4294967296 > 2147483648) = false by simpa using c1]
   simp only [cond_false]
   by_cases c2 : P % 4294967296 = 2147483648
   ·rw [show (P % 4294967296 == 2147483648) = true by simpa using c2]
    simp only [cond_true, Option.some.injEq]
    rw [Bool.eq_iff_iff, beq_iff_eq, decide_eq_true_iff]
    omega
   ·rw [show (P % 4294967296 == 2147483648) = false by simpa using c2]
    simp only [cond_false, Option.some.injEq]
    symm; rw [decide_eq_false_iff_not]; omega
 unfold f127_j2
 rw [hj3]
 simp only [bindF_some]
 rw [sh32u, sh32u, hor]
 by_cases c : P % 4294967296 > 2147483648 ∨ (P % 4294967296 = 2147483648 ∧ P / 4294967296 % 2 = 1)
 ·have hr : rhe P = P / 4294967296 + 1 := by unfold rhe; rw [if_pos c]
  rw [show decide (P % 4294967296 > 2147483648 ∨ (P % 4294967296 = 2147483648 ∧ P / 4294967296 % 2 = 1)) = true by rw [decide_eq_true_iff]; exact c]
  simp only [cond_true]
  rw [add_ok _ _ _ (by omega) (by omega) (by omega) (by omega)]
  simp only [bindF_some, wu]
  refine ⟨_, _, rfl, ?_, ?_⟩
  ·rw [hr]; omega
  ·rw [hr]; omega
 ·have hr : rhe P = P / 4294967296 := by unfold rhe; rw [if_neg c]
  rw [show decide (P % 4294967296 > 2147483648 ∨ (P % 4294967296 = 2147483648 ∧ P / 4294967296 % 2 = 1)) = false by rw [decide_eq_false_iff_not]; exact c]
  simp only [cond_false]
  refine ⟨_, _, rfl, ?_, ?_⟩
  ·rw [hr]; omega
  ·rw [hr]
theorem mulF_ok (a b : Int) (a0 : -9223372036854775808 ≤ a) (a1 : a < 9223372036854775808) (b0 : -9223372036854775808 ≤ b) (b1 : b < 9223372036854775808) : f127 a b = some (mulX a b) := by
 have key : ∀ x y : Int, 0 ≤ x → x ≤ 9223372036854775808 → 0 ≤ y → y ≤ 9223372036854775808 → 0 ≤ x * y ∧ x * y ≤ 85070591730234615865843651857942052864 := fun x y h0 h1 g0 g1 => ⟨Int.mul_nonneg h0 g0, Int.mul_le_mul h1 g1 g0 (by decide)⟩
 have fin : ∀ (x y : Int) (s : Bool), 0 ≤ x → x ≤ 9223372036854775808 → 0 ≤ y → y ≤ 9223372036854775808 → (if s then -(x * y) else x * y) = a * b →
   (bindF (f164 x y) fun r3 => bindF (f127_j2 r3) fun z6 => bindF (f166 z6.2 z6.1 s) fun r9 => some r9) = some (mulX a b) := fun x y s x0 x1 y0 y1 hs => by
  obtain ⟨k0, k1⟩ := key x y x0 x1 y0 y1
  rw [mul64_ok _ _ (by omega) (by omega) (by omega) (by omega)]
  simp only [bindF_some]
  obtain ⟨p, q, e, hq, hp⟩ := roundF_ok (x * y) k0 k1
  rw [e]
  simp only [bindF_some]
  have hr : 0 ≤ rhe (x * y) ∧ rhe (x * y) ≤ 85070591730234615865843651857942052864 := by unfold rhe; split <;> omega
  rw [hq, hp, held_ok _ _ hr.1 hr.2]
  simp only [bindF_some, mulX]
  rw [← hs]
  cases s
  ·rfl
  ·simp only [if_true]; rw [rhe_minus]
 unfold f127
 rw [sizeF_ok a a0 a1, sizeF_ok b b0 b1]
 simp only [bindF_some]
 by_cases ha : a < 0 <;> by_cases hb : b < 0
 ·rw [if_pos ha, if_pos hb, show (!(decide (a < 0) == decide (b < 0))) = false by simp [ha, hb]]
  exact fin (-a) (-b) false (by omega) (by omega) (by omega) (by omega) (by rw [Int.neg_mul_neg]; rfl)
 ·rw [if_pos ha, if_neg hb, show (!(decide (a < 0) == decide (b < 0))) = true by simp [ha, hb]]
  exact fin (-a) b true (by omega) (by omega) (by omega) (by omega) (by rw [Int.neg_mul, Int.neg_neg]; rfl)
 ·rw [if_neg ha, if_pos hb, show (!(decide (a < 0) == decide (b < 0))) = true by simp [ha, hb]]
  exact fin a (-b) true (by omega) (by omega) (by omega) (by omega) (by rw [Int.mul_neg, Int.neg_neg]; rfl)
 ·rw [if_neg ha, if_neg hb, show (!(decide (a < 0) == decide (b < 0))) = false by simp [ha, hb]]
  exact fin a b false (by omega) (by omega) (by omega) (by omega) rfl
theorem good_len {t : List Int × List Int} (h : tgood t = true) : 0 < prd t.1 ∧ (t.2.length : Int) = prd t.1 ∧ t.1.length ≤ 4 ∧ t.2.length ≤ 4096 := by
 unfold tgood at h
 simp at h
 have := prd_range t.1
 exact ⟨h.1, h.2, prd_len h.1, by omega⟩
theorem scale_ok (a : List Int × List Int) (k : Int) (ia : inI a.2) (k0 : -9223372036854775808 ≤ k) (k1 : k < 9223372036854775808) :
  f86 a k = some (if tgood a = true then (0, a.1, tabL a.2.length (fun i => mulX (rd (0 : Int) a.2 i) k)) else (1, [], [])) := by
 unfold f86
 rw [show (a.1, a.2) = a from rfl, good_ok]
 simp only [bindF_some]
 by_cases hg : tgood a = true
 ·obtain ⟨_, _, l1, l2⟩ := good_len hg
  rw [hg, if_pos rfl]
  simp only [Bool.not_true, cond_false]
  rw [copy_t a (by omega) (by omega)]
  simp only [bindF_some]
  have H : ∀ x : Int × List Int, (∃ j : Nat, j ≤ a.2.length ∧ x = ((j : Int), tabL a.2.length (fun i => if i < j then mulX (rd (0 : Int) a.2 i) k else rd (0 : Int) a.2 i))) →
    (∃ z, (∀ go, f86_l1 k a go x.1 x.2 = some z) ∧ z = tabL a.2.length (fun i => mulX (rd (0 : Int) a.2 i) k)) ∨
    (∃ y : Int × List Int, (∀ go, f86_l1 k a go x.1 x.2 = go y) ∧ (∃ j : Nat, j ≤ a.2.length ∧ y = ((j : Int), tabL a.2.length (fun i => if i < j then mulX (rd (0 : Int) a.2 i) k else rd (0 : Int) a.2 i))) ∧ ((a.2.length : Int) - y.1).toNat < ((a.2.length : Int) - x.1).toNat) := by
   rintro _ ⟨j, hj, rfl⟩
   unfold f86_l1
   simp only [tab_len]
   by_cases hlt : j < a.2.length
   ·right
    refine ⟨(((j + 1 : Nat) : Int), tabL a.2.length (fun i => if i < j + 1 then mulX (rd (0 : Int) a.2 i) k else rd (0 : Int) a.2 i)), fun go => ?_, ⟨j + 1, hlt, rfl⟩, by simp only; omega⟩
    rw [show decide ((j : Int) < (a.2.length : Int)) = true by simpa using hlt]
    simp only [cond_true]
    have q := inI_get ia j hlt
    rw [guardF_pos (by omega), rd_tab _ _ _ _ hlt, if_neg (Nat.lt_irrefl j), mulF_ok _ _ q.1 q.2 k0 k1]
    simp only [bindF_some]
    rw [guardF_pos (by omega), wrap_i64 (by omega) (by omega), Int.toNat_natCast, tab_set]
    congr 1
    refine Prod.ext rfl (tab_ext _ _ _ (fun i hi => ?_))
    by_cases hik : i = j
    ·rw [if_pos hik, if_pos (by omega), hik]
    ·rw [if_neg hik]
     by_cases h2 : i < j
     ·rw [if_pos h2, if_pos (by omega)]
     ·rw [if_neg h2, if_neg (by omega)]
   ·left
    have : j = a.2.length := by omega
    subst this
    refine ⟨_, fun go => ?_, rfl⟩
    rw [show decide ((a.2.length : Int) < (a.2.length : Int)) = false by simp]
    simp only [cond_false, Option.some.injEq]
    exact tab_ext _ _ _ (fun i hi => by rw [if_pos hi])
  have e0 : ((0 : Int), a.2) = (((0 : Nat) : Int), tabL a.2.length (fun i => if i < 0 then mulX (rd (0 : Int) a.2 i) k else rd (0 : Int) a.2 i)) := by
   refine Prod.ext rfl ?_
   apply List.ext_getElem
   ·rw [tab_len]
   ·intro i h1 h2
    rw [tab_get, if_neg (by omega), rd_nat _ _ _ h1]
  rw [e0]
  obtain ⟨z, e, rfl⟩ := loop_fuel (B := fun go (x : Int × List Int) => f86_l1 k a go x.1 x.2) _ (fun x => ((a.2.length : Int) - x.1).toNat) _ H _ ⟨0, Nat.zero_le _, rfl⟩ (by simp only; omega)
  rw [e]
  rfl
 ·have hf : tgood a = false := by simpa using hg
  rw [hf]
  rfl
end Go.Proofs.PlS
namespace Go.Proofs.PlS
open Go.AM Go.Proofs.PlB Go.Proofs.PlW Go.Proofs.PlT
theorem add_of (a b : List Int × List Int) (d : List Int) (ia : inI a.2) (ib : inI b.2) (hga : tgood a = true) (hgb : tgood b = true) (hj : f142 a.1 b.1 = some (0, d)) (hd : Joined a.1 b.1 d) :
  f81 a b = some (0, d, tabL (prd d).toNat (fun i => addV (rd (0 : Int) a.2 (spX a.1 d i)) (rd (0 : Int) b.2 (spX b.1 d i)))) := by
 have hg : tgood a = true ∧ tgood b = true := ⟨hga, hgb⟩
 unfold f81
 have hj2 : f124_125_j2 (a.1, a.2) (b.1, b.2) = some (Sum.inl ()) := by
  unfold f124_125_j2 f124_125_j3
  rw [show (a.1, a.2) = a from rfl, show (b.1, b.2) = b from rfl, good_ok, good_ok, hga, hgb]
  rfl
 unfold f124_125
 rw [hj2]
 simp only [bindF_some, sumF_inl]
 rw [hj]
 simp only [bindF_some]
 rw [show ((0 : Int) != 0) = false from rfl]
 simp only [cond_false]
 rw [new_ok, if_pos hd.pd, spread_ok hd.fa, spread_ok hd.fb]
 simp only [bindF_some]
 have hr := prd_range d
 obtain ⟨N, hN⟩ : ∃ N : Nat, prd d = (N : Int) := ⟨(prd d).toNat, by omega⟩
 rw [hN, Int.toNat_natCast]
 have ga : (a.2.length : Int) = prd a.1 := by have := hg.1; unfold tgood at this; simp at this; exact this.2
 have gb : (b.2.length : Int) = prd b.1 := by have := hg.2; unfold tgood at this; simp at this; exact this.2
 have H : ∀ x : Int × List Int, (∃ k : Nat, k ≤ N ∧ x = ((k : Int), tabL N (fun i => if i < k then addV (rd (0 : Int) a.2 (spX a.1 d i)) (rd (0 : Int) b.2 (spX b.1 d i)) else 0))) →
   (∃ z, (∀ go, f124_125_l4 (a.1, a.2) (b.1, b.2) (0, d, List.replicate N 0) (tabL N (spX a.1 d)) (tabL N (spX b.1 d)) go x.1 x.2 = some z) ∧ z = tabL N (fun i => addV (rd (0 : Int) a.2 (spX a.1 d i)) (rd (0 : Int) b.2 (spX b.1 d i)))) ∨
   (∃ y : Int × List Int, (∀ go, f124_125_l4 (a.1, a.2) (b.1, b.2) (0, d, List.replicate N 0) (tabL N (spX a.1 d)) (tabL N (spX b.1 d)) go x.1 x.2 = go y) ∧ (∃ k : Nat, k ≤ N ∧ y = ((k : Int), tabL N (fun i => if i < k then addV (rd (0 : Int) a.2 (spX a.1 d i)) (rd (0 : Int) b.2 (spX b.1 d i)) else 0))) ∧ ((N : Int) - y.1).toNat < ((N : Int) - x.1).toNat) := by
  rintro _ ⟨k, hk, rfl⟩
  unfold f124_125_l4
  simp only [List.length_replicate, tab_len]
  by_cases hlt : k < N
  ·right
   refine ⟨(((k + 1 : Nat) : Int), tabL N (fun i => if i < k + 1 then addV (rd (0 : Int) a.2 (spX a.1 d i)) (rd (0 : Int) b.2 (spX b.1 d i)) else 0)), fun go => ?_, ⟨k + 1, hlt, rfl⟩, by simp only; omega⟩
   rw [show decide ((k : Int) < (N : Int)) = true by simpa using hlt]
   simp only [cond_true]
   obtain ⟨x0, x1⟩ := spX_range hd.fa k (by omega)
   obtain ⟨y0, y1⟩ := spX_range hd.fb k (by omega)
   rw [rd_tab _ _ _ _ hlt, rd_tab _ _ _ _ hlt, guardF_pos (by omega), guardF_pos (by omega), guardF_pos (by omega), guardF_pos (by omega)]
   obtain ⟨xn, hxn⟩ := Int.eq_ofNat_of_zero_le x0
   obtain ⟨yn, hyn⟩ := Int.eq_ofNat_of_zero_le y0
   have qa := inI_get ia xn (by omega)
   have qb := inI_get ib yn (by omega)
   rw [← hxn] at qa
   rw [← hyn] at qb
   rw [addF_ok _ _ qa.1 qa.2 qb.1 qb.2]
   simp only [bindF_some]
   rw [guardF_pos (by omega), wrap_i64 (by omega) (by omega), Int.toNat_natCast, tab_set]
   congr 1
   refine Prod.ext rfl (tab_ext _ _ _ (fun i hi => ?_))
   by_cases hik : i = k
   ·rw [if_pos hik, if_pos (by omega), hik]
   ·rw [if_neg hik]
    by_cases h2 : i < k
    ·rw [if_pos h2, if_pos (by omega)]
    ·rw [if_neg h2, if_neg (by omega)]
  ·left
   have : k = N := by omega
   subst this
   refine ⟨_, fun go => ?_, rfl⟩
   rw [show decide ((k : Int) < (k : Int)) = false by simp]
   simp only [cond_false, Option.some.injEq]
   exact tab_ext _ _ _ (fun i hi => by rw [if_pos hi])
 have e0 : ((0 : Int), List.replicate N (0 : Int)) = (((0 : Nat) : Int), tabL N (fun i => if i < 0 then addV (rd (0 : Int) a.2 (spX a.1 d i)) (rd (0 : Int) b.2 (spX b.1 d i)) else 0)) := by
  rw [tab_rep]
  exact Prod.ext rfl (tab_ext _ _ _ (fun i hi => by rw [if_neg (by omega)]))
 rw [e0]
 obtain ⟨z, e, rfl⟩ := loop_fuel (B := fun go (x : Int × List Int) => f124_125_l4 (a.1, a.2) (b.1, b.2) (0, d, List.replicate N 0) (tabL N (spX a.1 d)) (tabL N (spX b.1 d)) go x.1 x.2) _ (fun x => ((N : Int) - x.1).toNat) _ H _ ⟨0, Nat.zero_le _, rfl⟩ (by simp only; omega)
 rw [e]
 rfl
end Go.Proofs.PlS
namespace Go.Proofs.Sh
open Go.AM Go.Proofs.PlB Go.Proofs.PlW Go.Proofs.PlT Go.Proofs.PlS
theorem sameR (a b : List Int) (h : a.length < 4611686018427387904) : f47 a b = some (decide (a = b)) := by
 unfold f47
 by_cases hl : a.length = b.length
 ·rw [nF (by omega)]
  simp only [cond_false]
  have := loop_any (B := fun go x => f47_l1 a b go x) (fun k => (k : Int)) (fun k => rd (0 : Int) a (k : Int) != rd (0 : Int) b (k : Int)) (Sum.inl ()) (Sum.inr ()) a.length ?_ ?_ ?_ (by omega)
  ·rw [show ((0 : Int)) = ((0 : Nat) : Int) from rfl, this]
   simp only [bindF_some]
   by_cases e : a = b
   ·subst e
    have : anyB a.length (fun k => rd (0 : Int) a (k : Int) != rd (0 : Int) a (k : Int)) = false := anyB_false.2 (fun i hi => by simp)
    rw [this, dT rfl]; rfl
   ·have : anyB a.length (fun k => rd (0 : Int) a (k : Int) != rd (0 : Int) b (k : Int)) = true := by
     cases hc : anyB a.length (fun k => rd (0 : Int) a (k : Int) != rd (0 : Int) b (k : Int))
     ·exfalso; apply e
      have hc := anyB_false.1 hc
      apply List.ext_getElem hl
      intro i h1 h2
      have := hc i h1
      rw [rd_nat _ _ _ h1, rd_nat _ _ _ h2] at this
      simpa using this
     ·rfl
    rw [this, dF e]; rfl
  ·intro k hk hp go
   unfold f47_l1
   rw [dT (by omega), cond_true, guardF_pos (by omega), guardF_pos (by omega), hp, cond_false, wrap_i64 (by omega) (by omega)]
   rfl
  ·intro k hk hp go
   unfold f47_l1
   rw [dT (by omega), cond_true, guardF_pos (by omega), guardF_pos (by omega), hp]
   rfl
  ·intro go
   unfold f47_l1
   rw [dF (by omega)]; rfl
 ·rw [nT (by omega), dF (fun e => hl (by rw [e]))]; rfl
end Go.Proofs.Sh
namespace Go.Proofs.Sh
open Go.AM Go.Proofs.PlB Go.Proofs.PlW Go.Proofs.PlT Go.Proofs.PlS
def dnto (L k : Nat) (g : Nat → Int) : List Int := tabL L (fun j => if L - 1 - j < k then g (L - 1 - j) else 0)
theorem dnto_len (L k : Nat) (g : Nat → Int) : (dnto L k g).length = L := tab_len _ _
theorem dnto_zero (L : Nat) (g : Nat → Int) : List.replicate L 0 = dnto L 0 g := by
 rw [tab_rep]; exact tab_ext _ _ _ (fun i hi => by rw [if_neg (by omega)])
theorem dnto_full (L : Nat) (g : Nat → Int) : dnto L L g = tabL L (fun j => g (L - 1 - j)) := tab_ext _ _ _ (fun i hi => by rw [if_pos (by omega)])
theorem dnto_set (L k : Nat) (g : Nat → Int) (v : Int) (hk : k < L) (hv : v = g k) : (dnto L k g).set (L - 1 - k) v = dnto L (k + 1) g := by
 unfold dnto
 rw [tab_set]
 refine tab_ext _ _ _ (fun i hi => ?_)
 by_cases h : i = L - 1 - k
 ·rw [if_pos h, if_pos (by omega), hv]; congr 1; omega
 ·rw [if_neg h]
  by_cases h2 : L - 1 - i < k
  ·rw [if_pos h2, if_pos (by omega)]
  ·rw [if_neg h2, if_neg (by omega)]
def jBad (a b : List Int) (k : Nat) : Bool := side a k != side b k && (side a k != 1 && side b k != 1)
def jMax (a b : List Int) (k : Nat) : Int := if side b k > side a k then side b k else side a k
def jLen (a b : List Int) : Nat := if b.length > a.length then b.length else a.length
def jL (a b : List Int) : List Int := tabL (jLen a b) (fun j => jMax a b (jLen a b - 1 - j))
def jS (a b : List Int) : Int × List Int :=
 if 0 < prd a ∧ 0 < prd b then (bif anyB (jLen a b) (jBad a b) then (4, []) else if 0 < prd (jL a b) then (0, jL a b) else (2, [])) else (1, [])
theorem jLen_int (a b : List Int) : (if (List.length b : Int) > (List.length a : Int) then (List.length b : Int) else (List.length a : Int)) = (jLen a b : Int) := by
 unfold jLen; split <;> split <;> omega
theorem j5_ok (a b : List Int) (k : Nat) : f142_j5 (side a k) (side b k) = some (bif jBad a b k then Sum.inr () else Sum.inl ()) := by
 unfold f142_j5 jBad
 cases (side a k != side b k) <;> cases (side a k != 1) <;> cases (side b k != 1) <;> rfl
theorem joinP (a b : List Int) : f142 a b = some (jS a b) := by
 unfold f142 f142_j1 jS
 rw [shapeGood_ok, shapeGood_ok, jLen_int]
 simp only [bindF_some]
 by_cases ha : 0 < prd a
 ·by_cases hb : 0 < prd b
  ·have la := prd_len ha
   have lb := prd_len hb
   have lj : jLen a b ≤ 4 := by unfold jLen; split <;> omega
   rw [dT (show prd a > 0 from ha), dT (show prd b > 0 from hb), if_pos ⟨ha, hb⟩]
   simp only [Bool.not_true, cond_false, bindF_some, sumF_inl]
   rw [guardF_pos (by omega), Int.toNat_natCast, dnto_zero _ (jMax a b)]
   have := loop_any (B := fun go (x : Int × List Int) => f142_l4 a b go x.1 x.2) (fun k => ((k : Int), dnto (jLen a b) k (jMax a b))) (jBad a b) (Sum.inl ()) (Sum.inr (jL a b)) (jLen a b) ?_ ?_ ?_ (by omega)
   ·rw [show ((0 : Nat) : Int) = 0 from rfl] at this
    rw [this]
    simp only [bindF_some]
    cases anyB (jLen a b) (jBad a b)
    ·simp only [cond_false, sumF_inr]
     rw [shapeGood_ok]
     by_cases hp : 0 < prd (jL a b)
     ·rw [dT (show prd (jL a b) > 0 from hp), if_pos hp]; rfl
     ·rw [dF (show ¬ prd (jL a b) > 0 from hp), if_neg hp]; rfl
    ·rfl
   ·intro k hk hp go
    unfold f142_l4
    rw [jLen_int, Int.toNat_natCast, List.length_replicate, dT (by omega), cond_true, side_ok a k (by omega) (by omega), bindF_some, side_ok b k (by omega) (by omega), bindF_some, j5_ok, hp, bindF_some]
    simp only [cond_false, sumF_inl, dnto_len]
    rw [wrap_i64 (n := (jLen a b : Int) - 1) (by omega) (by omega), wrap_i64 (n := (jLen a b : Int) - 1 - k) (by omega) (by omega), guardF_pos (by omega), wrap_i64 (by omega) (by omega), show (jLen a b : Int) - 1 - k = ((jLen a b - 1 - k : Nat) : Int) by omega, Int.toNat_natCast, dnto_set _ _ (jMax a b) (if side b k > side a k then side b k else side a k) hk rfl]
    rfl
   ·intro k hk hp go
    unfold f142_l4
    rw [jLen_int, Int.toNat_natCast, List.length_replicate, dT (by omega), cond_true, side_ok a k (by omega) (by omega), bindF_some, side_ok b k (by omega) (by omega), bindF_some, j5_ok, hp, bindF_some]
    rfl
   ·intro go
    unfold f142_l4
    rw [jLen_int, Int.toNat_natCast, List.length_replicate, dF (by omega), cond_false, dnto_full]; rfl
  ·rw [dT (show prd a > 0 from ha), dF (show ¬ prd b > 0 from hb), if_neg (fun h => hb h.2)]; rfl
 ·rw [dF (show ¬ prd a > 0 from ha), if_neg (fun h => ha h.1)]; rfl
theorem jL_side (a b : List Int) (k : Nat) (hk : k < jLen a b) : side (jL a b) k = jMax a b k := by
 have hl : (jL a b).length = jLen a b := tab_len _ _
 rw [← side_rd _ k (by omega), hl]
 unfold jL
 rw [rd_tab _ _ _ _ (by omega)]
 congr 1; omega
theorem jS_joined {a b d : List Int} (h : jS a b = (0, d)) : Joined a b d := by
 unfold jS at h
 split at h
 ·next hg =>
  cases hc : anyB (jLen a b) (jBad a b)
  ·rw [hc, cond_false] at h
   split at h
   ·next hp =>
    obtain rfl : jL a b = d := (Prod.mk.inj h).2
    have hl : (jL a b).length = jLen a b := tab_len _ _
    have hjl : jLen a b = max a.length b.length := by unfold jLen; split <;> omega
    have hb := anyB_false.1 hc
    refine ⟨hg.1, hg.2, hp, by omega, fun k hk => ?_, fun k hk => ?_⟩
    ·rw [jL_side a b k (by omega)]; unfold jMax; split <;> omega
    ·have := hb k (by omega)
     unfold jBad at this
     by_cases h1 : side a k = side b k
     ·exact .inl h1
     ·by_cases h2 : side a k = 1
      ·exact .inr (.inl h2)
      ·by_cases h3 : side b k = 1
       ·exact .inr (.inr h3)
       ·rw [nT h1, nT h2, nT h3] at this; exact absurd this (by decide)
   ·exact absurd (Prod.mk.inj h).1 (by decide)
  ·rw [hc, cond_true] at h; exact absurd (Prod.mk.inj h).1 (by decide)
 ·exact absurd (Prod.mk.inj h).1 (by decide)
theorem list_side {d e : List Int} (hl : d.length = e.length) (h : ∀ k, k < d.length → side d k = side e k) : d = e := by
 apply List.ext_getElem hl
 intro i h1 h2
 have := h (d.length - 1 - i) (by omega)
 unfold side at this
 rw [if_pos (by omega), if_pos (by omega), getD_at _ _ (by omega), getD_at _ _ (by omega)] at this
 simp only [show d.length - 1 - (d.length - 1 - i) = i by omega, show e.length - 1 - (d.length - 1 - i) = i by omega] at this
 exact this
theorem jS_fits {d big : List Int} : jS d big = (0, big) ↔ Fits d big := by
 constructor
 ·intro h
  exact (jS_joined h).fa
 ·intro h
  have hlen := h.len
  have hjl : jLen d big = big.length := by unfold jLen; split <;> omega
  have hs : ∀ k, k < big.length → side d k = 1 ∨ side big k = side d k := fun k hk => by
   by_cases hk2 : k < d.length
   ·have := (side_pos h.pd k).1
    by_cases h1 : 1 < side d k
    ·exact .inr (h.eq k hk2 h1)
    ·exact .inl (by omega)
   ·left; unfold side; rw [if_neg hk2]
  have hany : anyB (jLen d big) (jBad d big) = false := anyB_false.2 (fun i hi => by
   unfold jBad
   rcases hs i (by omega) with e | e
   ·rw [nF e]; simp
   ·rw [nF e.symm]; rfl)
  have hL : jL d big = big := list_side (by unfold jL; rw [tab_len, hjl]) (fun k hk => by
   have hk2 : k < jLen d big := by rw [show (jL d big).length = jLen d big from tab_len _ _] at hk; exact hk
   rw [jL_side d big k hk2]
   unfold jMax
   have := (side_pos h.pb k).1
   rcases hs k (by omega) with e | e
   ·rw [e]; split <;> omega
   ·rw [e]; split <;> rfl)
  unfold jS
  rw [if_pos ⟨h.pd, h.pb⟩, hany, hL, cond_false, if_pos h.pb]
end Go.Proofs.Sh
namespace Go.Proofs.Dots
open Go.AM Go.Proofs.PlW
theorem lf1 {X Z : Type} (B : (X → Option Z) → X → Option Z) (x : X) : loopF B fuelN x = B (loopF B 18446744073709551615) x := rfl
theorem lf2 {X Z : Type} (B : (X → Option Z) → X → Option Z) (x : X) : loopF B 18446744073709551615 x = B (loopF B 18446744073709551614) x := rfl
theorem lf3 {X Z : Type} (B : (X → Option Z) → X → Option Z) (x : X) : loopF B 18446744073709551614 x = B (loopF B 18446744073709551613) x := rfl
theorem lf4 {X Z : Type} (B : (X → Option Z) → X → Option Z) (x : X) : loopF B 18446744073709551613 x = B (loopF B 18446744073709551612) x := rfl
theorem lf5 {X Z : Type} (B : (X → Option Z) → X → Option Z) (x : X) : loopF B 18446744073709551612 x = B (loopF B 18446744073709551611) x := rfl
def W0 (A : Int) : Int := A % 18446744073709551616
def W1 (A : Int) : Int := A / 18446744073709551616 % 18446744073709551616
def W2 (A : Int) : Int := A / 18446744073709551616 / 18446744073709551616 % 18446744073709551616
def W3 (A : Int) : Int := A / 18446744073709551616 / 18446744073709551616 / 18446744073709551616 % 18446744073709551616
theorem W1_eq (A : Int) : W1 A = W0 (A / 18446744073709551616) := rfl
theorem W2_eq (A : Int) : W2 A = W1 (A / 18446744073709551616) := rfl
theorem W3_eq (A : Int) : W3 A = W2 (A / 18446744073709551616) := rfl
theorem W_range (A : Int) : (0 ≤ W0 A ∧ W0 A < 18446744073709551616) ∧ (0 ≤ W1 A ∧ W1 A < 18446744073709551616) ∧ (0 ≤ W2 A ∧ W2 A < 18446744073709551616) ∧ (0 ≤ W3 A ∧ W3 A < 18446744073709551616) := by
 have w : ∀ n : Int, 0 ≤ n % 18446744073709551616 ∧ n % 18446744073709551616 < 18446744073709551616 := fun n => by omega
 exact ⟨w _, w _, w _, w _⟩
theorem sm (s q k : Int) : (s % 18446744073709551616 + q % 18446744073709551616 + k) % 18446744073709551616 = (s + q + k) % 18446744073709551616 := by omega
theorem sd (s q k : Int) : (s + q + k) / 18446744073709551616 = s / 18446744073709551616 + q / 18446744073709551616 + (s % 18446744073709551616 + q % 18446744073709551616 + k) / 18446744073709551616 := by omega
theorem md (s q k : Int) : (s - q - k) / 18446744073709551616 = s / 18446744073709551616 - q / 18446744073709551616 - -((s % 18446744073709551616 - q % 18446744073709551616 - k) / 18446744073709551616) := by omega
theorem carry_step {Y : Type} (x y c : Int) (x0 : 0 ≤ x) (x1 : x < 18446744073709551616) (y0 : 0 ≤ y) (y1 : y < 18446744073709551616) (c0 : 0 ≤ c) (c1 : c ≤ 1) (k : Int → Int → Option Y) :
  (bif decide (IntKind.u64.wrap (x + y) < x) then k 1 (IntKind.u64.wrap (IntKind.u64.wrap (x + y) + c)) else
   bif decide (IntKind.u64.wrap (IntKind.u64.wrap (x + y) + c) < IntKind.u64.wrap (x + y)) then k 1 (IntKind.u64.wrap (IntKind.u64.wrap (x + y) + c)) else k 0 (IntKind.u64.wrap (IntKind.u64.wrap (x + y) + c))) =
  k ((x + y + c) / 18446744073709551616) ((x + y + c) % 18446744073709551616) := by
 simp only [wu]
 have e : ((x + y) % 18446744073709551616 + c) % 18446744073709551616 = (x + y + c) % 18446744073709551616 := by omega
 rw [e]
 by_cases h1 : (x + y) % 18446744073709551616 < x
 ·rw [show decide ((x + y) % 18446744073709551616 < x) = true by simpa using h1, show (x + y + c) / 18446744073709551616 = 1 by omega]; rfl
 ·rw [show decide ((x + y) % 18446744073709551616 < x) = false by simpa using h1]
  by_cases h2 : (x + y + c) % 18446744073709551616 < (x + y) % 18446744073709551616
  ·rw [show decide ((x + y + c) % 18446744073709551616 < (x + y) % 18446744073709551616) = true by simpa using h2, show (x + y + c) / 18446744073709551616 = 1 by omega]; rfl
  ·rw [show decide ((x + y + c) % 18446744073709551616 < (x + y) % 18446744073709551616) = false by simpa using h2, show (x + y + c) / 18446744073709551616 = 0 by omega]; rfl
theorem pick0 {Y : Type} (a b c d : Option Y) : pickF (0 : Int) [a, b, c, d] = a := rfl
theorem pick1 {Y : Type} (a b c d : Option Y) : pickF (1 : Int) [a, b, c, d] = b := rfl
theorem pick2 {Y : Type} (a b c d : Option Y) : pickF (2 : Int) [a, b, c, d] = c := rfl
theorem pick3 {Y : Type} (a b c d : Option Y) : pickF (3 : Int) [a, b, c, d] = d := rfl
theorem plus_w (a0 a1 a2 a3 b0 b1 b2 b3 : Int) (ha : (0 ≤ a0 ∧ a0 < 18446744073709551616) ∧ (0 ≤ a1 ∧ a1 < 18446744073709551616) ∧ (0 ≤ a2 ∧ a2 < 18446744073709551616) ∧ (0 ≤ a3 ∧ a3 < 18446744073709551616))
  (hb : (0 ≤ b0 ∧ b0 < 18446744073709551616) ∧ (0 ≤ b1 ∧ b1 < 18446744073709551616) ∧ (0 ≤ b2 ∧ b2 < 18446744073709551616) ∧ (0 ≤ b3 ∧ b3 < 18446744073709551616)) :
  ∃ c1 c2 c3 : Int, c1 = (a0 + b0 + 0) / 18446744073709551616 ∧ c2 = (a1 + b1 + c1) / 18446744073709551616 ∧ c3 = (a2 + b2 + c2) / 18446744073709551616 ∧
   f117 a0 a1 a2 a3 b0 b1 b2 b3 = some ((a0 + b0 + 0) % 18446744073709551616, (a1 + b1 + c1) % 18446744073709551616, (a2 + b2 + c2) % 18446744073709551616, (a3 + b3 + c3) % 18446744073709551616) := by
 obtain ⟨⟨p0, q0⟩, ⟨p1, q1⟩, ⟨p2, q2⟩, ⟨p3, q3⟩⟩ := ha
 obtain ⟨⟨r0, s0⟩, ⟨r1, s1⟩, ⟨r2, s2⟩, ⟨r3, s3⟩⟩ := hb
 refine ⟨_, _, _, rfl, rfl, rfl, ?_⟩
 unfold f117
 rw [lf1]
 simp only [f117_l1]
 rw [show decide ((0 : Int) < 4) = true from rfl]
 simp only [cond_true]
 rw [guardF_pos (by decide), pick0, show IntKind.i64.wrap ((0 : Int) + 1) = 1 from rfl, carry_step a0 b0 0 p0 q0 r0 s0 (by omega) (by omega) (fun c v => loopF _ 18446744073709551615 (c, 1, v, 0, 0, 0)), lf2]
 simp only [f117_l1]
 rw [show decide ((1 : Int) < 4) = true from rfl]
 simp only [cond_true]
 rw [guardF_pos (by decide), pick1, show IntKind.i64.wrap ((1 : Int) + 1) = 2 from rfl, carry_step a1 b1 _ p1 q1 r1 s1 (by omega) (by omega) (fun c v => loopF _ 18446744073709551614 (c, 2, _, v, 0, 0)), lf3]
 simp only [f117_l1]
 rw [show decide ((2 : Int) < 4) = true from rfl]
 simp only [cond_true]
 rw [guardF_pos (by decide), pick2, show IntKind.i64.wrap ((2 : Int) + 1) = 3 from rfl, carry_step a2 b2 _ p2 q2 r2 s2 (by omega) (by omega) (fun c v => loopF _ 18446744073709551613 (c, 3, _, _, v, 0)), lf4]
 simp only [f117_l1]
 rw [show decide ((3 : Int) < 4) = true from rfl]
 simp only [cond_true]
 rw [guardF_pos (by decide), pick3, show IntKind.i64.wrap ((3 : Int) + 1) = 4 from rfl, carry_step a3 b3 _ p3 q3 r3 s3 (by omega) (by omega) (fun c v => loopF _ 18446744073709551612 (c, 4, _, _, _, v)), lf5]
 simp only [f117_l1]
 rw [show decide ((4 : Int) < 4) = false from rfl]
 rfl
theorem plus_ok (A B : Int) : f117 (W0 A) (W1 A) (W2 A) (W3 A) (W0 B) (W1 B) (W2 B) (W3 B) = some (W0 (A + B), W1 (A + B), W2 (A + B), W3 (A + B)) := by
 obtain ⟨c1, c2, c3, h1, h2, h3, e⟩ := plus_w _ _ _ _ _ _ _ _ (W_range A) (W_range B)
 rw [e]
 have d1 : (A + B) / 18446744073709551616 = A / 18446744073709551616 + B / 18446744073709551616 + c1 := by
  rw [h1]; have := sd A B 0; rwa [Int.add_zero] at this
 have d2 : (A + B) / 18446744073709551616 / 18446744073709551616 = A / 18446744073709551616 / 18446744073709551616 + B / 18446744073709551616 / 18446744073709551616 + c2 := by
  rw [d1, sd, h2]; rfl
 have d3 : (A + B) / 18446744073709551616 / 18446744073709551616 / 18446744073709551616 = A / 18446744073709551616 / 18446744073709551616 / 18446744073709551616 + B / 18446744073709551616 / 18446744073709551616 / 18446744073709551616 + c3 := by
  rw [d2, sd, h3]; rfl
 have e0 : (W0 A + W0 B + 0) % 18446744073709551616 = W0 (A + B) := by
  have := sm A B 0; rw [Int.add_zero] at this ⊢; rw [Int.add_zero] at this; exact this
 have e1 : (W1 A + W1 B + c1) % 18446744073709551616 = W1 (A + B) := by
  unfold W1; rw [d1]; exact sm _ _ _
 have e2 : (W2 A + W2 B + c2) % 18446744073709551616 = W2 (A + B) := by
  unfold W2; rw [d2]; exact sm _ _ _
 have e3 : (W3 A + W3 B + c3) % 18446744073709551616 = W3 (A + B) := by
  unfold W3; rw [d3]; exact sm _ _ _
 rw [e0, e1, e2, e3]
theorem refSize_ok (v : Int) (h0 : -9223372036854775808 ≤ v) (h1 : v < 9223372036854775808) : f115 v = some (if v < 0 then -v else v) := by
 unfold f115
 by_cases h : v < 0
 ·rw [show decide (v < 0) = true by simpa using h, if_pos h]
  simp only [cond_true, Option.some.injEq]
  rw [wrap_i64 (n := v + 1) (by omega) (by omega), wrap_i64 (by omega) (by omega), wu, wu]
  omega
 ·rw [show decide (v < 0) = false by simpa using h, if_neg h]
  simp only [cond_false, wu, Option.some.injEq]
  omega
end Go.Proofs.Dots
namespace Go.Proofs.Dots
open Go.AM Go.Proofs.PlW
theorem pickA {Y : Type} (a b : Option Y) : pickF (0 : Int) [a, b] = a := rfl
theorem pickB {Y : Type} (a b : Option Y) : pickF (1 : Int) [a, b] = b := rfl
theorem small (n : Int) (h0 : 0 ≤ n) (h1 : n < 18446744073709551616) : W0 n = n ∧ W1 n = 0 ∧ W2 n = 0 ∧ W3 n = 0 := by
 have e : n / 18446744073709551616 = 0 := by omega
 refine ⟨by unfold W0; omega, by unfold W1; rw [e]; rfl, by unfold W2; rw [e]; rfl, by unfold W3; rw [e]; rfl⟩
theorem two (s p : Int) (h0 : 0 ≤ s) (h1 : s < 18446744073709551616) (g0 : 0 ≤ p) (g1 : p < 18446744073709551616) : W0 (s + 18446744073709551616 * p) = s ∧ W1 (s + 18446744073709551616 * p) = p ∧ W2 (s + 18446744073709551616 * p) = 0 ∧ W3 (s + 18446744073709551616 * p) = 0 := by
 have e : (s + 18446744073709551616 * p) / 18446744073709551616 = p := by omega
 obtain ⟨k0, k1, k2, k3⟩ := small p g0 g1
 refine ⟨by unfold W0; omega, ?_, ?_, ?_⟩
 ·rw [W1_eq, e]; exact k0
 ·rw [W2_eq, e]; exact k1
 ·rw [W3_eq, e]; exact k2
theorem times_step (x y k : Int) (s : Int) (h0 : 0 ≤ x) (h1 : x < 18446744073709551616) (A : Int) :
  f117 (W0 A) (W1 A) (W2 A) (W3 A) (x * 4294967296 % 18446744073709551616) (x / 4294967296) 0 0 = some (W0 (A + 4294967296 * x), W1 (A + 4294967296 * x), W2 (A + 4294967296 * x), W3 (A + 4294967296 * x)) := by
 have h := plus_ok A (4294967296 * x)
 obtain ⟨t0, t1, t2, t3⟩ := two (x * 4294967296 % 18446744073709551616) (x / 4294967296) (by omega) (by omega) (by omega) (by omega)
 have e : x * 4294967296 % 18446744073709551616 + 18446744073709551616 * (x / 4294967296) = 4294967296 * x := by omega
 rw [e] at t0 t1 t2 t3
 rw [t0, t1, t2, t3] at h
 exact h
theorem times_loop (x y : Int) (h0 : 0 ≤ x) (h1 : x ≤ 9223372036854775808) (g0 : 0 ≤ y) (g1 : y ≤ 9223372036854775808) :
  loopF (fun go (z : Int × Int × Int × Int × Int) => f70_l1 x y go z.1 z.2.1 z.2.2.1 z.2.2.2.1 z.2.2.2.2) fuelN ((0 : Int), (IntKind.u64.wrap ((bitsOf IntKind.u64 (fun p q => p &&& q) x (4294967295 : Int)) * (bitsOf IntKind.u64 (fun p q => p &&& q) y (4294967295 : Int)))), (IntKind.u64.wrap ((Int.fdiv x (2 ^ min (Int.toNat (32 : Int)) (IntKind.bits IntKind.u64))) * (Int.fdiv y (2 ^ min (Int.toNat (32 : Int)) (IntKind.bits IntKind.u64))))), (0 : Int), (0 : Int)) =
   some (W0 (x * y), W1 (x * y), W2 (x * y), W3 (x * y)) := by
 have x1 := Int.mul_ediv_add_emod x 4294967296
 have y1 := Int.mul_ediv_add_emod y 4294967296
 have x2 : x < 18446744073709551616 := by omega
 have y2 : y < 18446744073709551616 := by omega
 obtain ⟨p0, p1⟩ := mul_bound (x / 4294967296) (y / 4294967296) (by omega) (by omega) (by omega) (by omega)
 obtain ⟨q0, q1⟩ := mul_bound (x / 4294967296) (y % 4294967296) (by omega) (by omega) (by omega) (by omega)
 obtain ⟨r0, r1⟩ := mul_bound (x % 4294967296) (y / 4294967296) (by omega) (by omega) (by omega) (by omega)
 obtain ⟨s0, s1⟩ := mul_bound (x % 4294967296) (y % 4294967296) (by omega) (by omega) (by omega) (by omega)
 have hxy : x * y = x % 4294967296 * (y % 4294967296) + 18446744073709551616 * (x / 4294967296 * (y / 4294967296)) + 4294967296 * (x % 4294967296 * (y / 4294967296)) + 4294967296 * (x / 4294967296 * (y % 4294967296)) := by
  conv => lhs; rw [← x1, ← y1, Int.add_mul, Int.mul_add, Int.mul_add]
  have e1 : 4294967296 * (x / 4294967296) * (4294967296 * (y / 4294967296)) = 18446744073709551616 * (x / 4294967296 * (y / 4294967296)) := by
   rw [show (18446744073709551616 : Int) = 4294967296 * 4294967296 from rfl]; ac_rfl
  have e2 : 4294967296 * (x / 4294967296) * (y % 4294967296) = 4294967296 * (x / 4294967296 * (y % 4294967296)) := Int.mul_assoc _ _ _
  have e3 : x % 4294967296 * (4294967296 * (y / 4294967296)) = 4294967296 * (x % 4294967296 * (y / 4294967296)) := Int.mul_left_comm _ _ _
  rw [e1, e2, e3]; omega
 have w0 : ∀ n : Int, 0 ≤ n → n ≤ 18446744065119617025 → IntKind.u64.wrap n = n := fun n h0 h1 => by rw [wu]; omega
 have sh : ((2 : Int) ^ min (Int.toNat (32 : Int)) (IntKind.bits IntKind.u64)) = 4294967296 := rfl
 have st0 : ∀ go a b c d, f70_l1 x y go 0 a b c d = bindF (f117 a b c d (x % 4294967296 * (y / 4294967296) * 4294967296 % 18446744073709551616) (x % 4294967296 * (y / 4294967296) / 4294967296) 0 0) fun r9 => go (1, r9.1, r9.2.1, r9.2.2.1, r9.2.2.2) := fun go a b c d => by
  unfold f70_l1
  rw [show decide ((0 : Int) < 2) = true from rfl]
  simp only [cond_true]
  rw [guardF_pos (by decide), pickA, show IntKind.i64.wrap ((0 : Int) + 1) = 1 from rfl]
  simp only [sh32u, and32 x h0 x2, and32 y g0 y2, w0 _ r0 r1, wu]; rw [sh]
 have st1 : ∀ go a b c d, f70_l1 x y go 1 a b c d = bindF (f117 a b c d (x / 4294967296 * (y % 4294967296) * 4294967296 % 18446744073709551616) (x / 4294967296 * (y % 4294967296) / 4294967296) 0 0) fun r9 => go (2, r9.1, r9.2.1, r9.2.2.1, r9.2.2.2) := fun go a b c d => by
  unfold f70_l1
  rw [show decide ((1 : Int) < 2) = true from rfl]
  simp only [cond_true]
  rw [guardF_pos (by decide), pickB, show IntKind.i64.wrap ((1 : Int) + 1) = 2 from rfl]
  simp only [sh32u, and32 x h0 x2, and32 y g0 y2, w0 _ q0 q1, wu]; rw [sh]
 have st2 : ∀ go a b c d, f70_l1 x y go 2 a b c d = some (a, b, c, d) := fun go a b c d => by
  unfold f70_l1
  rw [show decide ((2 : Int) < 2) = false from rfl]
  rfl
 obtain ⟨t0, t1, t2, t3⟩ := two (x % 4294967296 * (y % 4294967296)) (x / 4294967296 * (y / 4294967296)) s0 (by omega) p0 (by omega)
 rw [and32 x h0 (by omega), and32 y g0 (by omega), sh32u, sh32u, w0 _ s0 s1, w0 _ p0 p1, lf1]
 simp only
 rw [st0]
 have f1 := times_step (x % 4294967296 * (y / 4294967296)) 0 0 0 r0 (by omega) (x % 4294967296 * (y % 4294967296) + 18446744073709551616 * (x / 4294967296 * (y / 4294967296)))
 rw [t0, t1, t2, t3] at f1
 rw [f1]
 simp only [bindF_some]
 rw [lf2]
 simp only
 rw [st1, times_step (x / 4294967296 * (y % 4294967296)) 0 0 0 q0 (by omega)]
 simp only [bindF_some]
 rw [lf3]
 simp only
 rw [st2, ← hxy]
theorem times_ok (a b : Int) (a0 : -9223372036854775808 ≤ a) (a1 : a < 9223372036854775808) (b0 : -9223372036854775808 ≤ b) (b1 : b < 9223372036854775808) :
  ∃ (s : Bool) (P : Int), f70 a b = some (s, W0 P, W1 P, W2 P, W3 P) ∧ 0 ≤ P ∧ P ≤ 85070591730234615865843651857942052864 ∧ (if s then -P else P) = a * b := by
 have key : ∀ x y : Int, 0 ≤ x → x ≤ 9223372036854775808 → 0 ≤ y → y ≤ 9223372036854775808 → 0 ≤ x * y ∧ x * y ≤ 85070591730234615865843651857942052864 := fun x y h0 h1 g0 g1 => ⟨Int.mul_nonneg h0 g0, Int.mul_le_mul h1 g1 g0 (by decide)⟩
 unfold f70
 rw [refSize_ok a a0 a1, refSize_ok b b0 b1]
 simp only [bindF_some]
 by_cases ha : a < 0 <;> by_cases hb : b < 0
 ·rw [if_pos ha, if_pos hb, times_loop _ _ (by omega) (by omega) (by omega) (by omega)]
  obtain ⟨k0, k1⟩ := key (-a) (-b) (by omega) (by omega) (by omega) (by omega)
  refine ⟨false, -a * -b, ?_, k0, k1, by rw [Int.neg_mul_neg]; rfl⟩
  simp only [bindF_some]
  rw [show (!(decide (a < 0) == decide (b < 0))) = false by simp [ha, hb]]
 ·rw [if_pos ha, if_neg hb, times_loop _ _ (by omega) (by omega) (by omega) (by omega)]
  obtain ⟨k0, k1⟩ := key (-a) b (by omega) (by omega) (by omega) (by omega)
  refine ⟨true, -a * b, ?_, k0, k1, by rw [if_pos rfl, Int.neg_mul, Int.neg_neg]⟩
  simp only [bindF_some]
  rw [show (!(decide (a < 0) == decide (b < 0))) = true by simp [ha, hb]]
 ·rw [if_neg ha, if_pos hb, times_loop _ _ (by omega) (by omega) (by omega) (by omega)]
  obtain ⟨k0, k1⟩ := key a (-b) (by omega) (by omega) (by omega) (by omega)
  refine ⟨true, a * -b, ?_, k0, k1, by rw [if_pos rfl, Int.mul_neg, Int.neg_neg]⟩
  simp only [bindF_some]
  rw [show (!(decide (a < 0) == decide (b < 0))) = true by simp [ha, hb]]
 ·rw [if_neg ha, if_neg hb, times_loop _ _ (by omega) (by omega) (by omega) (by omega)]
  obtain ⟨k0, k1⟩ := key a b (by omega) (by omega) (by omega) (by omega)
  refine ⟨false, a * b, ?_, k0, k1, rfl⟩
  simp only [bindF_some]
  rw [show (!(decide (a < 0) == decide (b < 0))) = false by simp [ha, hb]]
end Go.Proofs.Dots
namespace Go.Proofs.Dots
open Go.AM Go.Proofs.PlW
def word (q N : Nat) : Nat := N / 2 ^ (64 * q) % 2 ^ 64
theorem word_lt (q N : Nat) : word q N < 18446744073709551616 := Nat.mod_lt _ (by decide)
theorem word_bit (q N j : Nat) : (word q N).testBit j = (decide (j < 64) && N.testBit (j + 64 * q)) := by
 unfold word; rw [Nat.testBit_mod_two_pow, Nat.testBit_div_two_pow]
theorem word_step (D m q : Nat) : word q (D % 2 ^ (m + 1)) = if q = m / 64 ∧ D.testBit m = true then word q (D % 2 ^ m) ||| 2 ^ (m % 64) else word q (D % 2 ^ m) := by
 apply Nat.eq_of_testBit_eq
 intro j
 by_cases h : q = m / 64 ∧ D.testBit m = true
 ·rw [if_pos h, Nat.testBit_or, word_bit, word_bit, Nat.testBit_two_pow, Nat.testBit_mod_two_pow, Nat.testBit_mod_two_pow]
  by_cases hj : m % 64 = j
  ·have e : j + 64 * q = m := by omega
   have h64 : j < 64 := by omega
   rw [e, h.2]
   simp [hj, h64]
  ·by_cases h64 : j < 64
   ·have hn : j + 64 * q ≠ m := by omega
    have e : decide (j + 64 * q < m + 1) = decide (j + 64 * q < m) := by rw [decide_eq_decide]; omega
    simp [e, h64, hj]
   ·simp [h64, hj]
 ·rw [if_neg h, word_bit, word_bit, Nat.testBit_mod_two_pow, Nat.testBit_mod_two_pow]
  by_cases h64 : j < 64
  ·by_cases he : j + 64 * q = m
   ·have hb : D.testBit m = false := by
     cases hd : D.testBit m
     ·rfl
     ·exact absurd ⟨by omega, hd⟩ h
    rw [he, hb]
    simp
   ·have e : decide (j + 64 * q < m + 1) = decide (j + 64 * q < m) := by rw [decide_eq_decide]; omega
    rw [e]
  ·simp [h64]
theorem W_word (N : Nat) : W0 (N : Int) = (word 0 N : Int) ∧ W1 (N : Int) = (word 1 N : Int) ∧ W2 (N : Int) = (word 2 N : Int) ∧ W3 (N : Int) = (word 3 N : Int) := by
 have d1 : N / 2 ^ (64 * 1) = N / 18446744073709551616 := rfl
 have d2 : N / 2 ^ (64 * 2) = N / 18446744073709551616 / 18446744073709551616 := by rw [Nat.div_div_eq_div_mul]
 have d3 : N / 2 ^ (64 * 3) = N / 18446744073709551616 / 18446744073709551616 / 18446744073709551616 := by rw [Nat.div_div_eq_div_mul, Nat.div_div_eq_div_mul]
 have m : (2 : Nat) ^ 64 = 18446744073709551616 := rfl
 have m0 : N / 2 ^ (64 * 0) = N := Nat.div_one N
 unfold word
 rw [d1, d2, d3, m0, m]
 unfold W0 W1 W2 W3
 refine ⟨?_, ?_, ?_, ?_⟩ <;> simp
theorem bit_word (q N r : Nat) (hr : r < 64) : bitsOf IntKind.u64 (fun p q => p &&& q) (Int.fdiv (word q N : Int) (2 ^ r)) 1 = if N.testBit (r + 64 * q) = true then 1 else 0 := by
 rw [Int.fdiv_eq_ediv_of_nonneg _ (Int.le_of_lt (Int.pow_pos (by decide)))]
 have e : ((word q N : Int) / 2 ^ r) = ((word q N / 2 ^ r : Nat) : Int) := by simp
 have hl := word_lt q N
 have hd := Nat.div_le_self (word q N) (2 ^ r)
 have hb := word_bit q N r
 rw [Nat.testBit_eq_decide_div_mod_eq] at hb
 rw [show decide (r < 64) = true by simpa using hr, Bool.true_and] at hb
 rw [← hb, e]
 generalize word q N / 2 ^ r = x at *
 rw [and1 _ (by omega) (by omega)]
 by_cases h : x % 2 = 1
 ·rw [if_pos (by simpa using h)]; omega
 ·rw [if_neg (by simpa using h)]; omega
theorem idx (i : Nat) (hi : i < 256) : IntKind.i64.wrap (Int.tdiv (i : Int) 64) = ((i / 64 : Nat) : Int) ∧ IntKind.u64.wrap (Int.tmod (i : Int) 64) = ((i % 64 : Nat) : Int) ∧
  min (Int.toNat ((i % 64 : Nat) : Int)) (IntKind.bits IntKind.u64) = i % 64 := by
 refine ⟨?_, ?_, ?_⟩
 ·rw [Int.tdiv_eq_ediv_of_nonneg (by omega), wrap_i64 (by omega) (by omega)]; omega
 ·rw [Int.tmod_eq_emod_of_nonneg (by omega), wu]; omega
 ·rw [show IntKind.bits IntKind.u64 = 64 from rfl]; omega
theorem bit_ok (N i : Nat) (hi : i < 256) : f116 (W0 N) (W1 N) (W2 N) (W3 N) (i : Int) = some (if N.testBit i = true then 1 else 0) := by
 obtain ⟨e0, e1, e2, e3⟩ := W_word N
 obtain ⟨t1, t2, t3⟩ := idx i hi
 unfold f116
 rw [t1, t2, t3, e0, e1, e2, e3, guardF_pos (by omega), guardF_pos (by omega), guardF_pos (by omega), guardF_pos (by omega), guardF_pos (by omega)]
 rw [bit_word 0 N _ (by omega), bit_word 1 N _ (by omega), bit_word 2 N _ (by omega), bit_word 3 N _ (by omega)]
 have h : i / 64 = 0 ∨ i / 64 = 1 ∨ i / 64 = 2 ∨ i / 64 = 3 := by omega
 rcases h with h | h | h | h
 ·rw [h, show i % 64 + 64 * 0 = i by omega]; exact pick0 _ _ _ _
 ·rw [h, show i % 64 + 64 * 1 = i by omega]; exact pick1 _ _ _ _
 ·rw [h, show i % 64 + 64 * 2 = i by omega]; exact pick2 _ _ _ _
 ·rw [h, show i % 64 + 64 * 3 = i by omega]; exact pick3 _ _ _ _
theorem or_word (q C r : Nat) (hr : r < 64) : bitsOf IntKind.u64 (fun p q => p ||| q) (word q C : Int) (IntKind.u64.wrap (1 * 2 ^ r)) = ((word q C ||| 2 ^ r : Nat) : Int) := by
 have hp : (2 : Nat) ^ r < 2 ^ 64 := Nat.pow_lt_pow_right (by decide) hr
 rw [show (2 : Nat) ^ 64 = 18446744073709551616 from rfl] at hp
 have e : (1 * 2 ^ r : Int) = ((2 ^ r : Nat) : Int) := by simp
 have hl := word_lt q C
 rw [e]
 generalize 2 ^ r = x at *
 rw [wu, show (x : Int) % 18446744073709551616 = (x : Int) by omega, or_nat _ _ (by omega) (by omega) (by omega) (by omega)]
 rfl
theorem halve_loop (N : Nat) (hN : N < 2 ^ 256) :
  loopF (fun go (x : Int × Int × Int × Int × Int) => f69_l1 (W0 N) (W1 N) (W2 N) (W3 N) 32 go x.1 x.2.1 x.2.2.1 x.2.2.2.1 x.2.2.2.2) fuelN (32, (0 : Int), (0 : Int), (0 : Int), (0 : Int)) =
   some ((word 0 (N / 4294967296) : Int), (word 1 (N / 4294967296) : Int), (word 2 (N / 4294967296) : Int), (word 3 (N / 4294967296) : Int)) := by
 have hD : ∀ m, (N / 4294967296).testBit m = N.testBit (m + 32) := fun m => Nat.testBit_div_two_pow (n := 32) N m
 have hD2 : N / 4294967296 % 2 ^ 224 = N / 4294967296 := by
  apply Nat.mod_eq_of_lt
  rw [Nat.div_lt_iff_lt_mul (by decide)]
  exact hN
 generalize hDD : N / 4294967296 = D at *
 have H : ∀ x : Int × Int × Int × Int × Int, (∃ m : Nat, m ≤ 224 ∧ x = (((m + 32 : Nat) : Int), (word 0 (D % 2 ^ m) : Int), (word 1 (D % 2 ^ m) : Int), (word 2 (D % 2 ^ m) : Int), (word 3 (D % 2 ^ m) : Int))) →
   (∃ z, (∀ go, f69_l1 (W0 N) (W1 N) (W2 N) (W3 N) 32 go x.1 x.2.1 x.2.2.1 x.2.2.2.1 x.2.2.2.2 = some z) ∧ z = ((word 0 D : Int), (word 1 D : Int), (word 2 D : Int), (word 3 D : Int))) ∨
   (∃ y : Int × Int × Int × Int × Int, (∀ go, f69_l1 (W0 N) (W1 N) (W2 N) (W3 N) 32 go x.1 x.2.1 x.2.2.1 x.2.2.2.1 x.2.2.2.2 = go y) ∧
    (∃ m : Nat, m ≤ 224 ∧ y = (((m + 32 : Nat) : Int), (word 0 (D % 2 ^ m) : Int), (word 1 (D % 2 ^ m) : Int), (word 2 (D % 2 ^ m) : Int), (word 3 (D % 2 ^ m) : Int))) ∧ ((256 : Int) - y.1).toNat < ((256 : Int) - x.1).toNat) := by
  rintro _ ⟨m, hm, rfl⟩
  by_cases hlt : m < 224
  ·right
   refine ⟨(((m + 1 + 32 : Nat) : Int), (word 0 (D % 2 ^ (m + 1)) : Int), (word 1 (D % 2 ^ (m + 1)) : Int), (word 2 (D % 2 ^ (m + 1)) : Int), (word 3 (D % 2 ^ (m + 1)) : Int)), fun go => ?_, ⟨m + 1, hlt, rfl⟩, by simp only; omega⟩
   unfold f69_l1
   simp only
   rw [show decide (((m + 32 : Nat) : Int) < 256) = true by simp; omega]
   simp only [cond_true]
   rw [bit_ok N (m + 32) (by omega)]
   simp only [bindF_some]
   rw [← hD]
   have hi : IntKind.i64.wrap (((m + 32 : Nat) : Int) + 1) = ((m + 1 + 32 : Nat) : Int) := by rw [wrap_i64 (by omega) (by omega)]; omega
   have hs : IntKind.i64.wrap (((m + 32 : Nat) : Int) - 32) = (m : Int) := by rw [wrap_i64 (by omega) (by omega)]; omega
   obtain ⟨t1, t2, t3⟩ := idx m (by omega)
   by_cases hb : D.testBit m = true
   ·rw [if_pos hb, show ((1 : Int) == 1) = true from rfl]
    simp only [cond_true]
    rw [hi, hs, t1, t2, t3, guardF_pos (by omega), guardF_pos (by omega), guardF_pos (by omega), guardF_pos (by omega), guardF_pos (by omega)]
    rw [or_word 0 _ _ (by omega), or_word 1 _ _ (by omega), or_word 2 _ _ (by omega), or_word 3 _ _ (by omega)]
    have h : m / 64 = 0 ∨ m / 64 = 1 ∨ m / 64 = 2 ∨ m / 64 = 3 := by omega
    rcases h with h | h | h | h
    ·have k0 := word_step D m 0; have k1 := word_step D m 1; have k2 := word_step D m 2; have k3 := word_step D m 3
     rw [if_pos ⟨by omega, hb⟩] at k0
     rw [if_neg (by omega)] at k1 k2 k3
     rw [k0, k1, k2, k3, h]
     exact pick0 _ _ _ _
    ·have k0 := word_step D m 0; have k1 := word_step D m 1; have k2 := word_step D m 2; have k3 := word_step D m 3
     rw [if_pos ⟨by omega, hb⟩] at k1
     rw [if_neg (by omega)] at k0 k2 k3
     rw [k0, k1, k2, k3, h]
     exact pick1 _ _ _ _
    ·have k0 := word_step D m 0; have k1 := word_step D m 1; have k2 := word_step D m 2; have k3 := word_step D m 3
     rw [if_pos ⟨by omega, hb⟩] at k2
     rw [if_neg (by omega)] at k0 k1 k3
     rw [k0, k1, k2, k3, h]
     exact pick2 _ _ _ _
    ·have k0 := word_step D m 0; have k1 := word_step D m 1; have k2 := word_step D m 2; have k3 := word_step D m 3
     rw [if_pos ⟨by omega, hb⟩] at k3
     rw [if_neg (by omega)] at k0 k1 k2
     rw [k0, k1, k2, k3, h]
     exact pick3 _ _ _ _
   ·rw [if_neg hb, show ((0 : Int) == 1) = false from rfl]
    simp only [cond_false]
    have k : ∀ q, word q (D % 2 ^ (m + 1)) = word q (D % 2 ^ m) := fun q => by rw [word_step, if_neg (fun h => hb h.2)]
    rw [hi, k, k, k, k]
  ·left
   have : m = 224 := by omega
   subst this
   refine ⟨_, fun go => ?_, rfl⟩
   unfold f69_l1
   simp only
   rw [show decide ((((224 + 32 : Nat)) : Int) < 256) = false from rfl, hD2]
   rfl
 have z0 : ∀ q, word q (D % 2 ^ 0) = 0 := fun q => by
  rw [Nat.pow_zero, Nat.mod_one]; unfold word; rw [Nat.zero_div]
 obtain ⟨z, e, rfl⟩ := loop_fuel (B := fun go (x : Int × Int × Int × Int × Int) => f69_l1 (W0 N) (W1 N) (W2 N) (W3 N) 32 go x.1 x.2.1 x.2.2.1 x.2.2.2.1 x.2.2.2.2) _ (fun x => ((256 : Int) - x.1).toNat) _ H
  (32, (0 : Int), (0 : Int), (0 : Int), (0 : Int)) ⟨0, by decide, by rw [z0, z0, z0, z0]; rfl⟩ (by decide)
 exact e
theorem low_bits (N m : Nat) : N % 2 ^ (m + 1) = 0 ↔ N % 2 ^ m = 0 ∧ N.testBit m = false := by
 rw [Nat.testBit_eq_decide_div_mod_eq, Nat.mod_pow_succ]
 have hp : 0 < 2 ^ m := Nat.two_pow_pos m
 have h2 : N / 2 ^ m % 2 < 2 := Nat.mod_lt _ (by decide)
 generalize N / 2 ^ m % 2 = b at *
 generalize N % 2 ^ m = a at *
 have hb : b = 0 ∨ b = 1 := by omega
 rcases hb with rfl | rfl
 ·simp
 ·simp
  try omega
theorem more_loop (N : Nat) (o : Bool) :
  loopF (fun go (x : Bool × Int) => f69_l3 (W0 N) (W1 N) (W2 N) (W3 N) 32 go x.1 x.2) fuelN (o, 0) = some (o || !(decide (N % 2147483648 = 0))) := by
 have H : ∀ x : Bool × Int, (∃ m : Nat, m ≤ 31 ∧ x = ((o || !(decide (N % 2 ^ m = 0))), (m : Int))) →
   (∃ z, (∀ go, f69_l3 (W0 N) (W1 N) (W2 N) (W3 N) 32 go x.1 x.2 = some z) ∧ z = (o || !(decide (N % 2147483648 = 0)))) ∨
   (∃ y : Bool × Int, (∀ go, f69_l3 (W0 N) (W1 N) (W2 N) (W3 N) 32 go x.1 x.2 = go y) ∧
    (∃ m : Nat, m ≤ 31 ∧ y = ((o || !(decide (N % 2 ^ m = 0))), (m : Int))) ∧ ((31 : Int) - y.2).toNat < ((31 : Int) - x.2).toNat) := by
  rintro _ ⟨m, hm, rfl⟩
  have w31 : IntKind.i64.wrap ((32 : Int) - 1) = 31 := rfl
  by_cases hlt : m < 31
  ·right
   refine ⟨((o || !(decide (N % 2 ^ (m + 1) = 0))), ((m + 1 : Nat) : Int)), fun go => ?_, ⟨m + 1, hlt, rfl⟩, by simp only; omega⟩
   unfold f69_l3
   simp only
   rw [w31, show decide ((m : Int) < 31) = true by simp; omega]
   simp only [cond_true]
   rw [show IntKind.i64.wrap ((m : Int) + 1) = ((m + 1 : Nat) : Int) by rw [wrap_i64 (by omega) (by omega)]; omega]
   have lb := low_bits N m
   by_cases h : (o || !(decide (N % 2 ^ m = 0))) = true
   ·rw [h]
    simp only [cond_true]
    have : (o || !(decide (N % 2 ^ (m + 1) = 0))) = true := by
     cases o
     ·simp only [Bool.false_or, Bool.not_eq_true', decide_eq_false_iff_not] at h ⊢
      exact fun h2 => h (lb.1 h2).1
     ·rfl
    rw [this]
   ·have hf : (o || !(decide (N % 2 ^ m = 0))) = false := by simpa using h
    rw [hf]
    simp only [cond_false]
    rw [bit_ok N m (by omega)]
    simp only [bindF_some]
    have ho : o = false := by cases o <;> simp at hf ⊢
    have hz : N % 2 ^ m = 0 := by subst ho; simpa using hf
    subst ho
    cases hb : N.testBit m
    ·have : N % 2 ^ (m + 1) = 0 := lb.2 ⟨hz, hb⟩
     rw [this]
     rfl
    ·have : N % 2 ^ (m + 1) ≠ 0 := fun h2 => by have := (lb.1 h2).2; rw [hb] at this; exact Bool.noConfusion this
     rw [show decide (N % 2 ^ (m + 1) = 0) = false by simpa using this]
     rfl
  ·left
   have : m = 31 := by omega
   subst this
   refine ⟨_, fun go => ?_, rfl⟩
   unfold f69_l3
   simp only
   rw [w31, show decide (((31 : Nat) : Int) < 31) = false from rfl]
   rfl
 obtain ⟨z, e, rfl⟩ := loop_fuel (B := fun go (x : Bool × Int) => f69_l3 (W0 N) (W1 N) (W2 N) (W3 N) 32 go x.1 x.2) _ (fun x => ((31 : Int) - x.2).toNat) _ H
  (o, 0) ⟨0, by decide, by rw [Nat.pow_zero, Nat.mod_one]; simp⟩ (by simp)
 exact e
theorem rhe_neg (S : Int) : rhe (-S) = -rhe S := by
 unfold rhe
 split <;> split <;> omega
theorem halved_ok (s : Bool) (A : Int) (h0 : 0 ≤ A) (h1 : A ≤ 100000000000000000000000000000000000000000000) :
  f69 s (W0 A) (W1 A) (W2 A) (W3 A) 32 = some (s, W0 (rhe A), W1 (rhe A), W2 (rhe A), W3 (rhe A)) := by
 obtain ⟨N, rfl⟩ := Int.eq_ofNat_of_zero_le h0
 have hN : N < 2 ^ 256 := by
  have : (2 : Nat) ^ 256 = 115792089237316195423570985008687907853269984665640564039457584007913129639936 := by decide
  omega
 unfold f69
 rw [halve_loop N hN]
 simp only [bindF_some]
 obtain ⟨e0, e1, e2, e3⟩ := W_word (N / 4294967296)
 rw [← e0, ← e1, ← e2, ← e3]
 have hd : ((N / 4294967296 : Nat) : Int) = (N : Int) / 4294967296 := by omega
 rw [hd]
 have hj : f69_j2 (W0 N) (W1 N) (W2 N) (W3 N) 32 = some (if N.testBit 31 = true then Sum.inl () else Sum.inr ()) := by
  unfold f69_j2
  rw [show ((32 : Int) == 0) = false from rfl]
  simp only [cond_false]
  have := bit_ok N 31 (by decide)
  rw [show IntKind.i64.wrap ((32 : Int) - 1) = ((31 : Nat) : Int) from rfl, this]
  simp only [bindF_some]
  cases N.testBit 31 <;> rfl
 rw [hj]
 have hb : N.testBit 31 = decide (N / 2147483648 % 2 = 1) := Nat.testBit_eq_decide_div_mod_eq
 by_cases hbit : N.testBit 31 = true
 ·rw [if_pos hbit]
  rw [hb] at hbit
  have hbit : N / 2147483648 % 2 = 1 := by simpa using hbit
  simp only [bindF_some, sumF_inl]
  rw [more_loop]
  simp only [bindF_some]
  have w0 : W0 ((N : Int) / 4294967296) = (N : Int) / 4294967296 % 18446744073709551616 := rfl
  have ha : bitsOf IntKind.u64 (fun p q => p &&& q) (W0 ((N : Int) / 4294967296)) 1 = (N : Int) / 4294967296 % 2 := by
   rw [and1 _ (by rw [w0]; omega) (by rw [w0]; omega), w0]; omega
  rw [ha]
  by_cases hm : ((N : Int) / 4294967296 % 2 == 1 || !(decide (N % 2147483648 = 0))) = true
  ·rw [hm]
   simp only [cond_true]
   have h1 : W0 1 = 1 ∧ W1 1 = 0 ∧ W2 1 = 0 ∧ W3 1 = 0 := small 1 (by decide) (by decide)
   have hp := plus_ok ((N : Int) / 4294967296) 1
   rw [h1.1, h1.2.1, h1.2.2.1, h1.2.2.2] at hp
   rw [hp]
   have hr : rhe (N : Int) = (N : Int) / 4294967296 + 1 := by
    unfold rhe
    rw [if_pos]
    simp only [Bool.or_eq_true, beq_iff_eq, Bool.not_eq_true', decide_eq_false_iff_not] at hm
    omega
   rw [hr]
   rfl
  ·rw [show ((N : Int) / 4294967296 % 2 == 1 || !(decide (N % 2147483648 = 0))) = false by simpa using hm]
   simp only [cond_false]
   have hr : rhe (N : Int) = (N : Int) / 4294967296 := by
    unfold rhe
    rw [if_neg]
    simp only [Bool.or_eq_true, beq_iff_eq, Bool.not_eq_true', decide_eq_false_iff_not] at hm
    omega
   rw [hr]
 ·rw [if_neg hbit]
  rw [hb] at hbit
  have hbit : ¬ (N / 2147483648 % 2 = 1) := by simpa using hbit
  simp only [bindF_some, sumF_inr]
  have hr : rhe (N : Int) = (N : Int) / 4294967296 := by
   unfold rhe
   rw [if_neg]
   omega
  rw [hr]
theorem or_zero (a b : Int) (h0 : 0 ≤ a) (h1 : a < 18446744073709551616) (g0 : 0 ≤ b) (g1 : b < 18446744073709551616) :
  ∃ n : Nat, bitsOf IntKind.u64 (fun p q => p ||| q) a b = (n : Int) ∧ n < 18446744073709551616 ∧ (n = 0 ↔ a = 0 ∧ b = 0) := by
 refine ⟨a.toNat ||| b.toNat, or_nat a b h0 h1 g0 g1, ?_, ?_⟩
 ·exact Nat.or_lt_two_pow (n := 64) (by omega) (by omega)
 ·rw [Nat.or_eq_zero_iff]; omega
theorem held_ok (s : Bool) (R : Int) (h0 : 0 ≤ R) (h1 : R ≤ 100000000000000000000000000000000000000000000) :
  f60 s (W0 R) (W1 R) (W2 R) (W3 R) = some (sat (if s then -R else R)) := by
 obtain ⟨⟨r0, s0⟩, ⟨r1, s1⟩, ⟨r2, s2⟩, ⟨r3, s3⟩⟩ := W_range R
 have hj : f60_j3 (W0 R) (W1 R) (W2 R) (W3 R) = some (decide (R ≥ 9223372036854775808)) := by
  unfold f60_j3
  obtain ⟨n, e, hn, hz⟩ := or_zero (W1 R) (W2 R) r1 s1 r2 s2
  obtain ⟨p, e', hp, hz'⟩ := or_zero (n : Int) (W3 R) (by omega) (by omega) r3 s3
  rw [e, e']
  have w : W0 R = R % 18446744073709551616 := rfl
  have w1 : W1 R = R / 18446744073709551616 % 18446744073709551616 := rfl
  have w2 : W2 R = R / 18446744073709551616 / 18446744073709551616 % 18446744073709551616 := rfl
  by_cases hp0 : p = 0
  ·subst hp0
   rw [show (((0 : Nat) : Int) != 0) = false from rfl]
   simp only [cond_false, Option.some.injEq]
   rw [decide_eq_decide]
   have hn0 : (n : Int) = 0 := (hz'.1 rfl).1
   have hq := hz.1 (by omega)
   omega
  ·rw [show ((p : Int) != 0) = true by simp; omega]
   simp only [cond_true, Option.some.injEq]
   symm
   rw [decide_eq_true_iff]
   by_cases hR : R < 18446744073709551616
   ·exfalso
    obtain ⟨k0, k1, k2, k3⟩ := small R h0 hR
    have hn0 : n = 0 := hz.2 ⟨k1, k2⟩
    exact hp0 (hz'.2 ⟨by omega, k3⟩)
   ·omega
 unfold f60 f60_j2
 rw [hj]
 simp only [bindF_some]
 by_cases hR : R ≥ 9223372036854775808
 ·rw [show decide (R ≥ 9223372036854775808) = true by simpa using hR]
  simp only [cond_true]
  cases s
  ·simp only [cond_false, bindF_some, sumF_inr, Option.some.injEq, sat]
   simp only [Bool.false_eq_true, if_false]
   rw [if_pos hR]
  ·simp only [cond_true, bindF_some, sumF_inr, Option.some.injEq, sat]
   simp only [if_true]
   rw [if_neg (by omega)]
   split <;> omega
 ·rw [show decide (R ≥ 9223372036854775808) = false by simpa using hR]
  simp only [cond_false]
  obtain ⟨k0, k1, k2, k3⟩ := small R h0 (by omega)
  rw [k0]
  cases s
  ·simp only [cond_false, bindF_some, sumF_inl, Option.some.injEq, sat]
   simp only [Bool.false_eq_true, if_false]
   rw [if_neg hR, if_neg (by omega), wrap_i64 (by omega) (by omega)]
  ·simp only [cond_true, bindF_some, sumF_inl, Option.some.injEq, sat]
   simp only [if_true]
   rw [if_neg (by omega), if_neg (by omega), wrap_i64 (n := R) (by omega) (by omega), wrap_i64 (by omega) (by omega)]
   omega
theorem rhe_range (A : Int) (h0 : 0 ≤ A) (h1 : A ≤ 10000000000000000000000000000000000000000000) : 0 ≤ rhe A ∧ rhe A ≤ 100000000000000000000000000000000000000000000 := by
 unfold rhe; split <;> omega
end Go.Proofs.Dots
namespace Go.Proofs.Num
open Go.AM Go.Proofs.PlW Go.Proofs.Dots
def Nm (v : Int) (x : Bool × Int × Int × Int × Int) : Prop := ∃ A : Int, 0 ≤ A ∧ x = (x.1, W0 A, W1 A, W2 A, W3 A) ∧ v = if x.1 then -A else A
def Sm (v : Int) : Prop := -10000000000000000000000000000000000000000000 ≤ v ∧ v ≤ 10000000000000000000000000000000000000000000
theorem nm_abs {v : Int} {s : Bool} {A : Int} (h : v = if s then -A else A) : v = -A ∧ s = true ∨ v = A ∧ s = false := by cases s <;> simp_all
theorem held_nm {a : Int} {x : Bool × Int × Int × Int × Int} (ha : Nm a x) (sa : Sm a) : f60 x.1 x.2.1 x.2.2.1 x.2.2.2.1 x.2.2.2.2 = some (sat a) := by
 obtain ⟨A, a0, a1, a2⟩ := ha
 unfold Sm at sa
 have la : A ≤ 10000000000000000000000000000000000000000000 := by rcases nm_abs a2 with ⟨e, s⟩ | ⟨e, s⟩ <;> omega
 rw [a1, a2]
 exact held_ok x.1 A a0 (by omega)
theorem sm_rhe {a : Int} (h : -1000000000000000000000000000000000000000000 ≤ a ∧ a ≤ 1000000000000000000000000000000000000000000) : Sm (rhe a) := by
 unfold Sm rhe; split <;> omega
theorem halved_nm {a : Int} {x : Bool × Int × Int × Int × Int} (ha : Nm a x) (sa : Sm a) : ∃ z, f69 x.1 x.2.1 x.2.2.1 x.2.2.2.1 x.2.2.2.2 32 = some z ∧ Nm (rhe a) z := by
 obtain ⟨A, a0, a1, a2⟩ := ha
 unfold Sm at sa
 have la : A ≤ 10000000000000000000000000000000000000000000 := by rcases nm_abs a2 with ⟨e, s⟩ | ⟨e, s⟩ <;> omega
 rw [a1]
 refine ⟨_, halved_ok x.1 A a0 (by omega), rhe A, (rhe_range A a0 la).1, rfl, ?_⟩
 rcases nm_abs a2 with ⟨e, s⟩ | ⟨e, s⟩
 ·rw [e, s]; simp [rhe_neg]
 ·rw [e, s]; simp
theorem times_nm (a b : Int) (a0 : -9223372036854775808 ≤ a) (a1 : a < 9223372036854775808) (b0 : -9223372036854775808 ≤ b) (b1 : b < 9223372036854775808) :
  ∃ z, f70 a b = some z ∧ Nm (a * b) z := by
 obtain ⟨s, P, e, p0, p1, p2⟩ := times_ok a b a0 a1 b0 b1
 exact ⟨_, e, P, p0, rfl, p2.symm⟩
theorem prod_sm {a b : Int} (a0 : -9223372036854775808 ≤ a) (a1 : a < 9223372036854775808) (b0 : -9223372036854775808 ≤ b) (b1 : b < 9223372036854775808) :
  -85070591730234615865843651857942052864 ≤ a * b ∧ a * b ≤ 85070591730234615865843651857942052864 := prod_bound a b a0 a1 b0 b1
theorem rMul (a b : Int) (a0 : -9223372036854775808 ≤ a) (a1 : a < 9223372036854775808) (b0 : -9223372036854775808 ≤ b) (b1 : b < 9223372036854775808) : f27 a b = some (sat (rhe (a * b))) := by
 unfold f27
 obtain ⟨p0, p1⟩ := prod_sm a0 a1 b0 b1
 obtain ⟨x, ex, hx⟩ := times_nm a b a0 a1 b0 b1
 rw [ex]
 simp only [bindF_some]
 obtain ⟨y, ey, hy⟩ := halved_nm hx (by unfold Sm; omega)
 rw [ey]
 simp only [bindF_some]
 rw [held_nm hy (sm_rhe (by omega))]
 rfl
end Go.Proofs.Num
namespace Go.Proofs.Num
open Go.AM Go.Proofs.PlW Go.Proofs.Dots
def top (D j : Nat) : Nat := D / 2 ^ j * 2 ^ j
end Go.Proofs.Num
namespace Go.Proofs.Div
open Go.AM Go.Proofs.PlW
def tabOk (x : Nat) : Bool := match (bt f182_s1 (x : Int)) with
 | .ofNat t => decide (1 ≤ t) && decide (t ≤ 8) && decide (2 ^ (t - 1) ≤ x) && decide (x + 1 ≤ 2 ^ t)
 | .negSucc _ => false
theorem tab_all : (List.range 256).all (fun x => x == 0 || tabOk x) = true := by kernel_rfl
theorem tab_ok (x : Nat) (h0 : 0 < x) (h1 : x < 256) : ∃ t : Nat, bt f182_s1 (x : Int) = (t : Int) ∧ 1 ≤ t ∧ t ≤ 8 ∧ 2 ^ (t - 1) ≤ x ∧ x + 1 ≤ 2 ^ t := by
 have := List.all_eq_true.1 tab_all x (List.mem_range.2 h1)
 rw [show (x == 0) = false by simp; omega, Bool.false_or] at this
 unfold tabOk at this
 split at this
 ·next t ht =>
  simp only [Bool.and_eq_true, decide_eq_true_eq] at this
  exact ⟨t, ht, this.1.1.1, this.1.1.2, this.1.2, this.2⟩
 ·exact absurd this (by decide)
structure Dig (Y a b u d q r : Int) : Prop where
 eq : q * a + r = u
 r0 : 0 ≤ r
 r1 : r < 4294967296
 q0 : 0 ≤ q
 q1 : q ≤ 4294967297
 ge : (u * 4294967296 + d) / Y ≤ q
end Go.Proofs.Div
namespace Go.Proofs.PlV
open Go.AM Go.Proofs.PlB Go.Proofs.PlW Go.Proofs.PlT
def pair (V : Int) : Int × Int := (V / 18446744073709551616, V % 18446744073709551616)
def far (V : Int) : Prop := -85070591730234615865843651857942052864 ≤ V ∧ V ≤ 85070591730234615865843651857942052864
theorem of_ok (v : Int) (h0 : -9223372036854775808 ≤ v) (h1 : v < 9223372036854775808) : f101 v = some (pair v) := by
 unfold f101 pair
 rw [sh63i, wu]
 congr 2
 omega
theorem add_w (A B : Int) (ha : far A) (hb : far B) (hs : far (A + B)) : f137 (pair A) (pair B) = some (pair (A + B)) := by
 obtain ⟨a0, a1⟩ := ha
 obtain ⟨b0, b1⟩ := hb
 obtain ⟨s0, s1⟩ := hs
 unfold f137 pair
 simp only
 rw [add_ok _ _ _ (by omega) (by omega) (by decide) (by decide)]
 simp only [bindF_some, wu]
 rw [add_ok _ _ _ (by omega) (by omega) (by omega) (by omega)]
 simp only [bindF_some, Option.some.injEq, Prod.mk.injEq]
 refine ⟨?_, by omega⟩
 rw [wi_mod, ← wi_mod]
 rw [show (A / 18446744073709551616 % 18446744073709551616 + B / 18446744073709551616 % 18446744073709551616 + (A % 18446744073709551616 + B % 18446744073709551616 + 0) / 18446744073709551616) % 18446744073709551616 = (A + B) / 18446744073709551616 % 18446744073709551616 by omega]
 rw [wi_mod, wrap_i64 (by omega) (by omega)]
theorem fix_ok (V : Int) (hv : far V) : f138 (pair V) = some (sat V) := by
 obtain ⟨a0, a1⟩ := hv
 unfold f138 f138_j2 f138_j3 pair sat
 simp only
 by_cases h1 : V / 18446744073709551616 > 0
 ·rw [show decide (V / 18446744073709551616 > 0) = true by simpa using h1, if_pos (by omega)]
  rfl
 ·rw [show decide (V / 18446744073709551616 > 0) = false by simpa using h1]
  simp only [cond_false]
  by_cases h2 : V / 18446744073709551616 = 0
  ·rw [show (V / 18446744073709551616 == 0) = true by simpa using h2]
   simp only [cond_true, bindF_some]
   rw [show decide (V / 18446744073709551616 < -1) = false by simp; omega, show (V / 18446744073709551616 == -1) = false by simp; omega]
   by_cases h3 : V % 18446744073709551616 ≥ 9223372036854775808
   ·rw [show decide (V % 18446744073709551616 ≥ 9223372036854775808) = true by simpa using h3, if_pos (by omega)]
    rfl
   ·rw [show decide (V % 18446744073709551616 ≥ 9223372036854775808) = false by simpa using h3, if_neg (by omega), if_neg (by omega)]
    simp only [cond_false, bindF_some, sumF_inl, Option.some.injEq]
    rw [wrap_i64 (by omega) (by omega)]
    omega
  ·rw [show (V / 18446744073709551616 == 0) = false by simpa using h2]
   simp only [cond_false, bindF_some]
   by_cases h3 : V / 18446744073709551616 < -1
   ·rw [show decide (V / 18446744073709551616 < -1) = true by simpa using h3, if_neg (by omega), if_pos (by omega)]
    rfl
   ·rw [show decide (V / 18446744073709551616 < -1) = false by simpa using h3, show (V / 18446744073709551616 == -1) = true by simp; omega]
    simp only [cond_false, cond_true]
    by_cases h4 : V % 18446744073709551616 < 9223372036854775808
    ·rw [show decide (V % 18446744073709551616 < 9223372036854775808) = true by simpa using h4, if_neg (by omega), if_pos (by omega)]
     rfl
    ·rw [show decide (V % 18446744073709551616 < 9223372036854775808) = false by simpa using h4, if_neg (by omega), if_neg (by omega)]
     simp only [cond_false, bindF_some, sumF_inl, Option.some.injEq]
     rw [wi]
     split <;> omega
end Go.Proofs.PlV
namespace Go.Proofs.Div
open Go.AM Go.Proofs.PlW Go.Proofs.Num Go.Proofs.PlV
end Go.Proofs.Div
namespace Go.Proofs.PlR
open Go.AM Go.Proofs.PlB Go.Proofs.PlW Go.Proofs.PlT Go.Proofs.PlS
abbrev Tn := List Int × List Int
theorem sat_range (x : Int) : -9223372036854775808 ≤ sat x ∧ sat x < 9223372036854775808 := by unfold sat; split <;> (try split) <;> omega
theorem tab_inI (n : Nat) (g : Nat → Int) (h : ∀ i, i < n → -9223372036854775808 ≤ g i ∧ g i < 9223372036854775808) : inI (tabL n g) := fun x hx => by
 unfold tabL at hx
 obtain ⟨i, hi, rfl⟩ := List.mem_map.1 hx
 exact h i (List.mem_range.1 hi)
end Go.Proofs.PlR
namespace Go.Proofs.PlV
open Go.AM Go.Proofs.PlB Go.Proofs.PlW Go.Proofs.PlT
end Go.Proofs.PlV
namespace Go.Proofs.PlR
open Go.AM Go.Proofs.PlB Go.Proofs.PlW Go.Proofs.PlT Go.Proofs.PlS Go.Proofs.PlV
def sumL : List Int → Int
 | [] => 0
 | x :: r => x + sumL r
theorem sumL_app : ∀ a b : List Int, sumL (a ++ b) = sumL a + sumL b
 | [], b => by simp [sumL]
 | x :: r, b => by simp only [List.cons_append, sumL, sumL_app r b]; omega
theorem sumL_bound (b : Int) (hb : 0 ≤ b) : ∀ l : List Int, (∀ x ∈ l, -b ≤ x ∧ x ≤ b) → -(l.length * b) ≤ sumL l ∧ sumL l ≤ l.length * b
 | [], _ => by simp [sumL]
 | x :: r, h => by
  have h1 := h x (by simp)
  have h2 := sumL_bound b hb r (fun y hy => h y (by simp [hy]))
  simp only [sumL, List.length_cons, Int.natCast_add, Int.natCast_one, Int.add_mul, Int.one_mul]
  omega
theorem far_sum (l : List Int) (il : inI l) (hl : l.length ≤ 4096) : far (sumL l) := by
 have h := sumL_bound 9223372036854775808 (by decide) l (fun x hx => by have := il x hx; omega)
 unfold far; omega
theorem total_ok (l : List Int) (il : inI l) (hl : l.length ≤ 4096) : f139 l = some (pair (sumL l)) := by
 unfold f139
 have H : ∀ x : Int × Int × Int, (∃ k : Nat, k ≤ l.length ∧ x = ((k : Int), (pair (sumL (l.take k))).1, (pair (sumL (l.take k))).2)) →
   (∃ z, (∀ go, f139_l1 l go x.1 x.2.1 x.2.2 = some z) ∧ z = pair (sumL l)) ∨
   (∃ y : Int × Int × Int, (∀ go, f139_l1 l go x.1 x.2.1 x.2.2 = go y) ∧ (∃ k : Nat, k ≤ l.length ∧ y = ((k : Int), (pair (sumL (l.take k))).1, (pair (sumL (l.take k))).2)) ∧ ((l.length : Int) - y.1).toNat < ((l.length : Int) - x.1).toNat) := by
  rintro _ ⟨k, hk, rfl⟩
  unfold f139_l1
  simp only
  by_cases h : k < l.length
  ·right
   refine ⟨(((k + 1 : Nat) : Int), (pair (sumL (l.take (k + 1)))).1, (pair (sumL (l.take (k + 1)))).2), fun go => ?_, ⟨k + 1, h, rfl⟩, by simp only; omega⟩
   rw [show decide ((k : Int) < (l.length : Int)) = true by simpa using h]
   simp only [cond_true]
   have hr := il l[k] (List.getElem_mem h)
   rw [guardF_pos (by omega), rd_nat _ _ _ h, of_ok _ hr.1 hr.2]
   simp only [bindF_some]
   have e : sumL (l.take (k + 1)) = sumL (l.take k) + l[k] := by
    rw [List.take_succ_eq_append_getElem h, sumL_app]
    simp [sumL]
   have far1 : far (sumL (l.take k)) := far_sum _ (fun x hx => il x (List.mem_of_mem_take hx)) (by simp; omega)
   have far2 : far (sumL (l.take (k + 1))) := far_sum _ (fun x hx => il x (List.mem_of_mem_take hx)) (by simp; omega)
   rw [e] at far2 ⊢
   rw [show ((pair (sumL (l.take k))).1, (pair (sumL (l.take k))).2) = pair (sumL (l.take k)) from rfl, show ((pair l[k]).1, (pair l[k]).2) = pair l[k] from rfl, add_w _ _ far1 (by unfold far; omega) far2]
   simp only [bindF_some]
   rw [wrap_i64 (by omega) (by omega)]
   rfl
  ·left
   have : k = l.length := by omega
   subst this
   refine ⟨_, fun go => ?_, rfl⟩
   rw [show decide ((l.length : Int) < (l.length : Int)) = false by simp]
   rw [List.take_length]
   rfl
 obtain ⟨z, e, rfl⟩ := loop_fuel (B := fun go (x : Int × Int × Int) => f139_l1 l go x.1 x.2.1 x.2.2) _ (fun x => ((l.length : Int) - x.1).toNat) _ H ((0 : Int), (0 : Int), (0 : Int)) ⟨0, Nat.zero_le _, by simp [pair, sumL]⟩ (by simp; omega)
 rw [e]
 rfl
abbrev Nd := Int × Int × Int × Int × (List Int) × (List Int)
def nd (l : List Nd) (i : Nat) : Tn := (rd (Ty.z (.p (.int .i64) (.p (.int .i64) (.p (.int .i64) (.p (.int .i64) (.p (.sl (.int .i64)) (.sl (.int .i64)))))))) l (i : Int)).2.2.2.2
theorem push_ok (l : List Nd) (n : Nd) (h : l.length < 512) : f34 l n = some ((l.length : Int), l ++ [n]) := by
 unfold f34
 rw [guardF_pos (by simp; omega)]
 simp only [bindF_some, List.length_append, List.length_cons, List.length_nil]
 rw [wrap_i64 (by omega) (by omega)]
 simp
theorem leaf_ok (l : List Nd) (a : Tn) (h : l.length < 512) (hg : tgood a = true) : f14 l a = some ((l.length : Int), 0, l ++ [(1, -1, -1, 0, a.1, a.2)]) := by
 obtain ⟨_, _, l1, l2⟩ := good_len hg
 unfold f14
 rw [show decide ((List.length l : Int) ≥ (512 : Int)) = false by simp; omega, show (a.1, a.2) = a from rfl, good_ok, hg]
 simp only [cond_false, bindF_some, Bool.not_true]
 rw [copy_t a (by omega) (by omega)]
 simp only [bindF_some]
 rw [push_ok _ _ h]
 rfl
end Go.Proofs.PlR
namespace Go.Proofs.Op
open Go.AM Go.Proofs.PlB Go.Proofs.PlW Go.Proofs.PlT Go.Proofs.PlS Go.Proofs.Sh Go.Proofs.Num Go.Proofs.Div
abbrev Tn := List Int × List Int
abbrev InR (x : Int) : Prop := -9223372036854775808 ≤ x ∧ x < 9223372036854775808
theorem sat_in (x : Int) : InR (sat x) := PlR.sat_range x
theorem inI_tab {n : Nat} {g : Nat → Int} (h : ∀ i, i < n → InR (g i)) : inI (tabL n g) := PlR.tab_inI n g h
theorem inI_rd {l : List Int} (h : inI l) (i : Nat) (hi : i < l.length) : InR (rd (0 : Int) l (i : Int)) := inI_get h i hi
def bothS (f : Int → Int → Int) (a b : Tn) : Int × Tn :=
 if tgood a = true ∧ tgood b = true then
  (if (jS a.1 b.1).1 = 0 then (0, (jS a.1 b.1).2, tabL (prd (jS a.1 b.1).2).toNat (fun i => f (rd (0 : Int) a.2 (spX a.1 (jS a.1 b.1).2 i)) (rd (0 : Int) b.2 (spX b.1 (jS a.1 b.1).2 i)))) else ((jS a.1 b.1).1, [], []))
 else (1, [], [])
theorem jS_zero {a b : List Int} (h : (jS a b).1 = 0) : Joined a b (jS a b).2 := jS_joined (d := (jS a b).2) (Prod.ext h rfl)
theorem addP (a b : Tn) (ia : inI a.2) (ib : inI b.2) : f81 a b = some (bothS addV a b) := by
 unfold bothS
 by_cases hg : tgood a = true ∧ tgood b = true
 ·rw [if_pos hg]
  by_cases hj : (jS a.1 b.1).1 = 0
  ·rw [if_pos hj]
   exact add_of a b _ ia ib hg.1 hg.2 (by rw [joinP, ← hj]) (jS_zero hj)
  ·rw [if_neg hj]
   unfold f81 f124_125 f124_125_j2 f124_125_j3
   rw [show ((a.1, a.2) : Tn) = a from rfl, show ((b.1, b.2) : Tn) = b from rfl, good_ok, good_ok, hg.1, hg.2, joinP]
   simp only [bindF_some, Bool.not_true, cond_false, sumF_inl]
   rw [nT hj]; rfl
 ·rw [if_neg hg]
  unfold f81 f124_125 f124_125_j2 f124_125_j3
  rw [show ((a.1, a.2) : Tn) = a from rfl, show ((b.1, b.2) : Tn) = b from rfl, good_ok, good_ok]
  cases h1 : tgood a <;> cases h2 : tgood b <;> simp_all <;> rfl
def scaleS (a : Tn) (k : Int) : Int × Tn := if tgood a = true then (0, a.1, tabL a.2.length (fun i => mulX (rd (0 : Int) a.2 i) k)) else (1, [], [])
theorem scaleP (a : Tn) (k : Int) (ia : inI a.2) (hk : InR k) : f86 a k = some (scaleS a k) := scale_ok a k ia hk.1 hk.2
theorem allP (a : Tn) (ia : inI a.2) (hg : tgood a = true) : f90 a = some (sat (PlR.sumL a.2), 0) := by
 obtain ⟨_, _, _, hl⟩ := good_len hg
 unfold f90
 rw [show ((a.1, a.2) : Tn) = a from rfl, good_ok, hg, bindF_some, Bool.not_true, cond_false, PlR.total_ok a.2 ia hl, bindF_some]
 rw [show ((PlV.pair (PlR.sumL a.2)).1, (PlV.pair (PlR.sumL a.2)).2) = PlV.pair (PlR.sumL a.2) from rfl, PlV.fix_ok _ (PlR.far_sum a.2 ia hl)]
 rfl
end Go.Proofs.Op
namespace Go.Proofs.Op
open Go.AM Go.Proofs.PlB Go.Proofs.PlW Go.Proofs.PlT Go.Proofs.PlS Go.Proofs.Sh Go.Proofs.Num Go.Proofs.Div
theorem sameP (a b : List Int) (h : a.length < 4611686018427387904) : f44 a b = some (decide (a = b)) := by
 unfold f44
 rw [show f95 a b = f47 a b from rfl, sameR a b h]; rfl
def foldSt (sp : Nat → Int) (V : List Int) (N : Nat) : Nat → List Int
 | 0 => List.replicate N 0
 | k + 1 => (foldSt sp V N k).set (sp k).toNat (addV (rd (0 : Int) (foldSt sp V N k) (sp k)) (rd (0 : Int) V (k : Int)))
theorem fold_len (sp : Nat → Int) (V : List Int) (N : Nat) : ∀ k, (foldSt sp V N k).length = N
 | 0 => by simp [foldSt]
 | k + 1 => by simp only [foldSt, List.length_set]; exact fold_len sp V N k
theorem inI_set {l : List Int} (h : inI l) (i : Nat) (v : Int) (hv : InR v) : inI (l.set i v) := fun x hx => by
 rcases List.mem_or_eq_of_mem_set hx with h1 | h1
 ·exact h x h1
 ·rw [h1]; exact hv
theorem inI_rep (n : Nat) (v : Int) (hv : InR v) : inI (List.replicate n v) := fun x hx => by
 rw [(List.mem_replicate.1 hx).2]; exact hv
theorem fold_inI (sp : Nat → Int) (V : List Int) (N : Nat) : ∀ k, inI (foldSt sp V N k)
 | 0 => inI_rep _ _ (by decide)
 | k + 1 => by simp only [foldSt]; exact inI_set (fold_inI sp V N k) _ _ (sat_in _)
def foldS (a : Tn) (d : List Int) : Int × Tn :=
 if tgood a = true ∧ 0 < prd d then (if jS d a.1 = (0, a.1) then (0, d, foldSt (spX d a.1) a.2 (prd d).toNat a.2.length) else (4, [], [])) else (1, [], [])
theorem fold_j (r : Int × List Int) (d : List Int) (h : r.2.length < 4611686018427387904) :
  (bif (r.1 != (0 : Int)) then some true else bindF (some (decide (r.2 = d))) fun r18 => some (!r18)) = some (!decide (r = (0, d))) := by
 by_cases h1 : r.1 = 0
 ·rw [nF h1, cond_false, bindF_some]
  by_cases h2 : r.2 = d
  ·rw [dT h2, dT (show r = (0, d) from Prod.ext h1 h2)]
  ·rw [dF h2, dF (show ¬ r = (0, d) from fun h => h2 (by rw [h]))]
 ·rw [nT h1, dF (show ¬ r = (0, d) from fun h => h1 (by rw [h]))]; rfl
theorem jS_len (a b : List Int) (ha : a.length ≤ 4) (hb : b.length ≤ 4) : (jS a b).2.length ≤ 4 := by
 have h1 : jLen a b ≤ 4 := by unfold jLen; split <;> omega
 have h2 : (jL a b).length ≤ 4 := by unfold jL; rw [tab_len]; exact h1
 unfold jS
 split
 ·cases anyB (jLen a b) (jBad a b)
  ·simp only [cond_false]; split
   ·exact h2
   ·exact Nat.zero_le _
  ·exact Nat.zero_le _
 ·exact Nat.zero_le _
theorem foldP (a : Tn) (d : List Int) (ia : inI a.2) : f96 a d = some (foldS a d) := by
 unfold f96 foldS f96_j2 f96_j3
 rw [show ((a.1, a.2) : Tn) = a from rfl, good_ok, shapeGood_ok]
 by_cases h : tgood a = true ∧ 0 < prd d
 ·obtain ⟨hp, hl, l1, l2⟩ := good_len h.1
  have ld := prd_len h.2
  have hr := prd_range d
  rw [if_pos h, h.1, dT (show prd d > 0 from h.2), joinP]
  simp only [bindF_some, Bool.not_true, cond_false, sumF_inl]
  have hj : f96_j6 a (jS d a.1) = some (!decide (jS d a.1 = (0, a.1))) := by
   unfold f96_j6
   have := jS_len d a.1 ld l1
   rw [sameP _ _ (by omega)]
   exact fold_j _ _ (by omega)
  unfold f96_j5
  rw [hj, bindF_some]
  by_cases h2 : jS d a.1 = (0, a.1)
  ·have F := jS_fits.1 h2
   rw [if_pos h2, dT h2, Bool.not_true, cond_false, bindF_some, sumF_inl, new_ok, if_pos h.2, bindF_some, spread_ok F, bindF_some]
   simp only
   rw [show (prd a.1).toNat = a.2.length by omega]
   have := loop_for (B := fun go (x : Int × List Int) => f96_l7 a (tabL a.2.length (spX d a.1)) go x.1 x.2) (fun k => ((k : Int), foldSt (spX d a.1) a.2 (prd d).toNat k)) a.2.length (foldSt (spX d a.1) a.2 (prd d).toNat a.2.length) ?_ ?_ (by omega)
   ·rw [show ((0 : Nat) : Int) = 0 from rfl] at this
    rw [show List.replicate (prd d).toNat 0 = foldSt (spX d a.1) a.2 (prd d).toNat 0 from rfl, this]; rfl
   ·intro k hk go
    unfold f96_l7
    simp only [fold_len, tab_len]
    obtain ⟨s0, s1⟩ := spX_range F k (by omega)
    obtain ⟨sn, hsn⟩ := Int.eq_ofNat_of_zero_le s0
    have q1 := inI_rd (fold_inI (spX d a.1) a.2 (prd d).toNat k) sn (by rw [fold_len]; omega)
    rw [← hsn] at q1
    have q2 := inI_rd ia k hk
    rw [dT (by omega), cond_true, rd_tab _ _ _ _ hk, guardF_pos (by omega), guardF_pos (by omega), guardF_pos (by omega), guardF_pos (by omega), addF_ok _ _ q1.1 q1.2 q2.1 q2.2, bindF_some, guardF_pos (by omega), wrap_i64 (by omega) (by omega)]
    rfl
   ·intro go
    unfold f96_l7
    simp only
    rw [dF (by omega), cond_false]
  ·rw [if_neg h2, dF h2]; rfl
 ·rw [if_neg h]
  cases h1 : tgood a
  ·rfl
  ·rw [dF (fun h3 => h ⟨h1, h3⟩)]; rfl
end Go.Proofs.Op
namespace Go.Proofs.Op
open Go.AM Go.Proofs.PlB Go.Proofs.PlW Go.Proofs.PlT Go.Proofs.PlS Go.Proofs.Sh Go.Proofs.Num Go.Proofs.Div Go.Proofs.PlR
theorem fits_self {d : List Int} (h : 0 < prd d) : Fits d d := ⟨h, h, Nat.le_refl _, fun k hk h1 => rfl⟩
theorem acc_self {d : List Int} (h : 0 < prd d) (v : Int) (v0 : 0 ≤ v) (v1 : v ≤ 4096) : ∀ k, k ≤ d.length → accS d d v k + strd d k * rst d v k = v
 | 0, _ => by simp only [accS, rst, strd_zero]; omega
 | k + 1, hk => by
  have ih := acc_self h v v0 v1 k (by omega)
  obtain ⟨s0, s1⟩ := side_pos h k
  rw [strd_succ d k hk]
  simp only [accS, rst]
  have e := Int.mul_ediv_add_emod (rst d v k) (side d k)
  have e2 : (if side d k > 1 then rst d v k % side d k * strd d k else 0) = rst d v k % side d k * strd d k := by
   split
   ·rfl
   ·have : side d k = 1 := by omega
    rw [this, Int.emod_one, Int.zero_mul]
  rw [e2]
  have e3 : side d k * strd d k * (rst d v k / side d k) = strd d k * (side d k * (rst d v k / side d k)) := by
   rw [Int.mul_comm (side d k), Int.mul_assoc]
  have e4 : strd d k * rst d v k = strd d k * (side d k * (rst d v k / side d k)) + rst d v k % side d k * strd d k := by
   conv => lhs; rw [← e]
   rw [Int.mul_add, Int.mul_comm (strd d k) (rst d v k % side d k)]
  omega
theorem rst_all {d : List Int} (h : 0 < prd d) (v : Int) (v0 : 0 ≤ v) (v1 : v < prd d) : rst d v d.length = 0 := by
 have hr := prd_range d
 have e := acc_self h v v0 (by omega) d.length (Nat.le_refl _)
 obtain ⟨a, b⟩ := acc_range (fits_self h) v v0 (by omega) d.length (Nat.le_refl _)
 obtain ⟨r0, r1⟩ := rst_range h v v0 (by omega) d.length
 rw [strd_all, ← (prd_prod h).1] at e
 by_cases hz : rst d v d.length = 0
 ·exact hz
 ·have : prd d * 1 ≤ prd d * rst d v d.length := Int.mul_le_mul_of_nonneg_left (by omega) (by omega)
  omega
theorem spX_self {d : List Int} (h : 0 < prd d) (i : Nat) (hi : (i : Int) < prd d) : spX d d i = i := by
 have hr := prd_range d
 have e := acc_self h (i : Int) (by omega) (by omega) d.length (Nat.le_refl _)
 rw [rst_all h _ (by omega) hi, Int.mul_zero, Int.add_zero] at e
 exact e
def addT (a b : Tn) : Tn := (a.1, tabL a.2.length (fun i => addV (rd (0 : Int) a.2 i) (rd (0 : Int) b.2 i)))
theorem both_self (f : Int → Int → Int) (a b : Tn) (ga : tgood a = true) (gb : tgood b = true) (h : a.1 = b.1) : bothS f a b = (0, a.1, tabL a.2.length (fun i => f (rd (0 : Int) a.2 i) (rd (0 : Int) b.2 i))) := by
 obtain ⟨pa, la, _, _⟩ := good_len ga
 unfold bothS
 rw [if_pos ⟨ga, gb⟩, ← h, jS_fits.2 (fits_self pa), if_pos rfl]
 congr 2
 simp only
 rw [show (prd a.1).toNat = a.2.length by omega]
 exact tab_ext _ _ _ (fun i hi => by rw [spX_self pa i (by omega)])
theorem tgood_of {t : Tn} (h : 0 < prd t.1) (hl : (t.2.length : Int) = prd t.1) : tgood t = true := by
 unfold tgood; rw [dT (show prd t.1 > 0 from h), bT hl]; rfl
def gn (l : List Nd) (i : Nat) : Nd := rd (Ty.z (.p (.int .i64) (.p (.int .i64) (.p (.int .i64) (.p (.int .i64) (.p (.sl (.int .i64)) (.sl (.int .i64)))))))) l (i : Int)
theorem gn_nd (l : List Nd) (i : Nat) : (gn l i).2.2.2.2 = nd l i := rfl
def GoodT (t : Tn) : Prop := tgood t = true ∧ inI t.2
def vl (l : List Nd) (n : Int) : Tn := if 0 ≤ n ∧ n < l.length then nd l n.toNat else ([], [])
theorem hasP (l : List Nd) (n : Int) : f39 l n = some (decide (0 ≤ n ∧ n < l.length), l) := by
 unfold f39
 by_cases h : n ≥ 0
 ·rw [dT h, cond_true]
  congr 2
  rw [decide_eq_decide]; omega
 ·rw [dF h, cond_false, dF (show ¬ (0 ≤ n ∧ n < l.length) from fun hh => h hh.1)]
theorem atP (l : List Nd) (i : Nat) (h : i < l.length) (hg : GoodT (nd l i)) : f37 l (i : Int) = some ((gn l i).1, (gn l i).2.1, (gn l i).2.2.1, (gn l i).2.2.2.1, true, (nd l i).1, (nd l i).2, l) := by
 obtain ⟨_, _, l1, l2⟩ := good_len hg.1
 unfold f37
 rw [hasP, bindF_some, dT (by omega)]
 simp only [Bool.not_true, cond_false]
 rw [guardF_pos (by omega)]
 show bindF (f35 (nd l i)) _ = _
 rw [copy_t _ (by omega) (by omega), bindF_some]
 rfl
theorem atP_none (l : List Nd) (n : Int) (h : ¬ (0 ≤ n ∧ n < l.length)) : f37 l n = some (0, 0, 0, 0, false, [], [], l) := by
 unfold f37
 rw [hasP, bindF_some, dF h]
 rfl
theorem valueP (l : List Nd) (n : Int) (hg : ∀ i, i < l.length → GoodT (nd l i)) : f26 l n = some (decide (0 ≤ n ∧ n < l.length), (vl l n).1, (vl l n).2, l) := by
 unfold f26 vl
 by_cases h : 0 ≤ n ∧ n < l.length
 ·obtain ⟨i, rfl⟩ := Int.eq_ofNat_of_zero_le h.1
  rw [atP l i (by omega) (hg i (by omega)), bindF_some, if_pos h, dT h, Int.toNat_natCast]
 ·rw [atP_none l n h, bindF_some, if_neg h, dF h]
theorem oneT (l : List Nd) (hg : ∀ i, i < l.length → GoodT (nd l i)) (i : Nat) (h : i < l.length) (g ga gb : Tn) (gg : tgood g = true) (hd : g.1 = (nd l i).1)
  (hA : f45 (gn l i) (vl l (gn l i).2.1) (vl l (gn l i).2.2.1) g = some (0, ga)) (hB : f46 (gn l i) (vl l (gn l i).2.1) (vl l (gn l i).2.2.1) g = some (0, gb)) :
  f18 l (i : Int) g = some (0, ga.1, ga.2, gb.1, gb.2, l) := by
 obtain ⟨_, _, l1, _⟩ := good_len gg
 unfold f18
 rw [atP l i h (hg i h), bindF_some]
 have hj : f18_j2 g ((gn l i).1, (gn l i).2.1, (gn l i).2.2.1, (gn l i).2.2.2.1, true, (nd l i).1, (nd l i).2, l) = some (Sum.inl ()) := by
  unfold f18_j2 f18_j3
  simp only [Bool.not_true, cond_false]
  rw [show ((g.1, g.2) : Tn) = g from rfl, good_ok, gg, sameP _ _ (by omega), dT hd]
  rfl
 rw [hj, bindF_some, sumF_inl]
 simp only
 rw [valueP l _ hg, bindF_some]
 simp only
 rw [valueP l _ hg, bindF_some]
 have eA : f45 ((gn l i).1, (gn l i).2.1, (gn l i).2.2.1, (gn l i).2.2.2.1, (nd l i).1, (nd l i).2) ((vl l (gn l i).2.1).1, (vl l (gn l i).2.1).2) ((vl l (gn l i).2.2.1).1, (vl l (gn l i).2.2.1).2) (g.1, g.2) = some (0, ga) := hA
 have eB : f46 ((gn l i).1, (gn l i).2.1, (gn l i).2.2.1, (gn l i).2.2.2.1, (nd l i).1, (nd l i).2) ((vl l (gn l i).2.1).1, (vl l (gn l i).2.1).2) ((vl l (gn l i).2.2.1).1, (vl l (gn l i).2.2.1).2) (g.1, g.2) = some (0, gb) := hB
 rw [eA, bindF_some, nF rfl, cond_false, eB, bindF_some, nF rfl, cond_false]
structure NodeOk (l : List Nd) (i : Nat) (ga gb : Tn → Tn) : Prop where
 a : ∀ g, GoodT g → g.1 = (nd l i).1 → f45 (gn l i) (vl l (gn l i).2.1) (vl l (gn l i).2.2.1) g = some (0, ga g)
 b : ∀ g, GoodT g → g.1 = (nd l i).1 → f46 (gn l i) (vl l (gn l i).2.1) (vl l (gn l i).2.2.1) g = some (0, gb g)
 ta : ∀ g, GoodT g → g.1 = (nd l i).1 → 0 ≤ (gn l i).2.1 → (gn l i).2.1 < i ∧ GoodT (ga g) ∧ (ga g).1 = (nd l (gn l i).2.1.toNat).1
 tb : ∀ g, GoodT g → g.1 = (nd l i).1 → 0 ≤ (gn l i).2.2.1 → (gn l i).2.2.1 < i ∧ GoodT (gb g) ∧ (gb g).1 = (nd l (gn l i).2.2.1.toNat).1
abbrev Z2 : Tn := Ty.z (.p (.sl (.int .i64)) (.sl (.int .i64)))
def giveS (st : List Tn × List Bool) (n : Int) (g : Tn) : List Tn × List Bool :=
 if n < 0 then st else (st.1.set n.toNat (addT (rd Z2 st.1 n) g), st.2.set n.toNat true)
def zer (l : List Nd) (i : Nat) : Tn := ((nd l i).1, List.replicate (prd (nd l i).1).toNat 0)
def glist (l : List Nd) (k : Nat) : List Tn := (List.range k).map (zer l)
theorem glist_len (l : List Nd) (k : Nat) : (glist l k).length = k := by simp [glist]
theorem glist_succ (l : List Nd) (k : Nat) : glist l (k + 1) = glist l k ++ [zer l k] := by simp [glist, List.range_succ]
def swp (l : List Nd) (GA GB : Nat → Tn → Tn) (root : Nat) : Nat → List Tn × List Bool
 | 0 => (glist l root ++ [((nd l root).1, [4294967296])], (List.replicate (root + 1) false).set root true)
 | k + 1 => if rd false (swp l GA GB root k).2 ((root - k : Nat) : Int) = true then
   giveS (giveS (swp l GA GB root k) (gn l (root - k)).2.1 (GA (root - k) (rd Z2 (swp l GA GB root k).1 ((root - k : Nat) : Int)))) (gn l (root - k)).2.2.1 (GB (root - k) (rd Z2 (swp l GA GB root k).1 ((root - k : Nat) : Int)))
  else swp l GA GB root k
structure Keeps (l : List Nd) (root : Nat) (st : List Tn × List Bool) : Prop where
 l1 : st.1.length = root + 1
 l2 : st.2.length = root + 1
 ok : ∀ i, i ≤ root → GoodT (rd Z2 st.1 (i : Int)) ∧ (rd Z2 st.1 (i : Int)).1 = (nd l i).1
theorem rd_set {α : Type} (z : α) (xs : List α) (i j : Nat) (v : α) (hj : j < xs.length) : rd z (xs.set i v) (j : Int) = if i = j then v else rd z xs (j : Int) := by
 rw [rd_nat _ _ _ (by rw [List.length_set]; exact hj), List.getElem_set]
 split
 ·rfl
 ·rw [rd_nat _ _ _ hj]
theorem good_addT {a b : Tn} (ha : GoodT a) (h : a.1 = b.1) : GoodT (addT a b) ∧ (addT a b).1 = a.1 := by
 obtain ⟨pa, la, _, _⟩ := good_len ha.1
 exact ⟨⟨tgood_of pa (by unfold addT; rw [tab_len]; exact la), inI_tab (fun i hi => sat_in _)⟩, rfl⟩
theorem giveP (l : List Nd) (root : Nat) (st : List Tn × List Bool) (K : Keeps l root st) (n : Int) (g : Tn) (h : 0 ≤ n → n ≤ root ∧ GoodT g ∧ g.1 = (nd l n.toNat).1) :
  f38 st.1 st.2 n g = some (0, giveS st n g) ∧ Keeps l root (giveS st n g) := by
 unfold f38 giveS
 by_cases hn : n < 0
 ·rw [dT hn, if_pos hn]; exact ⟨rfl, K⟩
 ·obtain ⟨h1, h2, h3⟩ := h (by omega)
  obtain ⟨i, rfl⟩ := Int.eq_ofNat_of_zero_le (show 0 ≤ n by omega)
  rw [Int.toNat_natCast] at h3
  obtain ⟨k1, k2⟩ := K.ok i (by omega)
  have l1 := K.l1
  have l2 := K.l2
  rw [dF hn, if_neg hn, cond_false, guardF_pos (by omega)]
  have ea : f81 ((rd Z2 st.1 (i : Int)).1, (rd Z2 st.1 (i : Int)).2) (g.1, g.2) = some (0, addT (rd Z2 st.1 (i : Int)) g) := by
   rw [show (((rd Z2 st.1 (i : Int)).1, (rd Z2 st.1 (i : Int)).2) : Tn) = rd Z2 st.1 (i : Int) from rfl, show ((g.1, g.2) : Tn) = g from rfl, addP _ _ k1.2 h2.2, both_self _ _ _ k1.1 h2.1 (by rw [k2, h3])]
   rfl
  have ea2 : f81 ((rd (Ty.z (.p (.sl (.int .i64)) (.sl (.int .i64)))) st.1 (i : Int)).1, (rd (Ty.z (.p (.sl (.int .i64)) (.sl (.int .i64)))) st.1 (i : Int)).2) (g.1, g.2) = some (0, addT (rd Z2 st.1 (i : Int)) g) := ea
  rw [ea2, bindF_some, guardF_pos (by omega), guardF_pos (by omega)]
  refine ⟨rfl, by simp only [List.length_set]; exact l1, by simp only [List.length_set]; exact l2, fun j hj => ?_⟩
  simp only [Int.toNat_natCast]
  rw [rd_set _ _ _ _ _ (by omega)]
  obtain ⟨q1, q2⟩ := good_addT (a := rd Z2 st.1 (i : Int)) (b := g) k1 (by rw [k2, h3])
  split
  ·next e => subst e; exact ⟨q1, by rw [q2, k2]⟩
  ·exact K.ok j hj
theorem rd_app {α : Type} (z : α) (l : List α) (v : α) (i : Nat) (h : i < l.length) : rd z (l ++ [v]) (i : Int) = rd z l (i : Int) := by
 rw [rd_nat _ _ _ (by rw [List.length_append]; simp; omega), rd_nat _ _ _ h, List.getElem_append_left h]
theorem rd_last {α : Type} (z : α) (l : List α) (v : α) : rd z (l ++ [v]) (l.length : Int) = v := by
 rw [rd_nat _ _ _ (by rw [List.length_append]; simp), List.getElem_append_right (Nat.le_refl _)]
 simp
theorem glist_rd (l : List Nd) (k i : Nat) (h : i < k) : rd Z2 (glist l k) (i : Int) = zer l i := by
 rw [rd_nat _ _ _ (by rw [glist_len]; exact h)]; simp [glist]
theorem zer_good (l : List Nd) (i : Nat) (h : GoodT (nd l i)) : GoodT (zer l i) := by
 obtain ⟨p, _, _, _⟩ := good_len h.1
 have := prd_range (nd l i).1
 refine ⟨tgood_of p ?_, inI_rep _ _ (by decide)⟩
 unfold zer; simp only [List.length_replicate]; omega
theorem keeps0 (l : List Nd) (GA GB : Nat → Tn → Tn) (root : Nat) (hr : root < l.length) (hg : ∀ i, i < l.length → GoodT (nd l i)) (h1 : prd (nd l root).1 = 1) : Keeps l root (swp l GA GB root 0) := by
 refine ⟨by simp [swp, glist_len], by simp [swp], fun i hi => ?_⟩
 simp only [swp]
 by_cases h : i < root
 ·rw [rd_app _ _ _ _ (by rw [glist_len]; exact h), glist_rd _ _ _ h]
  exact ⟨zer_good l i (hg i (by omega)), rfl⟩
 ·obtain rfl : i = root := by omega
  have e := rd_last Z2 (glist l i) ((nd l i).1, [4294967296])
  rw [glist_len] at e
  rw [e]
  exact ⟨⟨tgood_of (by simp only; omega) (by simp only [List.length_cons, List.length_nil]; omega), fun x hx => by rw [List.mem_singleton.1 hx]; decide⟩, rfl⟩
theorem keeps (l : List Nd) (GA GB : Nat → Tn → Tn) (root : Nat) (hr : root < l.length) (hg : ∀ i, i < l.length → GoodT (nd l i)) (h1 : prd (nd l root).1 = 1)
  (hn : ∀ n, n ≤ root → NodeOk l n (GA n) (GB n)) : ∀ k, k ≤ root + 1 → Keeps l root (swp l GA GB root k)
 | 0, _ => keeps0 l GA GB root hr hg h1
 | k + 1, hk => by
  have K := keeps l GA GB root hr hg h1 hn k (by omega)
  simp only [swp]
  split
  ·have N := hn (root - k) (by omega)
   obtain ⟨q1, q2⟩ := K.ok (root - k) (by omega)
   have s1 := giveP l root _ K (gn l (root - k)).2.1 (GA (root - k) (rd Z2 (swp l GA GB root k).1 ((root - k : Nat) : Int))) (fun h => by
    obtain ⟨a, b, c⟩ := N.ta _ q1 q2 h; exact ⟨by omega, b, c⟩)
   exact (giveP l root _ s1.2 (gn l (root - k)).2.2.1 (GB (root - k) (rd Z2 (swp l GA GB root k).1 ((root - k : Nat) : Int))) (fun h => by
    obtain ⟨a, b, c⟩ := N.tb _ q1 q2 h; exact ⟨by omega, b, c⟩)).2
  ·exact K
def sw1 (l : List Nd) : Nat → Int × List Nd × List Tn × Int × List Int × List Int
 | 0 => (0, l, [], 0, [], [])
 | k + 1 => (((k + 1 : Nat) : Int), l, glist l k ++ [Z2], (k : Int), (zer l k).1, (zer l k).2)
theorem set_last {α : Type} (l : List α) (v w : α) : (l ++ [v]).set l.length w = l ++ [w] := by
 rw [List.set_append_right _ _ (Nat.le_refl _)]; simp
theorem sweepP (l : List Nd) (GA GB : Nat → Tn → Tn) (root : Nat) (hr : root < l.length) (hl : l.length ≤ 512) (hg : ∀ i, i < l.length → GoodT (nd l i)) (h1 : prd (nd l root).1 = 1)
  (hn : ∀ n, n ≤ root → NodeOk l n (GA n) (GB n)) : f16 l (root : Int) = some (0, (swp l GA GB root (root + 1)).1, l) := by
 have hroot := hg root hr
 obtain ⟨_, lr, lr1, _⟩ := good_len hroot.1
 unfold f16
 rw [valueP l _ hg, bindF_some]
 have ev : vl l (root : Int) = nd l root := by unfold vl; rw [if_pos (by omega), Int.toNat_natCast]
 simp only [ev]
 rw [dT (show 0 ≤ (root : Int) ∧ (root : Int) < l.length by omega), Bool.not_true, cond_false, dF (show ¬ ((nd l root).2.length : Int) > 1 by omega), cond_false]
 have wr : IntKind.i64.wrap ((root : Int) + 1) = ((root + 1 : Nat) : Int) := by rw [wrap_i64 (by omega) (by omega)]; omega
 rw [wr, guardF_pos (by omega)]
 have L1 := loop_for (B := fun go (x : Int × List Nd × List Tn × Int × List Int × List Int) => f16_l1 (root : Int) go x.1 x.2.1 x.2.2.1 x.2.2.2.1 x.2.2.2.2.1 x.2.2.2.2.2) (sw1 l) (root + 1) (sw1 l (root + 1)).2 ?_ ?_ (by omega)
 ·have e0 : sw1 l 0 = ((0 : Int), l, [], (0 : Int), [], []) := rfl
  rw [e0, show (sw1 l (root + 1)).2 = (l, glist l root ++ [Z2], (root : Int), (zer l root).1, (zer l root).2) from rfl] at L1
  rw [L1, bindF_some]
  simp only
  rw [guardF_pos (by rw [List.length_append, glist_len]; simp; omega), guardF_pos trivial]
  have hz : (zer l root).2 = [0] := by unfold zer; rw [h1]; rfl
  rw [hz, guardF_pos (by decide), guardF_pos (by simp; omega)]
  have es : List.set (glist l root ++ [Z2]) (Int.toNat (root : Int)) ((zer l root).1, List.set [(0 : Int)] (Int.toNat (0 : Int)) 4294967296) = (swp l GA GB root 0).1 := by
   have := set_last (glist l root) Z2 ((zer l root).1, List.set [(0 : Int)] (Int.toNat (0 : Int)) 4294967296)
   rw [glist_len] at this
   rw [Int.toNat_natCast, this]; rfl
  have eg : List.set (List.replicate (Int.toNat ((root + 1 : Nat) : Int)) false) (Int.toNat (root : Int)) true = (swp l GA GB root 0).2 := by
   rw [Int.toNat_natCast, Int.toNat_natCast]; rfl
  rw [es, eg]
  have L2 := loop_for (B := fun go (x : Int × List Nd × List Tn × List Bool) => f16_l2 go x.1 x.2.1 x.2.2.1 x.2.2.2) (fun k => ((root : Int) - (k : Int), l, (swp l GA GB root k).1, (swp l GA GB root k).2)) (root + 1)
   (Sum.inr ((swp l GA GB root (root + 1)).1, (swp l GA GB root (root + 1)).2, l)) ?_ ?_ (by omega)
  ·have e2 : ((root : Int) - ((0 : Nat) : Int), l, (swp l GA GB root 0).1, (swp l GA GB root 0).2) = ((root : Int), l, (swp l GA GB root 0).1, (swp l GA GB root 0).2) := by
    rw [show (root : Int) - ((0 : Nat) : Int) = (root : Int) by omega]
   rw [e2] at L2
   rw [L2, bindF_some, sumF_inr]
  ·intro k hk go
   have K := keeps l GA GB root hr hg h1 hn k (by omega)
   have kl1 := K.l1
   have kl2 := K.l2
   unfold f16_l2
   simp only
   rw [show (root : Int) - (k : Int) = ((root - k : Nat) : Int) by omega, dT (by omega), cond_true, guardF_pos (by omega)]
   have wn : IntKind.i64.wrap (((root - k : Nat) : Int) - 1) = (root : Int) - ((k + 1 : Nat) : Int) := by rw [wrap_i64 (by omega) (by omega)]; omega
   simp only [swp]
   cases hb : rd false (swp l GA GB root k).2 ((root - k : Nat) : Int)
   ·rw [Bool.not_false, cond_true, wn, if_neg (by decide)]
   ·rw [Bool.not_true, cond_false, if_pos rfl]
    have N := hn (root - k) (by omega)
    obtain ⟨q1, q2⟩ := K.ok (root - k) (by omega)
    rw [atP l (root - k) (by omega) (hg _ (by omega)), bindF_some, guardF_pos (by omega)]
    simp only
    have eo := oneT l hg (root - k) (by omega) _ _ _ q1.1 q2 (N.a _ q1 q2) (N.b _ q1 q2)
    have eo2 : f18 l ((root - k : Nat) : Int) ((rd (Ty.z (.p (.sl (.int .i64)) (.sl (.int .i64)))) (swp l GA GB root k).1 ((root - k : Nat) : Int)).1, (rd (Ty.z (.p (.sl (.int .i64)) (.sl (.int .i64)))) (swp l GA GB root k).1 ((root - k : Nat) : Int)).2) = _ := eo
    have s1 := giveP l root _ K (gn l (root - k)).2.1 (GA (root - k) (rd Z2 (swp l GA GB root k).1 ((root - k : Nat) : Int))) (fun h => by
     obtain ⟨a, b, c⟩ := N.ta _ q1 q2 h; exact ⟨by omega, b, c⟩)
    have s2 := giveP l root _ s1.2 (gn l (root - k)).2.2.1 (GB (root - k) (rd Z2 (swp l GA GB root k).1 ((root - k : Nat) : Int))) (fun h => by
     obtain ⟨a, b, c⟩ := N.tb _ q1 q2 h; exact ⟨by omega, b, c⟩)
    rw [eo2, bindF_some, nF rfl, cond_false]
    simp only
    have g1 : f38 (swp l GA GB root k).1 (swp l GA GB root k).2 (gn l (root - k)).2.1 ((GA (root - k) (rd Z2 (swp l GA GB root k).1 ((root - k : Nat) : Int))).1, (GA (root - k) (rd Z2 (swp l GA GB root k).1 ((root - k : Nat) : Int))).2) = _ := s1.1
    rw [g1, bindF_some, nF rfl, cond_false]
    simp only
    have g2 : f38 _ _ (gn l (root - k)).2.2.1 ((GB (root - k) (rd Z2 (swp l GA GB root k).1 ((root - k : Nat) : Int))).1, (GB (root - k) (rd Z2 (swp l GA GB root k).1 ((root - k : Nat) : Int))).2) = _ := s2.1
    rw [g2, bindF_some, nF rfl, cond_false, wn]
  ·intro go
   unfold f16_l2
   simp only
   rw [dF (by omega), cond_false]
 ·intro k hk go
  have hgk := hg k (by omega)
  obtain ⟨pk, _, _, _⟩ := good_len hgk.1
  have evk : vl l (k : Int) = nd l k := by unfold vl; rw [if_pos (by omega), Int.toNat_natCast]
  have en : f36 (nd l k).1 0 = some (0, (zer l k).1, (zer l k).2) := by rw [new_ok, if_pos pk]; rfl
  cases k with
  | zero =>
   show f16_l1 (root : Int) go 0 l [] 0 [] [] = go (((0 + 1 : Nat) : Int), l, glist l 0 ++ [Z2], ((0 : Nat) : Int), (zer l 0).1, (zer l 0).2)
   unfold f16_l1
   rw [show ((0 : Nat) : Int) = 0 from rfl] at evk
   rw [wr, dT (by omega), cond_true, valueP l _ hg, bindF_some]
   simp only
   rw [evk, en, bindF_some, guardF_pos (by simp)]
   rfl
  | succ j =>
   show f16_l1 (root : Int) go ((j + 1 : Nat) : Int) l (glist l j ++ [Z2]) (j : Int) (zer l j).1 (zer l j).2 = go (((j + 1 + 1 : Nat) : Int), l, glist l (j + 1) ++ [Z2], ((j + 1 : Nat) : Int), (zer l (j + 1)).1, (zer l (j + 1)).2)
   unfold f16_l1
   rw [wr, dT (by omega), cond_true, valueP l _ hg, bindF_some]
   simp only
   rw [evk, en, bindF_some]
   have es : List.set (glist l j ++ [Z2]) (Int.toNat (j : Int)) ((zer l j).1, (zer l j).2) = glist l (j + 1) := by
    have := set_last (glist l j) Z2 ((zer l j).1, (zer l j).2)
    rw [glist_len] at this
    rw [Int.toNat_natCast, this, glist_succ]
   rw [es, guardF_pos (by rw [glist_len]; omega), wrap_i64 (by omega) (by omega), glist_len]
   rfl
 ·intro go
  show f16_l1 (root : Int) go ((root + 1 : Nat) : Int) l (glist l root ++ [Z2]) (root : Int) (zer l root).1 (zer l root).2 = _
  unfold f16_l1
  rw [wr, dF (by omega), cond_false]
  rfl
end Go.Proofs.Op
namespace Go.Proofs.Op
open Go.AM Go.Proofs.PlB Go.Proofs.PlW Go.Proofs.PlT Go.Proofs.PlS Go.Proofs.Sh Go.Proofs.Num Go.Proofs.Div Go.Proofs.PlR
theorem sat_id {x : Int} (h : InR x) : sat x = x := by unfold InR at h; unfold sat; rw [if_neg (by omega), if_neg (by omega)]
theorem addV_zero {x : Int} (h : InR x) : addV 0 x = x := by unfold addV; rw [Int.zero_add, sat_id h]
def foldT (g : Tn) (d : List Int) : Tn := (d, foldSt (spX d g.1) g.2 (prd d).toNat g.2.length)
theorem foldS_fit {g : Tn} {d : List Int} (hg : GoodT g) (h : Fits d g.1) : foldS g d = (0, foldT g d) := by
 unfold foldS foldT
 rw [if_pos ⟨hg.1, h.pd⟩, if_pos (jS_fits.2 h)]
theorem foldT_good {g : Tn} {d : List Int} (h : 0 < prd d) : GoodT (foldT g d) :=
 ⟨tgood_of h (by have := prd_range d; show ((foldSt _ _ _ _).length : Int) = prd d; rw [fold_len]; omega), fold_inI _ _ _ _⟩
theorem fold_id {g : Tn} (hg : GoodT g) : foldT g g.1 = g := by
 obtain ⟨p, l, _, _⟩ := good_len hg.1
 have key : ∀ k, k ≤ g.2.length → foldSt (spX g.1 g.1) g.2 g.2.length k = tabL g.2.length (fun i => if i < k then rd (0 : Int) g.2 i else 0) := fun k => by
  induction k with
  | zero => intro _; simp only [foldSt]; rw [tab_rep]; exact tab_ext _ _ _ (fun i hi => by rw [if_neg (by omega)])
  | succ k ih =>
   intro hk
   simp only [foldSt]
   rw [spX_self p k (by omega), ih (by omega), rd_tab _ _ _ _ (by omega), if_neg (by omega), addV_zero (inI_rd hg.2 k (by omega)), Int.toNat_natCast, tab_set]
   refine tab_ext _ _ _ (fun i hi => ?_)
   by_cases h : i = k
   ·rw [if_pos h, if_pos (by omega), h]
   ·rw [if_neg h]
    by_cases h2 : i < k
    ·rw [if_pos h2, if_pos (by omega)]
    ·rw [if_neg h2, if_neg (by omega)]
 unfold foldT
 rw [show (prd g.1).toNat = g.2.length by omega, key _ (Nat.le_refl _)]
 refine Prod.ext rfl ?_
 apply List.ext_getElem (tab_len _ _)
 intro i h1 h2
 rw [tab_get, if_pos h2, rd_nat _ _ _ h2]
def scaleT (g : Tn) (k : Int) : Tn := (g.1, tabL g.2.length (fun i => mulX (rd (0 : Int) g.2 i) k))
theorem scaleS_good {g : Tn} (hg : GoodT g) (k : Int) : scaleS g k = (0, scaleT g k) := by unfold scaleS scaleT; rw [if_pos hg.1]
theorem scaleT_good {g : Tn} (hg : GoodT g) (k : Int) : GoodT (scaleT g k) := by
 obtain ⟨p, l, _, _⟩ := good_len hg.1
 exact ⟨tgood_of p (by unfold scaleT; rw [tab_len]; exact l), inI_tab (fun i hi => sat_in _)⟩
abbrev noT : Tn := ([], [])
section
variable (l : List Nd) (i : Nat)
theorem ok_leaf (h : (gn l i).1 = 1) (ha : (gn l i).2.1 = -1) (hb : (gn l i).2.2.1 = -1) : NodeOk l i (fun _ => noT) (fun _ => noT) := by
 refine ⟨fun g _ _ => ?_, fun g _ _ => ?_, fun g _ _ h0 => absurd h0 (by rw [ha]; decide), fun g _ _ h0 => absurd h0 (by rw [hb]; decide)⟩
 ·unfold f45 f45_j1; rw [h]; rfl
 ·unfold f46; rw [h]; rfl
theorem vl_nat (n : Nat) (h : n < l.length) : vl l (n : Int) = nd l n := by unfold vl; rw [if_pos (by omega), Int.toNat_natCast]
theorem ok_add (A B : Nat) (h : (gn l i).1 = 2) (ha : (gn l i).2.1 = A) (hb : (gn l i).2.2.1 = B) (hA : A < i) (hB : B < i) (hi : i < l.length) (FA : Fits (nd l A).1 (nd l i).1) (FB : Fits (nd l B).1 (nd l i).1) :
  NodeOk l i (fun g => foldT g (nd l A).1) (fun g => foldT g (nd l B).1) := by
 refine ⟨fun g hg hd => ?_, fun g hg hd => ?_, fun g hg hd _ => ?_, fun g hg hd _ => ?_⟩
 ·unfold f45 f45_j1
  rw [h, ha, vl_nat l A (by omega)]
  show bindF (f96 g (nd l A).1) _ = _
  rw [foldP _ _ hg.2, foldS_fit hg (by rw [hd]; exact FA)]; rfl
 ·unfold f46
  rw [h, hb, vl_nat l B (by omega)]
  show bindF (f96 g (nd l B).1) _ = _
  rw [foldP _ _ hg.2, foldS_fit hg (by rw [hd]; exact FB)]; rfl
 ·rw [ha, Int.toNat_natCast]; exact ⟨by omega, foldT_good FA.pd, rfl⟩
 ·rw [hb, Int.toNat_natCast]; exact ⟨by omega, foldT_good FB.pd, rfl⟩
theorem ok_scale (A : Nat) (K : Int) (h : (gn l i).1 = 5) (ha : (gn l i).2.1 = A) (hb : (gn l i).2.2.1 = -1) (hk : (gn l i).2.2.2.1 = K) (hA : A < i) (hi : i < l.length) (hK : InR K) (hd : (nd l A).1 = (nd l i).1) :
  NodeOk l i (fun g => scaleT g K) (fun _ => noT) := by
 refine ⟨fun g hg hd => ?_, fun g hg hd => ?_, fun g hg hdd _ => ?_, fun g _ _ h0 => absurd h0 (by rw [hb]; decide)⟩
 ·unfold f45 f45_j1
  rw [h, hk]
  show bindF (f86 g K) _ = _
  rw [scaleP _ _ hg.2 hK, scaleS_good hg]; rfl
 ·unfold f46; rw [h]; rfl
 ·rw [ha, Int.toNat_natCast]; exact ⟨by omega, scaleT_good hg K, by show g.1 = _; rw [hdd, hd]⟩
end
end Go.Proofs.Op
namespace Go.Proofs.Op
open Go.AM Go.Proofs.PlB Go.Proofs.PlW Go.Proofs.PlT Go.Proofs.PlS Go.Proofs.Sh Go.Proofs.Num Go.Proofs.Div Go.Proofs.PlR
def cntK (op k : Int) : Int := if op = 5 ∨ op = 8 ∨ op = 11 ∨ op = 12 ∨ op = 13 then k else 0
theorem cnt_ok (op k : Int) : f17_j2 op k = some (cntK op k) := by
 unfold f17_j2 f41 cntK
 by_cases h1 : op = 5
 ·rw [bT h1, if_pos (.inl h1)]; rfl
 rw [bF h1, cond_false]
 by_cases h2 : op = 8
 ·rw [bT h2, if_pos (by omega)]; rfl
 rw [bF h2, cond_false]
 by_cases h3 : op = 11
 ·rw [bT h3, if_pos (by omega)]; rfl
 rw [bF h3, cond_false]
 by_cases h4 : op = 12
 ·rw [bT h4, if_pos (by omega)]; rfl
 rw [bF h4, cond_false]
 by_cases h5 : op = 13
 ·rw [bT h5, if_pos (by omega)]; rfl
 rw [bF h5, if_neg (by omega)]; rfl
def isTwo (op : Int) : Bool := decide (op = 2 ∨ op = 3 ∨ op = 4 ∨ op = 6 ∨ op = 12)
theorem two_ok (op : Int) : f40 op = some (isTwo op) := by
 unfold f40 isTwo
 by_cases h1 : op = 2
 ·rw [bT h1, dT (.inl h1)]; rfl
 rw [bF h1, cond_false]
 by_cases h2 : op = 3
 ·rw [bT h2, dT (by omega)]; rfl
 rw [bF h2, cond_false]
 by_cases h3 : op = 4
 ·rw [bT h3, dT (by omega)]; rfl
 rw [bF h3, cond_false]
 by_cases h4 : op = 6
 ·rw [bT h4, dT (by omega)]; rfl
 rw [bF h4, cond_false]
 by_cases h5 : op = 12
 ·rw [bT h5, dT (by omega)]
 rw [bF h5, dF (by omega)]
theorem do1 (l : List Nd) (op : Int) (a : Nat) (b k : Int) (h : l.length < 512) (o1 : ¬ op < 2) (o2 : ¬ op > 14) (ho : isTwo op = false) (ha : a < l.length)
  (t : Tn) (hr : f43 op (nd l a) k = some (0, t)) : f17 l op a b k = some ((l.length : Int), 0, l ++ [(op, (a : Int), -1, cntK op k, t.1, t.2)]) := by
 have hj1 : f17_j1 l op a b = some (Sum.inl l) := by
  unfold f17_j1
  rw [dF (by omega), dF o1, dF o2, hasP, dT (show 0 ≤ (a : Int) ∧ (a : Int) < l.length by omega), two_ok, ho]
  rfl
 have hj3 : f17_j3 op a b k l = some (0, -1, t.1, t.2) := by
  unfold f17_j3
  rw [two_ok, ho]
  simp only [bindF_some, cond_false]
  rw [guardF_pos (by omega)]
  unfold nd at hr
  rw [hr]
  rfl
 unfold f17
 rw [hj1, bindF_some, sumF_inl, cnt_ok, bindF_some, hj3, bindF_some, nF rfl, cond_false, push_ok _ _ h]
 rfl
theorem op_scale (a : Tn) (k : Int) (t : Tn) (h : f86 a k = some (0, t)) : f43 5 a k = some (0, t) := by
 unfold f43
 rw [bT rfl, cond_true, show ((a.1, a.2) : Tn) = a from rfl, h]; rfl
end Go.Proofs.Op
namespace Go.Proofs.PlG
open Go.AM Go.Proofs.PlW
theorem range_i64 {x : Int} (h : Ty.wf (.int .i64) x) : -9223372036854775808 ≤ x ∧ x < 9223372036854775808 := by
 have h : (Lit.int .i64 x).wf = true := h
 simp only [Lit.wf, IntKind.min, IntKind.max, IntKind.signed, IntKind.bits, Bool.and_eq_true, decide_eq_true_eq, if_true] at h
 omega
theorem row_i64 {l : List Int} (h : Ty.wf (.sl (.int .i64)) l) : inI l := fun x hx => range_i64 (h.2 x hx)
end Go.Proofs.PlG
namespace Go.Proofs.BackAdds
open Go.AM Go.Proofs.PlB Go.Proofs.PlW Go.Proofs.PlT Go.Proofs.PlS Go.Proofs.Sh Go.Proofs.Num Go.Proofs.Div Go.Proofs.Op
open Go.Proofs.PlR hiding Tn
theorem good1 {v : Int} (h : InR v) : GoodT (([1], [v]) : Tn) := ⟨rfl, fun x hx => by rw [List.mem_singleton.1 hx]; exact h⟩
theorem add1 (a b : Int) : addT ([1], [a]) ([1], [b]) = ([1], [addV a b]) := rfl
theorem scale1 (a k : Int) : scaleT ([1], [a]) k = ([1], [mulX a k]) := rfl
theorem one_mul (k : Int) (h : InR k) : mulX 4294967296 k = k := by
 unfold mulX
 rw [show (4294967296 : Int) * k = k * 4294967296 from Int.mul_comm _ _]
 have : rhe (k * 4294967296) = k := by unfold rhe; rw [if_neg (by omega)]; omega
 rw [this, sat_id h]
def tape (x k m : Int) : List Nd := [(1, -1, -1, 0, [1], [x]), (1, -1, -1, 0, [1], [9]), (5, 0, -1, k, [1], [mulX x k]), (5, 0, -1, m, [1], [mulX x m]), (2, 2, 3, 0, [1], [addV (mulX x k) (mulX x m)])]
def GA (k m : Int) (n : Nat) (g : Tn) : Tn := if n = 2 then scaleT g k else if n = 3 then scaleT g m else if n = 4 then foldT g [1] else noT
def GB (n : Nat) (g : Tn) : Tn := if n = 4 then foldT g [1] else noT
theorem good (x k m : Int) (hx : InR x) : ∀ i, i < (tape x k m).length → GoodT (nd (tape x k m) i)
 | 0, _ => good1 hx
 | 1, _ => good1 (by decide)
 | 2, _ => good1 (sat_in _)
 | 3, _ => good1 (sat_in _)
 | 4, _ => good1 (sat_in _)
 | n + 5, h => absurd h (by simp [tape])
theorem nodes (x k m : Int) (hk : InR k) (hm : InR m) : ∀ n, n ≤ 4 → NodeOk (tape x k m) n (GA k m n) (GB n)
 | 0, _ => ok_leaf (tape x k m) 0 rfl rfl rfl
 | 1, _ => ok_leaf (tape x k m) 1 rfl rfl rfl
 | 2, _ => ok_scale (tape x k m) 2 0 k rfl rfl rfl rfl (by decide) (by decide : 2 < 5) hk rfl
 | 3, _ => ok_scale (tape x k m) 3 0 m rfl rfl rfl rfl (by decide) (by decide : 3 < 5) hm rfl
 | 4, _ => ok_add (tape x k m) 4 2 3 rfl rfl rfl (by decide) (by decide) (by decide : 4 < 5) (fits_self (d := [1]) (by decide)) (fits_self (d := [1]) (by decide))
 | n + 5, h => absurd h (by omega)
theorem one_in : InR 4294967296 := by decide
theorem swept (x k m : Int) (hk : InR k) (hm : InR m) : (swp (tape x k m) (GA k m) GB 4 5).1 = [([1], [addV m k]), ([1], [0]), ([1], [4294967296]), ([1], [4294967296]), ([1], [4294967296])] := by
 have f4 : foldT (([1], [4294967296]) : Tn) [1] = ([1], [4294967296]) := fold_id (good1 one_in)
 have s0 : swp (tape x k m) (GA k m) GB 4 0 = ([([1], [0]), ([1], [0]), ([1], [0]), ([1], [0]), ([1], [4294967296])], [false, false, false, false, true]) := rfl
 have s1 : swp (tape x k m) (GA k m) GB 4 1 = ([([1], [0]), ([1], [0]), ([1], [4294967296]), ([1], [4294967296]), ([1], [4294967296])], [false, false, true, true, true]) := by
  rw [swp, s0]
  show giveS (giveS _ 2 (foldT ([1], [4294967296]) [1])) 3 (foldT ([1], [4294967296]) [1]) = _
  rw [f4]; rfl
 have s2 : swp (tape x k m) (GA k m) GB 4 2 = ([([1], [m]), ([1], [0]), ([1], [4294967296]), ([1], [4294967296]), ([1], [4294967296])], [true, false, true, true, true]) := by
  rw [swp, s1]
  show giveS (giveS _ 0 (scaleT ([1], [4294967296]) m)) (-1) noT = _
  rw [scale1, one_mul m hm]
  show ([addT ([1], [0]) ([1], [m]), _, _, _, _], _) = _
  rw [add1, addV_zero hm]; rfl
 have s3 : swp (tape x k m) (GA k m) GB 4 3 = ([([1], [addV m k]), ([1], [0]), ([1], [4294967296]), ([1], [4294967296]), ([1], [4294967296])], [true, false, true, true, true]) := by
  rw [swp, s2]
  show giveS (giveS _ 0 (scaleT ([1], [4294967296]) k)) (-1) noT = _
  rw [scale1, one_mul k hk]; rfl
 have s4 : swp (tape x k m) (GA k m) GB 4 4 = ([([1], [addV m k]), ([1], [0]), ([1], [4294967296]), ([1], [4294967296]), ([1], [4294967296])], [true, false, true, true, true]) := by
  rw [swp, s3]; rfl
 rw [swp, s4]; rfl
end Go.Proofs.BackAdds
namespace Go.Proofs.BackChain
open Go.AM Go.Proofs.PlB Go.Proofs.PlW Go.Proofs.PlT Go.Proofs.PlS Go.Proofs.Sh Go.Proofs.Num Go.Proofs.Div Go.Proofs.Op Go.Proofs.BackAdds
open Go.Proofs.PlR hiding Tn
def vs (x : Int) (k : List Int) : Nat → Int
 | 0 => x
 | i + 1 => mulX (vs x k i) (rd (0 : Int) k (i : Int))
theorem vs_in (x : Int) (k : List Int) (hx : InR x) : ∀ i, InR (vs x k i)
 | 0 => hx
 | i + 1 => sat_in _
def node (x : Int) (k : List Int) : Nat → Nd
 | 0 => (1, -1, -1, 0, [1], [x])
 | i + 1 => (5, (i : Int), -1, rd (0 : Int) k (i : Int), [1], [vs x k (i + 1)])
def chain (x : Int) (k : List Int) (m : Nat) : List Nd := tabL (m + 1) (node x k)
theorem chain_gn (x : Int) (k : List Int) (m i : Nat) (h : i ≤ m) : gn (chain x k m) i = node x k i := by
 unfold gn chain; exact rd_tab _ _ _ _ (by omega)
theorem chain_nd (x : Int) (k : List Int) (m i : Nat) (h : i ≤ m) : nd (chain x k m) i = ([1], [vs x k i]) := by
 rw [← gn_nd, chain_gn x k m i h]
 cases i <;> rfl
theorem tab_push {α : Type} (n : Nat) (g : Nat → α) : tabL (n + 1) g = tabL n g ++ [g n] := by simp [tabL, List.range_succ]
theorem good (x : Int) (k : List Int) (m : Nat) (hx : InR x) : ∀ i, i < (chain x k m).length → GoodT (nd (chain x k m) i) := fun i hi => by
 rw [show (chain x k m).length = m + 1 from tab_len _ _] at hi
 rw [chain_nd x k m i (by omega)]; exact good1 (vs_in x k hx i)
theorem build (x : Int) (k : List Int) (ik : inI k) (hx : InR x) (hm : k.length ≤ 20) :
  loopF (fun go (y : Int × Int × List Nd) => f9_l1 k go y.1 y.2.1 y.2.2) fuelN ((0 : Int), (0 : Int), [(1, -1, -1, 0, [1], [x])]) = some (Sum.inr ((k.length : Int), chain x k k.length)) := by
 have := loop_for (B := fun go (y : Int × Int × List Nd) => f9_l1 k go y.1 y.2.1 y.2.2) (fun i => ((i : Int), (i : Int), chain x k i)) k.length (Sum.inr ((k.length : Int), chain x k k.length)) ?_ ?_ (by omega)
 ·exact this
 ·intro i hi go
  have hl : (chain x k i).length = i + 1 := tab_len _ _
  have hk := inI_rd ik i hi
  have gi := good1 (vs_in x k hx i)
  have e := do1 (chain x k i) 5 i (-1) (rd (0 : Int) k (i : Int)) (by omega) (by decide) (by decide) rfl (by omega) ([1], [vs x k (i + 1)]) (op_scale _ _ _ (by
   rw [chain_nd x k i i (Nat.le_refl _), scaleP _ _ gi.2 hk, scaleS_good gi]; rfl))
  rw [hl] at e
  have ec : chain x k i ++ [((5 : Int), (i : Int), (-1 : Int), cntK 5 (rd (0 : Int) k (i : Int)), [(1 : Int)], [vs x k (i + 1)])] = chain x k (i + 1) := (tab_push (i + 1) (node x k)).symm
  rw [ec] at e
  unfold f9_l1
  simp only
  rw [dT (by omega), cond_true, guardF_pos (by omega), e, bindF_some, nF rfl, cond_false, wrap_i64 (by omega) (by omega)]
  rfl
 ·intro go
  unfold f9_l1
  simp only
  rw [dF (by omega)]; rfl
def ws (k : List Int) : Nat → Int
 | 0 => 4294967296
 | t + 1 => mulX (ws k t) (rd (0 : Int) k ((k.length - 1 - t : Nat) : Int))
theorem ws_in (k : List Int) : ∀ i, InR (ws k i)
 | 0 => one_in
 | i + 1 => sat_in _
def GA (k : List Int) (n : Nat) (g : Tn) : Tn := if n = 0 then noT else scaleT g (rd (0 : Int) k ((n - 1 : Nat) : Int))
def GB (n : Nat) (g : Tn) : Tn := noT
def gl (k : List Int) (j : Nat) : List Tn := tabL (k.length + 1) (fun i => if i + j ≥ k.length then ([1], [ws k (k.length - i)]) else ([1], [0]))
def gv (k : List Int) (j : Nat) : List Bool := tabL (k.length + 1) (fun i => decide (i + j ≥ k.length))
theorem nodes (x : Int) (k : List Int) (ik : inI k) (hx : InR x) : ∀ n, n ≤ k.length → NodeOk (chain x k k.length) n (GA k n) (GB n)
 | 0, _ => ok_leaf (chain x k k.length) 0 (by rw [chain_gn x k _ 0 (by omega)]; rfl) (by rw [chain_gn x k _ 0 (by omega)]; rfl) (by rw [chain_gn x k _ 0 (by omega)]; rfl)
 | n + 1, h => by
  have g := chain_gn x k k.length (n + 1) h
  exact ok_scale (chain x k k.length) (n + 1) n (rd (0 : Int) k (n : Int)) (by rw [g]; rfl) (by rw [g]; rfl) (by rw [g]; rfl) (by rw [g]; rfl) (by omega) (by rw [show (chain x k k.length).length = k.length + 1 from tab_len _ _]; omega) (inI_rd ik n (by omega))
   (by rw [chain_nd x k _ n (by omega), chain_nd x k _ (n + 1) h])
theorem swept (x : Int) (k : List Int) (ik : inI k) (hx : InR x) : ∀ j, j ≤ k.length → swp (chain x k k.length) (GA k) GB k.length j = (gl k j, gv k j)
 | 0, _ => by
  rw [swp]
  refine Prod.ext ?_ ?_
  ·simp only
   unfold gl
   rw [tab_push, chain_nd x k _ _ (Nat.le_refl _)]
   have e1 : glist (chain x k k.length) k.length = tabL k.length (fun i => if i + 0 ≥ k.length then (([1], [ws k (k.length - i)]) : Tn) else ([1], [0])) := by
    unfold glist
    show tabL k.length (zer (chain x k k.length)) = _
    refine tab_ext _ _ _ (fun i hi => ?_)
    unfold zer
    rw [chain_nd x k _ i (by omega), if_neg (by omega)]; rfl
   rw [e1, if_pos (by omega), Nat.sub_self]; rfl
  ·simp only
   unfold gv
   rw [tab_rep, tab_set]
   refine tab_ext _ _ _ (fun i hi => ?_)
   by_cases h : i = k.length
   ·rw [if_pos h, dT (by omega)]
   ·rw [if_neg h, dF (by omega)]
 | j + 1, hj => by
  rw [swp, swept x k ik hx j (by omega)]
  obtain ⟨n, hn⟩ : ∃ n, n = k.length - j - 1 := ⟨_, rfl⟩
  have e : k.length - j = n + 1 := by omega
  simp only
  rw [e]
  have r1 : rd false (gv k j) ((n + 1 : Nat) : Int) = true := by
   unfold gv; rw [rd_tab _ _ _ _ (by omega), dT (by omega)]
  have r2 : rd Z2 (gl k j) ((n + 1 : Nat) : Int) = ([1], [ws k j]) := by
   unfold gl; rw [rd_tab _ _ _ _ (by omega), if_pos (by omega)]; congr 3; omega
  rw [r1, if_pos rfl, r2, chain_gn x k _ (n + 1) (by omega)]
  show giveS (giveS (gl k j, gv k j) (n : Int) (GA k (n + 1) ([1], [ws k j]))) (-1) noT = _
  have eg : GA k (n + 1) ([1], [ws k j]) = ([1], [ws k (j + 1)]) := by
   unfold GA
   rw [if_neg (by omega), scale1]
   show (([1], [mulX (ws k j) (rd (0 : Int) k ((n : Nat) : Int))]) : Tn) = ([1], [mulX (ws k j) (rd (0 : Int) k ((k.length - 1 - j : Nat) : Int))])
   rw [show k.length - 1 - j = n by omega]
  rw [eg]
  unfold giveS
  rw [if_pos (by decide), if_neg (by omega)]
  have r3 : rd Z2 (gl k j) (n : Int) = ([1], [0]) := by
   unfold gl; rw [rd_tab _ _ _ _ (by omega), if_neg (by omega)]
  simp only
  rw [r3, Int.toNat_natCast, add1, addV_zero (ws_in k _)]
  refine Prod.ext ?_ ?_
  ·simp only
   unfold gl
   rw [tab_set]
   refine tab_ext _ _ _ (fun i hi => ?_)
   by_cases h : i = n
   ·rw [if_pos h, if_pos (by omega)]; congr 3; omega
   ·rw [if_neg h]
    by_cases h2 : i + j ≥ k.length
    ·rw [if_pos h2, if_pos (by omega)]
    ·rw [if_neg h2, if_neg (by omega)]
  ·simp only
   unfold gv
   rw [tab_set]
   refine tab_ext _ _ _ (fun i hi => ?_)
   by_cases h : i = n
   ·rw [if_pos h, dT (by omega)]
   ·rw [if_neg h, decide_eq_decide]; omega
theorem swept_all (x : Int) (k : List Int) (ik : inI k) (hx : InR x) : (swp (chain x k k.length) (GA k) GB k.length (k.length + 1)).1 = gl k k.length := by
 rw [swp, swept x k ik hx k.length (Nat.le_refl _)]
 simp only
 rw [Nat.sub_self, chain_gn x k _ 0 (by omega)]
 split
 ·show (giveS (giveS (gl k k.length, gv k k.length) (-1) _) (-1) _).1 = _
  rfl
 ·rfl
theorem want (k : List Int) (ik : inI k) (hm : k.length ≤ 20) : loopF (fun go (y : Int × Int) => f9_l2 k go y.1 y.2) fuelN ((4294967296 : Int), IntKind.i64.wrap ((k.length : Int) - 1)) = some (ws k k.length) := by
 have := loop_for (B := fun go (y : Int × Int) => f9_l2 k go y.1 y.2) (fun t => (ws k t, (k.length : Int) - 1 - (t : Int))) k.length (ws k k.length) ?_ ?_ (by omega)
 ·rw [wrap_i64 (by omega) (by omega)]
  rw [show (k.length : Int) - 1 - ((0 : Nat) : Int) = (k.length : Int) - 1 by omega] at this
  exact this
 ·intro t ht go
  unfold f9_l2
  simp only
  have hk := inI_rd ik (k.length - 1 - t) (by omega)
  have hw := ws_in k t
  rw [show (k.length : Int) - 1 - (t : Int) = ((k.length - 1 - t : Nat) : Int) by omega, dT (by omega), cond_true, guardF_pos (by omega), rMul _ _ hw.1 hw.2 hk.1 hk.2, bindF_some, wrap_i64 (by omega) (by omega)]
  rw [show ((k.length - 1 - t : Nat) : Int) - 1 = (k.length : Int) - 1 - ((t + 1 : Nat) : Int) by omega]
  rfl
 ·intro go
  unfold f9_l2
  simp only
  rw [dF (by omega)]; rfl
theorem plainChain (x : Int) (k : List Int) (hx : InR x) (ik : inI k) : f9 x k = some true := by
 unfold f9
 rw [show f12 = some true by kernel_rfl, bindF_some, Bool.not_true, cond_false]
 by_cases hm : k.length ≤ 20
 ·rw [dF (by omega), cond_false, show f13 = some () from rfl, bindF_some, show f15 [x] = some ([x], [1]) from rfl, bindF_some]
  simp only
  have e1 : f14 [] ([1], [x]) = some (0, 0, [(1, -1, -1, 0, [1], [x])]) := leaf_ok [] ([1], [x]) (by decide) (good1 hx).1
  rw [e1, bindF_some]
  simp only
  rw [build x k ik hx hm, bindF_some, sumF_inr]
  simp only
  have hl : (chain x k k.length).length = k.length + 1 := tab_len _ _
  have e6 := sweepP (chain x k k.length) (GA k) GB k.length (by omega) (by omega) (good x k k.length hx) (by rw [chain_nd x k _ _ (Nat.le_refl _)]; rfl) (nodes x k ik hx)
  rw [swept_all x k ik hx] at e6
  have gll : (gl k k.length).length = k.length + 1 := tab_len _ _
  have r0 : rd (Ty.z (.p (.sl (.int .i64)) (.sl (.int .i64)))) (gl k k.length) (0 : Int) = ([1], [ws k k.length]) := by
   unfold gl
   have := rd_tab (Ty.z (.p (.sl (.int .i64)) (.sl (.int .i64)))) (k.length + 1) (fun i => if i + k.length ≥ k.length then (([1], [ws k (k.length - i)]) : Tn) else ([1], [0])) 0 (by omega)
   rw [if_pos (by omega), Nat.sub_zero] at this
   exact this
  rw [e6, bindF_some, want k ik hm, bindF_some, bT rfl, cond_true, cond_true]
  simp only [gll]
  rw [bT (by rw [wrap_i64 (by omega) (by omega)]; omega), cond_true, guardF_pos (by omega), r0, guardF_pos (by simp)]
  show some (ws k k.length == ws k k.length) = _
  rw [bT rfl]
 ·rw [dT (by omega)]; rfl
theorem InRc {x : Int} (w : Ty.wf (.int .i64) x) : InR x := PlG.range_i64 w
theorem lawChain (x : Int) (k : List Int) (w0 : Ty.wf (.int .i64) x) (w1 : Ty.wf (.sl (.int .i64)) k) : f9 x k = some true := plainChain x k (InRc w0) (PlG.row_i64 w1)
end Go.Proofs.BackChain

