import Derived.Test.YtlgiakkejlbbfaaGreatLossNoneS4
import Derived.Test.YtlgiakkejlbbfaaGreatAmY
set_option linter.unusedVariables false
set_option linter.unusedSimpArgs false
set_option maxRecDepth 100000
set_option linter.unusedSectionVars false

namespace Go.AM
theorem bindF_some {X Y : Type} (x : X) (f : X → Option Y) : bindF (some x) f = f x := rfl
theorem sumF_inl {A B Y : Type} (a : A) (f : A → Option Y) (g : B → Option Y) : sumF (.inl a) f g = f a := rfl
theorem sumF_inr {A B Y : Type} (b : B) (f : A → Option Y) (g : B → Option Y) : sumF (.inr b) f g = g b := rfl
theorem guardF_pos {Y : Type} {p : Prop} [Decidable p] {r : Option Y} (h : p) : guardF p r = r := if_pos h
theorem loopF_succ {X Z : Type} (B : (X → Option Z) → X → Option Z) (n : Nat) (x : X) : loopF B (n + 1) x = B (loopF B n) x := rfl
theorem loop_inv {X Z : Type} {B : (X → Option Z) → X → Option Z} (I : X → Prop) (μ : X → Nat) (Q : Z → Prop)
  (h : ∀ x, I x → (∃ z, (∀ go, B go x = some z) ∧ Q z) ∨ (∃ y, (∀ go, B go x = go y) ∧ I y ∧ μ y < μ x)) :
  ∀ (n : Nat) (x : X), I x → μ x < n → ∃ z, loopF B n x = some z ∧ Q z
 | 0, x, _, hm => absurd hm (Nat.not_lt_zero _)
 | n + 1, x, hi, hm => by
  rw [loopF_succ]
  rcases h x hi with ⟨z, h1, h2⟩ | ⟨y, h1, h2, h3⟩
  ·exact ⟨z, h1 _, h2⟩
  ·rw [h1]; exact loop_inv I μ Q h n y h2 (by omega)
theorem loop_fuel {X Z : Type} {B : (X → Option Z) → X → Option Z} (I : X → Prop) (μ : X → Nat) (Q : Z → Prop)
  (h : ∀ x, I x → (∃ z, (∀ go, B go x = some z) ∧ Q z) ∨ (∃ y, (∀ go, B go x = go y) ∧ I y ∧ μ y < μ x)) (x : X) (hi : I x) (hm : μ x < 18446744073709551616) :
  ∃ z, loopF B fuelN x = some z ∧ Q z := loop_inv I μ Q h fuelN x hi hm
theorem wrap_i64 {n : Int} (h1 : -9223372036854775808 ≤ n) (h2 : n < 9223372036854775808) : IntKind.i64.wrap n = n := by
 simp only [IntKind.wrap, IntKind.signed, IntKind.bits]
 have : n % 2 ^ 64 = if 0 ≤ n then n else n + 18446744073709551616 := by
  split <;> omega
 simp only [this]
 split <;> split <;> simp_all <;> omega
theorem rd_nat {α : Type} (z : α) (xs : List α) (i : Nat) (h : i < xs.length) : rd z xs (i : Int) = xs[i] := by
 simp [rd, h]
end Go.AM
namespace Go.Proofs.PlB
open Go.AM
theorem clone_d (d : List Int) (h : d.length ≤ 17592186044416) : f78 d = some d := by
 unfold f78 nilF
 cases d with
 | nil => rfl
 | cons x r =>
  simp only
  rw [guardF_pos (by simp at h ⊢; omega)]
  rfl
def pgo : Int → List Int → Int
 | n, [] => n
 | n, x :: r => if x < 1 ∨ x > 4096 ∨ n * x > 4096 then 0 else pgo (n * x) r
def prd (d : List Int) : Int := if d.length > 4 then 0 else pgo 1 d
theorem drop_cons {α : Type} (d : List α) (k : Nat) (h : k < d.length) : d.drop k = d[k] :: d.drop (k + 1) := by
 rw [List.drop_eq_getElem_cons h]
theorem product_ok (d : List Int) : f122 d = some (prd d) := by
 unfold f122 prd
 by_cases h4 : d.length > 4
 ·rw [show decide ((List.length d : Int) > 4) = true by simp; omega, if_pos h4]; rfl
 ·rw [show decide ((List.length d : Int) > 4) = false by simp; omega, if_neg h4]
  simp only [cond_false]
  have H : ∀ x : Int × Int, (∃ k : Nat, x.2 = (k : Int) ∧ k ≤ d.length ∧ 1 ≤ x.1 ∧ x.1 ≤ 4096 ∧ pgo x.1 (d.drop k) = pgo 1 d) →
    (∃ z, (∀ go, f122_l3 d go x.1 x.2 = some z) ∧ ((z = Sum.inl () ∧ pgo 1 d = 0) ∨ z = Sum.inr (pgo 1 d))) ∨
    (∃ y : Int × Int, (∀ go, f122_l3 d go x.1 x.2 = go y) ∧ (∃ k : Nat, y.2 = (k : Int) ∧ k ≤ d.length ∧ 1 ≤ y.1 ∧ y.1 ≤ 4096 ∧ pgo y.1 (d.drop k) = pgo 1 d) ∧ ((d.length : Int) - y.2).toNat < ((d.length : Int) - x.2).toNat) := by
   rintro ⟨n, _⟩ ⟨k, rfl, hk, hn1, hn2, hp⟩
   simp only at hn1 hn2 hp ⊢
   by_cases hlt : k < d.length
   ·rw [drop_cons d k hlt] at hp
    simp only [pgo] at hp
    have hrd : rd (0 : Int) d (k : Int) = d[k] := rd_nat _ _ _ hlt
    by_cases c1 : d[k] < 1
    ·left
     rw [if_pos (.inl c1)] at hp
     refine ⟨Sum.inl (), fun go => ?_, .inl ⟨rfl, hp.symm⟩⟩
     simp only [f122_l3, f122_j4, hrd]
     rw [show decide ((k : Int) < (d.length : Int)) = true by simpa using hlt, show decide (d[k] < (1 : Int)) = true by simpa using c1]
     simp only [cond_true]
     rw [guardF_pos (by omega)]
     rfl
    ·by_cases c2 : d[k] > 4096
     ·left
      rw [if_pos (.inr (.inl c2))] at hp
      refine ⟨Sum.inl (), fun go => ?_, .inl ⟨rfl, hp.symm⟩⟩
      simp only [f122_l3, f122_j4, hrd]
      rw [show decide ((k : Int) < (d.length : Int)) = true by simpa using hlt, show decide (d[k] < (1 : Int)) = false by simpa using c1, show decide (d[k] > (4096 : Int)) = true by simpa using c2]
      simp only [cond_true, cond_false]
      rw [guardF_pos (by omega)]
      rfl
     ·have hb1 : n * d[k] ≤ 4096 * 4096 := Int.mul_le_mul hn2 (by omega) (by omega) (by omega)
      have hb0 : 1 * 1 ≤ n * d[k] := Int.mul_le_mul hn1 (by omega) (by omega) (by omega)
      have hw : IntKind.i64.wrap (n * d[k]) = n * d[k] := wrap_i64 (by omega) (by omega)
      by_cases c3 : n * d[k] > 4096
      ·left
       rw [if_pos (.inr (.inr c3))] at hp
       refine ⟨Sum.inl (), fun go => ?_, .inl ⟨rfl, hp.symm⟩⟩
       simp only [f122_l3, f122_j4, hrd, hw]
       rw [show decide ((k : Int) < (d.length : Int)) = true by simpa using hlt, show decide (d[k] < (1 : Int)) = false by simpa using c1, show decide (d[k] > (4096 : Int)) = false by simpa using c2, show decide (n * d[k] > (4096 : Int)) = true by simpa using c3]
       simp only [cond_true, cond_false]
       rw [guardF_pos (by omega)]
       rfl
      ·right
       rw [if_neg (by omega)] at hp
       refine ⟨(n * d[k], ((k + 1 : Nat) : Int)), fun go => ?_, ⟨k + 1, rfl, hlt, by simp only; omega, by simp only; omega, hp⟩, by simp only; omega⟩
       simp only [f122_l3, f122_j4, hrd, hw]
       rw [show decide ((k : Int) < (d.length : Int)) = true by simpa using hlt, show decide (d[k] < (1 : Int)) = false by simpa using c1, show decide (d[k] > (4096 : Int)) = false by simpa using c2, show decide (n * d[k] > (4096 : Int)) = false by simpa using c3]
       simp only [cond_true, cond_false]
       rw [guardF_pos (by omega), wrap_i64 (by omega) (by omega)]
       rfl
   ·left
    have : k = d.length := by omega
    subst this
    simp only [List.drop_length, pgo] at hp
    refine ⟨Sum.inr n, fun go => ?_, .inr (by rw [hp])⟩
    simp only [f122_l3]
    rw [show decide ((d.length : Int) < (d.length : Int)) = false by simp]
    rfl
  obtain ⟨z, e, hz⟩ := loop_fuel (B := fun go (x : Int × Int) => f122_l3 d go x.1 x.2) _ (fun x => ((d.length : Int) - x.2).toNat) _ H ((1 : Int), (0 : Int)) ⟨0, rfl, Nat.zero_le _, by decide, by decide, rfl⟩ (by simp; omega)
  rw [e]
  simp only [bindF_some]
  rcases hz with ⟨rfl, h0⟩ | rfl
  ·simp only [sumF_inl, h0]
  ·simp only [sumF_inr]
theorem shapeGood_ok (d : List Int) : f76 d = some (decide (prd d > 0)) := by
 unfold f76
 simp only [product_ok, bindF_some]
theorem size_ok (d : List Int) : f77 d = some (prd d) := by
 unfold f77
 simp only [product_ok, bindF_some]
def tgood (t : List Int × List Int) : Bool := decide (prd t.1 > 0) && ((t.2.length : Int) == prd t.1)
theorem good_ok (t : List Int × List Int) : f33 t = some (tgood t) := by
 unfold f33 tgood
 simp only [shapeGood_ok, size_ok, bindF_some]
 cases decide (prd t.1 > 0) <;> rfl
end Go.Proofs.PlB
namespace Go.Proofs.PlW
open Go.AM
theorem wu (n : Int) : IntKind.u64.wrap n = n % 18446744073709551616 := by
 simp [IntKind.wrap, IntKind.signed, IntKind.bits]
theorem wi (n : Int) : IntKind.i64.wrap n = if n % 18446744073709551616 ≥ 9223372036854775808 then n % 18446744073709551616 - 18446744073709551616 else n % 18446744073709551616 := by
 simp [IntKind.wrap, IntKind.signed, IntKind.bits]
theorem wi_mod (n : Int) : IntKind.i64.wrap (n % 18446744073709551616) = IntKind.i64.wrap n := by
 rw [wi, wi, Int.emod_emod_of_dvd _ (Int.dvd_refl _)]
theorem sh32u (x : Int) : Int.fdiv x (2 ^ min (Int.toNat (32 : Int)) (IntKind.bits IntKind.u64)) = x / 4294967296 := by
 rw [show ((2 : Int) ^ min (Int.toNat (32 : Int)) (IntKind.bits IntKind.u64)) = 4294967296 from rfl]
 exact Int.fdiv_eq_ediv_of_nonneg _ (by decide)
theorem sh63i (x : Int) : Int.fdiv x (2 ^ min (Int.toNat (63 : Int)) (IntKind.bits IntKind.i64)) = x / 9223372036854775808 := by
 rw [show ((2 : Int) ^ min (Int.toNat (63 : Int)) (IntKind.bits IntKind.i64)) = 9223372036854775808 from rfl]
 exact Int.fdiv_eq_ediv_of_nonneg _ (by decide)
theorem bits_nat (f : BitVec 64 → BitVec 64 → BitVec 64) (a b : Int) : bitsOf IntKind.u64 f a b = ((f (BitVec.ofInt 64 a) (BitVec.ofInt 64 b)).toNat : Int) := by
 have h : bitsOf IntKind.u64 f a b = IntKind.u64.wrap (((f (BitVec.ofInt 64 a) (BitVec.ofInt 64 b)).toNat : Nat) : Int) := rfl
 rw [h, wu]
 have := (f (BitVec.ofInt 64 a) (BitVec.ofInt 64 b)).isLt
 omega
theorem ofInt_nat (a : Int) (h0 : 0 ≤ a) (h1 : a < 18446744073709551616) : (BitVec.ofInt 64 a).toNat = a.toNat := by
 rw [BitVec.toNat_ofInt]
 have : a % ((2 ^ 64 : Nat) : Int) = a := Int.emod_eq_of_lt h0 (by simpa using h1)
 rw [this]
theorem and_nat (a b : Int) (h0 : 0 ≤ a) (h1 : a < 18446744073709551616) (g0 : 0 ≤ b) (g1 : b < 18446744073709551616) :
  bitsOf IntKind.u64 (fun p q => p &&& q) a b = ((a.toNat &&& b.toNat : Nat) : Int) := by
 refine (bits_nat (fun p q => p &&& q) a b).trans ?_
 rw [BitVec.toNat_and, ofInt_nat a h0 h1, ofInt_nat b g0 g1]
theorem or_nat (a b : Int) (h0 : 0 ≤ a) (h1 : a < 18446744073709551616) (g0 : 0 ≤ b) (g1 : b < 18446744073709551616) :
  bitsOf IntKind.u64 (fun p q => p ||| q) a b = ((a.toNat ||| b.toNat : Nat) : Int) := by
 refine (bits_nat (fun p q => p ||| q) a b).trans ?_
 rw [BitVec.toNat_or, ofInt_nat a h0 h1, ofInt_nat b g0 g1]
theorem and32 (x : Int) (h0 : 0 ≤ x) (h1 : x < 18446744073709551616) : bitsOf IntKind.u64 (fun p q => p &&& q) x 4294967295 = x % 4294967296 := by
 rw [and_nat x _ h0 h1 (by decide) (by decide)]
 have := Nat.and_two_pow_sub_one_eq_mod x.toNat 32
 rw [show (4294967295 : Int).toNat = 2 ^ 32 - 1 from rfl, this]
 omega
theorem and1 (x : Int) (h0 : 0 ≤ x) (h1 : x < 18446744073709551616) : bitsOf IntKind.u64 (fun p q => p &&& q) x 1 = x % 2 := by
 rw [and_nat x _ h0 h1 (by decide) (by decide)]
 have := Nat.and_two_pow_sub_one_eq_mod x.toNat 1
 rw [show (1 : Int).toNat = 2 ^ 1 - 1 from rfl, this]
 omega
theorem or32 (a b : Int) (h0 : 0 ≤ a) (h1 : a < 4294967296) (g0 : 0 ≤ b) (g1 : b < 4294967296) : bitsOf IntKind.u64 (fun p q => p ||| q) (a * 4294967296) b = a * 4294967296 + b := by
 rw [or_nat _ _ (by omega) (by omega) (by omega) (by omega)]
 have := Nat.two_pow_add_eq_or_of_lt (i := 32) (b := b.toNat) (by omega) a.toNat
 rw [show (a * 4294967296).toNat = 2 ^ 32 * a.toNat by omega, ← this]
 omega
theorem add_ok (x y c : Int) (h0 : 0 ≤ x) (h1 : 0 ≤ y) (h2 : 0 ≤ c) (h3 : c ≤ 1) : add64 x y c = some ((x + y + c) % 18446744073709551616, (x + y + c) / 18446744073709551616) := by
 unfold add64
 rw [show Nat.ble c.toNat 1 = true by rw [Nat.ble_eq]; omega]
 simp only [Option.some.injEq, Prod.mk.injEq, Int.ofNat_eq_natCast]
 constructor <;> omega
theorem sub_ok (x y c : Int) (h0 : 0 ≤ x) (h0' : x < 18446744073709551616) (h1 : 0 ≤ y) (h1' : y < 18446744073709551616) (h2 : 0 ≤ c) (h3 : c ≤ 1) :
  sub64 x y c = some ((x - y - c) % 18446744073709551616, if x < y + c then 1 else 0) := by
 unfold sub64
 rw [show Nat.ble c.toNat 1 = true by rw [Nat.ble_eq]; omega]
 simp only [Option.some.injEq, Prod.mk.injEq, Int.ofNat_eq_natCast]
 constructor
 ·omega
 ·by_cases h : x < y + c
  ·rw [if_pos h, if_pos (by omega)]
  ·rw [if_neg h, if_neg (by omega)]
theorem size_ok (v : Int) (h0 : -9223372036854775808 ≤ v) (h1 : v < 9223372036854775808) : f149 v = some (if v < 0 then -v else v) := by
 unfold f149
 by_cases h : v < 0
 ·rw [show decide (v < 0) = true by simpa using h, if_pos h]
  simp only [cond_true, wu, Option.some.injEq]
  omega
 ·rw [show decide (v < 0) = false by simpa using h, if_neg h]
  simp only [cond_false, wu, Option.some.injEq]
  omega
theorem mul_bound (a b : Int) (h0 : 0 ≤ a) (h1 : a ≤ 4294967295) (g0 : 0 ≤ b) (g1 : b ≤ 4294967295) : 0 ≤ a * b ∧ a * b ≤ 18446744065119617025 :=
 ⟨Int.mul_nonneg h0 g0, Int.mul_le_mul h1 g1 g0 (by decide)⟩
theorem mul64_ok (x y : Int) (h0 : 0 ≤ x) (h1 : x < 18446744073709551616) (g0 : 0 ≤ y) (g1 : y < 18446744073709551616) :
  f164 x y = some (x * y / 18446744073709551616, x * y % 18446744073709551616) := by
 unfold f164
 have x1 := Int.mul_ediv_add_emod x 4294967296
 have y1 := Int.mul_ediv_add_emod y 4294967296
 simp only [sh32u, and32 x h0 h1, and32 y g0 g1, wu]
 rw [and32 _ (by omega) (by omega)]
 generalize hx1 : x / 4294967296 = a at *
 generalize hx0 : x % 4294967296 = b at *
 generalize hy1 : y / 4294967296 = c at *
 generalize hy0 : y % 4294967296 = d at *
 obtain ⟨p0, p1⟩ := mul_bound a c (by omega) (by omega) (by omega) (by omega)
 obtain ⟨q0, q1⟩ := mul_bound a d (by omega) (by omega) (by omega) (by omega)
 obtain ⟨r0, r1⟩ := mul_bound b c (by omega) (by omega) (by omega) (by omega)
 obtain ⟨s0, s1⟩ := mul_bound b d (by omega) (by omega) (by omega) (by omega)
 have hxy : x * y = 18446744073709551616 * (a * c) + 4294967296 * (a * d) + 4294967296 * (b * c) + b * d := by
  rw [← x1, ← y1, Int.add_mul, Int.mul_add, Int.mul_add]
  have e1 : 4294967296 * a * (4294967296 * c) = 18446744073709551616 * (a * c) := by
   rw [show (18446744073709551616 : Int) = 4294967296 * 4294967296 from rfl]; ac_rfl
  have e2 : 4294967296 * a * d = 4294967296 * (a * d) := Int.mul_assoc _ _ _
  have e3 : b * (4294967296 * c) = 4294967296 * (b * c) := Int.mul_left_comm _ _ _
  rw [e1, e2, e3]; omega
 rw [hxy]
 generalize a * c = P at *
 generalize a * d = Q at *
 generalize b * c = R at *
 generalize b * d = S at *
 have w0 : ∀ n : Int, 0 ≤ n → n < 18446744073709551616 → n % 18446744073709551616 = n := fun n h0 h1 => Int.emod_eq_of_lt h0 h1
 rw [w0 P (by omega) (by omega), w0 Q (by omega) (by omega), w0 R (by omega) (by omega), w0 S (by omega) (by omega)]
 rw [w0 (Q + S / 4294967296) (by omega) (by omega)]
 rw [w0 ((Q + S / 4294967296) % 4294967296 + R) (by omega) (by omega)]
 rw [w0 (P + (Q + S / 4294967296) / 4294967296) (by omega) (by omega)]
 rw [w0 (P + (Q + S / 4294967296) / 4294967296 + ((Q + S / 4294967296) % 4294967296 + R) / 4294967296) (by omega) (by omega)]
 have hh : (18446744073709551616 * P + 4294967296 * Q + 4294967296 * R + S) / 18446744073709551616 = P + (Q + S / 4294967296) / 4294967296 + ((Q + S / 4294967296) % 4294967296 + R) / 4294967296 := by omega
 rw [hh]
def rhe (S : Int) : Int := if S % 4294967296 > 2147483648 ∨ (S % 4294967296 = 2147483648 ∧ S / 4294967296 % 2 = 1) then S / 4294967296 + 1 else S / 4294967296
def sat (x : Int) : Int := if x ≥ 9223372036854775808 then 9223372036854775807 else if x < -9223372036854775808 then -9223372036854775808 else x
theorem fix_ok (R : Int) (h0 : -1000000000000000000000000000000000000 ≤ R) (h1 : R ≤ 1000000000000000000000000000000000000) : f138 (R / 18446744073709551616, R % 18446744073709551616) = some (sat R) := by
 unfold f138 f138_j2 f138_j3 sat
 simp only
 by_cases c1 : R / 18446744073709551616 > 0
 ·rw [show decide (R / 18446744073709551616 > 0) = true by simpa using c1]
  simp only [cond_true, bindF_some, sumF_inr]
  rw [if_pos (by omega)]
 ·rw [show decide (R / 18446744073709551616 > 0) = false by simpa using c1]
  simp only [cond_false]
  by_cases c2 : R / 18446744073709551616 = 0
  ·rw [show (R / 18446744073709551616 == 0) = true by simpa using c2]
   simp only [cond_true, bindF_some]
   by_cases c3 : R % 18446744073709551616 ≥ 9223372036854775808
   ·rw [show decide (R % 18446744073709551616 ≥ 9223372036854775808) = true by simpa using c3]
    simp only [cond_true, bindF_some, sumF_inr]
    rw [if_pos (by omega)]
   ·rw [show decide (R % 18446744073709551616 ≥ 9223372036854775808) = false by simpa using c3]
    simp only [cond_false]
    rw [show decide (R / 18446744073709551616 < -1) = false by simp; omega, show (R / 18446744073709551616 == -1) = false by simp; omega]
    simp only [cond_false, bindF_some, sumF_inl]
    rw [if_neg (by omega), if_neg (by omega), wrap_i64 (by omega) (by omega)]
    congr 1; omega
  ·rw [show (R / 18446744073709551616 == 0) = false by simpa using c2]
   simp only [cond_false, bindF_some]
   by_cases c4 : R / 18446744073709551616 < -1
   ·rw [show decide (R / 18446744073709551616 < -1) = true by simpa using c4]
    simp only [cond_true, bindF_some, sumF_inr]
    rw [if_neg (by omega), if_pos (by omega)]
   ·rw [show decide (R / 18446744073709551616 < -1) = false by simpa using c4, show (R / 18446744073709551616 == -1) = true by simp; omega]
    simp only [cond_false, cond_true]
    by_cases c5 : R % 18446744073709551616 < 9223372036854775808
    ·rw [show decide (R % 18446744073709551616 < 9223372036854775808) = true by simpa using c5]
     simp only [cond_true, bindF_some, sumF_inr]
     rw [if_neg (by omega), if_pos (by omega)]
    ·rw [show decide (R % 18446744073709551616 < 9223372036854775808) = false by simpa using c5]
     simp only [cond_false, bindF_some, sumF_inl]
     rw [if_neg (by omega), if_neg (by omega), wi]
     congr 1
     split <;> omega
def inI (l : List Int) : Prop := ∀ x ∈ l, -9223372036854775808 ≤ x ∧ x < 9223372036854775808
end Go.Proofs.PlW
namespace Go.Proofs.PlT
open Go.AM Go.Proofs.PlB Go.Proofs.PlW
theorem pgo_range : ∀ (d : List Int) (n : Int), 0 ≤ n → n ≤ 4096 → 0 ≤ pgo n d ∧ pgo n d ≤ 4096
 | [], n, h0, h1 => ⟨h0, h1⟩
 | x :: r, n, h0, h1 => by
  simp only [pgo]
  split
  ·omega
  ·have : 0 ≤ n * x := Int.mul_nonneg h0 (by omega)
   exact pgo_range r _ this (by omega)
theorem prd_range (d : List Int) : 0 ≤ prd d ∧ prd d ≤ 4096 := by
 unfold prd
 split
 ·omega
 ·exact pgo_range d 1 (by omega) (by omega)
theorem prd_len {d : List Int} (h : 0 < prd d) : d.length ≤ 4 := by
 unfold prd at h
 split at h <;> omega
theorem over_rep (v : Int) (n c m : Nat) (h : c + m ≤ n) : over (List.replicate c v ++ List.replicate (n - c) 0) (c : Int) (List.replicate m v) = List.replicate (c + m) v ++ List.replicate (n - (c + m)) 0 := by
 unfold over
 simp only [Int.toNat_natCast, List.length_replicate]
 rw [List.take_append_of_le_length (by simp), List.take_of_length_le (by simp), List.drop_append, List.drop_of_length_le (by simp), List.nil_append, List.length_replicate, List.drop_replicate, List.replicate_append_replicate]
 congr 2
 omega
theorem repeat_ok (v : Int) (n : Nat) (h : n ≤ 4096) : f80 [v] (n : Int) = some (List.replicate n v) := by
 unfold f80
 rw [show decide ((n : Int) < 0) = false by simp]
 simp only [cond_false, f123]
 rw [mul64_ok _ _ (by rw [wu]; omega) (by rw [wu]; omega) (by rw [wu]; omega) (by rw [wu]; omega)]
 simp only [bindF_some, wu, List.length_cons, List.length_nil]
 have e1 : (((0 + 1 : Nat) : Int) % 18446744073709551616 * ((n : Int) % 18446744073709551616)) = n := by
  rw [show (((0 + 1 : Nat) : Int) % 18446744073709551616) = 1 from rfl, Int.one_mul]; omega
 rw [e1, show (n : Int) / 18446744073709551616 = 0 by omega, show (n : Int) % 18446744073709551616 = n by omega]
 have hj : f80_j1 ((0 : Int), (n : Int)) = some () := by
  unfold f80_j1
  simp only
  rw [show decide ((0 : Int) > 0) = false from rfl, show decide ((n : Int) > 9223372036854775807) = false by simp; omega]
  rfl
 rw [hj, wrap_i64 (by omega) (by omega)]
 simp only [bindF_some, Int.toNat_natCast, List.length_replicate]
 rw [guardF_pos (by omega)]
 have e2 : List.take (n - (0 : Int).toNat) [v] = List.replicate (min n 1) v := by
  cases n with
  | zero => rfl
  | succ n => rw [show min (n + 1) 1 = 1 by omega]; simp
 rw [show (0 : Int).toNat = 0 from rfl] at *
 rw [e2]
 have H : ∀ x : Int × List Int, (∃ c : Nat, x = ((c : Int), List.replicate c v ++ List.replicate (n - c) 0) ∧ c ≤ n ∧ (1 ≤ n → 1 ≤ c)) →
   (∃ z, (∀ go, f80_l2 go x.1 x.2 = some z) ∧ z = List.replicate n v) ∨
   (∃ y : Int × List Int, (∀ go, f80_l2 go x.1 x.2 = go y) ∧ (∃ c : Nat, y = ((c : Int), List.replicate c v ++ List.replicate (n - c) 0) ∧ c ≤ n ∧ (1 ≤ n → 1 ≤ c)) ∧ ((n : Int) - y.1).toNat < ((n : Int) - x.1).toNat) := by
  rintro _ ⟨c, rfl, hc, h1⟩
  have hlen : (List.replicate c v ++ List.replicate (n - c) (0 : Int)).length = n := by simp; omega
  by_cases hlt : c < n
  ·right
   have ht : List.take ((n : Int).toNat - (c : Int).toNat) (List.drop (0 : Int).toNat (List.take (c : Int).toNat (List.replicate c v ++ List.replicate (n - c) (0 : Int)))) = List.replicate (min (n - c) c) v := by
    simp only [Int.toNat_natCast, show (0 : Int).toNat = 0 from rfl, List.drop_zero]
    rw [List.take_append_of_le_length (by simp), List.take_replicate, List.take_replicate]
    congr 1; omega
   refine ⟨(((c + min (n - c) c : Nat) : Int), _), fun go => ?_, ⟨c + min (n - c) c, rfl, by omega, by omega⟩, by simp only; omega⟩
   simp only [f80_l2, hlen]
   rw [show decide ((c : Int) < (n : Int)) = true by simpa using hlt]
   simp only [cond_true]
   rw [guardF_pos (by omega), guardF_pos (by omega), ht, List.length_replicate, wrap_i64 (by omega) (by omega), over_rep v n c _ (by omega)]
   rfl
  ·left
   have : c = n := by omega
   subst this
   refine ⟨_, fun go => ?_, rfl⟩
   simp only [f80_l2, hlen]
   rw [show decide ((c : Int) < (c : Int)) = false by simp]
   simp
 have e3 : (((List.replicate (min n 1) v).length : Int), over (List.replicate n (0 : Int)) 0 (List.replicate (min n 1) v)) = (((min n 1 : Nat) : Int), List.replicate (min n 1) v ++ List.replicate (n - min n 1) 0) := by
  have := over_rep v n 0 (min n 1) (by omega)
  simp only [List.replicate_zero, List.nil_append, Nat.sub_zero, Nat.zero_add] at this
  rw [List.length_replicate]
  exact Prod.ext rfl this
 rw [e3]
 obtain ⟨z, e, rfl⟩ := loop_fuel (B := fun go (x : Int × List Int) => f80_l2 go x.1 x.2) _ (fun x => ((n : Int) - x.1).toNat) _ H _ ⟨min n 1, rfl, by omega, by omega⟩ (by simp only; omega)
 rw [e]
 rfl
theorem new_ok (d : List Int) (v : Int) : f36 d v = some (if 0 < prd d then (0, d, List.replicate (prd d).toNat v) else (1, [], [])) := by
 unfold f36
 rw [shapeGood_ok]
 simp only [bindF_some]
 by_cases h : 0 < prd d
 ·have hl := prd_len h
  have hr := prd_range d
  rw [show decide (prd d > 0) = true by simpa using h, if_pos h, clone_d d (by omega), PlB.size_ok]
  simp only [Bool.not_true, cond_false, bindF_some]
  rw [show prd d = (((prd d).toNat : Nat) : Int) by omega, repeat_ok v _ (by omega)]
  simp only [bindF_some, Int.toNat_natCast]
 ·rw [show decide (prd d > 0) = false by simpa using h, if_neg h]
  rfl
end Go.Proofs.PlT
namespace Go.AM
open Go.Proofs.PlT
theorem dT {p : Prop} [Decidable p] (h : p) : decide p = true := decide_eq_true h
theorem dF {p : Prop} [Decidable p] (h : ¬p) : decide p = false := decide_eq_false h
theorem bT {a b : Int} (h : a = b) : (a == b) = true := by simpa using h
theorem bF {a b : Int} (h : ¬a = b) : (a == b) = false := by simpa using h
theorem nT {a b : Int} (h : ¬a = b) : (a != b) = true := by simpa using h
theorem nF {a b : Int} (h : a = b) : (a != b) = false := by simpa using h
theorem loop_for_aux {X Z : Type} {B : (X → Option Z) → X → Option Z} (s : Nat → X) (n : Nat) (z : Z)
  (hs : ∀ k, k < n → ∀ go, B go (s k) = go (s (k + 1))) (he : ∀ go, B go (s n) = some z) :
  ∀ m k, k ≤ n → n < m + k → loopF B m (s k) = some z
 | 0, k, h1, h2 => absurd h1 (by omega)
 | m + 1, k, h1, h2 => by
  rw [loopF_succ]
  by_cases h : k < n
  ·rw [hs k h]; exact loop_for_aux s n z hs he m (k + 1) h (by omega)
  ·rw [show k = n by omega]; exact he _
theorem loop_for {X Z : Type} {B : (X → Option Z) → X → Option Z} (s : Nat → X) (n : Nat) (z : Z)
  (hs : ∀ k, k < n → ∀ go, B go (s k) = go (s (k + 1))) (he : ∀ go, B go (s n) = some z) (hn : n < 18446744073709551616) :
  loopF B fuelN (s 0) = some z := loop_for_aux s n z hs he fuelN 0 (Nat.zero_le _) (by show n < 18446744073709551616 + 0; omega)
def firstB (P : Nat → Bool) : Nat → Nat → Option Nat
 | k, 0 => none
 | k, n + 1 => if P k then some k else firstB P (k + 1) n
theorem loop_find_aux {X Z : Type} {B : (X → Option Z) → X → Option Z} (s : Nat → X) (P : Nat → Bool) (zx : Nat → Z) (z : Z) (n : Nat)
  (hs : ∀ k, k < n → P k = false → ∀ go, B go (s k) = go (s (k + 1))) (hx : ∀ k, k < n → P k = true → ∀ go, B go (s k) = some (zx k)) (he : ∀ go, B go (s n) = some z) :
  ∀ r m k, k + r = n → r < m → loopF B m (s k) = some (match firstB P k r with | some i => zx i | none => z)
 | 0, 0, k, h1, h2 => absurd h2 (by omega)
 | 0, m + 1, k, h1, h2 => by rw [loopF_succ, show k = n by omega]; exact he _
 | r + 1, 0, k, h1, h2 => absurd h2 (by omega)
 | r + 1, m + 1, k, h1, h2 => by
  rw [loopF_succ]
  unfold firstB
  cases h : P k
  ·rw [hs k (by omega) h]; exact loop_find_aux s P zx z n hs hx he r m (k + 1) (by omega) (by omega)
  ·rw [hx k (by omega) h]; rfl
theorem loop_find {X Z : Type} {B : (X → Option Z) → X → Option Z} (s : Nat → X) (P : Nat → Bool) (zx : Nat → Z) (z : Z) (n : Nat)
  (hs : ∀ k, k < n → P k = false → ∀ go, B go (s k) = go (s (k + 1))) (hx : ∀ k, k < n → P k = true → ∀ go, B go (s k) = some (zx k)) (he : ∀ go, B go (s n) = some z) (hn : n < 18446744073709551616) :
  loopF B fuelN (s 0) = some (match firstB P 0 n with | some i => zx i | none => z) := loop_find_aux s P zx z n hs hx he n fuelN 0 (by omega) (by show n < 18446744073709551616; omega)
theorem firstB_none (P : Nat → Bool) : ∀ n k, (firstB P k n = none ↔ ∀ i, k ≤ i → i < k + n → P i = false)
 | 0, k => by simp only [firstB, true_iff]; intro i h1 h2; omega
 | n + 1, k => by
  unfold firstB
  by_cases h : P k = true
  ·simp only [h, if_true]
   constructor
   ·intro h'; exact absurd h' (by simp)
   ·intro h'; have := h' k (Nat.le_refl _) (by omega); rw [h] at this; exact absurd this (by decide)
  ·rw [if_neg h, firstB_none P n (k + 1)]
   constructor
   ·intro h' i h1 h2
    by_cases hk : i = k
    ·subst hk; simpa using h
    ·exact h' i (by omega) (by omega)
   ·intro h' i h1 h2; exact h' i (by omega) (by omega)
def anyB (n : Nat) (P : Nat → Bool) : Bool := (firstB P 0 n).isSome
theorem anyB_false {n : Nat} {P : Nat → Bool} : anyB n P = false ↔ ∀ i, i < n → P i = false := by
 unfold anyB
 rw [Option.isSome_eq_false_iff, Option.isNone_iff_eq_none, firstB_none]
 constructor
 ·intro h i hi; exact h i (Nat.zero_le _) (by omega)
 ·intro h i _ hi; exact h i (by omega)
theorem loop_any {X Z : Type} {B : (X → Option Z) → X → Option Z} (s : Nat → X) (P : Nat → Bool) (zx z : Z) (n : Nat)
  (hs : ∀ k, k < n → P k = false → ∀ go, B go (s k) = go (s (k + 1))) (hx : ∀ k, k < n → P k = true → ∀ go, B go (s k) = some zx) (he : ∀ go, B go (s n) = some z) (hn : n < 18446744073709551616) :
  loopF B fuelN (s 0) = some (bif anyB n P then zx else z) := by
 rw [loop_find s P (fun _ => zx) z n hs hx he hn]
 unfold anyB
 cases firstB P 0 n <;> rfl
theorem loop_rel_aux {X Z : Type} {B : (X → Option Z) → X → Option Z} (R : Nat → X → Prop) (Q : Z → Prop) (n : Nat)
  (hs : ∀ k, k < n → ∀ x, R k x → ∃ y, (∀ go, B go x = go y) ∧ R (k + 1) y) (he : ∀ x, R n x → ∃ z, (∀ go, B go x = some z) ∧ Q z) :
  ∀ m k x, k ≤ n → n < m + k → R k x → ∃ z, loopF B m x = some z ∧ Q z
 | 0, k, x, h1, h2, _ => absurd h1 (by omega)
 | m + 1, k, x, h1, h2, hr => by
  rw [loopF_succ]
  by_cases h : k < n
  ·obtain ⟨y, e, hy⟩ := hs k h x hr
   rw [e]; exact loop_rel_aux R Q n hs he m (k + 1) y h (by omega) hy
  ·rw [show k = n by omega] at hr
   obtain ⟨z, e, hz⟩ := he x hr
   exact ⟨z, e _, hz⟩
theorem loop_rel {X Z : Type} {B : (X → Option Z) → X → Option Z} (R : Nat → X → Prop) (Q : Z → Prop) (n : Nat) (x : X) (h0 : R 0 x)
  (hs : ∀ k, k < n → ∀ x, R k x → ∃ y, (∀ go, B go x = go y) ∧ R (k + 1) y) (he : ∀ x, R n x → ∃ z, (∀ go, B go x = some z) ∧ Q z) (hn : n < 18446744073709551616) :
  ∃ z, loopF B fuelN x = some z ∧ Q z := loop_rel_aux R Q n hs he fuelN 0 x (Nat.zero_le _) (by show n < 18446744073709551616 + 0; omega) h0
end Go.AM
namespace Go.Proofs.PlB
open Go.AM
theorem clone_v (d : List Int) (h : d.length ≤ 17592186044416) : f79 d = some d := by
 unfold f79 nilF
 cases d with
 | nil => rfl
 | cons x r =>
  simp only
  rw [guardF_pos (by simp at h ⊢; omega)]
  rfl
theorem copy_t (t : List Int × List Int) (h1 : t.1.length ≤ 17592186044416) (h2 : t.2.length ≤ 17592186044416) : f35 t = some t := by
 unfold f35
 simp only [clone_d _ h1, clone_v _ h2, bindF_some]
end Go.Proofs.PlB
namespace Go.Proofs.PlS
open Go.AM Go.Proofs.PlB Go.Proofs.PlW Go.Proofs.PlT
def tabL {α : Type} (n : Nat) (g : Nat → α) : List α := (List.range n).map g
theorem tab_len {α : Type} (n : Nat) (g : Nat → α) : (tabL n g).length = n := by simp [tabL]
theorem tab_get {α : Type} (n : Nat) (g : Nat → α) (i : Nat) (h : i < (tabL n g).length) : (tabL n g)[i] = g i := by simp [tabL]
theorem tab_ext {α : Type} (n : Nat) (g f : Nat → α) (h : ∀ i, i < n → g i = f i) : tabL n g = tabL n f := by
 unfold tabL; exact List.map_congr_left (fun i hi => h i (List.mem_range.1 hi))
theorem tab_set {α : Type} (n : Nat) (g : Nat → α) (j : Nat) (v : α) : (tabL n g).set j v = tabL n (fun i => if i = j then v else g i) := by
 apply List.ext_getElem
 ·simp [tabL]
 ·intro i h1 h2
  rw [List.getElem_set, tab_get _ _ _ h2]
  by_cases h : j = i
  ·rw [if_pos h, if_pos h.symm]
  ·rw [if_neg h, if_neg (Ne.symm h), tab_get]
theorem tab_rep {α : Type} (n : Nat) (v : α) : List.replicate n v = tabL n (fun _ => v) := by
 apply List.ext_getElem
 ·simp [tabL]
 ·intro i h1 h2; simp [tabL]
theorem rd_tab {α : Type} (z : α) (n : Nat) (g : Nat → α) (i : Nat) (h : i < n) : rd z (tabL n g) (i : Int) = g i := by
 rw [rd_nat _ _ _ (by rw [tab_len]; exact h), tab_get]
def prodL : List Int → Int
 | [] => 1
 | x :: r => x * prodL r
theorem pgo_prod : ∀ (d : List Int) (n : Int), 1 ≤ n → 0 < pgo n d → pgo n d = n * prodL d ∧ ∀ x ∈ d, 1 ≤ x ∧ x ≤ 4096
 | [], n, h, hp => ⟨by simp [pgo, prodL], fun x hx => by simp at hx⟩
 | x :: r, n, h, hp => by
  simp only [pgo] at hp ⊢
  by_cases hb : x < 1 ∨ x > 4096 ∨ n * x > 4096
  ·rw [if_pos hb] at hp; exact absurd hp (by decide)
  ·rw [if_neg hb] at hp ⊢
   have h1 : 1 * 1 ≤ n * x := Int.mul_le_mul h (by omega) (by omega) (by omega)
   obtain ⟨e, m⟩ := pgo_prod r (n * x) (by omega) hp
   refine ⟨by rw [e, prodL, Int.mul_assoc], fun y hy => ?_⟩
   rcases List.mem_cons.1 hy with rfl | hy
   ·omega
   ·exact m y hy
theorem prd_prod {d : List Int} (h : 0 < prd d) : prd d = prodL d ∧ (∀ x ∈ d, 1 ≤ x ∧ x ≤ 4096) ∧ d.length ≤ 4 := by
 have hl := prd_len h
 have e : prd d = pgo 1 d := by unfold prd; rw [if_neg (by omega)]
 rw [e] at h ⊢
 obtain ⟨a, b⟩ := pgo_prod d 1 (by omega) h
 exact ⟨by rw [a, Int.one_mul], b, hl⟩
theorem getD_at (d : List Int) (i : Nat) (h : i < d.length) : d.getD i 0 = d[i] := by simp [List.getD, h]
def side (d : List Int) (k : Nat) : Int := if k < d.length then d.getD (d.length - 1 - k) 0 else 1
theorem side_rd (d : List Int) (k : Nat) (h : k < d.length) : rd (0 : Int) d ((d.length - 1 - k : Nat) : Int) = side d k := by
 unfold side
 rw [if_pos h, rd_nat _ _ _ (by omega), getD_at _ _ (by omega)]
theorem side_pos {d : List Int} (h : 0 < prd d) (k : Nat) : 1 ≤ side d k ∧ side d k ≤ 4096 := by
 obtain ⟨_, b, _⟩ := prd_prod h
 unfold side
 split
 ·rw [getD_at _ _ (by omega)]
  exact b _ (List.getElem_mem _)
 ·omega
def strd (d : List Int) (k : Nat) : Int := prodL (d.drop (d.length - k))
theorem strd_zero (d : List Int) : strd d 0 = 1 := by unfold strd; simp [prodL]
theorem strd_all (d : List Int) : strd d d.length = prodL d := by unfold strd; simp
theorem strd_succ (d : List Int) (k : Nat) (h : k < d.length) : strd d (k + 1) = side d k * strd d k := by
 unfold strd side
 rw [if_pos h, getD_at _ _ (by omega)]
 rw [List.drop_eq_getElem_cons (show d.length - (k + 1) < d.length by omega), prodL, show d.length - (k + 1) + 1 = d.length - k by omega]
 congr 2
 omega
theorem strd_pos {d : List Int} (h : 0 < prd d) : ∀ k, k ≤ d.length → 1 ≤ strd d k
 | 0, _ => by rw [strd_zero]; omega
 | k + 1, hk => by
  rw [strd_succ d k hk]
  have := strd_pos h k (by omega)
  have hs := (side_pos h k).1
  have : 1 * 1 ≤ side d k * strd d k := Int.mul_le_mul hs this (by omega) (by omega)
  omega
theorem strd_mono {d : List Int} (h : 0 < prd d) : ∀ n k, k + n = d.length → strd d k ≤ prodL d
 | 0, k, hk => by rw [show k = d.length by omega, strd_all]; omega
 | n + 1, k, hk => by
  have := strd_mono h n (k + 1) (by omega)
  rw [strd_succ d k (by omega)] at this
  have hs := (side_pos h k).1
  have hp := strd_pos h k (by omega)
  have : 1 * strd d k ≤ side d k * strd d k := Int.mul_le_mul_of_nonneg_right hs (by omega)
  omega
theorem strd_le {d : List Int} (h : 0 < prd d) (k : Nat) (hk : k ≤ d.length) : strd d k ≤ prd d := by
 rw [(prd_prod h).1]; exact strd_mono h (d.length - k) k (by omega)
def strL (d : List Int) : List Int := tabL d.length (fun i => strd d (d.length - 1 - i))
theorem strides (d : List Int) (h : 0 < prd d) : f136 d = some (strL d) := by
 obtain ⟨_, _, hl⟩ := prd_prod h
 have hr := prd_range d
 unfold f136
 rw [shapeGood_ok, show decide (prd d > 0) = true by simpa using h]
 simp only [bindF_some, Bool.not_true, cond_false]
 rw [guardF_pos (by omega)]
 have H : ∀ x : Int × Int × List Int, (∃ k : Nat, k ≤ d.length ∧ x = (strd d k, (d.length : Int) - 1 - k, tabL d.length (fun i => if d.length - 1 - i < k then strd d (d.length - 1 - i) else 0))) →
   (∃ z, (∀ go, f136_l1 d go x.1 x.2.1 x.2.2 = some z) ∧ z = strL d) ∨
   (∃ y : Int × Int × List Int, (∀ go, f136_l1 d go x.1 x.2.1 x.2.2 = go y) ∧ (∃ k : Nat, k ≤ d.length ∧ y = (strd d k, (d.length : Int) - 1 - k, tabL d.length (fun i => if d.length - 1 - i < k then strd d (d.length - 1 - i) else 0))) ∧ (y.2.1 + 1).toNat < (x.2.1 + 1).toNat) := by
  rintro _ ⟨k, hk, rfl⟩
  by_cases hlt : k < d.length
  ·right
   refine ⟨(strd d (k + 1), (d.length : Int) - 1 - ((k + 1 : Nat) : Int), tabL d.length (fun i => if d.length - 1 - i < k + 1 then strd d (d.length - 1 - i) else 0)), fun go => ?_, ⟨k + 1, hlt, rfl⟩, by simp only; omega⟩
   unfold f136_l1
   simp only [tab_len]
   rw [show decide ((d.length : Int) - 1 - (k : Int) ≥ 0) = true by simp; omega]
   simp only [cond_true]
   rw [guardF_pos (by omega), guardF_pos (by omega)]
   rw [show (d.length : Int) - 1 - (k : Int) = ((d.length - 1 - k : Nat) : Int) by omega, side_rd d k hlt, Int.toNat_natCast, tab_set]
   have hs := strd_succ d k hlt
   have hb1 := strd_pos h (k + 1) hlt
   have hb2 := strd_le h (k + 1) hlt
   rw [Int.mul_comm, ← hs, wrap_i64 (n := strd d (k + 1)) (by omega) (by omega), wrap_i64 (by omega) (by omega)]
   congr 1
   refine Prod.ext rfl (Prod.ext (by simp only; omega) (tab_ext _ _ _ (fun i hi => ?_)))
   by_cases he : i = d.length - 1 - k
   ·rw [if_pos he, if_pos (by omega), show d.length - 1 - i = k by omega]
   ·rw [if_neg he]
    by_cases h2 : d.length - 1 - i < k
    ·rw [if_pos h2, if_pos (by omega)]
    ·rw [if_neg h2, if_neg (by omega)]
  ·left
   have : k = d.length := by omega
   subst this
   refine ⟨_, fun go => ?_, rfl⟩
   unfold f136_l1
   simp only
   rw [show decide ((d.length : Int) - 1 - (d.length : Int) ≥ 0) = false by simp; omega]
   simp only [cond_false, Option.some.injEq]
   exact tab_ext _ _ _ (fun i hi => by rw [if_pos (by omega)])
 have e0 : ((1 : Int), IntKind.i64.wrap ((d.length : Int) - 1), List.replicate (Int.toNat (d.length : Int)) (0 : Int)) = (strd d 0, (d.length : Int) - 1 - ((0 : Nat) : Int), tabL d.length (fun i => if d.length - 1 - i < 0 then strd d (d.length - 1 - i) else 0)) := by
  rw [strd_zero, wrap_i64 (by omega) (by omega), Int.toNat_natCast, tab_rep]
  refine Prod.ext rfl (Prod.ext (by simp) (tab_ext _ _ _ (fun i hi => by rw [if_neg (by omega)])))
 rw [e0]
 obtain ⟨z, e, rfl⟩ := loop_fuel (B := fun go (x : Int × Int × List Int) => f136_l1 d go x.1 x.2.1 x.2.2) _ (fun x => (x.2.1 + 1).toNat) _ H _ ⟨0, Nat.zero_le _, rfl⟩ (by simp only; omega)
 rw [e]
 rfl
theorem side_ok (d : List Int) (k : Nat) (hl : d.length ≤ 4096) (hk : k ≤ 4096) : f173 d (k : Int) = some (side d k) := by
 unfold f173
 by_cases h : k < d.length
 ·rw [show decide ((k : Int) ≥ (d.length : Int)) = false by simp; omega]
  simp only [cond_false]
  rw [wrap_i64 (n := (d.length : Int) - 1) (by omega) (by omega), wrap_i64 (by omega) (by omega), guardF_pos (by omega), show (d.length : Int) - 1 - (k : Int) = ((d.length - 1 - k : Nat) : Int) by omega, side_rd d k h]
 ·rw [show decide ((k : Int) ≥ (d.length : Int)) = true by simp; omega]
  simp only [cond_true]
  unfold side
  rw [if_neg h]
structure Joined (a b d : List Int) : Prop where
 pa : 0 < prd a
 pb : 0 < prd b
 pd : 0 < prd d
 len : d.length = max a.length b.length
 le : ∀ k, k < d.length → side d k = max (side a k) (side b k)
 ok : ∀ k, k < d.length → side a k = side b k ∨ side a k = 1 ∨ side b k = 1
end Go.Proofs.PlS
namespace Go.Proofs.PlS
open Go.AM Go.Proofs.PlB Go.Proofs.PlW Go.Proofs.PlT
def rst (big : List Int) (v : Int) : Nat → Int
 | 0 => v
 | k + 1 => rst big v k / side big k
def accS (d big : List Int) (v : Int) : Nat → Int
 | 0 => 0
 | k + 1 => accS d big v k + (if side d k > 1 then rst big v k % side big k * strd d k else 0)
def spX (d big : List Int) (v : Nat) : Int := accS d big v d.length
structure Fits (d big : List Int) : Prop where
 pd : 0 < prd d
 pb : 0 < prd big
 len : d.length ≤ big.length
 eq : ∀ k, k < d.length → 1 < side d k → side big k = side d k
theorem rst_range {big : List Int} (h : 0 < prd big) (v : Int) (v0 : 0 ≤ v) (v1 : v ≤ 4096) : ∀ k, 0 ≤ rst big v k ∧ rst big v k ≤ 4096
 | 0 => ⟨v0, v1⟩
 | k + 1 => by
  obtain ⟨a, b⟩ := rst_range h v v0 v1 k
  have hs := (side_pos h k).1
  simp only [rst]
  exact ⟨Int.ediv_nonneg a (by omega), Int.le_trans (Int.ediv_le_self _ a) b⟩
theorem acc_range {d big : List Int} (h : Fits d big) (v : Int) (v0 : 0 ≤ v) (v1 : v ≤ 4096) : ∀ k, k ≤ d.length → 0 ≤ accS d big v k ∧ accS d big v k < strd d k
 | 0, _ => by simp only [accS, strd_zero]; omega
 | k + 1, hk => by
  obtain ⟨a, b⟩ := acc_range h v v0 v1 k (by omega)
  have hp := strd_pos h.pd k (by omega)
  have hs := (side_pos h.pd k).1
  rw [strd_succ d k hk]
  simp only [accS]
  by_cases h1 : side d k > 1
  ·rw [if_pos h1, h.eq k hk h1]
   have m0 := Int.emod_nonneg (rst big v k) (show side d k ≠ 0 by omega)
   have m1 := Int.emod_lt_of_pos (rst big v k) (show 0 < side d k by omega)
   have p0 : 0 ≤ rst big v k % side d k * strd d k := Int.mul_nonneg m0 (by omega)
   have p1 : rst big v k % side d k * strd d k ≤ (side d k - 1) * strd d k := Int.mul_le_mul_of_nonneg_right (by omega) (by omega)
   rw [Int.sub_mul, Int.one_mul] at p1
   omega
  ·rw [if_neg h1, show side d k = 1 by omega]
   omega
theorem spX_range {d big : List Int} (h : Fits d big) (v : Nat) (hv : v ≤ 4096) : 0 ≤ spX d big v ∧ spX d big v < prd d := by
 have := acc_range h (v : Int) (by omega) (by omega) d.length (Nat.le_refl _)
 rw [strd_all, ← (prd_prod h.pd).1] at this
 exact this
theorem inner {d big : List Int} (h : Fits d big) (l : List Int) (v : Nat) (hv : v < l.length) (hv2 : v ≤ 4096) (h0 : l.set v 0 = l) :
  loopF (fun go (x : Int × Int × List Int) => f143_l12 d big (strL d) v go x.1 x.2.1 x.2.2) fuelN ((v : Int), IntKind.i64.wrap ((big.length : Int) - 1), l) = some (l.set v (spX d big v)) := by
 have hd4 := (prd_prod h.pd).2.2
 have hb4 := (prd_prod h.pb).2.2
 have hle := h.len
 have hr := prd_range d
 have H : ∀ x : Int × Int × List Int, (∃ k : Nat, k ≤ d.length ∧ x = (rst big v k, (big.length : Int) - 1 - k, l.set v (accS d big v k))) →
   (∃ z, (∀ go, f143_l12 d big (strL d) v go x.1 x.2.1 x.2.2 = some z) ∧ z = l.set v (spX d big v)) ∨
   (∃ y : Int × Int × List Int, (∀ go, f143_l12 d big (strL d) v go x.1 x.2.1 x.2.2 = go y) ∧ (∃ k : Nat, k ≤ d.length ∧ y = (rst big v k, (big.length : Int) - 1 - k, l.set v (accS d big v k))) ∧ (y.2.1 + 1).toNat < (x.2.1 + 1).toNat) := by
  rintro _ ⟨k, hk, rfl⟩
  unfold f143_l12
  simp only
  have hw : IntKind.i64.wrap ((big.length : Int) - (d.length : Int)) = (big.length : Int) - (d.length : Int) := wrap_i64 (by omega) (by omega)
  rw [hw]
  by_cases hlt : k < d.length
  ·right
   refine ⟨(rst big v (k + 1), (big.length : Int) - 1 - ((k + 1 : Nat) : Int), l.set v (accS d big v (k + 1))), fun go => ?_, ⟨k + 1, hlt, rfl⟩, by simp only; omega⟩
   rw [show decide ((big.length : Int) - 1 - (k : Int) ≥ (big.length : Int) - (d.length : Int)) = true by simp; omega]
   simp only [cond_true]
   have ib : (big.length : Int) - 1 - (k : Int) = ((big.length - 1 - k : Nat) : Int) := by omega
   have id : IntKind.i64.wrap (((big.length - 1 - k : Nat) : Int) - ((big.length : Int) - (d.length : Int))) = ((d.length - 1 - k : Nat) : Int) := by
    rw [wrap_i64 (by omega) (by omega)]; omega
   obtain ⟨r0, r1⟩ := rst_range h.pb (v : Int) (by omega) (by omega) k
   obtain ⟨a0, a1⟩ := acc_range h (v : Int) (by omega) (by omega) k (by omega)
   obtain ⟨b0, b1⟩ := acc_range h (v : Int) (by omega) (by omega) (k + 1) hlt
   have sl := strd_le h.pd k (by omega)
   have sl1 := strd_le h.pd (k + 1) hlt
   have sb := side_pos h.pb k
   have hj : f143_j13 d big (strL d) v (rst big v k) ((big.length - 1 - k : Nat) : Int) (l.set v (accS d big v k)) = some (l.set v (accS d big v (k + 1))) := by
    unfold f143_j13
    rw [hw, id, guardF_pos (by omega), side_rd d k hlt]
    by_cases h1 : side d k > 1
    ·rw [show decide (side d k > 1) = true by simpa using h1]
     simp only [cond_true, List.length_set]
     rw [side_rd big k (by omega), guardF_pos (by omega), guardF_pos (by omega), guardF_pos (by omega), guardF_pos (by unfold strL; rw [tab_len]; omega), guardF_pos (by omega)]
     rw [Int.toNat_natCast, rd_nat _ _ _ (by simpa using hv), List.getElem_set_self, List.set_set]
     unfold strL
     rw [rd_tab _ _ _ _ (by omega), show d.length - 1 - (d.length - 1 - k) = k by omega, Int.tmod_eq_emod_of_nonneg r0]
     have e : accS d big v (k + 1) = accS d big v k + rst big v k % side big k * strd d k := by simp only [accS]; rw [if_pos h1]
     rw [e] at b0 b1 ⊢
     have m0 := Int.emod_nonneg (rst big v k) (show side big k ≠ 0 by omega)
     have sp := strd_pos h.pd k (by omega)
     have p0 : 0 ≤ rst big v k % side big k * strd d k := Int.mul_nonneg m0 (by omega)
     generalize rst big v k % side big k * strd d k = P at *
     rw [wrap_i64 (n := P) (by omega) (by omega), wrap_i64 (by omega) (by omega)]
    ·rw [show decide (side d k > 1) = false by simpa using h1]
     simp only [cond_false, accS]
     rw [if_neg h1, Int.add_zero]
   rw [ib, hj]
   simp only [bindF_some]
   rw [guardF_pos (by omega), side_rd big k (by omega), guardF_pos (by omega), Int.tdiv_eq_ediv_of_nonneg r0]
   have q0 := Int.ediv_nonneg r0 (show 0 ≤ side big k by omega)
   have q1 := Int.ediv_le_self (side big k) r0
   rw [wrap_i64 (n := rst big v k / side big k) (by omega) (by omega), wrap_i64 (by omega) (by omega)]
   congr 1
   exact Prod.ext rfl (Prod.ext (by simp only; omega) rfl)
  ·left
   have : k = d.length := by omega
   subst this
   refine ⟨_, fun go => ?_, rfl⟩
   rw [show decide ((big.length : Int) - 1 - (d.length : Int) ≥ (big.length : Int) - (d.length : Int)) = false by simp; omega]
   rfl
 have e0 : ((v : Int), IntKind.i64.wrap ((big.length : Int) - 1), l) = (rst big v 0, (big.length : Int) - 1 - ((0 : Nat) : Int), l.set v (accS d big v 0)) := by
  rw [wrap_i64 (by omega) (by omega)]
  refine Prod.ext rfl (Prod.ext (by simp) ?_)
  simp only [accS]
  exact h0.symm
 rw [e0]
 obtain ⟨z, e, rfl⟩ := loop_fuel (B := fun go (x : Int × Int × List Int) => f143_l12 d big (strL d) v go x.1 x.2.1 x.2.2) _ (fun x => (x.2.1 + 1).toNat) _ H _ ⟨0, Nat.zero_le _, rfl⟩ (by simp only; omega)
 exact e
theorem spread_ok {d big : List Int} (h : Fits d big) : f143 d big = some (tabL (prd big).toNat (spX d big)) := by
 have hb := prd_range big
 unfold f143
 rw [strides d h.pd, PlB.size_ok]
 simp only [bindF_some]
 rw [guardF_pos (by omega)]
 obtain ⟨N, hN⟩ : ∃ N : Nat, prd big = (N : Int) := ⟨(prd big).toNat, by omega⟩
 rw [hN, Int.toNat_natCast]
 have H : ∀ x : Int × List Int, (∃ k : Nat, k ≤ N ∧ x = ((k : Int), tabL N (fun i => if i < k then spX d big i else 0))) →
   (∃ z, (∀ go, f143_l9 d big (strL d) (N : Int) go x.1 x.2 = some z) ∧ z = tabL N (spX d big)) ∨
   (∃ y : Int × List Int, (∀ go, f143_l9 d big (strL d) (N : Int) go x.1 x.2 = go y) ∧ (∃ k : Nat, k ≤ N ∧ y = ((k : Int), tabL N (fun i => if i < k then spX d big i else 0))) ∧ ((N : Int) - y.1).toNat < ((N : Int) - x.1).toNat) := by
  rintro _ ⟨k, hk, rfl⟩
  unfold f143_l9
  simp only [Int.toNat_natCast, List.length_replicate]
  by_cases hlt : k < N
  ·right
   refine ⟨(((k + 1 : Nat) : Int), tabL N (fun i => if i < k + 1 then spX d big i else 0)), fun go => ?_, ⟨k + 1, hlt, rfl⟩, by simp only; omega⟩
   rw [show decide ((k : Int) < (N : Int)) = true by simpa using hlt]
   simp only [cond_true]
   rw [inner h _ k (by rw [tab_len]; exact hlt) (by omega) (by
    rw [tab_set]
    refine tab_ext _ _ _ (fun i hi => ?_)
    by_cases hik : i = k
    ·rw [if_pos hik, if_neg (by omega)]
    ·rw [if_neg hik])]
   simp only [bindF_some]
   rw [wrap_i64 (by omega) (by omega), tab_set]
   congr 1
   refine Prod.ext rfl (tab_ext _ _ _ (fun i hi => ?_))
   by_cases hik : i = k
   ·rw [if_pos hik, if_pos (by omega), hik]
   ·rw [if_neg hik]
    by_cases h2 : i < k
    ·rw [if_pos h2, if_pos (by omega)]
    ·rw [if_neg h2, if_neg (by omega)]
  ·left
   have : k = N := by omega
   subst this
   refine ⟨_, fun go => ?_, rfl⟩
   rw [show decide ((k : Int) < (k : Int)) = false by simp]
   simp only [cond_false, Option.some.injEq]
   exact tab_ext _ _ _ (fun i hi => by rw [if_pos hi])
 have e0 : ((0 : Int), List.replicate N (0 : Int)) = (((0 : Nat) : Int), tabL N (fun i => if i < 0 then spX d big i else 0)) := by
  rw [tab_rep]
  exact Prod.ext rfl (tab_ext _ _ _ (fun i hi => by rw [if_neg (by omega)]))
 rw [e0]
 obtain ⟨z, e, rfl⟩ := loop_fuel (B := fun go (x : Int × List Int) => f143_l9 d big (strL d) (N : Int) go x.1 x.2) _ (fun x => ((N : Int) - x.1).toNat) _ H _ ⟨0, Nat.zero_le _, rfl⟩ (by simp only; omega)
 rw [e]
 rfl
theorem Joined.fa {a b d : List Int} (h : Joined a b d) : Fits a d := ⟨h.pa, h.pd, by have := h.len; omega, fun k hk h1 => by
 have hl := h.len
 have e := h.le k (by omega)
 have o := h.ok k (by omega)
 have pb := (side_pos h.pb k).1
 omega⟩
theorem Joined.fb {a b d : List Int} (h : Joined a b d) : Fits b d := ⟨h.pb, h.pd, by have := h.len; omega, fun k hk h1 => by
 have hl := h.len
 have e := h.le k (by omega)
 have o := h.ok k (by omega)
 have pa := (side_pos h.pa k).1
 omega⟩
def addV (a b : Int) : Int := sat (a + b)
theorem addF_ok (a b : Int) (a0 : -9223372036854775808 ≤ a) (a1 : a < 9223372036854775808) (b0 : -9223372036854775808 ≤ b) (b1 : b < 9223372036854775808) : f125 a b = some (addV a b) := by
 unfold f125 addV sat
 have hw : IntKind.i64.wrap (a + b) = if a + b ≥ 9223372036854775808 then a + b - 18446744073709551616 else if a + b < -9223372036854775808 then a + b + 18446744073709551616 else a + b := by
  rw [wi]
  split <;> split <;> (try split) <;> omega
 have hj : f125_j1 a b = some (if (a < 0 ↔ b < 0) ∧ ¬ (IntKind.i64.wrap (a + b) < 0 ↔ a < 0) then Sum.inl () else Sum.inr ()) := by
  unfold f125_j1
  by_cases ha : a < 0 <;> by_cases hb : b < 0
  ·rw [show (!(decide (a < 0) == decide (b < 0))) = false by simp [ha, hb]]
   by_cases hc : IntKind.i64.wrap (a + b) < 0
   ·rw [show (decide (IntKind.i64.wrap (a + b) < 0) == decide (a < 0)) = true by simp [ha, hc], if_neg (by simp [ha, hc])]; rfl
   ·rw [show (decide (IntKind.i64.wrap (a + b) < 0) == decide (a < 0)) = false by simp [ha, hc], if_pos (by simp [ha, hb, hc])]; rfl
  ·rw [show (!(decide (a < 0) == decide (b < 0))) = true by simp [ha, hb], if_neg (by simp [ha, hb])]; rfl
  ·rw [show (!(decide (a < 0) == decide (b < 0))) = true by simp [ha, hb], if_neg (by simp [ha, hb])]; rfl
  ·rw [show (!(decide (a < 0) == decide (b < 0))) = false by simp [ha, hb]]
   by_cases hc : IntKind.i64.wrap (a + b) < 0
   ·rw [show (decide (IntKind.i64.wrap (a + b) < 0) == decide (a < 0)) = false by simp [ha, hc], if_pos (by simp [ha, hb, hc])]; rfl
   ·rw [show (decide (IntKind.i64.wrap (a + b) < 0) == decide (a < 0)) = true by simp [ha, hc], if_neg (by simp [ha, hc])]; rfl
 rw [hj]
 simp only [bindF_some]
 by_cases hc : (a < 0 ↔ b < 0) ∧ ¬ (IntKind.i64.wrap (a + b) < 0 ↔ a < 0)
 ·rw [if_pos hc]
  simp only [sumF_inl]
  rw [hw] at hc
  by_cases ha : a < 0
  ·rw [show decide (a < 0) = true by simpa using ha]
   simp only [cond_true, Option.some.injEq]
   split at hc <;> (try split at hc) <;> omega
  ·rw [show decide (a < 0) = false by simpa using ha]
   simp only [cond_false, Option.some.injEq]
   split at hc <;> (try split at hc) <;> omega
 ·rw [if_neg hc]
  simp only [sumF_inr, Option.some.injEq]
  rw [hw] at hc ⊢
  split at hc <;> (try split at hc) <;> omega
theorem inI_get {l : List Int} (h : inI l) (i : Nat) (hi : i < l.length) : -9223372036854775808 ≤ rd (0 : Int) l (i : Int) ∧ rd (0 : Int) l (i : Int) < 9223372036854775808 := by
 rw [rd_nat _ _ _ hi]
 exact h _ (List.getElem_mem hi)
end Go.Proofs.PlS
namespace Go.Proofs.PlS
open Go.AM Go.Proofs.PlB Go.Proofs.PlW Go.Proofs.PlT
theorem rhe_minus (S : Int) : rhe (-S) = -rhe S := by
 unfold rhe
 split <;> split <;> omega
def mulX (a b : Int) : Int := sat (rhe (a * b))
theorem sizeF_ok (v : Int) (h0 : -9223372036854775808 ≤ v) (h1 : v < 9223372036854775808) : f165 v = some (if v < 0 then -v else v) := by
 unfold f165
 by_cases h : v < 0
 ·rw [show decide (v < 0) = true by simpa using h, if_pos h]
  simp only [cond_true, wu, Option.some.injEq]
  omega
 ·rw [show decide (v < 0) = false by simpa using h, if_neg h]
  simp only [cond_false, wu, Option.some.injEq]
  omega
theorem held_ok (R : Int) (s : Bool) (h0 : 0 ≤ R) (h1 : R ≤ 85070591730234615865843651857942052864) : f166 (R / 18446744073709551616) (R % 18446744073709551616) s = some (sat (if s then -R else R)) := by
 unfold f166 f166_j1
 cases s
 ·simp only [cond_false, bindF_some, Bool.false_eq_true, if_false]
  unfold sat
  by_cases h2 : R / 18446744073709551616 > 0
  ·rw [show decide (R / 18446744073709551616 > 0) = true by simpa using h2, if_pos (by omega)]; rfl
  ·rw [show decide (R / 18446744073709551616 > 0) = false by simpa using h2]
   by_cases h3 : R % 18446744073709551616 ≥ 9223372036854775808
   ·rw [show decide (R % 18446744073709551616 ≥ 9223372036854775808) = true by simpa using h3, if_pos (by omega)]; rfl
   ·rw [show decide (R % 18446744073709551616 ≥ 9223372036854775808) = false by simpa using h3, if_neg (by omega), if_neg (by omega)]
    simp only [cond_false, Option.some.injEq]
    rw [wrap_i64 (by omega) (by omega)]
    omega
 ·simp only [cond_true, if_true]
  unfold sat
  by_cases h2 : R / 18446744073709551616 > 0
  ·rw [show decide (R / 18446744073709551616 > 0) = true by simpa using h2, if_neg (by omega), if_pos (by omega)]; rfl
  ·rw [show decide (R / 18446744073709551616 > 0) = false by simpa using h2]
   by_cases h3 : R % 18446744073709551616 ≥ 9223372036854775808
   ·rw [show decide (R % 18446744073709551616 ≥ 9223372036854775808) = true by simpa using h3, if_neg (by omega)]
    simp only [cond_false, bindF_some, cond_true, Option.some.injEq]
    split <;> omega
   ·rw [show decide (R % 18446744073709551616 ≥ 9223372036854775808) = false by simpa using h3, if_neg (by omega), if_neg (by omega)]
    simp only [cond_false, bindF_some, Option.some.injEq]
    rw [wrap_i64 (n := R % 18446744073709551616) (by omega) (by omega), wrap_i64 (by omega) (by omega)]
    omega
theorem roundF_ok (P : Int) (h0 : 0 ≤ P) (h1 : P ≤ 85070591730234615865843651857942052864) :
  ∃ x y : Int, f127_j2 (P / 18446744073709551616, P % 18446744073709551616) = some (x, y) ∧ y = rhe P / 18446744073709551616 ∧ x = rhe P % 18446744073709551616 := by
 have hor : bitsOf IntKind.u64 (fun p q => p ||| q) (IntKind.u64.wrap (P / 18446744073709551616 * 2 ^ min (Int.toNat (32 : Int)) (IntKind.bits IntKind.u64))) (P % 18446744073709551616 / 4294967296) = P / 4294967296 % 18446744073709551616 := by
  rw [show ((2 : Int) ^ min (Int.toNat (32 : Int)) (IntKind.bits IntKind.u64)) = 4294967296 from rfl, wu, show P / 18446744073709551616 * 4294967296 % 18446744073709551616 = P / 18446744073709551616 % 4294967296 * 4294967296 by omega, or32 _ _ (by omega) (by omega) (by omega) (by omega)]
  omega
 have hand : bitsOf IntKind.u64 (fun p q => p &&& q) (P % 18446744073709551616) 4294967295 = P % 4294967296 := by rw [and32 _ (by omega) (by omega)]; omega
 have hodd : bitsOf IntKind.u64 (fun p q => p &&& q) (P / 4294967296 % 18446744073709551616) 1 = P / 4294967296 % 2 := by rw [and1 _ (by omega) (by omega)]; omega
 have hj3 : f127_j3 (P / 18446744073709551616, P % 18446744073709551616) = some (decide (P % 4294967296 > 2147483648 ∨ (P % 4294967296 = 2147483648 ∧ P / 4294967296 % 2 = 1))) := by
  unfold f127_j3
  simp only
  rw [hand, sh32u, hor, hodd]
  by_cases c1 : P % 4294967296 > 2147483648
  ·rw [show decide (P % 4294967296 > 2147483648) = true by simpa using c1]
   simp only [cond_true, Option.some.injEq]
   symm; rw [decide_eq_true_iff]; exact .inl c1
  ·rw [show decide (P % 4294967296 > 2147483648) = false by simpa using c1]
   simp only [cond_false]
   by_cases c2 : P % 4294967296 = 2147483648
   ·rw [show (P % 4294967296 == 2147483648) = true by simpa using c2]
    simp only [cond_true, Option.some.injEq]
    rw [Bool.eq_iff_iff, beq_iff_eq, decide_eq_true_iff]
    omega
   ·rw [show (P % 4294967296 == 2147483648) = false by simpa using c2]
    simp only [cond_false, Option.some.injEq]
    symm; rw [decide_eq_false_iff_not]; omega
 unfold f127_j2
 rw [hj3]
 simp only [bindF_some]
 rw [sh32u, sh32u, hor]
 by_cases c : P % 4294967296 > 2147483648 ∨ (P % 4294967296 = 2147483648 ∧ P / 4294967296 % 2 = 1)
 ·have hr : rhe P = P / 4294967296 + 1 := by unfold rhe; rw [if_pos c]
  rw [show decide (P % 4294967296 > 2147483648 ∨ (P % 4294967296 = 2147483648 ∧ P / 4294967296 % 2 = 1)) = true by rw [decide_eq_true_iff]; exact c]
  simp only [cond_true]
  rw [add_ok _ _ _ (by omega) (by omega) (by omega) (by omega)]
  simp only [bindF_some, wu]
  refine ⟨_, _, rfl, ?_, ?_⟩
  ·rw [hr]; omega
  ·rw [hr]; omega
 ·have hr : rhe P = P / 4294967296 := by unfold rhe; rw [if_neg c]
  rw [show decide (P % 4294967296 > 2147483648 ∨ (P % 4294967296 = 2147483648 ∧ P / 4294967296 % 2 = 1)) = false by rw [decide_eq_false_iff_not]; exact c]
  simp only [cond_false]
  refine ⟨_, _, rfl, ?_, ?_⟩
  ·rw [hr]; omega
  ·rw [hr]
theorem mulF_ok (a b : Int) (a0 : -9223372036854775808 ≤ a) (a1 : a < 9223372036854775808) (b0 : -9223372036854775808 ≤ b) (b1 : b < 9223372036854775808) : f127 a b = some (mulX a b) := by
 have key : ∀ x y : Int, 0 ≤ x → x ≤ 9223372036854775808 → 0 ≤ y → y ≤ 9223372036854775808 → 0 ≤ x * y ∧ x * y ≤ 85070591730234615865843651857942052864 := fun x y h0 h1 g0 g1 => ⟨Int.mul_nonneg h0 g0, Int.mul_le_mul h1 g1 g0 (by decide)⟩
 have fin : ∀ (x y : Int) (s : Bool), 0 ≤ x → x ≤ 9223372036854775808 → 0 ≤ y → y ≤ 9223372036854775808 → (if s then -(x * y) else x * y) = a * b →
   (bindF (f164 x y) fun r3 => bindF (f127_j2 r3) fun z6 => bindF (f166 z6.2 z6.1 s) fun r9 => some r9) = some (mulX a b) := fun x y s x0 x1 y0 y1 hs => by
  obtain ⟨k0, k1⟩ := key x y x0 x1 y0 y1
  rw [mul64_ok _ _ (by omega) (by omega) (by omega) (by omega)]
  simp only [bindF_some]
  obtain ⟨p, q, e, hq, hp⟩ := roundF_ok (x * y) k0 k1
  rw [e]
  simp only [bindF_some]
  have hr : 0 ≤ rhe (x * y) ∧ rhe (x * y) ≤ 85070591730234615865843651857942052864 := by unfold rhe; split <;> omega
  rw [hq, hp, held_ok _ _ hr.1 hr.2]
  simp only [bindF_some, mulX]
  rw [← hs]
  cases s
  ·rfl
  ·simp only [if_true]; rw [rhe_minus]
 unfold f127
 rw [sizeF_ok a a0 a1, sizeF_ok b b0 b1]
 simp only [bindF_some]
 by_cases ha : a < 0 <;> by_cases hb : b < 0
 ·rw [if_pos ha, if_pos hb, show (!(decide (a < 0) == decide (b < 0))) = false by simp [ha, hb]]
  exact fin (-a) (-b) false (by omega) (by omega) (by omega) (by omega) (by rw [Int.neg_mul_neg]; rfl)
 ·rw [if_pos ha, if_neg hb, show (!(decide (a < 0) == decide (b < 0))) = true by simp [ha, hb]]
  exact fin (-a) b true (by omega) (by omega) (by omega) (by omega) (by rw [Int.neg_mul, Int.neg_neg]; rfl)
 ·rw [if_neg ha, if_pos hb, show (!(decide (a < 0) == decide (b < 0))) = true by simp [ha, hb]]
  exact fin a (-b) true (by omega) (by omega) (by omega) (by omega) (by rw [Int.mul_neg, Int.neg_neg]; rfl)
 ·rw [if_neg ha, if_neg hb, show (!(decide (a < 0) == decide (b < 0))) = false by simp [ha, hb]]
  exact fin a b false (by omega) (by omega) (by omega) (by omega) rfl
theorem good_len {t : List Int × List Int} (h : tgood t = true) : 0 < prd t.1 ∧ (t.2.length : Int) = prd t.1 ∧ t.1.length ≤ 4 ∧ t.2.length ≤ 4096 := by
 unfold tgood at h
 simp at h
 have := prd_range t.1
 exact ⟨h.1, h.2, prd_len h.1, by omega⟩
theorem scale_ok (a : List Int × List Int) (k : Int) (ia : inI a.2) (k0 : -9223372036854775808 ≤ k) (k1 : k < 9223372036854775808) :
  f86 a k = some (if tgood a = true then (0, a.1, tabL a.2.length (fun i => mulX (rd (0 : Int) a.2 i) k)) else (1, [], [])) := by
 unfold f86
 rw [show (a.1, a.2) = a from rfl, good_ok]
 simp only [bindF_some]
 by_cases hg : tgood a = true
 ·obtain ⟨_, _, l1, l2⟩ := good_len hg
  rw [hg, if_pos rfl]
  simp only [Bool.not_true, cond_false]
  rw [copy_t a (by omega) (by omega)]
  simp only [bindF_some]
  have H : ∀ x : Int × List Int, (∃ j : Nat, j ≤ a.2.length ∧ x = ((j : Int), tabL a.2.length (fun i => if i < j then mulX (rd (0 : Int) a.2 i) k else rd (0 : Int) a.2 i))) →
    (∃ z, (∀ go, f86_l1 k a go x.1 x.2 = some z) ∧ z = tabL a.2.length (fun i => mulX (rd (0 : Int) a.2 i) k)) ∨
    (∃ y : Int × List Int, (∀ go, f86_l1 k a go x.1 x.2 = go y) ∧ (∃ j : Nat, j ≤ a.2.length ∧ y = ((j : Int), tabL a.2.length (fun i => if i < j then mulX (rd (0 : Int) a.2 i) k else rd (0 : Int) a.2 i))) ∧ ((a.2.length : Int) - y.1).toNat < ((a.2.length : Int) - x.1).toNat) := by
   rintro _ ⟨j, hj, rfl⟩
   unfold f86_l1
   simp only [tab_len]
   by_cases hlt : j < a.2.length
   ·right
    refine ⟨(((j + 1 : Nat) : Int), tabL a.2.length (fun i => if i < j + 1 then mulX (rd (0 : Int) a.2 i) k else rd (0 : Int) a.2 i)), fun go => ?_, ⟨j + 1, hlt, rfl⟩, by simp only; omega⟩
    rw [show decide ((j : Int) < (a.2.length : Int)) = true by simpa using hlt]
    simp only [cond_true]
    have q := inI_get ia j hlt
    rw [guardF_pos (by omega), rd_tab _ _ _ _ hlt, if_neg (Nat.lt_irrefl j), mulF_ok _ _ q.1 q.2 k0 k1]
    simp only [bindF_some]
    rw [guardF_pos (by omega), wrap_i64 (by omega) (by omega), Int.toNat_natCast, tab_set]
    congr 1
    refine Prod.ext rfl (tab_ext _ _ _ (fun i hi => ?_))
    by_cases hik : i = j
    ·rw [if_pos hik, if_pos (by omega), hik]
    ·rw [if_neg hik]
     by_cases h2 : i < j
     ·rw [if_pos h2, if_pos (by omega)]
     ·rw [if_neg h2, if_neg (by omega)]
   ·left
    have : j = a.2.length := by omega
    subst this
    refine ⟨_, fun go => ?_, rfl⟩
    rw [show decide ((a.2.length : Int) < (a.2.length : Int)) = false by simp]
    simp only [cond_false, Option.some.injEq]
    exact tab_ext _ _ _ (fun i hi => by rw [if_pos hi])
  have e0 : ((0 : Int), a.2) = (((0 : Nat) : Int), tabL a.2.length (fun i => if i < 0 then mulX (rd (0 : Int) a.2 i) k else rd (0 : Int) a.2 i)) := by
   refine Prod.ext rfl ?_
   apply List.ext_getElem
   ·rw [tab_len]
   ·intro i h1 h2
    rw [tab_get, if_neg (by omega), rd_nat _ _ _ h1]
  rw [e0]
  obtain ⟨z, e, rfl⟩ := loop_fuel (B := fun go (x : Int × List Int) => f86_l1 k a go x.1 x.2) _ (fun x => ((a.2.length : Int) - x.1).toNat) _ H _ ⟨0, Nat.zero_le _, rfl⟩ (by simp only; omega)
  rw [e]
  rfl
 ·have hf : tgood a = false := by simpa using hg
  rw [hf]
  rfl
end Go.Proofs.PlS
namespace Go.Proofs.PlS
open Go.AM Go.Proofs.PlB Go.Proofs.PlW Go.Proofs.PlT
def subV (a b : Int) : Int := sat (a - b)
theorem subF_ok (a b : Int) (a0 : -9223372036854775808 ≤ a) (a1 : a < 9223372036854775808) (b0 : -9223372036854775808 ≤ b) (b1 : b < 9223372036854775808) : f126 a b = some (subV a b) := by
 unfold f126 subV sat
 have hw : IntKind.i64.wrap (a - b) = if a - b ≥ 9223372036854775808 then a - b - 18446744073709551616 else if a - b < -9223372036854775808 then a - b + 18446744073709551616 else a - b := by
  rw [wi]
  split <;> split <;> (try split) <;> omega
 have hj : f126_j1 a b = some (if ¬ (a < 0 ↔ b < 0) ∧ ¬ (IntKind.i64.wrap (a - b) < 0 ↔ a < 0) then Sum.inl () else Sum.inr ()) := by
  unfold f126_j1
  by_cases ha : a < 0 <;> by_cases hb : b < 0 <;> by_cases hc : IntKind.i64.wrap (a - b) < 0 <;> simp [ha, hb, hc]
 rw [hj]
 simp only [bindF_some]
 by_cases hc : ¬ (a < 0 ↔ b < 0) ∧ ¬ (IntKind.i64.wrap (a - b) < 0 ↔ a < 0)
 ·rw [if_pos hc]
  simp only [sumF_inl]
  rw [hw] at hc
  by_cases ha : a < 0
  ·rw [show decide (a < 0) = true by simpa using ha]
   simp only [cond_true, Option.some.injEq]
   split at hc <;> (try split at hc) <;> omega
  ·rw [show decide (a < 0) = false by simpa using ha]
   simp only [cond_false, Option.some.injEq]
   split at hc <;> (try split at hc) <;> omega
 ·rw [if_neg hc]
  simp only [sumF_inr, Option.some.injEq]
  rw [hw] at hc ⊢
  split at hc <;> (try split at hc) <;> omega
theorem add_of (a b : List Int × List Int) (d : List Int) (ia : inI a.2) (ib : inI b.2) (hga : tgood a = true) (hgb : tgood b = true) (hj : f142 a.1 b.1 = some (0, d)) (hd : Joined a.1 b.1 d) :
  f81 a b = some (0, d, tabL (prd d).toNat (fun i => addV (rd (0 : Int) a.2 (spX a.1 d i)) (rd (0 : Int) b.2 (spX b.1 d i)))) := by
 have hg : tgood a = true ∧ tgood b = true := ⟨hga, hgb⟩
 unfold f81
 have hj2 : f124_125_j2 (a.1, a.2) (b.1, b.2) = some (Sum.inl ()) := by
  unfold f124_125_j2 f124_125_j3
  rw [show (a.1, a.2) = a from rfl, show (b.1, b.2) = b from rfl, good_ok, good_ok, hga, hgb]
  rfl
 unfold f124_125
 rw [hj2]
 simp only [bindF_some, sumF_inl]
 rw [hj]
 simp only [bindF_some]
 rw [show ((0 : Int) != 0) = false from rfl]
 simp only [cond_false]
 rw [new_ok, if_pos hd.pd, spread_ok hd.fa, spread_ok hd.fb]
 simp only [bindF_some]
 have hr := prd_range d
 obtain ⟨N, hN⟩ : ∃ N : Nat, prd d = (N : Int) := ⟨(prd d).toNat, by omega⟩
 rw [hN, Int.toNat_natCast]
 have ga : (a.2.length : Int) = prd a.1 := by have := hg.1; unfold tgood at this; simp at this; exact this.2
 have gb : (b.2.length : Int) = prd b.1 := by have := hg.2; unfold tgood at this; simp at this; exact this.2
 have H : ∀ x : Int × List Int, (∃ k : Nat, k ≤ N ∧ x = ((k : Int), tabL N (fun i => if i < k then addV (rd (0 : Int) a.2 (spX a.1 d i)) (rd (0 : Int) b.2 (spX b.1 d i)) else 0))) →
   (∃ z, (∀ go, f124_125_l4 (a.1, a.2) (b.1, b.2) (0, d, List.replicate N 0) (tabL N (spX a.1 d)) (tabL N (spX b.1 d)) go x.1 x.2 = some z) ∧ z = tabL N (fun i => addV (rd (0 : Int) a.2 (spX a.1 d i)) (rd (0 : Int) b.2 (spX b.1 d i)))) ∨
   (∃ y : Int × List Int, (∀ go, f124_125_l4 (a.1, a.2) (b.1, b.2) (0, d, List.replicate N 0) (tabL N (spX a.1 d)) (tabL N (spX b.1 d)) go x.1 x.2 = go y) ∧ (∃ k : Nat, k ≤ N ∧ y = ((k : Int), tabL N (fun i => if i < k then addV (rd (0 : Int) a.2 (spX a.1 d i)) (rd (0 : Int) b.2 (spX b.1 d i)) else 0))) ∧ ((N : Int) - y.1).toNat < ((N : Int) - x.1).toNat) := by
  rintro _ ⟨k, hk, rfl⟩
  unfold f124_125_l4
  simp only [List.length_replicate, tab_len]
  by_cases hlt : k < N
  ·right
   refine ⟨(((k + 1 : Nat) : Int), tabL N (fun i => if i < k + 1 then addV (rd (0 : Int) a.2 (spX a.1 d i)) (rd (0 : Int) b.2 (spX b.1 d i)) else 0)), fun go => ?_, ⟨k + 1, hlt, rfl⟩, by simp only; omega⟩
   rw [show decide ((k : Int) < (N : Int)) = true by simpa using hlt]
   simp only [cond_true]
   obtain ⟨x0, x1⟩ := spX_range hd.fa k (by omega)
   obtain ⟨y0, y1⟩ := spX_range hd.fb k (by omega)
   rw [rd_tab _ _ _ _ hlt, rd_tab _ _ _ _ hlt, guardF_pos (by omega), guardF_pos (by omega), guardF_pos (by omega), guardF_pos (by omega)]
   obtain ⟨xn, hxn⟩ := Int.eq_ofNat_of_zero_le x0
   obtain ⟨yn, hyn⟩ := Int.eq_ofNat_of_zero_le y0
   have qa := inI_get ia xn (by omega)
   have qb := inI_get ib yn (by omega)
   rw [← hxn] at qa
   rw [← hyn] at qb
   rw [addF_ok _ _ qa.1 qa.2 qb.1 qb.2]
   simp only [bindF_some]
   rw [guardF_pos (by omega), wrap_i64 (by omega) (by omega), Int.toNat_natCast, tab_set]
   congr 1
   refine Prod.ext rfl (tab_ext _ _ _ (fun i hi => ?_))
   by_cases hik : i = k
   ·rw [if_pos hik, if_pos (by omega), hik]
   ·rw [if_neg hik]
    by_cases h2 : i < k
    ·rw [if_pos h2, if_pos (by omega)]
    ·rw [if_neg h2, if_neg (by omega)]
  ·left
   have : k = N := by omega
   subst this
   refine ⟨_, fun go => ?_, rfl⟩
   rw [show decide ((k : Int) < (k : Int)) = false by simp]
   simp only [cond_false, Option.some.injEq]
   exact tab_ext _ _ _ (fun i hi => by rw [if_pos hi])
 have e0 : ((0 : Int), List.replicate N (0 : Int)) = (((0 : Nat) : Int), tabL N (fun i => if i < 0 then addV (rd (0 : Int) a.2 (spX a.1 d i)) (rd (0 : Int) b.2 (spX b.1 d i)) else 0)) := by
  rw [tab_rep]
  exact Prod.ext rfl (tab_ext _ _ _ (fun i hi => by rw [if_neg (by omega)]))
 rw [e0]
 obtain ⟨z, e, rfl⟩ := loop_fuel (B := fun go (x : Int × List Int) => f124_125_l4 (a.1, a.2) (b.1, b.2) (0, d, List.replicate N 0) (tabL N (spX a.1 d)) (tabL N (spX b.1 d)) go x.1 x.2) _ (fun x => ((N : Int) - x.1).toNat) _ H _ ⟨0, Nat.zero_le _, rfl⟩ (by simp only; omega)
 rw [e]
 rfl
theorem sub_of (a b : List Int × List Int) (d : List Int) (ia : inI a.2) (ib : inI b.2) (hga : tgood a = true) (hgb : tgood b = true) (hj : f142 a.1 b.1 = some (0, d)) (hd : Joined a.1 b.1 d) :
  f82 a b = some (0, d, tabL (prd d).toNat (fun i => subV (rd (0 : Int) a.2 (spX a.1 d i)) (rd (0 : Int) b.2 (spX b.1 d i)))) := by
 have hg : tgood a = true ∧ tgood b = true := ⟨hga, hgb⟩
 unfold f82
 have hj2 : f124_126_j2 (a.1, a.2) (b.1, b.2) = some (Sum.inl ()) := by
  unfold f124_126_j2 f124_126_j3
  rw [show (a.1, a.2) = a from rfl, show (b.1, b.2) = b from rfl, good_ok, good_ok, hga, hgb]
  rfl
 unfold f124_126
 rw [hj2]
 simp only [bindF_some, sumF_inl]
 rw [hj]
 simp only [bindF_some]
 rw [show ((0 : Int) != 0) = false from rfl]
 simp only [cond_false]
 rw [new_ok, if_pos hd.pd, spread_ok hd.fa, spread_ok hd.fb]
 simp only [bindF_some]
 have hr := prd_range d
 obtain ⟨N, hN⟩ : ∃ N : Nat, prd d = (N : Int) := ⟨(prd d).toNat, by omega⟩
 rw [hN, Int.toNat_natCast]
 have ga : (a.2.length : Int) = prd a.1 := by have := hg.1; unfold tgood at this; simp at this; exact this.2
 have gb : (b.2.length : Int) = prd b.1 := by have := hg.2; unfold tgood at this; simp at this; exact this.2
 have H : ∀ x : Int × List Int, (∃ k : Nat, k ≤ N ∧ x = ((k : Int), tabL N (fun i => if i < k then subV (rd (0 : Int) a.2 (spX a.1 d i)) (rd (0 : Int) b.2 (spX b.1 d i)) else 0))) →
   (∃ z, (∀ go, f124_126_l4 (a.1, a.2) (b.1, b.2) (0, d, List.replicate N 0) (tabL N (spX a.1 d)) (tabL N (spX b.1 d)) go x.1 x.2 = some z) ∧ z = tabL N (fun i => subV (rd (0 : Int) a.2 (spX a.1 d i)) (rd (0 : Int) b.2 (spX b.1 d i)))) ∨
   (∃ y : Int × List Int, (∀ go, f124_126_l4 (a.1, a.2) (b.1, b.2) (0, d, List.replicate N 0) (tabL N (spX a.1 d)) (tabL N (spX b.1 d)) go x.1 x.2 = go y) ∧ (∃ k : Nat, k ≤ N ∧ y = ((k : Int), tabL N (fun i => if i < k then subV (rd (0 : Int) a.2 (spX a.1 d i)) (rd (0 : Int) b.2 (spX b.1 d i)) else 0))) ∧ ((N : Int) - y.1).toNat < ((N : Int) - x.1).toNat) := by
  rintro _ ⟨k, hk, rfl⟩
  unfold f124_126_l4
  simp only [List.length_replicate, tab_len]
  by_cases hlt : k < N
  ·right
   refine ⟨(((k + 1 : Nat) : Int), tabL N (fun i => if i < k + 1 then subV (rd (0 : Int) a.2 (spX a.1 d i)) (rd (0 : Int) b.2 (spX b.1 d i)) else 0)), fun go => ?_, ⟨k + 1, hlt, rfl⟩, by simp only; omega⟩
   rw [show decide ((k : Int) < (N : Int)) = true by simpa using hlt]
   simp only [cond_true]
   obtain ⟨x0, x1⟩ := spX_range hd.fa k (by omega)
   obtain ⟨y0, y1⟩ := spX_range hd.fb k (by omega)
   rw [rd_tab _ _ _ _ hlt, rd_tab _ _ _ _ hlt, guardF_pos (by omega), guardF_pos (by omega), guardF_pos (by omega), guardF_pos (by omega)]
   obtain ⟨xn, hxn⟩ := Int.eq_ofNat_of_zero_le x0
   obtain ⟨yn, hyn⟩ := Int.eq_ofNat_of_zero_le y0
   have qa := inI_get ia xn (by omega)
   have qb := inI_get ib yn (by omega)
   rw [← hxn] at qa
   rw [← hyn] at qb
   rw [subF_ok _ _ qa.1 qa.2 qb.1 qb.2]
   simp only [bindF_some]
   rw [guardF_pos (by omega), wrap_i64 (by omega) (by omega), Int.toNat_natCast, tab_set]
   congr 1
   refine Prod.ext rfl (tab_ext _ _ _ (fun i hi => ?_))
   by_cases hik : i = k
   ·rw [if_pos hik, if_pos (by omega), hik]
   ·rw [if_neg hik]
    by_cases h2 : i < k
    ·rw [if_pos h2, if_pos (by omega)]
    ·rw [if_neg h2, if_neg (by omega)]
  ·left
   have : k = N := by omega
   subst this
   refine ⟨_, fun go => ?_, rfl⟩
   rw [show decide ((k : Int) < (k : Int)) = false by simp]
   simp only [cond_false, Option.some.injEq]
   exact tab_ext _ _ _ (fun i hi => by rw [if_pos hi])
 have e0 : ((0 : Int), List.replicate N (0 : Int)) = (((0 : Nat) : Int), tabL N (fun i => if i < 0 then subV (rd (0 : Int) a.2 (spX a.1 d i)) (rd (0 : Int) b.2 (spX b.1 d i)) else 0)) := by
  rw [tab_rep]
  exact Prod.ext rfl (tab_ext _ _ _ (fun i hi => by rw [if_neg (by omega)]))
 rw [e0]
 obtain ⟨z, e, rfl⟩ := loop_fuel (B := fun go (x : Int × List Int) => f124_126_l4 (a.1, a.2) (b.1, b.2) (0, d, List.replicate N 0) (tabL N (spX a.1 d)) (tabL N (spX b.1 d)) go x.1 x.2) _ (fun x => ((N : Int) - x.1).toNat) _ H _ ⟨0, Nat.zero_le _, rfl⟩ (by simp only; omega)
 rw [e]
 rfl
theorem mul_of (a b : List Int × List Int) (d : List Int) (ia : inI a.2) (ib : inI b.2) (hga : tgood a = true) (hgb : tgood b = true) (hj : f142 a.1 b.1 = some (0, d)) (hd : Joined a.1 b.1 d) :
  f83 a b = some (0, d, tabL (prd d).toNat (fun i => mulX (rd (0 : Int) a.2 (spX a.1 d i)) (rd (0 : Int) b.2 (spX b.1 d i)))) := by
 have hg : tgood a = true ∧ tgood b = true := ⟨hga, hgb⟩
 unfold f83
 have hj2 : f124_127_j2 (a.1, a.2) (b.1, b.2) = some (Sum.inl ()) := by
  unfold f124_127_j2 f124_127_j3
  rw [show (a.1, a.2) = a from rfl, show (b.1, b.2) = b from rfl, good_ok, good_ok, hga, hgb]
  rfl
 unfold f124_127
 rw [hj2]
 simp only [bindF_some, sumF_inl]
 rw [hj]
 simp only [bindF_some]
 rw [show ((0 : Int) != 0) = false from rfl]
 simp only [cond_false]
 rw [new_ok, if_pos hd.pd, spread_ok hd.fa, spread_ok hd.fb]
 simp only [bindF_some]
 have hr := prd_range d
 obtain ⟨N, hN⟩ : ∃ N : Nat, prd d = (N : Int) := ⟨(prd d).toNat, by omega⟩
 rw [hN, Int.toNat_natCast]
 have ga : (a.2.length : Int) = prd a.1 := by have := hg.1; unfold tgood at this; simp at this; exact this.2
 have gb : (b.2.length : Int) = prd b.1 := by have := hg.2; unfold tgood at this; simp at this; exact this.2
 have H : ∀ x : Int × List Int, (∃ k : Nat, k ≤ N ∧ x = ((k : Int), tabL N (fun i => if i < k then mulX (rd (0 : Int) a.2 (spX a.1 d i)) (rd (0 : Int) b.2 (spX b.1 d i)) else 0))) →
   (∃ z, (∀ go, f124_127_l4 (a.1, a.2) (b.1, b.2) (0, d, List.replicate N 0) (tabL N (spX a.1 d)) (tabL N (spX b.1 d)) go x.1 x.2 = some z) ∧ z = tabL N (fun i => mulX (rd (0 : Int) a.2 (spX a.1 d i)) (rd (0 : Int) b.2 (spX b.1 d i)))) ∨
   (∃ y : Int × List Int, (∀ go, f124_127_l4 (a.1, a.2) (b.1, b.2) (0, d, List.replicate N 0) (tabL N (spX a.1 d)) (tabL N (spX b.1 d)) go x.1 x.2 = go y) ∧ (∃ k : Nat, k ≤ N ∧ y = ((k : Int), tabL N (fun i => if i < k then mulX (rd (0 : Int) a.2 (spX a.1 d i)) (rd (0 : Int) b.2 (spX b.1 d i)) else 0))) ∧ ((N : Int) - y.1).toNat < ((N : Int) - x.1).toNat) := by
  rintro _ ⟨k, hk, rfl⟩
  unfold f124_127_l4
  simp only [List.length_replicate, tab_len]
  by_cases hlt : k < N
  ·right
   refine ⟨(((k + 1 : Nat) : Int), tabL N (fun i => if i < k + 1 then mulX (rd (0 : Int) a.2 (spX a.1 d i)) (rd (0 : Int) b.2 (spX b.1 d i)) else 0)), fun go => ?_, ⟨k + 1, hlt, rfl⟩, by simp only; omega⟩
   rw [show decide ((k : Int) < (N : Int)) = true by simpa using hlt]
   simp only [cond_true]
   obtain ⟨x0, x1⟩ := spX_range hd.fa k (by omega)
   obtain ⟨y0, y1⟩ := spX_range hd.fb k (by omega)
   rw [rd_tab _ _ _ _ hlt, rd_tab _ _ _ _ hlt, guardF_pos (by omega), guardF_pos (by omega), guardF_pos (by omega), guardF_pos (by omega)]
   obtain ⟨xn, hxn⟩ := Int.eq_ofNat_of_zero_le x0
   obtain ⟨yn, hyn⟩ := Int.eq_ofNat_of_zero_le y0
   have qa := inI_get ia xn (by omega)
   have qb := inI_get ib yn (by omega)
   rw [← hxn] at qa
   rw [← hyn] at qb
   rw [mulF_ok _ _ qa.1 qa.2 qb.1 qb.2]
   simp only [bindF_some]
   rw [guardF_pos (by omega), wrap_i64 (by omega) (by omega), Int.toNat_natCast, tab_set]
   congr 1
   refine Prod.ext rfl (tab_ext _ _ _ (fun i hi => ?_))
   by_cases hik : i = k
   ·rw [if_pos hik, if_pos (by omega), hik]
   ·rw [if_neg hik]
    by_cases h2 : i < k
    ·rw [if_pos h2, if_pos (by omega)]
    ·rw [if_neg h2, if_neg (by omega)]
  ·left
   have : k = N := by omega
   subst this
   refine ⟨_, fun go => ?_, rfl⟩
   rw [show decide ((k : Int) < (k : Int)) = false by simp]
   simp only [cond_false, Option.some.injEq]
   exact tab_ext _ _ _ (fun i hi => by rw [if_pos hi])
 have e0 : ((0 : Int), List.replicate N (0 : Int)) = (((0 : Nat) : Int), tabL N (fun i => if i < 0 then mulX (rd (0 : Int) a.2 (spX a.1 d i)) (rd (0 : Int) b.2 (spX b.1 d i)) else 0)) := by
  rw [tab_rep]
  exact Prod.ext rfl (tab_ext _ _ _ (fun i hi => by rw [if_neg (by omega)]))
 rw [e0]
 obtain ⟨z, e, rfl⟩ := loop_fuel (B := fun go (x : Int × List Int) => f124_127_l4 (a.1, a.2) (b.1, b.2) (0, d, List.replicate N 0) (tabL N (spX a.1 d)) (tabL N (spX b.1 d)) go x.1 x.2) _ (fun x => ((N : Int) - x.1).toNat) _ H _ ⟨0, Nat.zero_le _, rfl⟩ (by simp only; omega)
 rw [e]
 rfl
end Go.Proofs.PlS
namespace Go.Proofs.Sh
open Go.AM Go.Proofs.PlB Go.Proofs.PlW Go.Proofs.PlT Go.Proofs.PlS
theorem goodR (d : List Int) : f112 d = some (decide (prd d > 0)) := by
 unfold f112 prd
 by_cases h4 : d.length > 4
 ·rw [dT (by omega), if_pos h4]; rfl
 ·rw [dF (by omega), if_neg h4]
  simp only [cond_false]
  have H : ∀ x : Int × Int, (∃ k : Nat, x.2 = (k : Int) ∧ k ≤ d.length ∧ 1 ≤ x.1 ∧ x.1 ≤ 4096 ∧ pgo x.1 (d.drop k) = pgo 1 d) →
    (∃ z, (∀ go, f112_l3 d go x.1 x.2 = some z) ∧ ((z = Sum.inl () ∧ pgo 1 d = 0) ∨ (z = Sum.inr () ∧ 1 ≤ pgo 1 d))) ∨
    (∃ y : Int × Int, (∀ go, f112_l3 d go x.1 x.2 = go y) ∧ (∃ k : Nat, y.2 = (k : Int) ∧ k ≤ d.length ∧ 1 ≤ y.1 ∧ y.1 ≤ 4096 ∧ pgo y.1 (d.drop k) = pgo 1 d) ∧ ((d.length : Int) - y.2).toNat < ((d.length : Int) - x.2).toNat) := by
   rintro ⟨n, _⟩ ⟨k, rfl, hk, hn1, hn2, hp⟩
   simp only at hn1 hn2 hp ⊢
   by_cases hlt : k < d.length
   ·rw [drop_cons d k hlt] at hp
    simp only [pgo] at hp
    have hrd : rd (0 : Int) d (k : Int) = d[k] := rd_nat _ _ _ hlt
    unfold f112_l3 f112_j4
    rw [dT (show (k : Int) < (d.length : Int) by omega)]
    simp only [cond_true, hrd]
    by_cases c : d[k] < 1 ∨ d[k] > 4096
    ·left
     rw [if_pos (by omega)] at hp
     refine ⟨Sum.inl (), fun go => ?_, .inl ⟨rfl, hp.symm⟩⟩
     by_cases c1 : d[k] < 1
     ·rw [guardF_pos (by omega), dT c1]; rfl
     ·rw [guardF_pos (by omega), dF c1, guardF_pos (by omega), dT (show d[k] > 4096 by omega)]; rfl
    ·have hb1 : n * d[k] ≤ 4096 * 4096 := Int.mul_le_mul hn2 (by omega) (by omega) (by omega)
     have hb0 : 1 * 1 ≤ n * d[k] := Int.mul_le_mul hn1 (by omega) (by omega) (by omega)
     have hw : IntKind.i64.wrap (n * d[k]) = n * d[k] := wrap_i64 (by omega) (by omega)
     rw [guardF_pos (by omega), dF (show ¬ d[k] < 1 by omega), guardF_pos (by omega), dF (show ¬ d[k] > 4096 by omega)]
     simp only [cond_false, bindF_some, sumF_inl, hw]
     by_cases c3 : n * d[k] > 4096
     ·left
      rw [if_pos (.inr (.inr c3))] at hp
      refine ⟨Sum.inl (), fun go => ?_, .inl ⟨rfl, hp.symm⟩⟩
      rw [guardF_pos (by omega), dT c3]; rfl
     ·right
      rw [if_neg (by omega)] at hp
      refine ⟨(n * d[k], ((k + 1 : Nat) : Int)), fun go => ?_, ⟨k + 1, rfl, hlt, by simp only; omega, by simp only; omega, hp⟩, by simp only; omega⟩
      rw [guardF_pos (by omega), dF c3, wrap_i64 (by omega) (by omega)]; rfl
   ·left
    have : k = d.length := by omega
    subst this
    simp only [List.drop_length, pgo] at hp
    refine ⟨Sum.inr (), fun go => ?_, .inr ⟨rfl, by omega⟩⟩
    unfold f112_l3
    rw [dF (by omega)]; rfl
  obtain ⟨z, e, hz⟩ := loop_fuel (B := fun go (x : Int × Int) => f112_l3 d go x.1 x.2) _ (fun x => ((d.length : Int) - x.2).toNat) _ H ((1 : Int), (0 : Int)) ⟨0, rfl, Nat.zero_le _, by decide, by decide, rfl⟩ (by simp; omega)
  rw [e]
  rcases hz with ⟨rfl, h0⟩ | ⟨rfl, h0⟩
  ·rw [h0]; rfl
  ·rw [dT (show pgo 1 d > 0 by omega)]; rfl
theorem prodL_pos : ∀ d : List Int, (∀ x ∈ d, 1 ≤ x) → 1 ≤ prodL d
 | [], _ => by simp [prodL]
 | x :: r, h => by
  have h1 := h x (by simp)
  have h2 := prodL_pos r (fun y hy => h y (by simp [hy]))
  have : 1 * 1 ≤ x * prodL r := Int.mul_le_mul h1 h2 (by omega) (by omega)
  simp only [prodL]; omega
theorem sizeR (d : List Int) : f52 d = some (prd d) := by
 unfold f52
 rw [goodR]
 simp only [bindF_some]
 by_cases h : prd d > 0
 ·rw [dT h]
  simp only [Bool.not_true, cond_false]
  obtain ⟨he, hm, hl⟩ := prd_prod h
  have hr := prd_range d
  have key := loop_rel (B := fun go (x : Int × Int) => f52_l1 d go x.1 x.2)
   (fun k x => x.2 = (k : Int) ∧ 1 ≤ x.1 ∧ x.1 * prodL (d.drop k) = prd d) (fun z => z = prd d) d.length ((1 : Int), (0 : Int)) ⟨rfl, by decide, by rw [List.drop_zero, Int.one_mul, he]⟩ ?_ ?_ (by omega)
  ·obtain ⟨z, e, rfl⟩ := key
   rw [e, bindF_some]
  ·rintro k hk ⟨n, _⟩ ⟨rfl, n1, hn⟩
   simp only at n1 hn ⊢
   rw [drop_cons d k hk] at hn
   simp only [prodL] at hn
   rw [← Int.mul_assoc] at hn
   have hp := prodL_pos (d.drop (k + 1)) (fun y hy => (hm y (List.mem_of_mem_drop hy)).1)
   have hx := hm d[k] (List.getElem_mem hk)
   have h1 : 1 * 1 ≤ n * d[k] := Int.mul_le_mul n1 hx.1 (by omega) (by omega)
   have h2 : n * d[k] * 1 ≤ n * d[k] * prodL (d.drop (k + 1)) := Int.mul_le_mul_of_nonneg_left hp (by omega)
   refine ⟨(n * d[k], ((k + 1 : Nat) : Int)), fun go => ?_, rfl, by simp only; omega, hn⟩
   unfold f52_l1
   rw [dT (by omega), cond_true, guardF_pos (by omega), rd_nat _ _ _ hk, wrap_i64 (n := n * d[k]) (by omega) (by omega), wrap_i64 (by omega) (by omega)]
   rfl
  ·rintro ⟨n, _⟩ ⟨rfl, n1, hn⟩
   simp only [List.drop_length, prodL, Int.mul_one] at n1 hn ⊢
   refine ⟨n, fun go => ?_, hn⟩
   unfold f52_l1
   rw [dF (by omega)]; rfl
 ·rw [dF h]
  have := (prd_range d).1
  simp only [Bool.not_false, cond_true]
  congr 1; omega
def upto (N k : Nat) (g : Nat → Int) : List Int := tabL N (fun i => if i < k then g i else 0)
theorem upto_len (N k : Nat) (g : Nat → Int) : (upto N k g).length = N := tab_len _ _
theorem upto_zero (N : Nat) (g : Nat → Int) : List.replicate N 0 = upto N 0 g := by
 rw [tab_rep]; exact tab_ext _ _ _ (fun i hi => by rw [if_neg (by omega)])
theorem upto_full (N : Nat) (g : Nat → Int) : upto N N g = tabL N g := tab_ext _ _ _ (fun i hi => by rw [if_pos hi])
theorem upto_set (N k : Nat) (g : Nat → Int) (v : Int) (hk : k < N) (hv : v = g k) : (upto N k g).set k v = upto N (k + 1) g := by
 unfold upto
 rw [tab_set]
 refine tab_ext _ _ _ (fun i hi => ?_)
 by_cases h : i = k
 ·rw [if_pos h, if_pos (by omega), h, hv]
 ·rw [if_neg h]
  by_cases h2 : i < k
  ·rw [if_pos h2, if_pos (by omega)]
  ·rw [if_neg h2, if_neg (by omega)]
theorem newR (d : List Int) (v : Int) (h : 0 < prd d) : f23 d v = some (d, List.replicate (prd d).toNat v) := by
 have hr := prd_range d
 have hl := prd_len h
 unfold f23
 rw [guardF_pos (by simp; omega), sizeR]
 simp only [bindF_some]
 rw [guardF_pos (by omega)]
 obtain ⟨N, hN⟩ : ∃ N : Nat, prd d = (N : Int) := ⟨(prd d).toNat, by omega⟩
 rw [hN, Int.toNat_natCast, upto_zero N (fun _ => v)]
 have := loop_for (B := fun go (x : Int × List Int) => f23_l1 v go x.1 x.2) (fun k => ((k : Int), upto N k (fun _ => v))) N (tabL N (fun _ => v)) ?_ ?_ (by omega)
 ·rw [show ((0 : Int)) = ((0 : Nat) : Int) from rfl, this, tab_rep]; rfl
 ·intro k hk go
  unfold f23_l1
  simp only [upto_len]
  rw [dT (by omega), cond_true, guardF_pos (by omega), wrap_i64 (by omega) (by omega), Int.toNat_natCast, upto_set N k _ _ hk rfl]
  rfl
 ·intro go
  unfold f23_l1
  simp only [upto_len]
  rw [dF (by omega), cond_false, upto_full]
theorem sameR (a b : List Int) (h : a.length < 4611686018427387904) : f47 a b = some (decide (a = b)) := by
 unfold f47
 by_cases hl : a.length = b.length
 ·rw [nF (by omega)]
  simp only [cond_false]
  have := loop_any (B := fun go x => f47_l1 a b go x) (fun k => (k : Int)) (fun k => rd (0 : Int) a (k : Int) != rd (0 : Int) b (k : Int)) (Sum.inl ()) (Sum.inr ()) a.length ?_ ?_ ?_ (by omega)
  ·rw [show ((0 : Int)) = ((0 : Nat) : Int) from rfl, this]
   simp only [bindF_some]
   by_cases e : a = b
   ·subst e
    have : anyB a.length (fun k => rd (0 : Int) a (k : Int) != rd (0 : Int) a (k : Int)) = false := anyB_false.2 (fun i hi => by simp)
    rw [this, dT rfl]; rfl
   ·have : anyB a.length (fun k => rd (0 : Int) a (k : Int) != rd (0 : Int) b (k : Int)) = true := by
     cases hc : anyB a.length (fun k => rd (0 : Int) a (k : Int) != rd (0 : Int) b (k : Int))
     ·exfalso; apply e
      have hc := anyB_false.1 hc
      apply List.ext_getElem hl
      intro i h1 h2
      have := hc i h1
      rw [rd_nat _ _ _ h1, rd_nat _ _ _ h2] at this
      simpa using this
     ·rfl
    rw [this, dF e]; rfl
  ·intro k hk hp go
   unfold f47_l1
   rw [dT (by omega), cond_true, guardF_pos (by omega), guardF_pos (by omega), hp, cond_false, wrap_i64 (by omega) (by omega)]
   rfl
  ·intro k hk hp go
   unfold f47_l1
   rw [dT (by omega), cond_true, guardF_pos (by omega), guardF_pos (by omega), hp]
   rfl
  ·intro go
   unfold f47_l1
   rw [dF (by omega)]; rfl
 ·rw [nT (by omega), dF (fun e => hl (by rw [e]))]; rfl
theorem alikeR (a b : List Int × List Int) (h1 : a.1.length < 4611686018427387904) (h2 : a.2.length < 4611686018427387904) : f19 a b = some (decide (a = b)) := by
 unfold f19 f19_j1
 rw [sameR _ _ h1]
 simp only [bindF_some]
 by_cases e1 : a.1 = b.1
 ·rw [dT e1]
  simp only [Bool.not_true, cond_false]
  by_cases hl : a.2.length = b.2.length
  ·rw [nF (by omega)]
   simp only [cond_false, bindF_some, sumF_inl]
   have := loop_any (B := fun go x => f19_l2 a b go x) (fun k => (k : Int)) (fun k => rd (0 : Int) a.2 (k : Int) != rd (0 : Int) b.2 (k : Int)) (Sum.inl ()) (Sum.inr ()) a.2.length ?_ ?_ ?_ (by omega)
   ·rw [show ((0 : Int)) = ((0 : Nat) : Int) from rfl, this]
    simp only [bindF_some]
    by_cases e : a.2 = b.2
    ·rw [e]
     have : anyB b.2.length (fun k => rd (0 : Int) b.2 (k : Int) != rd (0 : Int) b.2 (k : Int)) = false := anyB_false.2 (fun i hi => by simp)
     rw [this, dT (Prod.ext e1 e)]; rfl
    ·have : anyB a.2.length (fun k => rd (0 : Int) a.2 (k : Int) != rd (0 : Int) b.2 (k : Int)) = true := by
      cases hc : anyB a.2.length (fun k => rd (0 : Int) a.2 (k : Int) != rd (0 : Int) b.2 (k : Int))
      ·exfalso; apply e
       have hc := anyB_false.1 hc
       apply List.ext_getElem hl
       intro i h1 h2
       have := hc i h1
       rw [rd_nat _ _ _ h1, rd_nat _ _ _ h2] at this
       simpa using this
      ·rfl
     rw [this, dF (fun h => e (by rw [h]))]; rfl
   ·intro k hk hp go
    unfold f19_l2
    rw [dT (by omega), cond_true, guardF_pos (by omega), guardF_pos (by omega), hp, cond_false, wrap_i64 (by omega) (by omega)]
    rfl
   ·intro k hk hp go
    unfold f19_l2
    rw [dT (by omega), cond_true, guardF_pos (by omega), guardF_pos (by omega), hp]
    rfl
   ·intro go
    unfold f19_l2
    rw [dF (by omega)]; rfl
  ·rw [nT (by omega), dF (fun h => hl (by rw [h]))]; rfl
 ·rw [dF e1, dF (fun h => e1 (by rw [h]))]; rfl
end Go.Proofs.Sh
namespace Go.Proofs.Sh
open Go.AM Go.Proofs.PlB Go.Proofs.PlW Go.Proofs.PlT Go.Proofs.PlS
def dnto (L k : Nat) (g : Nat → Int) : List Int := tabL L (fun j => if L - 1 - j < k then g (L - 1 - j) else 0)
theorem dnto_len (L k : Nat) (g : Nat → Int) : (dnto L k g).length = L := tab_len _ _
theorem dnto_zero (L : Nat) (g : Nat → Int) : List.replicate L 0 = dnto L 0 g := by
 rw [tab_rep]; exact tab_ext _ _ _ (fun i hi => by rw [if_neg (by omega)])
theorem dnto_full (L : Nat) (g : Nat → Int) : dnto L L g = tabL L (fun j => g (L - 1 - j)) := tab_ext _ _ _ (fun i hi => by rw [if_pos (by omega)])
theorem dnto_set (L k : Nat) (g : Nat → Int) (v : Int) (hk : k < L) (hv : v = g k) : (dnto L k g).set (L - 1 - k) v = dnto L (k + 1) g := by
 unfold dnto
 rw [tab_set]
 refine tab_ext _ _ _ (fun i hi => ?_)
 by_cases h : i = L - 1 - k
 ·rw [if_pos h, if_pos (by omega), hv]; congr 1; omega
 ·rw [if_neg h]
  by_cases h2 : L - 1 - i < k
  ·rw [if_pos h2, if_pos (by omega)]
  ·rw [if_neg h2, if_neg (by omega)]
def jBad (a b : List Int) (k : Nat) : Bool := side a k != side b k && (side a k != 1 && side b k != 1)
def jMax (a b : List Int) (k : Nat) : Int := if side b k > side a k then side b k else side a k
def jLen (a b : List Int) : Nat := if b.length > a.length then b.length else a.length
def jL (a b : List Int) : List Int := tabL (jLen a b) (fun j => jMax a b (jLen a b - 1 - j))
def jS (a b : List Int) : Int × List Int :=
 if 0 < prd a ∧ 0 < prd b then (bif anyB (jLen a b) (jBad a b) then (4, []) else if 0 < prd (jL a b) then (0, jL a b) else (2, [])) else (1, [])
theorem jLen_int (a b : List Int) : (if (List.length b : Int) > (List.length a : Int) then (List.length b : Int) else (List.length a : Int)) = (jLen a b : Int) := by
 unfold jLen; split <;> split <;> omega
theorem j5_ok (a b : List Int) (k : Nat) : f142_j5 (side a k) (side b k) = some (bif jBad a b k then Sum.inr () else Sum.inl ()) := by
 unfold f142_j5 jBad
 cases (side a k != side b k) <;> cases (side a k != 1) <;> cases (side b k != 1) <;> rfl
theorem joinP (a b : List Int) : f142 a b = some (jS a b) := by
 unfold f142 f142_j1 jS
 rw [shapeGood_ok, shapeGood_ok, jLen_int]
 simp only [bindF_some]
 by_cases ha : 0 < prd a
 ·by_cases hb : 0 < prd b
  ·have la := prd_len ha
   have lb := prd_len hb
   have lj : jLen a b ≤ 4 := by unfold jLen; split <;> omega
   rw [dT (show prd a > 0 from ha), dT (show prd b > 0 from hb), if_pos ⟨ha, hb⟩]
   simp only [Bool.not_true, cond_false, bindF_some, sumF_inl]
   rw [guardF_pos (by omega), Int.toNat_natCast, dnto_zero _ (jMax a b)]
   have := loop_any (B := fun go (x : Int × List Int) => f142_l4 a b go x.1 x.2) (fun k => ((k : Int), dnto (jLen a b) k (jMax a b))) (jBad a b) (Sum.inl ()) (Sum.inr (jL a b)) (jLen a b) ?_ ?_ ?_ (by omega)
   ·rw [show ((0 : Nat) : Int) = 0 from rfl] at this
    rw [this]
    simp only [bindF_some]
    cases anyB (jLen a b) (jBad a b)
    ·simp only [cond_false, sumF_inr]
     rw [shapeGood_ok]
     by_cases hp : 0 < prd (jL a b)
     ·rw [dT (show prd (jL a b) > 0 from hp), if_pos hp]; rfl
     ·rw [dF (show ¬ prd (jL a b) > 0 from hp), if_neg hp]; rfl
    ·rfl
   ·intro k hk hp go
    unfold f142_l4
    rw [jLen_int, Int.toNat_natCast, List.length_replicate, dT (by omega), cond_true, side_ok a k (by omega) (by omega), bindF_some, side_ok b k (by omega) (by omega), bindF_some, j5_ok, hp, bindF_some]
    simp only [cond_false, sumF_inl, dnto_len]
    rw [wrap_i64 (n := (jLen a b : Int) - 1) (by omega) (by omega), wrap_i64 (n := (jLen a b : Int) - 1 - k) (by omega) (by omega), guardF_pos (by omega), wrap_i64 (by omega) (by omega), show (jLen a b : Int) - 1 - k = ((jLen a b - 1 - k : Nat) : Int) by omega, Int.toNat_natCast, dnto_set _ _ (jMax a b) (if side b k > side a k then side b k else side a k) hk rfl]
    rfl
   ·intro k hk hp go
    unfold f142_l4
    rw [jLen_int, Int.toNat_natCast, List.length_replicate, dT (by omega), cond_true, side_ok a k (by omega) (by omega), bindF_some, side_ok b k (by omega) (by omega), bindF_some, j5_ok, hp, bindF_some]
    rfl
   ·intro go
    unfold f142_l4
    rw [jLen_int, Int.toNat_natCast, List.length_replicate, dF (by omega), cond_false, dnto_full]; rfl
  ·rw [dT (show prd a > 0 from ha), dF (show ¬ prd b > 0 from hb), if_neg (fun h => hb h.2)]; rfl
 ·rw [dF (show ¬ prd a > 0 from ha), if_neg (fun h => ha h.1)]; rfl
theorem jL_side (a b : List Int) (k : Nat) (hk : k < jLen a b) : side (jL a b) k = jMax a b k := by
 have hl : (jL a b).length = jLen a b := tab_len _ _
 rw [← side_rd _ k (by omega), hl]
 unfold jL
 rw [rd_tab _ _ _ _ (by omega)]
 congr 1; omega
theorem jS_joined {a b d : List Int} (h : jS a b = (0, d)) : Joined a b d := by
 unfold jS at h
 split at h
 ·next hg =>
  cases hc : anyB (jLen a b) (jBad a b)
  ·rw [hc, cond_false] at h
   split at h
   ·next hp =>
    obtain rfl : jL a b = d := (Prod.mk.inj h).2
    have hl : (jL a b).length = jLen a b := tab_len _ _
    have hjl : jLen a b = max a.length b.length := by unfold jLen; split <;> omega
    have hb := anyB_false.1 hc
    refine ⟨hg.1, hg.2, hp, by omega, fun k hk => ?_, fun k hk => ?_⟩
    ·rw [jL_side a b k (by omega)]; unfold jMax; split <;> omega
    ·have := hb k (by omega)
     unfold jBad at this
     by_cases h1 : side a k = side b k
     ·exact .inl h1
     ·by_cases h2 : side a k = 1
      ·exact .inr (.inl h2)
      ·by_cases h3 : side b k = 1
       ·exact .inr (.inr h3)
       ·rw [nT h1, nT h2, nT h3] at this; exact absurd this (by decide)
   ·exact absurd (Prod.mk.inj h).1 (by decide)
  ·rw [hc, cond_true] at h; exact absurd (Prod.mk.inj h).1 (by decide)
 ·exact absurd (Prod.mk.inj h).1 (by decide)
theorem list_side {d e : List Int} (hl : d.length = e.length) (h : ∀ k, k < d.length → side d k = side e k) : d = e := by
 apply List.ext_getElem hl
 intro i h1 h2
 have := h (d.length - 1 - i) (by omega)
 unfold side at this
 rw [if_pos (by omega), if_pos (by omega), getD_at _ _ (by omega), getD_at _ _ (by omega)] at this
 simp only [show d.length - 1 - (d.length - 1 - i) = i by omega, show e.length - 1 - (d.length - 1 - i) = i by omega] at this
 exact this
theorem jS_fits {d big : List Int} : jS d big = (0, big) ↔ Fits d big := by
 constructor
 ·intro h
  exact (jS_joined h).fa
 ·intro h
  have hlen := h.len
  have hjl : jLen d big = big.length := by unfold jLen; split <;> omega
  have hs : ∀ k, k < big.length → side d k = 1 ∨ side big k = side d k := fun k hk => by
   by_cases hk2 : k < d.length
   ·have := (side_pos h.pd k).1
    by_cases h1 : 1 < side d k
    ·exact .inr (h.eq k hk2 h1)
    ·exact .inl (by omega)
   ·left; unfold side; rw [if_neg hk2]
  have hany : anyB (jLen d big) (jBad d big) = false := anyB_false.2 (fun i hi => by
   unfold jBad
   rcases hs i (by omega) with e | e
   ·rw [nF e]; simp
   ·rw [nF e.symm]; rfl)
  have hL : jL d big = big := list_side (by unfold jL; rw [tab_len, hjl]) (fun k hk => by
   have hk2 : k < jLen d big := by rw [show (jL d big).length = jLen d big from tab_len _ _] at hk; exact hk
   rw [jL_side d big k hk2]
   unfold jMax
   have := (side_pos h.pb k).1
   rcases hs k (by omega) with e | e
   ·rw [e]; split <;> omega
   ·rw [e]; split <;> rfl)
  unfold jS
  rw [if_pos ⟨h.pd, h.pb⟩, hany, hL, cond_false, if_pos h.pb]
end Go.Proofs.Sh
namespace Go.Proofs.Dots
open Go.AM Go.Proofs.PlW
def W0 (A : Int) : Int := A % 18446744073709551616
def W1 (A : Int) : Int := A / 18446744073709551616 % 18446744073709551616
def W2 (A : Int) : Int := A / 18446744073709551616 / 18446744073709551616 % 18446744073709551616
def W3 (A : Int) : Int := A / 18446744073709551616 / 18446744073709551616 / 18446744073709551616 % 18446744073709551616
theorem W1_eq (A : Int) : W1 A = W0 (A / 18446744073709551616) := rfl
theorem W2_eq (A : Int) : W2 A = W1 (A / 18446744073709551616) := rfl
theorem W3_eq (A : Int) : W3 A = W2 (A / 18446744073709551616) := rfl
theorem md (s q k : Int) : (s - q - k) / 18446744073709551616 = s / 18446744073709551616 - q / 18446744073709551616 - -((s % 18446744073709551616 - q % 18446744073709551616 - k) / 18446744073709551616) := by omega
end Go.Proofs.Dots
namespace Go.Proofs.Dots
open Go.AM Go.Proofs.PlW
theorem small (n : Int) (h0 : 0 ≤ n) (h1 : n < 18446744073709551616) : W0 n = n ∧ W1 n = 0 ∧ W2 n = 0 ∧ W3 n = 0 := by
 have e : n / 18446744073709551616 = 0 := by omega
 refine ⟨by unfold W0; omega, by unfold W1; rw [e]; rfl, by unfold W2; rw [e]; rfl, by unfold W3; rw [e]; rfl⟩
theorem two (s p : Int) (h0 : 0 ≤ s) (h1 : s < 18446744073709551616) (g0 : 0 ≤ p) (g1 : p < 18446744073709551616) : W0 (s + 18446744073709551616 * p) = s ∧ W1 (s + 18446744073709551616 * p) = p ∧ W2 (s + 18446744073709551616 * p) = 0 ∧ W3 (s + 18446744073709551616 * p) = 0 := by
 have e : (s + 18446744073709551616 * p) / 18446744073709551616 = p := by omega
 obtain ⟨k0, k1, k2, k3⟩ := small p g0 g1
 refine ⟨by unfold W0; omega, ?_, ?_, ?_⟩
 ·rw [W1_eq, e]; exact k0
 ·rw [W2_eq, e]; exact k1
 ·rw [W3_eq, e]; exact k2
end Go.Proofs.Dots
namespace Go.Proofs.Dots
open Go.AM Go.Proofs.PlW
end Go.Proofs.Dots
namespace Go.Proofs.Num
open Go.AM Go.Proofs.PlW Go.Proofs.Dots
end Go.Proofs.Num
namespace Go.Proofs.Num
open Go.AM Go.Proofs.PlW Go.Proofs.Dots
def top (D j : Nat) : Nat := D / 2 ^ j * 2 ^ j
def rdn (N d : Int) : Int := N / d + if 2 * (N % d) > d ∨ (2 * (N % d) = d ∧ N / d % 2 = 1) then 1 else 0
def rdI (a n : Int) : Int := if (a < 0) = (n < 0) then rdn a.natAbs n.natAbs else -rdn a.natAbs n.natAbs
theorem rdn_nonneg {N d : Int} (h0 : 0 ≤ N) (hd : 0 < d) : 0 ≤ rdn N d := by
 unfold rdn
 have := Int.ediv_nonneg h0 (show 0 ≤ d by omega)
 split <;> omega
theorem rdn_le {N d : Int} (h0 : 0 ≤ N) (hd : 0 < d) : rdn N d ≤ N + 1 := by
 unfold rdn
 have h := Int.ediv_le_self d h0
 split <;> omega
theorem rdn_zero {d : Int} (hd : 0 < d) : rdn 0 d = 0 := by
 unfold rdn
 rw [Int.zero_ediv, Int.zero_emod, if_neg (by omega)]; rfl
end Go.Proofs.Num
namespace Go.Proofs.Div
open Go.AM Go.Proofs.PlW
theorem sh16u (x : Int) : Int.fdiv x (2 ^ min (Int.toNat (16 : Int)) (IntKind.bits IntKind.u64)) = x / 65536 := by
 rw [show ((2 : Int) ^ min (Int.toNat (16 : Int)) (IntKind.bits IntKind.u64)) = 65536 from rfl]
 exact Int.fdiv_eq_ediv_of_nonneg _ (by decide)
theorem sh8u (x : Int) : Int.fdiv x (2 ^ min (Int.toNat (8 : Int)) (IntKind.bits IntKind.u64)) = x / 256 := by
 rw [show ((2 : Int) ^ min (Int.toNat (8 : Int)) (IntKind.bits IntKind.u64)) = 256 from rfl]
 exact Int.fdiv_eq_ediv_of_nonneg _ (by decide)
def Near (x n y : Nat) : Prop := x * 2 ^ n ≤ y ∧ y < (x + 1) * 2 ^ n
theorem near_shift {x n y : Nat} (h : Near x n y) (k : Nat) : Near (x / 2 ^ k) (n + k) y := by
 obtain ⟨h0, h1⟩ := h
 have p : 0 < 2 ^ k := Nat.pow_pos (by decide)
 have q : 0 < 2 ^ n := Nat.pow_pos (by decide)
 constructor
 ·rw [Nat.pow_add, Nat.mul_comm (2 ^ n), ← Nat.mul_assoc]
  exact Nat.le_trans (Nat.mul_le_mul_right _ (Nat.div_mul_le_self x (2 ^ k))) h0
 ·rw [Nat.pow_add, Nat.mul_comm (2 ^ n), ← Nat.mul_assoc]
  have : x + 1 ≤ (x / 2 ^ k + 1) * 2 ^ k := by
   have := Nat.lt_mul_of_div_lt (Nat.lt_succ_self (x / 2 ^ k)) p
   exact this
  exact Nat.lt_of_lt_of_le h1 (Nat.mul_le_mul_right _ this)
def tabOk (x : Nat) : Bool := match (bt f182_s1 (x : Int)) with
 | .ofNat t => decide (1 ≤ t) && decide (t ≤ 8) && decide (2 ^ (t - 1) ≤ x) && decide (x + 1 ≤ 2 ^ t)
 | .negSucc _ => false
theorem tab_all : (List.range 256).all (fun x => x == 0 || tabOk x) = true := by kernel_rfl
theorem tab_ok (x : Nat) (h0 : 0 < x) (h1 : x < 256) : ∃ t : Nat, bt f182_s1 (x : Int) = (t : Int) ∧ 1 ≤ t ∧ t ≤ 8 ∧ 2 ^ (t - 1) ≤ x ∧ x + 1 ≤ 2 ^ t := by
 have := List.all_eq_true.1 tab_all x (List.mem_range.2 h1)
 rw [show (x == 0) = false by simp; omega, Bool.false_or] at this
 unfold tabOk at this
 split at this
 ·next t ht =>
  simp only [Bool.and_eq_true, decide_eq_true_eq] at this
  exact ⟨t, ht, this.1.1.1, this.1.1.2, this.1.2, this.2⟩
 ·exact absurd this (by decide)
theorem clz_ok (y : Nat) (h0 : 0 < y) (h1 : y < 18446744073709551616) : ∃ s : Nat, s ≤ 63 ∧ f174 (y : Int) = some (s : Int) ∧ 9223372036854775808 ≤ y * 2 ^ s ∧ y * 2 ^ s < 18446744073709551616 := by
 have n0 : Near y 0 y := by unfold Near; omega
 have j1 : ∃ x n : Nat, f182_j1 (y : Int) = some ((x : Int), (n : Int)) ∧ 0 < x ∧ x < 4294967296 ∧ n ≤ 32 ∧ Near x n y := by
  unfold f182_j1
  rw [sh32u]
  by_cases c : y ≥ 4294967296
  ·rw [dT (by omega)]
   exact ⟨y / 2 ^ 32, 32, by simp only [cond_true]; rw [show (2 : Nat) ^ 32 = 4294967296 from rfl]; congr 2, by omega, by omega, by decide, by have := near_shift n0 32; simpa using this⟩
  ·rw [dF (by omega)]
   exact ⟨y, 0, rfl, h0, by omega, by decide, n0⟩
 obtain ⟨x1, n1, e1, x1p, x1l, n1l, N1⟩ := j1
 have j2 : ∃ x n : Nat, f182_j2 ((x1 : Int), (n1 : Int)) = some ((x : Int), (n : Int)) ∧ 0 < x ∧ x < 65536 ∧ n ≤ 48 ∧ Near x n y := by
  unfold f182_j2
  rw [sh16u]
  by_cases c : x1 ≥ 65536
  ·rw [dT (by simp only; omega)]
   refine ⟨x1 / 2 ^ 16, n1 + 16, ?_, by omega, by omega, by omega, near_shift N1 16⟩
   simp only [cond_true]; rw [wrap_i64 (by omega) (by omega), show (2 : Nat) ^ 16 = 65536 from rfl]; congr 2
  ·rw [dF (by simp only; omega)]
   exact ⟨x1, n1, rfl, x1p, by omega, by omega, N1⟩
 obtain ⟨x2, n2, e2, x2p, x2l, n2l, N2⟩ := j2
 have j3 : ∃ x n : Nat, f182_j3 ((x2 : Int), (n2 : Int)) = some ((x : Int), (n : Int)) ∧ 0 < x ∧ x < 256 ∧ n ≤ 56 ∧ Near x n y := by
  unfold f182_j3
  rw [sh8u]
  by_cases c : x2 ≥ 256
  ·rw [dT (by simp only; omega)]
   refine ⟨x2 / 2 ^ 8, n2 + 8, ?_, by omega, by omega, by omega, near_shift N2 8⟩
   simp only [cond_true]; rw [wrap_i64 (by omega) (by omega), show (2 : Nat) ^ 8 = 256 from rfl]; congr 2
  ·rw [dF (by simp only; omega)]
   exact ⟨x2, n2, rfl, x2p, by omega, by omega, N2⟩
 obtain ⟨x3, n3, e3, x3p, x3l, n3l, N3⟩ := j3
 obtain ⟨t, et, t0, t1, p0, p1⟩ := tab_ok x3 x3p x3l
 have hw8 : IntKind.u8.wrap (x3 : Int) = (x3 : Int) := by
  simp [IntKind.wrap, IntKind.signed, IntKind.bits]; omega
 unfold f174 f182
 rw [e1]
 simp only [bindF_some]
 rw [e2]
 simp only [bindF_some]
 rw [e3]
 simp only [bindF_some]
 rw [hw8, guardF_pos (by rw [show (ByteArray.size f182_s1) = 256 by kernel_rfl]; omega), et]
 simp only [bindF_some]
 rw [wrap_i64 (n := (t : Int)) (by omega) (by omega), wrap_i64 (n := (n3 : Int) + (t : Int)) (by omega) (by omega), wrap_i64 (by omega) (by omega)]
 have hL : n3 + t ≤ 64 := by
  have hlow : 2 ^ (t - 1) * 2 ^ n3 ≤ y := Nat.le_trans (Nat.mul_le_mul_right _ p0) N3.1
  rw [← Nat.pow_add] at hlow
  have : 2 ^ (t - 1 + n3) < 2 ^ 64 := by
   rw [show (2 : Nat) ^ 64 = 18446744073709551616 from rfl]; omega
  have := (Nat.pow_lt_pow_iff_right (by decide : 1 < 2)).1 this
  omega
 refine ⟨64 - (n3 + t), by omega, by congr 1; omega, ?_, ?_⟩
 ·have hlow : 2 ^ (t - 1) * 2 ^ n3 ≤ y := Nat.le_trans (Nat.mul_le_mul_right _ p0) N3.1
  have := Nat.mul_le_mul_right (2 ^ (64 - (n3 + t))) hlow
  rw [← Nat.pow_add, ← Nat.pow_add, show t - 1 + n3 + (64 - (n3 + t)) = 63 by omega] at this
  exact this
 ·have hhi : y < 2 ^ t * 2 ^ n3 := Nat.lt_of_lt_of_le N3.2 (Nat.mul_le_mul_right _ p1)
  have := (Nat.mul_lt_mul_right (Nat.pow_pos (by decide : 0 < 2) (n := 64 - (n3 + t)))).2 hhi
  rw [← Nat.pow_add, ← Nat.pow_add, show t + n3 + (64 - (n3 + t)) = 64 by omega] at this
  exact this
structure Dig (Y a b u d q r : Int) : Prop where
 eq : q * a + r = u
 r0 : 0 ≤ r
 r1 : r < 4294967296
 q0 : 0 ≤ q
 q1 : q ≤ 4294967297
 ge : (u * 4294967296 + d) / Y ≤ q
theorem dig_stop {Y a b u d q r : Int} (hY : Y = a * 4294967296 + b) (h0 : 0 < Y) (D : Dig Y a b u d q r) (hc : q * b ≤ 4294967296 * r + d) : q = (u * 4294967296 + d) / Y := by
 have e : q * Y = q * a * 4294967296 + q * b := by rw [hY, Int.mul_add, Int.mul_assoc]
 have h := D.eq
 have : q ≤ (u * 4294967296 + d) / Y := Int.le_ediv_of_mul_le h0 (by rw [e]; omega)
 have := D.ge
 omega
theorem dig_dec {Y a b u d q r : Int} (hY : Y = a * 4294967296 + b) (h0 : 0 < Y) (hu : u < Y) (hd : d < 4294967296) (D : Dig Y a b u d q r) (hc : q ≥ 4294967296 ∨ q * b > 4294967296 * r + d) : (u * 4294967296 + d) / Y ≤ q - 1 := by
 have e : q * Y = q * a * 4294967296 + q * b := by rw [hY, Int.mul_add, Int.mul_assoc]
 have h := D.eq
 have : (u * 4294967296 + d) / Y < q := by
  rcases hc with c | c
  ·have : (u * 4294967296 + d) / Y < 4294967296 := Int.ediv_lt_of_lt_mul h0 (by omega)
   omega
  ·exact Int.ediv_lt_of_lt_mul h0 (by rw [e]; omega)
 omega
theorem dig_brk {Y a b u d q r : Int} (hY : Y = a * 4294967296 + b) (h0 : 0 < Y) (b0 : 0 ≤ b) (b1 : b < 4294967296) (hd : 0 ≤ d) (D : Dig Y a b u d q r) (hg : (u * 4294967296 + d) / Y ≤ q - 1) (hr : r + a ≥ 4294967296) : q - 1 = (u * 4294967296 + d) / Y := by
 have h := D.eq
 have hq := D.q1
 have e : (q - 1) * Y = (q - 1) * a * 4294967296 + (q - 1) * b := by rw [hY, Int.mul_add, Int.mul_assoc]
 have e2 : (q - 1) * a = q * a - a := by rw [Int.sub_mul, Int.one_mul]
 by_cases hq0 : q - 1 < 0
 ·have : 0 ≤ q - 1 ∨ q = 0 := by have := D.q0; omega
  rcases this with h | h
  ·omega
  ·exfalso
   subst h
   have hge : 0 ≤ (u * 4294967296 + d) / Y := Int.ediv_nonneg (by have := D.r0; omega) (by omega)
   omega
 ·have hb : (q - 1) * b ≤ 4294967296 * 4294967295 := Int.mul_le_mul (by omega) (by omega) b0 (by decide)
  have : q - 1 ≤ (u * 4294967296 + d) / Y := Int.le_ediv_of_mul_le h0 (by rw [e, e2]; omega)
  omega
theorem dig_init {Y a b u d : Int} (hY : Y = a * 4294967296 + b) (a0 : 2147483648 ≤ a) (a1 : a < 4294967296) (b0 : 0 ≤ b) (b1 : b < 4294967296) (u0 : 0 ≤ u) (hu : u < Y) (hd : d < 4294967296) : Dig Y a b u d (u / a) (u % a) := by
 have e := Int.mul_ediv_add_emod u a
 have m0 := Int.emod_nonneg u (show a ≠ 0 by omega)
 have m1 := Int.emod_lt_of_pos u (show 0 < a by omega)
 have q0 : 0 ≤ u / a := Int.ediv_nonneg u0 (by omega)
 have q1 : u / a < 4294967298 := Int.ediv_lt_of_lt_mul (by omega) (by omega)
 refine ⟨by rw [Int.mul_comm]; exact e, m0, by omega, q0, by omega, ?_⟩
 have : (u * 4294967296 + d) / Y < u / a + 1 := by
  refine Int.ediv_lt_of_lt_mul (by omega) ?_
  have h1 : u < a * (u / a + 1) := by rw [Int.mul_add, Int.mul_one]; omega
  have h2 : (u / a + 1) * Y = a * (u / a + 1) * 4294967296 + (u / a + 1) * b := by rw [hY, Int.mul_add, Int.mul_comm a (u / a + 1), Int.mul_assoc]
  have h3 : 0 ≤ (u / a + 1) * b := Int.mul_nonneg (by omega) b0
  rw [h2]; omega
 omega
theorem dig_next {Y a b u d q r : Int} (a0 : 0 ≤ a) (D : Dig Y a b u d q r) (hg : (u * 4294967296 + d) / Y ≤ q - 1) (hr : r + a < 4294967296) (h0 : 0 ≤ (u * 4294967296 + d) / Y) : Dig Y a b u d (q - 1) (r + a) := by
 have h := D.eq
 have e2 : (q - 1) * a = q * a - a := by rw [Int.sub_mul, Int.one_mul]
 exact ⟨by omega, by have := D.r0; omega, hr, by omega, by have := D.q1; omega, hg⟩
theorem loop3 (lo y s : Int) (Y a b u d : Int) (eY : IntKind.u64.wrap (y * 2 ^ min (Int.toNat (IntKind.u64.wrap s)) (IntKind.bits IntKind.u64)) = Y)
  (ed : IntKind.u64.wrap (lo * 2 ^ min (Int.toNat (IntKind.u64.wrap s)) (IntKind.bits IntKind.u64)) / 4294967296 = d)
  (ha : a = Y / 4294967296) (hb : b = Y % 4294967296) (Y0 : 9223372036854775808 ≤ Y) (Y1 : Y < 18446744073709551616) (u0 : 0 ≤ u) (hu : u < Y) (d0 : 0 ≤ d) (d1 : d < 4294967296) :
  loopF (fun go (x : Int × Int) => f150_l3 lo y s go x.1 x.2) fuelN (u / a, u % a) = some ((u * 4294967296 + d) / Y) := by
 have hY : Y = a * 4294967296 + b := by omega
 have Q0 : 0 ≤ (u * 4294967296 + d) / Y := Int.ediv_nonneg (by omega) (by omega)
 have H : ∀ x : Int × Int, Dig Y a b u d x.1 x.2 →
   (∃ z, (∀ go, f150_l3 lo y s go x.1 x.2 = some z) ∧ z = (u * 4294967296 + d) / Y) ∨ (∃ x' : Int × Int, (∀ go, f150_l3 lo y s go x.1 x.2 = go x') ∧ Dig Y a b u d x'.1 x'.2 ∧ x'.1.toNat < x.1.toNat) := by
  rintro ⟨q, r⟩ D
  simp only at D ⊢
  have dq0 := D.q0
  have dq1 := D.q1
  have dr0 := D.r0
  have dr1 := D.r1
  have hj : f150_j4 lo y s q r = some (bif decide (q ≥ 4294967296 ∨ q * b > 4294967296 * r + d) then Sum.inl () else Sum.inr ()) := by
   unfold f150_j4
   rw [eY, sh32u, ed, and32 _ (by omega) (by omega), ← hb]
   by_cases c : q ≥ 4294967296
   ·rw [dT c, dT (Or.inl c)]; rfl
   ·rw [dF c]
    simp only [cond_false]
    have hqb : q * b ≤ 4294967295 * 4294967295 := Int.mul_le_mul (by omega) (by omega) (by omega) (by decide)
    have hqb0 : 0 ≤ q * b := Int.mul_nonneg dq0 (by omega)
    rw [show IntKind.u64.wrap (q * b) = q * b by rw [wu]; omega, show IntKind.u64.wrap (IntKind.u64.wrap (4294967296 * r) + d) = 4294967296 * r + d by rw [wu, wu]; omega]
    by_cases c2 : q * b > 4294967296 * r + d
    ·rw [dT c2, dT (Or.inr c2)]; rfl
    ·rw [dF c2, dF (by omega)]; rfl
  by_cases c : q ≥ 4294967296 ∨ q * b > 4294967296 * r + d
  ·have hg := dig_dec hY (by omega) hu d1 D c
   have wr : IntKind.u64.wrap (r + Y / 4294967296) = r + a := by rw [wu, ← ha]; omega
   have wq : IntKind.u64.wrap (q - 1) = q - 1 := by rw [wu]; omega
   by_cases c2 : r + a ≥ 4294967296
   ·left
    refine ⟨q - 1, fun go => ?_, dig_brk hY (by omega) (by omega) (by omega) d0 D hg c2⟩
    unfold f150_l3
    rw [hj, dT c]
    simp only [cond_true, bindF_some, sumF_inl]
    rw [eY, sh32u, wr, dT c2, wq]; rfl
   ·right
    refine ⟨(q - 1, r + a), fun go => ?_, dig_next (by omega) D hg (by omega) Q0, by simp only; omega⟩
    unfold f150_l3
    rw [hj, dT c]
    simp only [cond_true, bindF_some, sumF_inl]
    rw [eY, sh32u, wr, dF c2, wq]; rfl
  ·left
   refine ⟨q, fun go => ?_, dig_stop hY (by omega) D (by omega)⟩
   unfold f150_l3
   rw [hj, dF c]; rfl
 obtain ⟨z, e, rfl⟩ := loop_fuel (B := fun go (x : Int × Int) => f150_l3 lo y s go x.1 x.2) (fun x => Dig Y a b u d x.1 x.2) (fun x => x.1.toNat) (fun z => z = (u * 4294967296 + d) / Y) H (u / a, u % a)
  (dig_init hY (by omega) (by omega) (by omega) (by omega) u0 hu d1) (by
   have := (dig_init (d := d) hY (by omega) (by omega) (by omega) (by omega) u0 hu d1).q1
   simp only; omega)
 exact e
theorem loop7 (lo y s : Int) (Y a b u d : Int) (eY : IntKind.u64.wrap (y * 2 ^ min (Int.toNat (IntKind.u64.wrap s)) (IntKind.bits IntKind.u64)) = Y)
  (ed : bitsOf IntKind.u64 (fun p q => p &&& q) (IntKind.u64.wrap (lo * 2 ^ min (Int.toNat (IntKind.u64.wrap s)) (IntKind.bits IntKind.u64))) 4294967295 = d)
  (ha : a = Y / 4294967296) (hb : b = Y % 4294967296) (Y0 : 9223372036854775808 ≤ Y) (Y1 : Y < 18446744073709551616) (u0 : 0 ≤ u) (hu : u < Y) (d0 : 0 ≤ d) (d1 : d < 4294967296) :
  loopF (fun go (x : Int × Int) => f150_l7 lo y s go x.1 x.2) fuelN (u % a, u / a) = some ((u * 4294967296 + d) / Y) := by
 have hY : Y = a * 4294967296 + b := by omega
 have Q0 : 0 ≤ (u * 4294967296 + d) / Y := Int.ediv_nonneg (by omega) (by omega)
 have H : ∀ x : Int × Int, Dig Y a b u d x.2 x.1 →
   (∃ z, (∀ go, f150_l7 lo y s go x.1 x.2 = some z) ∧ z = (u * 4294967296 + d) / Y) ∨ (∃ x' : Int × Int, (∀ go, f150_l7 lo y s go x.1 x.2 = go x') ∧ Dig Y a b u d x'.2 x'.1 ∧ x'.2.toNat < x.2.toNat) := by
  rintro ⟨r, q⟩ D
  simp only at D ⊢
  have dq0 := D.q0
  have dq1 := D.q1
  have dr0 := D.r0
  have dr1 := D.r1
  have hj : f150_j8 lo y s r q = some (bif decide (q ≥ 4294967296 ∨ q * b > 4294967296 * r + d) then Sum.inl () else Sum.inr ()) := by
   unfold f150_j8
   rw [eY, ed, and32 _ (by omega) (by omega), ← hb]
   by_cases c : q ≥ 4294967296
   ·rw [dT c, dT (Or.inl c)]; rfl
   ·rw [dF c]
    simp only [cond_false]
    have hqb : q * b ≤ 4294967295 * 4294967295 := Int.mul_le_mul (by omega) (by omega) (by omega) (by decide)
    have hqb0 : 0 ≤ q * b := Int.mul_nonneg dq0 (by omega)
    rw [show IntKind.u64.wrap (q * b) = q * b by rw [wu]; omega, show IntKind.u64.wrap (IntKind.u64.wrap (4294967296 * r) + d) = 4294967296 * r + d by rw [wu, wu]; omega]
    by_cases c2 : q * b > 4294967296 * r + d
    ·rw [dT c2, dT (Or.inr c2)]; rfl
    ·rw [dF c2, dF (by omega)]; rfl
  by_cases c : q ≥ 4294967296 ∨ q * b > 4294967296 * r + d
  ·have hg := dig_dec hY (by omega) hu d1 D c
   have wr : IntKind.u64.wrap (r + Y / 4294967296) = r + a := by rw [wu, ← ha]; omega
   have wq : IntKind.u64.wrap (q - 1) = q - 1 := by rw [wu]; omega
   by_cases c2 : r + a ≥ 4294967296
   ·left
    refine ⟨q - 1, fun go => ?_, dig_brk hY (by omega) (by omega) (by omega) d0 D hg c2⟩
    unfold f150_l7
    rw [hj, dT c]
    simp only [cond_true, bindF_some, sumF_inl]
    rw [eY, sh32u, wr, dT c2, wq]; rfl
   ·right
    refine ⟨(r + a, q - 1), fun go => ?_, dig_next (by omega) D hg (by omega) Q0, by simp only; omega⟩
    unfold f150_l7
    rw [hj, dT c]
    simp only [cond_true, bindF_some, sumF_inl]
    rw [eY, sh32u, wr, dF c2, wq]; rfl
  ·left
   refine ⟨q, fun go => ?_, dig_stop hY (by omega) D (by omega)⟩
   unfold f150_l7
   rw [hj, dF c]; rfl
 obtain ⟨z, e, rfl⟩ := loop_fuel (B := fun go (x : Int × Int) => f150_l7 lo y s go x.1 x.2) (fun x => Dig Y a b u d x.2 x.1) (fun x => x.2.toNat) (fun z => z = (u * 4294967296 + d) / Y) H (u % a, u / a)
  (dig_init hY (by omega) (by omega) (by omega) (by omega) u0 hu d1) (by
   have := (dig_init (d := d) hY (by omega) (by omega) (by omega) (by omega) u0 hu d1).q1
   simp only; omega)
 exact e
theorem div64 (hi lo y : Int) (h0 : 0 ≤ hi) (h1 : hi < y) (l0 : 0 ≤ lo) (l1 : lo < 18446744073709551616) (y1 : y < 18446744073709551616) :
    f150 hi lo y = some ((hi * 18446744073709551616 + lo) / y, (hi * 18446744073709551616 + lo) % y) := by
  unfold f150
  rw [bF (show ¬ y = 0 by omega), dF (show ¬ y ≤ hi by omega)]
  simp only [cond_false]
  by_cases hz : hi = 0
  · subst hz
    rw [bT rfl]
    simp only [cond_true]
    rw [guardF_pos (by omega), guardF_pos (by omega), Int.tdiv_eq_ediv_of_nonneg l0, Int.tmod_eq_emod_of_nonneg l0, Int.zero_mul, Int.zero_add]
    have := Int.ediv_nonneg l0 (show 0 ≤ y by omega)
    have := Int.ediv_le_self y l0
    rw [show IntKind.u64.wrap (lo / y) = lo / y by rw [wu]; omega]
  rw [bF hz]
  simp only [cond_false]
  obtain ⟨yn, rfl⟩ := Int.eq_ofNat_of_zero_le (show 0 ≤ y by omega)
  obtain ⟨s, s63, es, p0, p1⟩ := clz_ok yn (by omega) (by omega)
  rw [es]
  simp only [bindF_some]
  have ws : IntKind.u64.wrap (s : Int) = s := by rw [wu]; omega
  have ws2 : IntKind.u64.wrap ((64 : Int) - s) = ((64 - s : Nat) : Int) := by rw [wu]; omega
  have b64 : IntKind.bits IntKind.u64 = 64 := rfl
  obtain ⟨P, hP⟩ : ∃ P : Nat, P = 2 ^ s := ⟨_, rfl⟩
  obtain ⟨R, hR⟩ : ∃ R : Nat, R = 2 ^ (64 - s) := ⟨_, rfl⟩
  have hPR : P * R = 18446744073709551616 := by
    rw [hP, hR, ← Nat.pow_add, show s + (64 - s) = 64 by omega]
  have P1 : 1 ≤ P := by rw [hP]; exact Nat.one_le_two_pow
  have R1 : 1 ≤ R := by rw [hR]; exact Nat.one_le_two_pow
  have eP : (2 : Int) ^ min (Int.toNat (s : Int)) (IntKind.bits IntKind.u64) = (P : Int) := by
    rw [Int.toNat_natCast, b64, show min s 64 = s by omega, hP]; simp
  have eR : (2 : Int) ^ min (Int.toNat (((64 - s : Nat) : Int))) (IntKind.bits IntKind.u64) = (R : Int) := by
    rw [Int.toNat_natCast, b64, show min (64 - s) 64 = 64 - s by omega, hR]; simp
  have hYn : (yn : Int) * P = ((yn * 2 ^ s : Nat) : Int) := by rw [← hP]; simp
  have Y0 : 9223372036854775808 ≤ (yn : Int) * P := by rw [hYn]; omega
  have Y1 : (yn : Int) * P < 18446744073709551616 := by rw [hYn]; omega
  have eY : IntKind.u64.wrap ((yn : Int) * P) = (yn : Int) * P := by
    rw [wu]; omega
  have lR : Int.fdiv lo (R : Int) = lo / R := Int.fdiv_eq_ediv_of_nonneg _ (by omega)
  have lo1 : lo / R < P := Int.ediv_lt_of_lt_mul (by omega) (by have : ((P * R : Nat) : Int) = (P : Int) * R := by simp
                                                                rw [← this, hPR]; exact l1)
  have lo0 : 0 ≤ lo / R := Int.ediv_nonneg l0 (by omega)
  have hiP : hi * P + P ≤ (yn : Int) * P := by
    have : (hi + 1) * P ≤ (yn : Int) * P := Int.mul_le_mul_of_nonneg_right (by omega) (by omega)
    rw [Int.add_mul, Int.one_mul] at this; exact this
  have hiP0 : 0 ≤ hi * P := Int.mul_nonneg h0 (by omega)
  have eU : bitsOf IntKind.u64 (fun p q => p ||| q) (IntKind.u64.wrap (hi * P)) (lo / R) = hi * P + lo / R := by
    rw [show IntKind.u64.wrap (hi * P) = hi * P by rw [wu]; omega, or_nat _ _ hiP0 (by omega) lo0 (by omega)]
    have := Nat.two_pow_add_eq_or_of_lt (i := s) (b := (lo / R).toNat) (by rw [← hP]; omega) hi.toNat
    rw [← hP] at this
    have e : (hi * P).toNat = P * hi.toNat := by
      obtain ⟨h, rfl⟩ := Int.eq_ofNat_of_zero_le h0
      rw [Int.toNat_natCast, Nat.mul_comm, ← Int.toNat_natCast (h * P)]; simp
    rw [e, ← this]
    have e2 : ((P * hi.toNat : Nat) : Int) = hi * P := by rw [← e]; omega
    omega
  have hsplit : lo * P = lo / R * 18446744073709551616 + lo * P % 18446744073709551616 := by
    have : lo * P / 18446744073709551616 = lo / R := by
      have hc : (18446744073709551616 : Int) = (R : Int) * P := by
        have : ((P * R : Nat) : Int) = (R : Int) * P := by rw [Nat.mul_comm]; simp
        rw [← this, hPR]; rfl
      rw [hc]; exact Int.mul_ediv_mul_of_pos_left lo R (by omega)
    have e := Int.mul_ediv_add_emod (lo * P) 18446744073709551616
    rw [this] at e; omega
  have eL : IntKind.u64.wrap (lo * P) = lo * P % 18446744073709551616 := by rw [wu]
  have hNY : (hi * 18446744073709551616 + lo) * P = (hi * P + lo / R) * 18446744073709551616 + lo * P % 18446744073709551616 := by
    have e1 : (hi * 18446744073709551616 + lo) * P = hi * P * 18446744073709551616 + lo * P := by
      rw [Int.add_mul, Int.mul_assoc, Int.mul_comm 18446744073709551616, ← Int.mul_assoc]
    omega
  have hdivP : (hi * 18446744073709551616 + lo) * P / ((yn : Int) * P) = (hi * 18446744073709551616 + lo) / yn := Int.mul_ediv_mul_of_pos_left _ _ (by omega)
  have hmodP : (hi * 18446744073709551616 + lo) * P % ((yn : Int) * P) = (hi * 18446744073709551616 + lo) % yn * P := by
    rw [Int.mul_comm _ (P : Int), Int.mul_comm (yn : Int), Int.mul_emod_mul_of_pos _ _ (by omega), Int.mul_comm]
  have hN0 : 0 ≤ (hi * 18446744073709551616 + lo) % yn := Int.emod_nonneg _ (by omega)
  have eP2 : ∀ x : Int, Int.fdiv x (P : Int) = x / P := fun x => Int.fdiv_eq_ediv_of_nonneg _ (by omega)
  simp only [ws, ws2, eP, eR, lR, sh32u, eP2]
  have l3 := loop3 lo yn s
  have l7 := loop7 lo yn s
  simp only [ws, eP] at l3 l7
  rw [eU, eY, eL]
  rw [eY, eL] at l3 l7
  rw [← hdivP]
  have hm : (hi * 18446744073709551616 + lo) % (yn : Int) = (hi * 18446744073709551616 + lo) * P % ((yn : Int) * P) / P := by
    rw [hmodP, Int.mul_ediv_cancel _ (by omega)]
  rw [hm, hNY]
  have hun1 : 0 ≤ lo * P % 18446744073709551616 := Int.emod_nonneg _ (by decide)
  have hun2 : lo * P % 18446744073709551616 < 18446744073709551616 := Int.emod_lt_of_pos _ (by decide)
  generalize lo * P % 18446744073709551616 = W at *
  have hu0 : 0 ≤ hi * P + lo / R := by omega
  have hu1 : hi * P + lo / R < (yn : Int) * P := by omega
  generalize hi * P + lo / R = u at *
  generalize (yn : Int) * P = Y at *
  clear hsplit hNY hdivP hmodP hm hiP hiP0
  have a0 : 0 < Y / 4294967296 := by omega
  have dq0 : 0 ≤ u / (Y / 4294967296) := Int.ediv_nonneg hu0 (by omega)
  have dgi := dig_init (Y := Y) (a := Y / 4294967296) (b := Y % 4294967296) (u := u) (d := W / 4294967296) (by omega) (by omega) (by omega) (by omega) (by omega) hu0 hu1 (by omega)
  have dq1 := dgi.q1
  rw [Int.tdiv_eq_ediv_of_nonneg hu0, show IntKind.u64.wrap (u / (Y / 4294967296)) = u / (Y / 4294967296) by rw [wu]; omega]
  have em := dgi.eq
  have hm0 := dgi.r0
  have hm1 := dgi.r1
  have er : IntKind.u64.wrap (u - IntKind.u64.wrap (u / (Y / 4294967296) * (Y / 4294967296))) = u % (Y / 4294967296) := by
    rw [wu, wu]; omega
  rw [er, guardF_pos (by omega), guardF_pos (by omega), guardF_pos (by omega), guardF_pos (by omega), guardF_pos (by omega)]
  rw [l3 Y (Y / 4294967296) (Y % 4294967296) u (W / 4294967296) rfl rfl rfl rfl Y0 Y1 hu0 hu1 (by omega) (by omega)]
  simp only [bindF_some]
  rw [guardF_pos (by omega)]
  have c1 : 0 ≤ (u * 4294967296 + W / 4294967296) / Y := Int.ediv_nonneg (by omega) (by omega)
  have c2 : (u * 4294967296 + W / 4294967296) / Y < 4294967296 := Int.ediv_lt_of_lt_mul (by omega) (by omega)
  have k1 := Int.mul_ediv_add_emod (u * 4294967296 + W / 4294967296) Y
  have k2 := Int.emod_nonneg (u * 4294967296 + W / 4294967296) (show Y ≠ 0 by omega)
  have k3 := Int.emod_lt_of_pos (u * 4294967296 + W / 4294967296) (show 0 < Y by omega)
  rw [Int.mul_comm Y] at k1
  have ev : IntKind.u64.wrap (IntKind.u64.wrap (IntKind.u64.wrap (u * 4294967296) + W / 4294967296) - IntKind.u64.wrap ((u * 4294967296 + W / 4294967296) / Y * Y)) = (u * 4294967296 + W / 4294967296) % Y := by
    simp only [wu]
    generalize (u * 4294967296 + W / 4294967296) / Y * Y = T at *
    omega
  rw [ev]
  generalize (u * 4294967296 + W / 4294967296) % Y = v at *
  generalize hq : (u * 4294967296 + W / 4294967296) / Y = q at *
  have dgj := dig_init (Y := Y) (a := Y / 4294967296) (b := Y % 4294967296) (u := v) (d := W % 4294967296) (by omega) (by omega) (by omega) (by omega) (by omega) k2 k3 (by omega)
  have f1 := dgj.q1
  have f0 := dgj.q0
  have fm := dgj.eq
  have fm0 := dgj.r0
  have fm1 := dgj.r1
  rw [Int.tdiv_eq_ediv_of_nonneg k2, show IntKind.u64.wrap (v / (Y / 4294967296)) = v / (Y / 4294967296) by rw [wu]; omega]
  have er2 : IntKind.u64.wrap (v - IntKind.u64.wrap (v / (Y / 4294967296) * (Y / 4294967296))) = v % (Y / 4294967296) := by
    rw [wu, wu]; omega
  rw [er2, l7 Y (Y / 4294967296) (Y % 4294967296) v (W % 4294967296) rfl (by rw [and32 _ (by omega) (by omega)]) rfl rfl Y0 Y1 k2 k3 (by omega) (by omega)]
  simp only [bindF_some]
  rw [guardF_pos (by omega), and32 _ (by omega) (by omega)]
  have g1 : 0 ≤ (v * 4294967296 + W % 4294967296) / Y := Int.ediv_nonneg (by omega) (by omega)
  have g2 : (v * 4294967296 + W % 4294967296) / Y < 4294967296 := Int.ediv_lt_of_lt_mul (by omega) (by omega)
  have j1 := Int.mul_ediv_add_emod (v * 4294967296 + W % 4294967296) Y
  have j2 := Int.emod_nonneg (v * 4294967296 + W % 4294967296) (show Y ≠ 0 by omega)
  have j3 := Int.emod_lt_of_pos (v * 4294967296 + W % 4294967296) (show 0 < Y by omega)
  rw [Int.mul_comm Y] at j1
  have ew : IntKind.u64.wrap (IntKind.u64.wrap (IntKind.u64.wrap (v * 4294967296) + W % 4294967296) - IntKind.u64.wrap ((v * 4294967296 + W % 4294967296) / Y * Y)) = (v * 4294967296 + W % 4294967296) % Y := by
    simp only [wu]
    generalize (v * 4294967296 + W % 4294967296) / Y * Y = T at *
    omega
  rw [ew]
  generalize (v * 4294967296 + W % 4294967296) % Y = w at *
  generalize (v * 4294967296 + W % 4294967296) / Y = p at *
  have hall : u * 18446744073709551616 + W = w + (q * 4294967296 + p) * Y := by
    rw [Int.add_mul, Int.mul_assoc, Int.mul_comm 4294967296 Y, ← Int.mul_assoc]
    generalize q * Y = T at *
    generalize p * Y = S at *
    omega
  rw [hall, Int.add_mul_ediv_right _ _ (by omega), Int.add_mul_emod_self_right, Int.ediv_eq_zero_of_lt j2 j3, Int.emod_eq_of_lt j2 j3, Int.zero_add]
  rw [show IntKind.u64.wrap (IntKind.u64.wrap (q * 4294967296) + p) = q * 4294967296 + p by rw [wu, wu]; omega]
end Go.Proofs.Div
namespace Go.Proofs.PlV
open Go.AM Go.Proofs.PlB Go.Proofs.PlW Go.Proofs.PlT
def pair (V : Int) : Int × Int := (V / 18446744073709551616, V % 18446744073709551616)
def far (V : Int) : Prop := -85070591730234615865843651857942052864 ≤ V ∧ V ≤ 85070591730234615865843651857942052864
theorem of_ok (v : Int) (h0 : -9223372036854775808 ≤ v) (h1 : v < 9223372036854775808) : f101 v = some (pair v) := by
 unfold f101 pair
 rw [sh63i, wu]
 congr 2
 omega
theorem add_w (A B : Int) (ha : far A) (hb : far B) (hs : far (A + B)) : f137 (pair A) (pair B) = some (pair (A + B)) := by
 obtain ⟨a0, a1⟩ := ha
 obtain ⟨b0, b1⟩ := hb
 obtain ⟨s0, s1⟩ := hs
 unfold f137 pair
 simp only
 rw [add_ok _ _ _ (by omega) (by omega) (by decide) (by decide)]
 simp only [bindF_some, wu]
 rw [add_ok _ _ _ (by omega) (by omega) (by omega) (by omega)]
 simp only [bindF_some, Option.some.injEq, Prod.mk.injEq]
 refine ⟨?_, by omega⟩
 rw [wi_mod, ← wi_mod]
 rw [show (A / 18446744073709551616 % 18446744073709551616 + B / 18446744073709551616 % 18446744073709551616 + (A % 18446744073709551616 + B % 18446744073709551616 + 0) / 18446744073709551616) % 18446744073709551616 = (A + B) / 18446744073709551616 % 18446744073709551616 by omega]
 rw [wi_mod, wrap_i64 (by omega) (by omega)]
theorem neg_w (A : Int) (ha : far A) : f152 (pair A) = some (pair (-A)) := by
 obtain ⟨a0, a1⟩ := ha
 unfold f152 f175 pair
 simp only
 rw [sub_ok _ _ _ (by omega) (by omega) (by omega) (by omega) (by omega) (by omega)]
 simp only [bindF_some, wu]
 rw [sub_ok _ _ _ (by omega) (by omega) (by omega) (by omega) (by split <;> omega) (by split <;> omega)]
 simp only [bindF_some, Option.some.injEq, Prod.mk.injEq]
 refine ⟨?_, by omega⟩
 rw [wi_mod]
 rw [← wi_mod]
 have e : ((0 : Int) % 18446744073709551616 - A / 18446744073709551616 % 18446744073709551616 - (if (0 : Int) < A % 18446744073709551616 + 0 then 1 else 0)) % 18446744073709551616 = -A / 18446744073709551616 % 18446744073709551616 := by
  split <;> omega
 rw [e, wi_mod, wrap_i64 (by omega) (by omega)]
theorem fix_ok (V : Int) (hv : far V) : f138 (pair V) = some (sat V) := by
 obtain ⟨a0, a1⟩ := hv
 unfold f138 f138_j2 f138_j3 pair sat
 simp only
 by_cases h1 : V / 18446744073709551616 > 0
 ·rw [show decide (V / 18446744073709551616 > 0) = true by simpa using h1, if_pos (by omega)]
  rfl
 ·rw [show decide (V / 18446744073709551616 > 0) = false by simpa using h1]
  simp only [cond_false]
  by_cases h2 : V / 18446744073709551616 = 0
  ·rw [show (V / 18446744073709551616 == 0) = true by simpa using h2]
   simp only [cond_true, bindF_some]
   rw [show decide (V / 18446744073709551616 < -1) = false by simp; omega, show (V / 18446744073709551616 == -1) = false by simp; omega]
   by_cases h3 : V % 18446744073709551616 ≥ 9223372036854775808
   ·rw [show decide (V % 18446744073709551616 ≥ 9223372036854775808) = true by simpa using h3, if_pos (by omega)]
    rfl
   ·rw [show decide (V % 18446744073709551616 ≥ 9223372036854775808) = false by simpa using h3, if_neg (by omega), if_neg (by omega)]
    simp only [cond_false, bindF_some, sumF_inl, Option.some.injEq]
    rw [wrap_i64 (by omega) (by omega)]
    omega
  ·rw [show (V / 18446744073709551616 == 0) = false by simpa using h2]
   simp only [cond_false, bindF_some]
   by_cases h3 : V / 18446744073709551616 < -1
   ·rw [show decide (V / 18446744073709551616 < -1) = true by simpa using h3, if_neg (by omega), if_pos (by omega)]
    rfl
   ·rw [show decide (V / 18446744073709551616 < -1) = false by simpa using h3, show (V / 18446744073709551616 == -1) = true by simp; omega]
    simp only [cond_false, cond_true]
    by_cases h4 : V % 18446744073709551616 < 9223372036854775808
    ·rw [show decide (V % 18446744073709551616 < 9223372036854775808) = true by simpa using h4, if_neg (by omega), if_pos (by omega)]
     rfl
    ·rw [show decide (V % 18446744073709551616 < 9223372036854775808) = false by simpa using h4, if_neg (by omega), if_neg (by omega)]
     simp only [cond_false, bindF_some, sumF_inl, Option.some.injEq]
     rw [wi]
     split <;> omega
end Go.Proofs.PlV
namespace Go.Proofs.Div
open Go.AM Go.Proofs.PlW Go.Proofs.Num Go.Proofs.PlV
theorem rdI_eq (a n : Int) : rdI a n = if (!(decide (a < 0) == decide (n < 0))) then -rdn a.natAbs n.natAbs else rdn a.natAbs n.natAbs := by
 unfold rdI
 by_cases h1 : a < 0 <;> by_cases h2 : n < 0 <;> simp [h1, h2]
theorem round_j (d q r : Int) (d0 : 0 < d) (d1 : d ≤ 9223372036854775808) (r0 : 0 ≤ r) (r1 : r < d) (q0 : 0 ≤ q) (q1 : q < 18446744073709551616) :
  f100_j3 d (q, r) = some (decide (2 * r > d ∨ (2 * r = d ∧ q % 2 = 1))) := by
 unfold f100_j3
 simp only
 rw [show IntKind.u64.wrap (d - r) = d - r by rw [wu]; omega]
 by_cases h1 : r > d - r
 ·rw [dT h1, dT (by omega)]; rfl
 ·rw [dF h1]
  simp only [cond_false]
  by_cases h2 : r = d - r
  ·rw [bT h2]
   simp only [cond_true]
   rw [and1 _ q0 q1, Option.some.injEq, Bool.eq_iff_iff, beq_iff_eq, decide_eq_true_iff]
   omega
  ·rw [bF h2, dF (by omega)]; rfl
theorem two_steps (A d : Int) (A0 : 0 ≤ A) (A1 : A ≤ 42535295865117307932921825928971026432) (d0 : 0 < d) (d1 : d ≤ 9223372036854775808) :
  0 ≤ A / 18446744073709551616 / d ∧ A / 18446744073709551616 / d ≤ A / 18446744073709551616 ∧ 0 ≤ A / 18446744073709551616 % d ∧ A / 18446744073709551616 % d < d ∧
  0 ≤ (A / 18446744073709551616 % d * 18446744073709551616 + A % 18446744073709551616) / d ∧ (A / 18446744073709551616 % d * 18446744073709551616 + A % 18446744073709551616) / d < 18446744073709551616 ∧
  A / d = A / 18446744073709551616 / d * 18446744073709551616 + (A / 18446744073709551616 % d * 18446744073709551616 + A % 18446744073709551616) / d ∧
  A % d = (A / 18446744073709551616 % d * 18446744073709551616 + A % 18446744073709551616) % d := by
 have m0 := Int.emod_nonneg (A / 18446744073709551616) (show d ≠ 0 by omega)
 have m1 := Int.emod_lt_of_pos (A / 18446744073709551616) d0
 have me := Int.mul_ediv_add_emod (A / 18446744073709551616) d
 have t0 : 0 ≤ A / 18446744073709551616 / d := Int.ediv_nonneg (by omega) (by omega)
 have t1 : A / 18446744073709551616 / d ≤ A / 18446744073709551616 := Int.ediv_le_self d (by omega)
 have q0 : 0 ≤ (A / 18446744073709551616 % d * 18446744073709551616 + A % 18446744073709551616) / d := Int.ediv_nonneg (by omega) (by omega)
 have q1 : (A / 18446744073709551616 % d * 18446744073709551616 + A % 18446744073709551616) / d < 18446744073709551616 := Int.ediv_lt_of_lt_mul d0 (by omega)
 have hA : A = (A / 18446744073709551616 % d * 18446744073709551616 + A % 18446744073709551616) + A / 18446744073709551616 / d * 18446744073709551616 * d := by
  rw [Int.mul_assoc, Int.mul_comm 18446744073709551616 d, ← Int.mul_assoc, Int.mul_comm (A / 18446744073709551616 / d) d]
  generalize d * (A / 18446744073709551616 / d) = T at *
  omega
 have hq : A / d = A / 18446744073709551616 / d * 18446744073709551616 + (A / 18446744073709551616 % d * 18446744073709551616 + A % 18446744073709551616) / d := by
  conv => lhs; rw [hA]
  rw [Int.add_mul_ediv_right _ _ (by omega), Int.add_comm]
 have hr : A % d = (A / 18446744073709551616 % d * 18446744073709551616 + A % 18446744073709551616) % d := by
  conv => lhs; rw [hA]
  rw [Int.add_mul_emod_self_right]
 exact ⟨t0, t1, m0, m1, q0, q1, hq, hr⟩
theorem round_w (A d t q b : Int) (t0 : 0 ≤ t) (t1 : t ≤ 9223372036854775808) (q0 : 0 ≤ q) (q1 : q < 18446744073709551616) (hb : 0 ≤ b) (hb1 : b ≤ 1) :
  ((t + (q + b) / 18446744073709551616) % 18446744073709551616, (q + b) % 18446744073709551616) = ((t * 18446744073709551616 + q + b) / 18446744073709551616, (t * 18446744073709551616 + q + b) % 18446744073709551616) := by
 refine Prod.ext ?_ ?_ <;> simp only <;> omega
theorem mag_ok (V : Int) (v0 : -42535295865117307932921825928971026432 ≤ V) (v1 : V ≤ 42535295865117307932921825928971026432) :
  f148 (pair V) = some ((V.natAbs : Int) / 18446744073709551616, (V.natAbs : Int) % 18446744073709551616, decide (V < 0)) := by
 unfold f148
 rw [show ((pair V).1, (pair V).2) = pair V from rfl]
 by_cases h : V < 0
 ·rw [dT (show (pair V).1 < 0 by unfold pair; simp only; omega), neg_w V (by unfold far; omega), dT h]
  simp only [cond_true, bindF_some]
  have : (V.natAbs : Int) = -V := by omega
  rw [this]
  unfold pair
  simp only
  rw [show IntKind.u64.wrap (-V / 18446744073709551616) = -V / 18446744073709551616 by rw [wu]; omega]
 ·rw [dF (show ¬ (pair V).1 < 0 by unfold pair; simp only; omega), dF h]
  have : (V.natAbs : Int) = V := by omega
  rw [this]
  unfold pair
  simp only [cond_false]
  rw [show IntKind.u64.wrap (V / 18446744073709551616) = V / 18446744073709551616 by rw [wu]; omega]
theorem over_ok (V n : Int) (v0 : -42535295865117307932921825928971026432 ≤ V) (v1 : V ≤ 42535295865117307932921825928971026432) (n0 : -9223372036854775808 ≤ n) (n1 : n < 9223372036854775808) (hn : n ≠ 0) :
  f100 (pair V) n = some (sat (rdI V n)) := by
 unfold f100
 rw [bF hn]
 simp only [cond_false]
 rw [show ((pair V).1, (pair V).2) = pair V from rfl, mag_ok V v0 v1]
 simp only [bindF_some]
 rw [PlW.size_ok n n0 n1]
 simp only [bindF_some]
 have hdd : (if n < 0 then -n else n) = ((n.natAbs : Nat) : Int) := by split <;> omega
 rw [hdd, rdI_eq]
 have A0 : 0 ≤ (V.natAbs : Int) := by omega
 have A1 : (V.natAbs : Int) ≤ 42535295865117307932921825928971026432 := by omega
 have d0 : 0 < (n.natAbs : Int) := by omega
 have d1 : (n.natAbs : Int) ≤ 9223372036854775808 := by omega
 generalize (V.natAbs : Int) = A at *
 generalize (n.natAbs : Int) = d at *
 clear hdd v0 v1 n0 n1 hn
 obtain ⟨t0, t1, m0, m1, q0, q1, hq, hr⟩ := two_steps A d A0 A1 d0 d1
 rw [guardF_pos (by omega), guardF_pos (by omega), Int.tmod_eq_emod_of_nonneg (by omega)]
 have hdv := div64 _ (A % 18446744073709551616) _ m0 m1 (by omega) (by omega) (by omega)
 rw [← hr] at hdv
 have r0 := Int.emod_nonneg A (show d ≠ 0 by omega)
 have r1 := Int.emod_lt_of_pos A d0
 clear hr
 have hR : rdn A d = A / d + if 2 * (A % d) > d ∨ (2 * (A % d) = d ∧ A / d % 2 = 1) then 1 else 0 := rfl
 have hRl := rdn_le A0 d0
 have hR0 := rdn_nonneg A0 d0
 generalize (A / 18446744073709551616 % d * 18446744073709551616 + A % 18446744073709551616) / d = q at *
 generalize A % d = r at *
 rw [hdv]
 simp only [bindF_some]
 have hj := round_j d q _ d0 d1 r0 r1 q0 q1
 have hwt : IntKind.u64.wrap (Int.tdiv (A / 18446744073709551616) d) = A / 18446744073709551616 / d := by
  rw [Int.tdiv_eq_ediv_of_nonneg (by omega), wu]; omega
 have t2 : A / 18446744073709551616 / d ≤ 9223372036854775808 := by omega
 generalize A / 18446744073709551616 / d = t at *
 have hpar : A / d % 2 = q % 2 := by rw [hq]; omega
 rw [hpar, hq] at hR
 have hj2 : f100_j2 (A / 18446744073709551616, A % 18446744073709551616, decide (V < 0)) d (q, r) = some (rdn A d / 18446744073709551616, rdn A d % 18446744073709551616) := by
  unfold f100_j2
  rw [hj]
  simp only [bindF_some]
  by_cases c : 2 * (r) > d ∨ (2 * (r) = d ∧ q % 2 = 1)
  ·rw [dT c]
   rw [if_pos c] at hR
   simp only [cond_true]
   rw [add_ok _ _ _ (by omega) (by omega) (by omega) (by omega), hwt]
   simp only [bindF_some, Int.add_zero]
   rw [wu, hR, round_w A d t q 1 t0 t2 q0 q1 (by decide) (by decide)]
  ·rw [dF c]
   rw [if_neg c] at hR
   simp only [cond_false]
   have := round_w A d t q 0 t0 t2 q0 q1 (by decide) (by decide)
   rw [hwt, hR, ← this, Int.add_zero]
   refine congrArg some (Prod.ext ?_ ?_) <;> simp only <;> omega
 rw [hj2]
 simp only [bindF_some]
 generalize rdn A d = R at *
 clear hj hj2 hR hq hwt hpar m0 m1 q0 q1 t0 t1 t2 r0 r1
 rw [if_neg (show ¬ (9223372036854775807 : Int) < R / 18446744073709551616 by omega), wrap_i64 (by omega) (by omega)]
 rw [show ((R / 18446744073709551616, R % 18446744073709551616) : Int × Int) = pair R from rfl]
 cases hs : (!(decide (V < 0) == decide (n < 0)))
 ·simp only [cond_false]
  rw [PlV.fix_ok R (by unfold far; omega)]
  simp only [bindF_some, Bool.false_eq_true, if_false]
 ·simp only [cond_true]
  rw [neg_w R (by unfold far; omega)]
  simp only [bindF_some]
  rw [show ((pair (-R)).1, (pair (-R)).2) = pair (-R) from rfl, PlV.fix_ok (-R) (by unfold far; omega)]
  simp only [bindF_some, if_true]
theorem fdiv_j (d q r : Int) (d0 : 0 < d) (d1 : d ≤ 9223372036854775808) (r0 : 0 ≤ r) (r1 : r < d) (q0 : 0 ≤ q) (q1 : q < 18446744073709551616) :
  f146_j3 d (q, r) = some (decide (2 * r > d ∨ (2 * r = d ∧ q % 2 = 1))) := round_j d q r d0 d1 r0 r1 q0 q1
theorem fdiv_j2 (d q r R : Int) (d0 : 0 < d) (d1 : d ≤ 9223372036854775808) (r0 : 0 ≤ r) (r1 : r < d) (q0 : 0 ≤ q) (q1 : q < 18446744073709551616)
  (hR : R = q + if 2 * r > d ∨ (2 * r = d ∧ q % 2 = 1) then 1 else 0) : f146_j2 d (q, r) = some (R % 18446744073709551616, R / 18446744073709551616) := by
 unfold f146_j2
 rw [fdiv_j d q r d0 d1 r0 r1 q0 q1, bindF_some]
 by_cases c : 2 * r > d ∨ (2 * r = d ∧ q % 2 = 1)
 ·rw [if_pos c] at hR
  rw [dT c, cond_true, add_ok _ _ _ (by omega) (by omega) (by omega) (by omega), bindF_some, hR, Int.add_zero]
 ·rw [if_neg c] at hR
  rw [dF c, cond_false, hR]
  refine congrArg some (Prod.ext ?_ ?_) <;> simp only <;> omega
theorem fdiv_end (x y a b d q r R : Int) (s : Bool) (d0 : 0 < d) (d1 : d ≤ 9223372036854775808) (r0 : 0 ≤ r) (r1 : r < d) (q0 : 0 ≤ q) (q1 : q < 18446744073709551616)
  (hR : R = q + if 2 * r > d ∨ (2 * r = d ∧ q % 2 = 1) then 1 else 0) (hdv : f150 x y d = some (q, r)) :
  (bindF (f150 x y d) fun r4 => bindF (f146_j2 d r4) fun z7 => bindF (f166 z7.2 z7.1 s) fun r10 => some r10) = some (sat (if s = true then -R else R)) := by
 have R0 : 0 ≤ R := by rw [hR]; split <;> omega
 have R1 : R ≤ 85070591730234615865843651857942052864 := by rw [hR]; split <;> omega
 rw [hdv, bindF_some, fdiv_j2 d q r R d0 d1 r0 r1 q0 q1 hR, bindF_some, PlS.held_ok R s R0 R1, bindF_some]
theorem fdiv_ok (a b : Int) (a0 : -9223372036854775808 ≤ a) (a1 : a < 9223372036854775808) (b0 : -9223372036854775808 ≤ b) (b1 : b < 9223372036854775808) (hb : b ≠ 0) :
  f146 a b = some (sat (rdI (a * 4294967296) b)) := by
 unfold f146
 rw [bF hb]
 simp only [cond_false]
 rw [PlS.sizeF_ok a a0 a1, PlS.sizeF_ok b b0 b1]
 simp only [bindF_some]
 have e1 : (if a < 0 then -a else a) = ((a.natAbs : Nat) : Int) := by split <;> omega
 have e2 : (if b < 0 then -b else b) = ((b.natAbs : Nat) : Int) := by split <;> omega
 rw [e1, e2, rdI_eq, sh32u]
 have e3 : (((a * 4294967296).natAbs : Nat) : Int) = (a.natAbs : Int) * 4294967296 := by omega
 rw [e3, show decide (a * 4294967296 < 0) = decide (a < 0) by rw [decide_eq_decide]; omega]
 have A0 : 0 ≤ (a.natAbs : Int) := by omega
 have A1 : (a.natAbs : Int) ≤ 9223372036854775808 := by omega
 have d0 : 0 < (b.natAbs : Int) := by omega
 have d1 : (b.natAbs : Int) ≤ 9223372036854775808 := by omega
 generalize (!(decide (a < 0) == decide (b < 0))) = s at *
 generalize (a.natAbs : Int) = A at *
 generalize (b.natAbs : Int) = d at *
 have hR : rdn (A * 4294967296) d = A * 4294967296 / d + if 2 * (A * 4294967296 % d) > d ∨ (2 * (A * 4294967296 % d) = d ∧ A * 4294967296 / d % 2 = 1) then 1 else 0 := rfl
 have hRl := rdn_le (N := A * 4294967296) (by omega) d0
 by_cases h : A / 4294967296 ≥ d
 ·rw [dT h]
  simp only [cond_true]
  have hk := PlS.held_ok 18446744073709551616 s (by decide) (by decide)
  rw [show (18446744073709551616 : Int) / 18446744073709551616 = 1 from rfl, show (18446744073709551616 : Int) % 18446744073709551616 = 0 from rfl] at hk
  rw [hk]
  simp only [bindF_some]
  have hge : 18446744073709551616 ≤ A * 4294967296 / d := Int.le_ediv_of_mul_le d0 (by omega)
  have hRg : 18446744073709551616 ≤ rdn (A * 4294967296) d := by rw [hR]; split <;> omega
  congr 1
  cases s
  ·simp only [Bool.false_eq_true, if_false]; unfold sat; rw [if_pos (by omega), if_pos (by omega)]
  ·simp only [if_true]; unfold sat; rw [if_neg (show ¬ (-18446744073709551616 : Int) ≥ 9223372036854775808 by decide), if_pos (show (-18446744073709551616 : Int) < -9223372036854775808 by decide), if_neg (by omega), if_pos (by omega)]
 ·rw [dF h]
  simp only [cond_false]
  have hlo : IntKind.u64.wrap (A * 2 ^ min (Int.toNat (32 : Int)) (IntKind.bits IntKind.u64)) = A * 4294967296 % 18446744073709551616 := by
   rw [show ((2 : Int) ^ min (Int.toNat (32 : Int)) (IntKind.bits IntKind.u64)) = 4294967296 from rfl, wu]
  have hdv := div64 (A / 4294967296) (A * 4294967296 % 18446744073709551616) d (by omega) (by omega) (by omega) (by omega) (by omega)
  rw [show A / 4294967296 * 18446744073709551616 + A * 4294967296 % 18446744073709551616 = A * 4294967296 by omega] at hdv
  have q0 : 0 ≤ A * 4294967296 / d := Int.ediv_nonneg (by omega) (by omega)
  have q1 : A * 4294967296 / d < 18446744073709551616 := Int.ediv_lt_of_lt_mul d0 (by omega)
  have r0 := Int.emod_nonneg (A * 4294967296) (show d ≠ 0 by omega)
  have r1 := Int.emod_lt_of_pos (A * 4294967296) d0
  rw [hlo]
  exact fdiv_end _ _ a b d _ _ _ s d0 d1 r0 r1 q0 q1 hR hdv
end Go.Proofs.Div
namespace Go.Proofs.PlR
open Go.AM Go.Proofs.PlB Go.Proofs.PlW Go.Proofs.PlT Go.Proofs.PlS
abbrev Tn := List Int × List Int
def row (x : List Int) : Tn := ([(x.length : Int)], x)
theorem prd_one (n : Int) (h0 : 1 ≤ n) (h1 : n ≤ 4096) : prd [n] = n := by
 simp only [prd, pgo, List.length_cons, List.length_nil, Int.one_mul]
 rw [if_neg (by omega), if_neg (by omega)]
theorem prd_nil : prd [] = 1 := rfl
theorem row_good (x : List Int) (h0 : 1 ≤ x.length) (h1 : x.length ≤ 4096) : tgood (row x) = true := by
 unfold tgood row
 simp only
 rw [prd_one _ (by omega) (by omega)]
 simp; omega
theorem sat_range (x : Int) : -9223372036854775808 ≤ sat x ∧ sat x < 9223372036854775808 := by unfold sat; split <;> (try split) <;> omega
theorem tab_inI (n : Nat) (g : Nat → Int) (h : ∀ i, i < n → -9223372036854775808 ≤ g i ∧ g i < 9223372036854775808) : inI (tabL n g) := fun x hx => by
 unfold tabL at hx
 obtain ⟨i, hi, rfl⟩ := List.mem_map.1 hx
 exact h i (List.mem_range.1 hi)
end Go.Proofs.PlR
namespace Go.Proofs.PlV
open Go.AM Go.Proofs.PlB Go.Proofs.PlW Go.Proofs.PlT
def cl (n : Nat) : Bool := (f174 (n : Int) == some 56 && (decide (128 ≤ (n : Int) * 1) && decide ((n : Int) * 1 ≤ 255))) || (f174 (n : Int) == some 57 && (decide (128 ≤ (n : Int) * 2) && decide ((n : Int) * 2 ≤ 255))) || (f174 (n : Int) == some 58 && (decide (128 ≤ (n : Int) * 4) && decide ((n : Int) * 4 ≤ 255))) || (f174 (n : Int) == some 59 && (decide (128 ≤ (n : Int) * 8) && decide ((n : Int) * 8 ≤ 255))) || (f174 (n : Int) == some 60 && (decide (128 ≤ (n : Int) * 16) && decide ((n : Int) * 16 ≤ 255))) || (f174 (n : Int) == some 61 && (decide (128 ≤ (n : Int) * 32) && decide ((n : Int) * 32 ≤ 255))) || (f174 (n : Int) == some 62 && (decide (128 ≤ (n : Int) * 64) && decide ((n : Int) * 64 ≤ 255))) || (f174 (n : Int) == some 63 && (decide (128 ≤ (n : Int) * 128) && decide ((n : Int) * 128 ≤ 255)))
theorem cl_all : (List.range 201).all (fun n => n == 0 || cl n) = true := by kernel_rfl
theorem clz_ok (n : Nat) (h1 : n < 201) (h0 : 1 ≤ n) : (f174 (n : Int) = some 56 ∧ 128 ≤ (n : Int) * 1 ∧ (n : Int) * 1 ≤ 255) ∨ (f174 (n : Int) = some 57 ∧ 128 ≤ (n : Int) * 2 ∧ (n : Int) * 2 ≤ 255) ∨ (f174 (n : Int) = some 58 ∧ 128 ≤ (n : Int) * 4 ∧ (n : Int) * 4 ≤ 255) ∨ (f174 (n : Int) = some 59 ∧ 128 ≤ (n : Int) * 8 ∧ (n : Int) * 8 ≤ 255) ∨ (f174 (n : Int) = some 60 ∧ 128 ≤ (n : Int) * 16 ∧ (n : Int) * 16 ≤ 255) ∨ (f174 (n : Int) = some 61 ∧ 128 ≤ (n : Int) * 32 ∧ (n : Int) * 32 ≤ 255) ∨ (f174 (n : Int) = some 62 ∧ 128 ≤ (n : Int) * 64 ∧ (n : Int) * 64 ≤ 255) ∨ (f174 (n : Int) = some 63 ∧ 128 ≤ (n : Int) * 128 ∧ (n : Int) * 128 ≤ 255) := by
 have h := List.all_eq_true.1 cl_all n (List.mem_range.2 h1)
 rw [Bool.or_eq_true] at h
 rcases h with h | h
 ·simp at h; omega
 ·simpa only [cl, Bool.or_eq_true, Bool.and_eq_true, beq_iff_eq, decide_eq_true_eq, or_assoc] using h
end Go.Proofs.PlV
namespace Go.Proofs.PlR
open Go.AM Go.Proofs.PlB Go.Proofs.PlW Go.Proofs.PlT Go.Proofs.PlS Go.Proofs.PlV
def sumL : List Int → Int
 | [] => 0
 | x :: r => x + sumL r
theorem sumL_app : ∀ a b : List Int, sumL (a ++ b) = sumL a + sumL b
 | [], b => by simp [sumL]
 | x :: r, b => by simp only [List.cons_append, sumL, sumL_app r b]; omega
theorem sumL_bound (b : Int) (hb : 0 ≤ b) : ∀ l : List Int, (∀ x ∈ l, -b ≤ x ∧ x ≤ b) → -(l.length * b) ≤ sumL l ∧ sumL l ≤ l.length * b
 | [], _ => by simp [sumL]
 | x :: r, h => by
  have h1 := h x (by simp)
  have h2 := sumL_bound b hb r (fun y hy => h y (by simp [hy]))
  simp only [sumL, List.length_cons, Int.natCast_add, Int.natCast_one, Int.add_mul, Int.one_mul]
  omega
theorem far_sum (l : List Int) (il : inI l) (hl : l.length ≤ 4096) : far (sumL l) := by
 have h := sumL_bound 9223372036854775808 (by decide) l (fun x hx => by have := il x hx; omega)
 unfold far; omega
theorem total_ok (l : List Int) (il : inI l) (hl : l.length ≤ 4096) : f139 l = some (pair (sumL l)) := by
 unfold f139
 have H : ∀ x : Int × Int × Int, (∃ k : Nat, k ≤ l.length ∧ x = ((k : Int), (pair (sumL (l.take k))).1, (pair (sumL (l.take k))).2)) →
   (∃ z, (∀ go, f139_l1 l go x.1 x.2.1 x.2.2 = some z) ∧ z = pair (sumL l)) ∨
   (∃ y : Int × Int × Int, (∀ go, f139_l1 l go x.1 x.2.1 x.2.2 = go y) ∧ (∃ k : Nat, k ≤ l.length ∧ y = ((k : Int), (pair (sumL (l.take k))).1, (pair (sumL (l.take k))).2)) ∧ ((l.length : Int) - y.1).toNat < ((l.length : Int) - x.1).toNat) := by
  rintro _ ⟨k, hk, rfl⟩
  unfold f139_l1
  simp only
  by_cases h : k < l.length
  ·right
   refine ⟨(((k + 1 : Nat) : Int), (pair (sumL (l.take (k + 1)))).1, (pair (sumL (l.take (k + 1)))).2), fun go => ?_, ⟨k + 1, h, rfl⟩, by simp only; omega⟩
   rw [show decide ((k : Int) < (l.length : Int)) = true by simpa using h]
   simp only [cond_true]
   have hr := il l[k] (List.getElem_mem h)
   rw [guardF_pos (by omega), rd_nat _ _ _ h, of_ok _ hr.1 hr.2]
   simp only [bindF_some]
   have e : sumL (l.take (k + 1)) = sumL (l.take k) + l[k] := by
    rw [List.take_succ_eq_append_getElem h, sumL_app]
    simp [sumL]
   have far1 : far (sumL (l.take k)) := far_sum _ (fun x hx => il x (List.mem_of_mem_take hx)) (by simp; omega)
   have far2 : far (sumL (l.take (k + 1))) := far_sum _ (fun x hx => il x (List.mem_of_mem_take hx)) (by simp; omega)
   rw [e] at far2 ⊢
   rw [show ((pair (sumL (l.take k))).1, (pair (sumL (l.take k))).2) = pair (sumL (l.take k)) from rfl, show ((pair l[k]).1, (pair l[k]).2) = pair l[k] from rfl, add_w _ _ far1 (by unfold far; omega) far2]
   simp only [bindF_some]
   rw [wrap_i64 (by omega) (by omega)]
   rfl
  ·left
   have : k = l.length := by omega
   subst this
   refine ⟨_, fun go => ?_, rfl⟩
   rw [show decide ((l.length : Int) < (l.length : Int)) = false by simp]
   rw [List.take_length]
   rfl
 obtain ⟨z, e, rfl⟩ := loop_fuel (B := fun go (x : Int × Int × Int) => f139_l1 l go x.1 x.2.1 x.2.2) _ (fun x => ((l.length : Int) - x.1).toNat) _ H ((0 : Int), (0 : Int), (0 : Int)) ⟨0, Nat.zero_le _, by simp [pair, sumL]⟩ (by simp; omega)
 rw [e]
 rfl
theorem single_ok (v : Int) : f89 v 0 = some (0, [], [v]) := by
 unfold f89
 rw [show ((0 : Int) != 0) = false from rfl]
 simp only [cond_false]
 rw [new_ok, prd_nil, if_pos (by decide)]
 rfl
abbrev Nd := Int × Int × Int × Int × (List Int) × (List Int)
def nd (l : List Nd) (i : Nat) : Tn := (rd (Ty.z (.p (.int .i64) (.p (.int .i64) (.p (.int .i64) (.p (.int .i64) (.p (.sl (.int .i64)) (.sl (.int .i64)))))))) l (i : Int)).2.2.2.2
theorem has_ok (l : List Nd) (n : Nat) (h : n < l.length) : f39 l (n : Int) = some (true, l) := by
 unfold f39
 rw [show decide ((n : Int) ≥ 0) = true by simp, show decide ((n : Int) < (l.length : Int)) = true by simpa using h]
 rfl
theorem node_value (l : List Nd) (i : Nat) (h : i < l.length) (h1 : (nd l i).1.length ≤ 4096) (h2 : (nd l i).2.length ≤ 4096) : f26 l (i : Int) = some (true, (nd l i).1, (nd l i).2, l) := by
 unfold f26 f37
 rw [has_ok _ _ h]
 simp only [bindF_some, Bool.not_true, cond_false]
 rw [guardF_pos (by omega)]
 have := copy_t (nd l i) (by omega) (by omega)
 unfold nd at this ⊢
 rw [this]
 rfl
theorem push_ok (l : List Nd) (n : Nd) (h : l.length < 512) : f34 l n = some ((l.length : Int), l ++ [n]) := by
 unfold f34
 rw [guardF_pos (by simp; omega)]
 simp only [bindF_some, List.length_append, List.length_cons, List.length_nil]
 rw [wrap_i64 (by omega) (by omega)]
 simp
theorem leaf_ok (l : List Nd) (a : Tn) (h : l.length < 512) (hg : tgood a = true) : f14 l a = some ((l.length : Int), 0, l ++ [(1, -1, -1, 0, a.1, a.2)]) := by
 obtain ⟨_, _, l1, l2⟩ := good_len hg
 unfold f14
 rw [show decide ((List.length l : Int) ≥ (512 : Int)) = false by simp; omega, show (a.1, a.2) = a from rfl, good_ok, hg]
 simp only [cond_false, bindF_some, Bool.not_true]
 rw [copy_t a (by omega) (by omega)]
 simp only [bindF_some]
 rw [push_ok _ _ h]
 rfl
theorem op_sub (a b : Tn) (k : Int) (t : Tn) (h : f82 a b = some (0, t)) : f42 3 a b k = some (0, t) := by
 unfold f42
 rw [show ((3 : Int) == 2) = false from rfl, show ((3 : Int) == 3) = true from rfl]
 simp only [cond_true, cond_false]
 rw [show (a.1, a.2) = a from rfl, show (b.1, b.2) = b from rfl, h]
 rfl
theorem op_mul (a b : Tn) (k : Int) (t : Tn) (h : f83 a b = some (0, t)) : f42 4 a b k = some (0, t) := by
 unfold f42
 rw [show ((4 : Int) == 2) = false from rfl, show ((4 : Int) == 3) = false from rfl, show ((4 : Int) == 4) = true from rfl]
 simp only [cond_true, cond_false]
 rw [show (a.1, a.2) = a from rfl, show (b.1, b.2) = b from rfl, h]
 rfl
theorem op_mean (a : Tn) (k v : Int) (h : f91 a = some (v, 0)) : f43 10 a k = some (0, [], [v]) := by
 unfold f43
 rw [show ((10 : Int) == 5) = false from rfl, show ((10 : Int) == 7) = false from rfl, show ((10 : Int) == 8) = false from rfl, show ((10 : Int) == 9) = false from rfl, show ((10 : Int) == 10) = true from rfl]
 simp only [cond_true, cond_false]
 rw [show (a.1, a.2) = a from rfl, h]
 simp only [bindF_some]
 rw [single_ok]
 rfl
theorem op_bend (a : Tn) (k : Int) (t : Tn) (h : f92 k a = some (0, t)) : f43 11 a k = some (0, t) := by
 unfold f43
 rw [show ((11 : Int) == 5) = false from rfl, show ((11 : Int) == 7) = false from rfl, show ((11 : Int) == 8) = false from rfl, show ((11 : Int) == 9) = false from rfl, show ((11 : Int) == 10) = false from rfl, show ((11 : Int) == 11) = true from rfl]
 simp only [cond_true, cond_false]
 rw [show (a.1, a.2) = a from rfl, h]
 rfl
end Go.Proofs.PlR
namespace Go.Proofs.Op
open Go.AM Go.Proofs.PlB Go.Proofs.PlW Go.Proofs.PlT Go.Proofs.PlS Go.Proofs.Sh Go.Proofs.Num Go.Proofs.Div
abbrev Tn := List Int × List Int
abbrev InR (x : Int) : Prop := -9223372036854775808 ≤ x ∧ x < 9223372036854775808
theorem sat_in (x : Int) : InR (sat x) := PlR.sat_range x
theorem inI_tab {n : Nat} {g : Nat → Int} (h : ∀ i, i < n → InR (g i)) : inI (tabL n g) := PlR.tab_inI n g h
theorem inI_rd {l : List Int} (h : inI l) (i : Nat) (hi : i < l.length) : InR (rd (0 : Int) l (i : Int)) := inI_get h i hi
def bothS (f : Int → Int → Int) (a b : Tn) : Int × Tn :=
 if tgood a = true ∧ tgood b = true then
  (if (jS a.1 b.1).1 = 0 then (0, (jS a.1 b.1).2, tabL (prd (jS a.1 b.1).2).toNat (fun i => f (rd (0 : Int) a.2 (spX a.1 (jS a.1 b.1).2 i)) (rd (0 : Int) b.2 (spX b.1 (jS a.1 b.1).2 i)))) else ((jS a.1 b.1).1, [], []))
 else (1, [], [])
theorem jS_zero {a b : List Int} (h : (jS a b).1 = 0) : Joined a b (jS a b).2 := jS_joined (d := (jS a b).2) (Prod.ext h rfl)
theorem addP (a b : Tn) (ia : inI a.2) (ib : inI b.2) : f81 a b = some (bothS addV a b) := by
 unfold bothS
 by_cases hg : tgood a = true ∧ tgood b = true
 ·rw [if_pos hg]
  by_cases hj : (jS a.1 b.1).1 = 0
  ·rw [if_pos hj]
   exact add_of a b _ ia ib hg.1 hg.2 (by rw [joinP, ← hj]) (jS_zero hj)
  ·rw [if_neg hj]
   unfold f81 f124_125 f124_125_j2 f124_125_j3
   rw [show ((a.1, a.2) : Tn) = a from rfl, show ((b.1, b.2) : Tn) = b from rfl, good_ok, good_ok, hg.1, hg.2, joinP]
   simp only [bindF_some, Bool.not_true, cond_false, sumF_inl]
   rw [nT hj]; rfl
 ·rw [if_neg hg]
  unfold f81 f124_125 f124_125_j2 f124_125_j3
  rw [show ((a.1, a.2) : Tn) = a from rfl, show ((b.1, b.2) : Tn) = b from rfl, good_ok, good_ok]
  cases h1 : tgood a <;> cases h2 : tgood b <;> simp_all <;> rfl
theorem subP (a b : Tn) (ia : inI a.2) (ib : inI b.2) : f82 a b = some (bothS subV a b) := by
 unfold bothS
 by_cases hg : tgood a = true ∧ tgood b = true
 ·rw [if_pos hg]
  by_cases hj : (jS a.1 b.1).1 = 0
  ·rw [if_pos hj]
   exact sub_of a b _ ia ib hg.1 hg.2 (by rw [joinP, ← hj]) (jS_zero hj)
  ·rw [if_neg hj]
   unfold f82 f124_126 f124_126_j2 f124_126_j3
   rw [show ((a.1, a.2) : Tn) = a from rfl, show ((b.1, b.2) : Tn) = b from rfl, good_ok, good_ok, hg.1, hg.2, joinP]
   simp only [bindF_some, Bool.not_true, cond_false, sumF_inl]
   rw [nT hj]; rfl
 ·rw [if_neg hg]
  unfold f82 f124_126 f124_126_j2 f124_126_j3
  rw [show ((a.1, a.2) : Tn) = a from rfl, show ((b.1, b.2) : Tn) = b from rfl, good_ok, good_ok]
  cases h1 : tgood a <;> cases h2 : tgood b <;> simp_all <;> rfl
theorem mulP (a b : Tn) (ia : inI a.2) (ib : inI b.2) : f83 a b = some (bothS mulX a b) := by
 unfold bothS
 by_cases hg : tgood a = true ∧ tgood b = true
 ·rw [if_pos hg]
  by_cases hj : (jS a.1 b.1).1 = 0
  ·rw [if_pos hj]
   exact mul_of a b _ ia ib hg.1 hg.2 (by rw [joinP, ← hj]) (jS_zero hj)
  ·rw [if_neg hj]
   unfold f83 f124_127 f124_127_j2 f124_127_j3
   rw [show ((a.1, a.2) : Tn) = a from rfl, show ((b.1, b.2) : Tn) = b from rfl, good_ok, good_ok, hg.1, hg.2, joinP]
   simp only [bindF_some, Bool.not_true, cond_false, sumF_inl]
   rw [nT hj]; rfl
 ·rw [if_neg hg]
  unfold f83 f124_127 f124_127_j2 f124_127_j3
  rw [show ((a.1, a.2) : Tn) = a from rfl, show ((b.1, b.2) : Tn) = b from rfl, good_ok, good_ok]
  cases h1 : tgood a <;> cases h2 : tgood b <;> simp_all <;> rfl
def scaleS (a : Tn) (k : Int) : Int × Tn := if tgood a = true then (0, a.1, tabL a.2.length (fun i => mulX (rd (0 : Int) a.2 i) k)) else (1, [], [])
theorem scaleP (a : Tn) (k : Int) (ia : inI a.2) (hk : InR k) : f86 a k = some (scaleS a k) := scale_ok a k ia hk.1 hk.2
theorem sum_sm (l : List Int) (il : inI l) (hl : l.length ≤ 4096) : -37778931862957161709568 ≤ PlR.sumL l ∧ PlR.sumL l ≤ 37778931862957161709568 := by
 have := PlR.sumL_bound 9223372036854775808 (by decide) l (fun v hv => by have := il v hv; omega)
 omega
theorem allP (a : Tn) (ia : inI a.2) (hg : tgood a = true) : f90 a = some (sat (PlR.sumL a.2), 0) := by
 obtain ⟨_, _, _, hl⟩ := good_len hg
 unfold f90
 rw [show ((a.1, a.2) : Tn) = a from rfl, good_ok, hg, bindF_some, Bool.not_true, cond_false, PlR.total_ok a.2 ia hl, bindF_some]
 rw [show ((PlV.pair (PlR.sumL a.2)).1, (PlV.pair (PlR.sumL a.2)).2) = PlV.pair (PlR.sumL a.2) from rfl, PlV.fix_ok _ (PlR.far_sum a.2 ia hl)]
 rfl
theorem meanP (a : Tn) (ia : inI a.2) (hg : tgood a = true) : f91 a = some (sat (rdI (PlR.sumL a.2) a.2.length), 0) := by
 obtain ⟨hp, hl1, _, hl⟩ := good_len hg
 have := sum_sm a.2 ia hl
 unfold f91
 rw [show ((a.1, a.2) : Tn) = a from rfl, good_ok, hg, bindF_some, Bool.not_true, cond_false, PlR.total_ok a.2 ia hl, bindF_some]
 rw [show ((PlV.pair (PlR.sumL a.2)).1, (PlV.pair (PlR.sumL a.2)).2) = PlV.pair (PlR.sumL a.2) from rfl, over_ok _ _ (by omega) (by omega) (by omega) (by omega) (by omega)]
 rfl
def bendV (kind x : Int) : Int :=
 if kind = 1 then (if x < 0 then 0 else x)
 else if kind = 2 then (if x > 0 then x else sat (rdI (x * 4294967296) 34359738368))
 else if kind = 3 then (if x > 4294967296 then 4294967296 else if x < -4294967296 then -4294967296 else x)
 else if kind = 4 then (if x < 0 then sat (-x) else x)
 else (if sat (sat (rdI (x * 4294967296) 8589934592) + 2147483648) < 0 then 0 else if sat (sat (rdI (x * 4294967296) 8589934592) + 2147483648) > 4294967296 then 4294967296 else sat (sat (rdI (x * 4294967296) 8589934592) + 2147483648))
theorem pOf8 : f170 8 = some 34359738368 := by kernel_rfl
theorem pOf2 : f170 2 = some 8589934592 := by kernel_rfl
theorem negP (x : Int) (hx : InR x) (h : x < 0) : f172 x = some (sat (-x)) := by
 unfold InR at hx
 unfold f172 sat
 by_cases c : x = -9223372036854775808
 ·rw [bT c, if_pos (by omega)]; rfl
 ·rw [bF c, if_neg (by omega), if_neg (by omega), cond_false, wrap_i64 (by omega) (by omega)]
  congr 1; omega
theorem withinP (y lo hi : Int) (h : lo ≤ hi) : f171 y lo hi = some (if y > hi then hi else if y < lo then lo else y) := by
 unfold f171
 congr 1
 split <;> (try split) <;> (try split) <;> (try split) <;> omega
theorem bendP (kind x : Int) (k0 : 1 ≤ kind) (k5 : kind ≤ 5) (hx : InR x) : f141 kind x = some (bendV kind x, 0) := by
 have s1 := sat_in (rdI (x * 4294967296) 8589934592)
 unfold f141 bendV
 by_cases k1 : kind = 1
 ·rw [bT k1, if_pos k1, cond_true]
 rw [bF k1, if_neg k1, cond_false]
 by_cases k2 : kind = 2
 ·rw [bT k2, if_pos k2, cond_true]
  by_cases h : x > 0
  ·rw [dT h, if_pos h]; rfl
  ·rw [dF h, if_neg h, cond_false, pOf8, bindF_some, fdiv_ok x _ hx.1 hx.2 (by decide) (by decide) (by decide)]; rfl
 rw [bF k2, if_neg k2, cond_false]
 by_cases k3 : kind = 3
 ·rw [bT k3, if_pos k3, cond_true, withinP _ _ _ (by decide)]; rfl
 rw [bF k3, if_neg k3, cond_false]
 by_cases k4 : kind = 4
 ·rw [bT k4, if_pos k4, cond_true]
  by_cases h : x < 0
  ·rw [dT h, if_pos h, cond_true, negP x hx h]; rfl
  ·rw [dF h, if_neg h]; rfl
 rw [bF k4, if_neg k4, cond_false, bT (by omega), cond_true, pOf2, bindF_some, fdiv_ok x _ hx.1 hx.2 (by decide) (by decide) (by decide), bindF_some, addF_ok _ _ s1.1 s1.2 (by decide) (by decide), bindF_some, withinP _ _ _ (by decide), bindF_some]
 unfold addV
 generalize sat (sat (rdI (x * 4294967296) 8589934592) + 2147483648) = y
 congr 2
 split <;> (try split) <;> (try split) <;> omega
def bentS (kind : Int) (t : Tn) : Int × Tn := if 1 ≤ kind ∧ kind ≤ 5 ∧ tgood t = true then (0, t.1, tabL t.2.length (fun i => bendV kind (rd (0 : Int) t.2 i))) else (1, [], [])
theorem bentP (kind : Int) (t : Tn) (it : inI t.2) : f92 kind t = some (bentS kind t) := by
 unfold f92 bentS f92_j2 f92_j3 f140
 rw [show ((t.1, t.2) : Tn) = t from rfl, good_ok]
 by_cases h : 1 ≤ kind ∧ kind ≤ 5 ∧ tgood t = true
 ·obtain ⟨hp, hl, l1, l2⟩ := good_len h.2.2
  rw [if_pos h, dT (by omega), cond_true, bindF_some, dT (show kind ≤ 5 by omega), h.2.2]
  simp only [bindF_some, Bool.not_true, cond_false, sumF_inl]
  rw [copy_t t (by omega) (by omega), bindF_some]
  have := loop_for (B := fun go (x : Int × List Int) => f92_l4 kind t go x.1 x.2) (fun j => ((j : Int), tabL t.2.length (fun i => if i < j then bendV kind (rd (0 : Int) t.2 i) else rd (0 : Int) t.2 i))) t.2.length (tabL t.2.length (fun i => bendV kind (rd (0 : Int) t.2 i))) ?_ ?_ (by omega)
  ·have e0 : tabL t.2.length (fun i => if i < 0 then bendV kind (rd (0 : Int) t.2 i) else rd (0 : Int) t.2 i) = t.2 := by
    apply List.ext_getElem (tab_len _ _)
    intro i h1 h2
    rw [tab_get, if_neg (by omega), rd_nat _ _ _ h2]
   rw [show ((0 : Nat) : Int) = 0 from rfl, e0] at this
   rw [this]; rfl
  ·intro j hj go
   unfold f92_l4
   simp only [tab_len]
   rw [dT (by omega), cond_true, guardF_pos (by omega), bendP _ _ h.1 h.2.1 (inI_rd it j hj), bindF_some, guardF_pos (by omega), wrap_i64 (by omega) (by omega), Int.toNat_natCast, tab_set]
   congr 1
   refine Prod.ext rfl (tab_ext _ _ _ (fun i hi => ?_))
   by_cases hik : i = j
   ·rw [if_pos hik, if_pos (by omega), hik]
   ·rw [if_neg hik]
    by_cases h2 : i < j
    ·rw [if_pos h2, if_pos (by omega)]
    ·rw [if_neg h2, if_neg (by omega)]
  ·intro go
   unfold f92_l4
   simp only
   rw [dF (by omega), cond_false]
   congr 1
   exact tab_ext _ _ _ (fun i hi => by rw [if_pos hi])
 ·rw [if_neg h]
  by_cases h1 : kind ≥ 1
  ·rw [dT h1, cond_true, bindF_some]
   by_cases h2 : kind ≤ 5
   ·rw [dT h2, Bool.not_true, cond_false, bindF_some, show tgood t = false by cases ht : tgood t; rfl; exact absurd ⟨by omega, by omega, ht⟩ h]; rfl
   ·rw [dF h2]; rfl
  ·rw [dF h1]; rfl
end Go.Proofs.Op
namespace Go.Proofs.Op
open Go.AM Go.Proofs.PlB Go.Proofs.PlW Go.Proofs.PlT Go.Proofs.PlS Go.Proofs.Sh Go.Proofs.Num Go.Proofs.Div
theorem sameP (a b : List Int) (h : a.length < 4611686018427387904) : f44 a b = some (decide (a = b)) := by
 unfold f44
 rw [show f95 a b = f47 a b from rfl, sameR a b h]; rfl
def foldSt (sp : Nat → Int) (V : List Int) (N : Nat) : Nat → List Int
 | 0 => List.replicate N 0
 | k + 1 => (foldSt sp V N k).set (sp k).toNat (addV (rd (0 : Int) (foldSt sp V N k) (sp k)) (rd (0 : Int) V (k : Int)))
theorem fold_len (sp : Nat → Int) (V : List Int) (N : Nat) : ∀ k, (foldSt sp V N k).length = N
 | 0 => by simp [foldSt]
 | k + 1 => by simp only [foldSt, List.length_set]; exact fold_len sp V N k
theorem inI_set {l : List Int} (h : inI l) (i : Nat) (v : Int) (hv : InR v) : inI (l.set i v) := fun x hx => by
 rcases List.mem_or_eq_of_mem_set hx with h1 | h1
 ·exact h x h1
 ·rw [h1]; exact hv
theorem inI_rep (n : Nat) (v : Int) (hv : InR v) : inI (List.replicate n v) := fun x hx => by
 rw [(List.mem_replicate.1 hx).2]; exact hv
theorem fold_inI (sp : Nat → Int) (V : List Int) (N : Nat) : ∀ k, inI (foldSt sp V N k)
 | 0 => inI_rep _ _ (by decide)
 | k + 1 => by simp only [foldSt]; exact inI_set (fold_inI sp V N k) _ _ (sat_in _)
def foldS (a : Tn) (d : List Int) : Int × Tn :=
 if tgood a = true ∧ 0 < prd d then (if jS d a.1 = (0, a.1) then (0, d, foldSt (spX d a.1) a.2 (prd d).toNat a.2.length) else (4, [], [])) else (1, [], [])
theorem fold_j (r : Int × List Int) (d : List Int) (h : r.2.length < 4611686018427387904) :
  (bif (r.1 != (0 : Int)) then some true else bindF (some (decide (r.2 = d))) fun r18 => some (!r18)) = some (!decide (r = (0, d))) := by
 by_cases h1 : r.1 = 0
 ·rw [nF h1, cond_false, bindF_some]
  by_cases h2 : r.2 = d
  ·rw [dT h2, dT (show r = (0, d) from Prod.ext h1 h2)]
  ·rw [dF h2, dF (show ¬ r = (0, d) from fun h => h2 (by rw [h]))]
 ·rw [nT h1, dF (show ¬ r = (0, d) from fun h => h1 (by rw [h]))]; rfl
theorem jS_len (a b : List Int) (ha : a.length ≤ 4) (hb : b.length ≤ 4) : (jS a b).2.length ≤ 4 := by
 have h1 : jLen a b ≤ 4 := by unfold jLen; split <;> omega
 have h2 : (jL a b).length ≤ 4 := by unfold jL; rw [tab_len]; exact h1
 unfold jS
 split
 ·cases anyB (jLen a b) (jBad a b)
  ·simp only [cond_false]; split
   ·exact h2
   ·exact Nat.zero_le _
  ·exact Nat.zero_le _
 ·exact Nat.zero_le _
theorem foldP (a : Tn) (d : List Int) (ia : inI a.2) : f96 a d = some (foldS a d) := by
 unfold f96 foldS f96_j2 f96_j3
 rw [show ((a.1, a.2) : Tn) = a from rfl, good_ok, shapeGood_ok]
 by_cases h : tgood a = true ∧ 0 < prd d
 ·obtain ⟨hp, hl, l1, l2⟩ := good_len h.1
  have ld := prd_len h.2
  have hr := prd_range d
  rw [if_pos h, h.1, dT (show prd d > 0 from h.2), joinP]
  simp only [bindF_some, Bool.not_true, cond_false, sumF_inl]
  have hj : f96_j6 a (jS d a.1) = some (!decide (jS d a.1 = (0, a.1))) := by
   unfold f96_j6
   have := jS_len d a.1 ld l1
   rw [sameP _ _ (by omega)]
   exact fold_j _ _ (by omega)
  unfold f96_j5
  rw [hj, bindF_some]
  by_cases h2 : jS d a.1 = (0, a.1)
  ·have F := jS_fits.1 h2
   rw [if_pos h2, dT h2, Bool.not_true, cond_false, bindF_some, sumF_inl, new_ok, if_pos h.2, bindF_some, spread_ok F, bindF_some]
   simp only
   rw [show (prd a.1).toNat = a.2.length by omega]
   have := loop_for (B := fun go (x : Int × List Int) => f96_l7 a (tabL a.2.length (spX d a.1)) go x.1 x.2) (fun k => ((k : Int), foldSt (spX d a.1) a.2 (prd d).toNat k)) a.2.length (foldSt (spX d a.1) a.2 (prd d).toNat a.2.length) ?_ ?_ (by omega)
   ·rw [show ((0 : Nat) : Int) = 0 from rfl] at this
    rw [show List.replicate (prd d).toNat 0 = foldSt (spX d a.1) a.2 (prd d).toNat 0 from rfl, this]; rfl
   ·intro k hk go
    unfold f96_l7
    simp only [fold_len, tab_len]
    obtain ⟨s0, s1⟩ := spX_range F k (by omega)
    obtain ⟨sn, hsn⟩ := Int.eq_ofNat_of_zero_le s0
    have q1 := inI_rd (fold_inI (spX d a.1) a.2 (prd d).toNat k) sn (by rw [fold_len]; omega)
    rw [← hsn] at q1
    have q2 := inI_rd ia k hk
    rw [dT (by omega), cond_true, rd_tab _ _ _ _ hk, guardF_pos (by omega), guardF_pos (by omega), guardF_pos (by omega), guardF_pos (by omega), addF_ok _ _ q1.1 q1.2 q2.1 q2.2, bindF_some, guardF_pos (by omega), wrap_i64 (by omega) (by omega)]
    rfl
   ·intro go
    unfold f96_l7
    simp only
    rw [dF (by omega), cond_false]
  ·rw [if_neg h2, dF h2]; rfl
 ·rw [if_neg h]
  cases h1 : tgood a
  ·rfl
  ·rw [dF (fun h3 => h ⟨h1, h3⟩)]; rfl
def slopeV (kind x : Int) : Int :=
 if kind = 1 then (if x > 0 then 4294967296 else 0)
 else if kind = 2 then (if x > 0 then 4294967296 else 536870912)
 else if kind = 3 then (if x > -4294967296 ∧ x < 4294967296 then 4294967296 else 0)
 else if kind = 4 then (if x > 0 then 4294967296 else if x < 0 then -4294967296 else 0)
 else (if x > -4294967296 ∧ x < 4294967296 then 2147483648 else 0)
theorem slope_in (kind x : Int) : InR (slopeV kind x) := by
 unfold slopeV InR
 repeat' split
 all_goals omega
theorem oneP (b : Bool) (x y : Int) : f176 b x y = some (if b = true then x else y) := by cases b <;> rfl
theorem slopeP (kind x : Int) (k0 : 1 ≤ kind) (k5 : kind ≤ 5) : f153 kind x = some (slopeV kind x, 0) := by
 unfold f153 slopeV
 have hj : f153_j1 x = some (decide (x > -4294967296 ∧ x < 4294967296)) := by
  unfold f153_j1
  by_cases h : x > -4294967296
  ·rw [dT h, cond_true]; congr 1; rw [decide_eq_decide]; omega
  ·rw [dF h, dF (show ¬ (x > -4294967296 ∧ x < 4294967296) from fun hh => h hh.1)]; rfl
 rw [hj]
 simp only [bindF_some, oneP, decide_eq_true_eq]
 by_cases k1 : kind = 1
 ·rw [bT k1, if_pos k1]; rfl
 rw [bF k1, if_neg k1, cond_false]
 by_cases k2 : kind = 2
 ·rw [bT k2, if_pos k2]; rfl
 rw [bF k2, if_neg k2, cond_false]
 by_cases k3 : kind = 3
 ·rw [bT k3, if_pos k3]; rfl
 rw [bF k3, if_neg k3, cond_false]
 by_cases k4 : kind = 4
 ·rw [bT k4, if_pos k4, cond_true]
  unfold f177
  by_cases h : x < 0
  ·rw [dT h, if_neg (by omega), if_pos h]; rfl
  ·rw [dF h, cond_false]
   by_cases h1 : x > 0
   ·rw [dT h1, if_pos h1]; rfl
   ·rw [dF h1, if_neg h1, if_neg h]; rfl
 rw [bF k4, if_neg k4, cond_false, bT (by omega)]; rfl
def unbentS (kind : Int) (t g : Tn) : Int × Tn :=
 if 1 ≤ kind ∧ kind ≤ 5 ∧ tgood t = true ∧ tgood g = true then (if t.1 = g.1 then (0, t.1, tabL t.2.length (fun i => mulX (rd (0 : Int) g.2 i) (slopeV kind (rd (0 : Int) t.2 i)))) else (4, [], [])) else (1, [], [])
theorem unbentP (kind : Int) (t g : Tn) (ig : inI g.2) : f102 kind t g = some (unbentS kind t g) := by
 unfold f102 unbentS f102_j2 f102_j3 f140
 rw [show ((t.1, t.2) : Tn) = t from rfl, show ((g.1, g.2) : Tn) = g from rfl, good_ok, good_ok]
 by_cases h : 1 ≤ kind ∧ kind ≤ 5 ∧ tgood t = true ∧ tgood g = true
 ·obtain ⟨hp, hl, l1, l2⟩ := good_len h.2.2.1
  obtain ⟨gp, gl, m1, m2⟩ := good_len h.2.2.2
  rw [if_pos h, dT (show kind ≥ 1 by omega), cond_true, bindF_some, dT (show kind ≤ 5 by omega), h.2.2.1, h.2.2.2, sameP _ _ (by omega)]
  simp only [bindF_some, Bool.not_true, cond_false]
  by_cases h2 : t.1 = g.1
  ·have hlen : g.2.length = t.2.length := by rw [h2] at hl; omega
   rw [if_pos h2, dT h2, Bool.not_true, cond_false, bindF_some, sumF_inl, copy_t g (by omega) (by omega), bindF_some]
   have := loop_for (B := fun go (x : Int × List Int) => f102_l4 kind t g go x.1 x.2) (fun j => ((j : Int), tabL t.2.length (fun i => if i < j then mulX (rd (0 : Int) g.2 i) (slopeV kind (rd (0 : Int) t.2 i)) else rd (0 : Int) g.2 i))) t.2.length (tabL t.2.length (fun i => mulX (rd (0 : Int) g.2 i) (slopeV kind (rd (0 : Int) t.2 i)))) ?_ ?_ (by omega)
   ·have e0 : tabL t.2.length (fun i => if i < 0 then mulX (rd (0 : Int) g.2 i) (slopeV kind (rd (0 : Int) t.2 i)) else rd (0 : Int) g.2 i) = g.2 := by
     apply List.ext_getElem (by rw [tab_len, hlen])
     intro i h1 h2
     rw [tab_get, if_neg (by omega), rd_nat _ _ _ h2]
    rw [show ((0 : Nat) : Int) = 0 from rfl, e0] at this
    rw [this, bindF_some, h2]
   ·intro j hj go
    unfold f102_l4
    simp only [tab_len]
    have q := inI_rd ig j (by omega)
    have s := slope_in kind (rd (0 : Int) t.2 j)
    rw [dT (by omega), cond_true, guardF_pos (by omega), slopeP _ _ h.1 h.2.1, bindF_some, guardF_pos (by omega), mulF_ok _ _ q.1 q.2 s.1 s.2, bindF_some, guardF_pos (by omega), wrap_i64 (by omega) (by omega), Int.toNat_natCast, tab_set]
    congr 1
    refine Prod.ext rfl (tab_ext _ _ _ (fun i hi => ?_))
    by_cases hik : i = j
    ·rw [if_pos hik, if_pos (by omega), hik]
    ·rw [if_neg hik]
     by_cases h2 : i < j
     ·rw [if_pos h2, if_pos (by omega)]
     ·rw [if_neg h2, if_neg (by omega)]
   ·intro go
    unfold f102_l4
    simp only
    rw [dF (by omega), cond_false]
    congr 1
    exact tab_ext _ _ _ (fun i hi => by rw [if_pos hi])
  ·rw [if_neg h2, dF h2]; rfl
 ·rw [if_neg h]
  by_cases h1 : kind ≥ 1
  ·rw [dT h1, cond_true, bindF_some]
   by_cases h2 : kind ≤ 5
   ·rw [dT h2]
    cases ht : tgood t
    ·rfl
    ·cases hgg : tgood g
     ·rfl
     ·exact absurd ⟨h1, h2, ht, hgg⟩ h
   ·rw [dF h2]; rfl
  ·rw [dF h1]; rfl
end Go.Proofs.Op
namespace Go.Proofs.Op
open Go.AM Go.Proofs.PlB Go.Proofs.PlW Go.Proofs.PlT Go.Proofs.PlS Go.Proofs.Sh Go.Proofs.Num Go.Proofs.Div Go.Proofs.PlR
theorem fits_self {d : List Int} (h : 0 < prd d) : Fits d d := ⟨h, h, Nat.le_refl _, fun k hk h1 => rfl⟩
theorem acc_self {d : List Int} (h : 0 < prd d) (v : Int) (v0 : 0 ≤ v) (v1 : v ≤ 4096) : ∀ k, k ≤ d.length → accS d d v k + strd d k * rst d v k = v
 | 0, _ => by simp only [accS, rst, strd_zero]; omega
 | k + 1, hk => by
  have ih := acc_self h v v0 v1 k (by omega)
  obtain ⟨s0, s1⟩ := side_pos h k
  rw [strd_succ d k hk]
  simp only [accS, rst]
  have e := Int.mul_ediv_add_emod (rst d v k) (side d k)
  have e2 : (if side d k > 1 then rst d v k % side d k * strd d k else 0) = rst d v k % side d k * strd d k := by
   split
   ·rfl
   ·have : side d k = 1 := by omega
    rw [this, Int.emod_one, Int.zero_mul]
  rw [e2]
  have e3 : side d k * strd d k * (rst d v k / side d k) = strd d k * (side d k * (rst d v k / side d k)) := by
   rw [Int.mul_comm (side d k), Int.mul_assoc]
  have e4 : strd d k * rst d v k = strd d k * (side d k * (rst d v k / side d k)) + rst d v k % side d k * strd d k := by
   conv => lhs; rw [← e]
   rw [Int.mul_add, Int.mul_comm (strd d k) (rst d v k % side d k)]
  omega
theorem rst_all {d : List Int} (h : 0 < prd d) (v : Int) (v0 : 0 ≤ v) (v1 : v < prd d) : rst d v d.length = 0 := by
 have hr := prd_range d
 have e := acc_self h v v0 (by omega) d.length (Nat.le_refl _)
 obtain ⟨a, b⟩ := acc_range (fits_self h) v v0 (by omega) d.length (Nat.le_refl _)
 obtain ⟨r0, r1⟩ := rst_range h v v0 (by omega) d.length
 rw [strd_all, ← (prd_prod h).1] at e
 by_cases hz : rst d v d.length = 0
 ·exact hz
 ·have : prd d * 1 ≤ prd d * rst d v d.length := Int.mul_le_mul_of_nonneg_left (by omega) (by omega)
  omega
theorem spX_self {d : List Int} (h : 0 < prd d) (i : Nat) (hi : (i : Int) < prd d) : spX d d i = i := by
 have hr := prd_range d
 have e := acc_self h (i : Int) (by omega) (by omega) d.length (Nat.le_refl _)
 rw [rst_all h _ (by omega) hi, Int.mul_zero, Int.add_zero] at e
 exact e
def addT (a b : Tn) : Tn := (a.1, tabL a.2.length (fun i => addV (rd (0 : Int) a.2 i) (rd (0 : Int) b.2 i)))
theorem both_self (f : Int → Int → Int) (a b : Tn) (ga : tgood a = true) (gb : tgood b = true) (h : a.1 = b.1) : bothS f a b = (0, a.1, tabL a.2.length (fun i => f (rd (0 : Int) a.2 i) (rd (0 : Int) b.2 i))) := by
 obtain ⟨pa, la, _, _⟩ := good_len ga
 unfold bothS
 rw [if_pos ⟨ga, gb⟩, ← h, jS_fits.2 (fits_self pa), if_pos rfl]
 congr 2
 simp only
 rw [show (prd a.1).toNat = a.2.length by omega]
 exact tab_ext _ _ _ (fun i hi => by rw [spX_self pa i (by omega)])
theorem tgood_of {t : Tn} (h : 0 < prd t.1) (hl : (t.2.length : Int) = prd t.1) : tgood t = true := by
 unfold tgood; rw [dT (show prd t.1 > 0 from h), bT hl]; rfl
def gn (l : List Nd) (i : Nat) : Nd := rd (Ty.z (.p (.int .i64) (.p (.int .i64) (.p (.int .i64) (.p (.int .i64) (.p (.sl (.int .i64)) (.sl (.int .i64)))))))) l (i : Int)
def GoodT (t : Tn) : Prop := tgood t = true ∧ inI t.2
def vl (l : List Nd) (n : Int) : Tn := if 0 ≤ n ∧ n < l.length then nd l n.toNat else ([], [])
theorem hasP (l : List Nd) (n : Int) : f39 l n = some (decide (0 ≤ n ∧ n < l.length), l) := by
 unfold f39
 by_cases h : n ≥ 0
 ·rw [dT h, cond_true]
  congr 2
  rw [decide_eq_decide]; omega
 ·rw [dF h, cond_false, dF (show ¬ (0 ≤ n ∧ n < l.length) from fun hh => h hh.1)]
theorem atP (l : List Nd) (i : Nat) (h : i < l.length) (hg : GoodT (nd l i)) : f37 l (i : Int) = some ((gn l i).1, (gn l i).2.1, (gn l i).2.2.1, (gn l i).2.2.2.1, true, (nd l i).1, (nd l i).2, l) := by
 obtain ⟨_, _, l1, l2⟩ := good_len hg.1
 unfold f37
 rw [hasP, bindF_some, dT (by omega)]
 simp only [Bool.not_true, cond_false]
 rw [guardF_pos (by omega)]
 show bindF (f35 (nd l i)) _ = _
 rw [copy_t _ (by omega) (by omega), bindF_some]
 rfl
theorem atP_none (l : List Nd) (n : Int) (h : ¬ (0 ≤ n ∧ n < l.length)) : f37 l n = some (0, 0, 0, 0, false, [], [], l) := by
 unfold f37
 rw [hasP, bindF_some, dF h]
 rfl
theorem valueP (l : List Nd) (n : Int) (hg : ∀ i, i < l.length → GoodT (nd l i)) : f26 l n = some (decide (0 ≤ n ∧ n < l.length), (vl l n).1, (vl l n).2, l) := by
 unfold f26 vl
 by_cases h : 0 ≤ n ∧ n < l.length
 ·obtain ⟨i, rfl⟩ := Int.eq_ofNat_of_zero_le h.1
  rw [atP l i (by omega) (hg i (by omega)), bindF_some, if_pos h, dT h, Int.toNat_natCast]
 ·rw [atP_none l n h, bindF_some, if_neg h, dF h]
theorem oneT (l : List Nd) (hg : ∀ i, i < l.length → GoodT (nd l i)) (i : Nat) (h : i < l.length) (g ga gb : Tn) (gg : tgood g = true) (hd : g.1 = (nd l i).1)
  (hA : f45 (gn l i) (vl l (gn l i).2.1) (vl l (gn l i).2.2.1) g = some (0, ga)) (hB : f46 (gn l i) (vl l (gn l i).2.1) (vl l (gn l i).2.2.1) g = some (0, gb)) :
  f18 l (i : Int) g = some (0, ga.1, ga.2, gb.1, gb.2, l) := by
 obtain ⟨_, _, l1, _⟩ := good_len gg
 unfold f18
 rw [atP l i h (hg i h), bindF_some]
 have hj : f18_j2 g ((gn l i).1, (gn l i).2.1, (gn l i).2.2.1, (gn l i).2.2.2.1, true, (nd l i).1, (nd l i).2, l) = some (Sum.inl ()) := by
  unfold f18_j2 f18_j3
  simp only [Bool.not_true, cond_false]
  rw [show ((g.1, g.2) : Tn) = g from rfl, good_ok, gg, sameP _ _ (by omega), dT hd]
  rfl
 rw [hj, bindF_some, sumF_inl]
 simp only
 rw [valueP l _ hg, bindF_some]
 simp only
 rw [valueP l _ hg, bindF_some]
 have eA : f45 ((gn l i).1, (gn l i).2.1, (gn l i).2.2.1, (gn l i).2.2.2.1, (nd l i).1, (nd l i).2) ((vl l (gn l i).2.1).1, (vl l (gn l i).2.1).2) ((vl l (gn l i).2.2.1).1, (vl l (gn l i).2.2.1).2) (g.1, g.2) = some (0, ga) := hA
 have eB : f46 ((gn l i).1, (gn l i).2.1, (gn l i).2.2.1, (gn l i).2.2.2.1, (nd l i).1, (nd l i).2) ((vl l (gn l i).2.1).1, (vl l (gn l i).2.1).2) ((vl l (gn l i).2.2.1).1, (vl l (gn l i).2.2.1).2) (g.1, g.2) = some (0, gb) := hB
 rw [eA, bindF_some, nF rfl, cond_false, eB, bindF_some, nF rfl, cond_false]
structure NodeOk (l : List Nd) (i : Nat) (ga gb : Tn → Tn) : Prop where
 a : ∀ g, GoodT g → g.1 = (nd l i).1 → f45 (gn l i) (vl l (gn l i).2.1) (vl l (gn l i).2.2.1) g = some (0, ga g)
 b : ∀ g, GoodT g → g.1 = (nd l i).1 → f46 (gn l i) (vl l (gn l i).2.1) (vl l (gn l i).2.2.1) g = some (0, gb g)
 ta : ∀ g, GoodT g → g.1 = (nd l i).1 → 0 ≤ (gn l i).2.1 → (gn l i).2.1 < i ∧ GoodT (ga g) ∧ (ga g).1 = (nd l (gn l i).2.1.toNat).1
 tb : ∀ g, GoodT g → g.1 = (nd l i).1 → 0 ≤ (gn l i).2.2.1 → (gn l i).2.2.1 < i ∧ GoodT (gb g) ∧ (gb g).1 = (nd l (gn l i).2.2.1.toNat).1
abbrev Z2 : Tn := Ty.z (.p (.sl (.int .i64)) (.sl (.int .i64)))
def giveS (st : List Tn × List Bool) (n : Int) (g : Tn) : List Tn × List Bool :=
 if n < 0 then st else (st.1.set n.toNat (addT (rd Z2 st.1 n) g), st.2.set n.toNat true)
def zer (l : List Nd) (i : Nat) : Tn := ((nd l i).1, List.replicate (prd (nd l i).1).toNat 0)
def glist (l : List Nd) (k : Nat) : List Tn := (List.range k).map (zer l)
theorem glist_len (l : List Nd) (k : Nat) : (glist l k).length = k := by simp [glist]
theorem glist_succ (l : List Nd) (k : Nat) : glist l (k + 1) = glist l k ++ [zer l k] := by simp [glist, List.range_succ]
def swp (l : List Nd) (GA GB : Nat → Tn → Tn) (root : Nat) : Nat → List Tn × List Bool
 | 0 => (glist l root ++ [((nd l root).1, [4294967296])], (List.replicate (root + 1) false).set root true)
 | k + 1 => if rd false (swp l GA GB root k).2 ((root - k : Nat) : Int) = true then
   giveS (giveS (swp l GA GB root k) (gn l (root - k)).2.1 (GA (root - k) (rd Z2 (swp l GA GB root k).1 ((root - k : Nat) : Int)))) (gn l (root - k)).2.2.1 (GB (root - k) (rd Z2 (swp l GA GB root k).1 ((root - k : Nat) : Int)))
  else swp l GA GB root k
structure Keeps (l : List Nd) (root : Nat) (st : List Tn × List Bool) : Prop where
 l1 : st.1.length = root + 1
 l2 : st.2.length = root + 1
 ok : ∀ i, i ≤ root → GoodT (rd Z2 st.1 (i : Int)) ∧ (rd Z2 st.1 (i : Int)).1 = (nd l i).1
theorem rd_set {α : Type} (z : α) (xs : List α) (i j : Nat) (v : α) (hj : j < xs.length) : rd z (xs.set i v) (j : Int) = if i = j then v else rd z xs (j : Int) := by
 rw [rd_nat _ _ _ (by rw [List.length_set]; exact hj), List.getElem_set]
 split
 ·rfl
 ·rw [rd_nat _ _ _ hj]
theorem good_addT {a b : Tn} (ha : GoodT a) (h : a.1 = b.1) : GoodT (addT a b) ∧ (addT a b).1 = a.1 := by
 obtain ⟨pa, la, _, _⟩ := good_len ha.1
 exact ⟨⟨tgood_of pa (by unfold addT; rw [tab_len]; exact la), inI_tab (fun i hi => sat_in _)⟩, rfl⟩
theorem giveP (l : List Nd) (root : Nat) (st : List Tn × List Bool) (K : Keeps l root st) (n : Int) (g : Tn) (h : 0 ≤ n → n ≤ root ∧ GoodT g ∧ g.1 = (nd l n.toNat).1) :
  f38 st.1 st.2 n g = some (0, giveS st n g) ∧ Keeps l root (giveS st n g) := by
 unfold f38 giveS
 by_cases hn : n < 0
 ·rw [dT hn, if_pos hn]; exact ⟨rfl, K⟩
 ·obtain ⟨h1, h2, h3⟩ := h (by omega)
  obtain ⟨i, rfl⟩ := Int.eq_ofNat_of_zero_le (show 0 ≤ n by omega)
  rw [Int.toNat_natCast] at h3
  obtain ⟨k1, k2⟩ := K.ok i (by omega)
  have l1 := K.l1
  have l2 := K.l2
  rw [dF hn, if_neg hn, cond_false, guardF_pos (by omega)]
  have ea : f81 ((rd Z2 st.1 (i : Int)).1, (rd Z2 st.1 (i : Int)).2) (g.1, g.2) = some (0, addT (rd Z2 st.1 (i : Int)) g) := by
   rw [show (((rd Z2 st.1 (i : Int)).1, (rd Z2 st.1 (i : Int)).2) : Tn) = rd Z2 st.1 (i : Int) from rfl, show ((g.1, g.2) : Tn) = g from rfl, addP _ _ k1.2 h2.2, both_self _ _ _ k1.1 h2.1 (by rw [k2, h3])]
   rfl
  have ea2 : f81 ((rd (Ty.z (.p (.sl (.int .i64)) (.sl (.int .i64)))) st.1 (i : Int)).1, (rd (Ty.z (.p (.sl (.int .i64)) (.sl (.int .i64)))) st.1 (i : Int)).2) (g.1, g.2) = some (0, addT (rd Z2 st.1 (i : Int)) g) := ea
  rw [ea2, bindF_some, guardF_pos (by omega), guardF_pos (by omega)]
  refine ⟨rfl, by simp only [List.length_set]; exact l1, by simp only [List.length_set]; exact l2, fun j hj => ?_⟩
  simp only [Int.toNat_natCast]
  rw [rd_set _ _ _ _ _ (by omega)]
  obtain ⟨q1, q2⟩ := good_addT (a := rd Z2 st.1 (i : Int)) (b := g) k1 (by rw [k2, h3])
  split
  ·next e => subst e; exact ⟨q1, by rw [q2, k2]⟩
  ·exact K.ok j hj
theorem rd_app {α : Type} (z : α) (l : List α) (v : α) (i : Nat) (h : i < l.length) : rd z (l ++ [v]) (i : Int) = rd z l (i : Int) := by
 rw [rd_nat _ _ _ (by rw [List.length_append]; simp; omega), rd_nat _ _ _ h, List.getElem_append_left h]
theorem rd_last {α : Type} (z : α) (l : List α) (v : α) : rd z (l ++ [v]) (l.length : Int) = v := by
 rw [rd_nat _ _ _ (by rw [List.length_append]; simp), List.getElem_append_right (Nat.le_refl _)]
 simp
theorem glist_rd (l : List Nd) (k i : Nat) (h : i < k) : rd Z2 (glist l k) (i : Int) = zer l i := by
 rw [rd_nat _ _ _ (by rw [glist_len]; exact h)]; simp [glist]
theorem zer_good (l : List Nd) (i : Nat) (h : GoodT (nd l i)) : GoodT (zer l i) := by
 obtain ⟨p, _, _, _⟩ := good_len h.1
 have := prd_range (nd l i).1
 refine ⟨tgood_of p ?_, inI_rep _ _ (by decide)⟩
 unfold zer; simp only [List.length_replicate]; omega
theorem keeps0 (l : List Nd) (GA GB : Nat → Tn → Tn) (root : Nat) (hr : root < l.length) (hg : ∀ i, i < l.length → GoodT (nd l i)) (h1 : prd (nd l root).1 = 1) : Keeps l root (swp l GA GB root 0) := by
 refine ⟨by simp [swp, glist_len], by simp [swp], fun i hi => ?_⟩
 simp only [swp]
 by_cases h : i < root
 ·rw [rd_app _ _ _ _ (by rw [glist_len]; exact h), glist_rd _ _ _ h]
  exact ⟨zer_good l i (hg i (by omega)), rfl⟩
 ·obtain rfl : i = root := by omega
  have e := rd_last Z2 (glist l i) ((nd l i).1, [4294967296])
  rw [glist_len] at e
  rw [e]
  exact ⟨⟨tgood_of (by simp only; omega) (by simp only [List.length_cons, List.length_nil]; omega), fun x hx => by rw [List.mem_singleton.1 hx]; decide⟩, rfl⟩
theorem keeps (l : List Nd) (GA GB : Nat → Tn → Tn) (root : Nat) (hr : root < l.length) (hg : ∀ i, i < l.length → GoodT (nd l i)) (h1 : prd (nd l root).1 = 1)
  (hn : ∀ n, n ≤ root → NodeOk l n (GA n) (GB n)) : ∀ k, k ≤ root + 1 → Keeps l root (swp l GA GB root k)
 | 0, _ => keeps0 l GA GB root hr hg h1
 | k + 1, hk => by
  have K := keeps l GA GB root hr hg h1 hn k (by omega)
  simp only [swp]
  split
  ·have N := hn (root - k) (by omega)
   obtain ⟨q1, q2⟩ := K.ok (root - k) (by omega)
   have s1 := giveP l root _ K (gn l (root - k)).2.1 (GA (root - k) (rd Z2 (swp l GA GB root k).1 ((root - k : Nat) : Int))) (fun h => by
    obtain ⟨a, b, c⟩ := N.ta _ q1 q2 h; exact ⟨by omega, b, c⟩)
   exact (giveP l root _ s1.2 (gn l (root - k)).2.2.1 (GB (root - k) (rd Z2 (swp l GA GB root k).1 ((root - k : Nat) : Int))) (fun h => by
    obtain ⟨a, b, c⟩ := N.tb _ q1 q2 h; exact ⟨by omega, b, c⟩)).2
  ·exact K
def sw1 (l : List Nd) : Nat → Int × List Nd × List Tn × Int × List Int × List Int
 | 0 => (0, l, [], 0, [], [])
 | k + 1 => (((k + 1 : Nat) : Int), l, glist l k ++ [Z2], (k : Int), (zer l k).1, (zer l k).2)
theorem set_last {α : Type} (l : List α) (v w : α) : (l ++ [v]).set l.length w = l ++ [w] := by
 rw [List.set_append_right _ _ (Nat.le_refl _)]; simp
theorem sweepP (l : List Nd) (GA GB : Nat → Tn → Tn) (root : Nat) (hr : root < l.length) (hl : l.length ≤ 512) (hg : ∀ i, i < l.length → GoodT (nd l i)) (h1 : prd (nd l root).1 = 1)
  (hn : ∀ n, n ≤ root → NodeOk l n (GA n) (GB n)) : f16 l (root : Int) = some (0, (swp l GA GB root (root + 1)).1, l) := by
 have hroot := hg root hr
 obtain ⟨_, lr, lr1, _⟩ := good_len hroot.1
 unfold f16
 rw [valueP l _ hg, bindF_some]
 have ev : vl l (root : Int) = nd l root := by unfold vl; rw [if_pos (by omega), Int.toNat_natCast]
 simp only [ev]
 rw [dT (show 0 ≤ (root : Int) ∧ (root : Int) < l.length by omega), Bool.not_true, cond_false, dF (show ¬ ((nd l root).2.length : Int) > 1 by omega), cond_false]
 have wr : IntKind.i64.wrap ((root : Int) + 1) = ((root + 1 : Nat) : Int) := by rw [wrap_i64 (by omega) (by omega)]; omega
 rw [wr, guardF_pos (by omega)]
 have L1 := loop_for (B := fun go (x : Int × List Nd × List Tn × Int × List Int × List Int) => f16_l1 (root : Int) go x.1 x.2.1 x.2.2.1 x.2.2.2.1 x.2.2.2.2.1 x.2.2.2.2.2) (sw1 l) (root + 1) (sw1 l (root + 1)).2 ?_ ?_ (by omega)
 ·have e0 : sw1 l 0 = ((0 : Int), l, [], (0 : Int), [], []) := rfl
  rw [e0, show (sw1 l (root + 1)).2 = (l, glist l root ++ [Z2], (root : Int), (zer l root).1, (zer l root).2) from rfl] at L1
  rw [L1, bindF_some]
  simp only
  rw [guardF_pos (by rw [List.length_append, glist_len]; simp; omega), guardF_pos trivial]
  have hz : (zer l root).2 = [0] := by unfold zer; rw [h1]; rfl
  rw [hz, guardF_pos (by decide), guardF_pos (by simp; omega)]
  have es : List.set (glist l root ++ [Z2]) (Int.toNat (root : Int)) ((zer l root).1, List.set [(0 : Int)] (Int.toNat (0 : Int)) 4294967296) = (swp l GA GB root 0).1 := by
   have := set_last (glist l root) Z2 ((zer l root).1, List.set [(0 : Int)] (Int.toNat (0 : Int)) 4294967296)
   rw [glist_len] at this
   rw [Int.toNat_natCast, this]; rfl
  have eg : List.set (List.replicate (Int.toNat ((root + 1 : Nat) : Int)) false) (Int.toNat (root : Int)) true = (swp l GA GB root 0).2 := by
   rw [Int.toNat_natCast, Int.toNat_natCast]; rfl
  rw [es, eg]
  have L2 := loop_for (B := fun go (x : Int × List Nd × List Tn × List Bool) => f16_l2 go x.1 x.2.1 x.2.2.1 x.2.2.2) (fun k => ((root : Int) - (k : Int), l, (swp l GA GB root k).1, (swp l GA GB root k).2)) (root + 1)
   (Sum.inr ((swp l GA GB root (root + 1)).1, (swp l GA GB root (root + 1)).2, l)) ?_ ?_ (by omega)
  ·have e2 : ((root : Int) - ((0 : Nat) : Int), l, (swp l GA GB root 0).1, (swp l GA GB root 0).2) = ((root : Int), l, (swp l GA GB root 0).1, (swp l GA GB root 0).2) := by
    rw [show (root : Int) - ((0 : Nat) : Int) = (root : Int) by omega]
   rw [e2] at L2
   rw [L2, bindF_some, sumF_inr]
  ·intro k hk go
   have K := keeps l GA GB root hr hg h1 hn k (by omega)
   have kl1 := K.l1
   have kl2 := K.l2
   unfold f16_l2
   simp only
   rw [show (root : Int) - (k : Int) = ((root - k : Nat) : Int) by omega, dT (by omega), cond_true, guardF_pos (by omega)]
   have wn : IntKind.i64.wrap (((root - k : Nat) : Int) - 1) = (root : Int) - ((k + 1 : Nat) : Int) := by rw [wrap_i64 (by omega) (by omega)]; omega
   simp only [swp]
   cases hb : rd false (swp l GA GB root k).2 ((root - k : Nat) : Int)
   ·rw [Bool.not_false, cond_true, wn, if_neg (by decide)]
   ·rw [Bool.not_true, cond_false, if_pos rfl]
    have N := hn (root - k) (by omega)
    obtain ⟨q1, q2⟩ := K.ok (root - k) (by omega)
    rw [atP l (root - k) (by omega) (hg _ (by omega)), bindF_some, guardF_pos (by omega)]
    simp only
    have eo := oneT l hg (root - k) (by omega) _ _ _ q1.1 q2 (N.a _ q1 q2) (N.b _ q1 q2)
    have eo2 : f18 l ((root - k : Nat) : Int) ((rd (Ty.z (.p (.sl (.int .i64)) (.sl (.int .i64)))) (swp l GA GB root k).1 ((root - k : Nat) : Int)).1, (rd (Ty.z (.p (.sl (.int .i64)) (.sl (.int .i64)))) (swp l GA GB root k).1 ((root - k : Nat) : Int)).2) = _ := eo
    have s1 := giveP l root _ K (gn l (root - k)).2.1 (GA (root - k) (rd Z2 (swp l GA GB root k).1 ((root - k : Nat) : Int))) (fun h => by
     obtain ⟨a, b, c⟩ := N.ta _ q1 q2 h; exact ⟨by omega, b, c⟩)
    have s2 := giveP l root _ s1.2 (gn l (root - k)).2.2.1 (GB (root - k) (rd Z2 (swp l GA GB root k).1 ((root - k : Nat) : Int))) (fun h => by
     obtain ⟨a, b, c⟩ := N.tb _ q1 q2 h; exact ⟨by omega, b, c⟩)
    rw [eo2, bindF_some, nF rfl, cond_false]
    simp only
    have g1 : f38 (swp l GA GB root k).1 (swp l GA GB root k).2 (gn l (root - k)).2.1 ((GA (root - k) (rd Z2 (swp l GA GB root k).1 ((root - k : Nat) : Int))).1, (GA (root - k) (rd Z2 (swp l GA GB root k).1 ((root - k : Nat) : Int))).2) = _ := s1.1
    rw [g1, bindF_some, nF rfl, cond_false]
    simp only
    have g2 : f38 _ _ (gn l (root - k)).2.2.1 ((GB (root - k) (rd Z2 (swp l GA GB root k).1 ((root - k : Nat) : Int))).1, (GB (root - k) (rd Z2 (swp l GA GB root k).1 ((root - k : Nat) : Int))).2) = _ := s2.1
    rw [g2, bindF_some, nF rfl, cond_false, wn]
  ·intro go
   unfold f16_l2
   simp only
   rw [dF (by omega), cond_false]
 ·intro k hk go
  have hgk := hg k (by omega)
  obtain ⟨pk, _, _, _⟩ := good_len hgk.1
  have evk : vl l (k : Int) = nd l k := by unfold vl; rw [if_pos (by omega), Int.toNat_natCast]
  have en : f36 (nd l k).1 0 = some (0, (zer l k).1, (zer l k).2) := by rw [new_ok, if_pos pk]; rfl
  cases k with
  | zero =>
   show f16_l1 (root : Int) go 0 l [] 0 [] [] = go (((0 + 1 : Nat) : Int), l, glist l 0 ++ [Z2], ((0 : Nat) : Int), (zer l 0).1, (zer l 0).2)
   unfold f16_l1
   rw [show ((0 : Nat) : Int) = 0 from rfl] at evk
   rw [wr, dT (by omega), cond_true, valueP l _ hg, bindF_some]
   simp only
   rw [evk, en, bindF_some, guardF_pos (by simp)]
   rfl
  | succ j =>
   show f16_l1 (root : Int) go ((j + 1 : Nat) : Int) l (glist l j ++ [Z2]) (j : Int) (zer l j).1 (zer l j).2 = go (((j + 1 + 1 : Nat) : Int), l, glist l (j + 1) ++ [Z2], ((j + 1 : Nat) : Int), (zer l (j + 1)).1, (zer l (j + 1)).2)
   unfold f16_l1
   rw [wr, dT (by omega), cond_true, valueP l _ hg, bindF_some]
   simp only
   rw [evk, en, bindF_some]
   have es : List.set (glist l j ++ [Z2]) (Int.toNat (j : Int)) ((zer l j).1, (zer l j).2) = glist l (j + 1) := by
    have := set_last (glist l j) Z2 ((zer l j).1, (zer l j).2)
    rw [glist_len] at this
    rw [Int.toNat_natCast, this, glist_succ]
   rw [es, guardF_pos (by rw [glist_len]; omega), wrap_i64 (by omega) (by omega), glist_len]
   rfl
 ·intro go
  show f16_l1 (root : Int) go ((root + 1 : Nat) : Int) l (glist l root ++ [Z2]) (root : Int) (zer l root).1 (zer l root).2 = _
  unfold f16_l1
  rw [wr, dF (by omega), cond_false]
  rfl
end Go.Proofs.Op
namespace Go.Proofs.Op
open Go.AM Go.Proofs.PlB Go.Proofs.PlW Go.Proofs.PlT Go.Proofs.PlS Go.Proofs.Sh Go.Proofs.Num Go.Proofs.Div Go.Proofs.PlR
theorem anyB_congr {n : Nat} {P Q : Nat → Bool} (h : ∀ i, P i = Q i) : anyB n P = anyB n Q := by rw [show P = Q from funext h]
theorem jS_comm (a b : List Int) : jS a b = jS b a := by
 have e1 : jLen a b = jLen b a := by unfold jLen; split <;> split <;> omega
 have e2 : ∀ k, jMax a b k = jMax b a k := fun k => by unfold jMax; split <;> split <;> omega
 have e3 : jL a b = jL b a := by unfold jL; rw [e1]; exact tab_ext _ _ _ (fun i _ => e2 _)
 have e4 : anyB (jLen a b) (jBad a b) = anyB (jLen b a) (jBad b a) := by
  rw [e1]
  refine anyB_congr (fun k => ?_)
  unfold jBad
  rw [Bool.and_comm (side a k != 1), bne_comm]
 unfold jS
 rw [e3, e4]
 by_cases h : 0 < prd a ∧ 0 < prd b
 ·rw [if_pos h, if_pos (show 0 < prd b ∧ 0 < prd a from ⟨h.2, h.1⟩)]
 ·rw [if_neg h, if_neg (show ¬ (0 < prd b ∧ 0 < prd a) from fun h2 => h ⟨h2.2, h2.1⟩)]
theorem sat_id {x : Int} (h : InR x) : sat x = x := by unfold InR at h; unfold sat; rw [if_neg (by omega), if_neg (by omega)]
theorem addV_zero {x : Int} (h : InR x) : addV 0 x = x := by unfold addV; rw [Int.zero_add, sat_id h]
def foldT (g : Tn) (d : List Int) : Tn := (d, foldSt (spX d g.1) g.2 (prd d).toNat g.2.length)
theorem foldS_fit {g : Tn} {d : List Int} (hg : GoodT g) (h : Fits d g.1) : foldS g d = (0, foldT g d) := by
 unfold foldS foldT
 rw [if_pos ⟨hg.1, h.pd⟩, if_pos (jS_fits.2 h)]
theorem foldT_good {g : Tn} {d : List Int} (h : 0 < prd d) : GoodT (foldT g d) :=
 ⟨tgood_of h (by have := prd_range d; show ((foldSt _ _ _ _).length : Int) = prd d; rw [fold_len]; omega), fold_inI _ _ _ _⟩
theorem fold_id {g : Tn} (hg : GoodT g) : foldT g g.1 = g := by
 obtain ⟨p, l, _, _⟩ := good_len hg.1
 have key : ∀ k, k ≤ g.2.length → foldSt (spX g.1 g.1) g.2 g.2.length k = tabL g.2.length (fun i => if i < k then rd (0 : Int) g.2 i else 0) := fun k => by
  induction k with
  | zero => intro _; simp only [foldSt]; rw [tab_rep]; exact tab_ext _ _ _ (fun i hi => by rw [if_neg (by omega)])
  | succ k ih =>
   intro hk
   simp only [foldSt]
   rw [spX_self p k (by omega), ih (by omega), rd_tab _ _ _ _ (by omega), if_neg (by omega), addV_zero (inI_rd hg.2 k (by omega)), Int.toNat_natCast, tab_set]
   refine tab_ext _ _ _ (fun i hi => ?_)
   by_cases h : i = k
   ·rw [if_pos h, if_pos (by omega), h]
   ·rw [if_neg h]
    by_cases h2 : i < k
    ·rw [if_pos h2, if_pos (by omega)]
    ·rw [if_neg h2, if_neg (by omega)]
 unfold foldT
 rw [show (prd g.1).toNat = g.2.length by omega, key _ (Nat.le_refl _)]
 refine Prod.ext rfl ?_
 apply List.ext_getElem (tab_len _ _)
 intro i h1 h2
 rw [tab_get, if_pos h2, rd_nat _ _ _ h2]
def mulT (g b : Tn) : Tn := (g.1, tabL g.2.length (fun i => mulX (rd (0 : Int) g.2 i) (rd (0 : Int) b.2 (spX b.1 g.1 i))))
theorem mulS_fit {g b : Tn} (hg : GoodT g) (hb : GoodT b) (h : Fits b.1 g.1) : bothS mulX g b = (0, mulT g b) := by
 obtain ⟨p, l, _, _⟩ := good_len hg.1
 unfold bothS mulT
 rw [if_pos ⟨hg.1, hb.1⟩, jS_comm, jS_fits.2 h, if_pos rfl]
 congr 2
 simp only
 rw [show (prd g.1).toNat = g.2.length by omega]
 exact tab_ext _ _ _ (fun i hi => by rw [spX_self p i (by omega)])
theorem mulT_good {g b : Tn} (hg : GoodT g) : GoodT (mulT g b) := by
 obtain ⟨p, l, _, _⟩ := good_len hg.1
 exact ⟨tgood_of p (by unfold mulT; rw [tab_len]; exact l), inI_tab (fun i hi => sat_in _)⟩
def scaleT (g : Tn) (k : Int) : Tn := (g.1, tabL g.2.length (fun i => mulX (rd (0 : Int) g.2 i) k))
theorem scaleS_good {g : Tn} (hg : GoodT g) (k : Int) : scaleS g k = (0, scaleT g k) := by unfold scaleS scaleT; rw [if_pos hg.1]
theorem scaleT_good {g : Tn} (hg : GoodT g) (k : Int) : GoodT (scaleT g k) := by
 obtain ⟨p, l, _, _⟩ := good_len hg.1
 exact ⟨tgood_of p (by unfold scaleT; rw [tab_len]; exact l), inI_tab (fun i hi => sat_in _)⟩
def newT (d : List Int) (v : Int) : Tn := (d, List.replicate (prd d).toNat v)
theorem newT_good {d : List Int} {v : Int} (h : 0 < prd d) (hv : InR v) : GoodT (newT d v) :=
 ⟨tgood_of h (by have := prd_range d; unfold newT; simp only [List.length_replicate]; omega), inI_rep _ _ hv⟩
abbrev noT : Tn := ([], [])
section
variable (l : List Nd) (i : Nat)
theorem ok_leaf (h : (gn l i).1 = 1) (ha : (gn l i).2.1 = -1) (hb : (gn l i).2.2.1 = -1) : NodeOk l i (fun _ => noT) (fun _ => noT) := by
 refine ⟨fun g _ _ => ?_, fun g _ _ => ?_, fun g _ _ h0 => absurd h0 (by rw [ha]; decide), fun g _ _ h0 => absurd h0 (by rw [hb]; decide)⟩
 ·unfold f45 f45_j1; rw [h]; rfl
 ·unfold f46; rw [h]; rfl
theorem vl_nat (n : Nat) (h : n < l.length) : vl l (n : Int) = nd l n := by unfold vl; rw [if_pos (by omega), Int.toNat_natCast]
theorem ok_add (A B : Nat) (h : (gn l i).1 = 2) (ha : (gn l i).2.1 = A) (hb : (gn l i).2.2.1 = B) (hA : A < i) (hB : B < i) (hi : i < l.length) (FA : Fits (nd l A).1 (nd l i).1) (FB : Fits (nd l B).1 (nd l i).1) :
  NodeOk l i (fun g => foldT g (nd l A).1) (fun g => foldT g (nd l B).1) := by
 refine ⟨fun g hg hd => ?_, fun g hg hd => ?_, fun g hg hd _ => ?_, fun g hg hd _ => ?_⟩
 ·unfold f45 f45_j1
  rw [h, ha, vl_nat l A (by omega)]
  show bindF (f96 g (nd l A).1) _ = _
  rw [foldP _ _ hg.2, foldS_fit hg (by rw [hd]; exact FA)]; rfl
 ·unfold f46
  rw [h, hb, vl_nat l B (by omega)]
  show bindF (f96 g (nd l B).1) _ = _
  rw [foldP _ _ hg.2, foldS_fit hg (by rw [hd]; exact FB)]; rfl
 ·rw [ha, Int.toNat_natCast]; exact ⟨by omega, foldT_good FA.pd, rfl⟩
 ·rw [hb, Int.toNat_natCast]; exact ⟨by omega, foldT_good FB.pd, rfl⟩
theorem ok_sub (A B : Nat) (h : (gn l i).1 = 3) (ha : (gn l i).2.1 = A) (hb : (gn l i).2.2.1 = B) (hA : A < i) (hB : B < i) (hi : i < l.length) (FA : Fits (nd l A).1 (nd l i).1) (FB : Fits (nd l B).1 (nd l i).1) :
  NodeOk l i (fun g => foldT g (nd l A).1) (fun g => foldT (scaleT g (-4294967296)) (nd l B).1) := by
 refine ⟨fun g hg hd => ?_, fun g hg hd => ?_, fun g hg hd _ => ?_, fun g hg hd _ => ?_⟩
 ·unfold f45 f45_j1
  rw [h, ha, vl_nat l A (by omega)]
  show bindF (f96 g (nd l A).1) _ = _
  rw [foldP _ _ hg.2, foldS_fit hg (by rw [hd]; exact FA)]; rfl
 ·unfold f46
  rw [h, hb, vl_nat l B (by omega)]
  show bindF (f86 g (-4294967296)) _ = _
  have gs := scaleT_good hg (-4294967296)
  rw [scaleP _ _ hg.2 (by decide), scaleS_good hg, bindF_some]
  show bindF (bindF (f96 (scaleT g (-4294967296)) (nd l B).1) _) _ = _
  rw [foldP _ _ gs.2, foldS_fit gs (by show Fits _ g.1; rw [hd]; exact FB)]; rfl
 ·rw [ha, Int.toNat_natCast]; exact ⟨by omega, foldT_good FA.pd, rfl⟩
 ·rw [hb, Int.toNat_natCast]; exact ⟨by omega, foldT_good FB.pd, rfl⟩
theorem ok_mul (A B : Nat) (h : (gn l i).1 = 4) (ha : (gn l i).2.1 = A) (hb : (gn l i).2.2.1 = B) (hA : A < i) (hB : B < i) (hi : i < l.length) (hgA : GoodT (nd l A)) (hgB : GoodT (nd l B)) (FA : Fits (nd l A).1 (nd l i).1) (FB : Fits (nd l B).1 (nd l i).1) :
  NodeOk l i (fun g => foldT (mulT g (nd l B)) (nd l A).1) (fun g => foldT (mulT g (nd l A)) (nd l B).1) := by
 refine ⟨fun g hg hd => ?_, fun g hg hd => ?_, fun g hg hd _ => ?_, fun g hg hd _ => ?_⟩
 ·unfold f45 f45_j1
  rw [h, ha, hb, vl_nat l A (by omega), vl_nat l B (by omega)]
  show bindF (f83 g (nd l B)) _ = _
  have gs := mulT_good (b := nd l B) hg
  rw [mulP _ _ hg.2 hgB.2, mulS_fit hg hgB (by rw [hd]; exact FB), bindF_some]
  show bindF (bindF (f96 (mulT g (nd l B)) (nd l A).1) _) _ = _
  rw [foldP _ _ gs.2, foldS_fit gs (by show Fits _ g.1; rw [hd]; exact FA)]; rfl
 ·unfold f46
  rw [h, ha, hb, vl_nat l A (by omega), vl_nat l B (by omega)]
  show bindF (f83 g (nd l A)) _ = _
  have gs := mulT_good (b := nd l A) hg
  rw [mulP _ _ hg.2 hgA.2, mulS_fit hg hgA (by rw [hd]; exact FA), bindF_some]
  show bindF (bindF (f96 (mulT g (nd l A)) (nd l B).1) _) _ = _
  rw [foldP _ _ gs.2, foldS_fit gs (by show Fits _ g.1; rw [hd]; exact FB)]; rfl
 ·rw [ha, Int.toNat_natCast]; exact ⟨by omega, foldT_good FA.pd, rfl⟩
 ·rw [hb, Int.toNat_natCast]; exact ⟨by omega, foldT_good FB.pd, rfl⟩
theorem ok_scale (A : Nat) (K : Int) (h : (gn l i).1 = 5) (ha : (gn l i).2.1 = A) (hb : (gn l i).2.2.1 = -1) (hk : (gn l i).2.2.2.1 = K) (hA : A < i) (hi : i < l.length) (hK : InR K) (hd : (nd l A).1 = (nd l i).1) :
  NodeOk l i (fun g => scaleT g K) (fun _ => noT) := by
 refine ⟨fun g hg hd => ?_, fun g hg hd => ?_, fun g hg hdd _ => ?_, fun g _ _ h0 => absurd h0 (by rw [hb]; decide)⟩
 ·unfold f45 f45_j1
  rw [h, hk]
  show bindF (f86 g K) _ = _
  rw [scaleP _ _ hg.2 hK, scaleS_good hg]; rfl
 ·unfold f46; rw [h]; rfl
 ·rw [ha, Int.toNat_natCast]; exact ⟨by omega, scaleT_good hg K, by show g.1 = _; rw [hdd, hd]⟩
theorem one_rd {g : Tn} (hg : GoodT g) (h1 : prd g.1 = 1) : 0 < g.2.length ∧ InR (rd (0 : Int) g.2 0) := by
 obtain ⟨p, l, _, _⟩ := good_len hg.1
 exact ⟨by omega, inI_rd hg.2 0 (by omega)⟩
theorem ok_all (A : Nat) (h : (gn l i).1 = 9) (ha : (gn l i).2.1 = A) (hb : (gn l i).2.2.1 = -1) (hA : A < i) (hi : i < l.length) (hgA : GoodT (nd l A)) (hd : (nd l i).1 = []) :
  NodeOk l i (fun g => newT (nd l A).1 (rd (0 : Int) g.2 0)) (fun _ => noT) := by
 obtain ⟨pA, _, _, _⟩ := good_len hgA.1
 refine ⟨fun g hg hdd => ?_, fun g hg hd => ?_, fun g hg hdd _ => ?_, fun g _ _ h0 => absurd h0 (by rw [hb]; decide)⟩
 ·obtain ⟨g0, g1⟩ := one_rd hg (by rw [hdd, hd]; rfl)
  unfold f45 f45_j1
  rw [h, ha, vl_nat l A (by omega)]
  show guardF (0 ≤ (0 : Int) ∧ (0 : Int) < (List.length g.2 : Int)) _ = _
  rw [guardF_pos (by omega), new_ok, if_pos pA]; rfl
 ·unfold f46; rw [h]; rfl
 ·obtain ⟨g0, g1⟩ := one_rd hg (by rw [hdd, hd]; rfl)
  rw [ha, Int.toNat_natCast]; exact ⟨by omega, newT_good pA g1, rfl⟩
def meanG (g : Tn) (n : Nat) : Int := sat (rdI (rd (0 : Int) g.2 0) n)
theorem ok_mean (A : Nat) (h : (gn l i).1 = 10) (ha : (gn l i).2.1 = A) (hb : (gn l i).2.2.1 = -1) (hA : A < i) (hi : i < l.length) (hgA : GoodT (nd l A)) (hd : (nd l i).1 = []) :
  NodeOk l i (fun g => newT (nd l A).1 (meanG g (nd l A).2.length)) (fun _ => noT) := by
 obtain ⟨pA, lA, _, lA2⟩ := good_len hgA.1
 refine ⟨fun g hg hdd => ?_, fun g hg hd => ?_, fun g hg hdd _ => ?_, fun g _ _ h0 => absurd h0 (by rw [hb]; decide)⟩
 ·obtain ⟨g0, g1⟩ := one_rd hg (by rw [hdd, hd]; rfl)
  unfold f45 f45_j1
  rw [h, ha, vl_nat l A (by omega)]
  show guardF (0 ≤ (0 : Int) ∧ (0 : Int) < (List.length g.2 : Int)) _ = _
  unfold InR at g1
  rw [guardF_pos (by omega), PlV.of_ok _ g1.1 g1.2, bindF_some]
  show bindF (f100 (PlV.pair (rd (0 : Int) g.2 0)) (List.length (nd l A).2 : Int)) _ = _
  rw [over_ok _ _ (by omega) (by omega) (by omega) (by omega) (by omega), bindF_some, new_ok, if_pos pA]; rfl
 ·unfold f46; rw [h]; rfl
 ·rw [ha, Int.toNat_natCast]; exact ⟨by omega, newT_good pA (sat_in _), rfl⟩
def unbentT (kind : Int) (t g : Tn) : Tn := (t.1, tabL t.2.length (fun i => mulX (rd (0 : Int) g.2 i) (slopeV kind (rd (0 : Int) t.2 i))))
theorem ok_bend (A : Nat) (K : Int) (h : (gn l i).1 = 11) (ha : (gn l i).2.1 = A) (hb : (gn l i).2.2.1 = -1) (hk : (gn l i).2.2.2.1 = K) (k0 : 1 ≤ K) (k5 : K ≤ 5) (hA : A < i) (hi : i < l.length) (hgA : GoodT (nd l A)) (hd : (nd l A).1 = (nd l i).1) :
  NodeOk l i (fun g => unbentT K (nd l A) g) (fun _ => noT) := by
 obtain ⟨pA, lA, _, lA2⟩ := good_len hgA.1
 refine ⟨fun g hg hdd => ?_, fun g hg hd => ?_, fun g hg hdd _ => ?_, fun g _ _ h0 => absurd h0 (by rw [hb]; decide)⟩
 ·unfold f45 f45_j1
  rw [h, ha, hk, vl_nat l A (by omega)]
  show bindF (f102 K (nd l A) g) _ = _
  rw [unbentP _ _ _ hg.2]
  unfold unbentS
  rw [if_pos ⟨k0, k5, hgA.1, hg.1⟩, if_pos (by rw [hd, hdd])]; rfl
 ·unfold f46; rw [h]; rfl
 ·rw [ha, Int.toNat_natCast]
  exact ⟨by omega, ⟨tgood_of pA (by unfold unbentT; rw [tab_len]; exact lA), inI_tab (fun i hi => sat_in _)⟩, rfl⟩
end
end Go.Proofs.Op
namespace Go.Proofs.Op
open Go.AM Go.Proofs.PlB Go.Proofs.PlW Go.Proofs.PlT Go.Proofs.PlS Go.Proofs.Sh Go.Proofs.Num Go.Proofs.Div Go.Proofs.PlR
def cntK (op k : Int) : Int := if op = 5 ∨ op = 8 ∨ op = 11 ∨ op = 12 ∨ op = 13 then k else 0
theorem cnt_ok (op k : Int) : f17_j2 op k = some (cntK op k) := by
 unfold f17_j2 f41 cntK
 by_cases h1 : op = 5
 ·rw [bT h1, if_pos (.inl h1)]; rfl
 rw [bF h1, cond_false]
 by_cases h2 : op = 8
 ·rw [bT h2, if_pos (by omega)]; rfl
 rw [bF h2, cond_false]
 by_cases h3 : op = 11
 ·rw [bT h3, if_pos (by omega)]; rfl
 rw [bF h3, cond_false]
 by_cases h4 : op = 12
 ·rw [bT h4, if_pos (by omega)]; rfl
 rw [bF h4, cond_false]
 by_cases h5 : op = 13
 ·rw [bT h5, if_pos (by omega)]; rfl
 rw [bF h5, if_neg (by omega)]; rfl
def isTwo (op : Int) : Bool := decide (op = 2 ∨ op = 3 ∨ op = 4 ∨ op = 6 ∨ op = 12)
theorem two_ok (op : Int) : f40 op = some (isTwo op) := by
 unfold f40 isTwo
 by_cases h1 : op = 2
 ·rw [bT h1, dT (.inl h1)]; rfl
 rw [bF h1, cond_false]
 by_cases h2 : op = 3
 ·rw [bT h2, dT (by omega)]; rfl
 rw [bF h2, cond_false]
 by_cases h3 : op = 4
 ·rw [bT h3, dT (by omega)]; rfl
 rw [bF h3, cond_false]
 by_cases h4 : op = 6
 ·rw [bT h4, dT (by omega)]; rfl
 rw [bF h4, cond_false]
 by_cases h5 : op = 12
 ·rw [bT h5, dT (by omega)]
 rw [bF h5, dF (by omega)]
theorem do2 (l : List Nd) (op : Int) (a b : Nat) (k : Int) (h : l.length < 512) (o1 : ¬ op < 2) (o2 : ¬ op > 14) (ho : isTwo op = true) (ha : a < l.length) (hb : b < l.length)
  (t : Tn) (hr : f42 op (nd l a) (nd l b) k = some (0, t)) : f17 l op a b k = some ((l.length : Int), 0, l ++ [(op, (a : Int), (b : Int), cntK op k, t.1, t.2)]) := by
 have hj1 : f17_j1 l op a b = some (Sum.inl l) := by
  unfold f17_j1
  rw [dF (by omega), dF o1, dF o2, hasP, dT (show 0 ≤ (a : Int) ∧ (a : Int) < l.length by omega), two_ok, ho]
  simp only [cond_false, bindF_some, Bool.not_true, cond_true]
  rw [hasP, dT (show 0 ≤ (b : Int) ∧ (b : Int) < l.length by omega)]
  rfl
 have hj3 : f17_j3 op a b k l = some (0, (b : Int), t.1, t.2) := by
  unfold f17_j3
  rw [two_ok, ho]
  simp only [bindF_some, cond_true]
  rw [guardF_pos (by omega), guardF_pos (by omega)]
  unfold nd at hr
  rw [hr]
  rfl
 unfold f17
 rw [hj1, bindF_some, sumF_inl, cnt_ok, bindF_some, hj3, bindF_some, nF rfl, cond_false, push_ok _ _ h]
 rfl
theorem do1 (l : List Nd) (op : Int) (a : Nat) (b k : Int) (h : l.length < 512) (o1 : ¬ op < 2) (o2 : ¬ op > 14) (ho : isTwo op = false) (ha : a < l.length)
  (t : Tn) (hr : f43 op (nd l a) k = some (0, t)) : f17 l op a b k = some ((l.length : Int), 0, l ++ [(op, (a : Int), -1, cntK op k, t.1, t.2)]) := by
 have hj1 : f17_j1 l op a b = some (Sum.inl l) := by
  unfold f17_j1
  rw [dF (by omega), dF o1, dF o2, hasP, dT (show 0 ≤ (a : Int) ∧ (a : Int) < l.length by omega), two_ok, ho]
  rfl
 have hj3 : f17_j3 op a b k l = some (0, -1, t.1, t.2) := by
  unfold f17_j3
  rw [two_ok, ho]
  simp only [bindF_some, cond_false]
  rw [guardF_pos (by omega)]
  unfold nd at hr
  rw [hr]
  rfl
 unfold f17
 rw [hj1, bindF_some, sumF_inl, cnt_ok, bindF_some, hj3, bindF_some, nF rfl, cond_false, push_ok _ _ h]
 rfl
end Go.Proofs.Op
namespace Go.Proofs.PlG
open Go.AM Go.Proofs.PlW
theorem range_i64 {x : Int} (h : Ty.wf (.int .i64) x) : -9223372036854775808 ≤ x ∧ x < 9223372036854775808 := by
 have h : (Lit.int .i64 x).wf = true := h
 simp only [Lit.wf, IntKind.min, IntKind.max, IntKind.signed, IntKind.bits, Bool.and_eq_true, decide_eq_true_eq, if_true] at h
 omega
theorem row_i64 {l : List Int} (h : Ty.wf (.sl (.int .i64)) l) : inI l := fun x hx => range_i64 (h.2 x hx)
end Go.Proofs.PlG
namespace Go.Proofs.BackAdds
open Go.AM Go.Proofs.PlB Go.Proofs.PlW Go.Proofs.PlT Go.Proofs.PlS Go.Proofs.Sh Go.Proofs.Num Go.Proofs.Div Go.Proofs.Op
open Go.Proofs.PlR hiding Tn
theorem good1 {v : Int} (h : InR v) : GoodT (([1], [v]) : Tn) := ⟨rfl, fun x hx => by rw [List.mem_singleton.1 hx]; exact h⟩
theorem one_mul (k : Int) (h : InR k) : mulX 4294967296 k = k := by
 unfold mulX
 rw [show (4294967296 : Int) * k = k * 4294967296 from Int.mul_comm _ _]
 have : rhe (k * 4294967296) = k := by unfold rhe; rw [if_neg (by omega)]; omega
 rw [this, sat_id h]
def tape (x k m : Int) : List Nd := [(1, -1, -1, 0, [1], [x]), (1, -1, -1, 0, [1], [9]), (5, 0, -1, k, [1], [mulX x k]), (5, 0, -1, m, [1], [mulX x m]), (2, 2, 3, 0, [1], [addV (mulX x k) (mulX x m)])]
def GA (k m : Int) (n : Nat) (g : Tn) : Tn := if n = 2 then scaleT g k else if n = 3 then scaleT g m else if n = 4 then foldT g [1] else noT
def GB (n : Nat) (g : Tn) : Tn := if n = 4 then foldT g [1] else noT
theorem good (x k m : Int) (hx : InR x) : ∀ i, i < (tape x k m).length → GoodT (nd (tape x k m) i)
 | 0, _ => good1 hx
 | 1, _ => good1 (by decide)
 | 2, _ => good1 (sat_in _)
 | 3, _ => good1 (sat_in _)
 | 4, _ => good1 (sat_in _)
 | n + 5, h => absurd h (by simp [tape])
theorem nodes (x k m : Int) (hk : InR k) (hm : InR m) : ∀ n, n ≤ 4 → NodeOk (tape x k m) n (GA k m n) (GB n)
 | 0, _ => ok_leaf (tape x k m) 0 rfl rfl rfl
 | 1, _ => ok_leaf (tape x k m) 1 rfl rfl rfl
 | 2, _ => ok_scale (tape x k m) 2 0 k rfl rfl rfl rfl (by decide) (by decide : 2 < 5) hk rfl
 | 3, _ => ok_scale (tape x k m) 3 0 m rfl rfl rfl rfl (by decide) (by decide : 3 < 5) hm rfl
 | 4, _ => ok_add (tape x k m) 4 2 3 rfl rfl rfl (by decide) (by decide) (by decide : 4 < 5) (fits_self (d := [1]) (by decide)) (fits_self (d := [1]) (by decide))
 | n + 5, h => absurd h (by omega)
end Go.Proofs.BackAdds
namespace Go.Proofs.BackLines
open Go.AM Go.Proofs.PlB Go.Proofs.PlW Go.Proofs.PlT Go.Proofs.PlS Go.Proofs.Sh Go.Proofs.Num Go.Proofs.Div Go.Proofs.Op Go.Proofs.BackAdds
open Go.Proofs.PlR hiding Tn
theorem goodT_row {x : List Int} (ix : inI x) (h0 : 1 ≤ x.length) (h1 : x.length ≤ 4096) : GoodT (row x) := ⟨row_good x h0 h1, ix⟩
theorem add_zeros {x : List Int} (n : Nat) (hn : x.length = n) (ix : inI x) : addT ([(n : Int)], List.replicate n 0) ([(n : Int)], x) = ([(n : Int)], x) := by
 unfold addT
 refine Prod.ext rfl ?_
 show tabL (List.replicate n (0 : Int)).length (fun i => addV (rd (0 : Int) (List.replicate n 0) i) (rd (0 : Int) x i)) = x
 rw [List.length_replicate]
 apply List.ext_getElem (by rw [tab_len]; omega)
 intro i h1 h2
 have hi : i < n := by omega
 rw [tab_get, rd_nat _ _ _ (by rw [List.length_replicate]; exact hi), rd_nat _ _ _ h2, List.getElem_replicate, addV_zero (ix _ (List.getElem_mem h2))]
def prods (x k : List Int) : List Int := tabL x.length (fun i => mulX (rd (0 : Int) x i) (rd (0 : Int) k i))
def tape (x k : List Int) : List Nd := [(1, -1, -1, 0, [(x.length : Int)], x), (1, -1, -1, 0, [(x.length : Int)], k), (4, 0, 1, 0, [(x.length : Int)], prods x k), (9, 2, -1, 0, [], [sat (sumL (prods x k))])]
def GA (x k : List Int) (n : Nat) (g : Tn) : Tn := if n = 2 then foldT (mulT g ([(x.length : Int)], k)) [(x.length : Int)] else if n = 3 then newT [(x.length : Int)] (rd (0 : Int) g.2 0) else noT
def GB (x : List Int) (n : Nat) (g : Tn) : Tn := if n = 2 then foldT (mulT g ([(x.length : Int)], x)) [(x.length : Int)] else noT
section
variable (x k : List Int) (h0 : 1 ≤ x.length) (h1 : x.length ≤ 4096) (hk : k.length = x.length) (ix : inI x) (ik : inI k)
include h0 h1 hk ix ik
theorem goodx : GoodT (([(x.length : Int)], x) : Tn) := goodT_row ix h0 h1
theorem goodk : GoodT (([(x.length : Int)], k) : Tn) := by
 have := goodT_row ik (by omega) (by omega)
 unfold row at this; rw [hk] at this; exact this
theorem goodp : GoodT (([(x.length : Int)], prods x k) : Tn) := by
 have := goodT_row (x := prods x k) (inI_tab (fun i hi => sat_in _)) (by unfold prods; rw [tab_len]; exact h0) (by unfold prods; rw [tab_len]; exact h1)
 unfold row at this
 rw [show (prods x k).length = x.length from tab_len _ _] at this; exact this
theorem good : ∀ i, i < (tape x k).length → GoodT (nd (tape x k) i)
 | 0, _ => goodx x k h0 h1 hk ix ik
 | 1, _ => goodk x k h0 h1 hk ix ik
 | 2, _ => goodp x k h0 h1 hk ix ik
 | 3, _ => ⟨rfl, fun v hv => by rw [List.mem_singleton.1 hv]; exact sat_in _⟩
 | n + 4, h => absurd h (by simp [tape])
theorem nodes : ∀ n, n ≤ 3 → NodeOk (tape x k) n (GA x k n) (GB x n)
 | 0, _ => ok_leaf (tape x k) 0 rfl rfl rfl
 | 1, _ => ok_leaf (tape x k) 1 rfl rfl rfl
 | 2, _ => by
  have hp : 0 < prd [(x.length : Int)] := by rw [prd_one _ (by omega) (by omega)]; omega
  exact ok_mul (tape x k) 2 0 1 rfl rfl rfl (by decide) (by decide) (by decide : 2 < 4) (goodx x k h0 h1 hk ix ik) (goodk x k h0 h1 hk ix ik) (fits_self hp) (fits_self hp)
 | 3, _ => ok_all (tape x k) 3 2 rfl rfl rfl (by decide) (by decide : 3 < 4) (goodp x k h0 h1 hk ix ik) rfl
 | n + 4, h => absurd h (by omega)
end
end Go.Proofs.BackLines
namespace Go.Proofs.Loss
open Go.AM Go.Proofs.PlB Go.Proofs.PlW Go.Proofs.PlT Go.Proofs.PlS Go.Proofs.PlV Go.Proofs.PlR
theorem s_do (l : List Nd) (was op a b k i e : Int) (m : List Nd) (h : f17 l op a b k = some (i, e, m)) : f73 l was 0 op a b k = some (i, was, e, m) := by
 unfold f73
 rw [show ((0 : Int) != 0) = false from rfl]
 simp only [cond_false]
 rw [h]
 rfl
theorem may_ok (l : List Nd) (x want : List Int) (h : 0 < l.length) (hx : nd l 0 = row x) (hw : want.length = x.length) (h1 : x.length ≤ 4096) : f71 l 0 want = some (0, l) := by
 unfold f71
 have hv := node_value l 0 h (by rw [hx]; simp [row]) (by rw [hx]; exact h1)
 rw [show ((0 : Nat) : Int) = 0 from rfl, hx] at hv
 rw [hv]
 simp only [bindF_some]
 have hj : f71_j1 want (true, (row x).1, (row x).2, l) = some false := by
  unfold f71_j1
  simp only [Bool.not_true, cond_false]
  rw [show (row x).2 = x from rfl, show ((want.length : Int) != (x.length : Int)) = false by simp [hw]]
 rw [hj]
 rfl
end Go.Proofs.Loss
namespace Go.Proofs.LossNone
open Go.AM Go.Proofs.PlB Go.Proofs.PlW Go.Proofs.PlT Go.Proofs.PlS Go.Proofs.Sh Go.Proofs.Num Go.Proofs.Div Go.Proofs.Op Go.Proofs.BackAdds Go.Proofs.BackLines
open Go.Proofs.PlR hiding Tn
section
variable (l : List Int) (h0 : 1 ≤ l.length) (h1 : l.length ≤ 60) (il : inI l)
def zs (l : List Int) : List Int := List.replicate l.length 0
def Z (l : List Int) : Tn := ([(l.length : Int)], zs l)
def M (l : List Int) : Tn := ([(l.length : Int)], List.replicate l.length (sat (rdI 4294967296 l.length)))
def t4 (l : List Int) : List Nd := [(1, -1, -1, 0, [(l.length : Int)], l), (1, -1, -1, 0, [(l.length : Int)], l), (3, 0, 1, 0, [(l.length : Int)], zs l), (4, 2, 2, 0, [(l.length : Int)], zs l), (10, 3, -1, 0, [], [0])]
def t8 (l : List Int) : List Nd := [(1, -1, -1, 0, [(l.length : Int)], l), (1, -1, -1, 0, [(l.length : Int)], l), (3, 0, 1, 0, [(l.length : Int)], zs l), (4, 2, 2, 0, [(l.length : Int)], zs l), (10, 3, -1, 0, [], [0]),
 (1, -1, -1, 0, [(l.length : Int)], l), (3, 0, 5, 0, [(l.length : Int)], zs l), (11, 6, -1, 4, [(l.length : Int)], zs l), (10, 7, -1, 0, [], [0])]
include h0 h1 il
theorem pos : 0 < prd [(l.length : Int)] := by rw [prd_one _ (by omega) (by omega)]; omega
theorem prdn : (prd [(l.length : Int)]).toNat = l.length := by rw [prd_one _ (by omega) (by omega), Int.toNat_natCast]
theorem goodl : GoodT (([(l.length : Int)], l) : Tn) := goodT_row il h0 (by omega)
theorem goodrep (v : Int) (hv : InR v) : GoodT (([(l.length : Int)], List.replicate l.length v) : Tn) :=
 ⟨tgood_of (pos l h0 h1 il) (by simp only [List.length_replicate]; rw [prd_one _ (by omega) (by omega)]), inI_rep _ _ hv⟩
theorem goodz : GoodT (Z l) := goodrep l h0 h1 il 0 (by decide)
theorem goodm : GoodT (M l) := goodrep l h0 h1 il _ (sat_in _)
theorem tab_z (f : Nat → Int) (h : ∀ i, i < l.length → f i = 0) : tabL l.length f = zs l := by
 unfold zs
 rw [tab_rep]; exact tab_ext _ _ _ h
theorem rdz (i : Nat) (hi : i < l.length) : rd (0 : Int) (zs l) (i : Int) = 0 := by
 unfold zs; rw [rd_nat _ _ _ (by rw [List.length_replicate]; exact hi), List.getElem_replicate]
theorem zlen : (zs l).length = l.length := by unfold zs; simp
theorem mul_r0 (v : Int) : mulX v 0 = 0 := by unfold mulX; rw [Int.mul_zero]; rfl
theorem mul_l0 (v : Int) : mulX 0 v = 0 := by unfold mulX; rw [Int.zero_mul]; rfl
theorem zz : addT (Z l) (Z l) = Z l := add_zeros l.length (zlen l h0 h1 il) (goodz l h0 h1 il).2
theorem zm : addT (Z l) (M l) = M l := add_zeros l.length (by simp) (goodm l h0 h1 il).2
theorem fz : foldT (Z l) [(l.length : Int)] = Z l := fold_id (goodz l h0 h1 il)
theorem mz : mulT (M l) (Z l) = Z l := by
 unfold mulT
 refine Prod.ext rfl ?_
 show tabL (List.replicate l.length (sat (rdI 4294967296 l.length))).length _ = zs l
 rw [List.length_replicate]
 refine tab_z l h0 h1 il _ (fun i hi => ?_)
 have := spX_self (pos l h0 h1 il) i (by rw [prd_one _ (by omega) (by omega)]; omega)
 show mulX _ (rd (0 : Int) (zs l) (spX [(l.length : Int)] [(l.length : Int)] i)) = 0
 rw [this, rdz l h0 h1 il i hi, mul_r0 l h0 h1 il]
theorem sz (c : Int) : scaleT (Z l) c = Z l := by
 unfold scaleT
 refine Prod.ext rfl ?_
 show tabL (zs l).length _ = zs l
 rw [zlen l h0 h1 il]
 refine tab_z l h0 h1 il _ (fun i hi => ?_)
 show mulX (rd (0 : Int) (zs l) (i : Int)) c = 0
 rw [rdz l h0 h1 il i hi, mul_l0 l h0 h1 il]
theorem uz (g : Tn) : unbentT 4 (Z l) g = Z l := by
 unfold unbentT
 refine Prod.ext rfl ?_
 show tabL (zs l).length _ = zs l
 rw [zlen l h0 h1 il]
 refine tab_z l h0 h1 il _ (fun i hi => ?_)
 show mulX _ (slopeV 4 (rd (0 : Int) (zs l) (i : Int))) = 0
 rw [rdz l h0 h1 il i hi]
 exact mul_r0 l h0 h1 il _
theorem sum_z : sumL (zs l) = 0 := by
 unfold zs
 generalize l.length = n
 induction n with
 | zero => rfl
 | succ n ih => rw [List.replicate_succ]; simp only [sumL]; omega
theorem mean_z : f91 (Z l) = some (0, 0) := by
 have g := goodz l h0 h1 il
 rw [meanP _ g.2 g.1]
 show some (sat (rdI (sumL (zs l)) (zs l).length), (0 : Int)) = _
 rw [sum_z l h0 h1 il, zlen l h0 h1 il]
 have : rdI 0 (l.length : Int) = 0 := by
  unfold rdI
  have hz := rdn_zero (d := ((l.length : Int).natAbs : Int)) (by omega)
  rw [show (((0 : Int).natAbs : Nat) : Int) = 0 from rfl, hz]
  split <;> rfl
 rw [this]; rfl
theorem sub_z : f82 ([(l.length : Int)], l) ([(l.length : Int)], l) = some (0, Z l) := by
 have g := goodl l h0 h1 il
 rw [subP _ _ g.2 g.2, both_self _ _ _ g.1 g.1 rfl]
 have : tabL l.length (fun i => subV (rd (0 : Int) l i) (rd (0 : Int) l i)) = zs l := tab_z l h0 h1 il _ (fun i hi => by unfold subV; rw [Int.sub_self]; rfl)
 show some ((0 : Int), ([(l.length : Int)], tabL l.length (fun i => subV (rd (0 : Int) l i) (rd (0 : Int) l i)))) = _
 rw [this]; rfl
theorem mulzz : f83 (Z l) (Z l) = some (0, Z l) := by
 have g := goodz l h0 h1 il
 rw [mulP _ _ g.2 g.2, both_self _ _ _ g.1 g.1 rfl]
 have : tabL (zs l).length (fun i => mulX (rd (0 : Int) (zs l) i) (rd (0 : Int) (zs l) i)) = zs l := by
  rw [zlen l h0 h1 il]
  exact tab_z l h0 h1 il _ (fun i hi => by rw [rdz l h0 h1 il i hi, mul_r0 l h0 h1 il])
 show some ((0 : Int), ([(l.length : Int)], tabL (zs l).length (fun i => mulX (rd (0 : Int) (zs l) i) (rd (0 : Int) (zs l) i)))) = _
 rw [this]; rfl
theorem bentz : f92 4 (Z l) = some (0, Z l) := by
 have g := goodz l h0 h1 il
 rw [bentP _ _ g.2]
 unfold bentS
 rw [if_pos ⟨by decide, by decide, g.1⟩]
 have : tabL (zs l).length (fun i => bendV 4 (rd (0 : Int) (zs l) i)) = zs l := by
  rw [zlen l h0 h1 il]
  exact tab_z l h0 h1 il _ (fun i hi => by rw [rdz l h0 h1 il i hi]; rfl)
 show some ((0 : Int), ([(l.length : Int)], tabL (zs l).length (fun i => bendV 4 (rd (0 : Int) (zs l) i)))) = _
 rw [this]; rfl
theorem leafs (L : List Nd) (hL : L.length < 512) (was : Int) : f74 L was 0 l = some ((L.length : Int), was, 0, L ++ [(1, -1, -1, 0, [(l.length : Int)], l)]) := by
 unfold f74
 rw [nF rfl, cond_false, leaf_ok L ([(l.length : Int)], l) hL (goodl l h0 h1 il).1]; rfl
theorem square : f31 [(1, -1, -1, 0, [(l.length : Int)], l)] 0 l = some (4, 0, t4 l) := by
 unfold f31
 rw [Loss.may_ok [(1, -1, -1, 0, [(l.length : Int)], l)] l l (by simp) rfl rfl (by omega), bindF_some, nF rfl, cond_false, show f72 [((1 : Int), (-1 : Int), (-1 : Int), (0 : Int), [(l.length : Int)], l)] = some (1, [(1, -1, -1, 0, [(l.length : Int)], l)]) from rfl, bindF_some]
 simp only
 rw [leafs l h0 h1 il _ (by simp), bindF_some]
 simp only
 have e2 : f17 ([(1, -1, -1, 0, [(l.length : Int)], l)] ++ [(1, -1, -1, 0, [(l.length : Int)], l)]) 3 0 1 0 = some (2, 0, [(1, -1, -1, 0, [(l.length : Int)], l), (1, -1, -1, 0, [(l.length : Int)], l), (3, 0, 1, 0, [(l.length : Int)], zs l)]) :=
  do2 _ 3 0 1 0 (by simp) (by decide) (by decide) rfl (by simp) (by simp) (Z l) (op_sub _ _ _ _ (sub_z l h0 h1 il))
 have s2 := Loss.s_do _ 1 _ _ _ _ _ _ _ e2
 rw [show (((([((1 : Int), (-1 : Int), (-1 : Int), (0 : Int), [(l.length : Int)], l)] : List Nd).length : Nat)) : Int) = 1 from rfl, s2, bindF_some]
 simp only
 have e3 : f17 [(1, -1, -1, 0, [(l.length : Int)], l), (1, -1, -1, 0, [(l.length : Int)], l), (3, 0, 1, 0, [(l.length : Int)], zs l)] 4 2 2 0 = some (3, 0, [(1, -1, -1, 0, [(l.length : Int)], l), (1, -1, -1, 0, [(l.length : Int)], l), (3, 0, 1, 0, [(l.length : Int)], zs l), (4, 2, 2, 0, [(l.length : Int)], zs l)]) :=
  do2 _ 4 2 2 0 (by simp) (by decide) (by decide) rfl (by simp) (by simp) (Z l) (op_mul _ _ _ _ (mulzz l h0 h1 il))
 rw [Loss.s_do _ 1 _ _ _ _ _ _ _ e3, bindF_some]
 simp only
 have e4 : f17 [(1, -1, -1, 0, [(l.length : Int)], l), (1, -1, -1, 0, [(l.length : Int)], l), (3, 0, 1, 0, [(l.length : Int)], zs l), (4, 2, 2, 0, [(l.length : Int)], zs l)] 10 3 0 0 = some (4, 0, t4 l) :=
  do1 _ 10 3 0 0 (by simp) (by decide) (by decide) rfl (by simp) ([], [0]) (op_mean _ _ _ (mean_z l h0 h1 il))
 rw [Loss.s_do _ 1 _ _ _ _ _ _ _ e4, bindF_some]
 rfl
theorem size : f32 (t4 l) 0 l = some (8, 0, t8 l) := by
 unfold f32
 rw [Loss.may_ok (t4 l) l l (by decide : 0 < 5) rfl rfl (by omega), bindF_some, nF rfl, cond_false, show f72 (t4 l) = some (5, t4 l) from rfl, bindF_some]
 simp only
 rw [leafs l h0 h1 il (t4 l) (by decide : 5 < 512), bindF_some]
 simp only
 have e2 : f17 (t4 l ++ [(1, -1, -1, 0, [(l.length : Int)], l)]) 3 0 5 0 = some (6, 0, (t4 l ++ [(1, -1, -1, 0, [(l.length : Int)], l), (3, 0, 5, 0, [(l.length : Int)], zs l)])) :=
  do2 (t4 l ++ [(1, -1, -1, 0, [(l.length : Int)], l)]) 3 0 5 0 (by simp [t4]) (by decide) (by decide) rfl (by simp [t4]) (by simp [t4]) (Z l) (op_sub _ _ _ _ (sub_z l h0 h1 il))
 rw [show (((t4 l).length : Nat) : Int) = 5 from rfl, Loss.s_do _ 5 _ _ _ _ _ _ _ e2, bindF_some]
 simp only
 have e3 : f17 (t4 l ++ [(1, -1, -1, 0, [(l.length : Int)], l), (3, 0, 5, 0, [(l.length : Int)], zs l)]) 11 6 0 4 = some (7, 0, (t4 l ++ [(1, -1, -1, 0, [(l.length : Int)], l), (3, 0, 5, 0, [(l.length : Int)], zs l), (11, 6, -1, 4, [(l.length : Int)], zs l)])) :=
  do1 (t4 l ++ [(1, -1, -1, 0, [(l.length : Int)], l), (3, 0, 5, 0, [(l.length : Int)], zs l)]) 11 6 0 4 (by simp [t4]) (by decide) (by decide) rfl (by simp [t4]) (Z l) (op_bend _ _ _ (bentz l h0 h1 il))
 rw [Loss.s_do _ 5 _ _ _ _ _ _ _ e3, bindF_some]
 simp only
 have e4 : f17 (t4 l ++ [(1, -1, -1, 0, [(l.length : Int)], l), (3, 0, 5, 0, [(l.length : Int)], zs l), (11, 6, -1, 4, [(l.length : Int)], zs l)]) 10 7 0 0 = some (8, 0, t8 l) :=
  do1 (t4 l ++ [(1, -1, -1, 0, [(l.length : Int)], l), (3, 0, 5, 0, [(l.length : Int)], zs l), (11, 6, -1, 4, [(l.length : Int)], zs l)]) 10 7 0 0 (by simp [t4]) (by decide) (by decide) rfl (by simp [t4]) ([], [0]) (op_mean _ _ _ (mean_z l h0 h1 il))
 rw [Loss.s_do _ 5 _ _ _ _ _ _ _ e4, bindF_some]
 rfl
theorem good : ∀ i, i < (t8 l).length → GoodT (nd (t8 l) i)
 | 0, _ => goodl l h0 h1 il
 | 1, _ => goodl l h0 h1 il
 | 2, _ => goodz l h0 h1 il
 | 3, _ => goodz l h0 h1 il
 | 4, _ => ⟨rfl, fun v hv => by rw [List.mem_singleton.1 hv]; decide⟩
 | 5, _ => goodl l h0 h1 il
 | 6, _ => goodz l h0 h1 il
 | 7, _ => goodz l h0 h1 il
 | 8, _ => ⟨rfl, fun v hv => by rw [List.mem_singleton.1 hv]; decide⟩
 | n + 9, h => absurd h (by simp [t8])
def GA (l : List Int) (n : Nat) (g : Tn) : Tn :=
 if n = 2 ∨ n = 6 then foldT g [(l.length : Int)] else if n = 3 then foldT (mulT g (Z l)) [(l.length : Int)] else if n = 4 ∨ n = 8 then newT [(l.length : Int)] (meanG g (zs l).length) else if n = 7 then unbentT 4 (Z l) g else noT
def GB (l : List Int) (n : Nat) (g : Tn) : Tn :=
 if n = 2 ∨ n = 6 then foldT (scaleT g (-4294967296)) [(l.length : Int)] else if n = 3 then foldT (mulT g (Z l)) [(l.length : Int)] else noT
theorem nodes : ∀ n, n ≤ 8 → NodeOk (t8 l) n (GA l n) (GB l n)
 | 0, _ => ok_leaf (t8 l) 0 rfl rfl rfl
 | 1, _ => ok_leaf (t8 l) 1 rfl rfl rfl
 | 2, _ => ok_sub (t8 l) 2 0 1 rfl rfl rfl (by decide) (by decide) (by decide : 2 < 9) (fits_self (pos l h0 h1 il)) (fits_self (pos l h0 h1 il))
 | 3, _ => ok_mul (t8 l) 3 2 2 rfl rfl rfl (by decide) (by decide) (by decide : 3 < 9) (goodz l h0 h1 il) (goodz l h0 h1 il) (fits_self (pos l h0 h1 il)) (fits_self (pos l h0 h1 il))
 | 4, _ => ok_mean (t8 l) 4 3 rfl rfl rfl (by decide) (by decide : 4 < 9) (goodz l h0 h1 il) rfl
 | 5, _ => ok_leaf (t8 l) 5 rfl rfl rfl
 | 6, _ => ok_sub (t8 l) 6 0 5 rfl rfl rfl (by decide) (by decide) (by decide : 6 < 9) (fits_self (pos l h0 h1 il)) (fits_self (pos l h0 h1 il))
 | 7, _ => ok_bend (t8 l) 7 6 4 rfl rfl rfl rfl (by decide) (by decide) (by decide) (by decide : 7 < 9) (goodz l h0 h1 il) rfl
 | 8, _ => ok_mean (t8 l) 8 7 rfl rfl rfl (by decide) (by decide : 8 < 9) (goodz l h0 h1 il) rfl
 | n + 9, h => absurd h (by omega)
theorem meanOne : newT [(l.length : Int)] (meanG ([], [4294967296]) (zs l).length) = M l := by
 unfold newT meanG M
 rw [prdn l h0 h1 il, zlen l h0 h1 il]; rfl
theorem zer_z (L : List Nd) (i : Nat) (h : (nd L i).1 = [(l.length : Int)]) : zer L i = Z l := by
 unfold zer Z zs; rw [h, prdn l h0 h1 il]
theorem swept4 : (swp (t8 l) (GA l) (GB l) 4 5).1 = [Z l, Z l, Z l, M l, ([], [4294967296])] := by
 have z := zer_z l h0 h1 il (t8 l)
 have s0 : swp (t8 l) (GA l) (GB l) 4 0 = ([Z l, Z l, Z l, Z l, ([], [4294967296])], [false, false, false, false, true]) := by
  have g4 : glist (t8 l) 4 = [zer (t8 l) 0, zer (t8 l) 1, zer (t8 l) 2, zer (t8 l) 3] := rfl
  rw [swp, g4, z 0 rfl, z 1 rfl, z 2 rfl, z 3 rfl]; rfl
 have s1 : swp (t8 l) (GA l) (GB l) 4 1 = ([Z l, Z l, Z l, M l, ([], [4294967296])], [false, false, false, true, true]) := by
  rw [swp, s0]
  show giveS (giveS _ 3 (newT [(l.length : Int)] (meanG ([], [4294967296]) (zs l).length))) (-1) noT = _
  rw [meanOne l h0 h1 il]
  show ([_, _, _, addT (Z l) (M l), _], _) = _
  rw [zm l h0 h1 il]; rfl
 have s2 : swp (t8 l) (GA l) (GB l) 4 2 = ([Z l, Z l, Z l, M l, ([], [4294967296])], [false, false, true, true, true]) := by
  rw [swp, s1]
  show giveS (giveS _ 2 (foldT (mulT (M l) (Z l)) [(l.length : Int)])) 2 (foldT (mulT (M l) (Z l)) [(l.length : Int)]) = _
  rw [mz l h0 h1 il, fz l h0 h1 il]
  show ([_, _, addT (addT (Z l) (Z l)) (Z l), _, _], _) = _
  rw [zz l h0 h1 il, zz l h0 h1 il]; rfl
 have s3 : swp (t8 l) (GA l) (GB l) 4 3 = ([Z l, Z l, Z l, M l, ([], [4294967296])], [true, true, true, true, true]) := by
  rw [swp, s2]
  show giveS (giveS _ 0 (foldT (Z l) [(l.length : Int)])) 1 (foldT (scaleT (Z l) (-4294967296)) [(l.length : Int)]) = _
  rw [sz l h0 h1 il, fz l h0 h1 il]
  show ([addT (Z l) (Z l), addT (Z l) (Z l), _, _, _], _) = _
  rw [zz l h0 h1 il]; rfl
 have s4 : swp (t8 l) (GA l) (GB l) 4 4 = ([Z l, Z l, Z l, M l, ([], [4294967296])], [true, true, true, true, true]) := by
  rw [swp, s3]; rfl
 rw [swp, s4]; rfl
theorem swept8 : (swp (t8 l) (GA l) (GB l) 8 9).1 = [Z l, Z l, Z l, Z l, ([], [0]), Z l, Z l, M l, ([], [4294967296])] := by
 have z := zer_z l h0 h1 il (t8 l)
 have s0 : swp (t8 l) (GA l) (GB l) 8 0 = ([Z l, Z l, Z l, Z l, ([], [0]), Z l, Z l, Z l, ([], [4294967296])], [false, false, false, false, false, false, false, false, true]) := by
  have g4 : glist (t8 l) 8 = [zer (t8 l) 0, zer (t8 l) 1, zer (t8 l) 2, zer (t8 l) 3, zer (t8 l) 4, zer (t8 l) 5, zer (t8 l) 6, zer (t8 l) 7] := rfl
  rw [swp, g4, z 0 rfl, z 1 rfl, z 2 rfl, z 3 rfl, z 5 rfl, z 6 rfl, z 7 rfl]; rfl
 have s1 : swp (t8 l) (GA l) (GB l) 8 1 = ([Z l, Z l, Z l, Z l, ([], [0]), Z l, Z l, M l, ([], [4294967296])], [false, false, false, false, false, false, false, true, true]) := by
  rw [swp, s0]
  show giveS (giveS _ 7 (newT [(l.length : Int)] (meanG ([], [4294967296]) (zs l).length))) (-1) noT = _
  rw [meanOne l h0 h1 il]
  show ([_, _, _, _, _, _, _, addT (Z l) (M l), _], _) = _
  rw [zm l h0 h1 il]; rfl
 have s2 : swp (t8 l) (GA l) (GB l) 8 2 = ([Z l, Z l, Z l, Z l, ([], [0]), Z l, Z l, M l, ([], [4294967296])], [false, false, false, false, false, false, true, true, true]) := by
  rw [swp, s1]
  show giveS (giveS _ 6 (unbentT 4 (Z l) (M l))) (-1) noT = _
  rw [uz l h0 h1 il]
  show ([_, _, _, _, _, _, addT (Z l) (Z l), _, _], _) = _
  rw [zz l h0 h1 il]; rfl
 have s3 : swp (t8 l) (GA l) (GB l) 8 3 = ([Z l, Z l, Z l, Z l, ([], [0]), Z l, Z l, M l, ([], [4294967296])], [true, false, false, false, false, true, true, true, true]) := by
  rw [swp, s2]
  show giveS (giveS _ 0 (foldT (Z l) [(l.length : Int)])) 5 (foldT (scaleT (Z l) (-4294967296)) [(l.length : Int)]) = _
  rw [sz l h0 h1 il, fz l h0 h1 il]
  show ([addT (Z l) (Z l), _, _, _, _, addT (Z l) (Z l), _, _, _], _) = _
  rw [zz l h0 h1 il]; rfl
 have s4 : swp (t8 l) (GA l) (GB l) 8 4 = ([Z l, Z l, Z l, Z l, ([], [0]), Z l, Z l, M l, ([], [4294967296])], [true, false, false, false, false, true, true, true, true]) := by
  rw [swp, s3]; rfl
 have s5 : swp (t8 l) (GA l) (GB l) 8 5 = ([Z l, Z l, Z l, Z l, ([], [0]), Z l, Z l, M l, ([], [4294967296])], [true, false, false, false, false, true, true, true, true]) := by
  rw [swp, s4]; rfl
 have s6 : swp (t8 l) (GA l) (GB l) 8 6 = ([Z l, Z l, Z l, Z l, ([], [0]), Z l, Z l, M l, ([], [4294967296])], [true, false, false, false, false, true, true, true, true]) := by
  rw [swp, s5]; rfl
 have s7 : swp (t8 l) (GA l) (GB l) 8 7 = ([Z l, Z l, Z l, Z l, ([], [0]), Z l, Z l, M l, ([], [4294967296])], [true, false, false, false, false, true, true, true, true]) := by
  rw [swp, s6]; rfl
 have s8 : swp (t8 l) (GA l) (GB l) 8 8 = ([Z l, Z l, Z l, Z l, ([], [0]), Z l, Z l, M l, ([], [4294967296])], [true, false, false, false, false, true, true, true, true]) := by
  rw [swp, s7]; rfl
 rw [swp, s8]; rfl
theorem bodyNone : f11 l = some true := by
 unfold f11
 have hj : f11_j1 l = some (Sum.inl ()) := by
  unfold f11_j1
  rw [dF (by omega), cond_false, dF (by omega)]; rfl
 rw [show f29 = some true by kernel_rfl, bindF_some, Bool.not_true, cond_false, hj, bindF_some, sumF_inl, show f13 = some () from rfl, bindF_some, show f30 l = some (l, [(l.length : Int)]) from rfl, bindF_some]
 simp only
 have e1 : f14 [] ([(l.length : Int)], l) = some (0, 0, [(1, -1, -1, 0, [(l.length : Int)], l)]) := leaf_ok [] ([(l.length : Int)], l) (by decide) (goodl l h0 h1 il).1
 rw [e1, bindF_some]
 simp only
 rw [square l h0 h1 il, bindF_some]
 simp only
 rw [size l h0 h1 il, bindF_some]
 simp only
 have v4 := valueP (t8 l) 4 (good l h0 h1 il)
 have v8 := valueP (t8 l) 8 (good l h0 h1 il)
 rw [v4, bindF_some]
 simp only
 rw [v8, bindF_some]
 simp only
 have w4 := sweepP (t8 l) (GA l) (GB l) 4 (by decide : 4 < 9) (by decide : 9 ≤ 512) (good l h0 h1 il) rfl (fun n hn => nodes l h0 h1 il n (by omega))
 have w8 := sweepP (t8 l) (GA l) (GB l) 8 (by decide : 8 < 9) (by decide : 9 ≤ 512) (good l h0 h1 il) rfl (nodes l h0 h1 il)
 rw [swept4 l h0 h1 il, show ((4 : Nat) : Int) = 4 from rfl] at w4
 rw [swept8 l h0 h1 il, show ((8 : Nat) : Int) = 8 from rfl] at w8
 rw [w4, bindF_some]
 simp only
 rw [w8, bindF_some]
 simp only
 have x4 : (vl (t8 l) 4).2 = [0] := rfl
 have x8 : (vl (t8 l) 8).2 = [0] := rfl
 rw [x4, x8]
 rw [bT rfl, cond_true, cond_true, cond_true, cond_true, guardF_pos (by decide), show rd (0 : Int) [0] 0 = 0 from rfl, bT rfl, cond_true, guardF_pos (by decide), cond_true, guardF_pos (by simp), newR _ _ (pos l h0 h1 il), prdn l h0 h1 il, bindF_some]
 show bindF (f19 (Z l) (Z l)) _ = _
 have hz : (Z l).2.length < 4611686018427387904 := by show (zs l).length < _; rw [zlen l h0 h1 il]; omega
 rw [alikeR _ _ (by show 1 < _; omega) hz, dT rfl, bindF_some, cond_true, guardF_pos (by simp), guardF_pos (by simp)]
 show bindF (f19 (Z l) (Z l)) _ = _
 rw [alikeR _ _ (by show 1 < _; omega) hz, dT rfl, bindF_some]
end
theorem plainNone (l : List Int) (il : inI l) : f11 l = some true := by
 by_cases h : 1 ≤ l.length ∧ l.length ≤ 60
 ·exact bodyNone l h.1 h.2 il
 ·unfold f11
  have hj : f11_j1 l = some (Sum.inr ()) := by
   unfold f11_j1
   by_cases c : l.length < 1
   ·rw [dT (by omega)]; rfl
   ·rw [dF (by omega), cond_false, dT (by omega)]; rfl
  rw [show f29 = some true by kernel_rfl, bindF_some, Bool.not_true, cond_false, hj]; rfl
end Go.Proofs.LossNone

