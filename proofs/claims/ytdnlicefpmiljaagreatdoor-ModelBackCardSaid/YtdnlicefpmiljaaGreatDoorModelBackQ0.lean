import Derived.Test.YtdnlicefpmiljaaGreatDoorModelBackS3
import Derived.Lib.TrimAscii
import Derived.Test.YtdnlicefpmiljaaGreatDoorAmY
set_option linter.unusedVariables false
set_option linter.unusedSimpArgs false
set_option maxRecDepth 100000
set_option linter.unusedSectionVars false
set_option maxRecDepth 1000000

namespace Go.AM
theorem bindF_some {X Y : Type} (x : X) (f : X → Option Y) : bindF (some x) f = f x := rfl
theorem sumF_inl {A B Y : Type} (a : A) (f : A → Option Y) (g : B → Option Y) : sumF (.inl a) f g = f a := rfl
theorem sumF_inr {A B Y : Type} (b : B) (f : A → Option Y) (g : B → Option Y) : sumF (.inr b) f g = g b := rfl
theorem guardF_pos {Y : Type} {p : Prop} [Decidable p] {r : Option Y} (h : p) : guardF p r = r := if_pos h
theorem loopF_succ {X Z : Type} (B : (X → Option Z) → X → Option Z) (n : Nat) (x : X) : loopF B (n + 1) x = B (loopF B n) x := rfl
theorem loop_inv {X Z : Type} {B : (X → Option Z) → X → Option Z} (I : X → Prop) (μ : X → Nat) (Q : Z → Prop)
  (h : ∀ x, I x → (∃ z, (∀ go, B go x = some z) ∧ Q z) ∨ (∃ y, (∀ go, B go x = go y) ∧ I y ∧ μ y < μ x)) :
  ∀ (n : Nat) (x : X), I x → μ x < n → ∃ z, loopF B n x = some z ∧ Q z
 | 0, x, _, hm => absurd hm (Nat.not_lt_zero _)
 | n + 1, x, hi, hm => by
  rw [loopF_succ]
  rcases h x hi with ⟨z, h1, h2⟩ | ⟨y, h1, h2, h3⟩
  ·exact ⟨z, h1 _, h2⟩
  ·rw [h1]; exact loop_inv I μ Q h n y h2 (by omega)
theorem loop_fuel {X Z : Type} {B : (X → Option Z) → X → Option Z} (I : X → Prop) (μ : X → Nat) (Q : Z → Prop)
  (h : ∀ x, I x → (∃ z, (∀ go, B go x = some z) ∧ Q z) ∨ (∃ y, (∀ go, B go x = go y) ∧ I y ∧ μ y < μ x)) (x : X) (hi : I x) (hm : μ x < 18446744073709551616) :
  ∃ z, loopF B fuelN x = some z ∧ Q z := loop_inv I μ Q h fuelN x hi hm
theorem wrap_i64 {n : Int} (h1 : -9223372036854775808 ≤ n) (h2 : n < 9223372036854775808) : IntKind.i64.wrap n = n := by
 simp only [IntKind.wrap, IntKind.signed, IntKind.bits]
 have : n % 2 ^ 64 = if 0 ≤ n then n else n + 18446744073709551616 := by
  split <;> omega
 simp only [this]
 split <;> split <;> simp_all <;> omega
theorem rd_nat {α : Type} (z : α) (xs : List α) (i : Nat) (h : i < xs.length) : rd z xs (i : Int) = xs[i] := by
 simp [rd, h]
end Go.AM
namespace Go.Proofs.PlB
open Go.AM
theorem clone_d (d : List Int) (h : d.length ≤ 17592186044416) : f61 d = some d := by
 unfold f61 nilF
 cases d with
 | nil => rfl
 | cons x r =>
  simp only
  rw [guardF_pos (by simp at h ⊢; omega)]
  rfl
def pgo : Int → List Int → Int
 | n, [] => n
 | n, x :: r => if x < 1 ∨ x > 4096 ∨ n * x > 4096 then 0 else pgo (n * x) r
def prd (d : List Int) : Int := if d.length > 4 then 0 else pgo 1 d
theorem drop_cons {α : Type} (d : List α) (k : Nat) (h : k < d.length) : d.drop k = d[k] :: d.drop (k + 1) := by
 rw [List.drop_eq_getElem_cons h]
theorem product_ok (d : List Int) : f89 d = some (prd d) := by
 unfold f89 prd
 by_cases h4 : d.length > 4
 ·rw [show decide ((List.length d : Int) > 4) = true by simp; omega, if_pos h4]; rfl
 ·rw [show decide ((List.length d : Int) > 4) = false by simp; omega, if_neg h4]
  simp only [cond_false]
  have H : ∀ x : Int × Int, (∃ k : Nat, x.2 = (k : Int) ∧ k ≤ d.length ∧ 1 ≤ x.1 ∧ x.1 ≤ 4096 ∧ pgo x.1 (d.drop k) = pgo 1 d) →
    (∃ z, (∀ go, f89_l3 d go x.1 x.2 = some z) ∧ ((z = Sum.inl () ∧ pgo 1 d = 0) ∨ z = Sum.inr (pgo 1 d))) ∨
    (∃ y : Int × Int, (∀ go, f89_l3 d go x.1 x.2 = go y) ∧ (∃ k : Nat, y.2 = (k : Int) ∧ k ≤ d.length ∧ 1 ≤ y.1 ∧ y.1 ≤ 4096 ∧ pgo y.1 (d.drop k) = pgo 1 d) ∧ ((d.length : Int) - y.2).toNat < ((d.length : Int) - x.2).toNat) := by
   rintro ⟨n, _⟩ ⟨k, rfl, hk, hn1, hn2, hp⟩
   simp only at hn1 hn2 hp ⊢
   by_cases hlt : k < d.length
   ·rw [drop_cons d k hlt] at hp
    simp only [pgo] at hp
    have hrd : rd (0 : Int) d (k : Int) = d[k] := rd_nat _ _ _ hlt
    by_cases c1 : d[k] < 1
    ·left
     rw [if_pos (.inl c1)] at hp
     refine ⟨Sum.inl (), fun go => ?_, .inl ⟨rfl, hp.symm⟩⟩
     simp only [f89_l3, f89_j4, hrd]
     rw [show decide ((k : Int) < (d.length : Int)) = true by simpa using hlt, show decide (d[k] < (1 : Int)) = true by simpa using c1]
     simp only [cond_true]
     rw [guardF_pos (by omega)]
     rfl
    ·by_cases c2 : d[k] > 4096
     ·left
      rw [if_pos (.inr (.inl c2))] at hp
      refine ⟨Sum.inl (), fun go => ?_, .inl ⟨rfl, hp.symm⟩⟩
      simp only [f89_l3, f89_j4, hrd]
      rw [show decide ((k : Int) < (d.length : Int)) = true by simpa using hlt, show decide (d[k] < (1 : Int)) = false by simpa using c1, show decide (d[k] > (4096 : Int)) = true by simpa using c2]
      simp only [cond_true, cond_false]
      rw [guardF_pos (by omega)]
      rfl
     ·have hb1 : n * d[k] ≤ 4096 * 4096 := Int.mul_le_mul hn2 (by omega) (by omega) (by omega)
      have hb0 : 1 * 1 ≤ n * d[k] := Int.mul_le_mul hn1 (by omega) (by omega) (by omega)
      have hw : IntKind.i64.wrap (n * d[k]) = n * d[k] := wrap_i64 (by omega) (by omega)
      by_cases c3 : n * d[k] > 4096
      ·left
       rw [if_pos (.inr (.inr c3))] at hp
       refine ⟨Sum.inl (), fun go => ?_, .inl ⟨rfl, hp.symm⟩⟩
       simp only [f89_l3, f89_j4, hrd, hw]
       rw [show decide ((k : Int) < (d.length : Int)) = true by simpa using hlt, show decide (d[k] < (1 : Int)) = false by simpa using c1, show decide (d[k] > (4096 : Int)) = false by simpa using c2, show decide (n * d[k] > (4096 : Int)) = true by simpa using c3]
       simp only [cond_true, cond_false]
       rw [guardF_pos (by omega)]
       rfl
      ·right
       rw [if_neg (by omega)] at hp
       refine ⟨(n * d[k], ((k + 1 : Nat) : Int)), fun go => ?_, ⟨k + 1, rfl, hlt, by simp only; omega, by simp only; omega, hp⟩, by simp only; omega⟩
       simp only [f89_l3, f89_j4, hrd, hw]
       rw [show decide ((k : Int) < (d.length : Int)) = true by simpa using hlt, show decide (d[k] < (1 : Int)) = false by simpa using c1, show decide (d[k] > (4096 : Int)) = false by simpa using c2, show decide (n * d[k] > (4096 : Int)) = false by simpa using c3]
       simp only [cond_true, cond_false]
       rw [guardF_pos (by omega), wrap_i64 (by omega) (by omega)]
       rfl
   ·left
    have : k = d.length := by omega
    subst this
    simp only [List.drop_length, pgo] at hp
    refine ⟨Sum.inr n, fun go => ?_, .inr (by rw [hp])⟩
    simp only [f89_l3]
    rw [show decide ((d.length : Int) < (d.length : Int)) = false by simp]
    rfl
  obtain ⟨z, e, hz⟩ := loop_fuel (B := fun go (x : Int × Int) => f89_l3 d go x.1 x.2) _ (fun x => ((d.length : Int) - x.2).toNat) _ H ((1 : Int), (0 : Int)) ⟨0, rfl, Nat.zero_le _, by decide, by decide, rfl⟩ (by simp; omega)
  rw [e]
  simp only [bindF_some]
  rcases hz with ⟨rfl, h0⟩ | rfl
  ·simp only [sumF_inl, h0]
  ·simp only [sumF_inr]
theorem shapeGood_ok (d : List Int) : f65 d = some (decide (prd d > 0)) := by
 unfold f65
 simp only [product_ok, bindF_some]
theorem size_ok (d : List Int) : f117 d = some (prd d) := by
 unfold f117
 simp only [product_ok, bindF_some]
def tgood (t : List Int × List Int) : Bool := decide (prd t.1 > 0) && ((t.2.length : Int) == prd t.1)
theorem good_ok (t : List Int × List Int) : f91 t = some (tgood t) := by
 unfold f91 tgood
 simp only [shapeGood_ok, size_ok, bindF_some]
 cases decide (prd t.1 > 0) <;> rfl
theorem same_ok (a : List Int) (h : a.length < 4611686018427387904) : f13 a a = some true := by
 unfold f13
 rw [show ((a.length : Int) != (a.length : Int)) = false by simp]
 simp only [cond_false]
 have H : ∀ x : Int, (∃ k : Nat, x = (k : Int) ∧ k ≤ a.length) → (∃ z, (∀ go, f13_l1 a a go x = some z) ∧ z = Sum.inr ()) ∨
   (∃ y : Int, (∀ go, f13_l1 a a go x = go y) ∧ (∃ k : Nat, y = (k : Int) ∧ k ≤ a.length) ∧ ((a.length : Int) - y).toNat < ((a.length : Int) - x).toNat) := by
  rintro _ ⟨k, rfl, hk⟩
  by_cases hlt : k < a.length
  ·right
   refine ⟨((k + 1 : Nat) : Int), fun go => ?_, ⟨k + 1, rfl, hlt⟩, by omega⟩
   simp only [f13_l1]
   rw [show decide ((k : Int) < (a.length : Int)) = true by simpa using hlt]
   simp only [cond_true]
   rw [guardF_pos (by omega), guardF_pos (by omega), wrap_i64 (by omega) (by omega)]
   simp
  ·left
   refine ⟨_, fun go => ?_, rfl⟩
   simp only [f13_l1]
   rw [show decide ((k : Int) < (a.length : Int)) = false by simp; omega]
   rfl
 obtain ⟨z, e, rfl⟩ := loop_fuel (B := fun go x => f13_l1 a a go x) _ (fun x => ((a.length : Int) - x).toNat) _ H 0 ⟨0, rfl, Nat.zero_le _⟩ (by simp; omega)
 rw [e]
 rfl
end Go.Proofs.PlB
namespace Go.Proofs.PlW
open Go.AM
theorem wu (n : Int) : IntKind.u64.wrap n = n % 18446744073709551616 := by
 simp [IntKind.wrap, IntKind.signed, IntKind.bits]
theorem wi (n : Int) : IntKind.i64.wrap n = if n % 18446744073709551616 ≥ 9223372036854775808 then n % 18446744073709551616 - 18446744073709551616 else n % 18446744073709551616 := by
 simp [IntKind.wrap, IntKind.signed, IntKind.bits]
theorem wi_mod (n : Int) : IntKind.i64.wrap (n % 18446744073709551616) = IntKind.i64.wrap n := by
 rw [wi, wi, Int.emod_emod_of_dvd _ (Int.dvd_refl _)]
theorem sh32u (x : Int) : Int.fdiv x (2 ^ min (Int.toNat (32 : Int)) (IntKind.bits IntKind.u64)) = x / 4294967296 := by
 rw [show ((2 : Int) ^ min (Int.toNat (32 : Int)) (IntKind.bits IntKind.u64)) = 4294967296 from rfl]
 exact Int.fdiv_eq_ediv_of_nonneg _ (by decide)
theorem sh63i (x : Int) : Int.fdiv x (2 ^ min (Int.toNat (63 : Int)) (IntKind.bits IntKind.i64)) = x / 9223372036854775808 := by
 rw [show ((2 : Int) ^ min (Int.toNat (63 : Int)) (IntKind.bits IntKind.i64)) = 9223372036854775808 from rfl]
 exact Int.fdiv_eq_ediv_of_nonneg _ (by decide)
theorem bitsNat (f : BitVec 64 → BitVec 64 → BitVec 64) (a b : Int) : bitsOf IntKind.u64 f a b = ((f (BitVec.ofInt 64 a) (BitVec.ofInt 64 b)).toNat : Int) := by
 have h : bitsOf IntKind.u64 f a b = IntKind.u64.wrap (((f (BitVec.ofInt 64 a) (BitVec.ofInt 64 b)).toNat : Nat) : Int) := rfl
 rw [h, wu]
 have := (f (BitVec.ofInt 64 a) (BitVec.ofInt 64 b)).isLt
 omega
theorem ofInt_nat (a : Int) (h0 : 0 ≤ a) (h1 : a < 18446744073709551616) : (BitVec.ofInt 64 a).toNat = a.toNat := by
 rw [BitVec.toNat_ofInt]
 have : a % ((2 ^ 64 : Nat) : Int) = a := Int.emod_eq_of_lt h0 (by simpa using h1)
 rw [this]
theorem and_nat (a b : Int) (h0 : 0 ≤ a) (h1 : a < 18446744073709551616) (g0 : 0 ≤ b) (g1 : b < 18446744073709551616) :
  bitsOf IntKind.u64 (fun p q => p &&& q) a b = ((a.toNat &&& b.toNat : Nat) : Int) := by
 refine (bitsNat (fun p q => p &&& q) a b).trans ?_
 rw [BitVec.toNat_and, ofInt_nat a h0 h1, ofInt_nat b g0 g1]
theorem and32 (x : Int) (h0 : 0 ≤ x) (h1 : x < 18446744073709551616) : bitsOf IntKind.u64 (fun p q => p &&& q) x 4294967295 = x % 4294967296 := by
 rw [and_nat x _ h0 h1 (by decide) (by decide)]
 have := Nat.and_two_pow_sub_one_eq_mod x.toNat 32
 rw [show (4294967295 : Int).toNat = 2 ^ 32 - 1 from rfl, this]
 omega
theorem add_ok (x y c : Int) (h0 : 0 ≤ x) (h1 : 0 ≤ y) (h2 : 0 ≤ c) (h3 : c ≤ 1) : add64 x y c = some ((x + y + c) % 18446744073709551616, (x + y + c) / 18446744073709551616) := by
 unfold add64
 rw [show Nat.ble c.toNat 1 = true by rw [Nat.ble_eq]; omega]
 simp only [Option.some.injEq, Prod.mk.injEq, Int.ofNat_eq_natCast]
 constructor <;> omega
theorem size_ok (v : Int) (h0 : -9223372036854775808 ≤ v) (h1 : v < 9223372036854775808) : f210 v = some (if v < 0 then -v else v) := by
 unfold f210
 by_cases h : v < 0
 ·rw [show decide (v < 0) = true by simpa using h, if_pos h]
  simp only [cond_true, wu, Option.some.injEq]
  omega
 ·rw [show decide (v < 0) = false by simpa using h, if_neg h]
  simp only [cond_false, wu, Option.some.injEq]
  omega
theorem mul_bound (a b : Int) (h0 : 0 ≤ a) (h1 : a ≤ 4294967295) (g0 : 0 ≤ b) (g1 : b ≤ 4294967295) : 0 ≤ a * b ∧ a * b ≤ 18446744065119617025 :=
 ⟨Int.mul_nonneg h0 g0, Int.mul_le_mul h1 g1 g0 (by decide)⟩
theorem mul64_ok (x y : Int) (h0 : 0 ≤ x) (h1 : x < 18446744073709551616) (g0 : 0 ≤ y) (g1 : y < 18446744073709551616) :
  f197 x y = some (x * y / 18446744073709551616, x * y % 18446744073709551616) := by
 unfold f197
 have x1 := Int.mul_ediv_add_emod x 4294967296
 have y1 := Int.mul_ediv_add_emod y 4294967296
 simp only [sh32u, and32 x h0 h1, and32 y g0 g1, wu]
 rw [and32 _ (by omega) (by omega)]
 generalize hx1 : x / 4294967296 = a at *
 generalize hx0 : x % 4294967296 = b at *
 generalize hy1 : y / 4294967296 = c at *
 generalize hy0 : y % 4294967296 = d at *
 obtain ⟨p0, p1⟩ := mul_bound a c (by omega) (by omega) (by omega) (by omega)
 obtain ⟨q0, q1⟩ := mul_bound a d (by omega) (by omega) (by omega) (by omega)
 obtain ⟨r0, r1⟩ := mul_bound b c (by omega) (by omega) (by omega) (by omega)
 obtain ⟨s0, s1⟩ := mul_bound b d (by omega) (by omega) (by omega) (by omega)
 have hxy : x * y = 18446744073709551616 * (a * c) + 4294967296 * (a * d) + 4294967296 * (b * c) + b * d := by
  rw [← x1, ← y1, Int.add_mul, Int.mul_add, Int.mul_add]
  have e1 : 4294967296 * a * (4294967296 * c) = 18446744073709551616 * (a * c) := by
   rw [show (18446744073709551616 : Int) = 4294967296 * 4294967296 from rfl]; ac_rfl
  have e2 : 4294967296 * a * d = 4294967296 * (a * d) := Int.mul_assoc _ _ _
  have e3 : b * (4294967296 * c) = 4294967296 * (b * c) := Int.mul_left_comm _ _ _
  rw [e1, e2, e3]; omega
 rw [hxy]
 generalize a * c = P at *
 generalize a * d = Q at *
 generalize b * c = R at *
 generalize b * d = S at *
 have w0 : ∀ n : Int, 0 ≤ n → n < 18446744073709551616 → n % 18446744073709551616 = n := fun n h0 h1 => Int.emod_eq_of_lt h0 h1
 rw [w0 P (by omega) (by omega), w0 Q (by omega) (by omega), w0 R (by omega) (by omega), w0 S (by omega) (by omega)]
 rw [w0 (Q + S / 4294967296) (by omega) (by omega)]
 rw [w0 ((Q + S / 4294967296) % 4294967296 + R) (by omega) (by omega)]
 rw [w0 (P + (Q + S / 4294967296) / 4294967296) (by omega) (by omega)]
 rw [w0 (P + (Q + S / 4294967296) / 4294967296 + ((Q + S / 4294967296) % 4294967296 + R) / 4294967296) (by omega) (by omega)]
 have hh : (18446744073709551616 * P + 4294967296 * Q + 4294967296 * R + S) / 18446744073709551616 = P + (Q + S / 4294967296) / 4294967296 + ((Q + S / 4294967296) % 4294967296 + R) / 4294967296 := by omega
 rw [hh]
def sat (x : Int) : Int := if x ≥ 9223372036854775808 then 9223372036854775807 else if x < -9223372036854775808 then -9223372036854775808 else x
theorem fix_ok (R : Int) (h0 : -1000000000000000000000000000000000000 ≤ R) (h1 : R ≤ 1000000000000000000000000000000000000) : f182 (R / 18446744073709551616, R % 18446744073709551616) = some (sat R) := by
 unfold f182 f182_j2 f182_j3 sat
 simp only
 by_cases c1 : R / 18446744073709551616 > 0
 ·rw [show decide (R / 18446744073709551616 > 0) = true by simpa using c1]
  simp only [cond_true, bindF_some, sumF_inr]
  rw [if_pos (by omega)]
 ·rw [show decide (R / 18446744073709551616 > 0) = false by simpa using c1]
  simp only [cond_false]
  by_cases c2 : R / 18446744073709551616 = 0
  ·rw [show (R / 18446744073709551616 == 0) = true by simpa using c2]
   simp only [cond_true, bindF_some]
   by_cases c3 : R % 18446744073709551616 ≥ 9223372036854775808
   ·rw [show decide (R % 18446744073709551616 ≥ 9223372036854775808) = true by simpa using c3]
    simp only [cond_true, bindF_some, sumF_inr]
    rw [if_pos (by omega)]
   ·rw [show decide (R % 18446744073709551616 ≥ 9223372036854775808) = false by simpa using c3]
    simp only [cond_false]
    rw [show decide (R / 18446744073709551616 < -1) = false by simp; omega, show (R / 18446744073709551616 == -1) = false by simp; omega]
    simp only [cond_false, bindF_some, sumF_inl]
    rw [if_neg (by omega), if_neg (by omega), wrap_i64 (by omega) (by omega)]
    congr 1; omega
  ·rw [show (R / 18446744073709551616 == 0) = false by simpa using c2]
   simp only [cond_false, bindF_some]
   by_cases c4 : R / 18446744073709551616 < -1
   ·rw [show decide (R / 18446744073709551616 < -1) = true by simpa using c4]
    simp only [cond_true, bindF_some, sumF_inr]
    rw [if_neg (by omega), if_pos (by omega)]
   ·rw [show decide (R / 18446744073709551616 < -1) = false by simpa using c4, show (R / 18446744073709551616 == -1) = true by simp; omega]
    simp only [cond_false, cond_true]
    by_cases c5 : R % 18446744073709551616 < 9223372036854775808
    ·rw [show decide (R % 18446744073709551616 < 9223372036854775808) = true by simpa using c5]
     simp only [cond_true, bindF_some, sumF_inr]
     rw [if_neg (by omega), if_pos (by omega)]
    ·rw [show decide (R % 18446744073709551616 < 9223372036854775808) = false by simpa using c5]
     simp only [cond_false, bindF_some, sumF_inl]
     rw [if_neg (by omega), if_neg (by omega), wi]
     congr 1
     split <;> omega
def inI (l : List Int) : Prop := ∀ x ∈ l, -9223372036854775808 ≤ x ∧ x < 9223372036854775808
end Go.Proofs.PlW
namespace Go.Proofs.PlT
open Go.AM Go.Proofs.PlB Go.Proofs.PlW
theorem pgo_range : ∀ (d : List Int) (n : Int), 0 ≤ n → n ≤ 4096 → 0 ≤ pgo n d ∧ pgo n d ≤ 4096
 | [], n, h0, h1 => ⟨h0, h1⟩
 | x :: r, n, h0, h1 => by
  simp only [pgo]
  split
  ·omega
  ·have : 0 ≤ n * x := Int.mul_nonneg h0 (by omega)
   exact pgo_range r _ this (by omega)
theorem prd_range (d : List Int) : 0 ≤ prd d ∧ prd d ≤ 4096 := by
 unfold prd
 split
 ·omega
 ·exact pgo_range d 1 (by omega) (by omega)
theorem prd_len {d : List Int} (h : 0 < prd d) : d.length ≤ 4 := by
 unfold prd at h
 split at h <;> omega
theorem over_rep (v : Int) (n c m : Nat) (h : c + m ≤ n) : over (List.replicate c v ++ List.replicate (n - c) 0) (c : Int) (List.replicate m v) = List.replicate (c + m) v ++ List.replicate (n - (c + m)) 0 := by
 unfold over
 simp only [Int.toNat_natCast, List.length_replicate]
 rw [List.take_append_of_le_length (by simp), List.take_of_length_le (by simp), List.drop_append, List.drop_of_length_le (by simp), List.nil_append, List.length_replicate, List.drop_replicate, List.replicate_append_replicate]
 congr 2
 omega
theorem repeat_ok (v : Int) (n : Nat) (h : n ≤ 4096) : f201 [v] (n : Int) = some (List.replicate n v) := by
 unfold f201
 rw [show decide ((n : Int) < 0) = false by simp]
 simp only [cond_false, f223]
 rw [mul64_ok _ _ (by rw [wu]; omega) (by rw [wu]; omega) (by rw [wu]; omega) (by rw [wu]; omega)]
 simp only [bindF_some, wu, List.length_cons, List.length_nil]
 have e1 : (((0 + 1 : Nat) : Int) % 18446744073709551616 * ((n : Int) % 18446744073709551616)) = n := by
  rw [show (((0 + 1 : Nat) : Int) % 18446744073709551616) = 1 from rfl, Int.one_mul]; omega
 rw [e1, show (n : Int) / 18446744073709551616 = 0 by omega, show (n : Int) % 18446744073709551616 = n by omega]
 have hj : f201_j1 ((0 : Int), (n : Int)) = some () := by
  unfold f201_j1
  simp only
  rw [show decide ((0 : Int) > 0) = false from rfl, show decide ((n : Int) > 9223372036854775807) = false by simp; omega]
  rfl
 rw [hj, wrap_i64 (by omega) (by omega)]
 simp only [bindF_some, Int.toNat_natCast, List.length_replicate]
 rw [guardF_pos (by omega)]
 have e2 : List.take (n - (0 : Int).toNat) [v] = List.replicate (min n 1) v := by
  cases n with
  | zero => rfl
  | succ n => rw [show min (n + 1) 1 = 1 by omega]; simp
 rw [show (0 : Int).toNat = 0 from rfl] at *
 rw [e2]
 have H : ∀ x : Int × List Int, (∃ c : Nat, x = ((c : Int), List.replicate c v ++ List.replicate (n - c) 0) ∧ c ≤ n ∧ (1 ≤ n → 1 ≤ c)) →
   (∃ z, (∀ go, f201_l2 go x.1 x.2 = some z) ∧ z = List.replicate n v) ∨
   (∃ y : Int × List Int, (∀ go, f201_l2 go x.1 x.2 = go y) ∧ (∃ c : Nat, y = ((c : Int), List.replicate c v ++ List.replicate (n - c) 0) ∧ c ≤ n ∧ (1 ≤ n → 1 ≤ c)) ∧ ((n : Int) - y.1).toNat < ((n : Int) - x.1).toNat) := by
  rintro _ ⟨c, rfl, hc, h1⟩
  have hlen : (List.replicate c v ++ List.replicate (n - c) (0 : Int)).length = n := by simp; omega
  by_cases hlt : c < n
  ·right
   have ht : List.take ((n : Int).toNat - (c : Int).toNat) (List.drop (0 : Int).toNat (List.take (c : Int).toNat (List.replicate c v ++ List.replicate (n - c) (0 : Int)))) = List.replicate (min (n - c) c) v := by
    simp only [Int.toNat_natCast, show (0 : Int).toNat = 0 from rfl, List.drop_zero]
    rw [List.take_append_of_le_length (by simp), List.take_replicate, List.take_replicate]
    congr 1; omega
   refine ⟨(((c + min (n - c) c : Nat) : Int), _), fun go => ?_, ⟨c + min (n - c) c, rfl, by omega, by omega⟩, by simp only; omega⟩
   simp only [f201_l2, hlen]
   rw [show decide ((c : Int) < (n : Int)) = true by simpa using hlt]
   simp only [cond_true]
   rw [guardF_pos (by omega), guardF_pos (by omega), ht, List.length_replicate, wrap_i64 (by omega) (by omega), over_rep v n c _ (by omega)]
   rfl
  ·left
   have : c = n := by omega
   subst this
   refine ⟨_, fun go => ?_, rfl⟩
   simp only [f201_l2, hlen]
   rw [show decide ((c : Int) < (c : Int)) = false by simp]
   simp
 have e3 : (((List.replicate (min n 1) v).length : Int), over (List.replicate n (0 : Int)) 0 (List.replicate (min n 1) v)) = (((min n 1 : Nat) : Int), List.replicate (min n 1) v ++ List.replicate (n - min n 1) 0) := by
  have := over_rep v n 0 (min n 1) (by omega)
  simp only [List.replicate_zero, List.nil_append, Nat.sub_zero, Nat.zero_add] at this
  rw [List.length_replicate]
  exact Prod.ext rfl this
 rw [e3]
 obtain ⟨z, e, rfl⟩ := loop_fuel (B := fun go (x : Int × List Int) => f201_l2 go x.1 x.2) _ (fun x => ((n : Int) - x.1).toNat) _ H _ ⟨min n 1, rfl, by omega, by omega⟩ (by simp only; omega)
 rw [e]
 rfl
theorem new_ok (d : List Int) (v : Int) : f171 d v = some (if 0 < prd d then (0, d, List.replicate (prd d).toNat v) else (1, [], [])) := by
 unfold f171
 rw [shapeGood_ok]
 simp only [bindF_some]
 by_cases h : 0 < prd d
 ·have hl := prd_len h
  have hr := prd_range d
  rw [show decide (prd d > 0) = true by simpa using h, if_pos h, clone_d d (by omega), PlB.size_ok]
  simp only [Bool.not_true, cond_false, bindF_some]
  rw [show prd d = (((prd d).toNat : Nat) : Int) by omega, repeat_ok v _ (by omega)]
  simp only [bindF_some, Int.toNat_natCast]
 ·rw [show decide (prd d > 0) = false by simpa using h, if_neg h]
  rfl
theorem prd_two (n m : Int) : prd [n, m] = if n < 1 ∨ n > 4096 ∨ m < 1 ∨ m > 4096 ∨ n * m > 4096 then 0 else n * m := by
 simp only [prd, pgo, List.length_cons, List.length_nil, Int.one_mul]
 rw [if_neg (by omega)]
 by_cases h1 : n < 1 ∨ n > 4096 ∨ n > 4096
 ·rw [if_pos h1, if_pos (by omega)]
 ·rw [if_neg h1]
  by_cases h2 : m < 1 ∨ m > 4096 ∨ n * m > 4096
  ·rw [if_pos h2, if_pos (by omega)]
  ·rw [if_neg h2, if_neg (by omega)]
end Go.Proofs.PlT
namespace Go.AM
open Go.Proofs.PlT
theorem dT {p : Prop} [Decidable p] (h : p) : decide p = true := decide_eq_true h
theorem dF {p : Prop} [Decidable p] (h : ¬p) : decide p = false := decide_eq_false h
theorem bT {a b : Int} (h : a = b) : (a == b) = true := by simpa using h
theorem bF {a b : Int} (h : ¬a = b) : (a == b) = false := by simpa using h
theorem nT {a b : Int} (h : ¬a = b) : (a != b) = true := by simpa using h
theorem nF {a b : Int} (h : a = b) : (a != b) = false := by simpa using h
theorem loop_for_aux {X Z : Type} {B : (X → Option Z) → X → Option Z} (s : Nat → X) (n : Nat) (z : Z)
  (hs : ∀ k, k < n → ∀ go, B go (s k) = go (s (k + 1))) (he : ∀ go, B go (s n) = some z) :
  ∀ m k, k ≤ n → n < m + k → loopF B m (s k) = some z
 | 0, k, h1, h2 => absurd h1 (by omega)
 | m + 1, k, h1, h2 => by
  rw [loopF_succ]
  by_cases h : k < n
  ·rw [hs k h]; exact loop_for_aux s n z hs he m (k + 1) h (by omega)
  ·rw [show k = n by omega]; exact he _
theorem loop_for {X Z : Type} {B : (X → Option Z) → X → Option Z} (s : Nat → X) (n : Nat) (z : Z)
  (hs : ∀ k, k < n → ∀ go, B go (s k) = go (s (k + 1))) (he : ∀ go, B go (s n) = some z) (hn : n < 18446744073709551616) :
  loopF B fuelN (s 0) = some z := loop_for_aux s n z hs he fuelN 0 (Nat.zero_le _) (by show n < 18446744073709551616 + 0; omega)
def firstB (P : Nat → Bool) : Nat → Nat → Option Nat
 | k, 0 => none
 | k, n + 1 => if P k then some k else firstB P (k + 1) n
theorem loop_find_aux {X Z : Type} {B : (X → Option Z) → X → Option Z} (s : Nat → X) (P : Nat → Bool) (zx : Nat → Z) (z : Z) (n : Nat)
  (hs : ∀ k, k < n → P k = false → ∀ go, B go (s k) = go (s (k + 1))) (hx : ∀ k, k < n → P k = true → ∀ go, B go (s k) = some (zx k)) (he : ∀ go, B go (s n) = some z) :
  ∀ r m k, k + r = n → r < m → loopF B m (s k) = some (match firstB P k r with | some i => zx i | none => z)
 | 0, 0, k, h1, h2 => absurd h2 (by omega)
 | 0, m + 1, k, h1, h2 => by rw [loopF_succ, show k = n by omega]; exact he _
 | r + 1, 0, k, h1, h2 => absurd h2 (by omega)
 | r + 1, m + 1, k, h1, h2 => by
  rw [loopF_succ]
  unfold firstB
  cases h : P k
  ·rw [hs k (by omega) h]; exact loop_find_aux s P zx z n hs hx he r m (k + 1) (by omega) (by omega)
  ·rw [hx k (by omega) h]; rfl
theorem loop_find {X Z : Type} {B : (X → Option Z) → X → Option Z} (s : Nat → X) (P : Nat → Bool) (zx : Nat → Z) (z : Z) (n : Nat)
  (hs : ∀ k, k < n → P k = false → ∀ go, B go (s k) = go (s (k + 1))) (hx : ∀ k, k < n → P k = true → ∀ go, B go (s k) = some (zx k)) (he : ∀ go, B go (s n) = some z) (hn : n < 18446744073709551616) :
  loopF B fuelN (s 0) = some (match firstB P 0 n with | some i => zx i | none => z) := loop_find_aux s P zx z n hs hx he n fuelN 0 (by omega) (by show n < 18446744073709551616; omega)
theorem firstB_none (P : Nat → Bool) : ∀ n k, (firstB P k n = none ↔ ∀ i, k ≤ i → i < k + n → P i = false)
 | 0, k => by simp only [firstB, true_iff]; intro i h1 h2; omega
 | n + 1, k => by
  unfold firstB
  by_cases h : P k = true
  ·simp only [h, if_true]
   constructor
   ·intro h'; exact absurd h' (by simp)
   ·intro h'; have := h' k (Nat.le_refl _) (by omega); rw [h] at this; exact absurd this (by decide)
  ·rw [if_neg h, firstB_none P n (k + 1)]
   constructor
   ·intro h' i h1 h2
    by_cases hk : i = k
    ·subst hk; simpa using h
    ·exact h' i (by omega) (by omega)
   ·intro h' i h1 h2; exact h' i (by omega) (by omega)
def anyB (n : Nat) (P : Nat → Bool) : Bool := (firstB P 0 n).isSome
theorem anyB_false {n : Nat} {P : Nat → Bool} : anyB n P = false ↔ ∀ i, i < n → P i = false := by
 unfold anyB
 rw [Option.isSome_eq_false_iff, Option.isNone_iff_eq_none, firstB_none]
 constructor
 ·intro h i hi; exact h i (Nat.zero_le _) (by omega)
 ·intro h i _ hi; exact h i (by omega)
theorem loop_any {X Z : Type} {B : (X → Option Z) → X → Option Z} (s : Nat → X) (P : Nat → Bool) (zx z : Z) (n : Nat)
  (hs : ∀ k, k < n → P k = false → ∀ go, B go (s k) = go (s (k + 1))) (hx : ∀ k, k < n → P k = true → ∀ go, B go (s k) = some zx) (he : ∀ go, B go (s n) = some z) (hn : n < 18446744073709551616) :
  loopF B fuelN (s 0) = some (bif anyB n P then zx else z) := by
 rw [loop_find s P (fun _ => zx) z n hs hx he hn]
 unfold anyB
 cases firstB P 0 n <;> rfl
end Go.AM
namespace Go.Proofs.PlB
open Go.AM
end Go.Proofs.PlB
namespace Go.Proofs.PlS
open Go.AM Go.Proofs.PlB Go.Proofs.PlW Go.Proofs.PlT
def prodL : List Int → Int
 | [] => 1
 | x :: r => x * prodL r
theorem pgo_prod : ∀ (d : List Int) (n : Int), 1 ≤ n → 0 < pgo n d → pgo n d = n * prodL d ∧ ∀ x ∈ d, 1 ≤ x ∧ x ≤ 4096
 | [], n, h, hp => ⟨by simp [pgo, prodL], fun x hx => by simp at hx⟩
 | x :: r, n, h, hp => by
  simp only [pgo] at hp ⊢
  by_cases hb : x < 1 ∨ x > 4096 ∨ n * x > 4096
  ·rw [if_pos hb] at hp; exact absurd hp (by decide)
  ·rw [if_neg hb] at hp ⊢
   have h1 : 1 * 1 ≤ n * x := Int.mul_le_mul h (by omega) (by omega) (by omega)
   obtain ⟨e, m⟩ := pgo_prod r (n * x) (by omega) hp
   refine ⟨by rw [e, prodL, Int.mul_assoc], fun y hy => ?_⟩
   rcases List.mem_cons.1 hy with rfl | hy
   ·omega
   ·exact m y hy
theorem prd_prod {d : List Int} (h : 0 < prd d) : prd d = prodL d ∧ (∀ x ∈ d, 1 ≤ x ∧ x ≤ 4096) ∧ d.length ≤ 4 := by
 have hl := prd_len h
 have e : prd d = pgo 1 d := by unfold prd; rw [if_neg (by omega)]
 rw [e] at h ⊢
 obtain ⟨a, b⟩ := pgo_prod d 1 (by omega) h
 exact ⟨by rw [a, Int.one_mul], b, hl⟩
def side (d : List Int) (k : Nat) : Int := if k < d.length then d.getD (d.length - 1 - k) 0 else 1
structure Joined (a b d : List Int) : Prop where
 pa : 0 < prd a
 pb : 0 < prd b
 pd : 0 < prd d
 len : d.length = max a.length b.length
 le : ∀ k, k < d.length → side d k = max (side a k) (side b k)
 ok : ∀ k, k < d.length → side a k = side b k ∨ side a k = 1 ∨ side b k = 1
end Go.Proofs.PlS
namespace Go.Proofs.PlS
open Go.AM Go.Proofs.PlB Go.Proofs.PlW Go.Proofs.PlT
structure Fits (d big : List Int) : Prop where
 pd : 0 < prd d
 pb : 0 < prd big
 len : d.length ≤ big.length
 eq : ∀ k, k < d.length → 1 < side d k → side big k = side d k
end Go.Proofs.PlS
namespace Go.Proofs.PlS
open Go.AM Go.Proofs.PlB Go.Proofs.PlW Go.Proofs.PlT
theorem good_len {t : List Int × List Int} (h : tgood t = true) : 0 < prd t.1 ∧ (t.2.length : Int) = prd t.1 ∧ t.1.length ≤ 4 ∧ t.2.length ≤ 4096 := by
 unfold tgood at h
 simp at h
 have := prd_range t.1
 exact ⟨h.1, h.2, prd_len h.1, by omega⟩
end Go.Proofs.PlS
namespace Go.Proofs.PlS
open Go.AM Go.Proofs.PlB Go.Proofs.PlW Go.Proofs.PlT
end Go.Proofs.PlS
namespace Go.Proofs.Sh
open Go.AM Go.Proofs.PlB Go.Proofs.PlW Go.Proofs.PlT Go.Proofs.PlS
theorem prodL_pos : ∀ d : List Int, (∀ x ∈ d, 1 ≤ x) → 1 ≤ prodL d
 | [], _ => by simp [prodL]
 | x :: r, h => by
  have h1 := h x (by simp)
  have h2 := prodL_pos r (fun y hy => h y (by simp [hy]))
  have : 1 * 1 ≤ x * prodL r := Int.mul_le_mul h1 h2 (by omega) (by omega)
  simp only [prodL]; omega
theorem sameR (a b : List Int) (h : a.length < 4611686018427387904) : f13 a b = some (decide (a = b)) := by
 unfold f13
 by_cases hl : a.length = b.length
 ·rw [nF (by omega)]
  simp only [cond_false]
  have := loop_any (B := fun go x => f13_l1 a b go x) (fun k => (k : Int)) (fun k => rd (0 : Int) a (k : Int) != rd (0 : Int) b (k : Int)) (Sum.inl ()) (Sum.inr ()) a.length ?_ ?_ ?_ (by omega)
  ·rw [show ((0 : Int)) = ((0 : Nat) : Int) from rfl, this]
   simp only [bindF_some]
   by_cases e : a = b
   ·subst e
    have : anyB a.length (fun k => rd (0 : Int) a (k : Int) != rd (0 : Int) a (k : Int)) = false := anyB_false.2 (fun i hi => by simp)
    rw [this, dT rfl]; rfl
   ·have : anyB a.length (fun k => rd (0 : Int) a (k : Int) != rd (0 : Int) b (k : Int)) = true := by
     cases hc : anyB a.length (fun k => rd (0 : Int) a (k : Int) != rd (0 : Int) b (k : Int))
     ·exfalso; apply e
      have hc := anyB_false.1 hc
      apply List.ext_getElem hl
      intro i h1 h2
      have := hc i h1
      rw [rd_nat _ _ _ h1, rd_nat _ _ _ h2] at this
      simpa using this
     ·rfl
    rw [this, dF e]; rfl
  ·intro k hk hp go
   unfold f13_l1
   rw [dT (by omega), cond_true, guardF_pos (by omega), guardF_pos (by omega), hp, cond_false, wrap_i64 (by omega) (by omega)]
   rfl
  ·intro k hk hp go
   unfold f13_l1
   rw [dT (by omega), cond_true, guardF_pos (by omega), guardF_pos (by omega), hp]
   rfl
  ·intro go
   unfold f13_l1
   rw [dF (by omega)]; rfl
 ·rw [nT (by omega), dF (fun e => hl (by rw [e]))]; rfl
end Go.Proofs.Sh
namespace Go.Proofs.Sh
open Go.AM Go.Proofs.PlB Go.Proofs.PlW Go.Proofs.PlT Go.Proofs.PlS
end Go.Proofs.Sh
namespace Go.Proofs.Dots
open Go.AM Go.Proofs.PlW
def W0 (A : Int) : Int := A % 18446744073709551616
def W1 (A : Int) : Int := A / 18446744073709551616 % 18446744073709551616
def W2 (A : Int) : Int := A / 18446744073709551616 / 18446744073709551616 % 18446744073709551616
def W3 (A : Int) : Int := A / 18446744073709551616 / 18446744073709551616 / 18446744073709551616 % 18446744073709551616
theorem W1_eq (A : Int) : W1 A = W0 (A / 18446744073709551616) := rfl
theorem W2_eq (A : Int) : W2 A = W1 (A / 18446744073709551616) := rfl
theorem W3_eq (A : Int) : W3 A = W2 (A / 18446744073709551616) := rfl
theorem md (s q k : Int) : (s - q - k) / 18446744073709551616 = s / 18446744073709551616 - q / 18446744073709551616 - -((s % 18446744073709551616 - q % 18446744073709551616 - k) / 18446744073709551616) := by omega
end Go.Proofs.Dots
namespace Go.Proofs.Dots
open Go.AM Go.Proofs.PlW
theorem small (n : Int) (h0 : 0 ≤ n) (h1 : n < 18446744073709551616) : W0 n = n ∧ W1 n = 0 ∧ W2 n = 0 ∧ W3 n = 0 := by
 have e : n / 18446744073709551616 = 0 := by omega
 refine ⟨by unfold W0; omega, by unfold W1; rw [e]; rfl, by unfold W2; rw [e]; rfl, by unfold W3; rw [e]; rfl⟩
theorem two (s p : Int) (h0 : 0 ≤ s) (h1 : s < 18446744073709551616) (g0 : 0 ≤ p) (g1 : p < 18446744073709551616) : W0 (s + 18446744073709551616 * p) = s ∧ W1 (s + 18446744073709551616 * p) = p ∧ W2 (s + 18446744073709551616 * p) = 0 ∧ W3 (s + 18446744073709551616 * p) = 0 := by
 have e : (s + 18446744073709551616 * p) / 18446744073709551616 = p := by omega
 obtain ⟨k0, k1, k2, k3⟩ := small p g0 g1
 refine ⟨by unfold W0; omega, ?_, ?_, ?_⟩
 ·rw [W1_eq, e]; exact k0
 ·rw [W2_eq, e]; exact k1
 ·rw [W3_eq, e]; exact k2
end Go.Proofs.Dots
namespace Go.Proofs.Dots
open Go.AM Go.Proofs.PlW
end Go.Proofs.Dots
namespace Go.Proofs.Num
open Go.AM Go.Proofs.PlW Go.Proofs.Dots
end Go.Proofs.Num
namespace Go.Proofs.Num
open Go.AM Go.Proofs.PlW Go.Proofs.Dots
def top (D j : Nat) : Nat := D / 2 ^ j * 2 ^ j
end Go.Proofs.Num
namespace Go.Proofs.Div
open Go.AM Go.Proofs.PlW
def tabOk (x : Nat) : Bool := match (bt f162_s1 (x : Int)) with
 | .ofNat t => decide (1 ≤ t) && decide (t ≤ 8) && decide (2 ^ (t - 1) ≤ x) && decide (x + 1 ≤ 2 ^ t)
 | .negSucc _ => false
theorem tab_all : (List.range 256).all (fun x => x == 0 || tabOk x) = true := by kernel_rfl
theorem tab_ok (x : Nat) (h0 : 0 < x) (h1 : x < 256) : ∃ t : Nat, bt f162_s1 (x : Int) = (t : Int) ∧ 1 ≤ t ∧ t ≤ 8 ∧ 2 ^ (t - 1) ≤ x ∧ x + 1 ≤ 2 ^ t := by
 have := List.all_eq_true.1 tab_all x (List.mem_range.2 h1)
 rw [show (x == 0) = false by simp; omega, Bool.false_or] at this
 unfold tabOk at this
 split at this
 ·next t ht =>
  simp only [Bool.and_eq_true, decide_eq_true_eq] at this
  exact ⟨t, ht, this.1.1.1, this.1.1.2, this.1.2, this.2⟩
 ·exact absurd this (by decide)
structure Dig (Y a b u d q r : Int) : Prop where
 eq : q * a + r = u
 r0 : 0 ≤ r
 r1 : r < 4294967296
 q0 : 0 ≤ q
 q1 : q ≤ 4294967297
 ge : (u * 4294967296 + d) / Y ≤ q
end Go.Proofs.Div
namespace Go.Proofs.PlV
open Go.AM Go.Proofs.PlB Go.Proofs.PlW Go.Proofs.PlT
def pair (V : Int) : Int × Int := (V / 18446744073709551616, V % 18446744073709551616)
def far (V : Int) : Prop := -85070591730234615865843651857942052864 ≤ V ∧ V ≤ 85070591730234615865843651857942052864
theorem of_ok (v : Int) (h0 : -9223372036854775808 ≤ v) (h1 : v < 9223372036854775808) : f181 v = some (pair v) := by
 unfold f181 pair
 rw [sh63i, wu]
 congr 2
 omega
theorem add_w (A B : Int) (ha : far A) (hb : far B) (hs : far (A + B)) : f180 (pair A) (pair B) = some (pair (A + B)) := by
 obtain ⟨a0, a1⟩ := ha
 obtain ⟨b0, b1⟩ := hb
 obtain ⟨s0, s1⟩ := hs
 unfold f180 pair
 simp only
 rw [add_ok _ _ _ (by omega) (by omega) (by decide) (by decide)]
 simp only [bindF_some, wu]
 rw [add_ok _ _ _ (by omega) (by omega) (by omega) (by omega)]
 simp only [bindF_some, Option.some.injEq, Prod.mk.injEq]
 refine ⟨?_, by omega⟩
 rw [wi_mod, ← wi_mod]
 rw [show (A / 18446744073709551616 % 18446744073709551616 + B / 18446744073709551616 % 18446744073709551616 + (A % 18446744073709551616 + B % 18446744073709551616 + 0) / 18446744073709551616) % 18446744073709551616 = (A + B) / 18446744073709551616 % 18446744073709551616 by omega]
 rw [wi_mod, wrap_i64 (by omega) (by omega)]
theorem fix_ok (V : Int) (hv : far V) : f182 (pair V) = some (sat V) := by
 obtain ⟨a0, a1⟩ := hv
 unfold f182 f182_j2 f182_j3 pair sat
 simp only
 by_cases h1 : V / 18446744073709551616 > 0
 ·rw [show decide (V / 18446744073709551616 > 0) = true by simpa using h1, if_pos (by omega)]
  rfl
 ·rw [show decide (V / 18446744073709551616 > 0) = false by simpa using h1]
  simp only [cond_false]
  by_cases h2 : V / 18446744073709551616 = 0
  ·rw [show (V / 18446744073709551616 == 0) = true by simpa using h2]
   simp only [cond_true, bindF_some]
   rw [show decide (V / 18446744073709551616 < -1) = false by simp; omega, show (V / 18446744073709551616 == -1) = false by simp; omega]
   by_cases h3 : V % 18446744073709551616 ≥ 9223372036854775808
   ·rw [show decide (V % 18446744073709551616 ≥ 9223372036854775808) = true by simpa using h3, if_pos (by omega)]
    rfl
   ·rw [show decide (V % 18446744073709551616 ≥ 9223372036854775808) = false by simpa using h3, if_neg (by omega), if_neg (by omega)]
    simp only [cond_false, bindF_some, sumF_inl, Option.some.injEq]
    rw [wrap_i64 (by omega) (by omega)]
    omega
  ·rw [show (V / 18446744073709551616 == 0) = false by simpa using h2]
   simp only [cond_false, bindF_some]
   by_cases h3 : V / 18446744073709551616 < -1
   ·rw [show decide (V / 18446744073709551616 < -1) = true by simpa using h3, if_neg (by omega), if_pos (by omega)]
    rfl
   ·rw [show decide (V / 18446744073709551616 < -1) = false by simpa using h3, show (V / 18446744073709551616 == -1) = true by simp; omega]
    simp only [cond_false, cond_true]
    by_cases h4 : V % 18446744073709551616 < 9223372036854775808
    ·rw [show decide (V % 18446744073709551616 < 9223372036854775808) = true by simpa using h4, if_neg (by omega), if_pos (by omega)]
     rfl
    ·rw [show decide (V % 18446744073709551616 < 9223372036854775808) = false by simpa using h4, if_neg (by omega), if_neg (by omega)]
     simp only [cond_false, bindF_some, sumF_inl, Option.some.injEq]
     rw [wi]
     split <;> omega
end Go.Proofs.PlV
namespace Go.Proofs.Div
open Go.AM Go.Proofs.PlW Go.Proofs.Num Go.Proofs.PlV
end Go.Proofs.Div
namespace Go.Proofs.PlR
open Go.AM Go.Proofs.PlB Go.Proofs.PlW Go.Proofs.PlT Go.Proofs.PlS
abbrev Tn := List Int × List Int
end Go.Proofs.PlR
namespace Go.Proofs.PlV
open Go.AM Go.Proofs.PlB Go.Proofs.PlW Go.Proofs.PlT
end Go.Proofs.PlV
namespace Go.Proofs.PlR
open Go.AM Go.Proofs.PlB Go.Proofs.PlW Go.Proofs.PlT Go.Proofs.PlS Go.Proofs.PlV
def sumL : List Int → Int
 | [] => 0
 | x :: r => x + sumL r
theorem sumL_app : ∀ a b : List Int, sumL (a ++ b) = sumL a + sumL b
 | [], b => by simp [sumL]
 | x :: r, b => by simp only [List.cons_append, sumL, sumL_app r b]; omega
theorem sumL_bound (b : Int) (hb : 0 ≤ b) : ∀ l : List Int, (∀ x ∈ l, -b ≤ x ∧ x ≤ b) → -(l.length * b) ≤ sumL l ∧ sumL l ≤ l.length * b
 | [], _ => by simp [sumL]
 | x :: r, h => by
  have h1 := h x (by simp)
  have h2 := sumL_bound b hb r (fun y hy => h y (by simp [hy]))
  simp only [sumL, List.length_cons, Int.natCast_add, Int.natCast_one, Int.add_mul, Int.one_mul]
  omega
theorem far_sum (l : List Int) (il : inI l) (hl : l.length ≤ 4096) : far (sumL l) := by
 have h := sumL_bound 9223372036854775808 (by decide) l (fun x hx => by have := il x hx; omega)
 unfold far; omega
theorem total_ok (l : List Int) (il : inI l) (hl : l.length ≤ 4096) : f183 l = some (pair (sumL l)) := by
 unfold f183
 have H : ∀ x : Int × Int × Int, (∃ k : Nat, k ≤ l.length ∧ x = ((k : Int), (pair (sumL (l.take k))).1, (pair (sumL (l.take k))).2)) →
   (∃ z, (∀ go, f183_l1 l go x.1 x.2.1 x.2.2 = some z) ∧ z = pair (sumL l)) ∨
   (∃ y : Int × Int × Int, (∀ go, f183_l1 l go x.1 x.2.1 x.2.2 = go y) ∧ (∃ k : Nat, k ≤ l.length ∧ y = ((k : Int), (pair (sumL (l.take k))).1, (pair (sumL (l.take k))).2)) ∧ ((l.length : Int) - y.1).toNat < ((l.length : Int) - x.1).toNat) := by
  rintro _ ⟨k, hk, rfl⟩
  unfold f183_l1
  simp only
  by_cases h : k < l.length
  ·right
   refine ⟨(((k + 1 : Nat) : Int), (pair (sumL (l.take (k + 1)))).1, (pair (sumL (l.take (k + 1)))).2), fun go => ?_, ⟨k + 1, h, rfl⟩, by simp only; omega⟩
   rw [show decide ((k : Int) < (l.length : Int)) = true by simpa using h]
   simp only [cond_true]
   have hr := il l[k] (List.getElem_mem h)
   rw [guardF_pos (by omega), rd_nat _ _ _ h, of_ok _ hr.1 hr.2]
   simp only [bindF_some]
   have e : sumL (l.take (k + 1)) = sumL (l.take k) + l[k] := by
    rw [List.take_succ_eq_append_getElem h, sumL_app]
    simp [sumL]
   have far1 : far (sumL (l.take k)) := far_sum _ (fun x hx => il x (List.mem_of_mem_take hx)) (by simp; omega)
   have far2 : far (sumL (l.take (k + 1))) := far_sum _ (fun x hx => il x (List.mem_of_mem_take hx)) (by simp; omega)
   rw [e] at far2 ⊢
   rw [show ((pair (sumL (l.take k))).1, (pair (sumL (l.take k))).2) = pair (sumL (l.take k)) from rfl, show ((pair l[k]).1, (pair l[k]).2) = pair l[k] from rfl, add_w _ _ far1 (by unfold far; omega) far2]
   simp only [bindF_some]
   rw [wrap_i64 (by omega) (by omega)]
   rfl
  ·left
   have : k = l.length := by omega
   subst this
   refine ⟨_, fun go => ?_, rfl⟩
   rw [show decide ((l.length : Int) < (l.length : Int)) = false by simp]
   rw [List.take_length]
   rfl
 obtain ⟨z, e, rfl⟩ := loop_fuel (B := fun go (x : Int × Int × Int) => f183_l1 l go x.1 x.2.1 x.2.2) _ (fun x => ((l.length : Int) - x.1).toNat) _ H ((0 : Int), (0 : Int), (0 : Int)) ⟨0, Nat.zero_le _, by simp [pair, sumL]⟩ (by simp; omega)
 rw [e]
 rfl
abbrev Nd := Int × Int × Int × Int × (List Int) × (List Int)
def nd (l : List Nd) (i : Nat) : Tn := (rd (Ty.z (.p (.int .i64) (.p (.int .i64) (.p (.int .i64) (.p (.int .i64) (.p (.sl (.int .i64)) (.sl (.int .i64)))))))) l (i : Int)).2.2.2.2
end Go.Proofs.PlR
namespace Go.Proofs.Op
open Go.AM Go.Proofs.PlB Go.Proofs.PlW Go.Proofs.PlT Go.Proofs.PlS Go.Proofs.Sh Go.Proofs.Num Go.Proofs.Div
abbrev Tn := List Int × List Int
theorem allP (a : Tn) (ia : inI a.2) (hg : tgood a = true) : f147 a = some (sat (PlR.sumL a.2), 0) := by
 obtain ⟨_, _, _, hl⟩ := good_len hg
 unfold f147
 rw [show ((a.1, a.2) : Tn) = a from rfl, good_ok, hg, bindF_some, Bool.not_true, cond_false, PlR.total_ok a.2 ia hl, bindF_some]
 rw [show ((PlV.pair (PlR.sumL a.2)).1, (PlV.pair (PlR.sumL a.2)).2) = PlV.pair (PlR.sumL a.2) from rfl, PlV.fix_ok _ (PlR.far_sum a.2 ia hl)]
 rfl
end Go.Proofs.Op
namespace Go.Proofs.Op
open Go.AM Go.Proofs.PlB Go.Proofs.PlW Go.Proofs.PlT Go.Proofs.PlS Go.Proofs.Sh Go.Proofs.Num Go.Proofs.Div
theorem sameP (a b : List Int) (h : a.length < 4611686018427387904) : f88 a b = some (decide (a = b)) := by
 unfold f88
 rw [show f115 a b = f13 a b from rfl, sameR a b h]; rfl
end Go.Proofs.Op
namespace Go.Proofs.Cv
open Go.AM Go.Proofs.PlB Go.Proofs.PlW Go.Proofs.PlT Go.Proofs.PlS Go.Proofs.Sh Go.Proofs.Num Go.Proofs.Div Go.Proofs.Op
def sg (F : Nat → Int) : Nat → Int
 | 0 => 0
 | k + 1 => sg F k + F k
def acc (S : Int) : Int × Int × Int := (S / 340282366920938463463374607431768211456, IntKind.i64.wrap (S / 18446744073709551616), S % 18446744073709551616)
theorem wnat {n : Nat} (h : n < 1000000000) : IntKind.i64.wrap (n : Int) = (n : Int) := wrap_i64 (by omega) (by omega)
theorem wmul (a b : Nat) (h : a * b < 1000000000) : IntKind.i64.wrap ((a : Int) * b) = ((a * b : Nat) : Int) := by rw [← Int.natCast_mul]; exact wnat h
theorem wadd (a b : Nat) (h : a + b < 1000000000) : IntKind.i64.wrap ((a : Int) + b) = ((a + b : Nat) : Int) := by rw [← Int.natCast_add]; exact wnat h
theorem wsucc (a : Nat) (h : a < 100000000) : IntKind.i64.wrap ((a : Int) + 1) = ((a + 1 : Nat) : Int) := wadd a 1 (by omega)
theorem ixM (i c x : Nat) (h : i * c + x < 1000000) : IntKind.i64.wrap (IntKind.i64.wrap ((i : Int) * c) + x) = ((i * c + x : Nat) : Int) := by
 rw [wmul i c (by omega), wadd _ _ (by omega)]
theorem ixK (i c x w y : Nat) (hw : 1 ≤ w) (h : (i * c + x) * w + y < 1000000) : IntKind.i64.wrap (IntKind.i64.wrap (IntKind.i64.wrap (IntKind.i64.wrap ((i : Int) * c) + x) * w) + y) = (((i * c + x) * w + y : Nat) : Int) := by
 have : i * c + x ≤ (i * c + x) * w := Nat.le_mul_of_pos_right _ hw
 rw [ixM i c x (by omega), wmul _ _ (by omega), wadd _ _ (by omega)]
end Go.Proofs.Cv
namespace Go.Proofs.Cv
open Go.AM Go.Proofs.PlB Go.Proofs.PlW Go.Proofs.PlT Go.Proofs.PlS Go.Proofs.Sh Go.Proofs.Num Go.Proofs.Div Go.Proofs.Op
def many (L w s : Nat) : Nat := (L - w) / s + 1
section
variable (A K : List Int) (c L o w s : Nat) (c1 : 1 ≤ c) (w1 : 1 ≤ w) (hA : A.length = c * L) (hK : K.length = o * (c * w)) (bA : c * L ≤ 4096) (bK : o * (c * w) ≤ 4096) (hw : w ≤ L) (s1 : 1 ≤ s) (s64 : s ≤ 64) (iA : inI A) (iK : inI K)
include c1 w1 hA hK bA bK hw s1 s64 iA iK
end
end Go.Proofs.Cv
namespace Go.Proofs.Cv
open Go.AM Go.Proofs.PlB Go.Proofs.PlW Go.Proofs.PlT Go.Proofs.PlS Go.Proofs.Sh Go.Proofs.Num Go.Proofs.Div Go.Proofs.Op
theorem of_ok (d : List Int) : f175 d = some (if 0 < prd d then (0, d, List.replicate (prd d).toNat 0) else (2, [], [])) := by
 unfold f175
 rw [new_ok]
 by_cases h : 0 < prd d
 ·rw [if_pos h, if_pos h, bindF_some, nF rfl]; rfl
 ·rw [if_neg h, if_neg h, bindF_some, nT (by decide : ¬ (1 : Int) = 0)]; rfl
section
variable (A K : List Int) (c L o w s : Nat) (c1 : 1 ≤ c) (w1 : 1 ≤ w) (hA : A.length = c * L) (hK : K.length = o * (c * w)) (bA : c * L ≤ 4096) (bK : o * (c * w) ≤ 4096) (hw : w ≤ L) (s1 : 1 ≤ s) (s64 : s ≤ 64) (iA : inI A) (iK : inI K) (o1 : 1 ≤ o)
include c1 w1 hA hK bA bK hw s1 s64 iA iK o1
end
end Go.Proofs.Cv
namespace Go.Proofs.PlM
open Go.AM Go.Proofs.PlB Go.Proofs.PlW Go.Proofs.PlT
structure Mat (n m : Int) : Prop where
 n1 : 1 ≤ n
 n2 : n ≤ 4096
 m1 : 1 ≤ m
 m2 : m ≤ 4096
 p : n * m ≤ 4096
theorem Mat.prd {n m : Int} (h : Mat n m) : prd [n, m] = n * m := by
 obtain ⟨h1, h2, h3, h4, h5⟩ := h
 rw [prd_two, if_neg (by omega)]
theorem Mat.pos {n m : Int} (h : Mat n m) : 0 < n * m := Int.mul_pos (by have := h.n1; omega) (by have := h.m1; omega)
theorem Mat.of {n m : Int} (h : 0 < PlB.prd [n, m]) : Mat n m := by
 rw [prd_two] at h
 split at h
 ·omega
 ·rename_i h'; exact ⟨by omega, by omega, by omega, by omega, by omega⟩
end Go.Proofs.PlM
namespace Go.Proofs.PlN
open Go.AM Go.Proofs.PlB Go.Proofs.PlW Go.Proofs.PlT Go.Proofs.PlM
end Go.Proofs.PlN
namespace Go.Proofs.Matm
open Go.AM Go.Proofs.PlB Go.Proofs.PlW Go.Proofs.PlT Go.Proofs.PlM Go.Proofs.PlN
end Go.Proofs.Matm
namespace Go.Proofs.Cv
open Go.AM Go.Proofs.PlB Go.Proofs.PlW Go.Proofs.PlT Go.Proofs.PlS Go.Proofs.Sh Go.Proofs.Num Go.Proofs.Div Go.Proofs.Op
section
variable (A B : List Int) (n k c : Nat) (n1 : 1 ≤ n) (k1 : 1 ≤ k) (c1 : 1 ≤ c) (hA : A.length = n * k) (hB : B.length = k * c) (bA : n * k ≤ 4096) (bB : k * c ≤ 4096) (iA : inI A) (iB : inI B)
include n1 k1 c1 hA hB bA bB iA iB
end
end Go.Proofs.Cv
namespace Go.Proofs.Op
open Go.AM Go.Proofs.PlB Go.Proofs.PlW Go.Proofs.PlT Go.Proofs.PlS Go.Proofs.Sh Go.Proofs.Num Go.Proofs.Div Go.Proofs.PlR
def GoodT (t : Tn) : Prop := tgood t = true ∧ inI t.2
def vl (l : List Nd) (n : Int) : Tn := if 0 ≤ n ∧ n < l.length then nd l n.toNat else ([], [])
abbrev Z2 : Tn := Ty.z (.p (.sl (.int .i64)) (.sl (.int .i64)))
structure Keeps (l : List Nd) (root : Nat) (st : List Tn × List Bool) : Prop where
 l1 : st.1.length = root + 1
 l2 : st.2.length = root + 1
 ok : ∀ i, i ≤ root → GoodT (rd Z2 st.1 (i : Int)) ∧ (rd Z2 st.1 (i : Int)).1 = (nd l i).1
theorem rd_app {α : Type} (z : α) (l : List α) (v : α) (i : Nat) (h : i < l.length) : rd z (l ++ [v]) (i : Int) = rd z l (i : Int) := by
 rw [rd_nat _ _ _ (by rw [List.length_append]; simp; omega), rd_nat _ _ _ h, List.getElem_append_left h]
theorem rd_last {α : Type} (z : α) (l : List α) (v : α) : rd z (l ++ [v]) (l.length : Int) = v := by
 rw [rd_nat _ _ _ (by rw [List.length_append]; simp), List.getElem_append_right (Nat.le_refl _)]
 simp
end Go.Proofs.Op
namespace Go.Proofs.Cv
open Go.AM Go.Proofs.PlB Go.Proofs.PlW Go.Proofs.PlT Go.Proofs.PlS Go.Proofs.Sh Go.Proofs.Num Go.Proofs.Div Go.Proofs.Op
theorem prodL_app : ∀ a b : List Int, prodL (a ++ b) = prodL a * prodL b
 | [], b => by simp [prodL]
 | x :: a, b => by simp only [List.cons_append, prodL]; rw [prodL_app a b, Int.mul_assoc]
theorem prodL_take {d : List Int} (k : Nat) (h : k < d.length) : prodL (d.take (k + 1)) = prodL (d.take k) * rd (0 : Int) d (k : Int) := by
 rw [List.take_succ_eq_append_getElem h, prodL_app, rd_nat _ _ _ h]
 simp [prodL]
theorem prodL_le {d : List Int} (hd : ∀ x ∈ d, 1 ≤ x) (k : Nat) : 1 ≤ prodL (d.take k) ∧ prodL (d.take k) ≤ prodL d := by
 have h1 := prodL_pos (d.take k) (fun x hx => hd x (List.mem_of_mem_take hx))
 have h2 := prodL_pos (d.drop k) (fun x hx => hd x (List.mem_of_mem_drop hx))
 refine ⟨h1, ?_⟩
 have e : prodL d = prodL (d.take k) * prodL (d.drop k) := by rw [← prodL_app, List.take_append_drop]
 rw [e]
 have := Int.mul_le_mul_of_nonneg_left h2 (show 0 ≤ prodL (d.take k) by omega)
 omega
structure Within (d p : List Int) : Prop where
 len : p.length = d.length
 lo : ∀ k, k < d.length → 0 ≤ rd (0 : Int) p (k : Int)
 hi : ∀ k, k < d.length → rd (0 : Int) p (k : Int) < rd (0 : Int) d (k : Int)
end Go.Proofs.Cv
namespace Go.Proofs.Cv
open Go.AM Go.Proofs.PlB Go.Proofs.PlW Go.Proofs.PlT Go.Proofs.PlS Go.Proofs.Sh Go.Proofs.Num Go.Proofs.Div Go.Proofs.Op
def goes (D st i : Nat) : Nat := i / (st * D) * st + i % st
theorem pgo_of : ∀ (d : List Int) (n : Int), 1 ≤ n → (∀ x ∈ d, 1 ≤ x ∧ x ≤ 4096) → n * prodL d ≤ 4096 → pgo n d = n * prodL d
 | [], n, _, _, _ => by simp [pgo, prodL]
 | x :: d, n, hn, h, hp => by
  have hx := h x (by simp)
  have hd : ∀ y ∈ d, 1 ≤ y ∧ y ≤ 4096 := fun y hy => h y (by simp [hy])
  have p1 := prodL_pos d (fun y hy => (hd y hy).1)
  simp only [prodL] at hp ⊢
  have e : n * (x * prodL d) = n * x * prodL d := by rw [Int.mul_assoc]
  have nx : 1 ≤ n * x := by have := Int.mul_le_mul hn hx.1 (by omega) (by omega); omega
  have le : n * x ≤ n * x * prodL d := by have := Int.mul_le_mul_of_nonneg_left p1 (show 0 ≤ n * x by omega); omega
  rw [e] at hp ⊢
  have := pgo_of d (n * x) nx hd hp
  simp only [pgo]
  rw [if_neg (by omega), this]
def cutD (d : List Int) (j : Nat) : List Int := d.take j ++ d.drop (j + 1)
structure Cut (d : List Int) (j H D st : Nat) : Prop where
 hj : j < d.length
 pos : 0 < prd d
 H1 : 1 ≤ H
 D1 : 1 ≤ D
 s1 : 1 ≤ st
 eH : prodL (d.take j) = (H : Int)
 eD : rd (0 : Int) d (j : Int) = (D : Int)
 eS : prodL (d.drop (j + 1)) = (st : Int)
 eN : prd d = ((H * (D * st) : Nat) : Int)
 le : H * (D * st) ≤ 4096
 leM : H * st ≤ 4096
 posM : 0 < prd (cutD d j)
 eM : prd (cutD d j) = ((H * st : Nat) : Int)
end Go.Proofs.Cv
namespace Go.Proofs.Cv
open Go.AM Go.Proofs.PlB Go.Proofs.PlW Go.Proofs.PlT Go.Proofs.PlS Go.Proofs.Sh Go.Proofs.Num Go.Proofs.Div Go.Proofs.Op
end Go.Proofs.Cv
namespace Go.Proofs.Cv
open Go.AM Go.Proofs.PlB Go.Proofs.PlW Go.Proofs.PlT Go.Proofs.PlS Go.Proofs.Sh Go.Proofs.Num Go.Proofs.Div Go.Proofs.Op
end Go.Proofs.Cv
namespace Go.Proofs.Cv
open Go.AM Go.Proofs.PlB Go.Proofs.PlW Go.Proofs.PlT Go.Proofs.PlS Go.Proofs.Sh Go.Proofs.Num Go.Proofs.Div Go.Proofs.Op
section
variable (G K : List Int) (o c w m s x l : Nat) (c1 : 1 ≤ c) (w1 : 1 ≤ w) (hG : G.length = o * m) (hK : K.length = o * (c * w)) (bG : o * m ≤ 4096) (bK : o * (c * w) ≤ 4096) (s1 : 1 ≤ s) (s64 : s ≤ 64) (iG : inI G) (iK : inI K) (hx : x < c) (hl : l < 4096)
include c1 w1 hG hK bG bK s1 s64 iG iK hx hl
end
end Go.Proofs.Cv
namespace Go.Proofs.Cv
open Go.AM Go.Proofs.PlB Go.Proofs.PlW Go.Proofs.PlT Go.Proofs.PlS Go.Proofs.Sh Go.Proofs.Num Go.Proofs.Div Go.Proofs.Op
section
variable (G A : List Int) (o c L w s : Nat) (o1 : 1 ≤ o) (c1 : 1 ≤ c) (w1 : 1 ≤ w) (hG : G.length = o * many L w s) (hA : A.length = c * L) (bG : o * many L w s ≤ 4096) (bA : c * L ≤ 4096) (hw : w ≤ L) (s1 : 1 ≤ s) (s64 : s ≤ 64) (iG : inI G) (iA : inI A)
include o1 c1 w1 hG hA bG bA hw s1 s64 iG iA
end
end Go.Proofs.Cv
namespace Go.Proofs.Cv
open Go.AM Go.Proofs.PlB Go.Proofs.PlW Go.Proofs.PlT Go.Proofs.PlS Go.Proofs.Sh Go.Proofs.Num Go.Proofs.Div Go.Proofs.Op
section
variable (G A : List Int) (o c L w s : Nat) (o1 : 1 ≤ o) (c1 : 1 ≤ c) (w1 : 1 ≤ w) (hG : G.length = o * many L w s) (hA : A.length = c * L) (bG : o * many L w s ≤ 4096) (bA : c * L ≤ 4096) (hw : w ≤ L) (s1 : 1 ≤ s) (s64 : s ≤ 64) (iG : inI G) (iA : inI A) (bq : o * (c * w) ≤ 4096)
include o1 c1 w1 hG hA bG bA hw s1 s64 iG iA bq
end
end Go.Proofs.Cv
namespace Go.Proofs.Cv
open Go.AM Go.Proofs.PlB Go.Proofs.PlW Go.Proofs.PlT Go.Proofs.PlS Go.Proofs.Sh Go.Proofs.Num Go.Proofs.Div Go.Proofs.Op
end Go.Proofs.Cv
namespace Go.Proofs.Cv
open Go.AM Go.Proofs.PlB Go.Proofs.PlW Go.Proofs.PlT Go.Proofs.PlS Go.Proofs.Sh Go.Proofs.Num Go.Proofs.Div Go.Proofs.Op
section
variable (G K : List Int) (o c w m s L : Nat) (o1 : 1 ≤ o) (c1 : 1 ≤ c) (w1 : 1 ≤ w) (hG : G.length = o * m) (hK : K.length = o * (c * w)) (bG : o * m ≤ 4096) (bK : o * (c * w) ≤ 4096) (s1 : 1 ≤ s) (s64 : s ≤ 64) (iG : inI G) (iK : inI K) (L1 : 1 ≤ L) (bL : c * L ≤ 4096)
include o1 c1 w1 hG hK bG bK s1 s64 iG iK L1 bL
end
end Go.Proofs.Cv
namespace Go.Proofs.Cv
open Go.AM Go.Proofs.PlB Go.Proofs.PlW Go.Proofs.PlT Go.Proofs.PlS Go.Proofs.Sh Go.Proofs.Num Go.Proofs.Div Go.Proofs.Op
def bst (V : List Int) (base : Nat) : Nat → Nat
 | 0 => base
 | y + 1 => if rd (0 : Int) V ((base + (y + 1) : Nat) : Int) > rd (0 : Int) V (bst V base y : Int) then base + (y + 1) else bst V base y
def pl (V : List Int) (L w q : Nat) : Nat := bst V (q / (L / w) * L + q % (L / w) * w) (w - 1)
section
variable (V : List Int) (c L w : Nat) (c1 : 1 ≤ c) (w1 : 1 ≤ w) (hw : w ≤ L) (hV : V.length = c * L) (bV : c * L ≤ 4096)
include c1 w1 hw hV bV
end
end Go.Proofs.Cv
namespace Go.Proofs.Op
open Go.AM Go.Proofs.PlB Go.Proofs.PlW Go.Proofs.PlT Go.Proofs.PlS Go.Proofs.Sh Go.Proofs.Num Go.Proofs.Div Go.Proofs.PlR
section
variable (l : List Nd) (i : Nat)
end
end Go.Proofs.Op
namespace Go.Proofs.Cv
open Go.AM Go.Proofs.PlB Go.Proofs.PlW Go.Proofs.PlT Go.Proofs.PlS Go.Proofs.Sh Go.Proofs.Num Go.Proofs.Div Go.Proofs.Op
open Go.Proofs.PlR hiding Tn
end Go.Proofs.Cv
namespace Go.Proofs.Cv
open Go.AM Go.Proofs.PlB Go.Proofs.PlW Go.Proofs.PlT Go.Proofs.PlS Go.Proofs.Sh Go.Proofs.Num Go.Proofs.Div Go.Proofs.Op
open Go.Proofs.PlR hiding Tn
structure GW (root : Nat) (ls : List Tn) (gv : List Bool) : Prop where
 w1 : ls.length = root + 1
 w2 : gv.length = root + 1
 wI : ∀ i, i ≤ root → inI (rd Z2 ls (i : Int)).2
end Go.Proofs.Cv
namespace Go.Proofs.Cv
open Go.AM Go.Proofs.PlB Go.Proofs.PlW Go.Proofs.PlT Go.Proofs.PlS Go.Proofs.Sh Go.Proofs.Num Go.Proofs.Div Go.Proofs.Op
end Go.Proofs.Cv
namespace Go.Proofs.Cv
open Go.AM Go.Proofs.PlB Go.Proofs.PlW Go.Proofs.PlT Go.Proofs.PlS Go.Proofs.Sh Go.Proofs.Num Go.Proofs.Div Go.Proofs.Op
def hQ (d : List Int) (j : Nat) : Nat → Int
 | 0 => 1
 | t + 1 => hQ d j t * rd (0 : Int) d ((j + 1 + t : Nat) : Int)
section
variable {d : List Int} {j H D st : Nat} (C : Cut d j H D st)
include C
end
end Go.Proofs.Cv
namespace Go.Proofs.Cv
open Go.AM Go.Proofs.PlB Go.Proofs.PlW Go.Proofs.PlT Go.Proofs.PlS Go.Proofs.Sh Go.Proofs.Num Go.Proofs.Div Go.Proofs.Op
def part (V : List Int) (D st k v : Nat) : Int := sg (fun i => if goes D st i = v then rd (0 : Int) V (i : Int) else 0) k
section
variable (d V : List Int) (j H D st : Nat) (C : Cut d j H D st) (hV : V.length = H * (D * st)) (iV : inI V)
include C hV iV
end
end Go.Proofs.Cv
namespace Go.Proofs.Op
open Go.AM Go.Proofs.PlB Go.Proofs.PlW Go.Proofs.PlT Go.Proofs.PlS Go.Proofs.Sh Go.Proofs.Num Go.Proofs.Div
open Go.Proofs.PlR hiding Tn
end Go.Proofs.Op
namespace Go.Proofs.Op
open Go.AM Go.Proofs.PlB Go.Proofs.PlW Go.Proofs.PlT Go.Proofs.PlS Go.Proofs.Sh Go.Proofs.Num Go.Proofs.Div
open Go.Proofs.PlR hiding Tn
section
variable (l : List Nd) (i : Nat)
end
end Go.Proofs.Op
namespace Go.Proofs.Op
open Go.AM Go.Proofs.PlB Go.Proofs.PlW Go.Proofs.PlT Go.Proofs.PlS Go.Proofs.Sh Go.Proofs.Num Go.Proofs.Div Go.Proofs.PlR
end Go.Proofs.Op
namespace Go.Proofs.Op
open Go.AM Go.Proofs.PlB Go.Proofs.PlW Go.Proofs.PlT Go.Proofs.PlS Go.Proofs.Sh Go.Proofs.Num Go.Proofs.Div
open Go.Proofs.PlR hiding Tn
end Go.Proofs.Op
namespace Go.Proofs.Cv
open Go.AM Go.Proofs.PlB Go.Proofs.PlW Go.Proofs.PlT Go.Proofs.PlS Go.Proofs.Sh Go.Proofs.Num Go.Proofs.Div Go.Proofs.Op
open Go.Proofs.PlR hiding Tn
end Go.Proofs.Cv
namespace Go.Proofs.Cv
open Go.AM Go.Proofs.PlB Go.Proofs.PlW Go.Proofs.PlT Go.Proofs.PlS Go.Proofs.Sh Go.Proofs.Num Go.Proofs.Div Go.Proofs.Op
open Go.Proofs.PlR hiding Tn
end Go.Proofs.Cv
namespace Go.Proofs.Cv
open Go.AM Go.Proofs.PlB Go.Proofs.PlW Go.Proofs.PlT Go.Proofs.PlS Go.Proofs.Sh Go.Proofs.Num Go.Proofs.Div Go.Proofs.Op
open Go.Proofs.PlR hiding Tn
abbrev Lay := ByteArray × Int × Int
abbrev Nt := (List Int) × (List Lay)
abbrev zLay : Lay := Ty.z (.p .str (.p (.int .i64) (.int .i64)))
abbrev zL : List Int := Ty.z (.sl (.int .i64))
def ly (n : Nt) (i : Nat) : Lay := rd zLay n.2 (i : Int)
def kd (b : ByteArray) (l : Lay) : Bool := (ByteArray.toList l.1 == ByteArray.toList b)
abbrev bDense : ByteArray := ByteArray.mk #[100, 101, 110, 115, 101]
abbrev bConv : ByteArray := ByteArray.mk #[99, 111, 110, 118]
abbrev bPool : ByteArray := ByteArray.mk #[112, 111, 111, 108]
theorem within_ok (v m : Int) : f60 v m = some (decide (1 ≤ v ∧ v ≤ m)) := by
 unfold f60
 by_cases h : v ≥ 1
 ·rw [dT h, cond_true]; congr 1; rw [decide_eq_decide]; omega
 ·rw [dF h, cond_false, dF (fun hh => h hh.1)]
theorem kd_ne {a b : ByteArray} {l : Lay} (h : kd a l = true) (hab : (ByteArray.toList a == ByteArray.toList b) = false) : kd b l = false := by
 unfold kd at h ⊢
 have h1 := eq_of_beq h
 rw [h1]; exact hab
theorem cloneS (d : List Int) (hl : d.length ≤ 4096) : f61 d = some d := PlB.clone_d d (by omega)
def Fit (p : Option (Bool × List Int)) (n : Nat) : Prop := ∃ b d, p = some (b, d) ∧ d.length ≤ n
def dm (d : List (List Int)) (i : Nat) : List Int := rd zL d (i : Int)
theorem dm_app (d : List (List Int)) (o : List Int) (i : Nat) (h : i < d.length) : dm (d ++ [o]) i = dm d i := rd_app _ _ _ _ h
theorem dm_last (d : List (List Int)) (o : List Int) : dm (d ++ [o]) d.length = o := rd_last _ _ _
end Go.Proofs.Cv
namespace Go.Proofs.Cv
open Go.AM Go.Proofs.PlB Go.Proofs.PlW Go.Proofs.PlT Go.Proofs.PlS Go.Proofs.Sh Go.Proofs.Num Go.Proofs.Div Go.Proofs.Op
open Go.Proofs.PlR hiding Tn
def DD (d : List Int) : Prop := d.length ≤ 2 ∧ ∀ x ∈ d, 1 ≤ x ∧ x ≤ 1024
theorem dd_rd {d : List Int} (h : DD d) (i : Nat) (hi : i < d.length) : 1 ≤ rd (0 : Int) d (i : Int) ∧ rd (0 : Int) d (i : Int) ≤ 1024 := by
 rw [rd_nat _ _ _ hi]; exact h.2 _ (List.getElem_mem hi)
theorem mul_to {a b A B : Int} (a0 : 1 ≤ a) (a1 : a ≤ A) (b0 : 1 ≤ b) (b1 : b ≤ B) : 1 ≤ a * b ∧ a * b ≤ A * B := by
 have h1 := Int.mul_le_mul a1 b1 (by omega) (by omega)
 have h2 := Int.mul_le_mul a0 b0 (by omega) (by omega)
 omega
structure FL (l : Lay) : Prop where
 fD : kd bDense l = true → 1 ≤ l.2.1 ∧ l.2.1 ≤ 256
 fC : kd bConv l = true → 1 ≤ l.2.1 ∧ l.2.1 ≤ 16 ∧ 1 ≤ l.2.2 ∧ l.2.2 ≤ 16
 fP : kd bPool l = true → 1 ≤ l.2.1
structure RS (k : Nat) (all : Int) (l : List (List Int)) : Prop where
 sL : l.length = k + 1
 sDD : ∀ i, i ≤ k → DD (dm l i)
 sA : 0 ≤ all ∧ all ≤ 4097
end Go.Proofs.Cv
namespace Go.Proofs.Cv
open Go.AM Go.Proofs.PlB Go.Proofs.PlW Go.Proofs.PlT Go.Proofs.PlS Go.Proofs.Sh Go.Proofs.Num Go.Proofs.Div Go.Proofs.Op
open Go.Proofs.PlR hiding Tn
abbrev bBn : ByteArray := ByteArray.mk #[98, 101, 110, 100]
abbrev bSk : ByteArray := ByteArray.mk #[115, 107, 105, 112]
def lok (l : Lay) : Bool :=
 bif kd bDense l then decide ((1 ≤ l.2.1 ∧ l.2.1 ≤ 256) ∧ l.2.2 = 0)
 else bif kd bConv l then decide ((1 ≤ l.2.1 ∧ l.2.1 ≤ 16) ∧ 1 ≤ l.2.2 ∧ l.2.2 ≤ 16)
 else bif kd bPool l then decide ((1 ≤ l.2.1 ∧ l.2.1 ≤ 16) ∧ l.2.2 = 0)
 else bif kd bBn l then decide ((1 ≤ l.2.1 ∧ l.2.1 ≤ 5) ∧ l.2.2 = 0)
 else bif kd bSk l then decide (l.2.1 = 0 ∧ l.2.2 = 0) else false
def iok (d : List Int) : Bool :=
 bif decide (d.length = 1) then decide (1 ≤ rd (0 : Int) d 0 ∧ rd (0 : Int) d 0 ≤ 1024)
 else bif decide (d.length = 2) then decide ((1 ≤ rd (0 : Int) d 0 ∧ rd (0 : Int) d 0 ≤ 64) ∧ 1 ≤ rd (0 : Int) d 1 ∧ rd (0 : Int) d 1 ≤ 64) else false
def fbad (n : Nt) : Option Nat := firstB (fun i => !lok (ly n i)) 0 n.2.length
def gok (n : Nt) : Bool := bif (fbad n).isSome then false else iok n.1
theorem bifd {p q : Prop} [Decidable p] [Decidable q] : (bif decide p then some (decide q) else some false) = some (decide (p ∧ q)) := by
 by_cases hp : p
 ·rw [dT hp, cond_true]; congr 1; rw [decide_eq_decide]; exact ⟨fun h => ⟨hp, h⟩, fun h => h.2⟩
 ·rw [dF hp, cond_false, dF (fun h => hp h.1)]
theorem bneI (x : Int) : (bif (x != (0 : Int)) then some (Sum.inr ()) else some (Sum.inl ()) : Option (Sum Unit Unit)) = some (bif decide (x = 0) then Sum.inl () else Sum.inr ()) := by
 by_cases h : x = 0
 ·rw [nF h, dT h]; rfl
 ·rw [nT h, dF h]; rfl
theorem good_lo {l : Lay} {v : Int} (h : f38 l.1 = some v) (hv : v < 2) : f59_j1 l = some (bif decide (l.2.2 = 0) then Sum.inl () else Sum.inr ()) := by
 unfold f59_j1
 rw [h, bindF_some, dT hv, cond_true]; exact bneI _
theorem sum_b {X : Type} {b : Bool} {f g : Unit → Option X} : sumF (bif b then Sum.inl () else Sum.inr ()) f g = bif b then f () else g () := by cases b <;> rfl
theorem swap_d {p q : Prop} [Decidable p] [Decidable q] : (bif decide q then some (decide p) else some false) = some (decide (p ∧ q)) := by
 rw [bifd]; congr 1; rw [decide_eq_decide]; exact And.comm
theorem lgoodP (l : Lay) : f59 l = some (lok l) := by
 have cnt : ∀ v, f38 l.1 = some v ↔ (bif (bif kd bDense l then true else bif kd bPool l then true else kd bBn l) then some (1 : Int) else bif kd bConv l then some (2 : Int) else bif kd bSk l then some (0 : Int) else some (-1 : Int)) = some v := fun v => by
  have e : f38 l.1 = (bif (bif kd bDense l then true else bif kd bPool l then true else kd bBn l) then some (1 : Int) else bif kd bConv l then some (2 : Int) else bif kd bSk l then some (0 : Int) else some (-1 : Int)) := by
   unfold f38 f38_j1
   show bindF (bif kd bDense l then some (kd bDense l) else bif kd bPool l then some (kd bPool l) else some (kd bBn l)) (fun z1 => bif z1 then some (1 : Int) else bif kd bConv l then some (2 : Int) else bif kd bSk l then some (0 : Int) else some (-1 : Int)) = _
   cases kd bDense l <;> cases kd bPool l <;> rfl
  rw [e]
 have wi : ∀ x m : Int, (bindF (f60 x m) fun r => some r) = some (decide (1 ≤ x ∧ x ≤ m)) := fun x m => by rw [within_ok, bindF_some]
 unfold f59 lok
 show bindF (f59_j1 l) (fun z2 => sumF z2 (fun _ => bif kd bDense l then bindF (f60 l.2.1 256) fun r4 => some r4 else bif kd bConv l then bindF (f60 l.2.1 16) fun r5 => bif r5 then bindF (f60 l.2.2 16) fun r6 => some r6 else some false
  else bif kd bPool l then bindF (f60 l.2.1 16) fun r7 => some r7 else bif kd bBn l then bindF (f60 l.2.1 5) fun r8 => some r8 else bif kd bSk l then some (l.2.1 == (0 : Int)) else some false) (fun _ => some false)) = _
 rw [wi, wi, wi, wi, within_ok, bindF_some]
 cases h1 : kd bDense l
 ·cases h2 : kd bConv l
  ·cases h3 : kd bPool l
   ·cases h4 : kd bBn l
    ·cases h5 : kd bSk l
     ·rw [good_lo ((cnt (-1)).2 (by rw [h1, h2, h3, h4, h5]; rfl)) (by omega), bindF_some, sum_b]
      cases decide (l.2.2 = 0) <;> rfl
     ·rw [good_lo ((cnt 0).2 (by rw [h1, h2, h3, h4, h5]; rfl)) (by omega), bindF_some, sum_b]
      exact swap_d
    ·rw [good_lo ((cnt 1).2 (by rw [h1, h3, h4]; rfl)) (by omega), bindF_some, sum_b]
     exact swap_d
   ·rw [good_lo ((cnt 1).2 (by rw [h1, h3]; rfl)) (by omega), bindF_some, sum_b]
    exact swap_d
  ·have h3 := kd_ne h2 (b := bPool) (by kernel_rfl)
   have h4 := kd_ne h2 (b := bBn) (by kernel_rfl)
   have e : f59_j1 l = some (Sum.inl ()) := by
    unfold f59_j1
    rw [(cnt 2).2 (by rw [h1, h2, h3, h4]; rfl), bindF_some, dF (by omega), cond_false]
   rw [e, bindF_some, sumF_inl]
   exact bifd
 ·rw [good_lo ((cnt 1).2 (by rw [h1]; rfl)) (by omega), bindF_some, sum_b]
  exact swap_d
theorem goodP (n : Nt) (hN : n.2.length ≤ 40) : f34 n = some (gok n) := by
 unfold f34 gok fbad
 have LL := loop_find (B := fun go x => f34_l1 n go x) (fun k => (k : Int)) (fun i => !lok (ly n i)) (fun _ => Sum.inl ()) (Sum.inr ()) n.2.length ?_ ?_ ?_ (by omega)
 ·have L' : loopF (fun go x => f34_l1 n go x) fuelN (0 : Int) = _ := LL
  rw [L', bindF_some]
  cases firstB (fun i => !lok (ly n i)) 0 n.2.length
  ·show (bif ((List.length n.1 : Int) == (1 : Int)) then _ else _) = some (iok n.1)
   unfold iok
   by_cases e1 : n.1.length = 1
   ·rw [bT (by omega), cond_true, guardF_pos (by omega), within_ok, bindF_some, dT e1, cond_true]
   ·rw [bF (by omega), cond_false, dF e1, cond_false]
    by_cases e2 : n.1.length = 2
    ·rw [bT (by omega), cond_true, guardF_pos (by omega), within_ok, bindF_some, guardF_pos (by omega), within_ok, bindF_some, dT e2, cond_true]
     exact bifd
    ·rw [bF (by omega), cond_false, dF e2]; rfl
  ·rfl
 ·intro k hk hp go
  have eb2 : f59 ((rd (Ty.z (.p .str (.p (.int .i64) (.int .i64)))) n.2 (k : Int)).1, ((rd (Ty.z (.p .str (.p (.int .i64) (.int .i64)))) n.2 (k : Int)).2).1, ((rd (Ty.z (.p .str (.p (.int .i64) (.int .i64)))) n.2 (k : Int)).2).2) = some (lok (ly n k)) := lgoodP (ly n k)
  unfold f34_l1
  rw [dT (by omega), cond_true, guardF_pos (by omega), eb2, bindF_some, hp, cond_false, wsucc k (by omega)]
 ·intro k hk hp go
  have eb2 : f59 ((rd (Ty.z (.p .str (.p (.int .i64) (.int .i64)))) n.2 (k : Int)).1, ((rd (Ty.z (.p .str (.p (.int .i64) (.int .i64)))) n.2 (k : Int)).2).1, ((rd (Ty.z (.p .str (.p (.int .i64) (.int .i64)))) n.2 (k : Int)).2).2) = some (lok (ly n k)) := lgoodP (ly n k)
  unfold f34_l1
  rw [dT (by omega), cond_true, guardF_pos (by omega), eb2, bindF_some, hp, cond_true]
 ·intro go
  unfold f34_l1
  rw [dF (by omega), cond_false]
end Go.Proofs.Cv
namespace Go.Proofs.Cv
open Go.AM Go.Proofs.PlB Go.Proofs.PlW Go.Proofs.PlT Go.Proofs.PlS Go.Proofs.Sh Go.Proofs.Num Go.Proofs.Div Go.Proofs.Op
open Go.Proofs.PlR hiding Tn
theorem lp0 {X Z : Type} {B : (X → Option Z) → X → Option Z} {x0 : X} {z : Z} (h : ∀ go, B go x0 = some z) : loopF B fuelN x0 = some z :=
 loop_for (fun _ => x0) 0 z (fun k hk => absurd hk (Nat.not_lt_zero _)) h (by omega)
theorem lp1 {X Z : Type} {B : (X → Option Z) → X → Option Z} {x0 x1 : X} {z : Z} (h0 : ∀ go, B go x0 = go x1) (h1 : ∀ go, B go x1 = some z) : loopF B fuelN x0 = some z :=
 loop_for (fun k => match k with | 0 => x0 | _ => x1) 1 z (fun k hk => match k, hk with | 0, _ => h0) h1 (by omega)
theorem lp2 {X Z : Type} {B : (X → Option Z) → X → Option Z} {x0 x1 x2 : X} {z : Z} (h0 : ∀ go, B go x0 = go x1) (h1 : ∀ go, B go x1 = go x2) (h2 : ∀ go, B go x2 = some z) : loopF B fuelN x0 = some z :=
 loop_for (fun k => match k with | 0 => x0 | 1 => x1 | _ => x2) 2 z (fun k hk => match k, hk with | 0, _ => h0 | 1, _ => h1) h2 (by omega)
theorem mprod {d : List Int} (h1 : ∀ x ∈ d, 1 ≤ x) (hb : prodL d ≤ 4000000000000) (hl : d.length ≤ 10) : f42 d = some (prodL d) := by
 unfold f42
 have L := loop_for (B := fun go (x : Int × Int) => f42_l1 d go x.1 x.2) (fun k => (prodL (d.take k), (k : Int))) d.length (prodL d) ?_ ?_ (by omega)
 ·have L' : loopF (fun go (x : Int × Int) => f42_l1 d go x.1 x.2) fuelN ((1 : Int), (0 : Int)) = _ := L
  rw [L']; rfl
 ·intro k hk go
  obtain ⟨p1, p2⟩ := prodL_le h1 (k + 1)
  unfold f42_l1
  simp only
  rw [dT (by omega), cond_true, guardF_pos (by omega), wsucc k (by omega), ← prodL_take k hk, wrap_i64 (by omega) (by omega)]
 ·intro go
  unfold f42_l1
  simp only
  rw [dF (by omega), cond_false, List.take_length]
theorem mem_prodL : ∀ d : List Int, (∀ x ∈ d, 1 ≤ x) → ∀ x ∈ d, x ≤ prodL d
 | [], _, x, hx => absurd hx (by simp)
 | y :: r, h, x, hx => by
  have hr : ∀ z ∈ r, 1 ≤ z := fun z hz => h z (List.mem_cons_of_mem _ hz)
  have hp := prodL_pos r hr
  have hy := h y (by simp)
  simp only [prodL]
  rcases List.mem_cons.1 hx with rfl | hx
  ·have := Int.mul_le_mul (Int.le_refl x) hp (by omega) (by omega); omega
  ·have h1 := mem_prodL r hr x hx
   have h2 := Int.mul_le_mul hy (Int.le_refl (prodL r)) (by omega) (by omega)
   omega
theorem good_iff {d : List Int} (h1 : ∀ x ∈ d, 1 ≤ x) (hl : d.length ≤ 4) : f65 d = some (decide (prodL d ≤ 4096)) := by
 rw [shapeGood_ok]
 congr 1
 rw [decide_eq_decide]
 constructor
 ·intro h
  have := prd_prod h
  have := prd_range d
  omega
 ·intro h
  have e : prd d = 1 * prodL d := by
   unfold prd
   rw [if_neg (by omega)]
   exact pgo_of d 1 (by omega) (fun x hx => ⟨h1 x hx, by have := mem_prodL d h1 x hx; omega⟩) (by omega)
  have := prodL_pos d h1
  omega
theorem dd_prod {d : List Int} (h : DD d) : 1 ≤ prodL d ∧ prodL d ≤ 1048576 := by
 obtain ⟨hl, h⟩ := h
 match d, hl with
 | [], _ => exact ⟨by decide, by decide⟩
 | [a], _ =>
  have := h a (by simp)
  simp only [prodL]; omega
 | [a, b], _ =>
  have ha := h a (by simp)
  have hb := h b (by simp)
  obtain ⟨m1, m2⟩ := mul_to ha.1 ha.2 hb.1 hb.2
  simp only [prodL, Int.mul_one]; omega
theorem dd_pos {d : List Int} (h : DD d) : ∀ x ∈ d, 1 ≤ x := fun x hx => (h.2 x hx).1
def nx (n : Nt) (k : Nat) (d : List (List Int)) : Option (List Int) :=
 bif kd bDense (ly n k) then some [(ly n k).2.1]
 else bif kd bConv (ly n k) then (if (dm d k).length = 2 ∧ (ly n k).2.2 ≤ rd (0 : Int) (dm d k) 1 then some [(ly n k).2.1, rd (0 : Int) (dm d k) 1 - (ly n k).2.2 + 1] else none)
 else bif kd bPool (ly n k) then (if (dm d k).length = 2 ∧ (ly n k).2.1 ≤ rd (0 : Int) (dm d k) 1 then some [rd (0 : Int) (dm d k) 0, rd (0 : Int) (dm d k) 1 / (ly n k).2.1] else none)
 else bif kd bSk (ly n k) then (if 0 < k ∧ kd bSk (ly n (k - 1)) = false ∧ dm d (k - 1) = dm d k then some (dm d k) else none)
 else some (dm d k)
def wk (n : Nt) : Nat → Option (List (List Int))
 | 0 => some [n.1]
 | k + 1 => match wk n k with
  | none => none
  | some d => match nx n k d with
   | none => none
   | some o => some (d ++ [o])
def pc (l : Lay) (e : List Int) : Int := bif kd bDense l then l.2.1 * prodL e else bif kd bConv l then l.2.1 * rd (0 : Int) e 0 * l.2.2 else 0
def pt (l : Lay) (e : List Int) : Int := bif kd bDense l then l.2.1 * prodL e + l.2.1 else bif kd bConv l then l.2.1 * rd (0 : Int) e 0 * l.2.2 else 0
theorem lokD {l : Lay} (h : lok l = true) (hk : kd bDense l = true) : 1 ≤ l.2.1 ∧ l.2.1 ≤ 256 := by
 unfold lok at h; rw [hk, cond_true] at h; exact (of_decide_eq_true h).1
theorem lokC {l : Lay} (h : lok l = true) (hk : kd bConv l = true) : (1 ≤ l.2.1 ∧ l.2.1 ≤ 16) ∧ 1 ≤ l.2.2 ∧ l.2.2 ≤ 16 := by
 unfold lok at h; rw [kd_ne hk (b := bDense) (by kernel_rfl), hk, cond_true, cond_false] at h; exact of_decide_eq_true h
theorem lokP {l : Lay} (h : lok l = true) (hk : kd bPool l = true) : 1 ≤ l.2.1 ∧ l.2.1 ≤ 16 := by
 unfold lok at h; rw [kd_ne hk (b := bDense) (by kernel_rfl), kd_ne hk (b := bConv) (by kernel_rfl), hk, cond_true, cond_false, cond_false] at h; exact (of_decide_eq_true h).1
structure WS (n : Nt) (k : Nat) (d : List (List Int)) : Prop where
 wL : d.length = k + 1
 wD : ∀ i, i ≤ k → DD (dm d i)
 w0 : dm d 0 = n.1
theorem gok_in {n : Nt} (h : gok n = true) : DD n.1 ∧ ∀ i, i < n.2.length → lok (ly n i) = true := by
 unfold gok at h
 cases hf : fbad n with
 | some i => rw [hf] at h; exact absurd h (by simp)
 | none =>
  rw [hf] at h
  have h : iok n.1 = true := h
  refine ⟨?_, fun i hi => ?_⟩
  ·unfold iok at h
   by_cases e1 : n.1.length = 1
   ·rw [dT e1, cond_true] at h
    have h := of_decide_eq_true h
    match n.1, e1, h with
    | [x], _, h => exact ⟨by simp, fun y hy => by rw [List.mem_singleton.1 hy]; exact h⟩
   ·rw [dF e1, cond_false] at h
    by_cases e2 : n.1.length = 2
    ·rw [dT e2, cond_true] at h
     have h := of_decide_eq_true h
     match n.1, e2, h with
     | [x, y], _, h =>
      have hx : 1 ≤ x ∧ x ≤ 64 := h.1
      have hy : 1 ≤ y ∧ y ≤ 64 := h.2
      refine ⟨by simp, fun z hz => ?_⟩
      rcases List.mem_cons.1 hz with rfl | hz
      ·omega
      ·rw [List.mem_singleton.1 hz]; omega
    ·rw [dF e2] at h; exact absurd h (by simp)
  ·have := (firstB_none (fun i => !lok (ly n i)) n.2.length 0).1 hf i (Nat.zero_le _) (by omega)
   simpa using this
theorem nx_dd {n : Nt} {k : Nat} {d : List (List Int)} {o : List Int} (hl : lok (ly n k) = true) (D : DD (dm d k)) (h : nx n k d = some o) : DD o := by
 unfold nx at h
 cases h1 : kd bDense (ly n k)
 ·rw [h1, cond_false] at h
  cases h2 : kd bConv (ly n k)
  ·rw [h2, cond_false] at h
   cases h3 : kd bPool (ly n k)
   ·rw [h3, cond_false] at h
    cases h4 : kd bSk (ly n k)
    ·rw [h4, cond_false] at h; injection h with h; subst h; exact D
    ·rw [h4, cond_true] at h
     split at h
     ·injection h with h; subst h; exact D
     ·exact absurd h (by simp)
   ·rw [h3, cond_true] at h
    split at h
    ·rename_i hc
     injection h with h; subst h
     obtain ⟨p1, p2⟩ := lokP hl h3
     obtain ⟨b0, b1⟩ := dd_rd D 0 (by omega)
     obtain ⟨c0, c1⟩ := dd_rd D 1 (by omega)
     have c0' : 1 ≤ rd (0 : Int) (dm d k) 1 := c0
     have c1' : rd (0 : Int) (dm d k) 1 ≤ 1024 := c1
     refine ⟨Nat.le_refl 2, fun y hy => ?_⟩
     rcases List.mem_cons.1 hy with rfl | hy
     ·exact ⟨b0, b1⟩
     ·rw [List.mem_singleton.1 hy]
      have hc2 := hc.2
      generalize (ly n k).2.1 = A at *
      generalize rd (0 : Int) (dm d k) 1 = X at *
      exact ⟨(Int.le_ediv_iff_mul_le (by omega)).2 (by omega), by have : X / A ≤ X := Int.ediv_le_self _ (by omega); omega⟩
    ·exact absurd h (by simp)
  ·rw [h2, cond_true] at h
   split at h
   ·rename_i hc
    injection h with h; subst h
    obtain ⟨⟨p1, p2⟩, p3, p4⟩ := lokC hl h2
    obtain ⟨c0, c1⟩ := dd_rd D 1 (by omega)
    have c0' : 1 ≤ rd (0 : Int) (dm d k) 1 := c0
    have c1' : rd (0 : Int) (dm d k) 1 ≤ 1024 := c1
    refine ⟨Nat.le_refl 2, fun y hy => ?_⟩
    rcases List.mem_cons.1 hy with rfl | hy
    ·omega
    ·rw [List.mem_singleton.1 hy]; omega
   ·exact absurd h (by simp)
 ·rw [h1, cond_true] at h
  injection h with h; subst h
  have := lokD hl h1
  exact ⟨by simp, fun y hy => by rw [List.mem_singleton.1 hy]; omega⟩
theorem wk_ws {n : Nt} (hg : gok n = true) : ∀ (k : Nat) (d : List (List Int)), k ≤ n.2.length → wk n k = some d → WS n k d
 | 0, d, _, h => by
  injection h with h; subst h
  exact ⟨rfl, fun i hi => by
   obtain rfl : i = 0 := by omega
   exact (gok_in hg).1, rfl⟩
 | k + 1, d, hk, h => by
  simp only [wk] at h
  cases hw : wk n k with
  | none => rw [hw] at h; exact absurd h (by simp)
  | some d0 =>
   rw [hw] at h
   simp only at h
   have W := wk_ws hg k d0 (by omega) hw
   cases hn : nx n k d0 with
   | none => rw [hn] at h; exact absurd h (by simp)
   | some o =>
    rw [hn] at h
    injection h with h; subst h
    have hL := W.wL
    refine ⟨by simp [hL], fun i hi => ?_, by rw [dm_app _ _ _ (by omega)]; exact W.w0⟩
    by_cases e : i < d0.length
    ·rw [dm_app _ _ _ e]; exact W.wD i (by omega)
    ·obtain rfl : i = d0.length := by omega
     rw [dm_last]; exact nx_dd ((gok_in hg).2 k (by omega)) (W.wD k (Nat.le_refl _)) hn
theorem wk_stop {n : Nt} {k : Nat} (h : wk n k = none) : ∀ m, k ≤ m → wk n m = none
 | 0, hm => by
  obtain rfl : k = 0 := by omega
  exact h
 | m + 1, hm => by
  by_cases e : k = m + 1
  ·rw [← e]; exact h
  ·simp only [wk]; rw [wk_stop h m (by omega)]
theorem pc_in {l : Lay} {e : List Int} (hl : lok l = true) (D : DD e) (hc : kd bConv l = true → e.length = 2) : 0 ≤ pc l e ∧ pc l e ≤ 268435456 ∧ 0 ≤ pt l e ∧ pt l e ≤ 268435712 := by
 unfold pc pt
 obtain ⟨q1, q2⟩ := dd_prod D
 cases h1 : kd bDense l
 ·simp only [cond_false]
  cases h2 : kd bConv l
  ·simp only [cond_false]; omega
  ·simp only [cond_true]
   obtain ⟨⟨p1, p2⟩, p3, p4⟩ := lokC hl h2
   have := hc h2
   obtain ⟨b0, b1⟩ := dd_rd D 0 (by omega)
   have b0' : 1 ≤ rd (0 : Int) e 0 := b0
   have b1' : rd (0 : Int) e 0 ≤ 1024 := b1
   obtain ⟨m1, m2⟩ := mul_to p1 p2 b0' b1'
   obtain ⟨m3, m4⟩ := mul_to m1 m2 p3 p4
   omega
 ·simp only [cond_true]
  obtain ⟨p1, p2⟩ := lokD hl h1
  obtain ⟨m1, m2⟩ := mul_to p1 p2 q1 q2
  omega
section
variable {n : Nt} {k : Nat} {d : List (List Int)} (W : WS n k d) (hk : k < n.2.length) (hN : n.2.length ≤ 40) (hl : lok (ly n k) = true)
include W hk hN
theorem skipsP : f63 n (k : Int) d = some (decide (0 < k ∧ kd bSk (ly n (k - 1)) = false ∧ dm d (k - 1) = dm d k)) := by
 have hL := W.wL
 unfold f63
 by_cases h : (k : Int) > 0
 ·have e1 : IntKind.i64.wrap ((k : Int) - 1) = ((k - 1 : Nat) : Int) := by rw [wrap_i64 (by omega) (by omega)]; omega
  rw [dT h, cond_true, e1, guardF_pos (by omega)]
  show (bif !(kd bSk (ly n (k - 1))) then _ else _) = _
  cases hs : kd bSk (ly n (k - 1))
  ·have hq : (rd (Ty.z (.sl (.int .i64))) d ((k - 1 : Nat) : Int)).length ≤ 2 := (W.wD (k - 1) (by omega)).1
   rw [Bool.not_false, cond_true, guardF_pos (by omega), guardF_pos (by omega), sameP _ _ (Nat.lt_of_le_of_lt hq (by decide)), bindF_some]
   congr 1
   rw [decide_eq_decide]
   exact ⟨fun hh => ⟨by omega, rfl, hh⟩, fun hh => hh.2.2⟩
  ·rw [Bool.not_true, cond_false, dF (fun hh => absurd hh.2.1 (by decide))]
 ·rw [dF h, cond_false, dF (fun hh => h (by omega))]
include hl
theorem stepP : ∃ q : Bool × List Int, f62 (ly n k) (dm d k) = some q ∧ f35_j4 n (k : Int) d q = some (match nx n k d with | none => Sum.inr () | some _ => Sum.inl ()) ∧ (∀ o, nx n k d = some o → q.2 = o) := by
 have D := W.wD k (Nat.le_refl _)
 have hD := D.1
 have hs := skipsP W hk hN
 have hs2 : f63 (n.1, n.2) (k : Int) d = _ := hs
 have j4 : ∀ q : Bool × List Int, f35_j4 n (k : Int) d q = bif !q.1 then some (Sum.inr ()) else bif kd bSk (ly n k) then (bif !(decide (0 < k ∧ kd bSk (ly n (k - 1)) = false ∧ dm d (k - 1) = dm d k)) then some (Sum.inr ()) else some (Sum.inl ())) else some (Sum.inl ()) := fun q => by
  unfold f35_j4
  rw [hs2, bindF_some]; rfl
 unfold f62 nx
 show ∃ q, (bif kd bDense (ly n k) then _ else bif kd bConv (ly n k) then _ else bif kd bPool (ly n k) then _ else _) = some q ∧ _
 cases h1 : kd bDense (ly n k)
 ·rw [cond_false, cond_false]
  cases h2 : kd bConv (ly n k)
  ·rw [cond_false, cond_false]
   cases h3 : kd bPool (ly n k)
   ·rw [cond_false, cond_false, cloneS _ (by omega), bindF_some]
    refine ⟨_, rfl, ?_, ?_⟩
    ·rw [j4]
     cases h4 : kd bSk (ly n k)
     ·rfl
     ·simp only [Bool.not_true, cond_false, cond_true]
      by_cases hc : 0 < k ∧ kd bSk (ly n (k - 1)) = false ∧ dm d (k - 1) = dm d k
      ·rw [dT hc, if_pos hc]; rfl
      ·rw [dF hc, if_neg hc]; rfl
    ·intro o ho
     cases h4 : kd bSk (ly n k)
     ·rw [h4, cond_false] at ho; injection ho
     ·rw [h4, cond_true] at ho
      split at ho
      ·injection ho
      ·exact absurd ho (by simp)
   ·rw [cond_true, cond_true]
    have h4 := kd_ne h3 (b := bSk) (by kernel_rfl)
    obtain ⟨p1, p2⟩ := lokP hl h3
    unfold f62_j2
    by_cases e2 : (dm d k).length = 2
    ·by_cases hc : (ly n k).2.1 ≤ rd (0 : Int) (dm d k) 1
     ·obtain ⟨c0, c1⟩ := dd_rd D 1 (by omega)
      have c0' : 1 ≤ rd (0 : Int) (dm d k) 1 := c0
      have c1' : rd (0 : Int) (dm d k) 1 ≤ 1024 := c1
      have q2 : rd (0 : Int) (dm d k) 1 / (ly n k).2.1 ≤ rd (0 : Int) (dm d k) 1 := Int.ediv_le_self _ (by omega)
      have q1 : 0 ≤ rd (0 : Int) (dm d k) 1 / (ly n k).2.1 := Int.ediv_nonneg (by omega) (by omega)
      rw [nF (by omega), cond_false, guardF_pos (by omega), dF (by omega), cond_false, bindF_some, sumF_inl, guardF_pos (by omega), guardF_pos (by omega), guardF_pos (by omega), if_pos ⟨e2, hc⟩, Int.tdiv_eq_ediv_of_nonneg (by omega), wrap_i64 (by omega) (by omega)]
      refine ⟨_, rfl, ?_, fun o ho => ?_⟩
      ·rw [j4, h4]; rfl
      ·injection ho
     ·rw [nF (by omega), cond_false, guardF_pos (by omega), dT (by omega), cond_true, bindF_some, sumF_inr, if_neg (fun hh => hc hh.2)]
      refine ⟨_, rfl, ?_, fun o ho => absurd ho (by simp)⟩
      rw [j4]; rfl
    ·rw [nT (by omega), cond_true, bindF_some, sumF_inr, if_neg (fun hh => e2 hh.1)]
     refine ⟨_, rfl, ?_, fun o ho => absurd ho (by simp)⟩
     rw [j4]; rfl
  ·rw [cond_true, cond_true]
   have h4 := kd_ne h2 (b := bSk) (by kernel_rfl)
   obtain ⟨⟨p1, p2⟩, p3, p4⟩ := lokC hl h2
   unfold f62_j1
   by_cases e2 : (dm d k).length = 2
   ·by_cases hc : (ly n k).2.2 ≤ rd (0 : Int) (dm d k) 1
    ·obtain ⟨c0, c1⟩ := dd_rd D 1 (by omega)
     have c0' : 1 ≤ rd (0 : Int) (dm d k) 1 := c0
     have c1' : rd (0 : Int) (dm d k) 1 ≤ 1024 := c1
     rw [nF (by omega), cond_false, guardF_pos (by omega), dF (by omega), cond_false, bindF_some, sumF_inl, guardF_pos (by omega), if_pos ⟨e2, hc⟩, wrap_i64 (n := rd (0 : Int) (dm d k) 1 - (ly n k).2.2) (by omega) (by omega), wrap_i64 (by omega) (by omega)]
     refine ⟨_, rfl, ?_, fun o ho => ?_⟩
     ·rw [j4, h4]; rfl
     ·injection ho
    ·rw [nF (by omega), cond_false, guardF_pos (by omega), dT (by omega), cond_true, bindF_some, sumF_inr, if_neg (fun hh => hc hh.2)]
     refine ⟨_, rfl, ?_, fun o ho => absurd ho (by simp)⟩
     rw [j4]; rfl
   ·rw [nT (by omega), cond_true, bindF_some, sumF_inr, if_neg (fun hh => e2 hh.1)]
    refine ⟨_, rfl, ?_, fun o ho => absurd ho (by simp)⟩
    rw [j4]; rfl
 ·have h4 := kd_ne h1 (b := bSk) (by kernel_rfl)
  rw [cond_true, cond_true]
  refine ⟨_, rfl, ?_, fun o ho => ?_⟩
  ·rw [j4, h4]; rfl
  ·injection ho
end
theorem walkP (n : Nt) (hN : n.2.length ≤ 40) (hg : gok n = true) : f35 n = some (match wk n n.2.length with | none => (false, []) | some d => (true, d)) := by
 obtain ⟨i1, i2⟩ := (gok_in hg).1
 unfold f35
 rw [cloneS n.1 (by omega), bindF_some]
 have LL := loop_fuel (B := fun go (x : Int × List (List Int)) => f35_l3 n go x.1 x.2) (fun x => ∃ k : Nat, k ≤ n.2.length ∧ x.1 = (k : Int) ∧ wk n k = some x.2) (fun x => n.2.length - x.1.toNat)
  (fun z => z = match wk n n.2.length with | none => Sum.inl () | some d => Sum.inr d) ?_ ((0 : Int), [n.1]) ⟨0, by omega, rfl, rfl⟩ (by simp only; omega)
 ·obtain ⟨z, ez, hz⟩ := LL
  rw [ez, bindF_some, hz]
  cases wk n n.2.length <;> rfl
 ·rintro ⟨_, d⟩ ⟨k, hk, rfl, hd⟩
  simp only at hd
  have W := wk_ws hg k d hk hd
  have hL := W.wL
  by_cases h : k < n.2.length
  ·obtain ⟨q, eo, ej, hq⟩ := stepP W h hN ((gok_in hg).2 k h)
   have eo2 : f62 ((rd (Ty.z (.p .str (.p (.int .i64) (.int .i64)))) n.2 (k : Int)).1, ((rd (Ty.z (.p .str (.p (.int .i64) (.int .i64)))) n.2 (k : Int)).2).1, ((rd (Ty.z (.p .str (.p (.int .i64) (.int .i64)))) n.2 (k : Int)).2).2) (rd (Ty.z (.sl (.int .i64))) d (k : Int)) = some q := eo
   cases hn : nx n k d with
   | none =>
    have hs : wk n (k + 1) = none := by simp only [wk]; rw [hd]; simp only; rw [hn]
    rw [hn] at ej
    refine .inl ⟨Sum.inl (), fun go => ?_, by rw [wk_stop hs _ h]⟩
    unfold f35_l3
    simp only
    rw [dT (by omega), cond_true, guardF_pos (by omega), guardF_pos (by omega), eo2, bindF_some, ej, bindF_some, sumF_inr]
   | some o =>
    rw [hn] at ej
    have hq2 := hq o hn
    have g3 : (List.length d + List.length [q.2]) * 24 ≤ 140737488355328 := by simp only [List.length_cons, List.length_nil]; omega
    refine .inr ⟨(((k + 1 : Nat) : Int), d ++ [o]), fun go => ?_, ⟨k + 1, h, rfl, by simp only [wk]; rw [hd]; simp only; rw [hn]⟩, by simp only [Int.toNat_natCast]; omega⟩
    unfold f35_l3
    simp only
    rw [dT (by omega), cond_true, guardF_pos (by omega), guardF_pos (by omega), eo2, bindF_some, ej, bindF_some, sumF_inl, guardF_pos g3, wsucc k (by omega), hq2]
  ·obtain rfl : k = n.2.length := by omega
   refine .inl ⟨Sum.inr d, fun go => ?_, by rw [hd]⟩
   unfold f35_l3
   simp only
   rw [dF (by omega), cond_false]
end Go.Proofs.Cv
namespace Go.Proofs.Cv
open Go.AM Go.Proofs.PlB Go.Proofs.PlW Go.Proofs.PlT Go.Proofs.PlS Go.Proofs.Sh Go.Proofs.Num Go.Proofs.Div Go.Proofs.Op
open Go.Proofs.PlR hiding Tn
def mny (n : Nt) (d : List (List Int)) : Nat → Int
 | 0 => 0
 | k + 1 => mny n d k + pt (ly n k) (dm d k)
def gr (n : Nt) (d : List (List Int)) : Nat → Bool
 | 0 => decide ((n.2.length : Int) > 16)
 | k + 1 => gr n d k || decide (pc (ly n k) (dm d k) > 4096) || decide (prodL (dm d (k + 1)) > 4096)
def okf (n : Nt) (d : List (List Int)) : Nat → Bool
 | 0 => decide ((n.2.length : Int) ≤ 16)
 | k + 1 => okf n d k && !decide (pc (ly n k) (dm d k) > 4096) && decide (prodL (dm d k) ≤ 4096) && decide (prodL (dm d (k + 1)) ≤ 4096)
def bad (n : Nt) (d : List (List Int)) : Bool := gr n d n.2.length || decide (mny n d n.2.length > 4096) || decide (prodL n.1 > 4096)
structure WF (n : Nt) (k : Nat) (d : List (List Int)) : Prop extends WS n k d where
 fC : ∀ i, i < k → kd bConv (ly n i) = true → (dm d i).length = 2
theorem nx_conv {n : Nt} {k : Nat} {d : List (List Int)} {o : List Int} (h : nx n k d = some o) (hc : kd bConv (ly n k) = true) : (dm d k).length = 2 := by
 unfold nx at h
 rw [kd_ne hc (b := bDense) (by kernel_rfl), hc, cond_true, cond_false] at h
 split at h
 ·rename_i hh; exact hh.1
 ·exact absurd h (by simp)
theorem wk_wf {n : Nt} (hg : gok n = true) : ∀ (k : Nat) (d : List (List Int)), k ≤ n.2.length → wk n k = some d → WF n k d
 | 0, d, hk, h => ⟨wk_ws hg 0 d hk h, fun i hi => absurd hi (Nat.not_lt_zero _)⟩
 | k + 1, d, hk, h => by
  have W := wk_ws hg (k + 1) d hk h
  simp only [wk] at h
  cases hw : wk n k with
  | none => rw [hw] at h; exact absurd h (by simp)
  | some d0 =>
   rw [hw] at h
   simp only at h
   have W0 := wk_wf hg k d0 (by omega) hw
   have hL := W0.wL
   cases hn : nx n k d0 with
   | none => rw [hn] at h; exact absurd h (by simp)
   | some o =>
    rw [hn] at h
    injection h with h; subst h
    refine ⟨W, fun i hi hc => ?_⟩
    rw [dm_app _ _ _ (by omega)]
    by_cases e : i = k
    ·subst e; exact nx_conv hn hc
    ·exact W0.fC i (by omega) hc
section
variable {n : Nt} {d : List (List Int)} (hg : gok n = true) (hN : n.2.length ≤ 40) (W : WF n n.2.length d)
include hg hN W
theorem mny_in : ∀ k, k ≤ n.2.length → 0 ≤ mny n d k ∧ mny n d k ≤ k * 268435712
 | 0, _ => by simp [mny]
 | k + 1, h => by
  have := mny_in k (by omega)
  have := pc_in ((gok_in hg).2 k (by omega)) (W.wD k (by omega)) (W.fC k (by omega))
  simp only [mny]
  omega
theorem okf_gr : ∀ k, k ≤ n.2.length → prodL n.1 ≤ 4096 → okf n d k = !gr n d k
 | 0, _, _ => by
  simp only [okf, gr]
  by_cases h : (n.2.length : Int) ≤ 16
  ·rw [dT h, dF (by omega)]; rfl
  ·rw [dF h, dT (by omega)]; rfl
 | k + 1, hk, h0 => by
  have ih := okf_gr k (by omega) h0
  simp only [okf, gr]
  rw [ih]
  have hd : gr n d k = false → prodL (dm d k) ≤ 4096 := fun hh => by
   match k with
   | 0 => rw [W.w0]; exact h0
   | k + 1 =>
    simp only [gr, Bool.or_eq_false_iff, decide_eq_false_iff_not] at hh
    omega
  cases hgk : gr n d k
  ·rw [dT (hd hgk)]
   by_cases h1 : pc (ly n k) (dm d k) > 4096
   ·rw [dT h1]; rfl
   ·rw [dF h1]
    by_cases h2 : prodL (dm d (k + 1)) ≤ 4096
    ·rw [dT h2, dF (by omega)]; rfl
    ·rw [dF h2, dT (by omega)]; rfl
  ·rfl
theorem innerP (k : Nat) (hk : k < n.2.length) (m : Int) (hm : 0 ≤ m ∧ m ≤ 100000000000) (ok : Bool) :
  ∃ ps, f64 (ly n k) (dm d k) = some ps ∧
  loopF (fun go (x : Int × Bool × Int) => f36_l4 ps go x.1 x.2.1 x.2.2) fuelN (m, ok, (0 : Int)) = some (m + pt (ly n k) (dm d k), ok && !decide (pc (ly n k) (dm d k) > 4096)) := by
 have hl := (gok_in hg).2 k hk
 have D := W.wD k (by omega)
 obtain ⟨q1, q2⟩ := dd_prod D
 have mp : f42 (dm d k) = some (prodL (dm d k)) := mprod (dd_pos D) (by omega) (by have := D.1; omega)
 have w0 : IntKind.i64.wrap ((0 : Int) + 1) = 1 := by kernel_rfl
 have w1 : IntKind.i64.wrap ((1 : Int) + 1) = 2 := by kernel_rfl
 unfold f64 pt pc
 show ∃ ps, (bif kd bDense (ly n k) then _ else bif kd bConv (ly n k) then _ else _) = some ps ∧ _
 cases h1 : kd bDense (ly n k)
 ·simp only [cond_false]
  cases h2 : kd bConv (ly n k)
  ·simp only [cond_false]
   refine ⟨[], rfl, lp0 (fun go => ?_)⟩
   unfold f36_l4
   simp only [List.length_nil]
   rw [dF (by omega), cond_false, Int.add_zero, dF (by omega), Bool.not_false, Bool.and_true]
  ·simp only [cond_true]
   obtain ⟨⟨p1, p2⟩, p3, p4⟩ := lokC hl h2
   have h2l := W.fC k hk h2
   obtain ⟨b0, b1⟩ := dd_rd D 0 (by omega)
   have b0' : 1 ≤ rd (0 : Int) (dm d k) 0 := b0
   have b1' : rd (0 : Int) (dm d k) 0 ≤ 1024 := b1
   obtain ⟨m1, m2⟩ := mul_to p1 p2 b0' b1'
   obtain ⟨m3, m4⟩ := mul_to m1 m2 p3 p4
   have hp : ∀ x ∈ [(ly n k).2.1, rd (0 : Int) (dm d k) 0, (ly n k).2.2], 1 ≤ x := fun x hx => by
    simp only [List.mem_cons, List.mem_nil_iff, or_false] at hx
    rcases hx with rfl | rfl | rfl <;> omega
   have ep : prodL [(ly n k).2.1, rd (0 : Int) (dm d k) 0, (ly n k).2.2] = (ly n k).2.1 * rd (0 : Int) (dm d k) 0 * (ly n k).2.2 := by simp only [prodL, Int.mul_one]; rw [Int.mul_assoc]
   have e1 := mprod hp (by rw [ep]; omega) (by simp)
   have e2 := good_iff hp (by simp)
   rw [ep] at e1 e2
   rw [guardF_pos (by omega)]
   refine ⟨_, rfl, lp1 (x1 := (m + (ly n k).2.1 * rd (0 : Int) (dm d k) 0 * (ly n k).2.2, ok && !decide ((ly n k).2.1 * rd (0 : Int) (dm d k) 0 * (ly n k).2.2 > 4096), (1 : Int))) (fun go => ?_) (fun go => ?_)⟩
   ·have er : rd (Ty.z (.sl (.int .i64))) [[(ly n k).2.1, rd (0 : Int) (dm d k) 0, (ly n k).2.2]] (0 : Int) = [(ly n k).2.1, rd (0 : Int) (dm d k) 0, (ly n k).2.2] := rfl
    unfold f36_l4
    simp only
    rw [dT (by simp), cond_true, guardF_pos (by simp), er, e1, bindF_some, e2, bindF_some, w0, wrap_i64 (by omega) (by omega)]
    have eb : decide ((ly n k).2.1 * rd (0 : Int) (dm d k) 0 * (ly n k).2.2 ≤ 4096) = !decide ((ly n k).2.1 * rd (0 : Int) (dm d k) 0 * (ly n k).2.2 > 4096) := by
     by_cases hh : (ly n k).2.1 * rd (0 : Int) (dm d k) 0 * (ly n k).2.2 ≤ 4096
     ·rw [dT hh, dF (by omega)]; rfl
     ·rw [dF hh, dT (by omega)]; rfl
    rw [eb]
    cases ok <;> rfl
   ·unfold f36_l4
    simp only
    rw [dF (by simp), cond_false]
 ·simp only [cond_true]
  obtain ⟨p1, p2⟩ := lokD hl h1
  obtain ⟨m1, m2⟩ := mul_to p1 p2 q1 q2
  have hp : ∀ x ∈ [(ly n k).2.1, prodL (dm d k)], 1 ≤ x := fun x hx => by
   simp only [List.mem_cons, List.mem_nil_iff, or_false] at hx
   rcases hx with rfl | rfl <;> omega
  have hp1 : ∀ x ∈ [(ly n k).2.1], 1 ≤ x := fun x hx => by rw [List.mem_singleton.1 hx]; omega
  have ep : prodL [(ly n k).2.1, prodL (dm d k)] = (ly n k).2.1 * prodL (dm d k) := by simp only [prodL, Int.mul_one]
  have ep1 : prodL [(ly n k).2.1] = (ly n k).2.1 := by simp only [prodL, Int.mul_one]
  have e1 := mprod hp (by rw [ep]; omega) (by simp)
  have e2 := good_iff hp (by simp)
  have e3 := mprod hp1 (by rw [ep1]; omega) (by simp)
  have e4 := good_iff hp1 (by simp)
  rw [ep] at e1 e2
  rw [ep1] at e3 e4
  rw [dT (by omega)] at e4
  rw [mp, bindF_some]
  refine ⟨_, rfl, lp2 (x1 := (m + (ly n k).2.1 * prodL (dm d k), ok && !decide ((ly n k).2.1 * prodL (dm d k) > 4096), (1 : Int))) (x2 := (m + ((ly n k).2.1 * prodL (dm d k) + (ly n k).2.1), ok && !decide ((ly n k).2.1 * prodL (dm d k) > 4096), (2 : Int))) (fun go => ?_) (fun go => ?_) (fun go => ?_)⟩
  ·have er : rd (Ty.z (.sl (.int .i64))) [[(ly n k).2.1, prodL (dm d k)], [(ly n k).2.1]] (0 : Int) = [(ly n k).2.1, prodL (dm d k)] := rfl
   unfold f36_l4
   simp only
   rw [dT (by simp), cond_true, guardF_pos (by simp), er, e1, bindF_some, e2, bindF_some, w0, wrap_i64 (by omega) (by omega)]
   have eb : decide ((ly n k).2.1 * prodL (dm d k) ≤ 4096) = !decide ((ly n k).2.1 * prodL (dm d k) > 4096) := by
    by_cases hh : (ly n k).2.1 * prodL (dm d k) ≤ 4096
    ·rw [dT hh, dF (by omega)]; rfl
    ·rw [dF hh, dT (by omega)]; rfl
   rw [eb]
   cases ok <;> rfl
  ·have er : rd (Ty.z (.sl (.int .i64))) [[(ly n k).2.1, prodL (dm d k)], [(ly n k).2.1]] (1 : Int) = [(ly n k).2.1] := rfl
   unfold f36_l4
   simp only
   rw [dT (by simp), cond_true, guardF_pos (by simp), er, e3, bindF_some, e4, bindF_some, w1, wrap_i64 (by omega) (by omega), Int.add_assoc]
   cases (ok && !decide ((ly n k).2.1 * prodL (dm d k) > 4096)) <;> rfl
  ·unfold f36_l4
   simp only
   rw [dF (by simp), cond_false]
theorem sumP : f36 n d = some (mny n d n.2.length, !bad n d) := by
 have hL := W.wL
 unfold f36
 have LL := loop_for (B := fun go (x : Int × Bool × Int) => f36_l3 n d go x.1 x.2.1 x.2.2) (fun k => (mny n d k, okf n d k, (k : Int))) n.2.length (mny n d n.2.length, okf n d n.2.length) ?_ ?_ (by omega)
 ·have L' : loopF (fun go (x : Int × Bool × Int) => f36_l3 n d go x.1 x.2.1 x.2.2) fuelN ((0 : Int), (decide ((List.length n.2 : Int) ≤ (16 : Int))), (0 : Int)) = _ := LL
  have D := (gok_in hg).1
  rw [L', bindF_some]
  simp only
  rw [good_iff (dd_pos D) (by have := D.1; omega), bindF_some]
  unfold bad
  by_cases h0 : prodL n.1 ≤ 4096
  ·rw [dT h0, cond_true, okf_gr hg hN W _ (Nat.le_refl _) h0, dF (p := prodL n.1 > 4096) (by omega)]
   by_cases hm : mny n d n.2.length ≤ 4096
   ·rw [dT hm, dF (by omega)]
    cases gr n d n.2.length <;> rfl
   ·rw [dF hm, dT (by omega)]
    cases gr n d n.2.length <;> rfl
  ·rw [dF h0, cond_false, dT (p := prodL n.1 > 4096) (by omega)]
   cases okf n d n.2.length <;> simp
 ·intro k hk go
  obtain ⟨s1, s2⟩ := mny_in hg hN W k (by omega)
  obtain ⟨ps, ep, el⟩ := innerP hg hN W k hk (mny n d k) ⟨s1, by omega⟩ (okf n d k)
  have ep2 : f64 ((rd (Ty.z (.p .str (.p (.int .i64) (.int .i64)))) n.2 (k : Int)).1, ((rd (Ty.z (.p .str (.p (.int .i64) (.int .i64)))) n.2 (k : Int)).2).1, ((rd (Ty.z (.p .str (.p (.int .i64) (.int .i64)))) n.2 (k : Int)).2).2) (rd (Ty.z (.sl (.int .i64))) d (k : Int)) = some ps := ep
  have f1 : f65 (rd (Ty.z (.sl (.int .i64))) d (k : Int)) = some (decide (prodL (dm d k) ≤ 4096)) := good_iff (d := dm d k) (dd_pos (W.wD k (by omega))) (by have := (W.wD k (by omega)).1; omega)
  have f2 : f65 (rd (Ty.z (.sl (.int .i64))) d ((k + 1 : Nat) : Int)) = some (decide (prodL (dm d (k + 1)) ≤ 4096)) := good_iff (d := dm d (k + 1)) (dd_pos (W.wD (k + 1) (by omega))) (by have := (W.wD (k + 1) (by omega)).1; omega)
  unfold f36_l3
  simp only
  rw [dT (by omega), cond_true, guardF_pos (by omega), guardF_pos (by omega), ep2, bindF_some, el, bindF_some]
  simp only
  rw [guardF_pos (by omega), f1, bindF_some, wsucc k (by omega), guardF_pos (by omega), f2, bindF_some]
  simp only [mny, okf]
  cases (okf n d k && !decide (pc (ly n k) (dm d k) > 4096))
  ·rfl
  ·rw [cond_true]
   cases decide (prodL (dm d k) ≤ 4096) <;> rfl
 ·intro go
  unfold f36_l3
  simp only
  rw [dF (by omega), cond_false]
end
def shs (n : Nt) : Int × Int × List (List Int) :=
 bif gok n then (match wk n n.2.length with | none => (4, 0, []) | some d => bif bad n d then (2, 0, []) else (0, mny n d n.2.length, d)) else (1, 0, [])
theorem shapesP (n : Nt) (hN : n.2.length ≤ 40) : f11 n = some ((shs n).1, (shs n).2.2) ∧ ((shs n).1 = 0 → gok n = true ∧ wk n n.2.length = some (shs n).2.2 ∧ f36 n (shs n).2.2 = some ((shs n).2.1, true)) := by
 unfold f11 shs
 have e1 : f34 (n.1, n.2) = some (gok n) := goodP n hN
 rw [e1, bindF_some]
 cases hg : gok n
 ·exact ⟨rfl, fun h => absurd h (by simp)⟩
 ·have e2 : f35 (n.1, n.2) = _ := walkP n hN hg
  rw [Bool.not_true, cond_false, e2, bindF_some]
  cases hw : wk n n.2.length with
  | none => exact ⟨rfl, fun h => absurd h (by simp)⟩
  | some d =>
   have W := wk_wf hg _ _ (Nat.le_refl _) hw
   have e3 : f36 (n.1, n.2) d = some (mny n d n.2.length, !bad n d) := sumP hg hN W
   have e4 : f36 n d = some (mny n d n.2.length, !bad n d) := e3
   simp only [Bool.not_true, cond_false]
   rw [e3, bindF_some]
   cases hb : bad n d
   ·refine ⟨rfl, fun _ => ⟨by first | exact rfl | trivial, by first | exact rfl | exact hw, ?_⟩⟩
    simp only [cond_false, cond_true]
    rw [e4, hb]; rfl
   ·exact ⟨rfl, fun h => absurd h (by simp)⟩
end Go.Proofs.Cv
namespace Go.Proofs.Cv
open Go.AM Go.Proofs.PlB Go.Proofs.PlW Go.Proofs.PlT Go.Proofs.PlS Go.Proofs.Sh Go.Proofs.Num Go.Proofs.Div Go.Proofs.Op
open Go.Proofs.PlR hiding Tn
section
variable {n : Nt} {k : Nat} {d : List (List Int)} (W : WS n k d) (hk : k < n.2.length) (hN : n.2.length ≤ 40) (hl : lok (ly n k) = true)
include W hk hN
include hl
end
end Go.Proofs.Cv
namespace Go.Proofs.Cv
open Go.AM Go.Proofs.PlB Go.Proofs.PlW Go.Proofs.PlT Go.Proofs.PlS Go.Proofs.Sh Go.Proofs.Num Go.Proofs.Div Go.Proofs.Op
open Go.Proofs.PlR hiding Tn
theorem andT {p q : Prop} [Decidable p] [Decidable q] (h1 : p) (h2 : q) : (decide p && decide q) = true := by rw [decide_eq_true h1, decide_eq_true h2]; rfl
theorem andF {p q : Prop} [Decidable p] [Decidable q] (h : ¬(p ∧ q)) : (decide p && decide q) = false := by
 simp only [Bool.and_eq_false_iff, decide_eq_false_iff_not]; by_cases hp : p <;> simp_all
def nm (i : Int) : ByteArray := (itoaF4 i).getD (ByteArray.mk #[])
theorem nm_itoa (i : Int) (h1 : 0 ≤ i) (h2 : i < 10000) : f66 i = some (nm i) ∧ (nm i).size ≤ 4 := by
 have key : ∃ y, itoaF4 i = some y ∧ y.size ≤ 4 := by
  unfold itoaF4
  by_cases c1 : i < 10
  ·rw [andT h1 c1]; exact ⟨_, rfl, Nat.le_of_ble_eq_true rfl⟩
  rw [andF (by omega), cond_false]
  by_cases c2 : i < 100
  ·rw [andT (by omega) c2]; exact ⟨_, rfl, Nat.le_of_ble_eq_true rfl⟩
  rw [andF (by omega), cond_false]
  by_cases c3 : i < 1000
  ·rw [andT (by omega) c3]; exact ⟨_, rfl, Nat.le_of_ble_eq_true rfl⟩
  rw [andF (by omega), cond_false, andT (by omega) h2]; exact ⟨_, rfl, Nat.le_of_ble_eq_true rfl⟩
 obtain ⟨y, a, b⟩ := key
 have e : nm i = y := by unfold nm; rw [a]; rfl
 rw [e]; exact ⟨a, b⟩
end Go.Proofs.Cv
namespace Go.Proofs.Cv
open Go.AM
theorem awake12 : f9 = some true := by kernel_rfl
end Go.Proofs.Cv
namespace Go.Proofs.Cv
open Go.AM Go.Proofs.PlB Go.Proofs.PlW Go.Proofs.PlT Go.Proofs.PlS Go.Proofs.Sh Go.Proofs.Num Go.Proofs.Div Go.Proofs.Op
open Go.Proofs.PlR hiding Tn
abbrev bSp : ByteArray := ByteArray.mk #[32]
abbrev bIn : ByteArray := ByteArray.mk #[105, 110]
def ns (l : List Int) : ByteArray := l.foldl (fun s i => s ++ (bSp ++ nm i)) (ByteArray.mk #[])
def inN (l : List Int) : Prop := ∀ x ∈ l, 0 ≤ x ∧ x < 10000
theorem ns_snoc (l : List Int) (a : Int) : ns (l ++ [a]) = ns l ++ (bSp ++ nm a) := by
 unfold ns; rw [List.foldl_append]; rfl
theorem bSp_size : bSp.size = 1 := rfl
theorem sp1 : (ByteArray.mk #[32]).size = 1 := rfl
theorem ns_take {l : List Int} {k : Nat} (hk : k < l.length) : ns (l.take (k + 1)) = ns (l.take k) ++ (bSp ++ nm (rd (0 : Int) l (k : Int))) := by
 rw [List.take_succ_eq_append_getElem hk, ns_snoc, rd_nat _ _ _ hk]
theorem ns_size {l : List Int} (h : inN l) : ∀ k, k ≤ l.length → (ns (l.take k)).size ≤ 5 * k
 | 0, _ => by rw [List.take_zero]; exact Nat.le_refl 0
 | k + 1, hk => by
  have := ns_size h k (by omega)
  have hx : 0 ≤ rd (0 : Int) l (k : Int) ∧ rd (0 : Int) l (k : Int) < 10000 := by rw [rd_nat _ _ _ (by omega)]; exact h _ (List.getElem_mem (by omega))
  have := (nm_itoa _ hx.1 hx.2).2
  rw [ns_take (by omega), ByteArray.size_append, ByteArray.size_append, bSp_size]
  omega
theorem numbers_go (l : List Int) (h : inN l) (hl : l.length ≤ 10) : f37 l = some (ns l) := by
 unfold f37
 have LL := loop_for (B := fun go (x : ByteArray × Int) => f37_l1 l go x.1 x.2) (fun k => (ns (l.take k), (k : Int))) l.length (ns l) ?_ ?_ (by omega)
 ·have L' : loopF (fun go (x : ByteArray × Int) => f37_l1 l go x.1 x.2) fuelN (ByteArray.mk #[], (0 : Int)) = _ := LL
  rw [L', bindF_some]
 ·intro k hk go
  have hx : 0 ≤ rd (0 : Int) l (k : Int) ∧ rd (0 : Int) l (k : Int) < 10000 := by rw [rd_nat _ _ _ (by omega)]; exact h _ (List.getElem_mem (by omega))
  obtain ⟨e1, e3⟩ := nm_itoa _ hx.1 hx.2
  have s1 := ns_size h k (by omega)
  have g1 : ((ByteArray.size (ByteArray.mk #[32]) + ByteArray.size (nm (rd (0 : Int) l (k : Int))) : Nat) : Int) ≤ 140737488355328 := by
   have := bSp_size; have := sp1; omega
  have g2 : ((ByteArray.size (ns (l.take k)) + ByteArray.size ((ByteArray.mk #[32]) ++ nm (rd (0 : Int) l (k : Int))) : Nat) : Int) ≤ 140737488355328 := by
   have := bSp_size; have := sp1; rw [ByteArray.size_append]; omega
  unfold f37_l1
  simp only
  rw [dT (by omega), cond_true, guardF_pos (by omega), e1, bindF_some, guardF_pos g1, guardF_pos g2, wsucc k (by omega), ns_take hk]
 ·intro go
  unfold f37_l1
  simp only
  rw [dF (by omega), cond_false, List.take_length]
theorem kd_eq {b : ByteArray} {l : Lay} (h : kd b l = true) : l.1 = b := by
 have h1 : ByteArray.toList l.1 = ByteArray.toList b := by unfold kd at h; exact eq_of_beq h
 rw [ByteArray.toList_eq, ByteArray.toList_eq] at h1
 exact ByteArray.ext (Array.toList_inj.1 h1)
def ar (l : Lay) : List Int := bif kd bConv l then [l.2.1, l.2.2] else bif kd bSk l then [] else [l.2.1]
theorem lay_cases {l : Lay} (h : lok l = true) : (∃ a b, l = (bDense, a, b) ∧ 0 ≤ a ∧ a < 10000) ∨ (∃ a b, l = (bConv, a, b) ∧ (0 ≤ a ∧ a < 10000) ∧ 0 ≤ b ∧ b < 10000) ∨ (∃ a b, l = (bPool, a, b) ∧ 0 ≤ a ∧ a < 10000) ∨ (∃ a b, l = (bBn, a, b) ∧ 0 ≤ a ∧ a < 10000) ∨ (∃ a b, l = (bSk, a, b)) := by
 obtain ⟨s, a, b⟩ := l
 unfold lok at h
 cases h1 : kd bDense (s, a, b)
 ·cases h2 : kd bConv (s, a, b)
  ·cases h3 : kd bPool (s, a, b)
   ·cases h4 : kd bBn (s, a, b)
    ·cases h5 : kd bSk (s, a, b)
     ·rw [h1, h2, h3, h4, h5] at h; simp at h
     ·obtain rfl := kd_eq h5
      exact .inr (.inr (.inr (.inr ⟨a, b, rfl⟩)))
    ·rw [h1, h2, h3, h4] at h
     have := of_decide_eq_true h
     obtain rfl := kd_eq h4
     exact .inr (.inr (.inr (.inl ⟨a, b, rfl, by simp only at this; omega, by simp only at this; omega⟩)))
   ·rw [h1, h2, h3] at h
    have := of_decide_eq_true h
    obtain rfl := kd_eq h3
    exact .inr (.inr (.inl ⟨a, b, rfl, by simp only at this; omega, by simp only at this; omega⟩))
  ·rw [h1, h2] at h
   have := of_decide_eq_true h
   obtain rfl := kd_eq h2
   exact .inr (.inl ⟨a, b, rfl, by simp only at this; omega, by simp only at this; omega⟩)
 ·rw [h1] at h
  have := of_decide_eq_true h
  obtain rfl := kd_eq h1
  exact .inl ⟨a, b, rfl, by simp only at this; omega, by simp only at this; omega⟩
structure LT (l : Lay) : Prop where
 ltc : f38 l.1 = some ((ar l).length : Int)
 ltt : List.take (ar l).length [l.2.1, l.2.2] = ar l
 ltn : inN (ar l)
 ltz : l.1.size ≤ 5
 ltm : (ar l).length ≤ 2
theorem n1 {a : Int} (h : 0 ≤ a ∧ a < 10000) : inN [a] := fun x hx => by
 rw [List.mem_singleton.1 hx]; exact h
theorem lt_of {l : Lay} (h : lok l = true) : LT l := by
 rcases lay_cases h with ⟨a, b, rfl, ha⟩ | ⟨a, b, rfl, ha, hb⟩ | ⟨a, b, rfl, ha⟩ | ⟨a, b, rfl, ha⟩ | ⟨a, b, rfl⟩
 ·have k1 : kd bConv (bDense, a, b) = false := by kernel_rfl
  have k2 : kd bSk (bDense, a, b) = false := by kernel_rfl
  have e : ar (bDense, a, b) = [a] := by unfold ar; rw [k1, k2]; rfl
  exact ⟨by rw [e]; kernel_rfl, by rw [e]; rfl, by rw [e]; exact n1 ha, Nat.le_of_ble_eq_true rfl, by rw [e]; exact Nat.le_of_ble_eq_true rfl⟩
 ·have k1 : kd bConv (bConv, a, b) = true := by kernel_rfl
  have k2 : kd bSk (bConv, a, b) = false := by kernel_rfl
  have e : ar (bConv, a, b) = [a, b] := by unfold ar; rw [k1]; rfl
  exact ⟨by rw [e]; kernel_rfl, by rw [e]; rfl, by rw [e]; intro x hx; rcases List.mem_cons.1 hx with rfl | hx; exact ha; exact n1 hb x hx, Nat.le_of_ble_eq_true rfl, by rw [e]; exact Nat.le_of_ble_eq_true rfl⟩
 ·have k1 : kd bConv (bPool, a, b) = false := by kernel_rfl
  have k2 : kd bSk (bPool, a, b) = false := by kernel_rfl
  have e : ar (bPool, a, b) = [a] := by unfold ar; rw [k1, k2]; rfl
  exact ⟨by rw [e]; kernel_rfl, by rw [e]; rfl, by rw [e]; exact n1 ha, Nat.le_of_ble_eq_true rfl, by rw [e]; exact Nat.le_of_ble_eq_true rfl⟩
 ·have k1 : kd bConv (bBn, a, b) = false := by kernel_rfl
  have k2 : kd bSk (bBn, a, b) = false := by kernel_rfl
  have e : ar (bBn, a, b) = [a] := by unfold ar; rw [k1, k2]; rfl
  exact ⟨by rw [e]; kernel_rfl, by rw [e]; rfl, by rw [e]; exact n1 ha, Nat.le_of_ble_eq_true rfl, by rw [e]; exact Nat.le_of_ble_eq_true rfl⟩
 ·have k1 : kd bConv (bSk, a, b) = false := by kernel_rfl
  have k2 : kd bSk (bSk, a, b) = true := by kernel_rfl
  have e : ar (bSk, a, b) = [] := by unfold ar; rw [k1, k2]; rfl
  exact ⟨by rw [e]; kernel_rfl, by rw [e]; rfl, by rw [e]; intro x hx; exact absurd hx (by simp), Nat.le_of_ble_eq_true rfl, by rw [e]; exact Nat.le_of_ble_eq_true rfl⟩
def tl (n : Nt) : Nat → ByteArray
 | 0 => bIn ++ ns n.1
 | k + 1 => tl n k ++ ((bSp ++ (ly n k).1) ++ ns (ar (ly n k)))
theorem dd_inN {d : List Int} (h : DD d) : inN d := fun x hx => by have := h.2 x hx; omega
section
variable {n : Nt} (hg : gok n = true) (hN : n.2.length ≤ 40)
include hg hN
theorem tl_size : ∀ k, k ≤ n.2.length → (tl n k).size ≤ 100 + 20 * k
 | 0, _ => by
  have D := (gok_in hg).1
  have := ns_size (dd_inN D) n.1.length (Nat.le_refl _)
  have h2 := D.1
  rw [List.take_length] at this
  have b2 : bIn.size = 2 := rfl
  unfold tl
  rw [ByteArray.size_append, b2]; omega
 | k + 1, hk => by
  have := tl_size k (by omega)
  have L := lt_of ((gok_in hg).2 k hk)
  have h2 := ns_size L.ltn (ar (ly n k)).length (Nat.le_refl _)
  have h3 := L.ltm
  have h4 := L.ltz
  rw [List.take_length] at h2
  unfold tl
  rw [ByteArray.size_append, ByteArray.size_append, ByteArray.size_append, bSp_size]; omega
theorem textP (h0 : (shs n).1 = 0) : f14 n = some (tl n n.2.length) := by
 have D := (gok_in hg).1
 have es : f11 (n.1, n.2) = _ := (shapesP n hN).1
 have en := numbers_go n.1 (dd_inN D) (by have := D.1; omega)
 have t0 := tl_size hg hN 0 (by omega)
 have g0 : (((ByteArray.size (ByteArray.mk #[105, 110]) + ByteArray.size (ns n.1) : Nat) : Int)) ≤ 140737488355328 := by
  unfold tl at t0
  rw [ByteArray.size_append] at t0
  have e1 : (ByteArray.mk #[105, 110]).size = 2 := rfl
  omega
 unfold f14
 rw [es, bindF_some, nF h0, cond_false, en, bindF_some, guardF_pos g0]
 have LL := loop_for (B := fun go (x : ByteArray × Int) => f14_l1 n go x.1 x.2) (fun k => (tl n k, (k : Int))) n.2.length (tl n n.2.length) ?_ ?_ (by omega)
 ·have L' : loopF (fun go (x : ByteArray × Int) => f14_l1 n go x.1 x.2) fuelN (ByteArray.mk #[105, 110] ++ ns n.1, (0 : Int)) = _ := LL
  rw [L', bindF_some]
 ·intro k hk go
  have L := lt_of ((gok_in hg).2 k hk)
  have t1 := tl_size hg hN k (by omega)
  have t2 := tl_size hg hN (k + 1) (by omega)
  have er : rd (Ty.z (.p .str (.p (.int .i64) (.int .i64)))) n.2 (k : Int) = ly n k := rfl
  have h2 := ns_size L.ltn (ar (ly n k)).length (Nat.le_refl _)
  rw [List.take_length] at h2
  have h3 := L.ltm
  have h4 := L.ltz
  have g1 : ((ByteArray.size (ByteArray.mk #[32]) + ByteArray.size (ly n k).1 : Nat) : Int) ≤ 140737488355328 := by have := bSp_size; have := sp1; omega
  have g2 : ((ByteArray.size ((ByteArray.mk #[32]) ++ (ly n k).1) + ByteArray.size (ns (ar (ly n k))) : Nat) : Int) ≤ 140737488355328 := by have := bSp_size; have := sp1; rw [ByteArray.size_append]; omega
  have g3 : ((ByteArray.size (tl n k) + ByteArray.size (((ByteArray.mk #[32]) ++ (ly n k).1) ++ ns (ar (ly n k))) : Nat) : Int) ≤ 140737488355328 := by have := bSp_size; have := sp1; rw [ByteArray.size_append, ByteArray.size_append]; omega
  have g4 : 0 ≤ ((ar (ly n k)).length : Int) ∧ ((ar (ly n k)).length : Int) ≤ ([(ly n k).2.1, (ly n k).2.2].length : Int) := by simp only [List.length_cons, List.length_nil]; omega
  have en := numbers_go (ar (ly n k)) L.ltn (by omega)
  unfold f14_l1
  simp only
  rw [dT (by omega), cond_true, guardF_pos (by omega), er, guardF_pos g1, L.ltc, bindF_some, guardF_pos g4, Int.toNat_natCast, L.ltt, en, bindF_some, guardF_pos g2, guardF_pos g3, wsucc k (by omega)]
  rfl
 ·intro go
  unfold f14_l1
  simp only
  rw [dF (by omega), cond_false]
end
theorem net_all (n : Nt) (hN : n.2.length ≤ 40) : f16 n = some n := by
 unfold f16
 have LL := loop_for (B := fun go (x : Int × List Lay) => f16_l1 n go x.1 x.2) (fun k => ((k : Int), n.2.take k)) n.2.length n.2 ?_ ?_ (by omega)
 ·have L' : loopF (fun go (x : Int × List Lay) => f16_l1 n go x.1 x.2) fuelN ((0 : Int), []) = _ := LL
  rw [L', bindF_some]
 ·intro k hk go
  have er : rd (Ty.z (.p .str (.p (.int .i64) (.int .i64)))) n.2 (k : Int) = n.2[k] := rd_nat _ _ _ hk
  have g3 : (List.length (n.2.take k) + List.length [((n.2[k]).1, (n.2[k]).2.1, (n.2[k]).2.2)]) * 32 ≤ 140737488355328 := by simp only [List.length_cons, List.length_nil, List.length_take]; omega
  unfold f16_l1
  simp only
  rw [dT (by omega), cond_true, guardF_pos (by omega), guardF_pos (by omega), guardF_pos (by omega), er, guardF_pos g3, wsucc k (by omega), List.take_succ_eq_append_getElem hk]
 ·intro go
  unfold f16_l1
  simp only
  rw [dF (by omega), cond_false, List.take_length]
end Go.Proofs.Cv
namespace Go.Proofs.Cv
open Go.AM
def isBl (x : Nat) : Bool := (f32 x).getD false
def wdN (n : Nat) : Bool := (Nat.ble 48 n && Nat.ble n 57) || (Nat.ble 97 n && Nat.ble n 122)
def wdB (b : UInt8) : Bool := wdN b.toNat
theorem wd_all : ((List.range 128).all fun n => !wdN n || (!Go.Lib.isSpaceR n && !isBl n)) = true := by kernel_rfl
theorem wd_low {b : UInt8} (h : wdB b = true) : b.toNat < 128 ∧ Go.Lib.isSpaceR b.toNat = false ∧ isBl b.toNat = false := by
 have h1 : b.toNat < 128 := by
  unfold wdB wdN at h
  simp only [Bool.or_eq_true, Bool.and_eq_true, Nat.ble_eq] at h
  omega
 have h2 := List.all_eq_true.1 wd_all b.toNat (List.mem_range.2 h1)
 unfold wdB at h
 rw [h] at h2
 simp only [Bool.not_true, Bool.false_or, Bool.and_eq_true, Bool.not_eq_true'] at h2
 exact ⟨h1, h2⟩
def tw (ws : List (List UInt8)) : List UInt8 := ws.flatMap fun w => (32 : UInt8) :: w
theorem go_word : ∀ (w : List UInt8) (f : Nat) (cur rest : List UInt8), (∀ b ∈ w, wdB b = true) → Go.Lib.fieldsGoD (f + w.length) cur (w ++ rest) = Go.Lib.fieldsGoD f (cur ++ w) rest
 | [], f, cur, rest, _ => by simp
 | b :: t, f, cur, rest, h => by
  obtain ⟨h1, h2, _⟩ := wd_low (h b (by simp))
  have ih := go_word t f (cur ++ [b]) rest (fun x hx => h x (List.mem_cons_of_mem _ hx))
  have hd := Go.Lib.decodeL_ascii b (t ++ rest) h1
  rw [show f + (b :: t).length = (f + t.length) + 1 by simp only [List.length_cons]; omega, List.cons_append]
  simp only [Go.Lib.fieldsGoD]
  rw [if_neg (by simp), hd, h2]
  simp only [Bool.false_eq_true, if_false, List.drop_succ_cons, List.drop_zero, List.take_succ_cons, List.take_zero]
  rw [ih, List.append_assoc]; rfl
theorem go_blank (f : Nat) (cur rest : List UInt8) : Go.Lib.fieldsGoD (f + 1) cur ((32 : UInt8) :: rest) = (if cur = [] then [] else [cur]) ++ Go.Lib.fieldsGoD f [] rest := by
 have hd := Go.Lib.decodeL_ascii (32 : UInt8) rest (by decide)
 have h2 : Go.Lib.isSpaceR (32 : UInt8).toNat = true := by decide
 simp only [Go.Lib.fieldsGoD]
 rw [if_neg (by simp), hd, h2]
 simp only [if_true, List.drop_succ_cons, List.drop_zero]
theorem go_words : ∀ (ws : List (List UInt8)) (f : Nat) (cur : List UInt8), cur ≠ [] → (∀ w ∈ ws, w ≠ [] ∧ ∀ b ∈ w, wdB b = true) → (tw ws).length ≤ f → Go.Lib.fieldsGoD f cur (tw ws) = cur :: ws
 | [], f, cur, hc, _, _ => by
  unfold tw
  rw [List.flatMap_nil, Go.Lib.fieldsGoD_nil, if_neg hc]
 | w :: ws, f, cur, hc, h, hf => by
  obtain ⟨h1, h2⟩ := h w (by simp)
  have e : tw (w :: ws) = (32 : UInt8) :: (w ++ tw ws) := by unfold tw; rw [List.flatMap_cons]; rfl
  rw [e] at hf ⊢
  simp only [List.length_cons, List.length_append] at hf
  obtain ⟨g, rfl⟩ : ∃ g, f = g + w.length + 1 := ⟨f - w.length - 1, by omega⟩
  rw [go_blank, if_neg hc, go_word w g [] (tw ws) h2, List.nil_append, go_words ws g w h1 (fun x hx => h x (List.mem_cons_of_mem _ hx)) (by omega)]
  rfl
theorem fields_words (w : List UInt8) (ws : List (List UInt8)) (h1 : w ≠ []) (h2 : ∀ b ∈ w, wdB b = true) (h : ∀ w ∈ ws, w ≠ [] ∧ ∀ b ∈ w, wdB b = true) : Go.Lib.fieldsD (w ++ tw ws) = w :: ws := by
 unfold Go.Lib.fieldsD
 rw [show (w ++ tw ws).length + 1 = ((tw ws).length + 1) + w.length by rw [List.length_append]; omega, go_word w _ [] _ h2, List.nil_append]
 exact go_words ws _ w h1 h (by omega)
theorem spans_same {p q : Nat → Bool} (s : ByteArray) (h : ∀ pos, pos < s.size → p (Utf8.decode s pos).1 = q (Utf8.decode s pos).1) : ∀ (f pos : Nat) (st : Option Nat) (acc : List (Nat × Nat)), Go.Lib.spansFromP p s f pos st acc = Go.Lib.spansFromP q s f pos st acc
 | 0, _, _, _ => rfl
 | f + 1, pos, st, acc => by
  unfold Go.Lib.spansFromP
  by_cases hp : pos < s.size
  ·rw [if_pos hp, if_pos hp, h pos hp]
   cases st <;> simp only [spans_same s h f]
  ·rw [if_neg hp, if_neg hp]
theorem tw_bytes : ∀ (ws : List (List UInt8)), (∀ w ∈ ws, w ≠ [] ∧ ∀ b ∈ w, wdB b = true) → ∀ b ∈ tw ws, b = 32 ∨ wdB b = true
 | [], _, b, hb => by unfold tw at hb; simp at hb
 | w :: ws, h, b, hb => by
  have e : tw (w :: ws) = (32 : UInt8) :: (w ++ tw ws) := by unfold tw; rw [List.flatMap_cons]; rfl
  rw [e] at hb
  rcases List.mem_cons.1 hb with rfl | hb
  ·exact .inl rfl
  ·rcases List.mem_append.1 hb with hb | hb
   ·exact .inr ((h w (by simp)).2 b hb)
   ·exact tw_bytes ws (fun x hx => h x (List.mem_cons_of_mem _ hx)) b hb
abbrev bl (s : ByteArray) : List UInt8 := s.data.toList
theorem bl_back (L : List ByteArray) : (L.map bl).map (fun l => (⟨l.toArray⟩ : ByteArray)) = L := by
 rw [List.map_map]
 have : ((fun l => (⟨l.toArray⟩ : ByteArray)) ∘ bl) = id := by funext s; cases s; rfl
 rw [this, List.map_id]
theorem fields_go (s : ByteArray) (w : ByteArray) (ws : List ByteArray) (hs : bl s = bl w ++ tw (ws.map bl)) (h : ∀ v ∈ w :: ws, bl v ≠ [] ∧ ∀ b ∈ bl v, wdB b = true) (hz : s.size ≤ 4294967296) :
  f31_32 s = some (w :: ws) := by
 have hw := h w (by simp)
 have hws : ∀ v ∈ ws.map bl, v ≠ [] ∧ ∀ b ∈ v, wdB b = true := fun v hv => by
  obtain ⟨x, hx, rfl⟩ := List.mem_map.1 hv
  exact h x (List.mem_cons_of_mem _ hx)
 have hb : ∀ b ∈ bl s, b = 32 ∨ wdB b = true := fun b hb => by
  rw [hs] at hb
  rcases List.mem_append.1 hb with hb | hb
  ·exact .inr (hw.2 b hb)
  ·exact tw_bytes _ hws b hb
 have hp : ∀ pos, pos < s.size → isBl (Utf8.decode s pos).1 = Go.Lib.isSpaceR (Utf8.decode s pos).1 := fun pos hp => by
  have hl : pos < (bl s).length := by rw [show (bl s).length = s.size from rfl]; exact hp
  have hd := Go.Lib.decodeL_drop s pos
  rw [show s.data.toList = bl s from rfl, List.drop_eq_getElem_cons hl] at hd
  rcases hb _ (List.getElem_mem hl) with e | e
  ·have := Go.Lib.decodeL_ascii ((bl s)[pos]) ((bl s).drop (pos + 1)) (by rw [e]; decide)
   rw [← hd, this]
   simp only
   rw [e]; decide
  ·obtain ⟨h1, h2, h3⟩ := wd_low e
   have := Go.Lib.decodeL_ascii ((bl s)[pos]) ((bl s).drop (pos + 1)) h1
   rw [← hd, this]
   simp only
   rw [h2, h3]
 have e1 : Go.Lib.goFieldsP isBl s = Go.Lib.goFieldsP Go.Lib.isSpaceR s := by
  unfold Go.Lib.goFieldsP Go.Lib.spansOfP
  rw [spans_same s hp]
 have e2 : (Go.Lib.goFieldsP isBl s).map bl = (w :: ws).map bl := by
  rw [e1, Go.Lib.goFieldsP_space]
  have := Go.Lib.goFields_eq s
  rw [show s.data.toList = bl s from rfl, hs, fields_words _ _ hw.1 hw.2 hws] at this
  exact this
 have e3 : Go.Lib.goFieldsP isBl s = w :: ws := by
  rw [← bl_back (Go.Lib.goFieldsP isBl s), e2, bl_back]
 unfold f31_32 fieldsF
 have e4 : Nat.ble s.size 4294967296 = true := Nat.ble_eq_true_of_le hz
 rw [e4, cond_true]
 exact congrArg some e3
end Go.Proofs.Cv
namespace Go.Proofs.Cv
open Go.AM Go.Proofs.PlB Go.Proofs.PlW Go.Proofs.PlT Go.Proofs.PlS Go.Proofs.Sh Go.Proofs.Num Go.Proofs.Div Go.Proofs.Op
open Go.Proofs.PlR hiding Tn
def wordOk (v : ByteArray) : Bool := !(bl v).isEmpty && (bl v).all wdB
def numOk (i : Nat) : Bool := decide (f87 (nm (i : Int)) = some ((i : Int), true)) && wordOk (nm (i : Int))
theorem num_all : ((List.range 1025).all numOk) = true := by kernel_rfl
theorem word_of {v : ByteArray} (h : wordOk v = true) : bl v ≠ [] ∧ ∀ b ∈ bl v, wdB b = true := by
 unfold wordOk at h
 simp only [Bool.and_eq_true, Bool.not_eq_true', List.isEmpty_eq_false_iff, List.all_eq_true] at h
 exact h
def inR (l : List Int) : Prop := ∀ x ∈ l, 0 ≤ x ∧ x ≤ 1024
theorem num_one {x : Int} (h : 0 ≤ x ∧ x ≤ 1024) : f87 (nm x) = some (x, true) ∧ wordOk (nm x) = true := by
 obtain ⟨k, rfl⟩ := Int.eq_ofNat_of_zero_le h.1
 have h2 := List.all_eq_true.1 num_all k (List.mem_range.2 (by omega))
 unfold numOk at h2
 simp only [Bool.and_eq_true, decide_eq_true_eq] at h2
 exact h2
def noNum (w : List ByteArray) : Prop := w = [] ∨ ∃ v r m, w = v :: r ∧ f87 v = some (m, false)
theorem leading_go (l : List Int) (h : inR l) (hl : l.length ≤ 100) (rest : List ByteArray) (hr : noNum rest) : f58 (l.map nm ++ rest) = some (rest, l) := by
 unfold f58
 have LL := loop_for (B := fun go (x : List ByteArray × List Int) => f58_l1 go x.1 x.2) (fun k => ((l.drop k).map nm ++ rest, l.take k)) l.length (rest, l) ?_ ?_ (by omega)
 ·have L' : loopF (fun go (x : List ByteArray × List Int) => f58_l1 go x.1 x.2) fuelN (l.map nm ++ rest, []) = _ := LL
  rw [L', bindF_some]
 ·intro k hk go
  have hx := h _ (List.getElem_mem hk)
  obtain ⟨e1, _⟩ := num_one hx
  have ed : (l.drop k).map nm ++ rest = nm l[k] :: ((l.drop (k + 1)).map nm ++ rest) := by rw [List.drop_eq_getElem_cons hk]; rfl
  have er : rd (Ty.z .str) (nm l[k] :: ((l.drop (k + 1)).map nm ++ rest)) (0 : Int) = nm l[k] := rfl
  have g1 : (List.length (l.take k) + List.length [l[k]]) * 8 ≤ 140737488355328 := by simp only [List.length_cons, List.length_nil, List.length_take]; omega
  have e0 : Int.toNat (1 : Int) = 1 := rfl
  unfold f58_l1
  simp only
  rw [ed, List.length_cons, dT (by omega), cond_true, guardF_pos (by omega), er, e1, bindF_some]
  simp only [Bool.not_true, cond_false]
  rw [guardF_pos g1, guardF_pos (by omega), e0, List.take_succ_eq_append_getElem hk]
  rfl
 ·intro go
  unfold f58_l1
  simp only
  rw [List.drop_length, List.take_length]
  show (bif decide (((rest.length : Nat) : Int) > 0) then _ else _) = _
  rcases hr with rfl | ⟨v, r, m, rfl, e⟩
  ·rfl
  ·have er : rd (Ty.z .str) (v :: r) (0 : Int) = v := rfl
   rw [List.length_cons, dT (by omega), cond_true]
   show guardF (0 ≤ (0 : Int) ∧ (0 : Int) < ((List.length (v :: r) : Nat) : Int)) _ = _
   rw [List.length_cons, guardF_pos (by omega)]
   show bindF (f87 v) _ = _
   rw [e, bindF_some]
   rfl
def lw (l : Lay) : List ByteArray := l.1 :: (ar l).map nm
structure LB (l : Lay) : Prop where
 lbw : wordOk l.1 = true
 lbk : ∃ m, f87 l.1 = some (m, false)
 lbn : inR (ar l)
 lbb : (l.1, rd (0 : Int) (ar l ++ [(0 : Int), (0 : Int)]) (0 : Int), rd (0 : Int) (ar l ++ [(0 : Int), (0 : Int)]) (1 : Int)) = l
theorem lb_of {l : Lay} (h : lok l = true) : LB l := by
 rcases lay_cases h with ⟨a, b, rfl, ha⟩ | ⟨a, b, rfl, ha, hb⟩ | ⟨a, b, rfl, ha⟩ | ⟨a, b, rfl, ha⟩ | ⟨a, b, rfl⟩
 ·have k0 : kd bDense (bDense, a, b) = true := by kernel_rfl
  have k1 : kd bConv (bDense, a, b) = false := by kernel_rfl
  have k2 : kd bSk (bDense, a, b) = false := by kernel_rfl
  have e : ar (bDense, a, b) = [a] := by unfold ar; rw [k1, k2]; rfl
  unfold lok at h
  rw [k0, cond_true] at h
  obtain ⟨h1, rfl⟩ := of_decide_eq_true h
  simp only at h1
  exact ⟨by show wordOk bDense = true; kernel_rfl, ⟨0, by show f87 bDense = _; kernel_rfl⟩, by rw [e]; intro x hx; rw [List.mem_singleton.1 hx]; omega, by rw [e]; rfl⟩
 ·have k0 : kd bDense (bConv, a, b) = false := by kernel_rfl
  have k1 : kd bConv (bConv, a, b) = true := by kernel_rfl
  have e : ar (bConv, a, b) = [a, b] := by unfold ar; rw [k1]; rfl
  unfold lok at h
  rw [k0, k1, cond_false, cond_true] at h
  have h1 := of_decide_eq_true h
  simp only at h1
  exact ⟨by show wordOk bConv = true; kernel_rfl, ⟨0, by show f87 bConv = _; kernel_rfl⟩, by
   rw [e]; intro x hx
   rcases List.mem_cons.1 hx with rfl | hx
   ·omega
   ·rw [List.mem_singleton.1 hx]; omega, by rw [e]; rfl⟩
 ·have k0 : kd bDense (bPool, a, b) = false := by kernel_rfl
  have k1 : kd bConv (bPool, a, b) = false := by kernel_rfl
  have k3 : kd bPool (bPool, a, b) = true := by kernel_rfl
  have k2 : kd bSk (bPool, a, b) = false := by kernel_rfl
  have e : ar (bPool, a, b) = [a] := by unfold ar; rw [k1, k2]; rfl
  unfold lok at h
  rw [k0, k1, k3, cond_false, cond_false, cond_true] at h
  obtain ⟨h1, rfl⟩ := of_decide_eq_true h
  simp only at h1
  exact ⟨by show wordOk bPool = true; kernel_rfl, ⟨0, by show f87 bPool = _; kernel_rfl⟩, by rw [e]; intro x hx; rw [List.mem_singleton.1 hx]; omega, by rw [e]; rfl⟩
 ·have k0 : kd bDense (bBn, a, b) = false := by kernel_rfl
  have k1 : kd bConv (bBn, a, b) = false := by kernel_rfl
  have k3 : kd bPool (bBn, a, b) = false := by kernel_rfl
  have k4 : kd bBn (bBn, a, b) = true := by kernel_rfl
  have k2 : kd bSk (bBn, a, b) = false := by kernel_rfl
  have e : ar (bBn, a, b) = [a] := by unfold ar; rw [k1, k2]; rfl
  unfold lok at h
  rw [k0, k1, k3, k4, cond_false, cond_false, cond_false, cond_true] at h
  obtain ⟨h1, rfl⟩ := of_decide_eq_true h
  simp only at h1
  exact ⟨by show wordOk bBn = true; kernel_rfl, ⟨0, by show f87 bBn = _; kernel_rfl⟩, by rw [e]; intro x hx; rw [List.mem_singleton.1 hx]; omega, by rw [e]; rfl⟩
 ·have k0 : kd bDense (bSk, a, b) = false := by kernel_rfl
  have k1 : kd bConv (bSk, a, b) = false := by kernel_rfl
  have k3 : kd bPool (bSk, a, b) = false := by kernel_rfl
  have k4 : kd bBn (bSk, a, b) = false := by kernel_rfl
  have k2 : kd bSk (bSk, a, b) = true := by kernel_rfl
  have e : ar (bSk, a, b) = [] := by unfold ar; rw [k1, k2]; rfl
  unfold lok at h
  rw [k0, k1, k3, k4, k2, cond_false, cond_false, cond_false, cond_false, cond_true] at h
  obtain ⟨h1, h2⟩ := of_decide_eq_true h
  simp only at h1 h2
  subst h1 h2
  exact ⟨by show wordOk bSk = true; kernel_rfl, ⟨0, by show f87 bSk = _; kernel_rfl⟩, by rw [e]; intro x hx; exact absurd hx (by simp), by rw [e]; rfl⟩
theorem dd_inR {d : List Int} (h : DD d) : inR d := fun x hx => by have := h.2 x hx; omega
theorem ns_bytes : ∀ (l : List Int) (s : ByteArray), bl (l.foldl (fun s i => s ++ (bSp ++ nm i)) s) = bl s ++ tw ((l.map nm).map bl)
 | [], s => by unfold tw; simp
 | x :: l, s => by
  have e : bl (s ++ (bSp ++ nm x)) = bl s ++ ((32 : UInt8) :: bl (nm x)) := by
   unfold bl
   rw [ByteArray.data_append, ByteArray.data_append, Array.toList_append, Array.toList_append]; rfl
  rw [List.foldl_cons, ns_bytes l, e]
  unfold tw
  rw [List.map_cons, List.map_cons, List.flatMap_cons, List.append_assoc]
theorem bl_app (a b : ByteArray) : bl (a ++ b) = bl a ++ bl b := by
 unfold bl
 rw [ByteArray.data_append, Array.toList_append]
theorem ns_bl (l : List Int) : bl (ns l) = tw ((l.map nm).map bl) := by
 have := ns_bytes l (ByteArray.mk #[])
 exact this
theorem tw_app (a b : List (List UInt8)) : tw (a ++ b) = tw a ++ tw b := by unfold tw; rw [List.flatMap_append]
theorem tl_bytes (n : Nt) : ∀ k, k ≤ n.2.length → bl (tl n k) = bl bIn ++ tw ((n.1.map nm ++ (n.2.take k).flatMap lw).map bl)
 | 0, _ => by
  unfold tl
  rw [bl_app, ns_bl, List.take_zero, List.flatMap_nil, List.append_nil]
 | k + 1, hk => by
  have ih := tl_bytes n k (by omega)
  have el : ly n k = n.2[k] := rd_nat _ _ _ hk
  have ew : (n.1.map nm ++ (n.2.take (k + 1)).flatMap lw).map bl = (n.1.map nm ++ (n.2.take k).flatMap lw).map bl ++ [bl (ly n k).1] ++ ((ar (ly n k)).map nm).map bl := by
   rw [List.take_succ_eq_append_getElem hk, List.flatMap_append, ← el, List.flatMap_cons, List.flatMap_nil, List.append_nil]
   unfold lw
   simp only [List.map_append, List.map_cons, List.append_assoc, List.cons_append, List.nil_append]
  have e1 : tw [bl (ly n k).1] = bl bSp ++ bl (ly n k).1 := by unfold tw; rw [List.flatMap_cons, List.flatMap_nil, List.append_nil]; rfl
  unfold tl
  rw [bl_app, ih, bl_app, bl_app, ns_bl, ew, tw_app, tw_app, e1]
  simp only [List.append_assoc]
section
variable {n : Nt} (hg : gok n = true) (hN : n.2.length ≤ 40)
include hg hN
theorem rest_no (k : Nat) : noNum ((n.2.drop k).flatMap lw) := by
 by_cases h : k < n.2.length
 ·have el : ly n k = n.2[k] := rd_nat _ _ _ h
  have B := lb_of ((gok_in hg).2 k h)
  obtain ⟨m, hm⟩ := B.lbk
  rw [List.drop_eq_getElem_cons h, List.flatMap_cons, ← el]
  exact .inr ⟨_, _, m, rfl, hm⟩
 ·rw [List.drop_eq_nil_of_le (by omega)]; exact .inl rfl
theorem read_go (hI : 1 ≤ n.1.length ∧ n.1.length ≤ 2) : f33 (bIn :: (n.1.map nm ++ n.2.flatMap lw)) = some (true, n.1, n.2) := by
 have D := (gok_in hg).1
 have hr0 := rest_no hg hN 0
 rw [List.drop_zero] at hr0
 have el := leading_go n.1 (dd_inR D) (by omega) (n.2.flatMap lw) hr0
 have e0 : Int.toNat (1 : Int) = 1 := rfl
 have j2 : f33_j2 (bIn :: (n.1.map nm ++ n.2.flatMap lw)) = some (Sum.inl ()) := by
  have er : rd (Ty.z .str) (bIn :: (n.1.map nm ++ n.2.flatMap lw)) (0 : Int) = bIn := rfl
  unfold f33_j2 f33_j3
  rw [List.length_cons, bF (by omega), cond_false, guardF_pos (by omega), er, beq_self_eq_true, bindF_some]
  rfl
 have j5 : f33_j5 (n.2.flatMap lw, n.1) = some (Sum.inl ()) := by
  unfold f33_j5 f33_j6
  simp only
  rw [dF (by omega), cond_false, dF (by omega), bindF_some]
  rfl
 unfold f33
 rw [j2, bindF_some, sumF_inl, List.length_cons, guardF_pos (by omega), e0, List.drop_succ_cons, List.drop_zero, el, bindF_some, j5, bindF_some, sumF_inl]
 have LL := loop_for (B := fun go (x : List ByteArray × List Lay) => f33_l7 go x.1 x.2) (fun k => ((n.2.drop k).flatMap lw, n.2.take k)) n.2.length (Sum.inr n.2) ?_ ?_ (by omega)
 ·have L' : loopF (fun go (x : List ByteArray × List Lay) => f33_l7 go x.1 x.2) fuelN (n.2.flatMap lw, []) = _ := LL
  simp only
  rw [L', bindF_some, sumF_inr]
 ·intro k hk go
  have ey : ly n k = n.2[k] := rd_nat _ _ _ hk
  have hl := (gok_in hg).2 k hk
  have B := lb_of hl
  have L := lt_of hl
  have hm := L.ltm
  have ed : (n.2.drop k).flatMap lw = (ly n k).1 :: ((ar (ly n k)).map nm ++ (n.2.drop (k + 1)).flatMap lw) := by
   rw [List.drop_eq_getElem_cons hk, List.flatMap_cons, ← ey]; rfl
  have er : rd (Ty.z .str) ((ly n k).1 :: ((ar (ly n k)).map nm ++ (n.2.drop (k + 1)).flatMap lw)) (0 : Int) = (ly n k).1 := rfl
  have e2 := leading_go (ar (ly n k)) B.lbn (by omega) _ (rest_no hg hN (k + 1))
  have g1 : (List.length (ar (ly n k)) + List.length [(0 : Int), (0 : Int)]) * 8 ≤ 140737488355328 := by simp only [List.length_cons, List.length_nil]; omega
  have g2 : 0 ≤ (0 : Int) ∧ (0 : Int) < (List.length (ar (ly n k) ++ [(0 : Int), (0 : Int)]) : Int) := by simp only [List.length_append, List.length_cons, List.length_nil]; omega
  have g3 : 0 ≤ (1 : Int) ∧ (1 : Int) < (List.length (ar (ly n k) ++ [(0 : Int), (0 : Int)]) : Int) := by simp only [List.length_append, List.length_cons, List.length_nil]; omega
  have g4 : (List.length (n.2.take k) + List.length [ly n k]) * 32 ≤ 140737488355328 := by simp only [List.length_cons, List.length_nil, List.length_take]; omega
  unfold f33_l7
  simp only
  rw [ed, List.length_cons, dT (by omega), cond_true, guardF_pos (by omega), guardF_pos (by omega), e0, List.drop_succ_cons, List.drop_zero, e2, bindF_some, er, L.ltc, bindF_some]
  simp only
  rw [nF rfl, cond_false, guardF_pos g1, guardF_pos g2, guardF_pos g3, B.lbb, guardF_pos g4, ey, List.take_succ_eq_append_getElem hk]
 ·intro go
  unfold f33_l7
  simp only
  rw [List.drop_length, List.take_length]
  rfl
theorem parse_go (h0 : (shs n).1 = 0) (hI : 1 ≤ n.1.length ∧ n.1.length ≤ 2) : f10 (tl n n.2.length) = some (n, 0) := by
 have D := (gok_in hg).1
 have hz := tl_size hg hN n.2.length (Nat.le_refl _)
 have es : f11 (n.1, n.2) = _ := (shapesP n hN).1
 have eb := tl_bytes n n.2.length (Nat.le_refl _)
 rw [List.take_length] at eb
 have ef := fields_go (tl n n.2.length) bIn (n.1.map nm ++ n.2.flatMap lw) eb (fun v hv => by
  rcases List.mem_cons.1 hv with rfl | hv
  ·exact word_of (by kernel_rfl)
  rcases List.mem_append.1 hv with hv | hv
  ·obtain ⟨x, hx, rfl⟩ := List.mem_map.1 hv
   exact word_of (num_one (dd_inR D x hx)).2
  ·obtain ⟨l, hl, hv⟩ := List.mem_flatMap.1 hv
   obtain ⟨k, hk, rfl⟩ := List.mem_iff_getElem.1 hl
   have ey : ly n k = n.2[k] := rd_nat _ _ _ hk
   have B := lb_of ((gok_in hg).2 k hk)
   rw [← ey] at hv
   unfold lw at hv
   rcases List.mem_cons.1 hv with rfl | hv
   ·exact word_of B.lbw
   ·obtain ⟨x, hx, rfl⟩ := List.mem_map.1 hv
    exact word_of (num_one (B.lbn x hx)).2) (by omega)
 unfold f10
 rw [dF (by omega), cond_false, ef, bindF_some, read_go hg hN hI, bindF_some]
 simp only [Bool.not_true, cond_false]
 rw [es, bindF_some, nF h0, cond_false]
end
theorem gok_len {n : Nt} (h : gok n = true) : 1 ≤ n.1.length ∧ n.1.length ≤ 2 := by
 unfold gok iok at h
 cases hf : (fbad n).isSome
 ·rw [hf, cond_false] at h
  by_cases h1 : n.1.length = 1
  ·omega
  ·rw [dF h1, cond_false] at h
   by_cases h2 : n.1.length = 2
   ·omega
   ·rw [dF h2] at h; exact absurd h (by simp)
 ·rw [hf] at h; exact absurd h (by simp)
theorem alike_go (n : Nt) (hN : n.2.length ≤ 40) (hI : n.1.length ≤ 2) : f26 n n = some true := by
 have j1 : f26_j1 n n = some (Sum.inl ()) := by
  unfold f26_j1
  rw [same_ok n.1 (by omega), bindF_some, Bool.not_true, cond_false, nF rfl]
  rfl
 unfold f26
 rw [j1, bindF_some, sumF_inl]
 have LL := loop_for (B := fun go (x : Int) => f26_l2 n n go x) (fun k => (k : Int)) n.2.length (Sum.inr ()) ?_ ?_ (by omega)
 ·have L' : loopF (fun go (x : Int) => f26_l2 n n go x) fuelN (0 : Int) = _ := LL
  rw [L', bindF_some, sumF_inr]
 ·intro k hk go
  unfold f26_l2
  rw [dT (by omega), cond_true, guardF_pos (by omega), guardF_pos (by omega), beq_self_eq_true, bT rfl, bT rfl]
  simp only [Bool.and_self, Bool.not_true, cond_false]
  rw [wsucc k (by omega)]
 ·intro go
  unfold f26_l2
  rw [dF (by omega), cond_false]
theorem back_j1 (n : Nt) : (f6_j1 n = some (Sum.inl ()) ∧ n.2.length ≤ 40) ∨ f6_j1 n = some (Sum.inr ()) := by
 unfold f6_j1
 by_cases c1 : (List.length n.1 : Int) > 10
 ·rw [dT c1]; exact .inr rfl
 rw [dF c1, cond_false]
 by_cases c2 : (List.length n.2 : Int) > 40
 ·rw [dT c2]; exact .inr rfl
 rw [dF c2]
 exact .inl ⟨rfl, by omega⟩
theorem parse_none : f10 (ByteArray.mk #[]) = some (([], []), 7) := by kernel_rfl
theorem lawBack (n : Nt) : f6 n = some true := by
 unfold f6
 rw [awake12, bindF_some, Bool.not_true, cond_false]
 rcases back_j1 n with ⟨ej, hN⟩ | ej
 ·obtain ⟨hP1, hP2⟩ := shapesP n hN
  have eP : f11 (n.1, n.2) = some ((shs n).1, (shs n).2.2) := hP1
  have en : f16 (n.1, n.2) = some n := net_all n hN
  rw [ej, bindF_some, sumF_inl, eP, bindF_some]
  by_cases h0 : (shs n).1 = 0
  ·have hg := (hP2 h0).1
   have hI := gok_len hg
   have et : f14 (n.1, n.2) = _ := textP hg hN h0
   have ea : f26 (n.1, n.2) (n.1, n.2) = some true := alike_go n hN hI.2
   rw [et, bindF_some, parse_go hg hN h0 hI, bindF_some]
   simp only
   rw [nF h0, cond_false, bT rfl, cond_true, en, bindF_some, bindF_some, ea, bindF_some]
  ·have et : f14 (n.1, n.2) = some (ByteArray.mk #[]) := by
    unfold f14
    rw [eP, bindF_some, nT h0, cond_true]
   rw [et, bindF_some, parse_none, bindF_some]
   simp only
   rw [nT h0, cond_true, bindF_some, beq_self_eq_true, cond_true]
   rfl
 ·rw [ej, bindF_some, sumF_inr]
end Go.Proofs.Cv
namespace Go.Proofs.PlG
open Go.AM Go.Proofs.PlW
end Go.Proofs.PlG

