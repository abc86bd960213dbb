/- Plain law: MatmAlike: wide sums and means. -/
import Derived.Test.YtmkekohdmdjdlaaPlMatmOnes
set_option linter.unusedVariables false
set_option linter.unusedSimpArgs false
set_option maxRecDepth 100000
namespace Go.Proofs.Alike
open Go.AM Go.Proofs.PlB Go.Proofs.PlW Go.Proofs.PlT

def pair (V : Int) : Int × Int := (V / 18446744073709551616, V % 18446744073709551616)
def far (V : Int) : Prop := -85070591730234615865843651857942052864 ≤ V ∧ V ≤ 85070591730234615865843651857942052864

theorem of_ok (v : Int) (h0 : -9223372036854775808 ≤ v) (h1 : v < 9223372036854775808) : f52 v = some (pair v) := by
  unfold f52 pair
  rw [sh63i, wu]
  congr 2
  omega
theorem add_w (A B : Int) (ha : far A) (hb : far B) (hs : far (A + B)) : f51 (pair A) (pair B) = some (pair (A + B)) := by
  obtain ⟨a0, a1⟩ := ha
  obtain ⟨b0, b1⟩ := hb
  obtain ⟨s0, s1⟩ := hs
  unfold f51 pair
  simp only
  rw [add_ok _ _ _ (by omega) (by omega) (by decide) (by decide)]
  simp only [bindF_some, wu]
  rw [add_ok _ _ _ (by omega) (by omega) (by omega) (by omega)]
  simp only [bindF_some, Option.some.injEq, Prod.mk.injEq]
  refine ⟨?_, by omega⟩
  rw [wi_mod, ← wi_mod]
  rw [show (A / 18446744073709551616 % 18446744073709551616 + B / 18446744073709551616 % 18446744073709551616 + (A % 18446744073709551616 + B % 18446744073709551616 + 0) / 18446744073709551616) % 18446744073709551616 = (A + B) / 18446744073709551616 % 18446744073709551616 by omega]
  rw [wi_mod, wrap_i64 (by omega) (by omega)]
theorem neg_w (A : Int) (ha : far A) : f86 (pair A) = some (pair (-A)) := by
  obtain ⟨a0, a1⟩ := ha
  unfold f86 f104 pair
  simp only
  rw [sub_ok _ _ _ (by omega) (by omega) (by omega) (by omega) (by omega) (by omega)]
  simp only [bindF_some, wu]
  rw [sub_ok _ _ _ (by omega) (by omega) (by omega) (by omega) (by split <;> omega) (by split <;> omega)]
  simp only [bindF_some, Option.some.injEq, Prod.mk.injEq]
  refine ⟨?_, by omega⟩
  rw [wi_mod]
  rw [← wi_mod]
  have e : ((0 : Int) % 18446744073709551616 - A / 18446744073709551616 % 18446744073709551616 - (if (0 : Int) < A % 18446744073709551616 + 0 then 1 else 0)) % 18446744073709551616 = -A / 18446744073709551616 % 18446744073709551616 := by
    split <;> omega
  rw [e, wi_mod, wrap_i64 (by omega) (by omega)]
theorem fix_ok (V : Int) (hv : far V) : f53 (pair V) = some (sat V) := by
  obtain ⟨a0, a1⟩ := hv
  unfold f53 f53_j2 f53_j3 pair sat
  simp only
  by_cases h1 : V / 18446744073709551616 > 0
  · rw [show decide (V / 18446744073709551616 > 0) = true by simpa using h1, if_pos (by omega)]
    rfl
  · rw [show decide (V / 18446744073709551616 > 0) = false by simpa using h1]
    simp only [cond_false]
    by_cases h2 : V / 18446744073709551616 = 0
    · rw [show (V / 18446744073709551616 == 0) = true by simpa using h2]
      simp only [cond_true, bindF_some]
      rw [show decide (V / 18446744073709551616 < -1) = false by simp; omega, show (V / 18446744073709551616 == -1) = false by simp; omega]
      by_cases h3 : V % 18446744073709551616 ≥ 9223372036854775808
      · rw [show decide (V % 18446744073709551616 ≥ 9223372036854775808) = true by simpa using h3, if_pos (by omega)]
        rfl
      · rw [show decide (V % 18446744073709551616 ≥ 9223372036854775808) = false by simpa using h3, if_neg (by omega), if_neg (by omega)]
        simp only [cond_false, bindF_some, sumF_inl, Option.some.injEq]
        rw [wrap_i64 (by omega) (by omega)]
        omega
    · rw [show (V / 18446744073709551616 == 0) = false by simpa using h2]
      simp only [cond_false, bindF_some]
      by_cases h3 : V / 18446744073709551616 < -1
      · rw [show decide (V / 18446744073709551616 < -1) = true by simpa using h3, if_neg (by omega), if_pos (by omega)]
        rfl
      · rw [show decide (V / 18446744073709551616 < -1) = false by simpa using h3, show (V / 18446744073709551616 == -1) = true by simp; omega]
        simp only [cond_false, cond_true]
        by_cases h4 : V % 18446744073709551616 < 9223372036854775808
        · rw [show decide (V % 18446744073709551616 < 9223372036854775808) = true by simpa using h4, if_neg (by omega), if_pos (by omega)]
          rfl
        · rw [show decide (V % 18446744073709551616 < 9223372036854775808) = false by simpa using h4, if_neg (by omega), if_neg (by omega)]
          simp only [cond_false, bindF_some, sumF_inl, Option.some.injEq]
          rw [wi]
          split <;> omega

theorem total_rep (v : Int) (n : Nat) (hn : n ≤ 4096) (h0 : -9223372036854775808 ≤ v) (h1 : v < 9223372036854775808) : f54 (List.replicate n v) = some (pair (n * v)) := by
  have hk : ∀ k : Nat, k ≤ 4096 → far (k * v) := fun k hk => by
    have e1 : (k : Int) * v ≤ 4096 * 9223372036854775808 := by
      by_cases hv : 0 ≤ v
      · exact Int.mul_le_mul (by omega) (by omega) hv (by decide)
      · have : (k : Int) * v ≤ 0 := Int.mul_nonpos_of_nonneg_of_nonpos (by omega) (by omega)
        omega
    have e2 : -(4096 * 9223372036854775808) ≤ (k : Int) * v := by
      by_cases hv : 0 ≤ v
      · have : 0 ≤ (k : Int) * v := Int.mul_nonneg (by omega) hv
        omega
      · have : (k : Int) * (-v) ≤ 4096 * 9223372036854775808 := Int.mul_le_mul (by omega) (by omega) (by omega) (by decide)
        rw [Int.mul_neg] at this
        omega
    unfold far; omega
  unfold f54
  have H : ∀ x : Int × Int × Int, (∃ k : Nat, k ≤ n ∧ x = ((k : Int), (pair (k * v)).1, (pair (k * v)).2)) →
      (∃ z, (∀ go, f54_l1 (List.replicate n v) go x.1 x.2.1 x.2.2 = some z) ∧ z = pair (n * v)) ∨
      (∃ y : Int × Int × Int, (∀ go, f54_l1 (List.replicate n v) go x.1 x.2.1 x.2.2 = go y) ∧ (∃ k : Nat, k ≤ n ∧ y = ((k : Int), (pair (k * v)).1, (pair (k * v)).2)) ∧ ((n : Int) - y.1).toNat < ((n : Int) - x.1).toNat) := by
    rintro _ ⟨k, hkn, rfl⟩
    by_cases h : k < n
    · right
      refine ⟨(((k + 1 : Nat) : Int), (pair (((k + 1 : Nat) : Int) * v)).1, (pair (((k + 1 : Nat) : Int) * v)).2), fun go => ?_, ⟨k + 1, h, rfl⟩, by simp only; omega⟩
      unfold f54_l1
      simp only [List.length_replicate]
      rw [show decide ((k : Int) < (n : Int)) = true by simpa using h]
      simp only [cond_true]
      rw [guardF_pos (by omega), rd_nat _ _ _ (by simpa using h), List.getElem_replicate, of_ok v h0 h1]
      simp only [bindF_some]
      have e := add_w ((k : Int) * v) v (hk k (by omega)) (by unfold far; omega) (by have := hk (k + 1) (by omega); rwa [Int.natCast_add, Int.add_mul, Int.natCast_one, Int.one_mul] at this)
      rw [show ((pair ((k : Int) * v)).1, (pair ((k : Int) * v)).2) = pair ((k : Int) * v) from rfl, show ((pair v).1, (pair v).2) = pair v from rfl, e]
      simp only [bindF_some]
      rw [wrap_i64 (by omega) (by omega), show ((k + 1 : Nat) : Int) * v = (k : Int) * v + v by rw [Int.natCast_add, Int.add_mul, Int.natCast_one, Int.one_mul]]
      rfl
    · left
      have : k = n := by omega
      subst this
      refine ⟨_, fun go => ?_, rfl⟩
      unfold f54_l1
      simp only [List.length_replicate]
      rw [show decide ((k : Int) < (k : Int)) = false by simp]
      rfl
  obtain ⟨z, e, rfl⟩ := loop_fuel (B := fun go (x : Int × Int × Int) => f54_l1 (List.replicate n v) go x.1 x.2.1 x.2.2) _ (fun x => ((n : Int) - x.1).toNat) _ H ((0 : Int), (0 : Int), (0 : Int)) ⟨0, Nat.zero_le _, by simp [pair]⟩ (by simp; omega)
  rw [e]
  rfl

theorem all_ok (d : List Int) (v : Int) (n : Nat) (hg : tgood (d, List.replicate n v) = true) (hn : n ≤ 4096) (h0 : -9223372036854775808 ≤ v) (h1 : v < 9223372036854775808) : f24 (d, List.replicate n v) = some (sat (n * v), 0) := by
  unfold f24
  rw [good_ok, hg]
  simp only [bindF_some, Bool.not_true, cond_false]
  rw [total_rep v n hn h0 h1]
  simp only [bindF_some]
  have : far ((n : Int) * v) := by
    have e1 : (n : Int) * v ≤ 4096 * 9223372036854775808 := by
      by_cases hv : 0 ≤ v
      · exact Int.mul_le_mul (by omega) (by omega) hv (by decide)
      · have : (n : Int) * v ≤ 0 := Int.mul_nonpos_of_nonneg_of_nonpos (by omega) (by omega)
        omega
    have e2 : -(4096 * 9223372036854775808) ≤ (n : Int) * v := by
      by_cases hv : 0 ≤ v
      · have : 0 ≤ (n : Int) * v := Int.mul_nonneg (by omega) hv
        omega
      · have : (n : Int) * (-v) ≤ 4096 * 9223372036854775808 := Int.mul_le_mul (by omega) (by omega) (by omega) (by decide)
        rw [Int.mul_neg] at this
        omega
    unfold far; omega
  rw [show ((pair ((n : Int) * v)).1, (pair ((n : Int) * v)).2) = pair ((n : Int) * v) from rfl, fix_ok _ this]
  rfl
end Go.Proofs.Alike
