
import Derived.Test.YtlgiakkejlbbfaaQB
import Derived.Test.YtlgiakkejlbbfaaQW
set_option linter.unusedVariables false
set_option linter.unusedSimpArgs false
set_option maxRecDepth 100000
namespace Go.Proofs.PlT
open Go.AM Go.Proofs.PlB Go.Proofs.PlW
theorem lf1 {X Z : Type} (B : (X → Option Z) → X → Option Z) (x : X) : loopF B fuelN x = B (loopF B 18446744073709551615) x := rfl
theorem lf2 {X Z : Type} (B : (X → Option Z) → X → Option Z) (x : X) : loopF B 18446744073709551615 x = B (loopF B 18446744073709551614) x := rfl
theorem pgo_range : ∀ (d : List Int) (n : Int), 0 ≤ n → n ≤ 4096 → 0 ≤ pgo n d ∧ pgo n d ≤ 4096
 | [], n, h0, h1 => ⟨h0, h1⟩
 | x :: r, n, h0, h1 => by
  simp only [pgo]
  split
  ·omega
  ·have : 0 ≤ n * x := Int.mul_nonneg h0 (by omega)
   exact pgo_range r _ this (by omega)
theorem prd_range (d : List Int) : 0 ≤ prd d ∧ prd d ≤ 4096 := by
 unfold prd
 split
 ·omega
 ·exact pgo_range d 1 (by omega) (by omega)
theorem prd_len {d : List Int} (h : 0 < prd d) : d.length ≤ 4 := by
 unfold prd at h
 split at h <;> omega
theorem over_rep (v : Int) (n c m : Nat) (h : c + m ≤ n) : over (List.replicate c v ++ List.replicate (n - c) 0) (c : Int) (List.replicate m v) = List.replicate (c + m) v ++ List.replicate (n - (c + m)) 0 := by
 unfold over
 simp only [Int.toNat_natCast, List.length_replicate]
 rw [List.take_append_of_le_length (by simp), List.take_of_length_le (by simp), List.drop_append, List.drop_of_length_le (by simp), List.nil_append, List.length_replicate, List.drop_replicate, List.replicate_append_replicate]
 congr 2
 omega
theorem repeat_ok (v : Int) (n : Nat) (h : n ≤ 4096) : f24 [v] (n : Int) = some (List.replicate n v) := by
 unfold f24
 rw [show decide ((n : Int) < 0) = false by simp]
 simp only [cond_false, f33]
 rw [mul64_ok _ _ (by rw [wu]; omega) (by rw [wu]; omega) (by rw [wu]; omega) (by rw [wu]; omega)]
 simp only [bindF_some, wu, List.length_cons, List.length_nil]
 have e1 : (((0 + 1 : Nat) : Int) % 18446744073709551616 * ((n : Int) % 18446744073709551616)) = n := by
  rw [show (((0 + 1 : Nat) : Int) % 18446744073709551616) = 1 from rfl, Int.one_mul]; omega
 rw [e1, show (n : Int) / 18446744073709551616 = 0 by omega, show (n : Int) % 18446744073709551616 = n by omega]
 have hj : f24_j1 ((0 : Int), (n : Int)) = some () := by
  unfold f24_j1
  simp only
  rw [show decide ((0 : Int) > 0) = false from rfl, show decide ((n : Int) > 9223372036854775807) = false by simp; omega]
  rfl
 rw [hj, wrap_i64 (by omega) (by omega)]
 simp only [bindF_some, Int.toNat_natCast, List.length_replicate]
 rw [guardF_pos (by omega)]
 have e2 : List.take (n - (0 : Int).toNat) [v] = List.replicate (min n 1) v := by
  cases n with
  | zero => rfl
  | succ n => rw [show min (n + 1) 1 = 1 by omega]; simp
 rw [show (0 : Int).toNat = 0 from rfl] at *
 rw [e2]
 have H : ∀ x : Int × List Int, (∃ c : Nat, x = ((c : Int), List.replicate c v ++ List.replicate (n - c) 0) ∧ c ≤ n ∧ (1 ≤ n → 1 ≤ c)) →
   (∃ z, (∀ go, f24_l2 go x.1 x.2 = some z) ∧ z = List.replicate n v) ∨
   (∃ y : Int × List Int, (∀ go, f24_l2 go x.1 x.2 = go y) ∧ (∃ c : Nat, y = ((c : Int), List.replicate c v ++ List.replicate (n - c) 0) ∧ c ≤ n ∧ (1 ≤ n → 1 ≤ c)) ∧ ((n : Int) - y.1).toNat < ((n : Int) - x.1).toNat) := by
  rintro _ ⟨c, rfl, hc, h1⟩
  have hlen : (List.replicate c v ++ List.replicate (n - c) (0 : Int)).length = n := by simp; omega
  by_cases hlt : c < n
  ·right
   have ht : List.take ((n : Int).toNat - (c : Int).toNat) (List.drop (0 : Int).toNat (List.take (c : Int).toNat (List.replicate c v ++ List.replicate (n - c) (0 : Int)))) = List.replicate (min (n - c) c) v := by
    simp only [Int.toNat_natCast, show (0 : Int).toNat = 0 from rfl, List.drop_zero]
    rw [List.take_append_of_le_length (by simp), List.take_replicate, List.take_replicate]
    congr 1; omega
   refine ⟨(((c + min (n - c) c : Nat) : Int), _), fun go => ?_, ⟨c + min (n - c) c, rfl, by omega, by omega⟩, by simp only; omega⟩
   simp only [f24_l2, hlen]
   rw [show decide ((c : Int) < (n : Int)) = true by simpa using hlt]
   simp only [cond_true]
   rw [guardF_pos (by omega), guardF_pos (by omega), ht, List.length_replicate, wrap_i64 (by omega) (by omega), over_rep v n c _ (by omega)]
   rfl
  ·left
   have : c = n := by omega
   subst this
   refine ⟨_, fun go => ?_, rfl⟩
   simp only [f24_l2, hlen]
   rw [show decide ((c : Int) < (c : Int)) = false by simp]
   simp
 have e3 : (((List.replicate (min n 1) v).length : Int), over (List.replicate n (0 : Int)) 0 (List.replicate (min n 1) v)) = (((min n 1 : Nat) : Int), List.replicate (min n 1) v ++ List.replicate (n - min n 1) 0) := by
  have := over_rep v n 0 (min n 1) (by omega)
  simp only [List.replicate_zero, List.nil_append, Nat.sub_zero, Nat.zero_add] at this
  rw [List.length_replicate]
  exact Prod.ext rfl this
 rw [e3]
 obtain ⟨z, e, rfl⟩ := loop_fuel (B := fun go (x : Int × List Int) => f24_l2 go x.1 x.2) _ (fun x => ((n : Int) - x.1).toNat) _ H _ ⟨min n 1, rfl, by omega, by omega⟩ (by simp only; omega)
 rw [e]
 rfl
theorem new_ok (d : List Int) (v : Int) : f23 d v = some (if 0 < prd d then (0, d, List.replicate (prd d).toNat v) else (1, [], [])) := by
 unfold f23
 rw [shapeGood_ok]
 simp only [bindF_some]
 by_cases h : 0 < prd d
 ·have hl := prd_len h
  have hr := prd_range d
  rw [show decide (prd d > 0) = true by simpa using h, if_pos h, clone_d d (by omega), PlB.size_ok]
  simp only [Bool.not_true, cond_false, bindF_some]
  rw [show prd d = (((prd d).toNat : Nat) : Int) by omega, repeat_ok v _ (by omega)]
  simp only [bindF_some, Int.toNat_natCast]
 ·rw [show decide (prd d > 0) = false by simpa using h, if_neg h]
  rfl
end Go.Proofs.PlT
