
import Derived.Test.YtlgiakkejlbbfaaQA
set_option linter.unusedVariables false
set_option linter.unusedSimpArgs false
set_option maxRecDepth 100000
namespace Go.Proofs.PlB
open Go.AM
theorem clone_d (d : List Int) (h : d.length ≤ 17592186044416) : f27 d = some d := by
 unfold f27 nilF
 cases d with
 | nil => rfl
 | cons x r =>
  simp only
  rw [guardF_pos (by simp at h ⊢; omega)]
  rfl
def pgo : Int → List Int → Int
 | n, [] => n
 | n, x :: r => if x < 1 ∨ x > 4096 ∨ n * x > 4096 then 0 else pgo (n * x) r
def prd (d : List Int) : Int := if d.length > 4 then 0 else pgo 1 d
theorem drop_cons {α : Type} (d : List α) (k : Nat) (h : k < d.length) : d.drop k = d[k] :: d.drop (k + 1) := by
 rw [List.drop_eq_getElem_cons h]
theorem product_ok (d : List Int) : f34 d = some (prd d) := by
 unfold f34 prd
 by_cases h4 : d.length > 4
 ·rw [show decide ((List.length d : Int) > 4) = true by simp; omega, if_pos h4]; rfl
 ·rw [show decide ((List.length d : Int) > 4) = false by simp; omega, if_neg h4]
  simp only [cond_false]
  have H : ∀ x : Int × Int, (∃ k : Nat, x.2 = (k : Int) ∧ k ≤ d.length ∧ 1 ≤ x.1 ∧ x.1 ≤ 4096 ∧ pgo x.1 (d.drop k) = pgo 1 d) →
    (∃ z, (∀ go, f34_l3 d go x.1 x.2 = some z) ∧ ((z = Sum.inl () ∧ pgo 1 d = 0) ∨ z = Sum.inr (pgo 1 d))) ∨
    (∃ y : Int × Int, (∀ go, f34_l3 d go x.1 x.2 = go y) ∧ (∃ k : Nat, y.2 = (k : Int) ∧ k ≤ d.length ∧ 1 ≤ y.1 ∧ y.1 ≤ 4096 ∧ pgo y.1 (d.drop k) = pgo 1 d) ∧ ((d.length : Int) - y.2).toNat < ((d.length : Int) - x.2).toNat) := by
   rintro ⟨n, _⟩ ⟨k, rfl, hk, hn1, hn2, hp⟩
   simp only at hn1 hn2 hp ⊢
   by_cases hlt : k < d.length
   ·rw [drop_cons d k hlt] at hp
    simp only [pgo] at hp
    have hrd : rd (0 : Int) d (k : Int) = d[k] := rd_nat _ _ _ hlt
    by_cases c1 : d[k] < 1
    ·left
     rw [if_pos (.inl c1)] at hp
     refine ⟨Sum.inl (), fun go => ?_, .inl ⟨rfl, hp.symm⟩⟩
     simp only [f34_l3, f34_j4, hrd]
     rw [show decide ((k : Int) < (d.length : Int)) = true by simpa using hlt, show decide (d[k] < (1 : Int)) = true by simpa using c1]
     simp only [cond_true]
     rw [guardF_pos (by omega)]
     rfl
    ·by_cases c2 : d[k] > 4096
     ·left
      rw [if_pos (.inr (.inl c2))] at hp
      refine ⟨Sum.inl (), fun go => ?_, .inl ⟨rfl, hp.symm⟩⟩
      simp only [f34_l3, f34_j4, hrd]
      rw [show decide ((k : Int) < (d.length : Int)) = true by simpa using hlt, show decide (d[k] < (1 : Int)) = false by simpa using c1, show decide (d[k] > (4096 : Int)) = true by simpa using c2]
      simp only [cond_true, cond_false]
      rw [guardF_pos (by omega)]
      rfl
     ·have hb1 : n * d[k] ≤ 4096 * 4096 := Int.mul_le_mul hn2 (by omega) (by omega) (by omega)
      have hb0 : 1 * 1 ≤ n * d[k] := Int.mul_le_mul hn1 (by omega) (by omega) (by omega)
      have hw : IntKind.i64.wrap (n * d[k]) = n * d[k] := wrap_i64 (by omega) (by omega)
      by_cases c3 : n * d[k] > 4096
      ·left
       rw [if_pos (.inr (.inr c3))] at hp
       refine ⟨Sum.inl (), fun go => ?_, .inl ⟨rfl, hp.symm⟩⟩
       simp only [f34_l3, f34_j4, hrd, hw]
       rw [show decide ((k : Int) < (d.length : Int)) = true by simpa using hlt, show decide (d[k] < (1 : Int)) = false by simpa using c1, show decide (d[k] > (4096 : Int)) = false by simpa using c2, show decide (n * d[k] > (4096 : Int)) = true by simpa using c3]
       simp only [cond_true, cond_false]
       rw [guardF_pos (by omega)]
       rfl
      ·right
       rw [if_neg (by omega)] at hp
       refine ⟨(n * d[k], ((k + 1 : Nat) : Int)), fun go => ?_, ⟨k + 1, rfl, hlt, by simp only; omega, by simp only; omega, hp⟩, by simp only; omega⟩
       simp only [f34_l3, f34_j4, hrd, hw]
       rw [show decide ((k : Int) < (d.length : Int)) = true by simpa using hlt, show decide (d[k] < (1 : Int)) = false by simpa using c1, show decide (d[k] > (4096 : Int)) = false by simpa using c2, show decide (n * d[k] > (4096 : Int)) = false by simpa using c3]
       simp only [cond_true, cond_false]
       rw [guardF_pos (by omega), wrap_i64 (by omega) (by omega)]
       rfl
   ·left
    have : k = d.length := by omega
    subst this
    simp only [List.drop_length, pgo] at hp
    refine ⟨Sum.inr n, fun go => ?_, .inr (by rw [hp])⟩
    simp only [f34_l3]
    rw [show decide ((d.length : Int) < (d.length : Int)) = false by simp]
    rfl
  obtain ⟨z, e, hz⟩ := loop_fuel (B := fun go (x : Int × Int) => f34_l3 d go x.1 x.2) _ (fun x => ((d.length : Int) - x.2).toNat) _ H ((1 : Int), (0 : Int)) ⟨0, rfl, Nat.zero_le _, by decide, by decide, rfl⟩ (by simp; omega)
  rw [e]
  simp only [bindF_some]
  rcases hz with ⟨rfl, h0⟩ | rfl
  ·simp only [sumF_inl, h0]
  ·simp only [sumF_inr]
theorem shapeGood_ok (d : List Int) : f25 d = some (decide (prd d > 0)) := by
 unfold f25
 simp only [product_ok, bindF_some]
theorem size_ok (d : List Int) : f26 d = some (prd d) := by
 unfold f26
 simp only [product_ok, bindF_some]
def tgood (t : List Int × List Int) : Bool := decide (prd t.1 > 0) && ((t.2.length : Int) == prd t.1)
theorem good_ok (t : List Int × List Int) : f14 t = some (tgood t) := by
 unfold f14 tgood
 simp only [shapeGood_ok, size_ok, bindF_some]
 cases decide (prd t.1 > 0) <;> rfl
end Go.Proofs.PlB
