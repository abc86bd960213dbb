
import Derived.Test.YtlgiakkejlbbfaaQSD
set_option linter.unusedVariables false
set_option linter.unusedSimpArgs false
set_option maxRecDepth 100000
namespace Go.Proofs.PlR
open Go.AM Go.Proofs.PlB Go.Proofs.PlW Go.Proofs.PlT Go.Proofs.PlS
abbrev Tn := List Int × List Int
def row (x : List Int) : Tn := ([(x.length : Int)], x)
theorem prd_one (n : Int) (h0 : 1 ≤ n) (h1 : n ≤ 4096) : prd [n] = n := by
 simp only [prd, pgo, List.length_cons, List.length_nil, Int.one_mul]
 rw [if_neg (by omega), if_neg (by omega)]
theorem prd_nil : prd [] = 1 := rfl
theorem row_good (x : List Int) (h0 : 1 ≤ x.length) (h1 : x.length ≤ 4096) : tgood (row x) = true := by
 unfold tgood row
 simp only
 rw [prd_one _ (by omega) (by omega)]
 simp; omega
theorem side_one (n : Int) : side [n] 0 = n := rfl
theorem join_row (n : Int) (h0 : 1 ≤ n) (h1 : n ≤ 4096) : f75 [n] [n] = some (0, [n]) ∧ Joined [n] [n] [n] := by
 have hp : 0 < prd [n] := by rw [prd_one n h0 h1]; omega
 constructor
 ·unfold f75
  have hj : f75_j1 [n] [n] = some (Sum.inl ()) := by
   unfold f75_j1
   rw [shapeGood_ok, show decide (prd [n] > 0) = true by simpa using hp]
   rfl
  rw [hj]
  simp only [bindF_some, sumF_inl]
  rw [guardF_pos (by simp)]
  have s0 : ∀ (go : Int × List Int → Option (Sum Unit (List Int))) (v : Int), f75_l4 [n] [n] go 0 [v] = go (1, [n]) := fun go v => by
   unfold f75_l4
   rw [show decide ((0 : Int) < (List.length (List.replicate (Int.toNat (if (([n] : List Int).length : Int) > (([n] : List Int).length : Int) then (([n] : List Int).length : Int) else (([n] : List Int).length : Int))) (0 : Int)) : Int)) = true from rfl]
   simp only [cond_true]
   have hs := side_ok [n] 0 (by simp) (by decide)
   rw [show ((0 : Nat) : Int) = 0 from rfl, side_one] at hs
   rw [hs]
   simp only [bindF_some]
   have hj5 : f75_j5 n n = some (Sum.inl ()) := by
    unfold f75_j5
    rw [show (n != n) = false by simp]
    rfl
   rw [hj5]
   simp only [bindF_some, sumF_inl]
   rw [guardF_pos (by simp [show IntKind.i64.wrap (0 : Int) = 0 from rfl]), if_neg (Int.lt_irrefl n)]
   rfl
  have s1 : ∀ (go : Int × List Int → Option (Sum Unit (List Int))) (l : List Int), f75_l4 [n] [n] go 1 l = some (Sum.inr l) := fun go l => rfl
  have e : loopF (fun go (x : Int × List Int) => f75_l4 [n] [n] go x.1 x.2) fuelN ((0 : Int), List.replicate (Int.toNat (if (([n] : List Int).length : Int) > (([n] : List Int).length : Int) then (([n] : List Int).length : Int) else (([n] : List Int).length : Int))) (0 : Int)) = some (Sum.inr [n]) := by
   rw [show List.replicate (Int.toNat (if (([n] : List Int).length : Int) > (([n] : List Int).length : Int) then (([n] : List Int).length : Int) else (([n] : List Int).length : Int))) (0 : Int) = [(0 : Int)] from rfl, lf1]
   simp only
   rw [s0, lf2]
   simp only
   rw [s1]
  rw [e]
  simp only [bindF_some, sumF_inr]
  rw [shapeGood_ok, show decide (prd [n] > 0) = true by simpa using hp]
  rfl
 ·exact ⟨hp, hp, hp, rfl, fun k hk => by omega, fun k hk => .inl rfl⟩
theorem sp_row (n : Int) (h0 : 1 ≤ n) (v : Nat) (hv : (v : Int) < n) : spX [n] [n] v = v := by
 unfold spX
 show accS [n] [n] (v : Int) (0 + 1) = v
 simp only [accS, rst, side_one, strd_zero, Int.mul_one, Int.zero_add]
 by_cases h : n > 1
 ·rw [if_pos h, Int.emod_eq_of_lt (by omega) hv]
 ·rw [if_neg h]; omega
theorem sub_row (x y : List Int) (h0 : 1 ≤ x.length) (h1 : x.length ≤ 4096) (hy : y.length = x.length) (ix : inI x) (iy : inI y) :
  f42 (row x) (row y) = some (0, row (tabL x.length (fun i => subV (rd (0 : Int) x i) (rd (0 : Int) y i)))) := by
 obtain ⟨j1, j2⟩ := join_row (x.length : Int) (by omega) (by omega)
 have e : row y = ([(x.length : Int)], y) := by unfold row; rw [hy]
 have gy := row_good y (by omega) (by omega)
 rw [e] at gy ⊢
 rw [sub_of (row x) ([(x.length : Int)], y) [(x.length : Int)] ix iy (row_good x h0 h1) gy j1 j2, prd_one _ (by omega) (by omega), Int.toNat_natCast]
 unfold row
 simp only [tab_len]
 congr 3
 refine tab_ext _ _ _ (fun i hi => ?_)
 rw [sp_row _ (by omega) i (by omega)]
theorem mul_row (x y : List Int) (h0 : 1 ≤ x.length) (h1 : x.length ≤ 4096) (hy : y.length = x.length) (ix : inI x) (iy : inI y) :
  f43 (row x) (row y) = some (0, row (tabL x.length (fun i => mulX (rd (0 : Int) x i) (rd (0 : Int) y i)))) := by
 obtain ⟨j1, j2⟩ := join_row (x.length : Int) (by omega) (by omega)
 have e : row y = ([(x.length : Int)], y) := by unfold row; rw [hy]
 have gy := row_good y (by omega) (by omega)
 rw [e] at gy ⊢
 rw [mul_of (row x) ([(x.length : Int)], y) [(x.length : Int)] ix iy (row_good x h0 h1) gy j1 j2, prd_one _ (by omega) (by omega), Int.toNat_natCast]
 unfold row
 simp only [tab_len]
 congr 3
 refine tab_ext _ _ _ (fun i hi => ?_)
 rw [sp_row _ (by omega) i (by omega)]
theorem sat_range (x : Int) : -9223372036854775808 ≤ sat x ∧ sat x < 9223372036854775808 := by unfold sat; split <;> (try split) <;> omega
theorem tab_inI (n : Nat) (g : Nat → Int) (h : ∀ i, i < n → -9223372036854775808 ≤ g i ∧ g i < 9223372036854775808) : inI (tabL n g) := fun x hx => by
 unfold tabL at hx
 obtain ⟨i, hi, rfl⟩ := List.mem_map.1 hx
 exact h i (List.mem_range.1 hi)
end Go.Proofs.PlR
