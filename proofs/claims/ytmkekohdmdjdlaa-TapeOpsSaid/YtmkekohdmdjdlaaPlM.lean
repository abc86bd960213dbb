/- Plain laws, part M: matrices: turned round, multiplied. -/
import Derived.Test.YtmkekohdmdjdlaaPlT
set_option linter.unusedVariables false
set_option linter.unusedSimpArgs false
set_option maxRecDepth 100000
namespace Go.Proofs.PlM
open Go.AM Go.Proofs.PlB Go.Proofs.PlW Go.Proofs.PlT

/-- A matrix's sides. -/
structure Mat (n m : Int) : Prop where
  n1 : 1 ≤ n
  n2 : n ≤ 4096
  m1 : 1 ≤ m
  m2 : m ≤ 4096
  p : n * m ≤ 4096
theorem Mat.prd {n m : Int} (h : Mat n m) : prd [n, m] = n * m := by
  obtain ⟨h1, h2, h3, h4, h5⟩ := h
  rw [prd_two, if_neg (by omega)]
theorem Mat.pos {n m : Int} (h : Mat n m) : 0 < n * m := Int.mul_pos (by have := h.n1; omega) (by have := h.m1; omega)
theorem Mat.swap {n m : Int} (h : Mat n m) : Mat m n := ⟨h.m1, h.m2, h.n1, h.n2, by rw [Int.mul_comm]; exact h.p⟩
theorem Mat.of {n m : Int} (h : 0 < PlB.prd [n, m]) : Mat n m := by
  rw [prd_two] at h
  split at h
  · omega
  · rename_i h'; exact ⟨by omega, by omega, by omega, by omega, by omega⟩

theorem rd0 (a b : Int) : rd (0 : Int) [a, b] 0 = a := rfl
theorem rd1 (a b : Int) : rd (0 : Int) [a, b] 1 = b := rfl

theorem place_ok (n m q : Int) (h : Mat n m) (q0 : 0 ≤ q) (q1 : q < n * m) : f78 [n, m] q = some (true, [q / m, q % m]) := by
  have hp := h.pos
  obtain ⟨h1, h2, h3, h4, h5⟩ := h
  have hd : q / m < n := Int.ediv_lt_of_lt_mul (by omega) q1
  have hd0 : 0 ≤ q / m := Int.ediv_nonneg q0 (by omega)
  have hm0 : 0 ≤ q % m := Int.emod_nonneg _ (by omega)
  have hm1 : q % m < m := Int.emod_lt_of_pos _ (by omega)
  have hj : f78_j1 [n, m] q = some (Sum.inl ()) := by
    unfold f78_j1
    rw [show decide (q < 0) = false by simp; omega, PlB.size_ok, prd_two, if_neg (by omega)]
    simp only [cond_false, bindF_some]
    rw [show decide (q ≥ n * m) = false by simp; omega]
    rfl
  have s1 : ∀ go, f78_l2 [n, m] go q 1 [0, 0] = go (q / m, 0, [0, q % m]) := fun go => by
    unfold f78_l2
    rw [show decide ((1 : Int) ≥ 0) = true from rfl]
    simp only [cond_true]
    have hr : rd (0 : Int) [n, m] 1 ≠ 0 := by rw [rd1]; omega
    rw [guardF_pos (by simp), guardF_pos hr, guardF_pos (by simp), guardF_pos (by simp), guardF_pos hr, rd1, Int.tdiv_eq_ediv_of_nonneg q0, Int.tmod_eq_emod_of_nonneg q0, wrap_i64 (by omega) (by omega)]
    rfl
  have s2 : ∀ go, f78_l2 [n, m] go (q / m) 0 [0, q % m] = go (IntKind.i64.wrap (q / m / n), -1, [q / m, q % m]) := fun go => by
    unfold f78_l2
    rw [show decide ((0 : Int) ≥ 0) = true from rfl]
    simp only [cond_true]
    have hr : rd (0 : Int) [n, m] 0 ≠ 0 := by rw [rd0]; omega
    rw [guardF_pos (by simp), guardF_pos hr, guardF_pos (by simp), guardF_pos (by simp), guardF_pos hr, rd0, Int.tdiv_eq_ediv_of_nonneg hd0, Int.tmod_eq_emod_of_nonneg hd0, Int.emod_eq_of_lt hd0 hd]
    rfl
  have s3 : ∀ go x l, f78_l2 [n, m] go x (-1) l = some l := fun go x l => by
    unfold f78_l2
    rw [show decide ((-1 : Int) ≥ 0) = false from rfl]
    rfl
  have hloop : loopF (fun go (x : Int × Int × List Int) => f78_l2 [n, m] go x.1 x.2.1 x.2.2) fuelN (q, 1, [0, 0]) = some [q / m, q % m] := by
    rw [lf1]
    simp only
    rw [s1, lf2]
    simp only
    rw [s2, lf3]
    exact s3 _ _ _
  unfold f78
  rw [hj]
  simp only [bindF_some, sumF_inl]
  rw [guardF_pos (by simp)]
  exact (congrArg (fun t => bindF t fun z4 => some (true, z4)) hloop)

theorem at_ok (n m x y : Int) (h : Mat n m) (x0 : 0 ≤ x) (x1 : x < n) (y0 : 0 ≤ y) (y1 : y < m) : f79 [n, m] [x, y] = some (x * m + y, true) ∧ 0 ≤ x * m + y ∧ x * m + y < n * m := by
  have hp := h.pos
  have hpr := h.prd
  obtain ⟨h1, h2, h3, h4, h5⟩ := h
  have hx0 : 0 ≤ x * m := Int.mul_nonneg x0 (by omega)
  have hx1 : (x + 1) * m ≤ n * m := Int.mul_le_mul_of_nonneg_right (by omega) (by omega)
  rw [Int.add_mul, Int.one_mul] at hx1
  refine ⟨?_, by omega, by omega⟩
  have hj : f79_j1 [n, m] [x, y] = some (Sum.inl ()) := by
    unfold f79_j1
    rw [shapeGood_ok, hpr, show decide (n * m > 0) = true by simpa using hp]
    rfl
  have s1 : ∀ go, f79_l4 [n, m] [x, y] go 0 0 = go (x, 1) := fun go => by
    unfold f79_l4
    rw [show decide ((0 : Int) < (List.length [x, y] : Int)) = true from rfl]
    simp only [cond_true]
    rw [guardF_pos (by simp)]
    have hj5 : f79_j5 [n, m] [x, y] 0 = some (Sum.inl ()) := by
      unfold f79_j5
      rw [show decide (rd (0 : Int) [x, y] 0 < 0) = false from decide_eq_false (by rw [rd0]; omega)]
      simp only [cond_false]
      rw [guardF_pos (by simp), show decide (rd (0 : Int) [x, y] 0 ≥ rd (0 : Int) [n, m] 0) = false from decide_eq_false (by rw [rd0, rd0]; omega)]
      rfl
    rw [hj5]
    simp only [bindF_some, sumF_inl]
    rw [guardF_pos (by simp), rd0, rd0, Int.zero_mul, show IntKind.i64.wrap 0 = 0 from rfl, Int.zero_add, wrap_i64 (by omega) (by omega)]
    rfl
  have s2 : ∀ go, f79_l4 [n, m] [x, y] go x 1 = go (x * m + y, 2) := fun go => by
    unfold f79_l4
    rw [show decide ((1 : Int) < (List.length [x, y] : Int)) = true from rfl]
    simp only [cond_true]
    rw [guardF_pos (by simp)]
    have hj5 : f79_j5 [n, m] [x, y] 1 = some (Sum.inl ()) := by
      unfold f79_j5
      rw [show decide (rd (0 : Int) [x, y] 1 < 0) = false from decide_eq_false (by rw [rd1]; omega)]
      simp only [cond_false]
      rw [guardF_pos (by simp), show decide (rd (0 : Int) [x, y] 1 ≥ rd (0 : Int) [n, m] 1) = false from decide_eq_false (by rw [rd1, rd1]; omega)]
      rfl
    rw [hj5]
    simp only [bindF_some, sumF_inl]
    rw [guardF_pos (by simp), rd1, rd1, wrap_i64 (n := x * m) (by omega) (by omega), wrap_i64 (n := x * m + y) (by omega) (by omega)]
    rfl
  have s3 : ∀ go z, f79_l4 [n, m] [x, y] go z 2 = some (Sum.inr z) := fun go z => by
    unfold f79_l4
    rw [show decide ((2 : Int) < (List.length [x, y] : Int)) = false from rfl]
    rfl
  unfold f79
  rw [hj]
  simp only [bindF_some, sumF_inl]
  have hloop : loopF (fun go (z : Int × Int) => f79_l4 [n, m] [x, y] go z.1 z.2) fuelN (0, 0) = some (Sum.inr (x * m + y)) := by
    rw [lf1]
    simp only
    rw [s1, lf2]
    simp only
    rw [s2, lf3]
    exact s3 _ _
  rw [hloop]
  rfl

/-- A matrix's numbers, turned round. -/
def flipV (n m : Nat) (V : List Int) (q : Nat) : Int := V.getD ((q % n) * m + q / n) 0

theorem flip_at (n m q : Nat) (hn : 0 < n) (hq : q < m * n) : (q % n) * m + q / n < n * m := by
  have h1 : q % n < n := Nat.mod_lt _ hn
  have h2 : q / n < m := Nat.div_lt_of_lt_mul (by rw [Nat.mul_comm]; exact hq)
  have : (q % n + 1) * m ≤ n * m := Nat.mul_le_mul_right _ h1
  rw [Nat.add_mul] at this; omega

theorem turn_ok (n m : Nat) (V : List Int) (h : Mat n m) (hV : V.length = n * m) : f45 ([(n : Int), (m : Int)], V) [1, 0] = some (0, [(m : Int), (n : Int)], (List.range (m * n)).map (flipV n m V)) := by
  have hp := h.pos
  have hpr := h.prd
  have hs := h.swap
  obtain ⟨h1, h2, h3, h4, h5⟩ := h
  have hnm : ((n * m : Nat) : Int) = (n : Int) * (m : Int) := by simp
  have hmn : ((m * n : Nat) : Int) = (n : Int) * (m : Int) := by rw [Nat.mul_comm]; simp
  have hg : tgood ([(n : Int), (m : Int)], V) = true := by
    simp only [tgood, hpr, hV, hnm]
    simp; omega
  have hj : f45_j2 ([(n : Int), (m : Int)], V) [1, 0] = some (Sum.inl ()) := by
    unfold f45_j2 f45_j3
    simp only [good_ok, hg, bindF_some, Bool.not_true, cond_false, List.length_cons, List.length_nil]
    rw [show f77 [1, 0] (((0 + 1 + 1 : Nat) : Int)) = some true by kernel_rfl]
    rfl
  unfold f45
  rw [hj]
  simp only [bindF_some, sumF_inl]
  rw [guardF_pos (by simp)]
  have hz : loopF (fun go (x : Int × List Int) => f45_l4 ([(n : Int), (m : Int)], V) [1, 0] go x.1 x.2) fuelN ((0 : Int), List.replicate (Int.toNat (List.length [(1 : Int), 0] : Int)) 0) = some [(m : Int), (n : Int)] := by
    rw [lf1]; rfl
  rw [hz]
  simp only [bindF_some]
  rw [new_ok, hs.prd, if_pos hs.pos]
  simp only [bindF_some]
  have e1 : ((m : Int) * (n : Int)).toNat = m * n := by rw [← Int.natCast_mul]; rfl
  rw [e1]
  have H : ∀ x : Int × List Int, (∃ k : Nat, x = ((k : Int), filled (flipV n m V) k (m * n)) ∧ k ≤ m * n) →
      (∃ z, (∀ go, f45_l7 ([(n : Int), (m : Int)], V) [1, 0] [(m : Int), (n : Int)] (0, [(m : Int), (n : Int)], List.replicate (m * n) 0) go x.1 x.2 = some z) ∧ z = (List.range (m * n)).map (flipV n m V)) ∨
      (∃ y : Int × List Int, (∀ go, f45_l7 ([(n : Int), (m : Int)], V) [1, 0] [(m : Int), (n : Int)] (0, [(m : Int), (n : Int)], List.replicate (m * n) 0) go x.1 x.2 = go y) ∧
        (∃ k : Nat, y = ((k : Int), filled (flipV n m V) k (m * n)) ∧ k ≤ m * n) ∧ (((m * n : Nat) : Int) - y.1).toNat < (((m * n : Nat) : Int) - x.1).toNat) := by
    rintro _ ⟨k, rfl, hk⟩
    by_cases hlt : k < m * n
    · right
      have hfa := flip_at n m k (by omega) hlt
      refine ⟨(((k + 1 : Nat) : Int), _), fun go => ?_, ⟨k + 1, rfl, hlt⟩, by simp only; omega⟩
      simp only [f45_l7, List.length_replicate]
      rw [show decide ((k : Int) < ((m * n : Nat) : Int)) = true by simp only [decide_eq_true_eq]; omega]
      simp only [cond_true]
      rw [place_ok (m : Int) (n : Int) (k : Int) hs (by omega) (by rw [Int.mul_comm, ← hmn]; omega)]
      simp only [bindF_some]
      rw [guardF_pos (by simp)]
      have hin : loopF (fun go (x : Int × List Int) => f45_l8 [1, 0] (true, [(k : Int) / (n : Int), (k : Int) % (n : Int)]) go x.1 x.2) fuelN ((0 : Int), List.replicate (Int.toNat (List.length [(1 : Int), 0] : Int)) 0) = some [(k : Int) % (n : Int), (k : Int) / (n : Int)] := by
        rw [lf1]; rfl
      rw [hin]
      simp only [bindF_some]
      have a0 : (k : Int) % (n : Int) = ((k % n : Nat) : Int) := by simp
      have a1 : (k : Int) / (n : Int) = ((k / n : Nat) : Int) := by simp
      have b0 : k % n < n := Nat.mod_lt _ (by omega)
      have b1 : k / n < m := Nat.div_lt_of_lt_mul (by rw [Nat.mul_comm]; exact hlt)
      rw [a0, a1]
      obtain ⟨g1, g2, g3⟩ := at_ok (n : Int) (m : Int) ((k % n : Nat) : Int) ((k / n : Nat) : Int) ⟨h1, h2, h3, h4, h5⟩ (Int.natCast_nonneg _) (Int.ofNat_lt.2 b0) (Int.natCast_nonneg _) (Int.ofNat_lt.2 b1)
      rw [g1]
      simp only [bindF_some, filled_len _ _ _ hk]
      have e2 : ((k % n : Nat) : Int) * (m : Int) + ((k / n : Nat) : Int) = (((k % n) * m + k / n : Nat) : Int) := by simp
      rw [e2, guardF_pos (by rw [hV]; omega), guardF_pos (by omega), wrap_i64 (by omega) (by omega)]
      have e3 : rd (0 : Int) V (((k % n) * m + k / n : Nat) : Int) = flipV n m V k := rfl
      rw [e3, Int.toNat_natCast, filled_set _ _ _ hlt]
      rfl
    · left
      have : k = m * n := by omega
      subst this
      refine ⟨_, fun go => ?_, filled_full _ _⟩
      simp only [f45_l7, List.length_replicate]
      rw [show decide (((m * n : Nat) : Int) < ((m * n : Nat) : Int)) = false by simp]
      rfl
  obtain ⟨z, e, rfl⟩ := loop_fuel (B := fun go (x : Int × List Int) => f45_l7 ([(n : Int), (m : Int)], V) [1, 0] [(m : Int), (n : Int)] (0, [(m : Int), (n : Int)], List.replicate (m * n) 0) go x.1 x.2) _ (fun x => (((m * n : Nat) : Int) - x.1).toNat) _ H
    ((0 : Int), List.replicate (m * n) 0) ⟨0, by rw [filled_zero]; rfl, Nat.zero_le _⟩ (by simp only; omega)
  rw [e]
  rfl

theorem flip_ok (n m : Nat) (V : List Int) (h : Mat n m) (hV : V.length = n * m) : f18 ([(n : Int), (m : Int)], V) = some (0, [(m : Int), (n : Int)], (List.range (m * n)).map (flipV n m V)) := by
  have hg : tgood ([(n : Int), (m : Int)], V) = true := by
    simp only [tgood, h.prd, hV]
    have := h.pos
    simp; omega
  unfold f18
  simp only [good_ok, hg, bindF_some, Bool.not_true, cond_false]
  rw [show f43 ([(n : Int), (m : Int)], V) = some true from rfl]
  simp only [bindF_some, Bool.not_true, cond_false, turn_ok n m V h hV]
end Go.Proofs.PlM
