/- Plain law: MatmAlike. -/
import Derived.Test.YtmkekohdmdjdlaaPlMatmAlikeB
set_option linter.unusedVariables false
set_option linter.unusedSimpArgs false
set_option maxRecDepth 100000
namespace Go.Proofs.Alike
open Go.AM Go.Proofs.PlB Go.Proofs.PlW Go.Proofs.PlT Go.Proofs.Matm

theorem magn (V : Int) (hv : far V) : f83 (pair V) = some (if V < 0 then -V / 18446744073709551616 else V / 18446744073709551616, if V < 0 then -V % 18446744073709551616 else V % 18446744073709551616, decide (V < 0)) := by
  have hv' := hv
  obtain ⟨v0, v1⟩ := hv
  unfold f83
  by_cases h : V < 0
  · rw [show decide ((pair V).1 < 0) = true from decide_eq_true (by simp only [pair]; omega), if_pos h, if_pos h, show decide (V < 0) = true by simpa using h]
    simp only [cond_true]
    rw [show ((pair V).1, (pair V).2) = pair V from rfl, neg_w V hv']
    simp only [bindF_some, pair, wu]
    rw [show -V / 18446744073709551616 % 18446744073709551616 = -V / 18446744073709551616 by omega]
  · rw [show decide ((pair V).1 < 0) = false from decide_eq_false (by simp only [pair]; omega), if_neg h, if_neg h, show decide (V < 0) = false by simpa using h]
    simp only [cond_false, pair, wu]
    rw [show V / 18446744073709551616 % 18446744073709551616 = V / 18446744073709551616 by omega]

theorem over_ok (v : Int) (n : Nat) (n0 : 1 ≤ n) (n1 : n ≤ 200) (h0 : -9223372036854775808 ≤ v) (h1 : v < 9223372036854775808) : f55 (pair (n * v)) n = some v := by
  obtain ⟨m, hm, m0, m1, hs⟩ : ∃ m : Int, m = (if v < 0 then -v else v) ∧ 0 ≤ m ∧ m ≤ 9223372036854775808 ∧ (v < 0 → 0 < m) := ⟨_, rfl, by split <;> omega, by split <;> omega, fun h => by rw [if_pos h]; omega⟩
  have N1 : (n : Int) * m ≤ n * 9223372036854775808 := Int.mul_le_mul_of_nonneg_left m1 (by omega)
  have N0 : 0 ≤ (n : Int) * m := Int.mul_nonneg (by omega) m0
  have hV : (n : Int) * v = if v < 0 then -((n : Int) * m) else (n : Int) * m := by
    rw [hm]
    split
    · rw [Int.mul_neg, Int.neg_neg]
    · rfl
  have hneg : decide ((n : Int) * v < 0) = decide (v < 0) := by
    rw [decide_eq_decide, hV]
    split
    · rename_i hv
      have : 0 < (n : Int) * m := Int.mul_pos (by omega) (hs hv)
      omega
    · omega
  have hfar : far ((n : Int) * v) := by
    unfold far; rw [hV]; split <;> omega
  have hmag : f83 (pair ((n : Int) * v)) = some ((n : Int) * m / 18446744073709551616, (n : Int) * m % 18446744073709551616, decide (v < 0)) := by
    rw [magn _ hfar, hneg]
    by_cases hv : v < 0
    · have : (n : Int) * v < 0 := by
        have := hneg
        rw [show decide (v < 0) = true by simpa using hv] at this
        simpa using this
      rw [if_pos this, if_pos this, hV, if_pos hv, Int.neg_neg]
    · have : ¬ (n : Int) * v < 0 := by
        have := hneg
        rw [show decide (v < 0) = false by simpa using hv] at this
        simpa using this
      rw [if_neg this, if_neg this, hV, if_neg hv]
  unfold f55
  rw [show ((n : Int) == 0) = false by simp; omega]
  simp only [cond_false]
  rw [show ((pair ((n : Int) * v)).1, (pair ((n : Int) * v)).2) = pair ((n : Int) * v) from rfl, hmag]
  simp only [bindF_some]
  rw [size_ok n (by omega) (by omega), if_neg (by omega)]
  simp only [bindF_some]
  have hlt : (n : Int) * m / 18446744073709551616 < n := by omega
  rw [guardF_pos (by omega), guardF_pos (by omega), Int.tmod_eq_emod_of_nonneg (by omega), Int.emod_eq_of_lt (by omega) hlt]
  rw [div_ok _ _ n (by omega) hlt (by omega) (by omega) n0 n1]
  rw [show (n : Int) * m / 18446744073709551616 * 18446744073709551616 + (n : Int) * m % 18446744073709551616 = (n : Int) * m by omega]
  rw [Int.mul_ediv_cancel_left _ (by omega), Int.mul_emod_right]
  simp only [bindF_some]
  have hj3 : f55_j3 (n : Int) (m, 0) = some false := by
    unfold f55_j3
    simp only
    rw [wu, show ((n : Int) - 0) % 18446744073709551616 = n by omega, show decide ((0 : Int) > (n : Int)) = false by simp, show ((0 : Int) == (n : Int)) = false by simp; omega]
    rfl
  unfold f55_j2
  rw [hj3]
  simp only [bindF_some, cond_false]
  rw [Int.tdiv_eq_ediv_of_nonneg (by omega), Int.ediv_eq_zero_of_lt (by omega) hlt]
  rw [show IntKind.u64.wrap (0 : Int) = 0 from rfl, show IntKind.i64.wrap (if (9223372036854775807 : Int) < 0 then (9223372036854775807 : Int) else 0) = 0 from rfl]
  rw [show decide ((n : Int) < 0) = false by simp]
  have hp : ((0 : Int), m) = pair m := by unfold pair; congr 1 <;> omega
  by_cases hv : v < 0
  · rw [show decide (v < 0) = true by simpa using hv]
    simp only [beq_self_eq_true, Bool.true_eq_false, Bool.not_false, cond_true, show (true == false) = false from rfl]
    rw [hp, neg_w m (by unfold far; omega)]
    simp only [bindF_some]
    rw [show ((pair (-m)).1, (pair (-m)).2) = pair (-m) from rfl, fix_ok _ (by unfold far; omega)]
    simp only [bindF_some, Option.some.injEq]
    rw [hm, if_pos hv]
    unfold sat
    rw [if_neg (by omega), if_neg (by omega), Int.neg_neg]
  · rw [show decide (v < 0) = false by simpa using hv]
    simp only [show (false == false) = true from rfl, Bool.not_true, cond_false]
    rw [hp, fix_ok _ (by unfold far; omega)]
    simp only [bindF_some, Option.some.injEq]
    rw [hm, if_neg hv]
    unfold sat
    rw [if_neg (by omega), if_neg (by omega)]

theorem mean_ok (v : Int) (n : Nat) (n0 : 1 ≤ n) (n1 : n ≤ 200) (h0 : -9223372036854775808 ≤ v) (h1 : v < 9223372036854775808) (d : List Int) (hg : tgood (d, List.replicate n v) = true) : f25 (d, List.replicate n v) = some (v, 0) := by
  unfold f25
  rw [good_ok, hg]
  simp only [bindF_some, Bool.not_true, cond_false, List.length_replicate]
  rw [total_rep v n (by omega) h0 h1]
  simp only [bindF_some]
  rw [show ((pair ((n : Int) * v)).1, (pair ((n : Int) * v)).2) = pair ((n : Int) * v) from rfl, over_ok v n n0 n1 h0 h1]
  rfl

theorem rep_set {α : Type} (a b : α) (k n : Nat) (h : k < n) : (List.replicate k a ++ List.replicate (n - k) b).set k a = List.replicate (k + 1) a ++ List.replicate (n - (k + 1)) b := by
  rw [show n - k = (n - (k + 1)) + 1 by omega, List.replicate_succ (n := n - (k + 1)), List.set_append_right _ _ (by simp)]
  simp [List.replicate_succ']
theorem prd_one (n : Int) (h0 : 1 ≤ n) (h1 : n ≤ 4096) : prd [n] = n := by
  simp only [prd, pgo, List.length_cons, List.length_nil, Int.one_mul]
  rw [if_neg (by omega), if_neg (by omega)]
theorem prd_1n (n : Int) (h0 : 1 ≤ n) (h1 : n ≤ 4096) : prd [1, n] = n := by
  rw [prd_two, Int.one_mul, if_neg (by omega)]
theorem strides_ok (n : Int) (h0 : 1 ≤ n) (h1 : n ≤ 4096) : f50 [1, n] = some [n, 1] := by
  unfold f50
  rw [shapeGood_ok, prd_1n n h0 h1, show decide (n > 0) = true by simp; omega]
  simp only [bindF_some, Bool.not_true, cond_false]
  rw [guardF_pos (by simp)]
  have s1 : ∀ (go : Int × Int × List Int → Option (List Int)) (a b : Int), f50_l1 [1, n] go 1 1 [a, b] = go (n, 0, [a, 1]) := fun go a b => by
    unfold f50_l1
    rw [show decide ((1 : Int) ≥ 0) = true from rfl]
    simp only [cond_true]
    rw [guardF_pos (by simp), guardF_pos (by simp), show rd (0 : Int) [1, n] 1 = n from rfl, Int.one_mul, wrap_i64 (by omega) (by omega)]
    rfl
  have s0 : ∀ (go : Int × Int × List Int → Option (List Int)) (a b : Int), f50_l1 [1, n] go n 0 [a, b] = go (n, -1, [n, b]) := fun go a b => by
    unfold f50_l1
    rw [show decide ((0 : Int) ≥ 0) = true from rfl]
    simp only [cond_true]
    rw [guardF_pos (by simp), guardF_pos (by simp), show rd (0 : Int) [1, n] 0 = 1 from rfl, Int.mul_one, wrap_i64 (by omega) (by omega)]
    rfl
  have e : loopF (fun go (x : Int × Int × List Int) => f50_l1 [1, n] go x.1 x.2.1 x.2.2) fuelN ((1 : Int), (1 : Int), [(0 : Int), 0]) = some [n, 1] := by
    rw [lf1]
    simp only
    rw [s1, lf2]
    simp only
    rw [s0, lf3]
    rfl
  rw [show ((1 : Int), IntKind.i64.wrap ((([1, n] : List Int).length : Int) - 1), List.replicate (Int.toNat (([1, n] : List Int).length : Int)) (0 : Int)) = ((1 : Int), (1 : Int), [(0 : Int), 0]) from rfl, e]
  rfl

theorem sum_ok (v : Int) (n : Nat) (n0 : 1 ≤ n) (n1 : n ≤ 200) (h0 : -9223372036854775808 ≤ v) (h1 : v < 9223372036854775808) : f23 ([1, (n : Int)], List.replicate n v) 0 = some (0, [(n : Int)], List.replicate n v) := by
  have hg : tgood ([1, (n : Int)], List.replicate n v) = true := by
    unfold tgood
    simp only
    rw [prd_1n _ (by omega) (by omega)]
    simp; omega
  unfold f23
  have hj3 : f23_j3 ([1, (n : Int)], List.replicate n v) 0 = some false := by
    unfold f23_j3
    rw [good_ok, hg]
    rfl
  unfold f23_j2
  rw [hj3]
  simp only [bindF_some, cond_false, sumF_inl]
  have e1 : IntKind.i64.wrap ((0 : Int) + 1) = 1 := rfl
  have t1 : (([] : List Int) ++ List.take (Int.toNat 0) [1, (n : Int)]) = [] := rfl
  have t2 : List.take (Int.toNat 0) [1, (n : Int)] = [] := rfl
  have t3 : List.drop (Int.toNat 1) [1, (n : Int)] = [(n : Int)] := rfl
  rw [e1, t1, t2, t3, guardF_pos (by simp), guardF_pos (by simp), guardF_pos (by simp), guardF_pos (by simp)]
  rw [show ([] : List Int) ++ [(n : Int)] = [(n : Int)] from rfl, PlB.size_ok, prd_one _ (by omega) (by omega)]
  simp only [bindF_some]
  rw [guardF_pos (by omega), strides_ok _ (by omega) (by omega)]
  simp only [bindF_some]
  rw [guardF_pos (by simp)]
  have z0 : (Ty.z (.p (.int .i64) (.int .u64)) : Int × Int) = pair 0 := rfl
  have H : ∀ x : Int × List (Int × Int), (∃ k : Nat, k ≤ n ∧ x = ((k : Int), List.replicate k (pair v) ++ List.replicate (n - k) (pair 0))) →
      (∃ z, (∀ go, f23_l4 ([1, (n : Int)], List.replicate n v) 0 [(n : Int), 1] go x.1 x.2 = some z) ∧ z = List.replicate n (pair v)) ∨
      (∃ y : Int × List (Int × Int), (∀ go, f23_l4 ([1, (n : Int)], List.replicate n v) 0 [(n : Int), 1] go x.1 x.2 = go y) ∧ (∃ k : Nat, k ≤ n ∧ y = ((k : Int), List.replicate k (pair v) ++ List.replicate (n - k) (pair 0))) ∧ ((n : Int) - y.1).toNat < ((n : Int) - x.1).toNat) := by
    rintro _ ⟨k, hk, rfl⟩
    by_cases h : k < n
    · right
      refine ⟨(((k + 1 : Nat) : Int), List.replicate (k + 1) (pair v) ++ List.replicate (n - (k + 1)) (pair 0)), fun go => ?_, ⟨k + 1, h, rfl⟩, by simp only; omega⟩
      unfold f23_l4
      simp only [List.length_replicate]
      rw [show decide ((k : Int) < (n : Int)) = true by simpa using h]
      simp only [cond_true]
      have ix : IntKind.i64.wrap (IntKind.i64.wrap (IntKind.i64.wrap (Int.tdiv (k : Int) (IntKind.i64.wrap ((n : Int) * 1))) * (n : Int)) + Int.tmod (k : Int) (n : Int)) = (k : Int) := by
        rw [Int.mul_one, wrap_i64 (n := (n : Int)) (by omega) (by omega), Int.tdiv_eq_ediv_of_nonneg (by omega), Int.ediv_eq_zero_of_lt (by omega) (by omega), show IntKind.i64.wrap (0 : Int) = 0 from rfl, Int.zero_mul, show IntKind.i64.wrap (0 : Int) = 0 from rfl, Int.zero_add, Int.tmod_eq_emod_of_nonneg (by omega), Int.emod_eq_of_lt (by omega) (by omega), wrap_i64 (by omega) (by omega)]
      have r7 : rd (0 : Int) [(n : Int), 1] 0 = n := rfl
      have ra : rd (0 : Int) [1, (n : Int)] 0 = 1 := rfl
      rw [r7, ra, ix]
      have hlen : (List.replicate k (pair v) ++ List.replicate (n - k) (pair 0)).length = n := by simp; omega
      rw [guardF_pos (by omega), guardF_pos (by simp), guardF_pos (by rw [Int.mul_one, wrap_i64 (by omega) (by omega)]; omega), guardF_pos (by omega), guardF_pos (by rw [hlen]; omega)]
      rw [rd_nat (0 : Int) _ _ (by simpa using h), List.getElem_replicate, of_ok v h0 h1]
      simp only [bindF_some]
      rw [rd_nat _ _ _ (by rw [hlen]; exact h), List.getElem_append_right (by simp), List.getElem_replicate]
      rw [show ((pair v).1, (pair v).2) = pair v from rfl, show ((pair 0).1, (pair 0).2) = pair 0 from rfl, add_w 0 v (by unfold far; omega) (by unfold far; omega) (by unfold far; omega), Int.zero_add]
      simp only [bindF_some]
      rw [guardF_pos (by rw [hlen]; omega), wrap_i64 (by omega) (by omega), show ((pair v).1, (pair v).2) = pair v from rfl, Int.toNat_natCast, rep_set _ _ _ _ h]
      rfl
    · left
      have : k = n := by omega
      subst this
      refine ⟨_, fun go => ?_, rfl⟩
      unfold f23_l4
      simp only [List.length_replicate]
      rw [show decide ((k : Int) < (k : Int)) = false by simp]
      simp
  obtain ⟨z, e, rfl⟩ := loop_fuel (B := fun go (x : Int × List (Int × Int)) => f23_l4 ([1, (n : Int)], List.replicate n v) 0 [(n : Int), 1] go x.1 x.2) _ (fun x => ((n : Int) - x.1).toNat) _ H
    ((0 : Int), List.replicate (Int.toNat (n : Int)) (Ty.z (.p (.int .i64) (.int .u64)))) ⟨0, Nat.zero_le _, by rw [z0]; simp⟩ (by simp; omega)
  rw [e]
  simp only [bindF_some]
  rw [new_ok, prd_one _ (by omega) (by omega), if_pos (by omega)]
  simp only [bindF_some, Int.toNat_natCast]
  have H2 : ∀ x : Int × List Int, (∃ k : Nat, k ≤ n ∧ x = ((k : Int), List.replicate k v ++ List.replicate (n - k) 0)) →
      (∃ z, (∀ go, f23_l5 (List.replicate n (pair v)) go x.1 x.2 = some z) ∧ z = List.replicate n v) ∨
      (∃ y : Int × List Int, (∀ go, f23_l5 (List.replicate n (pair v)) go x.1 x.2 = go y) ∧ (∃ k : Nat, k ≤ n ∧ y = ((k : Int), List.replicate k v ++ List.replicate (n - k) 0)) ∧ ((n : Int) - y.1).toNat < ((n : Int) - x.1).toNat) := by
    rintro _ ⟨k, hk, rfl⟩
    by_cases h : k < n
    · right
      refine ⟨(((k + 1 : Nat) : Int), List.replicate (k + 1) v ++ List.replicate (n - (k + 1)) 0), fun go => ?_, ⟨k + 1, h, rfl⟩, by simp only; omega⟩
      unfold f23_l5
      simp only [List.length_replicate]
      rw [show decide ((k : Int) < (n : Int)) = true by simpa using h]
      simp only [cond_true]
      have hlen : (List.replicate k v ++ List.replicate (n - k) (0 : Int)).length = n := by simp; omega
      rw [guardF_pos (by omega), rd_nat _ _ _ (by simpa using h), List.getElem_replicate, show ((pair v).1, (pair v).2) = pair v from rfl, fix_ok v (by unfold far; omega)]
      simp only [bindF_some]
      rw [guardF_pos (by rw [hlen]; omega), wrap_i64 (by omega) (by omega), Int.toNat_natCast]
      have hsat : sat v = v := by unfold sat; rw [if_neg (by omega), if_neg (by omega)]
      rw [hsat, rep_set _ _ _ _ h]
      rfl
    · left
      have : k = n := by omega
      subst this
      refine ⟨_, fun go => ?_, rfl⟩
      unfold f23_l5
      simp only [List.length_replicate]
      rw [show decide ((k : Int) < (k : Int)) = false by simp]
      simp
  obtain ⟨z, e2, rfl⟩ := loop_fuel (B := fun go (x : Int × List Int) => f23_l5 (List.replicate n (pair v)) go x.1 x.2) _ (fun x => ((n : Int) - x.1).toNat) _ H2
    ((0 : Int), List.replicate n 0) ⟨0, Nat.zero_le _, by simp⟩ (by simp; omega)
  rw [e2]
  rfl

/-- The law. -/
theorem alike (v n : Int) (h0 : -9223372036854775808 ≤ v) (h1 : v < 9223372036854775808) : f8 v n = some true := by
  unfold f8
  rw [show f13 = some true by kernel_rfl]
  simp only [bindF_some, Bool.not_true, cond_false]
  by_cases hn : n < 1 ∨ n > 200
  · have hj : f8_j1 n = some (Sum.inr ()) := by
      unfold f8_j1
      by_cases h : n < 1
      · rw [show decide (n < 1) = true by simpa using h]; rfl
      · rw [show decide (n < 1) = false by simpa using h, show decide (n > 200) = true by simp; omega]; rfl
    rw [hj]
    rfl
  · have hj : f8_j1 n = some (Sum.inl ()) := by
      unfold f8_j1
      rw [show decide (n < 1) = false by simp; omega, show decide (n > 200) = false by simp; omega]; rfl
    rw [hj]
    simp only [bindF_some, sumF_inl]
    obtain ⟨m, rfl⟩ := Int.eq_ofNat_of_zero_le (show 0 ≤ n by omega)
    have m0 : 1 ≤ m := by omega
    have m1 : m ≤ 200 := by omega
    have hsat : sat v = v := by unfold sat; rw [if_neg (by omega), if_neg (by omega)]
    rw [refNew_ok _ _ (by simp), prd_one _ (by omega) (by omega), refNew_ok _ _ (by simp), prd_one 1 (by omega) (by omega), refNew_ok _ _ (by simp), prd_1n _ (by omega) (by omega)]
    simp only [bindF_some, Int.toNat_natCast]
    have g1 : tgood ([(m : Int)], List.replicate m v) = true := by
      unfold tgood
      simp only
      rw [prd_one _ (by omega) (by omega)]
      simp; omega
    have g2 : tgood ([(1 : Int)], List.replicate 1 v) = true := by
      unfold tgood
      simp only
      rw [prd_one _ (by omega) (by omega)]
      simp
    rw [mean_ok v m m0 m1 h0 h1 _ g1]
    simp only [bindF_some]
    rw [show Int.toNat 1 = 1 from rfl, all_ok _ v 1 g2 (by decide) h0 h1]
    simp only [bindF_some]
    rw [sum_ok v m m0 m1 h0 h1]
    simp only [bindF_some]
    rw [show ((0 : Int) == 0) = true from rfl, show (v == v) = true by simp, show sat (((1 : Nat) : Int) * v) = v by rw [Int.natCast_one, Int.one_mul, hsat], show (v == v) = true by simp]
    simp only [cond_true]
    rw [alike_ok _ (by simp) (by simp; omega)]
    rfl
end Go.Proofs.Alike
