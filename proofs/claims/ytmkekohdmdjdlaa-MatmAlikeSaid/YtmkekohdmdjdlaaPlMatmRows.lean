/- Plain laws: MatmRows, MatmFlips. -/
import Derived.Test.YtmkekohdmdjdlaaPlN
set_option linter.unusedVariables false
set_option linter.unusedSimpArgs false
set_option maxRecDepth 100000
namespace Go.Proofs.Matm
open Go.AM Go.Proofs.PlB Go.Proofs.PlW Go.Proofs.PlT Go.Proofs.PlM Go.Proofs.PlN

theorem p13 : f13 = some true := by kernel_rfl

theorem rowL_map (L : List Int) (k i : Nat) (h : (i + 1) * k ≤ L.length) : rowL L k i = (List.range k).map (fun q => L.getD (i * k + q) 0) := by
  unfold rowL
  apply List.ext_getElem
  · rw [List.length_drop, List.length_take, List.length_map, List.length_range, Nat.add_mul]
    rw [Nat.add_mul] at h; omega
  · intro q h1 h2
    rw [List.length_map, List.length_range] at h2
    rw [Nat.add_mul] at h
    simp only [List.getElem_drop, List.getElem_take, List.getElem_map, List.getElem_range]
    simp [List.getElem?_eq_getElem (show i * k + q < L.length by omega)]

theorem flipL_get (n m : Nat) (V : List Int) (q : Nat) (h : q < m * n) : ((List.range (m * n)).map (flipV n m V)).getD q 0 = flipV n m V q := by
  simp [h]

theorem col_map (k c j : Nat) (B : List Int) (hk : 0 < k) (hj : j < c) : rowL ((List.range (c * k)).map (flipV k c B)) k j = (List.range k).map (fun q => B.getD (q * c + j) 0) := by
  have hjk : (j + 1) * k ≤ c * k := Nat.mul_le_mul_right _ hj
  rw [rowL_map _ _ _ (by simpa using hjk)]
  apply List.map_congr_left
  intro q hq
  have hq := List.mem_range.1 hq
  rw [Nat.add_mul, Nat.one_mul] at hjk
  rw [flipL_get _ _ _ _ (by omega)]
  unfold flipV
  have q1 : (j * k + q) / k = j := by rw [Nat.mul_comm, Nat.mul_add_div hk, Nat.div_eq_of_lt hq, Nat.add_zero]
  have q2 : (j * k + q) % k = q := by rw [Nat.mul_comm, Nat.mul_add_mod, Nat.mod_eq_of_lt hq]
  rw [q1, q2]

theorem flip_flip (n k : Nat) (A : List Int) (hk : 0 < k) (hA : A.length = n * k) : (List.range (n * k)).map (flipV k n ((List.range (k * n)).map (flipV n k A))) = A := by
  apply List.ext_getElem
  · simp [hA]
  · intro q h1 h2
    rw [List.length_map, List.length_range] at h1
    simp only [List.getElem_map, List.getElem_range]
    unfold flipV
    have b0 : q % k < k := Nat.mod_lt _ hk
    have b1 : q / k < n := Nat.div_lt_of_lt_mul (by rw [Nat.mul_comm]; exact h1)
    have hlt := flip_at k n q hk h1
    have e : ((List.range (k * n)).map (flipV n k A)).getD (q % k * n + q / k) 0 = flipV n k A (q % k * n + q / k) := flipL_get n k A _ hlt
    have q1 : (q % k * n + q / k) / n = q % k := by rw [Nat.mul_comm, Nat.mul_add_div (Nat.lt_of_le_of_lt (Nat.zero_le _) b1), Nat.div_eq_of_lt b1, Nat.add_zero]
    have q2 : (q % k * n + q / k) % n = q / k := by rw [Nat.mul_comm, Nat.mul_add_mod, Nat.mod_eq_of_lt b1]
    have e2 : flipV n k A (q % k * n + q / k) = A.getD q 0 := by
      unfold flipV
      rw [q1, q2]
      congr 1
      rw [Nat.mul_comm]; exact Nat.div_add_mod q k
    unfold flipV at e e2
    rw [e, e2]
    simp [h2]

theorem great_ok (t : List Int × List Int) (k : Int) : ∃ b, f16 t k = some b ∧ (b = false → t.1.length ≤ 10 ∧ (t.2.length : Int) ≤ k) := by
  unfold f16
  by_cases h : (t.1.length : Int) > 10
  · rw [show decide ((t.1.length : Int) > 10) = true by simpa using h]
    exact ⟨true, rfl, by simp⟩
  · rw [show decide ((t.1.length : Int) > 10) = false by simpa using h]
    refine ⟨_, rfl, fun hb => ⟨by omega, ?_⟩⟩
    simp at hb; exact hb

theorem rows (a b : List Int × List Int) (i j : Int) (ia : inI a.2) (ib : inI b.2) : f6 a b i j = some true := by
  unfold f6
  simp only [p13, bindF_some, Bool.not_true, cond_false]
  have hj1 : f6_j1 a b = some (Sum.inr ()) ∨ f6_j1 a b = some (Sum.inl ()) := by
    unfold f6_j1
    obtain ⟨x, hx, _⟩ := great_ok a 150
    obtain ⟨y, hy, _⟩ := great_ok b 150
    rw [hx, hy]
    cases x <;> cases y <;> simp [bindF_some]
  rcases hj1 with h | h
  · rw [h]; rfl
  · rw [h]
    simp only [bindF_some, sumF_inl]
    rcases mul_cases a b with ⟨e, he, hf⟩ | ⟨n, k, c, A, B, rfl, rfl, h1, h2, hA, hB⟩
    · rw [hf]
      simp only [bindF_some]
      unfold f6_j2
      rw [show (e != 0) = true by simpa using he]
      rfl
    · simp only at ia ib
      rw [mul_ok n k c A B h1 h2 hA hB ia ib]
      simp only [bindF_some]
      by_cases hp : 0 < prd [(n : Int), (c : Int)]
      · rw [if_pos hp]
        have h3 := Mat.of hp
        unfold f6_j2
        simp only
        rw [show ((0 : Int) != 0) = false from rfl]
        simp only [cond_false]
        by_cases ci : i < 0
        · rw [show decide (i < 0) = true by simpa using ci]; rfl
        · rw [show decide (i < 0) = false by simpa using ci]
          simp only [cond_false]
          by_cases cj : j < 0
          · rw [show decide (j < 0) = true by simpa using cj]; rfl
          · rw [show decide (j < 0) = false by simpa using cj]
            simp only [cond_false]
            rw [guardF_pos (by simp)]
            rw [rd0]
            by_cases ci2 : i ≥ (n : Int)
            · rw [show decide (i ≥ (n : Int)) = true by simpa using ci2]; rfl
            · rw [show decide (i ≥ (n : Int)) = false by simpa using ci2]
              simp only [cond_false]
              rw [guardF_pos (by simp)]
              rw [rd1]
              by_cases cj2 : j ≥ (c : Int)
              · rw [show decide (j ≥ (c : Int)) = true by simpa using cj2]; rfl
              · rw [show decide (j ≥ (c : Int)) = false by simpa using cj2]
                simp only [cond_false, bindF_some, sumF_inl]
                rw [guardF_pos (by simp), guardF_pos (by simp)]
                obtain ⟨i, rfl⟩ : ∃ i' : Nat, i = (i' : Int) := ⟨i.toNat, by omega⟩
                obtain ⟨j, rfl⟩ : ∃ j' : Nat, j = (j' : Int) := ⟨j.toNat, by omega⟩
                have hi : i < n := by omega
                have hj : j < c := by omega
                obtain ⟨n1, n2, k1, k2, nk⟩ := h1
                obtain ⟨_, _, c1, c2, kc⟩ := h2
                have nc := h3.p
                have nk' : ((n * k : Nat) : Int) = (n : Int) * (k : Int) := by simp
                have kc' : ((k * c : Nat) : Int) = (k : Int) * (c : Int) := by simp
                have nc' : ((n * c : Nat) : Int) = (n : Int) * (c : Int) := by simp
                have hik : (i + 1) * k ≤ n * k := Nat.mul_le_mul_right _ hi
                have hic : (i + 1) * c ≤ n * c := Nat.mul_le_mul_right _ hi
                have hick : ((i * k : Nat) : Int) = (i : Int) * (k : Int) := by simp
                have hicc : ((i * c : Nat) : Int) = (i : Int) * (c : Int) := by simp
                have hik0 := hik
                rw [Nat.add_mul, Nat.one_mul] at hik hic
                have H : ∀ x : Int × List Int × List Int, (∃ q : Nat, x = ((q : Int), (List.range q).map (fun q => A.getD (i * k + q) 0), (List.range q).map (fun q => B.getD (q * c + j) 0)) ∧ q ≤ k) →
                    (∃ z, (∀ go, f6_l3 ([(n : Int), (k : Int)], A) ([(k : Int), (c : Int)], B) (i : Int) (j : Int) go x.1 x.2.1 x.2.2 = some z) ∧ z = ((List.range k).map (fun q => A.getD (i * k + q) 0), (List.range k).map (fun q => B.getD (q * c + j) 0))) ∨
                    (∃ y : Int × List Int × List Int, (∀ go, f6_l3 ([(n : Int), (k : Int)], A) ([(k : Int), (c : Int)], B) (i : Int) (j : Int) go x.1 x.2.1 x.2.2 = go y) ∧
                      (∃ q : Nat, y = ((q : Int), (List.range q).map (fun q => A.getD (i * k + q) 0), (List.range q).map (fun q => B.getD (q * c + j) 0)) ∧ q ≤ k) ∧ ((k : Int) - y.1).toNat < ((k : Int) - x.1).toNat) := by
                  rintro _ ⟨q, rfl, hq⟩
                  by_cases hlt : q < k
                  · right
                    have hqc : (q + 1) * c ≤ k * c := Nat.mul_le_mul_right _ hlt
                    have hqcc : ((q * c : Nat) : Int) = (q : Int) * (c : Int) := by simp
                    rw [Nat.add_mul, Nat.one_mul] at hqc
                    refine ⟨(((q + 1 : Nat) : Int), _, _), fun go => ?_, ⟨q + 1, rfl, hlt⟩, by simp only; omega⟩
                    simp only [f6_l3]
                    rw [rd1 (n : Int) (k : Int), rd1 (k : Int) (c : Int), show decide ((q : Int) < (k : Int)) = true by simpa using hlt]
                    simp only [cond_true]
                    rw [← hick, ← hqcc, wrap_i64 (n := ((i * k : Nat) : Int)) (by omega) (by omega), wrap_i64 (n := ((q * c : Nat) : Int)) (by omega) (by omega), wrap_i64 (n := ((i * k : Nat) : Int) + (q : Int)) (by omega) (by omega),
                      wrap_i64 (n := ((q * c : Nat) : Int) + (j : Int)) (by omega) (by omega), wrap_i64 (n := (q : Int) + 1) (by omega) (by omega)]
                    rw [guardF_pos (by omega), guardF_pos (by simp; omega), guardF_pos (by omega), guardF_pos (by simp; omega)]
                    have r1 : rd (0 : Int) A (((i * k : Nat) : Int) + (q : Int)) = A.getD (i * k + q) 0 := by
                      rw [show ((i * k : Nat) : Int) + (q : Int) = ((i * k + q : Nat) : Int) by omega]; rfl
                    have r2 : rd (0 : Int) B (((q * c : Nat) : Int) + (j : Int)) = B.getD (q * c + j) 0 := by
                      rw [show ((q * c : Nat) : Int) + (j : Int) = ((q * c + j : Nat) : Int) by omega]; rfl
                    rw [r1, r2]
                    simp only [List.range_succ, List.map_append, List.map_cons, List.map_nil]
                    rfl
                  · left
                    have : q = k := by omega
                    subst this
                    refine ⟨_, fun go => ?_, rfl⟩
                    simp only [f6_l3]
                    rw [rd1 (n : Int) (q : Int), show decide ((q : Int) < (q : Int)) = false by simp]
                    rfl
                obtain ⟨z, e, rfl⟩ := loop_fuel (B := fun go (x : Int × List Int × List Int) => f6_l3 ([(n : Int), (k : Int)], A) ([(k : Int), (c : Int)], B) (i : Int) (j : Int) go x.1 x.2.1 x.2.2) _ (fun x => ((k : Int) - x.1).toNat) _ H
                  ((0 : Int), [], []) ⟨0, rfl, Nat.zero_le _⟩ (by simp only; omega)
                rw [e]
                simp only [bindF_some]
                rw [rd1 (k : Int) (c : Int), ← hicc, wrap_i64 (n := ((i * c : Nat) : Int)) (by omega) (by omega), wrap_i64 (n := ((i * c : Nat) : Int) + (j : Int)) (by omega) (by omega)]
                rw [guardF_pos (by simp; omega), ← rowL_map A k i (by omega), ← col_map k c j B (by omega) hj]
                rw [dot_ok _ _ (rowL_inI ia) (rowL_inI (flip_inI ib)) (.inl (by have := rowL_len A k i; omega))]
                simp only [bindF_some]
                have r3 : rd (0 : Int) ((List.range (n * c)).map (mulV k c A ((List.range (c * k)).map (flipV k c B)))) (((i * c : Nat) : Int) + (j : Int)) = mulV k c A ((List.range (c * k)).map (flipV k c B)) (i * c + j) := by
                  rw [show ((i * c : Nat) : Int) + (j : Int) = ((i * c + j : Nat) : Int) by omega, rd_nat _ _ _ (by simp; omega)]
                  simp
                have q1 : (i * c + j) / c = i := by rw [Nat.mul_comm, Nat.mul_add_div (by omega), Nat.div_eq_of_lt hj, Nat.add_zero]
                have q2 : (i * c + j) % c = j := by rw [Nat.mul_comm, Nat.mul_add_mod, Nat.mod_eq_of_lt hj]
                rw [r3]
                unfold mulV
                rw [q1, q2]
                simp
      · rw [if_neg hp]
        unfold f6_j2
        rfl

theorem flips (a b : List Int × List Int) (ia : inI a.2) (ib : inI b.2) : f4 a b = some true := by
  unfold f4
  simp only [p13, bindF_some, Bool.not_true, cond_false]
  have hj1 : f4_j1 a b = some (Sum.inr ()) ∨ f4_j1 a b = some (Sum.inl ()) := by
    unfold f4_j1
    obtain ⟨x, hx, _⟩ := great_ok a 200
    obtain ⟨y, hy, _⟩ := great_ok b 200
    rw [hx, hy]
    cases x <;> cases y <;> simp [bindF_some]
  rcases hj1 with h | h
  · rw [h]; rfl
  · rw [h]
    simp only [bindF_some, sumF_inl]
    rcases mul_cases a b with ⟨e, he, hf⟩ | ⟨n, k, c, A, B, rfl, rfl, h1, h2, hA, hB⟩
    · rw [hf]
      simp only [bindF_some]
      rw [show (e != 0) = true by simpa using he]
      rfl
    · simp only at ia ib
      rw [mul_ok n k c A B h1 h2 hA hB ia ib]
      simp only [bindF_some]
      by_cases hp : 0 < prd [(n : Int), (c : Int)]
      · rw [if_pos hp]
        have h3 := Mat.of hp
        rw [show ((0 : Int) != 0) = false from rfl]
        simp only [cond_false]
        rw [flip_ok n c _ h3 (by simp), flip_ok n k A h1 hA, flip_ok k c B h2 hB]
        simp only [bindF_some]
        have hp' : 0 < prd [(c : Int), (n : Int)] := by rw [h3.swap.prd]; exact h3.swap.pos
        rw [mul_ok c k n _ _ h2.swap h1.swap (by simp) (by simp) (flip_inI ib) (flip_inI ia), if_pos hp', flip_ok k n _ h1.swap (by simp)]
        simp only [bindF_some]
        have hk : 0 < k := by have := h1.m1; omega
        have hn : 0 < n := by have := h1.n1; omega
        rw [flip_flip n k A hk hA]
        have hc := h3.p
        have hnc : ((n * c : Nat) : Int) = (n : Int) * (c : Int) := by simp
        have heq : (List.range (c * n)).map (flipV n c ((List.range (n * c)).map (mulV k c A ((List.range (c * k)).map (flipV k c B))))) = (List.range (c * n)).map (mulV k n ((List.range (c * k)).map (flipV k c B)) A) := by
          apply List.map_congr_left
          intro t ht
          have ht := List.mem_range.1 ht
          have hlt := flip_at n c t hn ht
          have b0 : t % n < n := Nat.mod_lt _ hn
          have b1 : t / n < c := Nat.div_lt_of_lt_mul (by rw [Nat.mul_comm]; exact ht)
          have q1 : (t % n * c + t / n) / c = t % n := by rw [Nat.mul_comm, Nat.mul_add_div (Nat.lt_of_le_of_lt (Nat.zero_le _) b1), Nat.div_eq_of_lt b1, Nat.add_zero]
          have q2 : (t % n * c + t / n) % c = t / n := by rw [Nat.mul_comm, Nat.mul_add_mod, Nat.mod_eq_of_lt b1]
          have e1 : flipV n c ((List.range (n * c)).map (mulV k c A ((List.range (c * k)).map (flipV k c B)))) t = mulV k c A ((List.range (c * k)).map (flipV k c B)) (t % n * c + t / n) := by
            simp only [flipV]
            simp [hlt]
          rw [e1]
          unfold mulV
          rw [q1, q2, dotS_comm]
        rw [heq]
        simp only [beq_self_eq_true, cond_true]
        have hnk : ((n * k : Nat) : Int) = (n : Int) * (k : Int) := by simp
        have hnkp := h1.p
        have hcn : c * n = n * c := Nat.mul_comm _ _
        rw [alike_ok _ (by simp) (by simp only [List.length_map, List.length_range]; omega)]
        simp only [bindF_some, cond_true]
        rw [alike_ok _ (by simp) (by simp only; omega)]
        rfl
      · rw [if_neg hp]
        rfl
end Go.Proofs.Matm
