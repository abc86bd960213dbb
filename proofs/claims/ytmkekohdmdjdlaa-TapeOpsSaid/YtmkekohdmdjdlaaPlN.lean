/- Plain laws, part N: matrices multiplied. -/
import Derived.Test.YtmkekohdmdjdlaaPlM
set_option linter.unusedVariables false
set_option linter.unusedSimpArgs false
set_option maxRecDepth 100000
namespace Go.Proofs.PlN
open Go.AM Go.Proofs.PlB Go.Proofs.PlW Go.Proofs.PlT Go.Proofs.PlM

/-- A row of a matrix. -/
def rowL (L : List Int) (k i : Nat) : List Int := (L.take ((i + 1) * k)).drop (i * k)
theorem rowL_inI {L : List Int} {k i : Nat} (h : inI L) : inI (rowL L k i) := fun x hx => h x (List.mem_of_mem_take (List.mem_of_mem_drop hx))
theorem rowL_len (L : List Int) (k i : Nat) : (rowL L k i).length ≤ k := by
  unfold rowL
  rw [List.length_drop, List.length_take, Nat.add_mul]; omega
theorem flip_inI {n m : Nat} {V : List Int} (h : inI V) : inI ((List.range (m * n)).map (flipV n m V)) := by
  intro x hx
  obtain ⟨q, _, rfl⟩ := List.mem_map.1 hx
  unfold flipV
  by_cases hlt : (q % n) * m + q / n < V.length
  · have : V.getD ((q % n) * m + q / n) 0 = V[(q % n) * m + q / n] := by simp [hlt]
    rw [this]; exact h _ (List.getElem_mem hlt)
  · have : V.getD ((q % n) * m + q / n) 0 = 0 := by simp [List.getElem?_eq_none (Nat.le_of_not_lt hlt)]
    rw [this]; decide

/-- The numbers of a product. -/
def mulV (k c : Nat) (A F : List Int) (q : Nat) : Int := sat (rhe (dotS (rowL A k (q / c)) (rowL F k (q % c))))

theorem mul_ok (n k c : Nat) (A B : List Int) (h1 : Mat n k) (h2 : Mat k c) (hA : A.length = n * k) (hB : B.length = k * c) (iA : inI A) (iB : inI B) :
    f17 ([(n : Int), (k : Int)], A) ([(k : Int), (c : Int)], B) = some (if 0 < prd [(n : Int), (c : Int)] then (0, [(n : Int), (c : Int)], (List.range (n * c)).map (mulV k c A ((List.range (c * k)).map (flipV k c B)))) else (2, [], [])) := by
  have hg1 : tgood ([(n : Int), (k : Int)], A) = true := by
    simp only [tgood, h1.prd, hA]
    have := h1.pos
    simp; omega
  have hg2 : tgood ([(k : Int), (c : Int)], B) = true := by
    simp only [tgood, h2.prd, hB]
    have := h2.pos
    simp; omega
  have hj : f17_j3 ([(n : Int), (k : Int)], A) ([(k : Int), (c : Int)], B) = some (Sum.inl ()) := by
    unfold f17_j3 f17_j4 f17_j5
    simp only [good_ok, hg1, hg2, bindF_some, Bool.not_true, cond_false]
    rw [show f43 ([(n : Int), (k : Int)], A) = some true from rfl, show f43 ([(k : Int), (c : Int)], B) = some true from rfl]
    simp only [bindF_some, Bool.not_true, cond_false, rd0, rd1]
    rw [guardF_pos (by simp), guardF_pos (by simp), show ((k : Int) != (k : Int)) = false by simp]
    rfl
  unfold f17
  rw [hj]
  simp only [bindF_some, sumF_inl, rd0, rd1]
  rw [guardF_pos (by simp), guardF_pos (by simp), guardF_pos (by simp), new_ok]
  by_cases hp : 0 < prd [(n : Int), (c : Int)]
  · rw [if_pos hp, if_pos hp]
    have h3 := Mat.of hp
    simp only [bindF_some]
    rw [show ((0 : Int) != 0) = false from rfl]
    simp only [cond_false]
    rw [flip_ok k c B h2 hB]
    simp only [bindF_some]
    obtain ⟨n1, n2, k1, k2, nk⟩ := h1
    obtain ⟨_, _, c1, c2, kc⟩ := h2
    have nc := h3.p
    generalize hF : (List.range (c * k)).map (flipV k c B) = F
    have lF : F.length = c * k := by rw [← hF]; simp
    have iF : inI F := by rw [← hF]; exact flip_inI iB
    generalize hg : mulV k c A F = g
    have e1 : (prd [(n : Int), (c : Int)]).toNat = n * c := by rw [h3.prd, ← Int.natCast_mul]; rfl
    rw [e1]
    have nk' : ((n * k : Nat) : Int) = (n : Int) * (k : Int) := by simp
    have ck' : ((c * k : Nat) : Int) = (k : Int) * (c : Int) := by rw [Nat.mul_comm]; simp
    have nc' : ((n * c : Nat) : Int) = (n : Int) * (c : Int) := by simp
    have inner : ∀ i : Nat, i < n → loopF (fun go (x : Int × List Int) => f17_l9 ([(n : Int), (k : Int)], A) ([(k : Int), (c : Int)], B) (0, [(c : Int), (k : Int)], F) (i : Int) go x.1 x.2) fuelN ((0 : Int), filled g (i * c) (n * c)) = some (filled g ((i + 1) * c) (n * c)) := by
      intro i hi
      have hic : (i + 1) * c ≤ n * c := Nat.mul_le_mul_right _ hi
      have hik : (i + 1) * k ≤ n * k := Nat.mul_le_mul_right _ hi
      have hick : ((i * k : Nat) : Int) = (i : Int) * (k : Int) := by simp
      have hick1 : (((i + 1) * k : Nat) : Int) = ((i : Int) + 1) * (k : Int) := by simp
      have hic' : ((i * c : Nat) : Int) = (i : Int) * (c : Int) := by simp
      rw [Nat.add_mul, Nat.one_mul] at hic
      have H : ∀ x : Int × List Int, (∃ j : Nat, x = ((j : Int), filled g (i * c + j) (n * c)) ∧ j ≤ c) →
          (∃ z, (∀ go, f17_l9 ([(n : Int), (k : Int)], A) ([(k : Int), (c : Int)], B) (0, [(c : Int), (k : Int)], F) (i : Int) go x.1 x.2 = some z) ∧ z = filled g ((i + 1) * c) (n * c)) ∨
          (∃ y : Int × List Int, (∀ go, f17_l9 ([(n : Int), (k : Int)], A) ([(k : Int), (c : Int)], B) (0, [(c : Int), (k : Int)], F) (i : Int) go x.1 x.2 = go y) ∧ (∃ j : Nat, y = ((j : Int), filled g (i * c + j) (n * c)) ∧ j ≤ c) ∧ ((c : Int) - y.1).toNat < ((c : Int) - x.1).toNat) := by
        rintro _ ⟨j, rfl, hj⟩
        by_cases hlt : j < c
        · right
          have hjk : (j + 1) * k ≤ c * k := Nat.mul_le_mul_right _ hlt
          have hjck : ((j * k : Nat) : Int) = (j : Int) * (k : Int) := by simp
          have hjck1 : (((j + 1) * k : Nat) : Int) = ((j : Int) + 1) * (k : Int) := by simp
          have hj1 : j * k ≤ (j + 1) * k := Nat.mul_le_mul_right _ (by omega)
          have hi1 : i * k ≤ (i + 1) * k := Nat.mul_le_mul_right _ (by omega)
          refine ⟨(((j + 1 : Nat) : Int), _), fun go => ?_, ⟨j + 1, rfl, hlt⟩, by simp only; omega⟩
          simp only [f17_l9]
          rw [rd1 (n : Int) (k : Int), rd1 (k : Int) (c : Int), show decide ((j : Int) < (c : Int)) = true by simpa using hlt]
          simp only [cond_true]
          rw [wrap_i64 (n := (i : Int) + 1) (by omega) (by omega), wrap_i64 (n := (j : Int) + 1) (by omega) (by omega), ← hick, ← hick1, ← hjck, ← hjck1, ← hic']
          rw [wrap_i64 (n := ((i * k : Nat) : Int)) (by omega) (by omega), wrap_i64 (n := (((i + 1) * k : Nat) : Int)) (by omega) (by omega), wrap_i64 (n := ((j * k : Nat) : Int)) (by omega) (by omega), wrap_i64 (n := (((j + 1) * k : Nat) : Int)) (by omega) (by omega),
            wrap_i64 (n := ((i * c : Nat) : Int)) (by omega) (by omega), wrap_i64 (n := ((i * c : Nat) : Int) + (j : Int)) (by omega) (by omega)]
          rw [guardF_pos (by rw [hA]; omega), guardF_pos (by rw [lF]; omega)]
          simp only [Int.toNat_natCast]
          have hdot : f14 (List.drop (i * k) (List.take ((i + 1) * k) A)) (List.drop (j * k) (List.take ((j + 1) * k) F)) = some (g (i * c + j)) := by
            have := dot_ok (rowL A k i) (rowL F k j) (rowL_inI iA) (rowL_inI iF) (.inl (by have := rowL_len A k i; omega))
            rw [← hg]
            unfold mulV
            have q1 : (i * c + j) / c = i := by rw [Nat.mul_comm, Nat.mul_add_div (by omega), Nat.div_eq_of_lt hlt, Nat.add_zero]
            have q2 : (i * c + j) % c = j := by rw [Nat.mul_comm, Nat.mul_add_mod, Nat.mod_eq_of_lt hlt]
            rw [q1, q2]
            exact this
          rw [hdot]
          simp only [bindF_some, filled_len g (i * c + j) (n * c) (by omega)]
          rw [guardF_pos (by omega), show ((i * c : Nat) : Int) + (j : Int) = ((i * c + j : Nat) : Int) by omega, Int.toNat_natCast, filled_set _ _ _ (by omega)]
          rfl
        · left
          have : j = c := by omega
          subst this
          refine ⟨_, fun go => ?_, by rw [Nat.add_mul, Nat.one_mul]⟩
          simp only [f17_l9]
          rw [rd1 (n : Int) (k : Int), rd1 (k : Int) (j : Int), show decide ((j : Int) < (j : Int)) = false by simp]
          rfl
      obtain ⟨z, e, rfl⟩ := loop_fuel (B := fun go (x : Int × List Int) => f17_l9 ([(n : Int), (k : Int)], A) ([(k : Int), (c : Int)], B) (0, [(c : Int), (k : Int)], F) (i : Int) go x.1 x.2) _ (fun x => ((c : Int) - x.1).toNat) _ H
        ((0 : Int), filled g (i * c) (n * c)) ⟨0, rfl, Nat.zero_le _⟩ (by simp only; omega)
      exact e
    have H : ∀ x : Int × List Int, (∃ i : Nat, x = ((i : Int), filled g (i * c) (n * c)) ∧ i ≤ n) →
        (∃ z, (∀ go, f17_l8 ([(n : Int), (k : Int)], A) ([(k : Int), (c : Int)], B) (0, [(c : Int), (k : Int)], F) go x.1 x.2 = some z) ∧ z = (List.range (n * c)).map g) ∨
        (∃ y : Int × List Int, (∀ go, f17_l8 ([(n : Int), (k : Int)], A) ([(k : Int), (c : Int)], B) (0, [(c : Int), (k : Int)], F) go x.1 x.2 = go y) ∧ (∃ i : Nat, y = ((i : Int), filled g (i * c) (n * c)) ∧ i ≤ n) ∧ ((n : Int) - y.1).toNat < ((n : Int) - x.1).toNat) := by
      rintro _ ⟨i, rfl, hi⟩
      by_cases hlt : i < n
      · right
        refine ⟨(((i + 1 : Nat) : Int), _), fun go => ?_, ⟨i + 1, rfl, hlt⟩, by simp only; omega⟩
        simp only [f17_l8]
        rw [rd0, show decide ((i : Int) < (n : Int)) = true by simpa using hlt]
        simp only [cond_true]
        rw [inner i hlt]
        simp only [bindF_some]
        rw [wrap_i64 (by omega) (by omega)]
        rfl
      · left
        have : i = n := by omega
        subst this
        refine ⟨_, fun go => ?_, filled_full _ _⟩
        simp only [f17_l8]
        rw [rd0, show decide ((i : Int) < (i : Int)) = false by simp]
        rfl
    obtain ⟨z, e, rfl⟩ := loop_fuel (B := fun go (x : Int × List Int) => f17_l8 ([(n : Int), (k : Int)], A) ([(k : Int), (c : Int)], B) (0, [(c : Int), (k : Int)], F) go x.1 x.2) _ (fun x => ((n : Int) - x.1).toNat) _ H
      ((0 : Int), List.replicate (n * c) 0) ⟨0, by rw [Nat.zero_mul, filled_zero]; rfl, Nat.zero_le _⟩ (by simp only; omega)
    rw [e]
    rfl
  · rw [if_neg hp, if_neg hp]
    rfl

/-- Whatever is multiplied: a product of matrices that fit, or none. -/
theorem mul_cases (a b : List Int × List Int) : (∃ e, e ≠ 0 ∧ f17 a b = some (e, [], [])) ∨
    ∃ n k c : Nat, ∃ A B : List Int, a = ([(n : Int), (k : Int)], A) ∧ b = ([(k : Int), (c : Int)], B) ∧ Mat n k ∧ Mat k c ∧ A.length = n * k ∧ B.length = k * c := by
  obtain ⟨da, A⟩ := a
  obtain ⟨db, B⟩ := b
  have bad : ∀ e : Int, e ≠ 0 → f17_j3 (da, A) (db, B) = some (Sum.inr e) → (∃ e, e ≠ 0 ∧ f17 (da, A) (db, B) = some (e, [], [])) := fun e he h => ⟨e, he, by
    unfold f17
    rw [h]
    rfl⟩
  cases hg1 : tgood (da, A) with
  | false =>
    left
    refine bad 1 (by decide) ?_
    unfold f17_j3 f17_j4
    simp only [good_ok, hg1, bindF_some, Bool.not_false, cond_true]
  | true =>
    cases hg2 : tgood (db, B) with
    | false =>
      left
      refine bad 1 (by decide) ?_
      unfold f17_j3 f17_j4
      simp only [good_ok, hg1, hg2, bindF_some, Bool.not_true, Bool.not_false, cond_false, cond_true]
    | true =>
      have hj4 : f17_j4 (da, A) (db, B) = some false := by
        unfold f17_j4
        simp only [good_ok, hg1, hg2, bindF_some, Bool.not_true, cond_false]
      by_cases l1 : da.length = 2
      · by_cases l2 : db.length = 2
        · match da, l1, db, l2 with
          | [n, k], _, [k', c], _ =>
            simp only [tgood, Bool.and_eq_true, decide_eq_true_eq, beq_iff_eq] at hg1 hg2
            have m1 := Mat.of hg1.1
            have m2 := Mat.of hg2.1
            by_cases hk : k = k'
            · right
              subst hk
              have en : ((n.toNat : Nat) : Int) = n := Int.toNat_of_nonneg (by have := m1.n1; omega)
              have ek : ((k.toNat : Nat) : Int) = k := Int.toNat_of_nonneg (by have := m1.m1; omega)
              have ec : ((c.toNat : Nat) : Int) = c := Int.toNat_of_nonneg (by have := m2.m1; omega)
              refine ⟨n.toNat, k.toNat, c.toNat, A, B, by rw [en, ek], by rw [ek, ec], by rw [en, ek]; exact m1, by rw [ek, ec]; exact m2, ?_, ?_⟩
              · have := hg1.2
                rw [m1.prd, ← en, ← ek, ← Int.natCast_mul] at this
                exact Int.natCast_inj.1 this
              · have := hg2.2
                rw [m2.prd, ← ek, ← ec, ← Int.natCast_mul] at this
                exact Int.natCast_inj.1 this
            · left
              refine bad 4 (by decide) ?_
              unfold f17_j3
              rw [hj4]
              simp only [bindF_some, cond_false]
              unfold f17_j5
              rw [show f43 ([n, k], A) = some true from rfl, show f43 ([k', c], B) = some true from rfl]
              simp only [bindF_some, Bool.not_true, cond_false, rd0, rd1]
              rw [guardF_pos (by simp), guardF_pos (by simp), show (k != k') = true by simpa using hk]
              rfl
        · left
          refine bad 4 (by decide) ?_
          unfold f17_j3
          rw [hj4]
          simp only [bindF_some, cond_false]
          unfold f17_j5 f43
          simp only [bindF_some]
          rw [show ((da.length : Int) == 2) = true by simp; omega, show ((db.length : Int) == 2) = false by simp; omega]
          rfl
      · left
        refine bad 4 (by decide) ?_
        unfold f17_j3
        rw [hj4]
        simp only [bindF_some, cond_false]
        unfold f17_j5 f43
        simp only [bindF_some]
        rw [show ((da.length : Int) == 2) = false by simp; omega]
        rfl
end Go.Proofs.PlN
