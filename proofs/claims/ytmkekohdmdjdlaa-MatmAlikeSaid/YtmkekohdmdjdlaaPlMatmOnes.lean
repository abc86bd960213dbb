/- Plain law: MatmOnes. -/
import Derived.Test.YtmkekohdmdjdlaaPlMatmRows
set_option linter.unusedVariables false
set_option linter.unusedSimpArgs false
set_option maxRecDepth 100000
namespace Go.Proofs.Matm
open Go.AM Go.Proofs.PlB Go.Proofs.PlW Go.Proofs.PlT Go.Proofs.PlM Go.Proofs.PlN

theorem pgo_pos : ∀ (d : List Int) (n : Int), 1 ≤ n → pgo n d = 0 ∨ 1 ≤ pgo n d
  | [], n, h => .inr h
  | x :: r, n, h => by
    simp only [pgo]
    split
    · exact .inl rfl
    · rename_i hx
      have : 1 * 1 ≤ n * x := Int.mul_le_mul h (by omega) (by omega) (by omega)
      exact pgo_pos r _ (by omega)

theorem refGood_ok (d : List Int) : f47 d = some (decide (0 < prd d)) := by
  unfold f47
  by_cases h4 : d.length > 4
  · have : prd d = 0 := by unfold prd; rw [if_pos h4]
    rw [show decide ((List.length d : Int) > 4) = true by simp; omega, this]; rfl
  · have hprd : prd d = pgo 1 d := by unfold prd; rw [if_neg h4]
    rw [show decide ((List.length d : Int) > 4) = false by simp; omega, hprd]
    simp only [cond_false]
    have H : ∀ x : Int × Int, (∃ k : Nat, x.2 = (k : Int) ∧ k ≤ d.length ∧ 1 ≤ x.1 ∧ x.1 ≤ 4096 ∧ pgo x.1 (d.drop k) = pgo 1 d) →
        (∃ z, (∀ go, f47_l3 d go x.1 x.2 = some z) ∧ ((z = Sum.inl () ∧ pgo 1 d = 0) ∨ (z = Sum.inr () ∧ 0 < pgo 1 d))) ∨
        (∃ y : Int × Int, (∀ go, f47_l3 d go x.1 x.2 = go y) ∧ (∃ k : Nat, y.2 = (k : Int) ∧ k ≤ d.length ∧ 1 ≤ y.1 ∧ y.1 ≤ 4096 ∧ pgo y.1 (d.drop k) = pgo 1 d) ∧ ((d.length : Int) - y.2).toNat < ((d.length : Int) - x.2).toNat) := by
      rintro ⟨n, _⟩ ⟨k, rfl, hk, hn1, hn2, hp⟩
      simp only at hn1 hn2 hp ⊢
      by_cases hlt : k < d.length
      · rw [PlB.drop_cons d k hlt] at hp
        simp only [pgo] at hp
        have hrd : rd (0 : Int) d (k : Int) = d[k] := rd_nat _ _ _ hlt
        by_cases c1 : d[k] < 1
        · left
          rw [if_pos (.inl c1)] at hp
          refine ⟨Sum.inl (), fun go => ?_, .inl ⟨rfl, hp.symm⟩⟩
          simp only [f47_l3, f47_j4, hrd]
          rw [show decide ((k : Int) < (d.length : Int)) = true by simpa using hlt, show decide (d[k] < (1 : Int)) = true by simpa using c1]
          simp only [cond_true]
          rw [guardF_pos (by omega)]
          rfl
        · by_cases c2 : d[k] > 4096
          · left
            rw [if_pos (.inr (.inl c2))] at hp
            refine ⟨Sum.inl (), fun go => ?_, .inl ⟨rfl, hp.symm⟩⟩
            simp only [f47_l3, f47_j4, hrd]
            rw [show decide ((k : Int) < (d.length : Int)) = true by simpa using hlt, show decide (d[k] < (1 : Int)) = false by simpa using c1, show decide (d[k] > (4096 : Int)) = true by simpa using c2]
            simp only [cond_true, cond_false]
            rw [guardF_pos (by omega), guardF_pos (by omega)]
            rfl
          · have hb1 : n * d[k] ≤ 4096 * 4096 := Int.mul_le_mul hn2 (by omega) (by omega) (by omega)
            have hb0 : 1 * 1 ≤ n * d[k] := Int.mul_le_mul hn1 (by omega) (by omega) (by omega)
            have hw : IntKind.i64.wrap (n * d[k]) = n * d[k] := wrap_i64 (by omega) (by omega)
            by_cases c3 : n * d[k] > 4096
            · left
              rw [if_pos (.inr (.inr c3))] at hp
              refine ⟨Sum.inl (), fun go => ?_, .inl ⟨rfl, hp.symm⟩⟩
              simp only [f47_l3, f47_j4, hrd, hw]
              rw [show decide ((k : Int) < (d.length : Int)) = true by simpa using hlt, show decide (d[k] < (1 : Int)) = false by simpa using c1, show decide (d[k] > (4096 : Int)) = false by simpa using c2, show decide (n * d[k] > (4096 : Int)) = true by simpa using c3]
              simp only [cond_true, cond_false]
              rw [guardF_pos (by omega), guardF_pos (by omega)]
              rfl
            · right
              rw [if_neg (by omega)] at hp
              refine ⟨(n * d[k], ((k + 1 : Nat) : Int)), fun go => ?_, ⟨k + 1, rfl, hlt, by simp only; omega, by simp only; omega, hp⟩, by simp only; omega⟩
              simp only [f47_l3, f47_j4, hrd, hw]
              rw [show decide ((k : Int) < (d.length : Int)) = true by simpa using hlt, show decide (d[k] < (1 : Int)) = false by simpa using c1, show decide (d[k] > (4096 : Int)) = false by simpa using c2, show decide (n * d[k] > (4096 : Int)) = false by simpa using c3]
              simp only [cond_true, cond_false]
              rw [guardF_pos (by omega), guardF_pos (by omega)]
              simp only [bindF_some, sumF_inl]
              rw [guardF_pos (by omega), wrap_i64 (by omega) (by omega)]
              rfl
      · left
        have : k = d.length := by omega
        subst this
        simp only [List.drop_length, pgo] at hp
        refine ⟨Sum.inr (), fun go => ?_, .inr ⟨rfl, by omega⟩⟩
        simp only [f47_l3]
        rw [show decide ((d.length : Int) < (d.length : Int)) = false by simp]
        rfl
    obtain ⟨z, e, hz⟩ := loop_fuel (B := fun go (x : Int × Int) => f47_l3 d go x.1 x.2) _ (fun x => ((d.length : Int) - x.2).toNat) _ H ((1 : Int), (0 : Int)) ⟨0, rfl, Nat.zero_le _, by decide, by decide, rfl⟩ (by simp; omega)
    rw [e]
    simp only [bindF_some]
    rcases hz with ⟨rfl, h0⟩ | ⟨rfl, h0⟩
    · simp only [sumF_inl, h0]; rfl
    · simp only [sumF_inr, h0]; rfl

/-- The sizes, multiplied, where they are a shape. -/
theorem refSize_ok (d : List Int) : f48 d = some (prd d) := by
  unfold f48
  rw [refGood_ok]
  simp only [bindF_some]
  by_cases h : 0 < prd d
  · rw [show decide (0 < prd d) = true by simpa using h]
    simp only [Bool.not_true, cond_false]
    have hl := prd_len h
    have hprd : prd d = pgo 1 d := by unfold prd; rw [if_neg (by omega)]
    rw [hprd] at h ⊢
    have H : ∀ x : Int × Int, (∃ k : Nat, x.2 = (k : Int) ∧ k ≤ d.length ∧ 1 ≤ x.1 ∧ x.1 ≤ 4096 ∧ pgo x.1 (d.drop k) = pgo 1 d) →
        (∃ z, (∀ go, f48_l1 d go x.1 x.2 = some z) ∧ z = pgo 1 d) ∨
        (∃ y : Int × Int, (∀ go, f48_l1 d go x.1 x.2 = go y) ∧ (∃ k : Nat, y.2 = (k : Int) ∧ k ≤ d.length ∧ 1 ≤ y.1 ∧ y.1 ≤ 4096 ∧ pgo y.1 (d.drop k) = pgo 1 d) ∧ ((d.length : Int) - y.2).toNat < ((d.length : Int) - x.2).toNat) := by
      rintro ⟨n, _⟩ ⟨k, rfl, hk, hn1, hn2, hp⟩
      simp only at hn1 hn2 hp ⊢
      by_cases hlt : k < d.length
      · right
        rw [PlB.drop_cons d k hlt] at hp
        simp only [pgo] at hp
        have hrd : rd (0 : Int) d (k : Int) = d[k] := rd_nat _ _ _ hlt
        by_cases c : d[k] < 1 ∨ d[k] > 4096 ∨ n * d[k] > 4096
        · rw [if_pos c] at hp; omega
        · rw [if_neg c] at hp
          have hb0 : 1 * 1 ≤ n * d[k] := Int.mul_le_mul hn1 (by omega) (by omega) (by omega)
          refine ⟨(n * d[k], ((k + 1 : Nat) : Int)), fun go => ?_, ⟨k + 1, rfl, hlt, by simp only; omega, by simp only; omega, hp⟩, by simp only; omega⟩
          simp only [f48_l1, hrd]
          rw [show decide ((k : Int) < (d.length : Int)) = true by simpa using hlt]
          simp only [cond_true]
          rw [guardF_pos (by omega), wrap_i64 (by omega) (by omega), wrap_i64 (by omega) (by omega)]
          rfl
      · left
        have : k = d.length := by omega
        subst this
        simp only [List.drop_length, pgo] at hp
        refine ⟨_, fun go => ?_, hp⟩
        simp only [f48_l1]
        rw [show decide ((d.length : Int) < (d.length : Int)) = false by simp]
        rfl
    obtain ⟨z, e, rfl⟩ := loop_fuel (B := fun go (x : Int × Int) => f48_l1 d go x.1 x.2) _ (fun x => ((d.length : Int) - x.2).toNat) _ H ((1 : Int), (0 : Int)) ⟨0, rfl, Nat.zero_le _, by decide, by decide, rfl⟩ (by simp; omega)
    rw [e]
    rfl
  · rw [show decide (0 < prd d) = false by simpa using h]
    have := prd_range d
    rw [show prd d = 0 by omega]
    rfl

theorem refIs_ok (t : List Int × List Int) : f20 t = some (tgood t) := by
  unfold f20 tgood
  simp only [refGood_ok, refSize_ok, bindF_some]
  by_cases h : 0 < prd t.1
  · rw [show decide (0 < prd t.1) = true by simpa using h]; rfl
  · rw [show decide (0 < prd t.1) = false by simpa using h]; rfl

theorem refNew_ok (d : List Int) (v : Int) (hl : d.length ≤ 1000) : f21 d v = some (d, List.replicate (prd d).toNat v) := by
  have hr := prd_range d
  unfold f21
  rw [guardF_pos (by simp; omega), refSize_ok]
  simp only [bindF_some]
  rw [guardF_pos (by omega)]
  generalize hn : (prd d).toNat = n
  have H : ∀ x : Int × List Int, (∃ k : Nat, x = ((k : Int), List.replicate k v ++ List.replicate (n - k) 0) ∧ k ≤ n) →
      (∃ z, (∀ go, f21_l1 v go x.1 x.2 = some z) ∧ z = List.replicate n v) ∨
      (∃ y : Int × List Int, (∀ go, f21_l1 v go x.1 x.2 = go y) ∧ (∃ k : Nat, y = ((k : Int), List.replicate k v ++ List.replicate (n - k) 0) ∧ k ≤ n) ∧ ((n : Int) - y.1).toNat < ((n : Int) - x.1).toNat) := by
    rintro _ ⟨k, rfl, hk⟩
    have hlen : (List.replicate k v ++ List.replicate (n - k) (0 : Int)).length = n := by simp; omega
    by_cases hlt : k < n
    · right
      refine ⟨(((k + 1 : Nat) : Int), _), fun go => ?_, ⟨k + 1, rfl, hlt⟩, by simp only; omega⟩
      simp only [f21_l1, hlen]
      rw [show decide ((k : Int) < (n : Int)) = true by simpa using hlt]
      simp only [cond_true]
      rw [guardF_pos (by omega), wrap_i64 (by omega) (by omega), Int.toNat_natCast]
      have : (List.replicate k v ++ List.replicate (n - k) (0 : Int)).set k v = List.replicate (k + 1) v ++ List.replicate (n - (k + 1)) 0 := by
        rw [show n - k = (n - (k + 1)) + 1 by omega, List.replicate_succ, List.set_append_right _ _ (by simp)]
        simp [List.replicate_succ']
      rw [this]
      rfl
    · left
      have : k = n := by omega
      subst this
      refine ⟨_, fun go => ?_, rfl⟩
      simp only [f21_l1, hlen]
      rw [show decide ((k : Int) < (k : Int)) = false by simp]
      simp
  obtain ⟨z, e, rfl⟩ := loop_fuel (B := fun go (x : Int × List Int) => f21_l1 v go x.1 x.2) _ (fun x => ((n : Int) - x.1).toNat) _ H ((0 : Int), List.replicate n 0) ⟨0, by simp, Nat.zero_le _⟩ (by simp only; omega)
  rw [e]
  rfl

/-- One, down the middle, as far as row i. -/
def unitV (m i q : Nat) : Int := if q / m = q % m ∧ q / m < i then 4294967296 else 0

theorem dot_unit (W : Int) : ∀ (L : List Int) (j s : Nat), dotS L ((List.range L.length).map (fun q => if q + s = j then W else 0)) = if s ≤ j ∧ j < s + L.length then L.getD (j - s) 0 * W else 0
  | [], j, s => by
    rw [if_neg (by simp)]
    rfl
  | x :: r, j, s => by
    have ih := dot_unit W r j (s + 1)
    rw [List.length_cons, List.range_succ_eq_map, List.map_cons, List.map_map]
    have e : ((fun q => if q + s = j then W else 0) ∘ Nat.succ) = fun q => if q + (s + 1) = j then W else 0 := by
      funext q
      simp only [Function.comp]
      congr 1
      rw [show q.succ + s = q + (s + 1) by omega]
    rw [e]
    simp only [dotS, ih, Nat.zero_add]
    by_cases h : s = j
    · subst h
      rw [if_pos rfl, if_neg (by omega), if_pos (by omega), Nat.sub_self]
      simp
    · rw [if_neg h]
      by_cases h2 : s ≤ j ∧ j < s + (r.length + 1)
      · rw [if_pos h2, if_pos (by omega), show j - s = (j - (s + 1)) + 1 by omega]
        simp
      · rw [if_neg h2, if_neg (by omega)]
        simp

theorem rhe_one (x : Int) : rhe (x * 4294967296) = x := by
  unfold rhe
  rw [if_neg (by omega)]
  omega

theorem ones (a : List Int × List Int) (ia : inI a.2) : f5 a = some true := by
  unfold f5
  simp only [p13, bindF_some, Bool.not_true, cond_false]
  have hj : f5_j1 a = some (Sum.inr ()) ∨ (f5_j1 a = some (Sum.inl ()) ∧ a.1.length = 2 ∧ tgood a = true ∧ rd (0 : Int) a.1 1 ≤ 40) := by
    unfold f5_j1
    obtain ⟨x, hx, _⟩ := great_ok a 200
    have ha : (a.1, a.2) = a := rfl
    rw [ha, hx]
    simp only [bindF_some]
    cases x with
    | true => left; rfl
    | false =>
      simp only [cond_false]
      by_cases h2 : a.1.length = 2
      · rw [show ((a.1.length : Int) != 2) = false by simp; omega, refIs_ok]
        simp only [cond_false, bindF_some]
        cases hg : tgood a with
        | false => left; rfl
        | true =>
          simp only [Bool.not_true, cond_false]
          rw [guardF_pos (by omega)]
          by_cases h40 : rd (0 : Int) a.1 1 > 40
          · rw [show decide (rd (0 : Int) a.1 1 > 40) = true by simpa using h40]; left; rfl
          · rw [show decide (rd (0 : Int) a.1 1 > 40) = false by simpa using h40]
            exact .inr ⟨rfl, h2, trivial, by omega⟩
      · rw [show ((a.1.length : Int) != 2) = true by simp; omega]; left; rfl
  rcases hj with h | ⟨h, h2, hg, h40⟩
  · rw [h]; rfl
  · rw [h]
    simp only [bindF_some, sumF_inl]
    obtain ⟨da, A⟩ := a
    match da, h2 with
    | [n, m], _ =>
      simp only [rd1] at h40 ⊢
      simp only at ia
      simp only [tgood, Bool.and_eq_true, decide_eq_true_eq, beq_iff_eq] at hg
      have m1 := Mat.of hg.1
      obtain ⟨n, rfl⟩ : ∃ n' : Nat, n = (n' : Int) := ⟨n.toNat, by have := m1.n1; omega⟩
      obtain ⟨m, rfl⟩ : ∃ m' : Nat, m = (m' : Int) := ⟨m.toNat, by have := m1.m1; omega⟩
      have hA : A.length = n * m := by
        have := hg.2
        rw [m1.prd, ← Int.natCast_mul] at this
        exact Int.natCast_inj.1 this
      have hm0 : 0 < m := by have := m1.m1; omega
      have hmm : (m : Int) * (m : Int) ≤ 40 * 40 := Int.mul_le_mul h40 h40 (by omega) (by omega)
      have m2 : Mat (m : Int) (m : Int) := ⟨m1.m1, m1.m2, m1.m1, m1.m2, by omega⟩
      rw [guardF_pos (by simp), refNew_ok _ _ (by simp)]
      simp only [bindF_some]
      have e1 : (prd [(m : Int), (m : Int)]).toNat = m * m := by rw [m2.prd, ← Int.natCast_mul]; rfl
      rw [e1]
      have mm' : ((m * m : Nat) : Int) = (m : Int) * (m : Int) := by simp
      have H : ∀ x : Int × List Int, (∃ i : Nat, x = ((i : Int), (List.range (m * m)).map (unitV m i)) ∧ i ≤ m) →
          (∃ z, (∀ go, f5_l2 ([(n : Int), (m : Int)], A) go x.1 x.2 = some z) ∧ z = (List.range (m * m)).map (unitV m m)) ∨
          (∃ y : Int × List Int, (∀ go, f5_l2 ([(n : Int), (m : Int)], A) go x.1 x.2 = go y) ∧ (∃ i : Nat, y = ((i : Int), (List.range (m * m)).map (unitV m i)) ∧ i ≤ m) ∧ ((m : Int) - y.1).toNat < ((m : Int) - x.1).toNat) := by
        rintro _ ⟨i, rfl, hi⟩
        by_cases hlt : i < m
        · right
          have him : (i + 1) * m ≤ m * m := Nat.mul_le_mul_right _ hlt
          have him' : ((i * m : Nat) : Int) = (i : Int) * (m : Int) := by simp
          rw [Nat.add_mul, Nat.one_mul] at him
          refine ⟨(((i + 1 : Nat) : Int), _), fun go => ?_, ⟨i + 1, rfl, hlt⟩, by simp only; omega⟩
          simp only [f5_l2]
          rw [rd1 (n : Int) (m : Int), show decide ((i : Int) < (m : Int)) = true by simpa using hlt]
          simp only [cond_true]
          rw [← him', wrap_i64 (n := ((i * m : Nat) : Int)) (by omega) (by omega), wrap_i64 (n := ((i * m : Nat) : Int) + (i : Int)) (by omega) (by omega), wrap_i64 (by omega) (by omega)]
          rw [guardF_pos (by simp; omega), show ((i * m : Nat) : Int) + (i : Int) = ((i * m + i : Nat) : Int) by omega, Int.toNat_natCast]
          have q1 : (i * m + i) / m = i := by rw [Nat.mul_comm, Nat.mul_add_div hm0, Nat.div_eq_of_lt hlt, Nat.add_zero]
          have q2 : (i * m + i) % m = i := by rw [Nat.mul_comm, Nat.mul_add_mod, Nat.mod_eq_of_lt hlt]
          have hset : ((List.range (m * m)).map (unitV m i)).set (i * m + i) 4294967296 = (List.range (m * m)).map (unitV m (i + 1)) := by
            apply List.ext_getElem
            · simp
            · intro q g1 g2
              simp only [List.length_map, List.length_range] at g2
              rw [List.getElem_set]
              simp only [List.getElem_map, List.getElem_range]
              by_cases hq : i * m + i = q
              · rw [if_pos hq]
                subst hq
                unfold unitV
                rw [q1, q2, if_pos (by omega)]
              · rw [if_neg hq]
                unfold unitV
                by_cases hd : q / m = q % m
                · have : q / m ≠ i := fun e => hq (by
                    have := Nat.div_add_mod q m
                    rw [← hd, e, Nat.mul_comm] at this
                    omega)
                  by_cases hd2 : q / m < i
                  · rw [if_pos ⟨hd, hd2⟩, if_pos ⟨hd, by omega⟩]
                  · rw [if_neg (fun h => hd2 h.2), if_neg (fun h => by omega)]
                · rw [if_neg (fun h => hd h.1), if_neg (fun h => hd h.1)]
          rw [hset]
          rfl
        · left
          have : i = m := by omega
          subst this
          refine ⟨_, fun go => ?_, rfl⟩
          simp only [f5_l2]
          rw [rd1 (n : Int) (i : Int), show decide ((i : Int) < (i : Int)) = false by simp]
          rfl
      obtain ⟨z, e, rfl⟩ := loop_fuel (B := fun go (x : Int × List Int) => f5_l2 ([(n : Int), (m : Int)], A) go x.1 x.2) _ (fun x => ((m : Int) - x.1).toNat) _ H ((0 : Int), List.replicate (m * m) 0)
        ⟨0, by
          congr 1
          apply List.ext_getElem
          · simp
          · intro q g1 g2
            simp [unitV], Nat.zero_le _⟩ (by simp only; omega)
      rw [e]
      simp only [bindF_some]
      have iE : inI ((List.range (m * m)).map (unitV m m)) := by
        intro x hx
        obtain ⟨q, _, rfl⟩ := List.mem_map.1 hx
        unfold unitV
        split <;> decide
      rw [mul_ok n m m A _ m1 m2 hA (by simp) ia iE, if_pos (by rw [m1.prd]; exact m1.pos)]
      simp only [bindF_some]
      have hEq : (List.range (n * m)).map (mulV m m A ((List.range (m * m)).map (flipV m m ((List.range (m * m)).map (unitV m m))))) = A := by
        apply List.ext_getElem
        · simp [hA]
        · intro q g1 g2
          rw [List.length_map, List.length_range] at g1
          simp only [List.getElem_map, List.getElem_range]
          unfold mulV
          have b0 : q % m < m := Nat.mod_lt _ hm0
          have b1 : q / m < n := Nat.div_lt_of_lt_mul (by rw [Nat.mul_comm]; exact g1)
          have hq1 : (q / m + 1) * m ≤ n * m := Nat.mul_le_mul_right _ b1
          rw [col_map m m (q % m) _ hm0 b0]
          have hrl : (rowL A m (q / m)).length = m := by
            rw [rowL_map _ _ _ (by omega)]; simp
          have hcol : (List.range m).map (fun p => ((List.range (m * m)).map (unitV m m)).getD (p * m + q % m) 0) = (List.range (rowL A m (q / m)).length).map (fun p => if p + 0 = q % m then (4294967296 : Int) else 0) := by
            rw [hrl]
            apply List.map_congr_left
            intro p hp
            have hp := List.mem_range.1 hp
            have hpm : (p + 1) * m ≤ m * m := Nat.mul_le_mul_right _ hp
            rw [Nat.add_mul, Nat.one_mul] at hpm
            have hlt : p * m + q % m < m * m := by omega
            have : ((List.range (m * m)).map (unitV m m)).getD (p * m + q % m) 0 = unitV m m (p * m + q % m) := by simp [hlt]
            rw [this]
            unfold unitV
            have q1 : (p * m + q % m) / m = p := by rw [Nat.mul_comm, Nat.mul_add_div hm0, Nat.div_eq_of_lt b0, Nat.add_zero]
            have q2 : (p * m + q % m) % m = q % m := by rw [Nat.mul_comm, Nat.mul_add_mod, Nat.mod_mod]
            rw [q1, q2, Nat.add_zero]
            by_cases hpq : p = q % m
            · rw [if_pos ⟨hpq, hp⟩, if_pos hpq]
            · rw [if_neg (fun h => hpq h.1), if_neg hpq]
          rw [hcol, dot_unit, if_pos (by rw [hrl]; omega), Nat.sub_zero, rhe_one, rowL_map _ _ _ (by omega)]
          have hval : ((List.range m).map (fun p => A.getD (q / m * m + p) 0)).getD (q % m) 0 = A[q] := by
            have : q / m * m + q % m = q := by rw [Nat.mul_comm]; exact Nat.div_add_mod q m
            simp [b0, this, g2]
          rw [hval]
          have hx := ia A[q] (List.getElem_mem g2)
          unfold sat
          rw [if_neg (by omega), if_neg (by omega)]
      rw [hEq]
      rw [show ((0 : Int) == 0) = true from rfl]
      simp only [cond_true]
      have hp := m1.p
      have hnm : ((n * m : Nat) : Int) = (n : Int) * (m : Int) := by simp
      rw [alike_ok _ (by simp) (by simp only; omega)]
      rfl
end Go.Proofs.Matm
