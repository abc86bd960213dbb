/- Plain law: TapeFull. -/
import Derived.Test.YtmkekohdmdjdlaaPlA
set_option linter.unusedVariables false
set_option linter.unusedSimpArgs false
set_option maxRecDepth 100000
namespace Go.Proofs.TapeFull
open Go.AM
abbrev Nd := Int × Int × Int × Int × (List Int) × (List Int)
def leafN (v : Int) : Nd := (1, -1, -1, 0, [1], [v])
def tapeN (k : Nat) : List Nd := (List.range k).map (fun (j : Nat) => leafN (Int.ofNat j))
theorem tapeN_len (k : Nat) : (tapeN k).length = k := by simp [tapeN]
theorem tapeN_succ (k : Nat) : tapeN k ++ [leafN (k : Int)] = tapeN (k + 1) := by simp [tapeN, List.range_succ]

theorem p26 : f26 = some true := by kernel_rfl
theorem f74_1 : f74 [1] = some true := by kernel_rfl
theorem f49_1 : f49 [1] = some 1 := by kernel_rfl
theorem f75_1 : f75 [1] = some [1] := by kernel_rfl
theorem f87_1 (v : Int) : f87 [v] = some [v] := by
  unfold f87 nilF
  rw [guardF_pos (by simp)]; rfl
theorem f57_1 (v : Int) : f57 ([1], [v]) = some ([1], [v]) := by
  unfold f57
  simp only [f75_1, f87_1, bindF_some]
theorem f42_1 (v : Int) : f42 ([1], [v]) = some true := by
  unfold f42
  simp only [f74_1, f49_1, bindF_some, cond_true]
  rfl

theorem leaf_ok (l : List Nd) (v : Int) (h : l.length < 512) : f28 l ([1], [v]) = some ((l.length : Int), 0, l ++ [leafN v]) := by
  unfold f28
  have h1 : decide ((List.length l : Int) ≥ (512 : Int)) = false := by simp; omega
  rw [h1]
  simp only [cond_false, f42_1, bindF_some, Bool.not_true, f57_1]
  unfold f56
  rw [guardF_pos (by simp; omega)]
  simp only [bindF_some, leafN, List.length_append, List.length_cons, List.length_nil]
  rw [wrap_i64 (by omega) (by omega)]
  simp
theorem leaf_full (l : List Nd) (v : Int) (h : ¬ l.length < 512) : f28 l ([1], [v]) = some (0, 2, l) := by
  unfold f28
  have h1 : decide ((List.length l : Int) ≥ (512 : Int)) = true := by simp; omega
  rw [h1]
  rfl

theorem loop_ok (n : Int) (h0 : 0 ≤ n) (h1 : n ≤ 600) : loopF (fun go (x : Int × List Nd) => f10_l2 n go x.1 x.2) fuelN ((0 : Int), []) = some (Sum.inr (tapeN (min n.toNat 512))) := by
  have H : ∀ x : Int × List Nd, (∃ i : Nat, x = ((i : Int), tapeN (min i 512)) ∧ (i : Int) ≤ n) → (∃ z, (∀ go, f10_l2 n go x.1 x.2 = some z) ∧ z = Sum.inr (tapeN (min n.toNat 512))) ∨
      (∃ y : Int × List Nd, (∀ go, f10_l2 n go x.1 x.2 = go y) ∧ (∃ i : Nat, y = ((i : Int), tapeN (min i 512)) ∧ (i : Int) ≤ n) ∧ (n - y.1).toNat < (n - x.1).toNat) := fun x hx => by
    obtain ⟨i, rfl, hi⟩ := hx
    by_cases hlt : (i : Int) < n
    · right
      refine ⟨(((i + 1 : Nat) : Int), tapeN (min (i + 1) 512)), fun go => ?_, ⟨i + 1, rfl, by omega⟩, by simp only; omega⟩
      simp only [f10_l2]
      rw [show decide ((i : Int) < n) = true by simpa using hlt]
      simp only [cond_true, f30, bindF_some, List.length_cons, List.length_nil, Nat.zero_add, Int.natCast_one]
      have hw : IntKind.i64.wrap ((i : Int) + 1) = ((i + 1 : Nat) : Int) := by rw [wrap_i64 (by omega) (by omega)]; omega
      by_cases h5 : i < 512
      · rw [show min i 512 = i by omega, show min (i + 1) 512 = i + 1 by omega]
        rw [leaf_ok _ _ (by rw [tapeN_len]; exact h5)]
        simp only [bindF_some]
        rw [show decide ((i : Int) < 512) = true by simp; omega]
        simp only [hw, tapeN_succ]
        rfl
      · rw [show min i 512 = 512 by omega, show min (i + 1) 512 = 512 by omega]
        rw [leaf_full _ _ (by rw [tapeN_len]; omega)]
        simp only [bindF_some]
        rw [show decide ((i : Int) < 512) = false by simp; omega]
        simp only [hw]
        rfl
    · left
      have : i = n.toNat := by omega
      subst this
      refine ⟨_, fun go => ?_, rfl⟩
      simp only [f10_l2]
      rw [show decide (((n.toNat : Nat) : Int) < n) = false by simp; omega]
      rfl
  obtain ⟨z, e, rfl⟩ := loop_fuel (B := fun go (x : Int × List Nd) => f10_l2 n go x.1 x.2) _ (fun x => (n - x.1).toNat) _ H ((0 : Int), []) ⟨0, rfl, h0⟩ (by simp; omega)
  exact e

theorem value_ok (m : Nat) (h : m ≤ 512) (h0 : 0 < m) : f32 (tapeN m) (((m : Int)) - 1) = some (true, [1], [(m : Int) - 1], tapeN m) := by
  unfold f32 f31 f58
  rw [show decide (((m : Int) - 1) ≥ 0) = true by simp; omega]
  simp only [cond_true, bindF_some, tapeN_len]
  rw [show decide (((m : Int) - 1) < (m : Int)) = true by simp; omega]
  simp only [Bool.not_true, cond_false]
  rw [guardF_pos (by omega)]
  have hr : ∀ z, rd z (tapeN m) ((m : Int) - 1) = leafN ((m : Int) - 1) := fun z => by
    rw [show ((m : Int) - 1) = ((m - 1 : Nat) : Int) by omega, rd_nat _ _ _ (by rw [tapeN_len]; omega)]
    simp [tapeN]
  simp only [hr, leafN, f57_1, bindF_some]

theorem plain (n : Int) : f10 n = some true := by
  unfold f10
  simp only [p26, bindF_some, Bool.not_true, cond_false]
  unfold f10_j1
  by_cases h0 : n < 0
  · rw [show decide (n < 0) = true by simpa using h0]; rfl
  · rw [show decide (n < 0) = false by simpa using h0]
    by_cases h1 : n > 600
    · rw [show decide (n > 600) = true by simpa using h1]; rfl
    · rw [show decide (n > 600) = false by simp; omega]
      simp only [cond_false, bindF_some, sumF_inl, f27]
      rw [loop_ok n (by omega) (by omega)]
      simp only [bindF_some, sumF_inr]
      have hj : f10_j3 n (tapeN (min n.toNat 512)) = some (Sum.inl (((min n.toNat 512 : Nat) : Int), tapeN (min n.toNat 512))) := by
        unfold f10_j3
        by_cases h2 : n > 512
        · rw [show decide (n > 512) = true by simpa using h2, show min n.toNat 512 = 512 by omega]
          have hd : f29 (tapeN 512) 2 0 0 0 = some (0, 2, tapeN 512) := by
            unfold f29 f29_j1
            rw [show decide ((List.length (tapeN 512) : Int) ≥ (512 : Int)) = true by rw [tapeN_len]; rfl]
            rfl
          simp only [cond_true, hd, bindF_some]
          rfl
        · rw [show decide (n > 512) = false by simp; omega, show min n.toNat 512 = n.toNat by omega]
          simp only [cond_false]
          rw [show ((n.toNat : Nat) : Int) = n by omega]
      rw [hj]
      simp only [bindF_some, sumF_inl]
      generalize hm : min n.toNat 512 = m
      have hm5 : m ≤ 512 := by omega
      rw [wrap_i64 (by omega) (by omega)]
      by_cases hz : m = 0
      · subst hz
        have : f32 (tapeN 0) (((0 : Nat) : Int) - 1) = some (false, [], [], tapeN 0) := by kernel_rfl
        rw [this]
        simp only [bindF_some, f33, tapeN_len]
        rfl
      · rw [value_ok m hm5 (by omega)]
        simp only [bindF_some, f33, tapeN_len]
        rw [show ((m : Int) == (m : Int)) = true by simp, show ((m : Int) == 0) = false by simp; omega]
        simp only [cond_true, cond_false]
        rw [guardF_pos (by simp)]
        simp [rd]
end Go.Proofs.TapeFull
