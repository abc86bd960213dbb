
import Derived.Test.YtlgiakkejlbbfaaQSC
set_option linter.unusedVariables false
set_option linter.unusedSimpArgs false
set_option maxRecDepth 100000
namespace Go.Proofs.PlS
open Go.AM Go.Proofs.PlB Go.Proofs.PlW Go.Proofs.PlT
theorem add_of (a b : List Int × List Int) (d : List Int) (ia : inI a.2) (ib : inI b.2) (hga : tgood a = true) (hgb : tgood b = true) (hj : f75 a.1 b.1 = some (0, d)) (hd : Joined a.1 b.1 d) :
  f41 a b = some (0, d, tabL (prd d).toNat (fun i => addV (rd (0 : Int) a.2 (spX a.1 d i)) (rd (0 : Int) b.2 (spX b.1 d i)))) := by
 have hg : tgood a = true ∧ tgood b = true := ⟨hga, hgb⟩
 unfold f41
 have hj2 : f55_56_j2 (a.1, a.2) (b.1, b.2) = some (Sum.inl ()) := by
  unfold f55_56_j2 f55_56_j3
  rw [show (a.1, a.2) = a from rfl, show (b.1, b.2) = b from rfl, good_ok, good_ok, hga, hgb]
  rfl
 unfold f55_56
 rw [hj2]
 simp only [bindF_some, sumF_inl]
 rw [hj]
 simp only [bindF_some]
 rw [show ((0 : Int) != 0) = false from rfl]
 simp only [cond_false]
 rw [new_ok, if_pos hd.pd, spread_ok hd.fa, spread_ok hd.fb]
 simp only [bindF_some]
 have hr := prd_range d
 obtain ⟨N, hN⟩ : ∃ N : Nat, prd d = (N : Int) := ⟨(prd d).toNat, by omega⟩
 rw [hN, Int.toNat_natCast]
 have ga : (a.2.length : Int) = prd a.1 := by have := hg.1; unfold tgood at this; simp at this; exact this.2
 have gb : (b.2.length : Int) = prd b.1 := by have := hg.2; unfold tgood at this; simp at this; exact this.2
 have H : ∀ x : Int × List Int, (∃ k : Nat, k ≤ N ∧ x = ((k : Int), tabL N (fun i => if i < k then addV (rd (0 : Int) a.2 (spX a.1 d i)) (rd (0 : Int) b.2 (spX b.1 d i)) else 0))) →
   (∃ z, (∀ go, f55_56_l4 (a.1, a.2) (b.1, b.2) (0, d, List.replicate N 0) (tabL N (spX a.1 d)) (tabL N (spX b.1 d)) go x.1 x.2 = some z) ∧ z = tabL N (fun i => addV (rd (0 : Int) a.2 (spX a.1 d i)) (rd (0 : Int) b.2 (spX b.1 d i)))) ∨
   (∃ y : Int × List Int, (∀ go, f55_56_l4 (a.1, a.2) (b.1, b.2) (0, d, List.replicate N 0) (tabL N (spX a.1 d)) (tabL N (spX b.1 d)) go x.1 x.2 = go y) ∧ (∃ k : Nat, k ≤ N ∧ y = ((k : Int), tabL N (fun i => if i < k then addV (rd (0 : Int) a.2 (spX a.1 d i)) (rd (0 : Int) b.2 (spX b.1 d i)) else 0))) ∧ ((N : Int) - y.1).toNat < ((N : Int) - x.1).toNat) := by
  rintro _ ⟨k, hk, rfl⟩
  unfold f55_56_l4
  simp only [List.length_replicate, tab_len]
  by_cases hlt : k < N
  ·right
   refine ⟨(((k + 1 : Nat) : Int), tabL N (fun i => if i < k + 1 then addV (rd (0 : Int) a.2 (spX a.1 d i)) (rd (0 : Int) b.2 (spX b.1 d i)) else 0)), fun go => ?_, ⟨k + 1, hlt, rfl⟩, by simp only; omega⟩
   rw [show decide ((k : Int) < (N : Int)) = true by simpa using hlt]
   simp only [cond_true]
   obtain ⟨x0, x1⟩ := spX_range hd.fa k (by omega)
   obtain ⟨y0, y1⟩ := spX_range hd.fb k (by omega)
   rw [rd_tab _ _ _ _ hlt, rd_tab _ _ _ _ hlt, guardF_pos (by omega), guardF_pos (by omega), guardF_pos (by omega), guardF_pos (by omega)]
   obtain ⟨xn, hxn⟩ := Int.eq_ofNat_of_zero_le x0
   obtain ⟨yn, hyn⟩ := Int.eq_ofNat_of_zero_le y0
   have qa := inI_get ia xn (by omega)
   have qb := inI_get ib yn (by omega)
   rw [← hxn] at qa
   rw [← hyn] at qb
   rw [addF_ok _ _ qa.1 qa.2 qb.1 qb.2]
   simp only [bindF_some]
   rw [guardF_pos (by omega), wrap_i64 (by omega) (by omega), Int.toNat_natCast, tab_set]
   congr 1
   refine Prod.ext rfl (tab_ext _ _ _ (fun i hi => ?_))
   by_cases hik : i = k
   ·rw [if_pos hik, if_pos (by omega), hik]
   ·rw [if_neg hik]
    by_cases h2 : i < k
    ·rw [if_pos h2, if_pos (by omega)]
    ·rw [if_neg h2, if_neg (by omega)]
  ·left
   have : k = N := by omega
   subst this
   refine ⟨_, fun go => ?_, rfl⟩
   rw [show decide ((k : Int) < (k : Int)) = false by simp]
   simp only [cond_false, Option.some.injEq]
   exact tab_ext _ _ _ (fun i hi => by rw [if_pos hi])
 have e0 : ((0 : Int), List.replicate N (0 : Int)) = (((0 : Nat) : Int), tabL N (fun i => if i < 0 then addV (rd (0 : Int) a.2 (spX a.1 d i)) (rd (0 : Int) b.2 (spX b.1 d i)) else 0)) := by
  rw [tab_rep]
  exact Prod.ext rfl (tab_ext _ _ _ (fun i hi => by rw [if_neg (by omega)]))
 rw [e0]
 obtain ⟨z, e, rfl⟩ := loop_fuel (B := fun go (x : Int × List Int) => f55_56_l4 (a.1, a.2) (b.1, b.2) (0, d, List.replicate N 0) (tabL N (spX a.1 d)) (tabL N (spX b.1 d)) go x.1 x.2) _ (fun x => ((N : Int) - x.1).toNat) _ H _ ⟨0, Nat.zero_le _, rfl⟩ (by simp only; omega)
 rw [e]
 rfl
theorem mul_of (a b : List Int × List Int) (d : List Int) (ia : inI a.2) (ib : inI b.2) (hga : tgood a = true) (hgb : tgood b = true) (hj : f75 a.1 b.1 = some (0, d)) (hd : Joined a.1 b.1 d) :
  f43 a b = some (0, d, tabL (prd d).toNat (fun i => mulX (rd (0 : Int) a.2 (spX a.1 d i)) (rd (0 : Int) b.2 (spX b.1 d i)))) := by
 have hg : tgood a = true ∧ tgood b = true := ⟨hga, hgb⟩
 unfold f43
 have hj2 : f55_58_j2 (a.1, a.2) (b.1, b.2) = some (Sum.inl ()) := by
  unfold f55_58_j2 f55_58_j3
  rw [show (a.1, a.2) = a from rfl, show (b.1, b.2) = b from rfl, good_ok, good_ok, hga, hgb]
  rfl
 unfold f55_58
 rw [hj2]
 simp only [bindF_some, sumF_inl]
 rw [hj]
 simp only [bindF_some]
 rw [show ((0 : Int) != 0) = false from rfl]
 simp only [cond_false]
 rw [new_ok, if_pos hd.pd, spread_ok hd.fa, spread_ok hd.fb]
 simp only [bindF_some]
 have hr := prd_range d
 obtain ⟨N, hN⟩ : ∃ N : Nat, prd d = (N : Int) := ⟨(prd d).toNat, by omega⟩
 rw [hN, Int.toNat_natCast]
 have ga : (a.2.length : Int) = prd a.1 := by have := hg.1; unfold tgood at this; simp at this; exact this.2
 have gb : (b.2.length : Int) = prd b.1 := by have := hg.2; unfold tgood at this; simp at this; exact this.2
 have H : ∀ x : Int × List Int, (∃ k : Nat, k ≤ N ∧ x = ((k : Int), tabL N (fun i => if i < k then mulX (rd (0 : Int) a.2 (spX a.1 d i)) (rd (0 : Int) b.2 (spX b.1 d i)) else 0))) →
   (∃ z, (∀ go, f55_58_l4 (a.1, a.2) (b.1, b.2) (0, d, List.replicate N 0) (tabL N (spX a.1 d)) (tabL N (spX b.1 d)) go x.1 x.2 = some z) ∧ z = tabL N (fun i => mulX (rd (0 : Int) a.2 (spX a.1 d i)) (rd (0 : Int) b.2 (spX b.1 d i)))) ∨
   (∃ y : Int × List Int, (∀ go, f55_58_l4 (a.1, a.2) (b.1, b.2) (0, d, List.replicate N 0) (tabL N (spX a.1 d)) (tabL N (spX b.1 d)) go x.1 x.2 = go y) ∧ (∃ k : Nat, k ≤ N ∧ y = ((k : Int), tabL N (fun i => if i < k then mulX (rd (0 : Int) a.2 (spX a.1 d i)) (rd (0 : Int) b.2 (spX b.1 d i)) else 0))) ∧ ((N : Int) - y.1).toNat < ((N : Int) - x.1).toNat) := by
  rintro _ ⟨k, hk, rfl⟩
  unfold f55_58_l4
  simp only [List.length_replicate, tab_len]
  by_cases hlt : k < N
  ·right
   refine ⟨(((k + 1 : Nat) : Int), tabL N (fun i => if i < k + 1 then mulX (rd (0 : Int) a.2 (spX a.1 d i)) (rd (0 : Int) b.2 (spX b.1 d i)) else 0)), fun go => ?_, ⟨k + 1, hlt, rfl⟩, by simp only; omega⟩
   rw [show decide ((k : Int) < (N : Int)) = true by simpa using hlt]
   simp only [cond_true]
   obtain ⟨x0, x1⟩ := spX_range hd.fa k (by omega)
   obtain ⟨y0, y1⟩ := spX_range hd.fb k (by omega)
   rw [rd_tab _ _ _ _ hlt, rd_tab _ _ _ _ hlt, guardF_pos (by omega), guardF_pos (by omega), guardF_pos (by omega), guardF_pos (by omega)]
   obtain ⟨xn, hxn⟩ := Int.eq_ofNat_of_zero_le x0
   obtain ⟨yn, hyn⟩ := Int.eq_ofNat_of_zero_le y0
   have qa := inI_get ia xn (by omega)
   have qb := inI_get ib yn (by omega)
   rw [← hxn] at qa
   rw [← hyn] at qb
   rw [mulF_ok _ _ qa.1 qa.2 qb.1 qb.2]
   simp only [bindF_some]
   rw [guardF_pos (by omega), wrap_i64 (by omega) (by omega), Int.toNat_natCast, tab_set]
   congr 1
   refine Prod.ext rfl (tab_ext _ _ _ (fun i hi => ?_))
   by_cases hik : i = k
   ·rw [if_pos hik, if_pos (by omega), hik]
   ·rw [if_neg hik]
    by_cases h2 : i < k
    ·rw [if_pos h2, if_pos (by omega)]
    ·rw [if_neg h2, if_neg (by omega)]
  ·left
   have : k = N := by omega
   subst this
   refine ⟨_, fun go => ?_, rfl⟩
   rw [show decide ((k : Int) < (k : Int)) = false by simp]
   simp only [cond_false, Option.some.injEq]
   exact tab_ext _ _ _ (fun i hi => by rw [if_pos hi])
 have e0 : ((0 : Int), List.replicate N (0 : Int)) = (((0 : Nat) : Int), tabL N (fun i => if i < 0 then mulX (rd (0 : Int) a.2 (spX a.1 d i)) (rd (0 : Int) b.2 (spX b.1 d i)) else 0)) := by
  rw [tab_rep]
  exact Prod.ext rfl (tab_ext _ _ _ (fun i hi => by rw [if_neg (by omega)]))
 rw [e0]
 obtain ⟨z, e, rfl⟩ := loop_fuel (B := fun go (x : Int × List Int) => f55_58_l4 (a.1, a.2) (b.1, b.2) (0, d, List.replicate N 0) (tabL N (spX a.1 d)) (tabL N (spX b.1 d)) go x.1 x.2) _ (fun x => ((N : Int) - x.1).toNat) _ H _ ⟨0, Nat.zero_le _, rfl⟩ (by simp only; omega)
 rw [e]
 rfl
end Go.Proofs.PlS
