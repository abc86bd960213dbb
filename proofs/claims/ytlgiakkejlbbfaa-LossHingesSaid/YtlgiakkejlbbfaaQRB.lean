
import Derived.Test.YtlgiakkejlbbfaaQR
import Derived.Test.YtlgiakkejlbbfaaQVB
set_option linter.unusedVariables false
set_option linter.unusedSimpArgs false
set_option maxRecDepth 100000
namespace Go.Proofs.PlR
open Go.AM Go.Proofs.PlB Go.Proofs.PlW Go.Proofs.PlT Go.Proofs.PlS Go.Proofs.PlV
def sumL : List Int → Int
 | [] => 0
 | x :: r => x + sumL r
theorem sumL_app : ∀ a b : List Int, sumL (a ++ b) = sumL a + sumL b
 | [], b => by simp [sumL]
 | x :: r, b => by simp only [List.cons_append, sumL, sumL_app r b]; omega
theorem sumL_bound (b : Int) (hb : 0 ≤ b) : ∀ l : List Int, (∀ x ∈ l, -b ≤ x ∧ x ≤ b) → -(l.length * b) ≤ sumL l ∧ sumL l ≤ l.length * b
 | [], _ => by simp [sumL]
 | x :: r, h => by
  have h1 := h x (by simp)
  have h2 := sumL_bound b hb r (fun y hy => h y (by simp [hy]))
  simp only [sumL, List.length_cons, Int.natCast_add, Int.natCast_one, Int.add_mul, Int.one_mul]
  omega
theorem sumL_nonneg : ∀ l : List Int, (∀ x ∈ l, 0 ≤ x) → 0 ≤ sumL l
 | [], _ => by simp [sumL]
 | x :: r, h => by
  have h1 := h x (by simp)
  have h2 := sumL_nonneg r (fun y hy => h y (by simp [hy]))
  simp only [sumL]
  omega
theorem far_sum (l : List Int) (il : inI l) (hl : l.length ≤ 4096) : far (sumL l) := by
 have h := sumL_bound 9223372036854775808 (by decide) l (fun x hx => by have := il x hx; omega)
 unfold far; omega
theorem total_ok (l : List Int) (il : inI l) (hl : l.length ≤ 4096) : f71 l = some (pair (sumL l)) := by
 unfold f71
 have H : ∀ x : Int × Int × Int, (∃ k : Nat, k ≤ l.length ∧ x = ((k : Int), (pair (sumL (l.take k))).1, (pair (sumL (l.take k))).2)) →
   (∃ z, (∀ go, f71_l1 l go x.1 x.2.1 x.2.2 = some z) ∧ z = pair (sumL l)) ∨
   (∃ y : Int × Int × Int, (∀ go, f71_l1 l go x.1 x.2.1 x.2.2 = go y) ∧ (∃ k : Nat, k ≤ l.length ∧ y = ((k : Int), (pair (sumL (l.take k))).1, (pair (sumL (l.take k))).2)) ∧ ((l.length : Int) - y.1).toNat < ((l.length : Int) - x.1).toNat) := by
  rintro _ ⟨k, hk, rfl⟩
  unfold f71_l1
  simp only
  by_cases h : k < l.length
  ·right
   refine ⟨(((k + 1 : Nat) : Int), (pair (sumL (l.take (k + 1)))).1, (pair (sumL (l.take (k + 1)))).2), fun go => ?_, ⟨k + 1, h, rfl⟩, by simp only; omega⟩
   rw [show decide ((k : Int) < (l.length : Int)) = true by simpa using h]
   simp only [cond_true]
   have hr := il l[k] (List.getElem_mem h)
   rw [guardF_pos (by omega), rd_nat _ _ _ h, of_ok _ hr.1 hr.2]
   simp only [bindF_some]
   have e : sumL (l.take (k + 1)) = sumL (l.take k) + l[k] := by
    rw [List.take_succ_eq_append_getElem h, sumL_app]
    simp [sumL]
   have far1 : far (sumL (l.take k)) := far_sum _ (fun x hx => il x (List.mem_of_mem_take hx)) (by simp; omega)
   have far2 : far (sumL (l.take (k + 1))) := far_sum _ (fun x hx => il x (List.mem_of_mem_take hx)) (by simp; omega)
   rw [e] at far2 ⊢
   rw [show ((pair (sumL (l.take k))).1, (pair (sumL (l.take k))).2) = pair (sumL (l.take k)) from rfl, show ((pair l[k]).1, (pair l[k]).2) = pair l[k] from rfl, add_w _ _ far1 (by unfold far; omega) far2]
   simp only [bindF_some]
   rw [wrap_i64 (by omega) (by omega)]
   rfl
  ·left
   have : k = l.length := by omega
   subst this
   refine ⟨_, fun go => ?_, rfl⟩
   rw [show decide ((l.length : Int) < (l.length : Int)) = false by simp]
   rw [List.take_length]
   rfl
 obtain ⟨z, e, rfl⟩ := loop_fuel (B := fun go (x : Int × Int × Int) => f71_l1 l go x.1 x.2.1 x.2.2) _ (fun x => ((l.length : Int) - x.1).toNat) _ H ((0 : Int), (0 : Int), (0 : Int)) ⟨0, Nat.zero_le _, by simp [pair, sumL]⟩ (by simp; omega)
 rw [e]
 rfl
theorem all_row (x : List Int) (h0 : 1 ≤ x.length) (h1 : x.length ≤ 4096) (ix : inI x) : f50 (row x) = some (sat (sumL x), 0) := by
 unfold f50
 rw [show ((row x).1, (row x).2) = row x from rfl, good_ok, row_good x h0 h1]
 simp only [bindF_some, Bool.not_true, cond_false]
 rw [show (row x).2 = x from rfl, total_ok x ix h1]
 simp only [bindF_some]
 rw [show ((pair (sumL x)).1, (pair (sumL x)).2) = pair (sumL x) from rfl, PlV.fix_ok _ (far_sum x ix h1)]
 rfl
theorem single_ok (v : Int) : f49 v 0 = some (0, [], [v]) := by
 unfold f49
 rw [show ((0 : Int) != 0) = false from rfl]
 simp only [cond_false]
 rw [new_ok, prd_nil, if_pos (by decide)]
 rfl
theorem bend_row (k : Int) (g : Int → Int) (k0 : 1 ≤ k) (k1 : k ≤ 5) (x : List Int) (h0 : 1 ≤ x.length) (h1 : x.length ≤ 4096) (ix : inI x)
  (hg : ∀ v, -9223372036854775808 ≤ v → v < 9223372036854775808 → f74 k v = some (g v, 0)) : f52 k (row x) = some (0, row (tabL x.length (fun i => g (rd (0 : Int) x i)))) := by
 have hk : f73 k = some true := by
  unfold f73
  rw [show decide (k ≥ 1) = true by simpa using k0, show decide (k ≤ 5) = true by simpa using k1]
  rfl
 unfold f52
 have hj : f52_j2 k (row x) = some (Sum.inl ()) := by
  unfold f52_j2 f52_j3
  rw [hk]
  simp only [bindF_some, Bool.not_true, cond_false]
  rw [show ((row x).1, (row x).2) = row x from rfl, good_ok, row_good x h0 h1]
  rfl
 rw [hj]
 simp only [bindF_some, sumF_inl]
 rw [show ((row x).1, (row x).2) = row x from rfl, copy_t (row x) (by simp [row]) (by simp [row]; omega)]
 simp only [bindF_some]
 have H : ∀ y : Int × List Int, (∃ j : Nat, j ≤ x.length ∧ y = ((j : Int), tabL x.length (fun i => if i < j then g (rd (0 : Int) x i) else rd (0 : Int) x i))) →
   (∃ z, (∀ go, f52_l4 k (row x) go y.1 y.2 = some z) ∧ z = tabL x.length (fun i => g (rd (0 : Int) x i))) ∨
   (∃ w : Int × List Int, (∀ go, f52_l4 k (row x) go y.1 y.2 = go w) ∧ (∃ j : Nat, j ≤ x.length ∧ w = ((j : Int), tabL x.length (fun i => if i < j then g (rd (0 : Int) x i) else rd (0 : Int) x i))) ∧ ((x.length : Int) - w.1).toNat < ((x.length : Int) - y.1).toNat) := by
  rintro _ ⟨j, hj, rfl⟩
  unfold f52_l4
  simp only [tab_len, show (row x).2 = x from rfl]
  by_cases hlt : j < x.length
  ·right
   refine ⟨(((j + 1 : Nat) : Int), tabL x.length (fun i => if i < j + 1 then g (rd (0 : Int) x i) else rd (0 : Int) x i)), fun go => ?_, ⟨j + 1, hlt, rfl⟩, by simp only; omega⟩
   rw [show decide ((j : Int) < (x.length : Int)) = true by simpa using hlt]
   simp only [cond_true]
   have q := inI_get ix j hlt
   rw [guardF_pos (by omega), hg _ q.1 q.2]
   simp only [bindF_some]
   rw [guardF_pos (by omega), wrap_i64 (by omega) (by omega), Int.toNat_natCast, tab_set]
   congr 1
   refine Prod.ext rfl (tab_ext _ _ _ (fun i hi => ?_))
   by_cases hik : i = j
   ·rw [if_pos hik, if_pos (by omega), hik]
   ·rw [if_neg hik]
    by_cases h2 : i < j
    ·rw [if_pos h2, if_pos (by omega)]
    ·rw [if_neg h2, if_neg (by omega)]
  ·left
   have : j = x.length := by omega
   subst this
   refine ⟨_, fun go => ?_, rfl⟩
   rw [show decide ((x.length : Int) < (x.length : Int)) = false by simp]
   simp only [cond_false, Option.some.injEq]
   exact tab_ext _ _ _ (fun i hi => by rw [if_pos hi])
 have e0 : ((0 : Int), (row x).2) = (((0 : Nat) : Int), tabL x.length (fun i => if i < 0 then g (rd (0 : Int) x i) else rd (0 : Int) x i)) := by
  refine Prod.ext rfl ?_
  apply List.ext_getElem
  ·rw [tab_len]; rfl
  ·intro i h1 h2
   rw [tab_get, if_neg (by omega)]
   exact (rd_nat (0 : Int) x i h1).symm
 rw [e0]
 obtain ⟨z, e, rfl⟩ := loop_fuel (B := fun go (y : Int × List Int) => f52_l4 k (row x) go y.1 y.2) _ (fun y => ((x.length : Int) - y.1).toNat) _ H _ ⟨0, Nat.zero_le _, rfl⟩ (by simp only; omega)
 rw [e]
 simp only [bindF_some]
 unfold row
 rw [tab_len]
def rampV (v : Int) : Int := if 0 > v then 0 else v
theorem bend_ramp (v : Int) : f74 1 v = some (rampV v, 0) := rfl
abbrev Nd := Int × Int × Int × Int × (List Int) × (List Int)
def nd (l : List Nd) (i : Nat) : Tn := (rd (Ty.z (.p (.int .i64) (.p (.int .i64) (.p (.int .i64) (.p (.int .i64) (.p (.sl (.int .i64)) (.sl (.int .i64)))))))) l (i : Int)).2.2.2.2
theorem nd_app (l m : List Nd) (i : Nat) (h : i < l.length) : nd (l ++ m) i = nd l i := by
 unfold nd
 rw [rd_nat _ _ _ h, rd_nat _ _ _ (by simp; omega), List.getElem_append_left h]
theorem nd_last (l : List Nd) (n : Nd) : nd (l ++ [n]) l.length = n.2.2.2.2 := by
 unfold nd
 rw [rd_nat _ _ _ (by simp)]
 simp
theorem has_ok (l : List Nd) (n : Nat) (h : n < l.length) : f32 l (n : Int) = some (true, l) := by
 unfold f32
 rw [show decide ((n : Int) ≥ 0) = true by simp, show decide ((n : Int) < (l.length : Int)) = true by simpa using h]
 rfl
theorem node_value (l : List Nd) (i : Nat) (h : i < l.length) (h1 : (nd l i).1.length ≤ 4096) (h2 : (nd l i).2.length ≤ 4096) : f12 l (i : Int) = some (true, (nd l i).1, (nd l i).2, l) := by
 unfold f12 f22
 rw [has_ok _ _ h]
 simp only [bindF_some, Bool.not_true, cond_false]
 rw [guardF_pos (by omega)]
 have := copy_t (nd l i) (by omega) (by omega)
 unfold nd at this ⊢
 rw [this]
 rfl
theorem push_ok (l : List Nd) (n : Nd) (h : l.length < 512) : f15 l n = some ((l.length : Int), l ++ [n]) := by
 unfold f15
 rw [guardF_pos (by simp; omega)]
 simp only [bindF_some, List.length_append, List.length_cons, List.length_nil]
 rw [wrap_i64 (by omega) (by omega)]
 simp
theorem leaf_ok (l : List Nd) (a : Tn) (h : l.length < 512) (hg : tgood a = true) : f8 l a = some ((l.length : Int), 0, l ++ [(1, -1, -1, 0, a.1, a.2)]) := by
 obtain ⟨_, _, l1, l2⟩ := good_len hg
 unfold f8
 rw [show decide ((List.length l : Int) ≥ (512 : Int)) = false by simp; omega, show (a.1, a.2) = a from rfl, good_ok, hg]
 simp only [cond_false, bindF_some, Bool.not_true]
 rw [copy_t a (by omega) (by omega)]
 simp only [bindF_some]
 rw [push_ok _ _ h]
 rfl
theorem do_two (l : List Nd) (op : Int) (a b : Nat) (k : Int) (h : l.length < 512) (o1 : ¬ op < 2) (o2 : ¬ op > 14) (ho : f35 op = some true) (c : Bool) (hc : f36 op = some c) (ha : a < l.length) (hb : b < l.length)
  (t : Tn) (hr : f37 op (nd l a) (nd l b) k = some (0, t)) : ∃ n : Nd, n.2.2.2.2 = t ∧ f30 l op a b k = some ((l.length : Int), 0, l ++ [n]) := by
 have hj1 : f30_j1 l op a b = some (Sum.inl l) := by
  unfold f30_j1
  rw [show decide ((List.length l : Int) ≥ (512 : Int)) = false by simp; omega, show decide (op < 2) = false by simpa using o1, show decide (op > 14) = false by simpa using o2, has_ok _ _ ha, ho]
  simp only [cond_false, bindF_some, Bool.not_true, cond_true]
  rw [has_ok _ _ hb]
  rfl
 obtain ⟨q, hj2⟩ : ∃ q, f30_j2 op k = some q := by
  unfold f30_j2
  rw [hc]
  cases c <;> exact ⟨_, rfl⟩
 have hj3 : f30_j3 op a b k l = some (0, (b : Int), t.1, t.2) := by
  unfold f30_j3
  rw [ho]
  simp only [bindF_some, cond_true]
  rw [guardF_pos (by omega), guardF_pos (by omega)]
  unfold nd at hr
  rw [hr]
  rfl
 refine ⟨(op, (a : Int), (b : Int), q, t.1, t.2), rfl, ?_⟩
 unfold f30
 rw [hj1]
 simp only [bindF_some, sumF_inl]
 rw [hj2]
 simp only [bindF_some]
 rw [hj3]
 simp only [bindF_some]
 rw [show ((0 : Int) != 0) = false from rfl]
 simp only [cond_false]
 rw [push_ok _ _ h]
 rfl
theorem do_one (l : List Nd) (op : Int) (a : Nat) (b k : Int) (h : l.length < 512) (o1 : ¬ op < 2) (o2 : ¬ op > 14) (ho : f35 op = some false) (c : Bool) (hc : f36 op = some c) (ha : a < l.length)
  (t : Tn) (hr : f38 op (nd l a) k = some (0, t)) : ∃ n : Nd, n.2.2.2.2 = t ∧ f30 l op a b k = some ((l.length : Int), 0, l ++ [n]) := by
 have hj1 : f30_j1 l op a b = some (Sum.inl l) := by
  unfold f30_j1
  rw [show decide ((List.length l : Int) ≥ (512 : Int)) = false by simp; omega, show decide (op < 2) = false by simpa using o1, show decide (op > 14) = false by simpa using o2, has_ok _ _ ha, ho]
  rfl
 obtain ⟨q, hj2⟩ : ∃ q, f30_j2 op k = some q := by
  unfold f30_j2
  rw [hc]
  cases c <;> exact ⟨_, rfl⟩
 have hj3 : f30_j3 op a b k l = some (0, -1, t.1, t.2) := by
  unfold f30_j3
  rw [ho]
  simp only [bindF_some, cond_false]
  rw [guardF_pos (by omega)]
  unfold nd at hr
  rw [hr]
  rfl
 refine ⟨(op, (a : Int), -1, q, t.1, t.2), rfl, ?_⟩
 unfold f30
 rw [hj1]
 simp only [bindF_some, sumF_inl]
 rw [hj2]
 simp only [bindF_some]
 rw [hj3]
 simp only [bindF_some]
 rw [show ((0 : Int) != 0) = false from rfl]
 simp only [cond_false]
 rw [push_ok _ _ h]
 rfl
theorem op_add (a b : Tn) (k : Int) (t : Tn) (h : f41 a b = some (0, t)) : f37 2 a b k = some (0, t) := by
 unfold f37
 rw [show ((2 : Int) == 2) = true from rfl]
 simp only [cond_true]
 rw [show (a.1, a.2) = a from rfl, show (b.1, b.2) = b from rfl, h]
 rfl
theorem op_mul (a b : Tn) (k : Int) (t : Tn) (h : f43 a b = some (0, t)) : f37 4 a b k = some (0, t) := by
 unfold f37
 rw [show ((4 : Int) == 2) = false from rfl, show ((4 : Int) == 3) = false from rfl, show ((4 : Int) == 4) = true from rfl]
 simp only [cond_true, cond_false]
 rw [show (a.1, a.2) = a from rfl, show (b.1, b.2) = b from rfl, h]
 rfl
theorem op_all (a : Tn) (k v : Int) (h : f50 a = some (v, 0)) : f38 9 a k = some (0, [], [v]) := by
 unfold f38
 rw [show ((9 : Int) == 5) = false from rfl, show ((9 : Int) == 7) = false from rfl, show ((9 : Int) == 8) = false from rfl, show ((9 : Int) == 9) = true from rfl]
 simp only [cond_true, cond_false]
 rw [show (a.1, a.2) = a from rfl, h]
 simp only [bindF_some]
 rw [single_ok]
 rfl
theorem op_bend (a : Tn) (k : Int) (t : Tn) (h : f52 k a = some (0, t)) : f38 11 a k = some (0, t) := by
 unfold f38
 rw [show ((11 : Int) == 5) = false from rfl, show ((11 : Int) == 7) = false from rfl, show ((11 : Int) == 8) = false from rfl, show ((11 : Int) == 9) = false from rfl, show ((11 : Int) == 10) = false from rfl, show ((11 : Int) == 11) = true from rfl]
 simp only [cond_true, cond_false]
 rw [show (a.1, a.2) = a from rfl, h]
 rfl
end Go.Proofs.PlR
