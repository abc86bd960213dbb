
import Derived.Test.YtlgiakkejlbbfaaQRB
set_option linter.unusedVariables false
set_option linter.unusedSimpArgs false
set_option maxRecDepth 100000
namespace Go.Proofs.Loss
open Go.AM Go.Proofs.PlB Go.Proofs.PlW Go.Proofs.PlT Go.Proofs.PlS Go.Proofs.PlV Go.Proofs.PlR
theorem s_leaf (l : List Nd) (was : Int) (x : List Int) (h : l.length < 512) (h0 : 1 ≤ x.length) (h1 : x.length ≤ 4096) : ∃ n : Nd, n.2.2.2.2 = row x ∧ f20 l was 0 x = some ((l.length : Int), was, 0, l ++ [n]) := by
 refine ⟨(1, -1, -1, 0, (row x).1, (row x).2), rfl, ?_⟩
 unfold f20
 rw [show ((0 : Int) != 0) = false from rfl]
 simp only [cond_false]
 rw [show ([(x.length : Int)], x) = row x from rfl, leaf_ok l (row x) h (row_good x h0 h1)]
 rfl
theorem s_do (l : List Nd) (was op a b k i e : Int) (m : List Nd) (h : f30 l op a b k = some (i, e, m)) : f19 l was 0 op a b k = some (i, was, e, m) := by
 unfold f19
 rw [show ((0 : Int) != 0) = false from rfl]
 simp only [cond_false]
 rw [h]
 rfl
theorem s_told (l : List Nd) (was n : Int) : f21 l was 0 n = some (n, 0, was, 0, l) := rfl
theorem may_ok (l : List Nd) (x want : List Int) (h : 0 < l.length) (hx : nd l 0 = row x) (hw : want.length = x.length) (h1 : x.length ≤ 4096) : f17 l 0 want = some (0, l) := by
 unfold f17
 have hv := node_value l 0 h (by rw [hx]; simp [row]) (by rw [hx]; exact h1)
 rw [show ((0 : Nat) : Int) = 0 from rfl, hx] at hv
 rw [hv]
 simp only [bindF_some]
 have hj : f17_j1 want (true, (row x).1, (row x).2, l) = some false := by
  unfold f17_j1
  simp only [Bool.not_true, cond_false]
  rw [show (row x).2 = x from rfl, show ((want.length : Int) != (x.length : Int)) = false by simp [hw]]
 rw [hj]
 rfl
def subR (x w : List Int) : List Int := tabL x.length (fun i => subV (rd (0 : Int) x i) (rd (0 : Int) w i))
def sqR (d : List Int) : List Int := tabL d.length (fun i => mulX (rd (0 : Int) d i) (rd (0 : Int) d i))
def absR (d : List Int) : List Int := tabL d.length (fun i => absV (rd (0 : Int) d i))
theorem subR_len (x w : List Int) : (subR x w).length = x.length := tab_len _ _
theorem subR_inI (x w : List Int) : inI (subR x w) := tab_inI _ _ (fun i hi => sat_range _)
theorem sqR_inI (d : List Int) : inI (sqR d) := tab_inI _ _ (fun i hi => sat_range _)
theorem absR_inI (d : List Int) (hd : inI d) : inI (absR d) := tab_inI _ _ (fun i hi => by
 have := inI_get hd i hi
 unfold absV; split <;> (try split) <;> omega)
theorem sqR_pos (d : List Int) : ∀ v ∈ sqR d, 0 ≤ v := fun v hv => by
 unfold sqR tabL at hv
 obtain ⟨i, hi, rfl⟩ := List.mem_map.1 hv
 unfold mulX
 have h : 0 ≤ rd (0 : Int) d (i : Int) * rd (0 : Int) d (i : Int) := by
  by_cases h : 0 ≤ rd (0 : Int) d (i : Int)
  ·exact Int.mul_nonneg h h
  ·rw [← Int.neg_mul_neg]; exact Int.mul_nonneg (by omega) (by omega)
 generalize rd (0 : Int) d (i : Int) * rd (0 : Int) d (i : Int) = P at *
 have : 0 ≤ rhe P := by unfold rhe; split <;> omega
 unfold sat; split <;> (try split) <;> omega
theorem absR_pos (d : List Int) : ∀ v ∈ absR d, 0 ≤ v := fun v hv => by
 unfold absR tabL at hv
 obtain ⟨i, hi, rfl⟩ := List.mem_map.1 hv
 unfold absV; split <;> (try split) <;> omega
theorem square_ok (l : List Nd) (x w : List Int) (hl : 0 < l.length) (hl2 : l.length < 500) (hx : nd l 0 = row x) (h0 : 1 ≤ x.length) (h1 : x.length ≤ 200) (hw : w.length = x.length) (ix : inI x) (iw : inI w)
  (m : Int) (hm : f51 (row (sqR (subR x w))) = some (m, 0)) :
  ∃ q : List Nd, q.length = 4 ∧ f10 l 0 w = some ((l.length : Int) + 3, 0, l ++ q) ∧ nd (l ++ q) (l.length + 3) = ([], [m]) := by
 unfold f10
 rw [may_ok l x w hl hx hw (by omega)]
 simp only [bindF_some]
 rw [show ((0 : Int) != 0) = false from rfl]
 simp only [cond_false]
 rw [show f18 l = some ((l.length : Int), l) from rfl]
 simp only [bindF_some]
 obtain ⟨n1, e1, s1⟩ := s_leaf l (l.length : Int) w (by omega) (by omega) (by omega)
 rw [s1]
 simp only [bindF_some]
 have a0 : nd (l ++ [n1]) 0 = row x := by rw [nd_app _ _ _ hl, hx]
 have a1 : nd (l ++ [n1]) l.length = row w := by rw [nd_last, e1]
 have hlen1 : (l ++ [n1]).length = l.length + 1 := by simp
 obtain ⟨n2, e2, s2⟩ := do_two (l ++ [n1]) 3 0 l.length 0 (by omega) (by decide) (by decide) rfl false rfl (by omega) (by omega) (row (subR x w)) (op_sub _ _ _ _ (by rw [a0, a1]; exact sub_row x w h0 (by omega) hw ix iw))
 rw [show ((0 : Nat) : Int) = 0 from rfl] at s2
 rw [s_do _ _ _ _ _ _ _ _ _ s2]
 simp only [bindF_some]
 have hlen2 : (l ++ [n1] ++ [n2]).length = l.length + 2 := by simp
 have a2 : nd (l ++ [n1] ++ [n2]) (l.length + 1) = row (subR x w) := by rw [← hlen1, nd_last, e2]
 rw [hlen1]
 obtain ⟨n3, e3, s3⟩ := do_two (l ++ [n1] ++ [n2]) 4 (l.length + 1) (l.length + 1) 0 (by omega) (by decide) (by decide) rfl false rfl (by omega) (by omega) (row (sqR (subR x w))) (op_mul _ _ _ _ (by
  rw [a2]
  exact mul_row _ _ (by rw [subR_len]; omega) (by rw [subR_len]; omega) rfl (subR_inI x w) (subR_inI x w)))
 rw [s_do _ _ _ _ _ _ _ _ _ s3]
 simp only [bindF_some]
 have hlen3 : (l ++ [n1] ++ [n2] ++ [n3]).length = l.length + 3 := by simp
 have a3 : nd (l ++ [n1] ++ [n2] ++ [n3]) (l.length + 2) = row (sqR (subR x w)) := by rw [← hlen2, nd_last, e3]
 rw [hlen2]
 obtain ⟨n4, e4, s4⟩ := do_one (l ++ [n1] ++ [n2] ++ [n3]) 10 (l.length + 2) 0 0 (by omega) (by decide) (by decide) rfl false rfl (by omega) ([], [m]) (op_mean _ _ _ (by rw [a3]; exact hm))
 rw [s_do _ _ _ _ _ _ _ _ _ s4]
 simp only [bindF_some]
 rw [s_told, hlen3]
 simp only [bindF_some]
 refine ⟨[n1, n2, n3, n4], rfl, ?_, ?_⟩
 ·rw [show ((l.length + 3 : Nat) : Int) = (l.length : Int) + 3 by omega]
  simp
 ·rw [show l ++ [n1, n2, n3, n4] = l ++ [n1] ++ [n2] ++ [n3] ++ [n4] by simp, ← hlen3, nd_last, e4]
theorem size_ok' (l : List Nd) (x w : List Int) (hl : 0 < l.length) (hl2 : l.length < 500) (hx : nd l 0 = row x) (h0 : 1 ≤ x.length) (h1 : x.length ≤ 200) (hw : w.length = x.length) (ix : inI x) (iw : inI w)
  (m : Int) (hm : f51 (row (absR (subR x w))) = some (m, 0)) :
  ∃ q : List Nd, q.length = 4 ∧ f11 l 0 w = some ((l.length : Int) + 3, 0, l ++ q) ∧ nd (l ++ q) (l.length + 3) = ([], [m]) := by
 unfold f11
 rw [may_ok l x w hl hx hw (by omega)]
 simp only [bindF_some]
 rw [show ((0 : Int) != 0) = false from rfl]
 simp only [cond_false]
 rw [show f18 l = some ((l.length : Int), l) from rfl]
 simp only [bindF_some]
 obtain ⟨n1, e1, s1⟩ := s_leaf l (l.length : Int) w (by omega) (by omega) (by omega)
 rw [s1]
 simp only [bindF_some]
 have a0 : nd (l ++ [n1]) 0 = row x := by rw [nd_app _ _ _ hl, hx]
 have a1 : nd (l ++ [n1]) l.length = row w := by rw [nd_last, e1]
 have hlen1 : (l ++ [n1]).length = l.length + 1 := by simp
 obtain ⟨n2, e2, s2⟩ := do_two (l ++ [n1]) 3 0 l.length 0 (by omega) (by decide) (by decide) rfl false rfl (by omega) (by omega) (row (subR x w)) (op_sub _ _ _ _ (by rw [a0, a1]; exact sub_row x w h0 (by omega) hw ix iw))
 rw [show ((0 : Nat) : Int) = 0 from rfl] at s2
 rw [s_do _ _ _ _ _ _ _ _ _ s2]
 simp only [bindF_some]
 have hlen2 : (l ++ [n1] ++ [n2]).length = l.length + 2 := by simp
 have a2 : nd (l ++ [n1] ++ [n2]) (l.length + 1) = row (subR x w) := by rw [← hlen1, nd_last, e2]
 rw [hlen1]
 obtain ⟨n3, e3, s3⟩ := do_one (l ++ [n1] ++ [n2]) 11 (l.length + 1) 0 4 (by omega) (by decide) (by decide) rfl true rfl (by omega) (row (absR (subR x w))) (op_bend _ _ _ (by
  rw [a2]
  exact bend_row 4 absV (by decide) (by decide) _ (by rw [subR_len]; omega) (by rw [subR_len]; omega) (subR_inI x w) (fun v v0 v1 => bend_size v v0 v1)))
 rw [s_do _ _ _ _ _ _ _ _ _ s3]
 simp only [bindF_some]
 have hlen3 : (l ++ [n1] ++ [n2] ++ [n3]).length = l.length + 3 := by simp
 have a3 : nd (l ++ [n1] ++ [n2] ++ [n3]) (l.length + 2) = row (absR (subR x w)) := by rw [← hlen2, nd_last, e3]
 rw [hlen2]
 obtain ⟨n4, e4, s4⟩ := do_one (l ++ [n1] ++ [n2] ++ [n3]) 10 (l.length + 2) 0 0 (by omega) (by decide) (by decide) rfl false rfl (by omega) ([], [m]) (op_mean _ _ _ (by rw [a3]; exact hm))
 rw [s_do _ _ _ _ _ _ _ _ _ s4]
 simp only [bindF_some]
 rw [s_told, hlen3]
 simp only [bindF_some]
 refine ⟨[n1, n2, n3, n4], rfl, ?_, ?_⟩
 ·rw [show ((l.length + 3 : Nat) : Int) = (l.length : Int) + 3 by omega]
  simp
 ·rw [show l ++ [n1, n2, n3, n4] = l ++ [n1] ++ [n2] ++ [n3] ++ [n4] by simp, ← hlen3, nd_last, e4]
def near (l : List Int) : Prop := ∀ x ∈ l, -2305843009213693952 ≤ x ∧ x ≤ 2305843009213693952
theorem turn_sq (x w : List Int) (hx : near x) (hw : near w) (h : w.length = x.length) : sqR (subR x w) = sqR (subR w x) ∧ absR (subR x w) = absR (subR w x) := by
 have e : ∀ i, i < x.length → rd (0 : Int) (subR w x) i = -rd (0 : Int) (subR x w) i ∧ -9223372036854775808 < rd (0 : Int) (subR w x) i ∧ rd (0 : Int) (subR w x) i < 9223372036854775808 := fun i hi => by
  unfold subR
  rw [rd_tab _ _ _ _ (by omega), rd_tab _ _ _ _ hi, rd_nat _ _ _ hi, rd_nat _ _ _ (show i < w.length by omega)]
  have h1 := hx x[i] (List.getElem_mem hi)
  have h2 := hw (w[i]'(by omega)) (List.getElem_mem _)
  unfold subV sat
  rw [if_neg (by omega), if_neg (by omega), if_neg (by omega), if_neg (by omega)]
  omega
 unfold sqR absR
 rw [subR_len, subR_len, h]
 constructor
 ·refine tab_ext _ _ _ (fun i hi => ?_)
  rw [(e i hi).1]
  unfold mulX
  rw [Int.neg_mul_neg]
 ·refine tab_ext _ _ _ (fun i hi => ?_)
  obtain ⟨h1, h2, h3⟩ := e i hi
  rw [h1] at h2 h3 ⊢
  unfold absV
  split <;> split <;> (try split) <;> (try split) <;> omega
theorem guard_loop (a b : List Int) (h : b.length = a.length) (hl : a.length ≤ 50) : ∃ z, loopF (fun go x => f3_l2 a b go x) fuelN (0 : Int) = some z ∧ (z = Sum.inl () ∨ (z = Sum.inr () ∧ near a ∧ near b)) := by
 have H : ∀ x : Int, (∃ k : Nat, k ≤ a.length ∧ x = (k : Int) ∧ (∀ i, i < k → -2305843009213693952 ≤ rd (0 : Int) a i ∧ rd (0 : Int) a i ≤ 2305843009213693952 ∧ -2305843009213693952 ≤ rd (0 : Int) b i ∧ rd (0 : Int) b i ≤ 2305843009213693952)) →
   (∃ z, (∀ go, f3_l2 a b go x = some z) ∧ (z = Sum.inl () ∨ (z = Sum.inr () ∧ near a ∧ near b))) ∨
   (∃ y : Int, (∀ go, f3_l2 a b go x = go y) ∧ (∃ k : Nat, k ≤ a.length ∧ y = (k : Int) ∧ (∀ i, i < k → -2305843009213693952 ≤ rd (0 : Int) a i ∧ rd (0 : Int) a i ≤ 2305843009213693952 ∧ -2305843009213693952 ≤ rd (0 : Int) b i ∧ rd (0 : Int) b i ≤ 2305843009213693952)) ∧ ((a.length : Int) - y).toNat < ((a.length : Int) - x).toNat) := by
  rintro _ ⟨k, hk, rfl, hi⟩
  unfold f3_l2
  by_cases hlt : k < a.length
  ·rw [show decide ((k : Int) < (a.length : Int)) = true by simpa using hlt]
   simp only [cond_true]
   by_cases c1 : rd (0 : Int) a k < -2305843009213693952
   ·left
    refine ⟨_, fun go => ?_, .inl rfl⟩
    rw [guardF_pos (by omega), show decide (rd (0 : Int) a k < -2305843009213693952) = true by simpa using c1]
    rfl
   ·by_cases c2 : rd (0 : Int) a k > 2305843009213693952
    ·left
     refine ⟨_, fun go => ?_, .inl rfl⟩
     rw [guardF_pos (by omega), show decide (rd (0 : Int) a k < -2305843009213693952) = false by simpa using c1, guardF_pos (by omega), show decide (rd (0 : Int) a k > 2305843009213693952) = true by simpa using c2]
     rfl
    ·by_cases c3 : rd (0 : Int) b k < -2305843009213693952
     ·left
      refine ⟨_, fun go => ?_, .inl rfl⟩
      rw [guardF_pos (by omega), show decide (rd (0 : Int) a k < -2305843009213693952) = false by simpa using c1, guardF_pos (by omega), show decide (rd (0 : Int) a k > 2305843009213693952) = false by simpa using c2, guardF_pos (by omega), show decide (rd (0 : Int) b k < -2305843009213693952) = true by simpa using c3]
      rfl
     ·by_cases c4 : rd (0 : Int) b k > 2305843009213693952
      ·left
       refine ⟨_, fun go => ?_, .inl rfl⟩
       rw [guardF_pos (by omega), show decide (rd (0 : Int) a k < -2305843009213693952) = false by simpa using c1, guardF_pos (by omega), show decide (rd (0 : Int) a k > 2305843009213693952) = false by simpa using c2, guardF_pos (by omega), show decide (rd (0 : Int) b k < -2305843009213693952) = false by simpa using c3, guardF_pos (by omega), show decide (rd (0 : Int) b k > 2305843009213693952) = true by simpa using c4]
       rfl
      ·right
       refine ⟨((k + 1 : Nat) : Int), fun go => ?_, ⟨k + 1, hlt, rfl, fun i hik => ?_⟩, by omega⟩
       ·rw [guardF_pos (by omega), show decide (rd (0 : Int) a k < -2305843009213693952) = false by simpa using c1, guardF_pos (by omega), show decide (rd (0 : Int) a k > 2305843009213693952) = false by simpa using c2, guardF_pos (by omega), show decide (rd (0 : Int) b k < -2305843009213693952) = false by simpa using c3, guardF_pos (by omega), show decide (rd (0 : Int) b k > 2305843009213693952) = false by simpa using c4]
        simp only [cond_false]
        rw [wrap_i64 (by omega) (by omega)]
        rfl
       ·by_cases he : i = k
        ·subst he; omega
        ·exact hi i (by omega)
  ·left
   have : k = a.length := by omega
   subst this
   refine ⟨_, fun go => ?_, .inr ⟨rfl, fun v hv => ?_, fun v hv => ?_⟩⟩
   ·rw [show decide ((a.length : Int) < (a.length : Int)) = false by simp]
    rfl
   ·obtain ⟨i, h1, rfl⟩ := List.getElem_of_mem hv
    have := hi i h1
    rw [rd_nat _ _ _ h1] at this
    omega
   ·obtain ⟨i, h1, rfl⟩ := List.getElem_of_mem hv
    have := hi i (by omega)
    rw [rd_nat (0 : Int) b _ h1] at this
    omega
 exact loop_fuel (B := fun go (x : Int) => f3_l2 a b go x) _ (fun x => ((a.length : Int) - x).toNat) _ H (0 : Int) ⟨0, Nat.zero_le _, rfl, fun i hi => absurd hi (Nat.not_lt_zero _)⟩ (by simp; omega)
theorem turns (a b : List Int) (ia : inI a) (ib : inI b) : f3 a b = some true := by
 unfold f3
 rw [show f6 = some true by kernel_rfl]
 simp only [bindF_some, Bool.not_true, cond_false]
 by_cases hc : 1 ≤ a.length ∧ a.length ≤ 50 ∧ b.length = a.length
 ·obtain ⟨h0, h1, hb⟩ := hc
  have hj : f3_j1 a b = some (Sum.inl ()) := by
   unfold f3_j1
   rw [show decide ((a.length : Int) < 1) = false by simp; omega, show decide ((a.length : Int) > 50) = false by simp; omega, show ((b.length : Int) != (a.length : Int)) = false by simp [hb]]
   rfl
  rw [hj]
  simp only [bindF_some, sumF_inl]
  obtain ⟨z, hz, hz2⟩ := guard_loop a b hb h1
  rw [hz]
  simp only [bindF_some]
  rcases hz2 with rfl | ⟨rfl, na, nb⟩
  ·rfl
  ·simp only [sumF_inr]
   rw [show f7 = some () from rfl]
   simp only [bindF_some]
   rw [show f9 a = some (a, [(a.length : Int)]) from rfl, show f9 b = some (b, [(b.length : Int)]) from rfl]
   simp only [bindF_some]
   rw [show ([(a.length : Int)], a) = row a from rfl, show ([(b.length : Int)], b) = row b from rfl]
   rw [leaf_ok [] (row a) (by decide) (row_good a h0 (by omega)), leaf_ok [] (row b) (by decide) (row_good b (by omega) (by omega))]
   simp only [bindF_some, List.nil_append]
   obtain ⟨e1, e2⟩ := turn_sq a b na nb hb
   obtain ⟨m, m0, hm⟩ := mean_row (sqR (subR a b)) (by unfold sqR; rw [tab_len, subR_len]; omega) (by unfold sqR; rw [tab_len, subR_len]; omega) (sqR_inI _) (sqR_pos _)
   obtain ⟨p, p0, hp⟩ := mean_row (absR (subR a b)) (by unfold absR; rw [tab_len, subR_len]; omega) (by unfold absR; rw [tab_len, subR_len]; omega) (absR_inI _ (subR_inI _ _)) (absR_pos _)
   have hm2 := hm
   have hp2 := hp
   rw [e1] at hm2
   rw [e2] at hp2
   have r0 : ∀ n : Nd, nd [n] 0 = n.2.2.2.2 := fun n => rfl
   obtain ⟨q1, l1, s1, v1⟩ := square_ok [(1, -1, -1, 0, (row a).1, (row a).2)] a b (by simp) (by simp) (r0 _) h0 (by omega) hb ia ib m hm
   obtain ⟨q2, l2, s2, v2⟩ := square_ok [(1, -1, -1, 0, (row b).1, (row b).2)] b a (by simp) (by simp) (r0 _) (by omega) (by omega) hb.symm ib ia m hm2
   rw [show (((([] : List Nd).length : Nat)) : Int) = 0 from rfl, s1]
   simp only [bindF_some]
   rw [s2]
   simp only [bindF_some]
   generalize hA : ([(1, -1, -1, 0, (row a).1, (row a).2)] : List Nd) ++ q1 = A at *
   generalize hB : ([(1, -1, -1, 0, (row b).1, (row b).2)] : List Nd) ++ q2 = B at *
   have lA : A.length = 5 := by rw [← hA]; simp [l1]
   have lB : B.length = 5 := by rw [← hB]; simp [l2]
   have nA : nd A 0 = row a := by rw [← hA, nd_app _ _ _ (by simp)]; rfl
   have nB : nd B 0 = row b := by rw [← hB, nd_app _ _ _ (by simp)]; rfl
   obtain ⟨q3, l3, s3, v3⟩ := size_ok' A a b (by omega) (by omega) nA h0 (by omega) hb ia ib p hp
   obtain ⟨q4, l4, s4, v4⟩ := size_ok' B b a (by omega) (by omega) nB (by omega) (by omega) hb.symm ib ia p hp2
   rw [s3]
   simp only [bindF_some]
   rw [s4]
   simp only [bindF_some]
   have vA : nd (A ++ q3) 4 = ([], [m]) := by rw [nd_app _ _ _ (by omega)]; exact v1
   have vB : nd (B ++ q4) 4 = ([], [m]) := by rw [nd_app _ _ _ (by omega)]; exact v2
   rw [lA] at v3 ⊢
   rw [lB] at v4 ⊢
   have k1 := node_value (A ++ q3) 4 (by simp; omega) (by rw [vA]; simp) (by rw [vA]; simp)
   have k2 := node_value (B ++ q4) 4 (by simp; omega) (by rw [vB]; simp) (by rw [vB]; simp)
   have k3 := node_value (A ++ q3) 8 (by simp; omega) (by rw [v3]; simp) (by rw [v3]; simp)
   have k4 := node_value (B ++ q4) 8 (by simp; omega) (by rw [v4]; simp) (by rw [v4]; simp)
   rw [vA] at k1
   rw [vB] at k2
   rw [v3] at k3
   rw [v4] at k4
   rw [show ((([(1, -1, -1, 0, (row a).1, (row a).2)] : List Nd).length : Int) + 3) = ((4 : Nat) : Int) from rfl, k1]
   simp only [bindF_some]
   rw [show ((([(1, -1, -1, 0, (row b).1, (row b).2)] : List Nd).length : Int) + 3) = ((4 : Nat) : Int) from rfl, k2]
   simp only [bindF_some]
   rw [show ((5 : Nat) : Int) + 3 = ((8 : Nat) : Int) from rfl, k3, k4]
   simp only [bindF_some]
   rw [show ((0 : Int) == 0) = true from rfl]
   simp only [cond_true]
   have hrd : ∀ v : Int, rd (0 : Int) [v] 0 = v := fun v => rfl
   rw [guardF_pos (by simp), guardF_pos (by simp), hrd m, show (m == m) = true by simp]
   simp only [cond_true]
   rw [guardF_pos (by simp), guardF_pos (by simp), hrd p, show (p == p) = true by simp]
   simp only [cond_true]
   rw [guardF_pos (by simp), show decide (m ≥ 0) = true by simpa using m0]
   simp only [cond_true]
   rw [guardF_pos (by simp), show decide (p ≥ 0) = true by simpa using p0]
 ·have hj : f3_j1 a b = some (Sum.inr ()) := by
   unfold f3_j1
   by_cases c1 : a.length < 1
   ·rw [show decide ((a.length : Int) < 1) = true by simp; omega]; rfl
   ·rw [show decide ((a.length : Int) < 1) = false by simp; omega]
    by_cases c2 : a.length > 50
    ·rw [show decide ((a.length : Int) > 50) = true by simp; omega]; rfl
    ·rw [show decide ((a.length : Int) > 50) = false by simp; omega, show ((b.length : Int) != (a.length : Int)) = true by simp; omega]; rfl
  rw [hj]
  rfl
end Go.Proofs.Loss
