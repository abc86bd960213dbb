
import Derived.Test.YtlgiakkejlbbfaaQLossA
set_option linter.unusedVariables false
set_option linter.unusedSimpArgs false
set_option maxRecDepth 100000
namespace Go.Proofs.Loss
open Go.AM Go.Proofs.PlB Go.Proofs.PlW Go.Proofs.PlT Go.Proofs.PlS Go.Proofs.PlV Go.Proofs.PlR
structure Next (L M : List Nd) (t : Tn) : Prop where
 len : M.length = L.length + 1
 old : ∀ i, i < L.length → nd M i = nd L i
 new : nd M L.length = t
theorem Next.mk' (L : List Nd) (n : Nd) (t : Tn) (h : n.2.2.2.2 = t) : Next L (L ++ [n]) t := ⟨by simp, fun i hi => nd_app _ _ _ hi, by rw [nd_last, h]⟩
theorem n_leaf (L : List Nd) (was : Int) (x : List Int) (h : L.length < 512) (h0 : 1 ≤ x.length) (h1 : x.length ≤ 4096) : ∃ M, Next L M (row x) ∧ f20 L was 0 x = some ((L.length : Int), was, 0, M) := by
 obtain ⟨n, e, s⟩ := s_leaf L was x h h0 h1
 exact ⟨_, Next.mk' L n _ e, s⟩
theorem n_two (L : List Nd) (was op : Int) (a b : Nat) (k : Int) (h : L.length < 512) (o1 : ¬ op < 2) (o2 : ¬ op > 14) (ho : f35 op = some true) (c : Bool) (hc : f36 op = some c) (ha : a < L.length) (hb : b < L.length)
  (t : Tn) (hr : f37 op (nd L a) (nd L b) k = some (0, t)) : ∃ M, Next L M t ∧ f19 L was 0 op a b k = some ((L.length : Int), was, 0, M) := by
 obtain ⟨n, e, s⟩ := do_two L op a b k h o1 o2 ho c hc ha hb t hr
 exact ⟨_, Next.mk' L n _ e, s_do _ _ _ _ _ _ _ _ _ s⟩
theorem n_one (L : List Nd) (was op : Int) (a : Nat) (b k : Int) (h : L.length < 512) (o1 : ¬ op < 2) (o2 : ¬ op > 14) (ho : f35 op = some false) (c : Bool) (hc : f36 op = some c) (ha : a < L.length)
  (t : Tn) (hr : f38 op (nd L a) k = some (0, t)) : ∃ M, Next L M t ∧ f19 L was 0 op a b k = some ((L.length : Int), was, 0, M) := by
 obtain ⟨n, e, s⟩ := do_one L op a b k h o1 o2 ho c hc ha t hr
 exact ⟨_, Next.mk' L n _ e, s_do _ _ _ _ _ _ _ _ _ s⟩
theorem tab_succ {α : Type} (n : Nat) (g : Nat → α) : tabL (n + 1) g = tabL n g ++ [g n] := by simp [tabL, List.range_succ]
theorem sum_single (c : Nat) (v : Int) : ∀ n : Nat, sumL (tabL n (fun i => if i = c then v else 0)) = if c < n then v else 0
 | 0 => rfl
 | n + 1 => by
  rw [tab_succ, sumL_app, sum_single c v n]
  simp only [sumL]
  by_cases h : n = c
  ·subst h; rw [if_neg (by omega), if_pos rfl, if_pos (by omega)]; omega
  ·rw [if_neg h]
   by_cases h2 : c < n
   ·rw [if_pos h2, if_pos (by omega)]; omega
   ·rw [if_neg h2, if_neg (by omega)]; omega
theorem sum_zero : ∀ l : List Int, (∀ x ∈ l, 0 ≤ x) → (sumL l = 0 ↔ ∀ x ∈ l, x = 0)
 | [], _ => by simp [sumL]
 | x :: r, h => by
  have h1 := h x (by simp)
  have h2 := sumL_nonneg r (fun y hy => h y (by simp [hy]))
  have h3 := sum_zero r (fun y hy => h y (by simp [hy]))
  simp only [sumL]
  constructor
  ·intro e y hy
   rcases List.mem_cons.1 hy with rfl | hy
   ·omega
   ·exact h3.1 (by omega) y hy
  ·intro e
   have := h3.2 (fun y hy => e y (by simp [hy]))
   have := e x (by simp)
   omega
theorem mem_tab {n : Nat} {g : Nat → Int} {x : Int} (h : x ∈ tabL n g) : ∃ i, i < n ∧ g i = x := by
 unfold tabL at h
 obtain ⟨i, hi, e⟩ := List.mem_map.1 h
 exact ⟨i, List.mem_range.1 hi, e⟩
theorem tab_mem {n : Nat} {g : Nat → Int} (i : Nat) (h : i < n) : g i ∈ tabL n g := by
 unfold tabL
 exact List.mem_map.2 ⟨i, List.mem_range.2 h, rfl⟩
theorem rhe_unit (x : Int) : rhe (x * 4294967296) = x := by
 unfold rhe; rw [if_neg (by omega)]; omega
theorem mul_unit (x : Int) (h0 : -9223372036854775808 ≤ x) (h1 : x < 9223372036854775808) : mulX x 4294967296 = x := by
 unfold mulX sat
 rw [rhe_unit, if_neg (by omega), if_neg (by omega)]
theorem mul_minus (x : Int) (h0 : -9223372036854775808 < x) (h1 : x < 9223372036854775808) : mulX x (-4294967296) = -x := by
 unfold mulX sat
 rw [Int.mul_neg, rhe_minus, rhe_unit, if_neg (by omega), if_neg (by omega)]
theorem mul_nought (x : Int) : mulX x 0 = 0 := by
 unfold mulX
 rw [Int.mul_zero]
 rfl
def in16 (l : List Int) : Prop := ∀ x ∈ l, -32768 ≤ x ∧ x ≤ 32767
def most (l : List Int) (c k : Nat) : Bool := (List.range k).all (fun i => decide (i = c) || decide (rd (0 : Int) l (c : Int) - rd (0 : Int) l (i : Int) ≥ 1))
theorem most_succ (l : List Int) (c k : Nat) : most l c (k + 1) = (most l c k && (decide (k = c) || decide (rd (0 : Int) l (c : Int) - rd (0 : Int) l (k : Int) ≥ 1))) := by
 unfold most
 rw [List.range_succ, List.all_append]
 simp
theorem get16 {l : List Int} (h : in16 l) (i : Nat) (hi : i < l.length) : -32768 ≤ rd (0 : Int) l (i : Int) ∧ rd (0 : Int) l (i : Int) ≤ 32767 := by
 rw [rd_nat _ _ _ hi]; exact h _ (List.getElem_mem hi)
theorem fill_ok (l : List Int) (c : Nat) (hl : l.length ≤ 40) (hc : c < l.length) (h16 : in16 l) :
  loopF (fun go (x : Bool × Int × List Int) => f4_l2 l c go x.1 x.2.1 x.2.2) fuelN (true, (0 : Int), []) = some (most l c l.length, tabL l.length (fun i => rd (0 : Int) l (i : Int) * 4294967296)) := by
 have H : ∀ x : Bool × Int × List Int, (∃ k : Nat, k ≤ l.length ∧ x = (most l c k, (k : Int), tabL k (fun i => rd (0 : Int) l (i : Int) * 4294967296))) →
   (∃ z, (∀ go, f4_l2 l c go x.1 x.2.1 x.2.2 = some z) ∧ z = (most l c l.length, tabL l.length (fun i => rd (0 : Int) l (i : Int) * 4294967296))) ∨
   (∃ y : Bool × Int × List Int, (∀ go, f4_l2 l c go x.1 x.2.1 x.2.2 = go y) ∧ (∃ k : Nat, k ≤ l.length ∧ y = (most l c k, (k : Int), tabL k (fun i => rd (0 : Int) l (i : Int) * 4294967296))) ∧ ((l.length : Int) - y.2.1).toNat < ((l.length : Int) - x.2.1).toNat) := by
  rintro _ ⟨k, hk, rfl⟩
  unfold f4_l2
  simp only
  by_cases hlt : k < l.length
  ·right
   refine ⟨(most l c (k + 1), ((k + 1 : Nat) : Int), tabL (k + 1) (fun i => rd (0 : Int) l (i : Int) * 4294967296)), fun go => ?_, ⟨k + 1, hlt, rfl⟩, by simp only; omega⟩
   rw [show decide ((k : Int) < (l.length : Int)) = true by simpa using hlt]
   simp only [cond_true]
   have q := get16 h16 k hlt
   have qc := get16 h16 c hc
   rw [guardF_pos (by omega), guardF_pos (by rw [tab_len]; simp; omega)]
   rw [wrap_i64 (n := rd (0 : Int) l (k : Int)) (by omega) (by omega), wrap_i64 (n := rd (0 : Int) l (k : Int) * 4294967296) (by omega) (by omega), wrap_i64 (n := (k : Int) + 1) (by omega) (by omega), wrap_i64 (n := rd (0 : Int) l (c : Int)) (by omega) (by omega), wrap_i64 (n := rd (0 : Int) l (c : Int) - rd (0 : Int) l (k : Int)) (by omega) (by omega)]
   rw [tab_succ, most_succ]
   cases most l c k
   ·simp only [cond_false, Bool.false_and]
    rfl
   ·simp only [cond_true, Bool.true_and]
    by_cases hkc : k = c
    ·rw [show ((k : Int) == (c : Int)) = true by simp [hkc], show decide (k = c) = true by simpa using hkc]
     rfl
    ·rw [show ((k : Int) == (c : Int)) = false by simp; omega, show decide (k = c) = false by simpa using hkc]
     simp only [cond_false, Bool.false_or]
     rw [guardF_pos (by omega), guardF_pos (by omega)]
     rfl
  ·left
   have : k = l.length := by omega
   subst this
   refine ⟨_, fun go => ?_, rfl⟩
   rw [show decide ((l.length : Int) < (l.length : Int)) = false by simp]
   rfl
 obtain ⟨z, e, rfl⟩ := loop_fuel (B := fun go (x : Bool × Int × List Int) => f4_l2 l c go x.1 x.2.1 x.2.2) _ (fun x => ((l.length : Int) - x.2.1).toNat) _ H (true, (0 : Int), []) ⟨0, Nat.zero_le _, rfl⟩ (by simp; omega)
 exact e
def overV (l : List Int) (c i : Nat) : Int := if i = c then 0 else rampV ((rd (0 : Int) l (i : Int) - rd (0 : Int) l (c : Int) + 1) * 4294967296)
theorem hinge_ok (L : List Nd) (l : List Int) (c : Nat) (h0 : 1 ≤ l.length) (hl : l.length ≤ 40) (hc : c < l.length) (h16 : in16 l) (hL : L.length = 1) (hx : nd L 0 = row (tabL l.length (fun i => rd (0 : Int) l (i : Int) * 4294967296))) :
  ∃ M : List Nd, f13 L 0 c = some (9, 0, M) ∧ 9 < M.length ∧ nd M 9 = ([], [sumL (tabL l.length (overV l c))]) := by
 obtain ⟨n, hn⟩ : ∃ n, n = l.length := ⟨_, rfl⟩
 rw [← hn] at hx
 have hv := node_value L 0 (by omega) (by rw [hx]; simp [row]) (by rw [hx]; simp only [row, tab_len]; omega)
 rw [show ((0 : Nat) : Int) = 0 from rfl, hx] at hv
 have rx : (row (tabL n (fun i => rd (0 : Int) l (i : Int) * 4294967296))) = ([(n : Int)], tabL n (fun i => rd (0 : Int) l (i : Int) * 4294967296)) := by unfold row; rw [tab_len]
 have g16 : ∀ i, i < n → -32768 ≤ rd (0 : Int) l (i : Int) ∧ rd (0 : Int) l (i : Int) ≤ 32767 := fun i hi => get16 h16 i (by omega)
 have gc := g16 c (by omega)
 have ix : inI (tabL n (fun i => rd (0 : Int) l (i : Int) * 4294967296)) := tab_inI _ _ (fun i hi => by have := g16 i hi; omega)
 unfold f13
 rw [hv]
 simp only [bindF_some]
 have hj : f13_j1 c (true, (row (tabL n (fun i => rd (0 : Int) l (i : Int) * 4294967296))).1, (row (tabL n (fun i => rd (0 : Int) l (i : Int) * 4294967296))).2, L) = some (Sum.inl ()) := by
  unfold f13_j1
  rw [rx]
  simp only [tab_len, Bool.not_true, cond_false, List.length_cons, List.length_nil]
  rw [show decide ((c : Int) < 0) = false by simp, show decide ((c : Int) ≥ (n : Int)) = false by simp; omega]
  rfl
 rw [hj]
 simp only [bindF_some, sumF_inl]
 rw [rx]
 simp only [tab_len]
 rw [new_ok, prd_one _ (by omega) (by omega), if_pos (by omega), repeat_ok _ _ (by omega)]
 simp only [bindF_some, Int.toNat_natCast]
 rw [guardF_pos (by simp; omega), guardF_pos (by simp; omega)]
 rw [tab_rep, tab_rep, tab_set, tab_set]
 rw [show f18 L = some ((L.length : Int), L) from rfl]
 simp only [bindF_some]
 generalize hT : tabL n (fun i => if i = c then (-4294967296 : Int) else 0) = T at *
 generalize hO : tabL n (fun i => if i = c then (0 : Int) else 4294967296) = O at *
 have lT : T.length = n := by rw [← hT, tab_len]
 have lO : O.length = n := by rw [← hO, tab_len]
 have iT : inI T := by rw [← hT]; exact tab_inI _ _ (fun i hi => by split <;> omega)
 have iO : inI O := by rw [← hO]; exact tab_inI _ _ (fun i hi => by split <;> omega)
 obtain ⟨M1, N1, s1⟩ := n_leaf L (L.length : Int) T (by omega) (by omega) (by omega)
 rw [s1]
 simp only [bindF_some]
 have k1 := N1.len
 obtain ⟨M2, N2, s2⟩ := n_leaf M1 (L.length : Int) O (by omega) (by omega) (by omega)
 rw [s2]
 simp only [bindF_some]
 have k2 := N2.len
 have x2 : nd M2 0 = row (tabL n (fun i => rd (0 : Int) l (i : Int) * 4294967296)) := by rw [N2.old 0 (by omega), N1.old 0 (by omega), hx]
 have t2 : nd M2 1 = row T := by rw [N2.old 1 (by omega), show (1 : Nat) = L.length by omega, N1.new]
 have o2 : nd M2 2 = row O := by rw [show (2 : Nat) = M1.length by omega, N2.new]
 have e3 : f43 (row (tabL n (fun i => rd (0 : Int) l (i : Int) * 4294967296))) (row T) = some (0, row (tabL n (fun i => if i = c then -(rd (0 : Int) l (c : Int) * 4294967296) else 0))) := by
  rw [mul_row _ _ (by rw [tab_len]; omega) (by rw [tab_len]; omega) (by rw [tab_len]; exact lT) ix iT]
  simp only [tab_len]
  congr 3
  refine tab_ext _ _ _ (fun i hi => ?_)
  rw [← hT, rd_tab _ _ _ _ hi, rd_tab _ _ _ _ hi]
  have := g16 i hi
  by_cases hic : i = c
  ·rw [if_pos hic, if_pos hic, mul_minus _ (by omega) (by omega), hic]
  ·rw [if_neg hic, if_neg hic, mul_nought]
 obtain ⟨M3, N3, s3⟩ := n_two M2 (L.length : Int) 4 0 1 0 (by omega) (by decide) (by decide) rfl false rfl (by omega) (by omega) _ (op_mul _ _ _ _ (by rw [x2, t2]; exact e3))
 rw [show ((L.length : Nat) : Int) = ((1 : Nat) : Int) by omega] at s3 ⊢
 rw [show ((0 : Nat) : Int) = 0 from rfl] at s3
 rw [s3]
 simp only [bindF_some]
 have k3 := N3.len
 have p3 : nd M3 3 = row (tabL n (fun i => if i = c then -(rd (0 : Int) l (c : Int) * 4294967296) else 0)) := by rw [show (3 : Nat) = M2.length by omega, N3.new]
 have e4 : f50 (row (tabL n (fun i => if i = c then -(rd (0 : Int) l (c : Int) * 4294967296) else 0))) = some (-(rd (0 : Int) l (c : Int) * 4294967296), 0) := by
  rw [all_row _ (by rw [tab_len]; omega) (by rw [tab_len]; omega) (tab_inI _ _ (fun i hi => by split <;> omega)), sum_single, if_pos (by omega)]
  unfold sat
  rw [if_neg (by omega), if_neg (by omega)]
 obtain ⟨M4, N4, s4⟩ := n_one M3 ((1 : Nat) : Int) 9 3 0 0 (by omega) (by decide) (by decide) rfl false rfl (by omega) _ (op_all _ _ _ (by rw [p3]; exact e4))
 rw [show ((M2.length : Nat) : Int) = ((3 : Nat) : Int) by omega, s4]
 simp only [bindF_some]
 have k4 := N4.len
 have w4 : nd M4 4 = ([], [-(rd (0 : Int) l (c : Int) * 4294967296)]) := by rw [show (4 : Nat) = M3.length by omega, N4.new]
 have x4 : nd M4 0 = row (tabL n (fun i => rd (0 : Int) l (i : Int) * 4294967296)) := by rw [N4.old 0 (by omega), N3.old 0 (by omega), x2]
 have e5 : f41 (row (tabL n (fun i => rd (0 : Int) l (i : Int) * 4294967296))) ([], [-(rd (0 : Int) l (c : Int) * 4294967296)]) = some (0, row (tabL n (fun i => (rd (0 : Int) l (i : Int) - rd (0 : Int) l (c : Int)) * 4294967296))) := by
  rw [add_one _ _ (by rw [tab_len]; omega) (by rw [tab_len]; omega) ix (fun v hv => by have := List.mem_singleton.1 hv; subst this; omega)]
  simp only [tab_len]
  congr 3
  refine tab_ext _ _ _ (fun i hi => ?_)
  rw [rd_tab _ _ _ _ hi]
  have := g16 i hi
  unfold addV sat
  rw [if_neg (by omega), if_neg (by omega)]
  omega
 obtain ⟨M5, N5, s5⟩ := n_two M4 ((1 : Nat) : Int) 2 0 4 0 (by omega) (by decide) (by decide) rfl false rfl (by omega) (by omega) _ (op_add _ _ _ _ (by rw [x4, w4]; exact e5))
 rw [show ((0 : Nat) : Int) = 0 from rfl] at s5
 rw [show ((M3.length : Nat) : Int) = ((4 : Nat) : Int) by omega, s5]
 simp only [bindF_some]
 have k5 := N5.len
 have q5 : nd M5 5 = row (tabL n (fun i => (rd (0 : Int) l (i : Int) - rd (0 : Int) l (c : Int)) * 4294967296)) := by rw [show (5 : Nat) = M4.length by omega, N5.new]
 have o5 : nd M5 2 = row O := by rw [N5.old 2 (by omega), N4.old 2 (by omega), N3.old 2 (by omega), o2]
 have e6 : f41 (row (tabL n (fun i => (rd (0 : Int) l (i : Int) - rd (0 : Int) l (c : Int)) * 4294967296))) (row O) = some (0, row (tabL n (fun i => if i = c then 0 else (rd (0 : Int) l (i : Int) - rd (0 : Int) l (c : Int) + 1) * 4294967296))) := by
  rw [add_row _ _ (by rw [tab_len]; omega) (by rw [tab_len]; omega) (by rw [tab_len]; exact lO) (tab_inI _ _ (fun i hi => by have := g16 i hi; omega)) iO]
  simp only [tab_len]
  congr 3
  refine tab_ext _ _ _ (fun i hi => ?_)
  rw [← hO, rd_tab _ _ _ _ hi, rd_tab _ _ _ _ hi]
  have := g16 i hi
  unfold addV sat
  by_cases hic : i = c
  ·subst hic
   rw [if_pos rfl, if_pos rfl, if_neg (by omega), if_neg (by omega)]
   omega
  ·rw [if_neg hic, if_neg hic, if_neg (by omega), if_neg (by omega)]
   omega
 obtain ⟨M6, N6, s6⟩ := n_two M5 ((1 : Nat) : Int) 2 5 2 0 (by omega) (by decide) (by decide) rfl false rfl (by omega) (by omega) _ (op_add _ _ _ _ (by rw [q5, o5]; exact e6))
 rw [show ((M4.length : Nat) : Int) = ((5 : Nat) : Int) by omega, show ((M1.length : Nat) : Int) = ((2 : Nat) : Int) by omega, s6]
 simp only [bindF_some]
 have k6 := N6.len
 have r6 : nd M6 6 = row (tabL n (fun i => if i = c then 0 else (rd (0 : Int) l (i : Int) - rd (0 : Int) l (c : Int) + 1) * 4294967296)) := by rw [show (6 : Nat) = M5.length by omega, N6.new]
 have e7 : f52 1 (row (tabL n (fun i => if i = c then 0 else (rd (0 : Int) l (i : Int) - rd (0 : Int) l (c : Int) + 1) * 4294967296))) = some (0, row (tabL n (overV l c))) := by
  rw [bend_row 1 rampV (by decide) (by decide) _ (by rw [tab_len]; omega) (by rw [tab_len]; omega) (tab_inI _ _ (fun i hi => by have := g16 i hi; split <;> omega)) (fun v _ _ => bend_ramp v)]
  simp only [tab_len]
  congr 3
  refine tab_ext _ _ _ (fun i hi => ?_)
  rw [rd_tab _ _ _ _ hi]
  unfold overV
  by_cases hic : i = c
  ·rw [if_pos hic, if_pos hic]; rfl
  ·rw [if_neg hic, if_neg hic]
 have ro : ∀ i, i < n → 0 ≤ overV l c i ∧ overV l c i ≤ 1125899906842624 := fun i hi => by
  have := g16 i hi
  unfold overV rampV
  split <;> (try split) <;> omega
 obtain ⟨M7, N7, s7⟩ := n_one M6 ((1 : Nat) : Int) 11 6 0 1 (by omega) (by decide) (by decide) rfl true rfl (by omega) _ (op_bend _ _ _ (by rw [r6]; exact e7))
 rw [show ((M5.length : Nat) : Int) = ((6 : Nat) : Int) by omega, s7]
 simp only [bindF_some]
 have k7 := N7.len
 have r7 : nd M7 7 = row (tabL n (overV l c)) := by rw [show (7 : Nat) = M6.length by omega, N7.new]
 have o7 : nd M7 2 = row O := by rw [N7.old 2 (by omega), N6.old 2 (by omega), o5]
 have e8 : f43 (row (tabL n (overV l c))) (row O) = some (0, row (tabL n (overV l c))) := by
  rw [mul_row _ _ (by rw [tab_len]; omega) (by rw [tab_len]; omega) (by rw [tab_len]; exact lO) (tab_inI _ _ (fun i hi => by have := ro i hi; omega)) iO]
  simp only [tab_len]
  congr 3
  refine tab_ext _ _ _ (fun i hi => ?_)
  rw [← hO, rd_tab _ _ _ _ hi, rd_tab _ _ _ _ hi]
  have := ro i hi
  by_cases hic : i = c
  ·rw [if_pos hic, mul_nought]; unfold overV; rw [if_pos hic]
  ·rw [if_neg hic, mul_unit _ (by omega) (by omega)]
 obtain ⟨M8, N8, s8⟩ := n_two M7 ((1 : Nat) : Int) 4 7 2 0 (by omega) (by decide) (by decide) rfl false rfl (by omega) (by omega) _ (op_mul _ _ _ _ (by rw [r7, o7]; exact e8))
 rw [show ((M6.length : Nat) : Int) = ((7 : Nat) : Int) by omega, s8]
 simp only [bindF_some]
 have k8 := N8.len
 have r8 : nd M8 8 = row (tabL n (overV l c)) := by rw [show (8 : Nat) = M7.length by omega, N8.new]
 have e9 : f50 (row (tabL n (overV l c))) = some (sumL (tabL n (overV l c)), 0) := by
  rw [all_row _ (by rw [tab_len]; omega) (by rw [tab_len]; omega) (tab_inI _ _ (fun i hi => by have := ro i hi; omega))]
  have hb := sumL_bound 1125899906842624 (by decide) (tabL n (overV l c)) (fun x hx => by
   obtain ⟨i, hi, rfl⟩ := mem_tab hx
   have := ro i hi
   omega)
  rw [tab_len] at hb
  unfold sat
  rw [if_neg (by omega), if_neg (by omega)]
 obtain ⟨M9, N9, s9⟩ := n_one M8 ((1 : Nat) : Int) 9 8 0 0 (by omega) (by decide) (by decide) rfl false rfl (by omega) _ (op_all _ _ _ (by rw [r8]; exact e9))
 rw [show ((M7.length : Nat) : Int) = ((8 : Nat) : Int) by omega, s9]
 simp only [bindF_some]
 have k9 := N9.len
 rw [s_told]
 simp only [bindF_some]
 refine ⟨M9, ?_, by omega, ?_⟩
 ·rw [show ((M8.length : Nat) : Int) = 9 by omega]
 ·rw [show (9 : Nat) = M8.length by omega, N9.new, hn]
theorem over_most (l : List Int) (c : Nat) (hl : l.length ≤ 40) (hc : c < l.length) (h16 : in16 l) : 0 ≤ sumL (tabL l.length (overV l c)) ∧ ((sumL (tabL l.length (overV l c)) == 0) = most l c l.length) := by
 have ro : ∀ x ∈ tabL l.length (overV l c), 0 ≤ x := fun x hx => by
  obtain ⟨i, hi, rfl⟩ := mem_tab hx
  unfold overV rampV
  split <;> (try split) <;> omega
 refine ⟨sumL_nonneg _ ro, ?_⟩
 rw [Bool.eq_iff_iff, beq_iff_eq, sum_zero _ ro]
 unfold most
 rw [List.all_eq_true]
 constructor
 ·intro h i hi
  have hi := List.mem_range.1 hi
  have := h _ (tab_mem i hi)
  unfold overV rampV at this
  by_cases hic : i = c
  ·simp [hic]
  ·rw [if_neg hic] at this
   rw [show decide (i = c) = false by simpa using hic, Bool.false_or, decide_eq_true_iff]
   split at this <;> omega
 ·intro h x hx
  obtain ⟨i, hi, rfl⟩ := mem_tab hx
  have := h i (List.mem_range.2 hi)
  unfold overV rampV
  by_cases hic : i = c
  ·rw [if_pos hic]
  ·rw [if_neg hic]
   rw [show decide (i = c) = false by simpa using hic, Bool.false_or, decide_eq_true_iff] at this
   split <;> omega
theorem hinges (l : List Int) (class_ : Int) (h16 : in16 l) : f4 l class_ = some true := by
 unfold f4
 rw [show f6 = some true by kernel_rfl]
 simp only [bindF_some, Bool.not_true, cond_false]
 by_cases hc : 1 ≤ l.length ∧ l.length ≤ 40 ∧ 0 ≤ class_ ∧ class_ < l.length
 ·obtain ⟨h0, h1, c0, c1⟩ := hc
  obtain ⟨c, rfl⟩ := Int.eq_ofNat_of_zero_le c0
  have hcl : c < l.length := by omega
  have hj : f4_j1 l c = some (Sum.inl ()) := by
   unfold f4_j1
   rw [show decide ((l.length : Int) < 1) = false by simp; omega, show decide ((l.length : Int) > 40) = false by simp; omega, show decide ((c : Int) < 0) = false by simp, show decide ((c : Int) ≥ (l.length : Int)) = false by simp; omega]
   rfl
  rw [hj]
  simp only [bindF_some, sumF_inl]
  rw [fill_ok l c h1 hcl h16]
  simp only [bindF_some]
  rw [show f7 = some () from rfl]
  simp only [bindF_some]
  generalize hX : tabL l.length (fun i => rd (0 : Int) l (i : Int) * 4294967296) = X at *
  have lX : X.length = l.length := by rw [← hX, tab_len]
  rw [show f9 X = some (X, [(X.length : Int)]) from rfl]
  simp only [bindF_some]
  rw [show ([(X.length : Int)], X) = row X from rfl, leaf_ok [] (row X) (by decide) (row_good X (by omega) (by omega))]
  simp only [bindF_some, List.nil_append]
  obtain ⟨M, e, lM, v⟩ := hinge_ok [(1, -1, -1, 0, (row X).1, (row X).2)] l c h0 h1 hcl h16 rfl (by rw [hX]; rfl)
  rw [show (((([] : List Nd).length : Nat)) : Int) = 0 from rfl, e]
  simp only [bindF_some]
  have k := node_value M 9 lM (by rw [v]; simp) (by rw [v]; simp)
  rw [v] at k
  rw [show (9 : Int) = ((9 : Nat) : Int) from rfl, k]
  simp only [bindF_some]
  rw [show ((0 : Int) == 0) = true from rfl]
  simp only [cond_true]
  have hrd : ∀ v : Int, rd (0 : Int) [v] 0 = v := fun v => rfl
  obtain ⟨p, q⟩ := over_most l c h1 hcl h16
  rw [guardF_pos (by simp), hrd, q, show (most l c l.length == most l c l.length) = true by simp]
  simp only [cond_true]
  rw [guardF_pos (by simp)]
  simpa using p
 ·have hj : f4_j1 l class_ = some (Sum.inr ()) := by
   unfold f4_j1
   by_cases c1 : l.length < 1
   ·rw [show decide ((l.length : Int) < 1) = true by simp; omega]; rfl
   ·rw [show decide ((l.length : Int) < 1) = false by simp; omega]
    by_cases c2 : l.length > 40
    ·rw [show decide ((l.length : Int) > 40) = true by simp; omega]; rfl
    ·rw [show decide ((l.length : Int) > 40) = false by simp; omega]
     by_cases c3 : class_ < 0
     ·rw [show decide (class_ < 0) = true by simpa using c3]; rfl
     ·rw [show decide (class_ < 0) = false by simpa using c3, show decide (class_ ≥ (l.length : Int)) = true by simp; omega]; rfl
  rw [hj]
  rfl
end Go.Proofs.Loss
