import Derived.Test.YtdnlicefpmiljaaGreatDoorModelSkipsQ0
set_option linter.unusedVariables false
set_option linter.unusedSimpArgs false
set_option linter.unusedSectionVars false
set_option maxRecDepth 100000

namespace Go.Proofs.Cv
open Go.AM Go.Proofs.PlB Go.Proofs.PlW Go.Proofs.PlT Go.Proofs.PlS Go.Proofs.Sh Go.Proofs.Num Go.Proofs.Div Go.Proofs.Op
open Go.Proofs.PlR hiding Tn
open Go.Proofs.LossSays (zp mp gvc posn addn bendn inb zl ml)
abbrev bBend : ByteArray := ByteArray.mk #[98, 101, 110, 100]
abbrev bSkip : ByteArray := ByteArray.mk #[115, 107, 105, 112]
theorem loop2 {X Z : Type} {B : (X → Option Z) → X → Option Z} {x0 x1 x2 : X} {z : Z} (h0 : ∀ go, B go x0 = go x1) (h1 : ∀ go, B go x1 = go x2) (h2 : ∀ go, B go x2 = some z) : loopF B fuelN x0 = some z :=
 loop_for (fun k => match k with | 0 => x0 | 1 => x1 | _ => x2) 2 z (fun k hk => match k, hk with | 0, _ => h0 | 1, _ => h1) h2 (by omega)
theorem loop0 {X Z : Type} {B : (X → Option Z) → X → Option Z} {x0 : X} {z : Z} (h : ∀ go, B go x0 = some z) : loopF B fuelN x0 = some z :=
 loop_for (fun _ => x0) 0 z (fun k hk => absurd hk (Nat.not_lt_zero _)) h (by omega)
theorem kw1 : (ByteArray.toList bBend == ByteArray.toList (ByteArray.mk #[100, 101, 110, 115, 101])) = false := by kernel_rfl
theorem kw2 : (ByteArray.toList bBend == ByteArray.toList (ByteArray.mk #[99, 111, 110, 118])) = false := by kernel_rfl
theorem kw3 : (ByteArray.toList bBend == ByteArray.toList (ByteArray.mk #[112, 111, 111, 108])) = false := by kernel_rfl
theorem kw4 : (ByteArray.toList bBend == ByteArray.toList (ByteArray.mk #[115, 107, 105, 112])) = false := by kernel_rfl
theorem kw5 : (ByteArray.toList bSkip == ByteArray.toList (ByteArray.mk #[100, 101, 110, 115, 101])) = false := by kernel_rfl
theorem kw6 : (ByteArray.toList bSkip == ByteArray.toList (ByteArray.mk #[99, 111, 110, 118])) = false := by kernel_rfl
theorem kw7 : (ByteArray.toList bSkip == ByteArray.toList (ByteArray.mk #[112, 111, 111, 108])) = false := by kernel_rfl
theorem kw8 : (ByteArray.toList bSkip == ByteArray.toList (ByteArray.mk #[98, 101, 110, 100])) = false := by kernel_rfl
section
variable (n : Nat) (k : Int) (h0 : 1 ≤ n) (h1 : n ≤ 40) (k0 : 1 ≤ k) (k5 : k ≤ 5)
abbrev lB (k : Int) : Lay := (bBend, k, (0 : Int))
abbrev lK : Lay := (bSkip, (0 : Int), (0 : Int))
def sN (n : Nat) (k : Int) : Nt := ([(n : Int)], [lB k, lK])
def sD (n : Nat) : List (List Int) := [[(n : Int)], [(n : Int)], [(n : Int)]]
include h0 h1
theorem s_one : f65 [(n : Int)] = some true := by rw [shapeGood_ok, prd_one _ (by omega) (by omega), dT (by omega)]
theorem s_prod : f42 [(n : Int)] = some (n : Int) := by
 have e := prd_one (n : Int) (by omega) (by omega)
 rw [prod_ok (by omega), e]
include k0 k5
theorem s_good : f34 (sN n k) = some true := by
 have g1 : f59 (lB k) = some true := by
  have e1 : f59_j1 (lB k) = some (Sum.inl ()) := by
   have e0 : f38 bBend = some 1 := by kernel_rfl
   unfold f59_j1
   simp only
   rw [e0, bindF_some, dT (by omega), cond_true, nF rfl, cond_false]
  unfold f59
  rw [e1, bindF_some, sumF_inl]
  simp only
  rw [kw1, cond_false, kw2, cond_false, kw3, cond_false, beq_self_eq_true, cond_true, within_ok, bindF_some, dT ⟨k0, k5⟩]
 have g2 : f59 lK = some true := by kernel_rfl
 have e2 : (sN n k).2.length = 2 := rfl
 unfold f34
 have LL : loopF (fun go x => f34_l1 (sN n k) go x) fuelN (0 : Int) = some (Sum.inr ()) := loop2 (x1 := 1) (x2 := 2) (fun go => ?_) (fun go => ?_) (fun go => ?_)
 ·have e3 : rd (0 : Int) (sN n k).1 0 = n := rfl
  have e4 : (sN n k).1.length = 1 := rfl
  rw [LL, bindF_some, sumF_inr, e4, bT (by omega), cond_true, guardF_pos (by omega), e3, within_ok, bindF_some, dT (by omega)]
 ·have e : f59 ((rd (Ty.z (.p .str (.p (.int .i64) (.int .i64)))) (sN n k).2 (0 : Int)).1, ((rd (Ty.z (.p .str (.p (.int .i64) (.int .i64)))) (sN n k).2 (0 : Int)).2).1, ((rd (Ty.z (.p .str (.p (.int .i64) (.int .i64)))) (sN n k).2 (0 : Int)).2).2) = some true := g1
  unfold f34_l1
  rw [e2, dT (by omega), cond_true, guardF_pos (by omega), e, bindF_some, Bool.not_true, cond_false]; rfl
 ·have e : f59 ((rd (Ty.z (.p .str (.p (.int .i64) (.int .i64)))) (sN n k).2 (1 : Int)).1, ((rd (Ty.z (.p .str (.p (.int .i64) (.int .i64)))) (sN n k).2 (1 : Int)).2).1, ((rd (Ty.z (.p .str (.p (.int .i64) (.int .i64)))) (sN n k).2 (1 : Int)).2).2) = some true := g2
  unfold f34_l1
  rw [e2, dT (by omega), cond_true, guardF_pos (by omega), e, bindF_some, Bool.not_true, cond_false]; rfl
 ·unfold f34_l1
  rw [e2, dF (by omega), cond_false]
omit k0 k5
theorem s_walk : f35 (sN n k) = some (true, sD n) := by
 have e2 : (sN n k).2.length = 2 := rfl
 have c1 : f61 [(n : Int)] = some [(n : Int)] := cloneS _ (by simp)
 have o1 : f62 (lB k) [(n : Int)] = some (true, [(n : Int)]) := by
  unfold f62
  simp only
  rw [kw1, cond_false, kw2, cond_false, kw3, cond_false, c1, bindF_some]
 have o2 : f62 lK [(n : Int)] = some (true, [(n : Int)]) := by
  unfold f62
  simp only
  rw [kw5, cond_false, kw6, cond_false, kw7, cond_false, c1, bindF_some]
 have j1 : f35_j4 (sN n k) 0 [[(n : Int)]] (true, [(n : Int)]) = some (Sum.inl ()) := by
  have e : (rd (Ty.z (.p .str (.p (.int .i64) (.int .i64)))) (sN n k).2 (0 : Int)).1 = bBend := rfl
  unfold f35_j4
  rw [e]
  simp only
  rw [Bool.not_true, cond_false, kw4, cond_false]
 have j2 : f35_j4 (sN n k) 1 [[(n : Int)], [(n : Int)]] (true, [(n : Int)]) = some (Sum.inl ()) := by
  have e : (rd (Ty.z (.p .str (.p (.int .i64) (.int .i64)))) (sN n k).2 (1 : Int)).1 = bSkip := rfl
  have es : f63 ((sN n k).1, (sN n k).2) 1 [[(n : Int)], [(n : Int)]] = some true := by
   have ew : IntKind.i64.wrap ((1 : Int) - 1) = 0 := by kernel_rfl
   have e3 : (rd (Ty.z (.p .str (.p (.int .i64) (.int .i64)))) (sN n k).2 (0 : Int)).1 = bBend := rfl
   have e4 : rd (Ty.z (.sl (.int .i64))) [[(n : Int)], [(n : Int)]] (0 : Int) = [(n : Int)] := rfl
   have e5 : rd (Ty.z (.sl (.int .i64))) [[(n : Int)], [(n : Int)]] (1 : Int) = [(n : Int)] := rfl
   unfold f63
   simp only
   rw [dT (by omega), cond_true, ew, guardF_pos (by rw [e2]; omega), e3, kw4, Bool.not_false, cond_true, guardF_pos (by simp), guardF_pos (by simp), e4, e5, sameP _ _ (by simp), bindF_some, dT rfl]
  unfold f35_j4
  rw [e]
  simp only
  rw [Bool.not_true, cond_false, beq_self_eq_true, cond_true, es, bindF_some, Bool.not_true, cond_false]
 unfold f35
 have c1' : f61 (sN n k).1 = some [(n : Int)] := c1
 rw [c1', bindF_some]
 have LL : loopF (fun go (x : Int × List (List Int)) => f35_l3 (sN n k) go x.1 x.2) fuelN ((0 : Int), [[(n : Int)]]) = some (Sum.inr (sD n)) := loop2 (x1 := ((1 : Int), [[(n : Int)], [(n : Int)]])) (x2 := ((2 : Int), sD n)) (fun go => ?_) (fun go => ?_) (fun go => ?_)
 ·rw [LL, bindF_some, sumF_inr]
 ·have e : f62 ((rd (Ty.z (.p .str (.p (.int .i64) (.int .i64)))) (sN n k).2 (0 : Int)).1, ((rd (Ty.z (.p .str (.p (.int .i64) (.int .i64)))) (sN n k).2 (0 : Int)).2).1, ((rd (Ty.z (.p .str (.p (.int .i64) (.int .i64)))) (sN n k).2 (0 : Int)).2).2) (rd (Ty.z (.sl (.int .i64))) [[(n : Int)]] (0 : Int)) = some (true, [(n : Int)]) := o1
  unfold f35_l3
  simp only
  rw [e2, dT (by omega), cond_true, guardF_pos (by omega), guardF_pos (by simp), e, bindF_some, j1, bindF_some, sumF_inl, guardF_pos (by simp)]; rfl
 ·have e : f62 ((rd (Ty.z (.p .str (.p (.int .i64) (.int .i64)))) (sN n k).2 (1 : Int)).1, ((rd (Ty.z (.p .str (.p (.int .i64) (.int .i64)))) (sN n k).2 (1 : Int)).2).1, ((rd (Ty.z (.p .str (.p (.int .i64) (.int .i64)))) (sN n k).2 (1 : Int)).2).2) (rd (Ty.z (.sl (.int .i64))) [[(n : Int)], [(n : Int)]] (1 : Int)) = some (true, [(n : Int)]) := o2
  unfold f35_l3
  simp only
  rw [e2, dT (by omega), cond_true, guardF_pos (by omega), guardF_pos (by simp), e, bindF_some, j2, bindF_some, sumF_inl, guardF_pos (by simp)]; rfl
 ·unfold f35_l3
  simp only
  rw [e2, dF (by omega), cond_false]
theorem s_sum : f36 (sN n k) (sD n) = some (0, true) := by
 have e2 : (sN n k).2.length = 2 := rfl
 have e3 : (sD n).length = 3 := rfl
 have p1 : f64 (lB k) [(n : Int)] = some [] := by
  unfold f64
  simp only
  rw [kw1, cond_false, kw2, cond_false]
 have p2 : f64 lK [(n : Int)] = some [] := by
  unfold f64
  simp only
  rw [kw5, cond_false, kw6, cond_false]
 have l4 : loopF (fun go (x : Int × Bool × Int) => f36_l4 [] go x.1 x.2.1 x.2.2) fuelN ((0 : Int), true, (0 : Int)) = some ((0 : Int), true) := loop0 (fun go => by unfold f36_l4; rfl)
 have s1 := s_one n h0 h1
 have w1 : IntKind.i64.wrap ((0 : Int) + 1) = 1 := by kernel_rfl
 have w2 : IntKind.i64.wrap ((1 : Int) + 1) = 2 := by kernel_rfl
 unfold f36
 rw [e2, dT (show ((2 : Nat) : Int) ≤ 16 by omega)]
 have LL : loopF (fun go (x : Int × Bool × Int) => f36_l3 (sN n k) (sD n) go x.1 x.2.1 x.2.2) fuelN ((0 : Int), true, (0 : Int)) = some ((0 : Int), true) := loop2 (x1 := ((0 : Int), true, (1 : Int))) (x2 := ((0 : Int), true, (2 : Int))) (fun go => ?_) (fun go => ?_) (fun go => ?_)
 ·have e5 : f65 (sN n k).1 = some true := s1
  rw [LL, bindF_some]
  simp only
  rw [cond_true, e5, bindF_some, cond_true]; rfl
 ·have e : f64 ((rd (Ty.z (.p .str (.p (.int .i64) (.int .i64)))) (sN n k).2 (0 : Int)).1, ((rd (Ty.z (.p .str (.p (.int .i64) (.int .i64)))) (sN n k).2 (0 : Int)).2).1, ((rd (Ty.z (.p .str (.p (.int .i64) (.int .i64)))) (sN n k).2 (0 : Int)).2).2) (rd (Ty.z (.sl (.int .i64))) (sD n) (0 : Int)) = some [] := p1
  have f1 : f65 (rd (Ty.z (.sl (.int .i64))) (sD n) (0 : Int)) = some true := s1
  have f2 : f65 (rd (Ty.z (.sl (.int .i64))) (sD n) (1 : Int)) = some true := s1
  unfold f36_l3
  simp only
  rw [e2, e3, dT (by omega), cond_true, guardF_pos (by omega), guardF_pos (by omega), e, bindF_some, l4, bindF_some]
  simp only
  rw [cond_true, guardF_pos (by omega), f1, bindF_some, cond_true, w1, guardF_pos (by omega), f2, bindF_some]
 ·have e : f64 ((rd (Ty.z (.p .str (.p (.int .i64) (.int .i64)))) (sN n k).2 (1 : Int)).1, ((rd (Ty.z (.p .str (.p (.int .i64) (.int .i64)))) (sN n k).2 (1 : Int)).2).1, ((rd (Ty.z (.p .str (.p (.int .i64) (.int .i64)))) (sN n k).2 (1 : Int)).2).2) (rd (Ty.z (.sl (.int .i64))) (sD n) (1 : Int)) = some [] := p2
  have f1 : f65 (rd (Ty.z (.sl (.int .i64))) (sD n) (1 : Int)) = some true := s1
  have f2 : f65 (rd (Ty.z (.sl (.int .i64))) (sD n) (2 : Int)) = some true := s1
  unfold f36_l3
  simp only
  rw [e2, e3, dT (by omega), cond_true, guardF_pos (by omega), guardF_pos (by omega), e, bindF_some, l4, bindF_some]
  simp only
  rw [cond_true, guardF_pos (by omega), f1, bindF_some, cond_true, w2, guardF_pos (by omega), f2, bindF_some]
 ·unfold f36_l3
  simp only
  rw [e2, dF (by omega), cond_false]
include k0 k5
theorem s_shapes : f11 (sN n k) = some (0, sD n) := by
 have e1 : f34 ((sN n k).1, (sN n k).2) = some true := s_good n k h0 h1 k0 k5
 have e2 : f35 ((sN n k).1, (sN n k).2) = some (true, sD n) := s_walk n k h0 h1
 have e3 : f36 ((sN n k).1, (sN n k).2) (sD n) = some (0, true) := s_sum n k h0 h1
 unfold f11
 rw [e1, bindF_some, Bool.not_true, cond_false, e2, bindF_some]
 simp only [Bool.not_true, cond_false]
 rw [e3, bindF_some]; rfl
def sB (n : Nat) (k : Int) (x : List Int) : List Int := mp (bendV k) n x
def sO (n : Nat) (k : Int) (x : List Int) : List Int := zp addV n x (sB n k x)
theorem s_run (x : List Int) (hx : x.length = n) (ix : inI x) : ∃ l : List Nd, l.length = 3 ∧ nd l 2 = LossSays.vc n (sO n k x) ∧ f21 [] (sN n k) [] x = some (2, 0, [], l) := by
 have gx := gvc n h0 (by omega) hx ix
 have e1 : f11 ((sN n k).1, (sN n k).2) = some (0, sD n) := s_shapes n k h0 h1 k0 k5
 have e3 : f36 ((sN n k).1, (sN n k).2) (sD n) = some (0, true) := s_sum n k h0 h1
 have e2 : (sN n k).2.length = 2 := rfl
 have e4 : (sD n).length = 3 := rfl
 have ej : f21_j2 (sN n k) [] x (0, true) = some (Sum.inl ()) := by
  have ep : f42 (sN n k).1 = some (n : Int) := s_prod n h0 h1
  unfold f21_j2 f21_j3
  simp only
  rw [nF (show (List.length ([] : List Int) : Int) = 0 from rfl), cond_false, ep, bindF_some, nF (show (List.length x : Int) = n by omega), bindF_some, cond_false]
 have w1 : IntKind.i64.wrap ((0 : Int) + 1) = 1 := by kernel_rfl
 have w2 : IntKind.i64.wrap ((1 : Int) + 1) = 2 := by kernel_rfl
 have par : ∀ T : List Nd, f70 T 0 [] [] [] = some (0, 0, 0, [], [], T) := fun T => by
  unfold f70
  have LL : loopF (fun go (x : Int × Int × Int × Int × List Int × List Int × List Nd) => f70_l3 [] go x.1 x.2.1 x.2.2.1 x.2.2.2.1 x.2.2.2.2.1 x.2.2.2.2.2.1 x.2.2.2.2.2.2) fuelN ((0 : Int), (0 : Int), (0 : Int), (0 : Int), [], [], T) = some ((0 : Int), (0 : Int), (0 : Int), [], [], T) := loop0 (fun go => by unfold f70_l3; rfl)
  rw [LL, bindF_some]
 have p1 : f64 (lB k) [(n : Int)] = some [] := by
  unfold f64
  simp only
  rw [kw1, cond_false, kw2, cond_false]
 have p2 : f64 lK [(n : Int)] = some [] := by
  unfold f64
  simp only
  rw [kw5, cond_false, kw6, cond_false]
 have doo : ∀ (T T' : List Nd) (op a b c : Int) (i : Int), f93 T op a b c = some (i, 0, T') → f71 T 0 [] [] op a b c = some (i, 0, [], [], T') := fun T T' op a b c i h => by
  unfold f71
  rw [nF rfl, cond_false, h, bindF_some]
 obtain ⟨T0, hT0⟩ : ∃ T0 : List Nd, T0 = [(1, -1, -1, 0, [(n : Int)], x)] := ⟨_, rfl⟩
 have l0 : T0.length = 1 := by rw [hT0]; rfl
 have n0 : nd T0 0 = LossSays.vc n x := by rw [hT0]; rfl
 obtain ⟨m1, q1, hd1⟩ := do_one T0 11 0 0 k (by omega) (by omega) (by omega) (by kernel_rfl) true (by kernel_rfl) (by omega) (LossSays.vc n (sB n k x)) (op_bend _ _ _ (by rw [n0]; exact bendn n h0 (by omega) k k0 k5 hx ix))
 have nb : (sB n k x).length = n := ml n _ _
 have ib : inI (sB n k x) := inb n h0 (by omega) k hx ix
 obtain ⟨m2, q2, hd2⟩ := do_two (T0 ++ [m1]) 2 0 1 0 (by simp [l0]) (by omega) (by omega) (by kernel_rfl) false (by kernel_rfl) (by simp [l0]) (by simp [l0]) (LossSays.vc n (sO n k x)) (op_add _ _ _ _ (by
  have a0 : nd (T0 ++ [m1]) 0 = LossSays.vc n x := by rw [nd_app _ _ _ (by omega), n0]
  have a1 : nd (T0 ++ [m1]) 1 = LossSays.vc n (sB n k x) := by have := nd_last T0 m1; rw [l0] at this; rw [this, q1]
  rw [a0, a1]
  exact addn n h0 (by omega) hx nb ix ib))
 have l2 : (T0 ++ [m1]).length = 2 := by simp [l0]
 rw [l0] at hd1
 rw [l2] at hd2
 have hd1 : f93 T0 11 0 0 k = some (1, 0, T0 ++ [m1]) := hd1
 have hd2 : f93 (T0 ++ [m1]) 2 0 1 0 = some (2, 0, T0 ++ [m1] ++ [m2]) := hd2
 have lay1 : f44 T0 0 [] [] (lB k) [(n : Int)] 0 0 = some (1, 0, [], [], T0 ++ [m1]) := by
  have p1' : f64 ((lB k).1, (lB k).2.1, (lB k).2.2) [(n : Int)] = some [] := p1
  unfold f44
  rw [p1', bindF_some, par, bindF_some]
  simp only
  rw [kw1, cond_false, kw2, cond_false, kw3, cond_false, beq_self_eq_true, cond_true, doo _ _ _ _ _ _ _ hd1, bindF_some]
 have lay2 : f44 (T0 ++ [m1]) 0 [] [] lK [(n : Int)] 1 0 = some (2, 0, [], [], T0 ++ [m1] ++ [m2]) := by
  have p2' : f64 (lK.1, lK.2.1, lK.2.2) [(n : Int)] = some [] := p2
  unfold f44
  rw [p2', bindF_some, par, bindF_some]
  simp only
  rw [kw5, cond_false, kw6, cond_false, kw7, cond_false, kw8, cond_false, doo _ _ _ _ _ _ _ hd2, bindF_some]
 refine ⟨T0 ++ [m1] ++ [m2], by simp [l0], by have := nd_last (T0 ++ [m1]) m2; rw [l2] at this; rw [this, q2], ?_⟩
 have lf : f43 [] 0 [] [] (sN n k).1 x = some (0, 0, [], [], T0) := by
  have := leaf_ok [] (LossSays.vc n x) (by simp) gx.1
  have this' : f69 [] ((sN n k).1, x) = some (0, 0, T0) := by rw [hT0]; exact this
  unfold f43
  rw [nF rfl, cond_false, this', bindF_some]
 have LL : loopF (fun go (y : Int × Int × Int × Int × List Int × List Nd × List Int) => f21_l4 (sN n k) (0, sD n) go y.1 y.2.1 y.2.2.1 y.2.2.2.1 y.2.2.2.2.1 y.2.2.2.2.2.1 y.2.2.2.2.2.2) fuelN ((0 : Int), (0 : Int), (0 : Int), (0 : Int), [], T0, []) = some ((2 : Int), (0 : Int), [], T0 ++ [m1] ++ [m2], []) :=
  loop2 (x1 := ((1 : Int), (0 : Int), (1 : Int), (0 : Int), [], T0 ++ [m1], [])) (x2 := ((2 : Int), (1 : Int), (2 : Int), (0 : Int), [], T0 ++ [m1] ++ [m2], [])) (fun go => ?_) (fun go => ?_) (fun go => ?_)
 ·unfold f21
  rw [e1, bindF_some, nF rfl, cond_false, e3, bindF_some, ej, bindF_some, sumF_inl, show f25 [] = some (0, []) from rfl, bindF_some, lf, bindF_some]
  simp only
  rw [LL, bindF_some]
  simp only
  rw [nF rfl, cond_false]
 ·have e : f44 T0 0 [] [] ((rd (Ty.z (.p .str (.p (.int .i64) (.int .i64)))) (sN n k).2 (0 : Int)).1, ((rd (Ty.z (.p .str (.p (.int .i64) (.int .i64)))) (sN n k).2 (0 : Int)).2).1, ((rd (Ty.z (.p .str (.p (.int .i64) (.int .i64)))) (sN n k).2 (0 : Int)).2).2) (rd (Ty.z (.sl (.int .i64))) (sD n) (0 : Int)) 0 0 = _ := lay1
  unfold f21_l4
  simp only
  rw [e2, e4, dT (by omega), cond_true, guardF_pos (by omega), guardF_pos (by omega), e, bindF_some, w1]
 ·have e : f44 (T0 ++ [m1]) 0 [] [] ((rd (Ty.z (.p .str (.p (.int .i64) (.int .i64)))) (sN n k).2 (1 : Int)).1, ((rd (Ty.z (.p .str (.p (.int .i64) (.int .i64)))) (sN n k).2 (1 : Int)).2).1, ((rd (Ty.z (.p .str (.p (.int .i64) (.int .i64)))) (sN n k).2 (1 : Int)).2).2) (rd (Ty.z (.sl (.int .i64))) (sD n) (1 : Int)) 1 0 = _ := lay2
  unfold f21_l4
  simp only
  rw [e2, e4, dT (by omega), cond_true, guardF_pos (by omega), guardF_pos (by omega), e, bindF_some, w2]
 ·unfold f21_l4
  simp only
  rw [e2, dF (by omega), cond_false]
end
theorem over_all (r zs : List Int) (h : zs.length = r.length) : over r 0 zs = zs := by
 unfold over
 simp [h]
theorem skips_j1 (x : List Int) (k : Int) : (f7_j1 x k = some (Sum.inl ()) ∧ 1 ≤ x.length ∧ x.length ≤ 40 ∧ 1 ≤ k ∧ k ≤ 5) ∨ f7_j1 x k = some (Sum.inr ()) := by
 unfold f7_j1
 by_cases c1 : (List.length x : Int) < 1
 ·rw [dT c1]; exact .inr rfl
 rw [dF c1, cond_false]
 by_cases c2 : (List.length x : Int) > 40
 ·rw [dT c2]; exact .inr rfl
 rw [dF c2, cond_false]
 by_cases c3 : k < 1
 ·rw [dT c3]; exact .inr rfl
 rw [dF c3, cond_false]
 by_cases c4 : k > 5
 ·rw [dT c4]; exact .inr rfl
 rw [dF c4]
 exact .inl ⟨rfl, by omega, by omega, by omega, by omega⟩
theorem lawSkips (x : List Int) (k : Int) (ix : inI x) : f7 x k = some true := by
 unfold f7
 rw [awake12, bindF_some, Bool.not_true, cond_false]
 rcases skips_j1 x k with ⟨ej, h0, h1, k0, k5⟩ | ej
 ·obtain ⟨l, hl, hn, er⟩ := s_run x.length k h0 h1 k0 k5 x rfl ix
  have gx := gvc x.length h0 (by omega) rfl ix
  have nb : (sB x.length k x).length = x.length := ml _ _ _
  have ib : inI (sB x.length k x) := inb x.length h0 (by omega) k rfl ix
  have lo : (sO x.length k x).length = x.length := zl _ _ _ _
  have er' : f21 [] ([(List.length x : Int)], [((ByteArray.mk #[98, 101, 110, 100]), k, (0 : Int)), ((ByteArray.mk #[115, 107, 105, 112]), (0 : Int), (0 : Int))]) [] x = some (2, 0, [], l) := er
  have ev : f27 l 2 = some (true, (LossSays.vc x.length (sO x.length k x)).1, (LossSays.vc x.length (sO x.length k x)).2, l) := by
   have := node_value l 2 (by omega) (by rw [hn]; simp [LossSays.vc]) (by rw [hn]; show (sO x.length k x).length ≤ 4096; omega)
   rw [hn] at this
   exact this
  have en : f28 [(List.length x : Int)] 0 = some ([(List.length x : Int)], List.replicate x.length 0) := by
   rw [newR _ _ (posn x.length h0 (by omega)), prd_one _ (by omega) (by omega), Int.toNat_natCast]
  have eo : over (List.replicate x.length (0 : Int)) 0 (List.take (Int.toNat (List.length (List.replicate x.length (0 : Int)) : Int) - Int.toNat 0) x) = x := by
   have et : List.take (Int.toNat (List.length (List.replicate x.length (0 : Int)) : Int) - Int.toNat 0) x = x := by
    rw [List.length_replicate, Int.toNat_natCast]; exact List.take_length
   rw [et]; exact over_all _ _ (by simp)
  have eb : f29 k ([(List.length x : Int)], x) = some (0, LossSays.vc x.length (sB x.length k x)) := by
   have a := bentP k (LossSays.vc x.length x) ix
   have b := bendn x.length h0 (by omega) k k0 k5 rfl ix
   have c := bentR k (LossSays.vc x.length x) ix
   rw [← a, b] at c
   exact c
  have ee : f30 0 ([(List.length x : Int)], x) ((LossSays.vc x.length (sB x.length k x)).1, (LossSays.vc x.length (sB x.length k x)).2) = some (0, LossSays.vc x.length (sO x.length k x)) := by
   have a := addP (LossSays.vc x.length x) (LossSays.vc x.length (sB x.length k x)) ix ib
   have b := addn x.length h0 (by omega) rfl nb ix ib
   have c := addR (LossSays.vc x.length x) (LossSays.vc x.length (sB x.length k x)) ix ib
   rw [← a, b] at c
   exact c
  have ea := alike_ok (LossSays.vc x.length (sO x.length k x)) (by simp [LossSays.vc]) (by show (sO x.length k x).length < 4611686018427387904; omega)
  rw [ej, bindF_some, sumF_inl, show f20 = some () from rfl, bindF_some, er', bindF_some]
  simp only
  rw [ev, bindF_some, en, bindF_some]
  simp only
  rw [eo, eb, bindF_some]
  simp only
  rw [ee, bindF_some]
  simp only
  rw [bT rfl, cond_true, cond_true]
  simp only [List.length_nil]
  rw [bT (by omega), cond_true]
  exact (congrArg (fun z => bindF z fun r9 => some r9) ea).trans rfl
 ·rw [ej, bindF_some, sumF_inr]
end Go.Proofs.Cv

