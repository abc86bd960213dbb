/- Plain law: TapeOps. -/
import Derived.Test.YtmkekohdmdjdlaaPlSC
import Derived.Test.YtmkekohdmdjdlaaPlN
set_option linter.unusedVariables false
set_option linter.unusedSimpArgs false
set_option maxRecDepth 100000
namespace Go.Proofs.TapeOps
open Go.AM Go.Proofs.PlB Go.Proofs.PlW Go.Proofs.PlT Go.Proofs.PlS Go.Proofs.PlM Go.Proofs.PlN

abbrev Nd := Int × Int × Int × Int × (List Int) × (List Int)
/-- An answer that a tape may keep. -/
def Ans (r : Int × List Int × List Int) : Prop := (∃ e, e ≠ 0 ∧ r = (e, [], [])) ∨ (∃ d v, r = (0, d, v) ∧ d.length ≤ 4096 ∧ v.length ≤ 4096)

theorem add_ans (a b : List Int × List Int) (ia : inI a.2) (ib : inI b.2) : ∃ r, f34 a b = some r ∧ Ans r := by
  rcases add_cases a b ia ib with ⟨e, he, h⟩ | ⟨d, _, _, _, hd, h⟩
  · exact ⟨_, h, .inl ⟨e, he, rfl⟩⟩
  · have := prd_len hd.pd
    have := prd_range d
    exact ⟨_, h, .inr ⟨d, _, rfl, by omega, by rw [tab_len]; omega⟩⟩
theorem scale_ans (a : List Int × List Int) (k : Int) (ia : inI a.2) (k0 : -9223372036854775808 ≤ k) (k1 : k < 9223372036854775808) : ∃ r, f35 a k = some r ∧ Ans r := by
  rw [scale_ok a k ia k0 k1]
  by_cases hg : tgood a = true
  · obtain ⟨_, _, l1, l2⟩ := good_len hg
    rw [if_pos hg]
    exact ⟨_, rfl, .inr ⟨_, _, rfl, by omega, by rw [tab_len]; omega⟩⟩
  · rw [if_neg hg]
    exact ⟨_, rfl, .inl ⟨1, by decide, rfl⟩⟩
theorem mul_ans (a b : List Int × List Int) (ia : inI a.2) (ib : inI b.2) : ∃ r, f17 a b = some r ∧ Ans r := by
  rcases mul_cases a b with ⟨e, he, h⟩ | ⟨n, k, c, A, B, rfl, rfl, h1, h2, hA, hB⟩
  · exact ⟨_, h, .inl ⟨e, he, rfl⟩⟩
  · rw [mul_ok n k c A B h1 h2 hA hB ia ib]
    by_cases hp : 0 < prd [(n : Int), (c : Int)]
    · rw [if_pos hp]
      have hm := (Mat.of hp).p
      refine ⟨_, rfl, .inr ⟨_, _, rfl, by simp, ?_⟩⟩
      have : ((n * c : Nat) : Int) ≤ 4096 := by rw [Int.natCast_mul]; exact hm
      simp only [List.length_map, List.length_range]
      omega
    · rw [if_neg hp]
      exact ⟨_, rfl, .inl ⟨2, by decide, rfl⟩⟩
theorem flip_ans (a : List Int × List Int) (ia : inI a.2) : ∃ r, f18 a = some r ∧ Ans r := by
  by_cases hg : tgood a = true
  · by_cases h2 : a.1.length = 2
    · obtain ⟨d, V⟩ := a
      match d, h2 with
      | [x, y], _ =>
        obtain ⟨hp, hl, _, _⟩ := good_len hg
        have hm := Mat.of hp
        obtain ⟨n, rfl⟩ := Int.eq_ofNat_of_zero_le (show 0 ≤ x by have := hm.n1; omega)
        obtain ⟨m, rfl⟩ := Int.eq_ofNat_of_zero_le (show 0 ≤ y by have := hm.m1; omega)
        have hV : V.length = n * m := by
          simp only at hl
          rw [hm.prd] at hl
          have : ((n * m : Nat) : Int) = (n : Int) * (m : Int) := Int.natCast_mul n m
          omega
        rw [flip_ok n m V hm hV]
        refine ⟨_, rfl, .inr ⟨_, _, rfl, by simp, ?_⟩⟩
        have h1 := hm.p
        have : ((m * n : Nat) : Int) = (n : Int) * (m : Int) := by rw [Nat.mul_comm]; exact Int.natCast_mul n m
        simp only [List.length_map, List.length_range]
        omega
    · unfold f18
      rw [show (a.1, a.2) = a from rfl, good_ok, hg]
      simp only [bindF_some, Bool.not_true, cond_false]
      have : f43 a = some false := by
        unfold f43
        rw [show ((a.1.length : Int) == 2) = false by simp; omega]
      rw [this]
      exact ⟨_, rfl, .inl ⟨4, by decide, rfl⟩⟩
  · unfold f18
    rw [show (a.1, a.2) = a from rfl, good_ok, show tgood a = false by simpa using hg]
    exact ⟨_, rfl, .inl ⟨1, by decide, rfl⟩⟩

theorem leaf_ok (l : List Nd) (a : List Int × List Int) (h : l.length < 512) (hg : tgood a = true) : f28 l a = some ((l.length : Int), 0, l ++ [(1, -1, -1, 0, a.1, a.2)]) := by
  obtain ⟨_, _, l1, l2⟩ := good_len hg
  unfold f28
  rw [show decide ((List.length l : Int) ≥ (512 : Int)) = false by simp; omega, show (a.1, a.2) = a from rfl, good_ok, hg]
  simp only [cond_false, bindF_some, Bool.not_true]
  rw [copy_t a (by omega) (by omega)]
  simp only [bindF_some]
  unfold f56
  rw [guardF_pos (by simp; omega)]
  simp only [bindF_some, List.length_append, List.length_cons, List.length_nil]
  rw [wrap_i64 (by omega) (by omega)]
  simp
theorem leaf_bad (l : List Nd) (a : List Int × List Int) (h : l.length < 512) (hg : ¬ tgood a = true) : f28 l a = some (0, 1, l) := by
  unfold f28
  rw [show decide ((List.length l : Int) ≥ (512 : Int)) = false by simp; omega, show (a.1, a.2) = a from rfl, good_ok, show tgood a = false by simpa using hg]
  rfl

theorem has_ok (l : List Nd) (n : Nat) (h : n < l.length) : f58 l (n : Int) = some (true, l) := by
  unfold f58
  rw [show decide ((n : Int) ≥ 0) = true by simp, show decide ((n : Int) < (l.length : Int)) = true by simpa using h]
  rfl
theorem value_ok (l : List Nd) (x : Nd) (h1 : x.2.2.2.2.1.length ≤ 4096) (h2 : x.2.2.2.2.2.length ≤ 4096) : f32 (l ++ [x]) (l.length : Int) = some (true, x.2.2.2.2.1, x.2.2.2.2.2, l ++ [x]) := by
  unfold f32 f31
  rw [has_ok _ _ (by simp)]
  simp only [bindF_some, Bool.not_true, cond_false]
  rw [guardF_pos (by simp; omega)]
  have hr : ∀ z, rd z (l ++ [x]) (l.length : Int) = x := fun z => by
    rw [rd_nat _ _ _ (by simp)]
    simp
  simp only [hr]
  rw [copy_t (x.2.2.2.2.1, x.2.2.2.2.2) (by simp only; omega) (by simp only; omega)]
  rfl

/-- An op of two on two nodes. -/
theorem pair_ok (l : List Nd) (op : Int) (a b : Nat) (k : Int) (h : l.length < 512) (o1 : ¬ op < 2) (o2 : ¬ op > 14) (ho : f59 op = some true) (c : Bool) (hc : f60 op = some c) (ha : a < l.length) (hb : b < l.length)
    (x y : List Int × List Int) (hx : (rd (Ty.z (.p (.int .i64) (.p (.int .i64) (.p (.int .i64) (.p (.int .i64) (.p (.sl (.int .i64)) (.sl (.int .i64)))))))) l (a : Int)).2.2.2.2 = x)
    (hy : (rd (Ty.z (.p (.int .i64) (.p (.int .i64) (.p (.int .i64) (.p (.int .i64) (.p (.sl (.int .i64)) (.sl (.int .i64)))))))) l (b : Int)).2.2.2.2 = y)
    (r : Int × List Int × List Int) (hr : f61 op x y k = some r) (hans : Ans r) :
    (r.1 ≠ 0 ∧ f29 l op a b k = some (0, r.1, l)) ∨ (∃ n : Nd, r = (0, n.2.2.2.2.1, n.2.2.2.2.2) ∧ n.2.2.2.2.1.length ≤ 4096 ∧ n.2.2.2.2.2.length ≤ 4096 ∧ f29 l op a b k = some ((l.length : Int), 0, l ++ [n])) := by
  have hj1 : f29_j1 l op a b = some (Sum.inl l) := by
    unfold f29_j1
    rw [show decide ((List.length l : Int) ≥ (512 : Int)) = false by simp; omega, show decide (op < 2) = false by simpa using o1, show decide (op > 14) = false by simpa using o2, has_ok _ _ ha, ho]
    simp only [cond_false, bindF_some, Bool.not_true, cond_true]
    rw [has_ok _ _ hb]
    rfl
  have hj2 : ∃ q, f29_j2 op k = some q := by
    unfold f29_j2
    rw [hc]
    cases c
    · exact ⟨_, rfl⟩
    · exact ⟨_, rfl⟩
  obtain ⟨q, hj2⟩ := hj2
  have hj3 : f29_j3 op a b k l = some (r.1, (b : Int), r.2.1, r.2.2) := by
    unfold f29_j3
    rw [ho]
    simp only [bindF_some, cond_true]
    rw [guardF_pos (by omega), guardF_pos (by omega)]
    subst hx; subst hy
    rw [hr]
    rfl
  unfold f29
  rw [hj1]
  simp only [bindF_some, sumF_inl]
  rw [hj2]
  simp only [bindF_some]
  rw [hj3]
  simp only [bindF_some]
  rcases hans with ⟨e, he, rfl⟩ | ⟨d, v, rfl, h1, h2⟩
  · left
    simp only
    rw [show (e != 0) = true by simpa using he]
    exact ⟨he, rfl⟩
  · right
    refine ⟨(op, (a : Int), (b : Int), q, d, v), rfl, h1, h2, ?_⟩
    simp only
    rw [show ((0 : Int) != 0) = false from rfl]
    simp only [cond_false]
    unfold f56
    rw [guardF_pos (by simp; omega)]
    simp only [bindF_some, List.length_append, List.length_cons, List.length_nil]
    rw [wrap_i64 (by omega) (by omega)]
    simp
/-- An op of one node. -/
theorem one_ok (l : List Nd) (op : Int) (a : Nat) (b k : Int) (h : l.length < 512) (o1 : ¬ op < 2) (o2 : ¬ op > 14) (ho : f59 op = some false) (c : Bool) (hc : f60 op = some c) (ha : a < l.length)
    (x : List Int × List Int) (hx : (rd (Ty.z (.p (.int .i64) (.p (.int .i64) (.p (.int .i64) (.p (.int .i64) (.p (.sl (.int .i64)) (.sl (.int .i64)))))))) l (a : Int)).2.2.2.2 = x)
    (r : Int × List Int × List Int) (hr : f62 op x k = some r) (hans : Ans r) :
    (r.1 ≠ 0 ∧ f29 l op a b k = some (0, r.1, l)) ∨ (∃ n : Nd, r = (0, n.2.2.2.2.1, n.2.2.2.2.2) ∧ n.2.2.2.2.1.length ≤ 4096 ∧ n.2.2.2.2.2.length ≤ 4096 ∧ f29 l op a b k = some ((l.length : Int), 0, l ++ [n])) := by
  have hj1 : f29_j1 l op a b = some (Sum.inl l) := by
    unfold f29_j1
    rw [show decide ((List.length l : Int) ≥ (512 : Int)) = false by simp; omega, show decide (op < 2) = false by simpa using o1, show decide (op > 14) = false by simpa using o2, has_ok _ _ ha, ho]
    rfl
  have hj2 : ∃ q, f29_j2 op k = some q := by
    unfold f29_j2
    rw [hc]
    cases c
    · exact ⟨_, rfl⟩
    · exact ⟨_, rfl⟩
  obtain ⟨q, hj2⟩ := hj2
  have hj3 : f29_j3 op a b k l = some (r.1, (-1 : Int), r.2.1, r.2.2) := by
    unfold f29_j3
    rw [ho]
    simp only [bindF_some, cond_false]
    rw [guardF_pos (by omega)]
    subst hx
    rw [hr]
    rfl
  unfold f29
  rw [hj1]
  simp only [bindF_some, sumF_inl]
  rw [hj2]
  simp only [bindF_some]
  rw [hj3]
  simp only [bindF_some]
  rcases hans with ⟨e, he, rfl⟩ | ⟨d, v, rfl, h1, h2⟩
  · left
    simp only
    rw [show (e != 0) = true by simpa using he]
    exact ⟨he, rfl⟩
  · right
    refine ⟨(op, (a : Int), -1, q, d, v), rfl, h1, h2, ?_⟩
    simp only
    rw [show ((0 : Int) != 0) = false from rfl]
    simp only [cond_false]
    unfold f56
    rw [guardF_pos (by simp; omega)]
    simp only [bindF_some, List.length_append, List.length_cons, List.length_nil]
    rw [wrap_i64 (by omega) (by omega)]
    simp

/-- What one turn of the law's loop does. -/
theorem turn (l : List Nd) (r : Int × List Int × List Int) (g : Option (Int × Int × List Nd)) (go : List Nd → Option (Sum Unit Unit))
    (h : (r.1 ≠ 0 ∧ g = some (0, r.1, l)) ∨ (∃ n : Nd, r = (0, n.2.2.2.2.1, n.2.2.2.2.2) ∧ n.2.2.2.2.1.length ≤ 4096 ∧ n.2.2.2.2.2.length ≤ 4096 ∧ g = some ((l.length : Int), 0, l ++ [n]))) :
    ∃ m : List Nd, (m = [] ∨ ∃ n : Nd, m = [n]) ∧
    (bindF g fun q19_13 =>
        bif (q19_13.2.1 != r.1) then
          some (Sum.inl ())
        else
          bif (q19_13.2.1 != (0 : Int)) then
            go q19_13.2.2
          else
            bindF (f32 q19_13.2.2 q19_13.1) fun q19_18 =>
            bif (!q19_18.1) then
              some (Sum.inl ())
            else
              bindF (f19 (q19_18.2.1, q19_18.2.2.1) (r.2.1, r.2.2)) fun q24_7 =>
              bif (!q24_7) then
                some (Sum.inl ())
              else
                go q19_18.2.2.2) = go (l ++ m) := by
  rcases h with ⟨he, rfl⟩ | ⟨n, hr, h1, h2, rfl⟩
  · refine ⟨[], .inl rfl, ?_⟩
    simp only [bindF_some]
    rw [show (r.1 != r.1) = false by simp, show (r.1 != 0) = true by simpa using he, List.append_nil]
    rfl
  · refine ⟨[n], .inr ⟨n, rfl⟩, ?_⟩
    simp only [bindF_some]
    rw [hr]
    simp only
    rw [show ((0 : Int) != 0) = false from rfl]
    simp only [cond_false]
    rw [value_ok l n h1 h2]
    simp only [bindF_some, Bool.not_true, cond_false]
    rw [alike_ok (n.2.2.2.2.1, n.2.2.2.2.2) (by simp only; omega) (by simp only; omega)]
    rfl

theorem pick0 {Y : Type} (a b c d : Option Y) : pickF (0 : Int) [a, b, c, d] = a := rfl
theorem pick1 {Y : Type} (a b c d : Option Y) : pickF (1 : Int) [a, b, c, d] = b := rfl
theorem pick2 {Y : Type} (a b c d : Option Y) : pickF (2 : Int) [a, b, c, d] = c := rfl
theorem pick3 {Y : Type} (a b c d : Option Y) : pickF (3 : Int) [a, b, c, d] = d := rfl

theorem plain (a b : List Int × List Int) (k : Int) (ia : inI a.2) (ib : inI b.2) (k0 : -9223372036854775808 ≤ k) (k1 : k < 9223372036854775808) : f12 a b k = some true := by
  unfold f12
  rw [show f26 = some true by kernel_rfl]
  simp only [bindF_some, Bool.not_true, cond_false]
  obtain ⟨z1, hz1⟩ : ∃ z, f12_j1 a b = some z := by
    unfold f12_j1
    cases decide ((a.1.length : Int) > 10) <;> cases decide ((a.2.length : Int) > 60) <;> cases decide ((b.1.length : Int) > 10) <;> cases decide ((b.2.length : Int) > 60) <;> exact ⟨_, rfl⟩
  rw [hz1]
  simp only [bindF_some]
  rcases z1 with z1 | z1
  · simp only [sumF_inl]
    rw [show f27 = some () from rfl]
    simp only [bindF_some]
    rw [show (a.1, a.2) = a from rfl, show (b.1, b.2) = b from rfl]
    by_cases ga : tgood a = true
    · rw [leaf_ok [] a (by decide) ga]
      simp only [bindF_some, List.nil_append]
      by_cases gb : tgood b = true
      · rw [leaf_ok [_] b (by simp) gb]
        simp only [bindF_some, List.length_nil, List.length_cons]
        have hj3 : ∀ l m : List Nd, f12_j3 (((0 : Nat) : Int), 0, l) (((0 + 1 : Nat) : Int), 0, m) = some (Sum.inl ()) := fun l m => rfl
        rw [hj3]
        simp only [bindF_some, sumF_inl]
        obtain ⟨r8, e8, s8⟩ := add_ans a b ia ib
        obtain ⟨r9, e9, s9⟩ := scale_ans a k ia k0 k1
        obtain ⟨r10, e10, s10⟩ := mul_ans a b ia ib
        obtain ⟨r11, e11, s11⟩ := flip_ans b ib
        rw [e8, e9, e10, e11]
        simp only [bindF_some]
        obtain ⟨na, hna⟩ : ∃ n : Nd, n = (1, -1, -1, 0, a.1, a.2) := ⟨_, rfl⟩
        obtain ⟨nb, hnb⟩ : ∃ n : Nd, n = (1, -1, -1, 0, b.1, b.2) := ⟨_, rfl⟩
        rw [← hna, ← hnb, show ([na] : List Nd) ++ [nb] = [na, nb] from rfl]
        have ra : ∀ (z : Nd) (m : List Nd), rd z ([na, nb] ++ m) (((0 : Nat) : Int)) = na := fun z m => by rw [rd_nat _ _ _ (by simp)]; rfl
        have rb : ∀ (z : Nd) (m : List Nd), rd z ([na, nb] ++ m) (((0 + 1 : Nat) : Int)) = nb := fun z m => by rw [rd_nat _ _ _ (by simp)]; rfl
        have xa : ∀ m : List Nd, (rd (Ty.z (.p (.int .i64) (.p (.int .i64) (.p (.int .i64) (.p (.int .i64) (.p (.sl (.int .i64)) (.sl (.int .i64)))))))) ([na, nb] ++ m) (((0 : Nat) : Int))).2.2.2.2 = a := fun m => by rw [ra, hna]
        have xb : ∀ m : List Nd, (rd (Ty.z (.p (.int .i64) (.p (.int .i64) (.p (.int .i64) (.p (.int .i64) (.p (.sl (.int .i64)) (.sl (.int .i64)))))))) ([na, nb] ++ m) (((0 + 1 : Nat) : Int))).2.2.2.2 = b := fun m => by rw [rb, hnb]
        have sm : ∀ m q : List Nd, (q = [] ∨ ∃ n : Nd, q = [n]) → (m ++ q).length ≤ m.length + 1 := fun m q hq => by
          rcases hq with rfl | ⟨n, rfl⟩ <;> simp
        have t0 : ∀ go (m : List Nd), m.length ≤ 8 → ∃ q : List Nd, (q = [] ∨ ∃ n : Nd, q = [n]) ∧ f12_l5 k (((0 : Nat) : Int), 0, [na]) (((0 + 1 : Nat) : Int), 0, [na, nb]) r8 r9 r10 r11 go 0 ([na, nb] ++ m) = go (1, [na, nb] ++ (m ++ q)) := fun go m hm => by
          unfold f12_l5
          rw [show decide ((0 : Int) < 4) = true from rfl]
          simp only [cond_true]
          rw [guardF_pos (by decide), pick0, show IntKind.i64.wrap ((0 : Int) + 1) = 1 from rfl]
          obtain ⟨q, hq, e⟩ := turn ([na, nb] ++ m) r8 (f29 ([na, nb] ++ m) 2 ((0 : Nat) : Int) ((0 + 1 : Nat) : Int) k) (fun l => go (1, l))
            (pair_ok ([na, nb] ++ m) 2 0 (0 + 1) k (by simp; omega) (by decide) (by decide) rfl false rfl (by simp) (by simp) a b (xa m) (xb m) r8 (by
              unfold f61
              rw [show ((2 : Int) == 2) = true from rfl]
              simp only [cond_true]
              rw [show (a.1, a.2) = a from rfl, show (b.1, b.2) = b from rfl, e8]
              rfl) s8)
          exact ⟨q, hq, by rw [← List.append_assoc]; exact e⟩
        have t1 : ∀ go (m : List Nd), m.length ≤ 8 → ∃ q : List Nd, (q = [] ∨ ∃ n : Nd, q = [n]) ∧ f12_l5 k (((0 : Nat) : Int), 0, [na]) (((0 + 1 : Nat) : Int), 0, [na, nb]) r8 r9 r10 r11 go 1 ([na, nb] ++ m) = go (2, [na, nb] ++ (m ++ q)) := fun go m hm => by
          unfold f12_l5
          rw [show decide ((1 : Int) < 4) = true from rfl]
          simp only [cond_true]
          rw [guardF_pos (by decide), pick1, show IntKind.i64.wrap ((1 : Int) + 1) = 2 from rfl]
          obtain ⟨q, hq, e⟩ := turn ([na, nb] ++ m) r9 (f29 ([na, nb] ++ m) 5 ((0 : Nat) : Int) ((0 + 1 : Nat) : Int) k) (fun l => go (2, l))
            (one_ok ([na, nb] ++ m) 5 0 _ k (by simp; omega) (by decide) (by decide) rfl true rfl (by simp) a (xa m) r9 (by
              unfold f62
              rw [show ((5 : Int) == 5) = true from rfl]
              simp only [cond_true]
              rw [show (a.1, a.2) = a from rfl, e9]
              rfl) s9)
          exact ⟨q, hq, by rw [← List.append_assoc]; exact e⟩
        have t2 : ∀ go (m : List Nd), m.length ≤ 8 → ∃ q : List Nd, (q = [] ∨ ∃ n : Nd, q = [n]) ∧ f12_l5 k (((0 : Nat) : Int), 0, [na]) (((0 + 1 : Nat) : Int), 0, [na, nb]) r8 r9 r10 r11 go 2 ([na, nb] ++ m) = go (3, [na, nb] ++ (m ++ q)) := fun go m hm => by
          unfold f12_l5
          rw [show decide ((2 : Int) < 4) = true from rfl]
          simp only [cond_true]
          rw [guardF_pos (by decide), pick2, show IntKind.i64.wrap ((2 : Int) + 1) = 3 from rfl]
          obtain ⟨q, hq, e⟩ := turn ([na, nb] ++ m) r10 (f29 ([na, nb] ++ m) 6 ((0 : Nat) : Int) ((0 + 1 : Nat) : Int) k) (fun l => go (3, l))
            (pair_ok ([na, nb] ++ m) 6 0 (0 + 1) k (by simp; omega) (by decide) (by decide) rfl false rfl (by simp) (by simp) a b (xa m) (xb m) r10 (by
              unfold f61
              rw [show ((6 : Int) == 2) = false from rfl, show ((6 : Int) == 3) = false from rfl, show ((6 : Int) == 4) = false from rfl, show ((6 : Int) == 6) = true from rfl]
              simp only [cond_true, cond_false]
              rw [show (a.1, a.2) = a from rfl, show (b.1, b.2) = b from rfl, e10]
              rfl) s10)
          exact ⟨q, hq, by rw [← List.append_assoc]; exact e⟩
        have t3 : ∀ go (m : List Nd), m.length ≤ 8 → ∃ q : List Nd, (q = [] ∨ ∃ n : Nd, q = [n]) ∧ f12_l5 k (((0 : Nat) : Int), 0, [na]) (((0 + 1 : Nat) : Int), 0, [na, nb]) r8 r9 r10 r11 go 3 ([na, nb] ++ m) = go (4, [na, nb] ++ (m ++ q)) := fun go m hm => by
          unfold f12_l5
          rw [show decide ((3 : Int) < 4) = true from rfl]
          simp only [cond_true]
          rw [guardF_pos (by decide), pick3, show IntKind.i64.wrap ((3 : Int) + 1) = 4 from rfl]
          obtain ⟨q, hq, e⟩ := turn ([na, nb] ++ m) r11 (f29 ([na, nb] ++ m) 7 ((0 + 1 : Nat) : Int) ((0 + 1 : Nat) : Int) k) (fun l => go (4, l))
            (one_ok ([na, nb] ++ m) 7 (0 + 1) _ k (by simp; omega) (by decide) (by decide) rfl false rfl (by simp) b (xb m) r11 (by
              unfold f62
              rw [show ((7 : Int) == 5) = false from rfl, show ((7 : Int) == 7) = true from rfl]
              simp only [cond_true, cond_false]
              rw [show (b.1, b.2) = b from rfl, e11]
              rfl) s11)
          exact ⟨q, hq, by rw [← List.append_assoc]; exact e⟩
        have t4 : ∀ go (m : List Nd), f12_l5 k (((0 : Nat) : Int), 0, [na]) (((0 + 1 : Nat) : Int), 0, [na, nb]) r8 r9 r10 r11 go 4 m = some (Sum.inr ()) := fun go m => by
          unfold f12_l5
          rw [show decide ((4 : Int) < 4) = false from rfl]
          rfl
        rw [lf1]
        simp only
        obtain ⟨q0, h0, e0⟩ := t0 (loopF (fun go (x : Int × List Nd) => f12_l5 k (((0 : Nat) : Int), 0, [na]) (((0 + 1 : Nat) : Int), 0, [na, nb]) r8 r9 r10 r11 go x.1 x.2) 18446744073709551615) [] (by simp)
        rw [List.append_nil] at e0
        rw [e0, lf2]
        simp only
        have l0 := sm [] q0 h0
        obtain ⟨q1, h1, e1⟩ := t1 (loopF (fun go (x : Int × List Nd) => f12_l5 k (((0 : Nat) : Int), 0, [na]) (((0 + 1 : Nat) : Int), 0, [na, nb]) r8 r9 r10 r11 go x.1 x.2) 18446744073709551614) ([] ++ q0) (by simp at l0 ⊢; omega)
        rw [e1, lf3]
        simp only
        have l1 := sm ([] ++ q0) q1 h1
        obtain ⟨q2, h2, e2⟩ := t2 (loopF (fun go (x : Int × List Nd) => f12_l5 k (((0 : Nat) : Int), 0, [na]) (((0 + 1 : Nat) : Int), 0, [na, nb]) r8 r9 r10 r11 go x.1 x.2) 18446744073709551613) ([] ++ q0 ++ q1) (by simp only [List.length_nil] at l0; omega)
        rw [e2, lf4]
        simp only
        have l2 := sm ([] ++ q0 ++ q1) q2 h2
        obtain ⟨q3, h3, e3⟩ := t3 (loopF (fun go (x : Int × List Nd) => f12_l5 k (((0 : Nat) : Int), 0, [na]) (((0 + 1 : Nat) : Int), 0, [na, nb]) r8 r9 r10 r11 go x.1 x.2) 18446744073709551612) ([] ++ q0 ++ q1 ++ q2) (by simp only [List.length_nil] at l0; omega)
        rw [e3, lf5]
        simp only
        rw [t4]
        rfl
      · rw [leaf_bad [_] b (by simp) gb]
        rfl
    · rw [leaf_bad [] a (by decide) ga]
      simp only [bindF_some]
      by_cases gb : tgood b = true
      · rw [leaf_ok [] b (by simp) gb]
        rfl
      · rw [leaf_bad [] b (by simp) gb]
        rfl
  · rfl
end Go.Proofs.TapeOps
