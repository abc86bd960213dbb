import Derived.Test.YtclonpepjjeciaaGreatTapePlaysQ0
import Derived.Test.YtclonpepjjeciaaGreatAmY
import Derived.Test.YtclonpepjjeciaaGreatTapePlaysS5
set_option linter.unusedVariables false
set_option linter.unusedSimpArgs false
set_option maxRecDepth 100000
set_option linter.unusedSectionVars false

namespace Go.Proofs.PlV
open Go.AM Go.Proofs.PlB Go.Proofs.PlW Go.Proofs.PlT
def cl (n : Nat) : Bool := (f137 (n : Int) == some 56 && (decide (128 ≤ (n : Int) * 1) && decide ((n : Int) * 1 ≤ 255))) || (f137 (n : Int) == some 57 && (decide (128 ≤ (n : Int) * 2) && decide ((n : Int) * 2 ≤ 255))) || (f137 (n : Int) == some 58 && (decide (128 ≤ (n : Int) * 4) && decide ((n : Int) * 4 ≤ 255))) || (f137 (n : Int) == some 59 && (decide (128 ≤ (n : Int) * 8) && decide ((n : Int) * 8 ≤ 255))) || (f137 (n : Int) == some 60 && (decide (128 ≤ (n : Int) * 16) && decide ((n : Int) * 16 ≤ 255))) || (f137 (n : Int) == some 61 && (decide (128 ≤ (n : Int) * 32) && decide ((n : Int) * 32 ≤ 255))) || (f137 (n : Int) == some 62 && (decide (128 ≤ (n : Int) * 64) && decide ((n : Int) * 64 ≤ 255))) || (f137 (n : Int) == some 63 && (decide (128 ≤ (n : Int) * 128) && decide ((n : Int) * 128 ≤ 255)))
theorem cl_all : (List.range 201).all (fun n => n == 0 || cl n) = true := by kernel_rfl
theorem clz_ok (n : Nat) (h1 : n < 201) (h0 : 1 ≤ n) : (f137 (n : Int) = some 56 ∧ 128 ≤ (n : Int) * 1 ∧ (n : Int) * 1 ≤ 255) ∨ (f137 (n : Int) = some 57 ∧ 128 ≤ (n : Int) * 2 ∧ (n : Int) * 2 ≤ 255) ∨ (f137 (n : Int) = some 58 ∧ 128 ≤ (n : Int) * 4 ∧ (n : Int) * 4 ≤ 255) ∨ (f137 (n : Int) = some 59 ∧ 128 ≤ (n : Int) * 8 ∧ (n : Int) * 8 ≤ 255) ∨ (f137 (n : Int) = some 60 ∧ 128 ≤ (n : Int) * 16 ∧ (n : Int) * 16 ≤ 255) ∨ (f137 (n : Int) = some 61 ∧ 128 ≤ (n : Int) * 32 ∧ (n : Int) * 32 ≤ 255) ∨ (f137 (n : Int) = some 62 ∧ 128 ≤ (n : Int) * 64 ∧ (n : Int) * 64 ≤ 255) ∨ (f137 (n : Int) = some 63 ∧ 128 ≤ (n : Int) * 128 ∧ (n : Int) * 128 ≤ 255) := by
 have h := List.all_eq_true.1 cl_all n (List.mem_range.2 h1)
 rw [Bool.or_eq_true] at h
 rcases h with h | h
 ·simp at h; omega
 ·simpa only [cl, Bool.or_eq_true, Bool.and_eq_true, beq_iff_eq, decide_eq_true_eq, or_assoc] using h
end Go.Proofs.PlV
namespace Go.Proofs.PlR
open Go.AM Go.Proofs.PlB Go.Proofs.PlW Go.Proofs.PlT Go.Proofs.PlS Go.Proofs.PlV
def sumL : List Int → Int
 | [] => 0
 | x :: r => x + sumL r
theorem sumL_app : ∀ a b : List Int, sumL (a ++ b) = sumL a + sumL b
 | [], b => by simp [sumL]
 | x :: r, b => by simp only [List.cons_append, sumL, sumL_app r b]; omega
theorem sumL_bound (b : Int) (hb : 0 ≤ b) : ∀ l : List Int, (∀ x ∈ l, -b ≤ x ∧ x ≤ b) → -(l.length * b) ≤ sumL l ∧ sumL l ≤ l.length * b
 | [], _ => by simp [sumL]
 | x :: r, h => by
  have h1 := h x (by simp)
  have h2 := sumL_bound b hb r (fun y hy => h y (by simp [hy]))
  simp only [sumL, List.length_cons, Int.natCast_add, Int.natCast_one, Int.add_mul, Int.one_mul]
  omega
theorem far_sum (l : List Int) (il : inI l) (hl : l.length ≤ 4096) : far (sumL l) := by
 have h := sumL_bound 9223372036854775808 (by decide) l (fun x hx => by have := il x hx; omega)
 unfold far; omega
theorem total_ok (l : List Int) (il : inI l) (hl : l.length ≤ 4096) : f82 l = some (pair (sumL l)) := by
 unfold f82
 have H : ∀ x : Int × Int × Int, (∃ k : Nat, k ≤ l.length ∧ x = ((k : Int), (pair (sumL (l.take k))).1, (pair (sumL (l.take k))).2)) →
   (∃ z, (∀ go, f82_l1 l go x.1 x.2.1 x.2.2 = some z) ∧ z = pair (sumL l)) ∨
   (∃ y : Int × Int × Int, (∀ go, f82_l1 l go x.1 x.2.1 x.2.2 = go y) ∧ (∃ k : Nat, k ≤ l.length ∧ y = ((k : Int), (pair (sumL (l.take k))).1, (pair (sumL (l.take k))).2)) ∧ ((l.length : Int) - y.1).toNat < ((l.length : Int) - x.1).toNat) := by
  rintro _ ⟨k, hk, rfl⟩
  unfold f82_l1
  simp only
  by_cases h : k < l.length
  ·right
   refine ⟨(((k + 1 : Nat) : Int), (pair (sumL (l.take (k + 1)))).1, (pair (sumL (l.take (k + 1)))).2), fun go => ?_, ⟨k + 1, h, rfl⟩, by simp only; omega⟩
   rw [show decide ((k : Int) < (l.length : Int)) = true by simpa using h]
   simp only [cond_true]
   have hr := il l[k] (List.getElem_mem h)
   rw [guardF_pos (by omega), rd_nat _ _ _ h, of_ok _ hr.1 hr.2]
   simp only [bindF_some]
   have e : sumL (l.take (k + 1)) = sumL (l.take k) + l[k] := by
    rw [List.take_succ_eq_append_getElem h, sumL_app]
    simp [sumL]
   have far1 : far (sumL (l.take k)) := far_sum _ (fun x hx => il x (List.mem_of_mem_take hx)) (by simp; omega)
   have far2 : far (sumL (l.take (k + 1))) := far_sum _ (fun x hx => il x (List.mem_of_mem_take hx)) (by simp; omega)
   rw [e] at far2 ⊢
   rw [show ((pair (sumL (l.take k))).1, (pair (sumL (l.take k))).2) = pair (sumL (l.take k)) from rfl, show ((pair l[k]).1, (pair l[k]).2) = pair l[k] from rfl, add_w _ _ far1 (by unfold far; omega) far2]
   simp only [bindF_some]
   rw [wrap_i64 (by omega) (by omega)]
   rfl
  ·left
   have : k = l.length := by omega
   subst this
   refine ⟨_, fun go => ?_, rfl⟩
   rw [show decide ((l.length : Int) < (l.length : Int)) = false by simp]
   rw [List.take_length]
   rfl
 obtain ⟨z, e, rfl⟩ := loop_fuel (B := fun go (x : Int × Int × Int) => f82_l1 l go x.1 x.2.1 x.2.2) _ (fun x => ((l.length : Int) - x.1).toNat) _ H ((0 : Int), (0 : Int), (0 : Int)) ⟨0, Nat.zero_le _, by simp [pair, sumL]⟩ (by simp; omega)
 rw [e]
 rfl
theorem single_ok (v : Int) : f43 v 0 = some (0, [], [v]) := by
 unfold f43
 rw [show ((0 : Int) != 0) = false from rfl]
 simp only [cond_false]
 rw [new_ok, prd_nil, if_pos (by decide)]
 rfl
abbrev Nd := Int × Int × Int × Int × (List Int) × (List Int)
def nd (l : List Nd) (i : Nat) : Tn := (rd (Ty.z (.p (.int .i64) (.p (.int .i64) (.p (.int .i64) (.p (.int .i64) (.p (.sl (.int .i64)) (.sl (.int .i64)))))))) l (i : Int)).2.2.2.2
theorem nd_app (l m : List Nd) (i : Nat) (h : i < l.length) : nd (l ++ m) i = nd l i := by
 unfold nd
 rw [rd_nat _ _ _ h, rd_nat _ _ _ (by simp; omega), List.getElem_append_left h]
theorem nd_last (l : List Nd) (n : Nd) : nd (l ++ [n]) l.length = n.2.2.2.2 := by
 unfold nd
 rw [rd_nat _ _ _ (by simp)]
 simp
theorem push_ok (l : List Nd) (n : Nd) (h : l.length < 512) : f22 l n = some ((l.length : Int), l ++ [n]) := by
 unfold f22
 rw [guardF_pos (by simp; omega)]
 simp only [bindF_some, List.length_append, List.length_cons, List.length_nil]
 rw [wrap_i64 (by omega) (by omega)]
 simp
theorem leaf_ok (l : List Nd) (a : Tn) (h : l.length < 512) (hg : tgood a = true) : f12 l a = some ((l.length : Int), 0, l ++ [(1, -1, -1, 0, a.1, a.2)]) := by
 obtain ⟨_, _, l1, l2⟩ := good_len hg
 unfold f12
 rw [show decide ((List.length l : Int) ≥ (512 : Int)) = false by simp; omega, show (a.1, a.2) = a from rfl, good_ok, hg]
 simp only [cond_false, bindF_some, Bool.not_true]
 rw [copy_t a (by omega) (by omega)]
 simp only [bindF_some]
 rw [push_ok _ _ h]
 rfl
end Go.Proofs.PlR
namespace Go.Proofs.Op
open Go.AM Go.Proofs.PlB Go.Proofs.PlW Go.Proofs.PlT Go.Proofs.PlS Go.Proofs.Sh Go.Proofs.Num Go.Proofs.Div
abbrev Tn := List Int × List Int
abbrev InR (x : Int) : Prop := -9223372036854775808 ≤ x ∧ x < 9223372036854775808
theorem sat_in (x : Int) : InR (sat x) := PlR.sat_range x
theorem inI_tab {n : Nat} {g : Nat → Int} (h : ∀ i, i < n → InR (g i)) : inI (tabL n g) := PlR.tab_inI n g h
theorem inI_rd {l : List Int} (h : inI l) (i : Nat) (hi : i < l.length) : InR (rd (0 : Int) l (i : Int)) := inI_get h i hi
def bothS (f : Int → Int → Int) (a b : Tn) : Int × Tn :=
 if tgood a = true ∧ tgood b = true then
  (if (jS a.1 b.1).1 = 0 then (0, (jS a.1 b.1).2, tabL (prd (jS a.1 b.1).2).toNat (fun i => f (rd (0 : Int) a.2 (spX a.1 (jS a.1 b.1).2 i)) (rd (0 : Int) b.2 (spX b.1 (jS a.1 b.1).2 i)))) else ((jS a.1 b.1).1, [], []))
 else (1, [], [])
theorem jS_zero {a b : List Int} (h : (jS a b).1 = 0) : Joined a b (jS a b).2 := jS_joined (d := (jS a b).2) (Prod.ext h rfl)
theorem addP (a b : Tn) (ia : inI a.2) (ib : inI b.2) : f35 a b = some (bothS addV a b) := by
 unfold bothS
 by_cases hg : tgood a = true ∧ tgood b = true
 ·rw [if_pos hg]
  by_cases hj : (jS a.1 b.1).1 = 0
  ·rw [if_pos hj]
   exact add_of a b _ ia ib hg.1 hg.2 (by rw [joinP, ← hj]) (jS_zero hj)
  ·rw [if_neg hj]
   unfold f35 f65_66 f65_66_j2 f65_66_j3
   rw [show ((a.1, a.2) : Tn) = a from rfl, show ((b.1, b.2) : Tn) = b from rfl, good_ok, good_ok, hg.1, hg.2, joinP]
   simp only [bindF_some, Bool.not_true, cond_false, sumF_inl]
   rw [nT hj]; rfl
 ·rw [if_neg hg]
  unfold f35 f65_66 f65_66_j2 f65_66_j3
  rw [show ((a.1, a.2) : Tn) = a from rfl, show ((b.1, b.2) : Tn) = b from rfl, good_ok, good_ok]
  cases h1 : tgood a <;> cases h2 : tgood b <;> simp_all <;> rfl
theorem subP (a b : Tn) (ia : inI a.2) (ib : inI b.2) : f36 a b = some (bothS subV a b) := by
 unfold bothS
 by_cases hg : tgood a = true ∧ tgood b = true
 ·rw [if_pos hg]
  by_cases hj : (jS a.1 b.1).1 = 0
  ·rw [if_pos hj]
   exact sub_of a b _ ia ib hg.1 hg.2 (by rw [joinP, ← hj]) (jS_zero hj)
  ·rw [if_neg hj]
   unfold f36 f65_67 f65_67_j2 f65_67_j3
   rw [show ((a.1, a.2) : Tn) = a from rfl, show ((b.1, b.2) : Tn) = b from rfl, good_ok, good_ok, hg.1, hg.2, joinP]
   simp only [bindF_some, Bool.not_true, cond_false, sumF_inl]
   rw [nT hj]; rfl
 ·rw [if_neg hg]
  unfold f36 f65_67 f65_67_j2 f65_67_j3
  rw [show ((a.1, a.2) : Tn) = a from rfl, show ((b.1, b.2) : Tn) = b from rfl, good_ok, good_ok]
  cases h1 : tgood a <;> cases h2 : tgood b <;> simp_all <;> rfl
theorem mulP (a b : Tn) (ia : inI a.2) (ib : inI b.2) : f37 a b = some (bothS mulX a b) := by
 unfold bothS
 by_cases hg : tgood a = true ∧ tgood b = true
 ·rw [if_pos hg]
  by_cases hj : (jS a.1 b.1).1 = 0
  ·rw [if_pos hj]
   exact mul_of a b _ ia ib hg.1 hg.2 (by rw [joinP, ← hj]) (jS_zero hj)
  ·rw [if_neg hj]
   unfold f37 f65_68 f65_68_j2 f65_68_j3
   rw [show ((a.1, a.2) : Tn) = a from rfl, show ((b.1, b.2) : Tn) = b from rfl, good_ok, good_ok, hg.1, hg.2, joinP]
   simp only [bindF_some, Bool.not_true, cond_false, sumF_inl]
   rw [nT hj]; rfl
 ·rw [if_neg hg]
  unfold f37 f65_68 f65_68_j2 f65_68_j3
  rw [show ((a.1, a.2) : Tn) = a from rfl, show ((b.1, b.2) : Tn) = b from rfl, good_ok, good_ok]
  cases h1 : tgood a <;> cases h2 : tgood b <;> simp_all <;> rfl
theorem eachG (op : Int) (f : Int → Int → Int) (F : Int → Int → Option Int) (hF : ∀ x y, InR x → InR y → F x y = some (f x y))
  (hl : ∀ (a b : Tn) (r11 : Int × List Int) (go : (Int × List Int) → Option (List Int)) (i : Int) (l6 : List Int), f51_l4 op a b r11 go i l6 =
   bif (decide (i < (List.length l6 : Int))) then
    bindF (f88 a.1 r11.2 i) fun r18 => bindF (f88 b.1 r11.2 i) fun r19 =>
    guardF (0 ≤ r18.1 ∧ r18.1 < (List.length a.2 : Int)) <| guardF (0 ≤ r19.1 ∧ r19.1 < (List.length b.2 : Int)) <|
    bindF (F (rd (0 : Int) a.2 r18.1) (rd (0 : Int) b.2 r19.1)) fun q => guardF (0 ≤ i ∧ i < (List.length l6 : Int)) <|
    go ((IntKind.i64.wrap (i + (1 : Int))), (List.set l6 (Int.toNat i) q))
   else some l6) (a b : Tn) (ia : inI a.2) (ib : inI b.2) : f51 op a b = some (bothS f a b) := by
 unfold bothS f51 f51_j2 f51_j3
 rw [show ((a.1, a.2) : Tn) = a from rfl, show ((b.1, b.2) : Tn) = b from rfl, isR, isR]
 by_cases hg : tgood a = true ∧ tgood b = true
 ·rw [if_pos hg, hg.1, hg.2, joinR]
  simp only [bindF_some, Bool.not_true, cond_false, sumF_inl]
  by_cases hj : (jS a.1 b.1).1 = 0
  ·have J := jS_zero hj
   have hd : jS a.1 b.1 = (0, (jS a.1 b.1).2) := Prod.ext hj rfl
   generalize (jS a.1 b.1).2 = d at hd J
   simp only [hd]
   rw [if_pos trivial, nF rfl]
   simp only [cond_false]
   have hr := prd_range d
   have hp := J.pd
   have ga := (good_len hg.1).2.1
   have gb := (good_len hg.2).2.1
   rw [newR d 0 J.pd, bindF_some]
   obtain ⟨N, hN⟩ : ∃ N : Nat, prd d = (N : Int) := ⟨(prd d).toNat, by omega⟩
   rw [hN, Int.toNat_natCast]
   simp only
   rw [upto_zero N (fun i => f (rd (0 : Int) a.2 (spX a.1 d i)) (rd (0 : Int) b.2 (spX b.1 d i)))]
   have := loop_for (B := fun go (x : Int × List Int) => f51_l4 op a b (0, d) go x.1 x.2) (fun k => ((k : Int), upto N k (fun i => f (rd (0 : Int) a.2 (spX a.1 d i)) (rd (0 : Int) b.2 (spX b.1 d i))))) N
    (tabL N (fun i => f (rd (0 : Int) a.2 (spX a.1 d i)) (rd (0 : Int) b.2 (spX b.1 d i)))) ?_ ?_ (by omega)
   ·rw [show ((0 : Nat) : Int) = 0 from rfl] at this
    rw [this]; rfl
   ·intro k hk go
    simp only [hl, upto_len]
    obtain ⟨x0, x1⟩ := spX_range J.fa k (by omega)
    obtain ⟨y0, y1⟩ := spX_range J.fb k (by omega)
    have fa := fromR J.fa k (by omega) (by omega)
    have fb := fromR J.fb k (by omega) (by omega)
    rw [show accS a.1 d (k : Int) a.1.length = spX a.1 d k from rfl] at fa
    rw [show accS b.1 d (k : Int) b.1.length = spX b.1 d k from rfl] at fb
    rw [dT (by omega), cond_true, fa, bindF_some, fb, bindF_some]
    simp only
    obtain ⟨xn, hxn⟩ := Int.eq_ofNat_of_zero_le x0
    obtain ⟨yn, hyn⟩ := Int.eq_ofNat_of_zero_le y0
    have qa := inI_rd ia xn (by omega)
    have qb := inI_rd ib yn (by omega)
    rw [← hxn] at qa
    rw [← hyn] at qb
    rw [guardF_pos (by omega), guardF_pos (by omega), hF _ _ qa qb, bindF_some, guardF_pos (by omega), wrap_i64 (by omega) (by omega), Int.toNat_natCast, upto_set N k _ _ hk rfl]
    rfl
   ·intro go
    simp only [hl, upto_len]
    rw [dF (by omega), cond_false, upto_full]
  ·rw [if_neg hj, nT hj]; rfl
 ·rw [if_neg hg]
  cases h1 : tgood a <;> cases h2 : tgood b <;> simp_all <;> rfl
theorem addR (a b : Tn) (ia : inI a.2) (ib : inI b.2) : f51 0 a b = some (bothS addV a b) :=
 eachG 0 addV f89 (fun x y hx hy => rAdd x y hx.1 hx.2 hy.1 hy.2) (fun a b r go i l => rfl) a b ia ib
theorem subR (a b : Tn) (ia : inI a.2) (ib : inI b.2) : f51 1 a b = some (bothS subV a b) :=
 eachG 1 subV f90 (fun x y hx hy => rSub x y hx.1 hx.2 hy.1 hy.2) (fun a b r go i l => rfl) a b ia ib
theorem mulR (a b : Tn) (ia : inI a.2) (ib : inI b.2) : f51 2 a b = some (bothS mulX a b) :=
 eachG 2 mulX f91 (fun x y hx hy => rMul x y hx.1 hx.2 hy.1 hy.2) (fun a b r go i l => rfl) a b ia ib
def scaleS (a : Tn) (k : Int) : Int × Tn := if tgood a = true then (0, a.1, tabL a.2.length (fun i => mulX (rd (0 : Int) a.2 i) k)) else (1, [], [])
theorem scaleP (a : Tn) (k : Int) (ia : inI a.2) (hk : InR k) : f40 a k = some (scaleS a k) := scale_ok a k ia hk.1 hk.2
theorem scaleR (a : Tn) (k : Int) (ia : inI a.2) (hk : InR k) : f52 a k = some (scaleS a k) := by
 unfold f52 scaleS
 rw [show ((a.1, a.2) : Tn) = a from rfl, isR, bindF_some]
 by_cases hg : tgood a = true
 ·obtain ⟨hp, hl, _, l2⟩ := good_len hg
  rw [if_pos hg, hg, Bool.not_true, cond_false, newR a.1 0 hp, bindF_some]
  rw [show (prd a.1).toNat = a.2.length by omega]
  simp only
  rw [upto_zero _ (fun i => mulX (rd (0 : Int) a.2 i) k)]
  have := loop_for (B := fun go (x : Int × List Int) => f52_l1 a k go x.1 x.2) (fun j => ((j : Int), upto a.2.length j (fun i => mulX (rd (0 : Int) a.2 i) k))) a.2.length (tabL a.2.length (fun i => mulX (rd (0 : Int) a.2 i) k)) ?_ ?_ (by omega)
  ·rw [show ((0 : Nat) : Int) = 0 from rfl] at this
   rw [this]; rfl
  ·intro j hj go
   unfold f52_l1
   simp only [upto_len]
   have q := inI_rd ia j hj
   rw [dT (by omega), cond_true, guardF_pos (by omega), rMul _ _ q.1 q.2 hk.1 hk.2, bindF_some, guardF_pos (by omega), wrap_i64 (by omega) (by omega), Int.toNat_natCast, upto_set _ j (fun i => mulX (rd (0 : Int) a.2 i) k) (sat (rhe (rd (0 : Int) a.2 (j : Int) * k))) hj rfl]
   rfl
  ·intro go
   unfold f52_l1
   simp only [upto_len]
   rw [dF (by omega), cond_false, upto_full]
 ·rw [if_neg hg, show tgood a = false by simpa using hg]; rfl
theorem totalR (a : Tn) (ia : inI a.2) (hl : a.2.length ≤ 4096) : ∃ z, f100 a = some z ∧ Nm (PlR.sumL a.2) z := by
 unfold f100
 have key := loop_rel (B := fun go (x : Int × Bool × Int × Int × Int × Int) => f100_l1 a go x.1 x.2.1 x.2.2.1 x.2.2.2.1 x.2.2.2.2.1 x.2.2.2.2.2)
  (fun k x => x.1 = (k : Int) ∧ Nm (PlR.sumL (a.2.take k)) x.2) (fun z => Nm (PlR.sumL a.2) z) a.2.length ((0 : Int), false, (0 : Int), (0 : Int), (0 : Int), (0 : Int)) ⟨rfl, nm_zero⟩ ?_ ?_ (by omega)
 ·obtain ⟨z, e, hz⟩ := key
  rw [e]; exact ⟨_, rfl, hz⟩
 ·rintro k hk ⟨_, x⟩ ⟨rfl, hx⟩
  simp only at hx ⊢
  have q := inI_rd ia k hk
  obtain ⟨y, ey, hy⟩ := from_ok _ q.1 q.2
  have hs := PlR.sumL_bound 9223372036854775808 (by decide) (a.2.take k) (fun v hv => by have := ia v (List.mem_of_mem_take hv); omega)
  have hlt : (a.2.take k).length ≤ 4096 := by rw [List.length_take]; omega
  obtain ⟨z, ez, hz⟩ := plus_nm hx hy (by unfold Sm; omega) (by unfold Sm; omega)
  refine ⟨(((k + 1 : Nat) : Int), z), fun go => ?_, rfl, ?_⟩
  ·unfold f100_l1
   rw [dT (by omega), cond_true, guardF_pos (by omega), ey, bindF_some, ez, bindF_some, wrap_i64 (by omega) (by omega)]
   rfl
  ·have e : PlR.sumL (a.2.take (k + 1)) = PlR.sumL (a.2.take k) + rd (0 : Int) a.2 (k : Int) := by
    rw [List.take_succ_eq_append_getElem hk, PlR.sumL_app, rd_nat _ _ _ hk]
    simp [PlR.sumL]
   simp only
   rw [e]; exact hz
 ·rintro ⟨_, x⟩ ⟨rfl, hx⟩
  refine ⟨x, fun go => ?_, by simpa using hx⟩
  unfold f100_l1
  rw [dF (by simp only; omega)]; rfl
theorem sum_sm (l : List Int) (il : inI l) (hl : l.length ≤ 4096) : -37778931862957161709568 ≤ PlR.sumL l ∧ PlR.sumL l ≤ 37778931862957161709568 := by
 have := PlR.sumL_bound 9223372036854775808 (by decide) l (fun v hv => by have := il v hv; omega)
 omega
theorem allR (a : Tn) (ia : inI a.2) (hl : a.2.length ≤ 4096) : f58 a = some (sat (PlR.sumL a.2)) := by
 unfold f58
 obtain ⟨z, e, hz⟩ := totalR a ia hl
 have := sum_sm a.2 ia hl
 rw [show ((a.1, a.2) : Tn) = a from rfl, e, bindF_some, held_nm hz (by unfold Sm; omega)]; rfl
theorem allP (a : Tn) (ia : inI a.2) (hg : tgood a = true) : f44 a = some (sat (PlR.sumL a.2), 0) := by
 obtain ⟨_, _, _, hl⟩ := good_len hg
 unfold f44
 rw [show ((a.1, a.2) : Tn) = a from rfl, good_ok, hg, bindF_some, Bool.not_true, cond_false, PlR.total_ok a.2 ia hl, bindF_some]
 rw [show ((PlV.pair (PlR.sumL a.2)).1, (PlV.pair (PlR.sumL a.2)).2) = PlV.pair (PlR.sumL a.2) from rfl, PlV.fix_ok _ (PlR.far_sum a.2 ia hl)]
 rfl
theorem meanR (a : Tn) (ia : inI a.2) (h1 : 1 ≤ a.2.length) (hl : a.2.length ≤ 4096) : f59 a = some (sat (rdI (PlR.sumL a.2) a.2.length)) := by
 unfold f59
 obtain ⟨z, e, hz⟩ := totalR a ia hl
 have := sum_sm a.2 ia hl
 obtain ⟨y, ey, hy, hs⟩ := divided_nm hz (by omega) (a.2.length : Int) (by omega) (by omega) (by omega)
 rw [show ((a.1, a.2) : Tn) = a from rfl, e, bindF_some, ey, bindF_some, held_nm hy hs]; rfl
theorem meanP (a : Tn) (ia : inI a.2) (hg : tgood a = true) : f45 a = some (sat (rdI (PlR.sumL a.2) a.2.length), 0) := by
 obtain ⟨hp, hl1, _, hl⟩ := good_len hg
 have := sum_sm a.2 ia hl
 unfold f45
 rw [show ((a.1, a.2) : Tn) = a from rfl, good_ok, hg, bindF_some, Bool.not_true, cond_false, PlR.total_ok a.2 ia hl, bindF_some]
 rw [show ((PlV.pair (PlR.sumL a.2)).1, (PlV.pair (PlR.sumL a.2)).2) = PlV.pair (PlR.sumL a.2) from rfl, over_ok _ _ (by omega) (by omega) (by omega) (by omega) (by omega)]
 rfl
def bendV (kind x : Int) : Int :=
 if kind = 1 then (if x < 0 then 0 else x)
 else if kind = 2 then (if x > 0 then x else sat (rdI (x * 4294967296) 34359738368))
 else if kind = 3 then (if x > 4294967296 then 4294967296 else if x < -4294967296 then -4294967296 else x)
 else if kind = 4 then (if x < 0 then sat (-x) else x)
 else (if sat (sat (rdI (x * 4294967296) 8589934592) + 2147483648) < 0 then 0 else if sat (sat (rdI (x * 4294967296) 8589934592) + 2147483648) > 4294967296 then 4294967296 else sat (sat (rdI (x * 4294967296) 8589934592) + 2147483648))
theorem bendV_in (kind x : Int) (hx : InR x) : InR (bendV kind x) := by
 have h1 := sat_in (rdI (x * 4294967296) 34359738368)
 have h2 := sat_in (-x)
 have h3 := sat_in (sat (rdI (x * 4294967296) 8589934592) + 2147483648)
 unfold bendV InR at *
 split
 ·split <;> omega
 ·split
  ·split <;> omega
  ·split
   ·split <;> (try split) <;> omega
   ·split
    ·split <;> omega
    ·split <;> (try split) <;> omega
theorem bendR (kind x : Int) (hx : InR x) : f102 kind x = some (bendV kind x) := by
 have s1 := sat_in (rdI (x * 4294967296) 8589934592)
 unfold f102 bendV
 by_cases k1 : kind = 1
 ·rw [bT k1, if_pos k1, cond_true]
  by_cases h : x < 0
  ·rw [dT h, if_pos h]; rfl
  ·rw [dF h, if_neg h]; rfl
 rw [bF k1, if_neg k1, cond_false]
 by_cases k2 : kind = 2
 ·rw [bT k2, if_pos k2, cond_true]
  by_cases h : x > 0
  ·rw [dT h, if_pos h]; rfl
  ·rw [dF h, if_neg h, cond_false, rOf8, bindF_some, rDiv x _ hx.1 hx.2 (by decide) (by decide) (by decide)]; rfl
 rw [bF k2, if_neg k2, cond_false]
 by_cases k3 : kind = 3
 ·rw [bT k3, if_pos k3, cond_true]
  by_cases h : x > 4294967296
  ·rw [dT h, if_pos h]; rfl
  ·rw [dF h, if_neg h, cond_false]
   by_cases h : x < -4294967296
   ·rw [dT h, if_pos h]; rfl
   ·rw [dF h, if_neg h]; rfl
 rw [bF k3, if_neg k3, cond_false]
 by_cases k4 : kind = 4
 ·rw [bT k4, if_pos k4, cond_true]
  by_cases h : x < 0
  ·rw [dT h, if_pos h, cond_true, rNeg x hx.1 hx.2]; rfl
  ·rw [dF h, if_neg h]; rfl
 rw [bF k4, if_neg k4, cond_false, rOf2, bindF_some, rDiv x _ hx.1 hx.2 (by decide) (by decide) (by decide), bindF_some, rAdd _ _ s1.1 s1.2 (by decide) (by decide), bindF_some]
 generalize sat (sat (rdI (x * 4294967296) 8589934592) + 2147483648) = y
 by_cases h : y < 0
 ·rw [dT h, if_pos h]; rfl
 ·rw [dF h, if_neg h, cond_false]
  by_cases h : y > 4294967296
  ·rw [dT h, if_pos h]; rfl
  ·rw [dF h, if_neg h]; rfl
theorem pOf8 : f121 8 = some 34359738368 := by kernel_rfl
theorem pOf2 : f121 2 = some 8589934592 := by kernel_rfl
theorem negP (x : Int) (hx : InR x) (h : x < 0) : f123 x = some (sat (-x)) := by
 unfold InR at hx
 unfold f123 sat
 by_cases c : x = -9223372036854775808
 ·rw [bT c, if_pos (by omega)]; rfl
 ·rw [bF c, if_neg (by omega), if_neg (by omega), cond_false, wrap_i64 (by omega) (by omega)]
  congr 1; omega
theorem withinP (y lo hi : Int) (h : lo ≤ hi) : f122 y lo hi = some (if y > hi then hi else if y < lo then lo else y) := by
 unfold f122
 congr 1
 split <;> (try split) <;> (try split) <;> (try split) <;> omega
theorem bendP (kind x : Int) (k0 : 1 ≤ kind) (k5 : kind ≤ 5) (hx : InR x) : f85 kind x = some (bendV kind x, 0) := by
 have s1 := sat_in (rdI (x * 4294967296) 8589934592)
 unfold f85 bendV
 by_cases k1 : kind = 1
 ·rw [bT k1, if_pos k1, cond_true]
 rw [bF k1, if_neg k1, cond_false]
 by_cases k2 : kind = 2
 ·rw [bT k2, if_pos k2, cond_true]
  by_cases h : x > 0
  ·rw [dT h, if_pos h]; rfl
  ·rw [dF h, if_neg h, cond_false, pOf8, bindF_some, fdiv_ok x _ hx.1 hx.2 (by decide) (by decide) (by decide)]; rfl
 rw [bF k2, if_neg k2, cond_false]
 by_cases k3 : kind = 3
 ·rw [bT k3, if_pos k3, cond_true, withinP _ _ _ (by decide)]; rfl
 rw [bF k3, if_neg k3, cond_false]
 by_cases k4 : kind = 4
 ·rw [bT k4, if_pos k4, cond_true]
  by_cases h : x < 0
  ·rw [dT h, if_pos h, cond_true, negP x hx h]; rfl
  ·rw [dF h, if_neg h]; rfl
 rw [bF k4, if_neg k4, cond_false, bT (by omega), cond_true, pOf2, bindF_some, fdiv_ok x _ hx.1 hx.2 (by decide) (by decide) (by decide), bindF_some, addF_ok _ _ s1.1 s1.2 (by decide) (by decide), bindF_some, withinP _ _ _ (by decide), bindF_some]
 unfold addV
 generalize sat (sat (rdI (x * 4294967296) 8589934592) + 2147483648) = y
 congr 2
 split <;> (try split) <;> (try split) <;> omega
def bentS (kind : Int) (t : Tn) : Int × Tn := if 1 ≤ kind ∧ kind ≤ 5 ∧ tgood t = true then (0, t.1, tabL t.2.length (fun i => bendV kind (rd (0 : Int) t.2 i))) else (1, [], [])
theorem bentR (kind : Int) (t : Tn) (it : inI t.2) : f60 kind t = some (bentS kind t) := by
 unfold f60 bentS f60_j2 f60_j3
 rw [show ((t.1, t.2) : Tn) = t from rfl, isR]
 by_cases h : 1 ≤ kind ∧ kind ≤ 5 ∧ tgood t = true
 ·obtain ⟨hp, hl, _, l2⟩ := good_len h.2.2
  rw [if_pos h, dF (by omega), cond_false, dF (by omega), cond_false, h.2.2]
  simp only [bindF_some, Bool.not_true, cond_false, sumF_inl]
  rw [newR t.1 0 hp, bindF_some, show (prd t.1).toNat = t.2.length by omega]
  simp only
  rw [upto_zero _ (fun i => bendV kind (rd (0 : Int) t.2 i))]
  have := loop_for (B := fun go (x : Int × List Int) => f60_l4 kind t go x.1 x.2) (fun j => ((j : Int), upto t.2.length j (fun i => bendV kind (rd (0 : Int) t.2 i)))) t.2.length (tabL t.2.length (fun i => bendV kind (rd (0 : Int) t.2 i))) ?_ ?_ (by omega)
  ·rw [show ((0 : Nat) : Int) = 0 from rfl] at this
   rw [this]; rfl
  ·intro j hj go
   unfold f60_l4
   simp only [upto_len]
   rw [dT (by omega), cond_true, guardF_pos (by omega), bendR _ _ (inI_rd it j hj), bindF_some, guardF_pos (by omega), wrap_i64 (by omega) (by omega), Int.toNat_natCast, upto_set _ j _ _ hj rfl]
   rfl
  ·intro go
   unfold f60_l4
   simp only [upto_len]
   rw [dF (by omega), cond_false, upto_full]
 ·rw [if_neg h]
  by_cases h1 : kind < 1
  ·rw [dT h1]; rfl
  ·rw [dF h1, cond_false]
   by_cases h2 : kind > 5
   ·rw [dT h2]; rfl
   ·rw [dF h2, cond_false, show tgood t = false by cases ht : tgood t; rfl; exact absurd ⟨by omega, by omega, ht⟩ h]; rfl
theorem bentP (kind : Int) (t : Tn) (it : inI t.2) : f46 kind t = some (bentS kind t) := by
 unfold f46 bentS f46_j2 f46_j3 f84
 rw [show ((t.1, t.2) : Tn) = t from rfl, good_ok]
 by_cases h : 1 ≤ kind ∧ kind ≤ 5 ∧ tgood t = true
 ·obtain ⟨hp, hl, l1, l2⟩ := good_len h.2.2
  rw [if_pos h, dT (by omega), cond_true, bindF_some, dT (show kind ≤ 5 by omega), h.2.2]
  simp only [bindF_some, Bool.not_true, cond_false, sumF_inl]
  rw [copy_t t (by omega) (by omega), bindF_some]
  have := loop_for (B := fun go (x : Int × List Int) => f46_l4 kind t go x.1 x.2) (fun j => ((j : Int), tabL t.2.length (fun i => if i < j then bendV kind (rd (0 : Int) t.2 i) else rd (0 : Int) t.2 i))) t.2.length (tabL t.2.length (fun i => bendV kind (rd (0 : Int) t.2 i))) ?_ ?_ (by omega)
  ·have e0 : tabL t.2.length (fun i => if i < 0 then bendV kind (rd (0 : Int) t.2 i) else rd (0 : Int) t.2 i) = t.2 := by
    apply List.ext_getElem (tab_len _ _)
    intro i h1 h2
    rw [tab_get, if_neg (by omega), rd_nat _ _ _ h2]
   rw [show ((0 : Nat) : Int) = 0 from rfl, e0] at this
   rw [this]; rfl
  ·intro j hj go
   unfold f46_l4
   simp only [tab_len]
   rw [dT (by omega), cond_true, guardF_pos (by omega), bendP _ _ h.1 h.2.1 (inI_rd it j hj), bindF_some, guardF_pos (by omega), wrap_i64 (by omega) (by omega), Int.toNat_natCast, tab_set]
   congr 1
   refine Prod.ext rfl (tab_ext _ _ _ (fun i hi => ?_))
   by_cases hik : i = j
   ·rw [if_pos hik, if_pos (by omega), hik]
   ·rw [if_neg hik]
    by_cases h2 : i < j
    ·rw [if_pos h2, if_pos (by omega)]
    ·rw [if_neg h2, if_neg (by omega)]
  ·intro go
   unfold f46_l4
   simp only
   rw [dF (by omega), cond_false]
   congr 1
   exact tab_ext _ _ _ (fun i hi => by rw [if_pos hi])
 ·rw [if_neg h]
  by_cases h1 : kind ≥ 1
  ·rw [dT h1, cond_true, bindF_some]
   by_cases h2 : kind ≤ 5
   ·rw [dT h2, Bool.not_true, cond_false, bindF_some, show tgood t = false by cases ht : tgood t; rfl; exact absurd ⟨by omega, by omega, ht⟩ h]; rfl
   ·rw [dF h2]; rfl
  ·rw [dF h1]; rfl
def reshS (a : Tn) (d : List Int) : Int × Tn := if tgood a = true ∧ 0 < prd d then (if prd d = a.2.length then (0, d, a.2) else (4, [], [])) else (1, [], [])
theorem reshR (a : Tn) (d : List Int) : f63 a d = some (reshS a d) := by
 unfold f63 reshS f63_j2 f63_j3
 rw [show ((a.1, a.2) : Tn) = a from rfl, isR, goodR, sizeR]
 by_cases h : tgood a = true ∧ 0 < prd d
 ·obtain ⟨_, _, _, l2⟩ := good_len h.1
  have := prd_len h.2
  rw [if_pos h, h.1, dT (show prd d > 0 from h.2)]
  simp only [bindF_some, Bool.not_true, cond_false, sumF_inl]
  by_cases h2 : prd d = a.2.length
  ·rw [if_pos h2, nF h2, cond_false, guardF_pos (by simp; omega), guardF_pos (by simp; omega)]; rfl
  ·rw [if_neg h2, nT h2]; rfl
 ·rw [if_neg h]
  cases h1 : tgood a
  ·rfl
  ·rw [dF (fun h3 => h ⟨h1, h3⟩)]; rfl
theorem reshP (a : Tn) (d : List Int) : f48 a d = some (reshS a d) := by
 unfold f48 reshS f48_j2 f48_j3
 rw [show ((a.1, a.2) : Tn) = a from rfl, good_ok, shapeGood_ok, PlB.size_ok]
 by_cases h : tgood a = true ∧ 0 < prd d
 ·obtain ⟨_, _, _, l2⟩ := good_len h.1
  have := prd_len h.2
  rw [if_pos h, h.1, dT (show prd d > 0 from h.2)]
  simp only [bindF_some, Bool.not_true, cond_false]
  by_cases h2 : prd d = a.2.length
  ·rw [if_pos h2, nF h2, cond_false, bindF_some, sumF_inl, clone_d d (by omega), bindF_some, clone_v a.2 (by omega)]; rfl
  ·rw [if_neg h2, nT h2]; rfl
 ·rw [if_neg h]
  cases h1 : tgood a
  ·rfl
  ·rw [dF (fun h3 => h ⟨h1, h3⟩)]; rfl
end Go.Proofs.Op
namespace Go.Proofs.Op
open Go.AM Go.Proofs.PlB Go.Proofs.PlW Go.Proofs.PlT Go.Proofs.PlS Go.Proofs.Sh Go.Proofs.Num Go.Proofs.Div
end Go.Proofs.Op
namespace Go.Proofs.Cv
open Go.AM Go.Proofs.PlB Go.Proofs.PlW Go.Proofs.PlT Go.Proofs.PlS Go.Proofs.Sh Go.Proofs.Num Go.Proofs.Div Go.Proofs.Op
def sg (F : Nat → Int) : Nat → Int
 | 0 => 0
 | k + 1 => sg F k + F k
theorem sg_congr {F G : Nat → Int} : ∀ n, (∀ k, k < n → F k = G k) → sg F n = sg G n
 | 0, _ => rfl
 | n + 1, h => by simp only [sg]; rw [sg_congr n (fun k hk => h k (by omega)), h n (by omega)]
def Pb (x : Int) : Prop := -85070591730234615865843651857942052864 ≤ x ∧ x ≤ 85070591730234615865843651857942052864
theorem pb_mul {a b : Int} (ha : InR a) (hb : InR b) : Pb (a * b) := prod_bound a b ha.1 ha.2 hb.1 hb.2
theorem sg_bd (F : Nat → Int) : ∀ n, (∀ k, k < n → Pb (F k)) → -(n * 85070591730234615865843651857942052864) ≤ sg F n ∧ sg F n ≤ n * 85070591730234615865843651857942052864
 | 0, _ => by simp [sg]
 | n + 1, h => by
  have := sg_bd F n (fun k hk => h k (by omega))
  have h2 := h n (by omega)
  unfold Pb at h2
  simp only [sg]
  constructor <;> omega
theorem sg_sm (F : Nat → Int) (n : Nat) (hn : n ≤ 4096) (h : ∀ k, k < n → Pb (F k)) : -1000000000000000000000000000000000000000000 ≤ sg F n ∧ sg F n ≤ 1000000000000000000000000000000000000000000 := by
 have := sg_bd F n h
 omega
def acc (S : Int) : Int × Int × Int := (S / 340282366920938463463374607431768211456, IntKind.i64.wrap (S / 18446744073709551616), S % 18446744073709551616)
theorem acc_zero : acc 0 = (0, 0, 0) := by
 unfold acc
 rw [show (0 : Int) / 340282366920938463463374607431768211456 = 0 by omega, show (0 : Int) / 18446744073709551616 = 0 by omega, show (0 : Int) % 18446744073709551616 = 0 by omega, wrap_i64 (by omega) (by omega)]
theorem acc_plus (S a b : Int) (hs : -1000000000000000000000000000000000000000000 ≤ S ∧ S ≤ 1000000000000000000000000000000000000000000) (ha : InR a) (hb : InR b) :
  f75 (acc S).1 (acc S).2.1 (acc S).2.2 a b = some (acc (S + a * b)) := plus_ok S a b (by omega) (by omega) ha.1 ha.2 hb.1 hb.2
theorem acc_fix (S : Int) (hs : -1000000000000000000000000000000000000000000 ≤ S ∧ S ≤ 1000000000000000000000000000000000000000000) :
  ∃ z, f76 (acc S).1 (acc S).2.1 (acc S).2.2 32 = some (sat (rhe S), z) := by
 obtain ⟨x, y, z, e⟩ := accFix_ok S (by omega) (by omega)
 exact ⟨_, e⟩
theorem progdot {B : (Int × Int × Int × Int → Option (Int × Int × Int)) → Int × Int × Int × Int → Option (Int × Int × Int)} (F : Nat → Int) (m n : Nat) (a b : Nat → Int) (hmn : m + n ≤ 4096)
  (hF : ∀ k, k < n → F (m + k) = a k * b k) (ha : ∀ k, k < n → InR (a k)) (hb : ∀ k, k < n → InR (b k)) (hp : ∀ t, t < m + n → Pb (F t))
  (hs : ∀ k, k < n → ∀ z go, B go ((k : Int), z) = bindF (f75 z.1 z.2.1 z.2.2 (a k) (b k)) fun q => go (((k + 1 : Nat) : Int), q))
  (he : ∀ z go, B go ((n : Int), z) = some z) : loopF B fuelN ((0 : Int), acc (sg F m)) = some (acc (sg F (m + n))) := by
 refine loop_for (B := B) (fun k => ((k : Int), acc (sg F (m + k)))) n (acc (sg F (m + n))) ?_ ?_ (by omega)
 ·intro k hk go
  rw [hs k hk, acc_plus _ _ _ (sg_sm F (m + k) (by omega) (fun t ht => hp t (by omega))) (ha k hk) (hb k hk), bindF_some, ← hF k hk]
  rfl
 ·intro go; exact he _ go
theorem refdot {B : (Int × Bool × Int × Int × Int × Int → Option (Bool × Int × Int × Int × Int)) → Int × Bool × Int × Int × Int × Int → Option (Bool × Int × Int × Int × Int)} (F : Nat → Int) (m n : Nat) (a b : Nat → Int) (hmn : m + n ≤ 4096)
  (hF : ∀ k, k < n → F (m + k) = a k * b k) (ha : ∀ k, k < n → InR (a k)) (hb : ∀ k, k < n → InR (b k)) (hp : ∀ t, t < m + n → Pb (F t))
  (hs : ∀ k, k < n → ∀ z go, B go ((k : Int), z) = bindF (f93 (a k) (b k)) fun q => bindF (f92 z.1 z.2.1 z.2.2.1 z.2.2.2.1 z.2.2.2.2 q.1 q.2.1 q.2.2.1 q.2.2.2.1 q.2.2.2.2) fun q => go (((k + 1 : Nat) : Int), q))
  (he : ∀ z go, B go ((n : Int), z) = some z) (x : Bool × Int × Int × Int × Int) (hx : Nm (sg F m) x) : ∃ z, loopF B fuelN ((0 : Int), x) = some z ∧ Nm (sg F (m + n)) z := by
 refine loop_rel (B := B) (fun k y => y.1 = (k : Int) ∧ Nm (sg F (m + k)) y.2) (fun z => Nm (sg F (m + n)) z) n ((0 : Int), x) ⟨rfl, hx⟩ ?_ ?_ (by omega)
 ·rintro k hk ⟨_, y⟩ ⟨rfl, hy⟩
  simp only at hy
  have qa := ha k hk
  have qb := hb k hk
  obtain ⟨t, et, ht⟩ := times_nm (a k) (b k) qa.1 qa.2 qb.1 qb.2
  have s1 := sg_sm F (m + k) (by omega) (fun t ht => hp t (by omega))
  have s2 := pb_mul qa qb
  unfold Pb at s2
  have t1 : Sm (sg F (m + k)) := by unfold Sm; omega
  have t2 : Sm (a k * b k) := by unfold Sm; omega
  obtain ⟨z, ez, hz⟩ := plus_nm hy ht t1 t2
  refine ⟨(((k + 1 : Nat) : Int), z), fun go => ?_, rfl, ?_⟩
  ·rw [hs k hk, et, bindF_some, ez, bindF_some]
  ·rw [← hF k hk] at hz; exact hz
 ·rintro ⟨_, y⟩ ⟨rfl, hy⟩
  exact ⟨y, fun go => he y go, hy⟩
theorem ref_end {S : Int} {x : Bool × Int × Int × Int × Int} (hx : Nm S x) (hs : -1000000000000000000000000000000000000000000 ≤ S ∧ S ≤ 1000000000000000000000000000000000000000000) :
  ∃ z, f95 x.1 x.2.1 x.2.2.1 x.2.2.2.1 x.2.2.2.2 32 = some z ∧ f94 z.1 z.2.1 z.2.2.1 z.2.2.2.1 z.2.2.2.2 = some (sat (rhe S)) := by
 obtain ⟨z, ez, hz⟩ := halved_nm hx (by unfold Sm; omega)
 exact ⟨z, ez, held_nm hz (sm_rhe hs)⟩
theorem wnat {n : Nat} (h : n < 1000000000) : IntKind.i64.wrap (n : Int) = (n : Int) := wrap_i64 (by omega) (by omega)
theorem wmul (a b : Nat) (h : a * b < 1000000000) : IntKind.i64.wrap ((a : Int) * b) = ((a * b : Nat) : Int) := by rw [← Int.natCast_mul]; exact wnat h
theorem wadd (a b : Nat) (h : a + b < 1000000000) : IntKind.i64.wrap ((a : Int) + b) = ((a + b : Nat) : Int) := by rw [← Int.natCast_add]; exact wnat h
theorem wsucc (a : Nat) (h : a < 100000000) : IntKind.i64.wrap ((a : Int) + 1) = ((a + 1 : Nat) : Int) := wadd a 1 (by omega)
theorem ixA (x L n s y : Nat) (h : x * L + n * s + y < 1000000) : IntKind.i64.wrap (IntKind.i64.wrap (IntKind.i64.wrap ((x : Int) * L) + IntKind.i64.wrap ((n : Int) * s)) + y) = ((x * L + n * s + y : Nat) : Int) := by
 rw [wmul x L (by omega), wmul n s (by omega), wadd _ _ (by omega), wadd _ _ (by omega)]
theorem ixM (i c x : Nat) (h : i * c + x < 1000000) : IntKind.i64.wrap (IntKind.i64.wrap ((i : Int) * c) + x) = ((i * c + x : Nat) : Int) := by
 rw [wmul i c (by omega), wadd _ _ (by omega)]
theorem ixK (i c x w y : Nat) (hw : 1 ≤ w) (h : (i * c + x) * w + y < 1000000) : IntKind.i64.wrap (IntKind.i64.wrap (IntKind.i64.wrap (IntKind.i64.wrap ((i : Int) * c) + x) * w) + y) = (((i * c + x) * w + y : Nat) : Int) := by
 have : i * c + x ≤ (i * c + x) * w := Nat.le_mul_of_pos_right _ hw
 rw [ixM i c x (by omega), wmul _ _ (by omega), wadd _ _ (by omega)]
theorem rdIn {l : List Int} (h : inI l) {i : Nat} (hi : i < l.length) : InR (rd (0 : Int) l (i : Int)) := inI_rd h i hi
theorem in_mat {x y c L : Nat} (hx : x < c) (hy : y < L) : x * L + y < c * L := by
 have : (x + 1) * L ≤ c * L := Nat.mul_le_mul_right _ hx
 rw [Nat.add_mul, Nat.one_mul] at this
 omega
theorem div_mat {x y L : Nat} (hy : y < L) : (x * L + y) / L = x ∧ (x * L + y) % L = y := by
 have h0 : 0 < L := by omega
 constructor
 ·rw [Nat.mul_comm, Nat.mul_add_div h0, Nat.div_eq_of_lt hy, Nat.add_zero]
 ·rw [Nat.mul_comm, Nat.mul_add_mod, Nat.mod_eq_of_lt hy]
end Go.Proofs.Cv
namespace Go.Proofs.Cv
open Go.AM Go.Proofs.PlB Go.Proofs.PlW Go.Proofs.PlT Go.Proofs.PlS Go.Proofs.Sh Go.Proofs.Num Go.Proofs.Div Go.Proofs.Op
def many (L w s : Nat) : Nat := (L - w) / s + 1
def rowF (A K : List Int) (c L w s i n t : Nat) : Int := rd (0 : Int) A ((t / w * L + n * s + t % w : Nat) : Int) * rd (0 : Int) K ((i * (c * w) + t : Nat) : Int)
def rowV (A K : List Int) (c L w s q : Nat) : Int := sat (rhe (sg (rowF A K c L w s (q / many L w s) (q % many L w s)) (c * w)))
theorem step_in {L w s n y : Nat} (hw : w ≤ L) (hn : n < many L w s) (hy : y < w) (hs : 1 ≤ s) : n * s + y < L := by
 unfold many at hn
 have h1 : n ≤ (L - w) / s := by omega
 have h2 : n * s ≤ (L - w) / s * s := Nat.mul_le_mul_right _ h1
 have h3 : (L - w) / s * s ≤ L - w := Nat.div_mul_le_self _ _
 omega
theorem prod3 {o c w : Int} (h : 0 < prd [o, c, w]) : 1 ≤ o ∧ 1 ≤ c ∧ 1 ≤ w ∧ prd [o, c, w] = o * (c * w) := by
 obtain ⟨e, h1, _⟩ := prd_prod h
 refine ⟨(h1 o (by simp)).1, (h1 c (by simp)).1, (h1 w (by simp)).1, ?_⟩
 rw [e]; simp [prodL]
theorem prod2 {c L : Int} (h : 0 < prd [c, L]) : 1 ≤ c ∧ 1 ≤ L ∧ prd [c, L] = c * L := by
 obtain ⟨e, h1, _⟩ := prd_prod h
 refine ⟨(h1 c (by simp)).1, (h1 L (by simp)).1, ?_⟩
 rw [e]; simp [prodL]
section
variable (A K : List Int) (c L o w s : Nat) (c1 : 1 ≤ c) (w1 : 1 ≤ w) (hA : A.length = c * L) (hK : K.length = o * (c * w)) (bA : c * L ≤ 4096) (bK : o * (c * w) ≤ 4096) (hw : w ≤ L) (s1 : 1 ≤ s) (s64 : s ≤ 64) (iA : inI A) (iK : inI K)
include c1 w1 hA hK bA bK hw s1 s64 iA iK
theorem row_a {n x y : Nat} (hn : n < many L w s) (hx : x < c) (hy : y < w) : x * L + n * s + y < A.length := by
 have h1 := step_in hw hn hy s1
 have h2 := in_mat (c := c) hx h1
 rw [hA]; omega
theorem row_k {i x y : Nat} (hi : i < o) (hx : x < c) (hy : y < w) : (i * c + x) * w + y < K.length ∧ (i * c + x) * w + y = i * (c * w) + (x * w + y) := by
 have e : (i * c + x) * w + y = i * (c * w) + (x * w + y) := by rw [Nat.add_mul, Nat.mul_assoc]; omega
 refine ⟨?_, e⟩
 rw [e, hK]
 exact in_mat hi (in_mat hx hy)
theorem row_f {i n x y : Nat} (hy : y < w) : rowF A K c L w s i n (x * w + y) = rd (0 : Int) A ((x * L + n * s + y : Nat) : Int) * rd (0 : Int) K (((i * c + x) * w + y : Nat) : Int) := by
 unfold rowF
 obtain ⟨d1, d2⟩ := div_mat (x := x) hy
 have e : (i * c + x) * w + y = i * (c * w) + (x * w + y) := by rw [Nat.add_mul, Nat.mul_assoc]; omega
 rw [d1, d2, e]
theorem row_p {i n t : Nat} (hi : i < o) (hn : n < many L w s) (ht : t < c * w) : Pb (rowF A K c L w s i n t) := by
 have hx : t / w < c := Nat.div_lt_of_lt_mul (by rw [Nat.mul_comm]; exact ht)
 have hy : t % w < w := Nat.mod_lt _ w1
 have e : t / w * w + t % w = t := by rw [Nat.mul_comm]; exact Nat.div_add_mod t w
 have := row_f A K c L o w s c1 w1 hA hK bA bK hw s1 s64 iA iK (i := i) (n := n) (x := t / w) hy
 rw [e] at this
 rw [this]
 exact pb_mul (rdIn iA (row_a A K c L o w s c1 w1 hA hK bA bK hw s1 s64 iA iK hn hx hy)) (rdIn iK (row_k A K c L o w s c1 w1 hA hK bA bK hw s1 s64 iA iK hi hx hy).1)
theorem row_cw (ho : 1 ≤ o) : c * w ≤ 4096 := Nat.le_trans (Nat.le_mul_of_pos_left _ ho) bK
theorem row_sumP (q : Nat) (hq : q < o * many L w s) :
  loopF (fun go (x : Int × Int × Int × Int) => f39_l17 ([(c : Int), (L : Int)], A) ([(o : Int), (c : Int), (w : Int)], K) s (many L w s : Int) (q : Int) go x.1 x.2.1 x.2.2.1 x.2.2.2) fuelN ((0 : Int), (0 : Int), (0 : Int), (0 : Int))
   = some (acc (sg (rowF A K c L w s (q / many L w s) (q % many L w s)) (c * w))) := by
 have m1 : 1 ≤ many L w s := Nat.le_add_left 1 _
 have ho : 1 ≤ o := Nat.pos_of_ne_zero (fun h => by rw [h, Nat.zero_mul] at hq; exact absurd hq (Nat.not_lt_zero _))
 have hcw := row_cw A K c L o w s c1 w1 hA hK bA bK hw s1 s64 iA iK ho
 have hi : q / many L w s < o := Nat.div_lt_of_lt_mul (by rw [Nat.mul_comm]; exact hq)
 have hn : q % many L w s < many L w s := Nat.mod_lt _ m1
 have eI : IntKind.i64.wrap (Int.tdiv (q : Int) (many L w s : Int)) = ((q / many L w s : Nat) : Int) := by
  rw [Int.tdiv_eq_ediv_of_nonneg (by omega), ← Int.natCast_ediv]
  have : q / many L w s ≤ q := Nat.div_le_self _ _
  have hl : many L w s ≤ 4097 := by unfold many; have := Nat.div_le_self (L - w) s; have : L ≤ c * L := Nat.le_mul_of_pos_left _ c1; omega
  have : o ≤ o * (c * w) := Nat.le_mul_of_pos_right _ (Nat.mul_pos c1 w1)
  exact wnat (by omega)
 have eN : Int.tmod (q : Int) (many L w s : Int) = ((q % many L w s : Nat) : Int) := by
  rw [Int.tmod_eq_emod_of_nonneg (by omega), ← Int.natCast_emod]
 generalize q / many L w s = i at *
 generalize q % many L w s = n at *
 have h := loop_for (B := fun go (x : Int × Int × Int × Int) => f39_l17 ([(c : Int), (L : Int)], A) ([(o : Int), (c : Int), (w : Int)], K) s (many L w s : Int) (q : Int) go x.1 x.2.1 x.2.2.1 x.2.2.2)
  (fun x => ((x : Int), acc (sg (rowF A K c L w s i n) (x * w)))) c (acc (sg (rowF A K c L w s i n) (c * w))) ?_ ?_ (by have : c ≤ c * w := Nat.le_mul_of_pos_right _ w1; omega)
 ·rw [Nat.zero_mul] at h
  have e0 : acc (sg (rowF A K c L w s i n) 0) = ((0 : Int), (0 : Int), (0 : Int)) := acc_zero
  rw [e0] at h
  exact h
 ·intro x hx go
  have hc : c ≤ c * w := Nat.le_mul_of_pos_right _ w1
  unfold f39_l17
  simp only
  rw [show rd (0 : Int) [(c : Int), (L : Int)] 0 = (c : Int) from rfl, dT (by omega), cond_true]
  have hxw : x * w + w ≤ c * w := by have := Nat.mul_le_mul_right w (show x + 1 ≤ c from hx); rw [Nat.add_mul, Nat.one_mul] at this; exact this
  have inner := progdot (B := fun go (z : Int × Int × Int × Int) => f39_l18 ([(c : Int), (L : Int)], A) ([(o : Int), (c : Int), (w : Int)], K) s (many L w s : Int) (q : Int) (x : Int) go z.1 z.2.1 z.2.2.1 z.2.2.2)
   (rowF A K c L w s i n) (x * w) w (fun y => rd (0 : Int) A ((x * L + n * s + y : Nat) : Int)) (fun y => rd (0 : Int) K (((i * c + x) * w + y : Nat) : Int)) (by omega)
   (fun y hy => row_f A K c L o w s c1 w1 hA hK bA bK hw s1 s64 iA iK hy)
   (fun y hy => rdIn iA (row_a A K c L o w s c1 w1 hA hK bA bK hw s1 s64 iA iK hn hx hy)) (fun y hy => rdIn iK (row_k A K c L o w s c1 w1 hA hK bA bK hw s1 s64 iA iK hi hx hy).1)
   (fun t ht => row_p A K c L o w s c1 w1 hA hK bA bK hw s1 s64 iA iK hi hn (by omega)) ?_ ?_
  ·have e : sg (rowF A K c L w s i n) (x * w + w) = sg (rowF A K c L w s i n) ((x + 1) * w) := by rw [Nat.add_mul, Nat.one_mul]
   rw [e] at inner
   have inner' : loopF (fun go (z : Int × Int × Int × Int) => f39_l18 ([(c : Int), (L : Int)], A) ([(o : Int), (c : Int), (w : Int)], K) s (many L w s : Int) (q : Int) (x : Int) go z.1 z.2.1 z.2.2.1 z.2.2.2) fuelN ((0 : Int), (acc (sg (rowF A K c L w s i n) (x * w))).1, (acc (sg (rowF A K c L w s i n) (x * w))).2.1, (acc (sg (rowF A K c L w s i n) (x * w))).2.2) = _ := inner
   rw [inner', bindF_some, wsucc x (by omega)]
  ·intro y hy z go
   have ha := row_a A K c L o w s c1 w1 hA hK bA bK hw s1 s64 iA iK hn hx hy
   have hk := (row_k A K c L o w s c1 w1 hA hK bA bK hw s1 s64 iA iK hi hx hy).1
   unfold f39_l18
   simp only
   rw [show rd (0 : Int) [(o : Int), (c : Int), (w : Int)] 2 = (w : Int) from rfl, show rd (0 : Int) [(c : Int), (L : Int)] 1 = (L : Int) from rfl, show rd (0 : Int) [(c : Int), (L : Int)] 0 = (c : Int) from rfl, dT (by omega), cond_true, eI, eN,
    ixA x L n s y (by omega), ixK i c x w y w1 (by omega), guardF_pos (by omega), guardF_pos (by omega), wsucc y (by omega)]
  ·intro z go
   unfold f39_l18
   simp only
   rw [show rd (0 : Int) [(o : Int), (c : Int), (w : Int)] 2 = (w : Int) from rfl, dF (by omega), cond_false]
 ·intro go
  unfold f39_l17
  simp only
  rw [show rd (0 : Int) [(c : Int), (L : Int)] 0 = (c : Int) from rfl, dF (by omega), cond_false]
theorem row_sumR (i n : Nat) (hi : i < o) (hn : n < many L w s) :
  ∃ z, loopF (fun go (x : Int × Bool × Int × Int × Int × Int) => f61_l45 ([(c : Int), (L : Int)], A) ([(o : Int), (c : Int), (w : Int)], K) s (i : Int) (n : Int) go x.1 x.2.1 x.2.2.1 x.2.2.2.1 x.2.2.2.2.1 x.2.2.2.2.2) fuelN ((0 : Int), false, (0 : Int), (0 : Int), (0 : Int), (0 : Int)) = some z ∧
   Nm (sg (rowF A K c L w s i n) (c * w)) z := by
 have ho : 1 ≤ o := by omega
 have hcw := row_cw A K c L o w s c1 w1 hA hK bA bK hw s1 s64 iA iK ho
 have hc : c ≤ c * w := Nat.le_mul_of_pos_right _ w1
 refine loop_rel (B := fun go (x : Int × Bool × Int × Int × Int × Int) => f61_l45 ([(c : Int), (L : Int)], A) ([(o : Int), (c : Int), (w : Int)], K) s (i : Int) (n : Int) go x.1 x.2.1 x.2.2.1 x.2.2.2.1 x.2.2.2.2.1 x.2.2.2.2.2)
  (fun x y => y.1 = (x : Int) ∧ Nm (sg (rowF A K c L w s i n) (x * w)) y.2) (fun z => Nm (sg (rowF A K c L w s i n) (c * w)) z) c _ ⟨rfl, by rw [Nat.zero_mul]; exact nm_zero⟩ ?_ ?_ (by omega)
 ·rintro x hx ⟨_, u⟩ ⟨rfl, hu⟩
  simp only at hu
  have hxw : x * w + w ≤ c * w := by have := Nat.mul_le_mul_right w (show x + 1 ≤ c from hx); rw [Nat.add_mul, Nat.one_mul] at this; exact this
  obtain ⟨z, ez, hz⟩ := refdot (B := fun go (z : Int × Bool × Int × Int × Int × Int) => f61_l46 ([(c : Int), (L : Int)], A) ([(o : Int), (c : Int), (w : Int)], K) s (i : Int) (n : Int) (x : Int) go z.1 z.2.1 z.2.2.1 z.2.2.2.1 z.2.2.2.2.1 z.2.2.2.2.2)
   (rowF A K c L w s i n) (x * w) w (fun y => rd (0 : Int) A ((x * L + n * s + y : Nat) : Int)) (fun y => rd (0 : Int) K (((i * c + x) * w + y : Nat) : Int)) (by omega)
   (fun y hy => row_f A K c L o w s c1 w1 hA hK bA bK hw s1 s64 iA iK hy)
   (fun y hy => rdIn iA (row_a A K c L o w s c1 w1 hA hK bA bK hw s1 s64 iA iK hn hx hy)) (fun y hy => rdIn iK (row_k A K c L o w s c1 w1 hA hK bA bK hw s1 s64 iA iK hi hx hy).1)
   (fun t ht => row_p A K c L o w s c1 w1 hA hK bA bK hw s1 s64 iA iK hi hn (by omega)) (by
    intro y hy z go
    have ha := row_a A K c L o w s c1 w1 hA hK bA bK hw s1 s64 iA iK hn hx hy
    have hk := (row_k A K c L o w s c1 w1 hA hK bA bK hw s1 s64 iA iK hi hx hy).1
    unfold f61_l46
    simp only
    rw [show rd (0 : Int) [(o : Int), (c : Int), (w : Int)] 2 = (w : Int) from rfl, show rd (0 : Int) [(c : Int), (L : Int)] 1 = (L : Int) from rfl, show rd (0 : Int) [(c : Int), (L : Int)] 0 = (c : Int) from rfl, dT (by omega), cond_true,
     ixA x L n s y (by omega), ixK i c x w y w1 (by omega), guardF_pos (by omega), guardF_pos (by omega), wsucc y (by omega)]) (by
    intro z go
    unfold f61_l46
    simp only
    rw [show rd (0 : Int) [(o : Int), (c : Int), (w : Int)] 2 = (w : Int) from rfl, dF (by omega), cond_false]) u hu
  refine ⟨(((x + 1 : Nat) : Int), z), fun go => ?_, rfl, by simp only; rw [Nat.add_mul, Nat.one_mul]; exact hz⟩
  unfold f61_l45
  simp only
  have ez' : loopF (fun go (z : Int × Bool × Int × Int × Int × Int) => f61_l46 ([(c : Int), (L : Int)], A) ([(o : Int), (c : Int), (w : Int)], K) s (i : Int) (n : Int) (x : Int) go z.1 z.2.1 z.2.2.1 z.2.2.2.1 z.2.2.2.2.1 z.2.2.2.2.2) fuelN ((0 : Int), u.1, u.2.1, u.2.2.1, u.2.2.2.1, u.2.2.2.2) = some z := ez
  rw [show rd (0 : Int) [(c : Int), (L : Int)] 0 = (c : Int) from rfl, dT (by omega), cond_true, ez', bindF_some, wsucc x (by omega)]
 ·rintro ⟨_, u⟩ ⟨rfl, hu⟩
  refine ⟨u, fun go => ?_, hu⟩
  unfold f61_l45
  simp only
  rw [show rd (0 : Int) [(c : Int), (L : Int)] 0 = (c : Int) from rfl, dF (by omega), cond_false]
end
end Go.Proofs.Cv
namespace Go.Proofs.Cv
open Go.AM Go.Proofs.PlB Go.Proofs.PlW Go.Proofs.PlT Go.Proofs.PlS Go.Proofs.Sh Go.Proofs.Num Go.Proofs.Div Go.Proofs.Op
theorem win_eq (L w s : Nat) (hw : w ≤ L) (hl : L ≤ 100000) : IntKind.i64.wrap (IntKind.i64.wrap (Int.tdiv (IntKind.i64.wrap ((L : Int) - (w : Int))) (s : Int)) + 1) = (many L w s : Int) := by
 have e : (L : Int) - (w : Int) = ((L - w : Nat) : Int) := by omega
 have := Nat.div_le_self (L - w) s
 rw [e, wnat (by omega), Int.tdiv_eq_ediv_of_nonneg (by omega), ← Int.natCast_ediv, wnat (by omega), wsucc _ (by omega)]
 rfl
theorem winP (L w s : Nat) (hw : w ≤ L) (hl : L ≤ 100000) (s1 : 1 ≤ s) : f73 (L : Int) (w : Int) (s : Int) = some (many L w s : Int) := by
 unfold f73
 rw [dF (by omega), cond_false, guardF_pos (by omega), win_eq L w s hw hl]
theorem of_ok (d : List Int) : f74 d = some (if 0 < prd d then (0, d, List.replicate (prd d).toNat 0) else (2, [], [])) := by
 unfold f74
 rw [new_ok]
 by_cases h : 0 < prd d
 ·rw [if_pos h, if_pos h, bindF_some, nF rfl]; rfl
 ·rw [if_neg h, if_neg h, bindF_some, nT (by decide : ¬ (1 : Int) = 0)]; rfl
section
variable (A K : List Int) (c L o w s : Nat) (c1 : 1 ≤ c) (w1 : 1 ≤ w) (hA : A.length = c * L) (hK : K.length = o * (c * w)) (bA : c * L ≤ 4096) (bK : o * (c * w) ≤ 4096) (hw : w ≤ L) (s1 : 1 ≤ s) (s64 : s ≤ 64) (iA : inI A) (iK : inI K) (o1 : 1 ≤ o)
include c1 w1 hA hK bA bK hw s1 s64 iA iK o1
theorem row_loopP (n0 : 0 < prd [(o : Int), (many L w s : Int)]) :
  loopF (fun go (x : Int × List Int) => f39_l14 ([(c : Int), (L : Int)], A) ([(o : Int), (c : Int), (w : Int)], K) s (many L w s : Int) (0, [(o : Int), (many L w s : Int)], List.replicate (o * many L w s) 0) go x.1 x.2) fuelN ((0 : Int), List.replicate (o * many L w s) 0) = some (tabL (o * many L w s) (rowV A K c L w s)) := by
 have hp := (prod2 n0).2.2
 have hr := prd_range [(o : Int), (many L w s : Int)]
 have hN : ((o * many L w s : Nat) : Int) ≤ 4096 := by rw [Int.natCast_mul]; omega
 rw [upto_zero _ (rowV A K c L w s)]
 have h := loop_for (B := fun go (x : Int × List Int) => f39_l14 ([(c : Int), (L : Int)], A) ([(o : Int), (c : Int), (w : Int)], K) s (many L w s : Int) (0, [(o : Int), (many L w s : Int)], upto (o * many L w s) 0 (rowV A K c L w s)) go x.1 x.2) (fun q => ((q : Int), upto (o * many L w s) q (rowV A K c L w s))) (o * many L w s) (tabL (o * many L w s) (rowV A K c L w s)) ?_ ?_ (by omega)
 ·exact h
 ·intro q hq go
  unfold f39_l14
  simp only [upto_len]
  have m1 : 1 ≤ many L w s := Nat.le_add_left 1 _
  have m0 : (many L w s : Int) ≠ 0 := by omega
  have hcw := row_cw A K c L o w s c1 w1 hA hK bA bK hw s1 s64 iA iK o1
  have hi : q / many L w s < o := Nat.div_lt_of_lt_mul (by rw [Nat.mul_comm]; exact hq)
  have hn : q % many L w s < many L w s := Nat.mod_lt _ (Nat.le_add_left 1 _)
  obtain ⟨z, ez⟩ := acc_fix (sg (rowF A K c L w s (q / many L w s) (q % many L w s)) (c * w)) (sg_sm _ _ hcw (fun t ht => row_p A K c L o w s c1 w1 hA hK bA bK hw s1 s64 iA iK hi hn ht))
  rw [dT (by omega), cond_true, guardF_pos m0, guardF_pos m0, row_sumP A K c L o w s c1 w1 hA hK bA bK hw s1 s64 iA iK q hq, bindF_some, ez, bindF_some, guardF_pos (by omega), wsucc q (by omega), Int.toNat_natCast]
  have := upto_set (o * many L w s) q (rowV A K c L w s) _ hq (rfl : sat (rhe (sg (rowF A K c L w s (q / many L w s) (q % many L w s)) (c * w))) = rowV A K c L w s q)
  simp only
  rw [this]
 ·intro go
  unfold f39_l14
  simp only [upto_len]
  rw [dF (by omega), cond_false, upto_full]
theorem row_loopR (n0 : 0 < prd [(o : Int), (many L w s : Int)]) :
  loopF (fun go (x : Int × List Int) => f61_l33 ([(c : Int), (L : Int)], A) ([(o : Int), (c : Int), (w : Int)], K) s go x.1 x.2) fuelN ((0 : Int), List.replicate (o * many L w s) 0) = some (tabL (o * many L w s) (rowV A K c L w s)) := by
 have hp := (prod2 n0).2.2
 have hr := prd_range [(o : Int), (many L w s : Int)]
 have hN : ((o * many L w s : Nat) : Int) ≤ 4096 := by rw [Int.natCast_mul]; omega
 have m1 : 1 ≤ many L w s := Nat.le_add_left 1 _
 have hoN : o ≤ o * many L w s := Nat.le_mul_of_pos_right _ m1
 have hmN : many L w s ≤ o * many L w s := Nat.le_mul_of_pos_left _ o1
 have hL : L ≤ 4096 := Nat.le_trans (Nat.le_mul_of_pos_left _ c1) bA
 rw [upto_zero _ (rowV A K c L w s)]
 have h := loop_for (B := fun go (x : Int × List Int) => f61_l33 ([(c : Int), (L : Int)], A) ([(o : Int), (c : Int), (w : Int)], K) s go x.1 x.2) (fun i => ((i : Int), upto (o * many L w s) (i * many L w s) (rowV A K c L w s))) o (tabL (o * many L w s) (rowV A K c L w s)) ?_ ?_ (by omega)
 ·rw [Nat.zero_mul] at h; exact h
 ·intro i hi go
  unfold f61_l33
  simp only
  have inner := loop_for (B := fun go (x : Int × List Int) => f61_l42 ([(c : Int), (L : Int)], A) ([(o : Int), (c : Int), (w : Int)], K) s (i : Int) go x.1 x.2) (fun j => ((j : Int), upto (o * many L w s) (i * many L w s + j) (rowV A K c L w s))) (many L w s) (upto (o * many L w s) ((i + 1) * many L w s) (rowV A K c L w s)) ?_ ?_ (by omega)
  ·rw [Nat.add_zero] at inner
   have inner' : loopF (fun go (x : Int × List Int) => f61_l42 ([(c : Int), (L : Int)], A) ([(o : Int), (c : Int), (w : Int)], K) s (i : Int) go x.1 x.2) fuelN ((0 : Int), upto (o * many L w s) (i * many L w s) (rowV A K c L w s)) = _ := inner
   rw [show rd (0 : Int) [(o : Int), (c : Int), (w : Int)] 0 = (o : Int) from rfl, dT (by omega), cond_true, inner', bindF_some, wsucc i (by omega)]
  ·intro j hj go
   have hq := in_mat (c := o) hi hj
   obtain ⟨d1, d2⟩ := div_mat (x := i) hj
   have hcw := row_cw A K c L o w s c1 w1 hA hK bA bK hw s1 s64 iA iK o1
   obtain ⟨z, ez, hz⟩ := row_sumR A K c L o w s c1 w1 hA hK bA bK hw s1 s64 iA iK i j hi hj
   obtain ⟨y, ey, hy⟩ := ref_end hz (sg_sm _ _ hcw (fun t ht => row_p A K c L o w s c1 w1 hA hK bA bK hw s1 s64 iA iK hi hj ht))
   unfold f61_l42
   simp only [upto_len]
   rw [show rd (0 : Int) [(o : Int), (c : Int), (w : Int)] 2 = (w : Int) from rfl, show rd (0 : Int) [(c : Int), (L : Int)] 1 = (L : Int) from rfl, win_eq L w s hw (by omega), dT (by omega), cond_true, ez, bindF_some, ey, bindF_some, hy, bindF_some,
    ixM i (many L w s) j (by omega), guardF_pos (by omega), Int.toNat_natCast, wsucc j (by omega)]
   have := upto_set (o * many L w s) (i * many L w s + j) (rowV A K c L w s) (sat (rhe (sg (rowF A K c L w s i j) (c * w)))) hq (by unfold rowV; rw [d1, d2])
   rw [this]
   rfl
  ·intro go
   unfold f61_l42
   simp only
   rw [show rd (0 : Int) [(o : Int), (c : Int), (w : Int)] 2 = (w : Int) from rfl, show rd (0 : Int) [(c : Int), (L : Int)] 1 = (L : Int) from rfl, win_eq L w s hw (by omega), dF (by omega), cond_false, Nat.add_mul, Nat.one_mul]
 ·intro go
  unfold f61_l33
  simp only
  rw [show rd (0 : Int) [(o : Int), (c : Int), (w : Int)] 0 = (o : Int) from rfl, dF (by omega), cond_false, upto_full]
end
abbrev rowFit (a k : Tn) : Prop := a.1.length = 2 ∧ k.1.length = 3 ∧ rd (0 : Int) k.1 1 = rd (0 : Int) a.1 0 ∧ rd (0 : Int) k.1 2 ≤ rd (0 : Int) a.1 1
abbrev rowAsk (a k : Tn) (step : Int) : Prop := tgood a = true ∧ tgood k = true ∧ 1 ≤ step ∧ step ≤ 64
def rowS (a k : Tn) (step : Int) : Int × Tn :=
 if rowAsk a k step then
  if rowFit a k then
   if 0 < prd [rd (0 : Int) k.1 0, (many (rd (0 : Int) a.1 1).toNat (rd (0 : Int) k.1 2).toNat step.toNat : Int)] then
    (0, [rd (0 : Int) k.1 0, (many (rd (0 : Int) a.1 1).toNat (rd (0 : Int) k.1 2).toNat step.toNat : Int)],
     tabL ((rd (0 : Int) k.1 0).toNat * many (rd (0 : Int) a.1 1).toNat (rd (0 : Int) k.1 2).toNat step.toNat) (rowV a.2 k.2 (rd (0 : Int) a.1 0).toNat (rd (0 : Int) a.1 1).toNat (rd (0 : Int) k.1 2).toNat step.toNat))
   else (2, [], [])
  else (4, [], [])
 else (1, [], [])
theorem two_of {d : List Int} (h : d.length = 2) : d = [rd (0 : Int) d 0, rd (0 : Int) d 1] := by
 match d, h with
 | [x, y], _ => rfl
theorem three_of {d : List Int} (h : d.length = 3) : d = [rd (0 : Int) d 0, rd (0 : Int) d 1, rd (0 : Int) d 2] := by
 match d, h with
 | [x, y, z], _ => rfl
theorem mat_nat {a : Tn} (ha : tgood a = true) (h : a.1.length = 2) : ∃ c L : Nat, a = ([(c : Int), (L : Int)], a.2) ∧ 1 ≤ c ∧ 1 ≤ L ∧ a.2.length = c * L ∧ c * L ≤ 4096 := by
 obtain ⟨hp, hl, _, l2⟩ := good_len ha
 have e := two_of h
 rw [e] at hp hl
 obtain ⟨h1, h2, h3⟩ := prod2 hp
 obtain ⟨c, hc⟩ := Int.eq_ofNat_of_zero_le (show 0 ≤ rd (0 : Int) a.1 0 by omega)
 obtain ⟨L, hL⟩ := Int.eq_ofNat_of_zero_le (show 0 ≤ rd (0 : Int) a.1 1 by omega)
 rw [h3, hc, hL, ← Int.natCast_mul] at hl
 exact ⟨c, L, Prod.ext (by rw [← hc, ← hL]; exact e) rfl, by omega, by omega, by omega, by omega⟩
theorem ker_nat {a : Tn} (ha : tgood a = true) (h : a.1.length = 3) : ∃ o c w : Nat, a = ([(o : Int), (c : Int), (w : Int)], a.2) ∧ 1 ≤ o ∧ 1 ≤ c ∧ 1 ≤ w ∧ a.2.length = o * (c * w) ∧ o * (c * w) ≤ 4096 := by
 obtain ⟨hp, hl, _, l2⟩ := good_len ha
 have e := three_of h
 rw [e] at hp hl
 obtain ⟨h1, h2, h3, h4⟩ := prod3 hp
 obtain ⟨o, ho⟩ := Int.eq_ofNat_of_zero_le (show 0 ≤ rd (0 : Int) a.1 0 by omega)
 obtain ⟨c, hc⟩ := Int.eq_ofNat_of_zero_le (show 0 ≤ rd (0 : Int) a.1 1 by omega)
 obtain ⟨w, hw⟩ := Int.eq_ofNat_of_zero_le (show 0 ≤ rd (0 : Int) a.1 2 by omega)
 rw [h4, ho, hc, hw, ← Int.natCast_mul, ← Int.natCast_mul] at hl
 exact ⟨o, c, w, Prod.ext (by rw [← ho, ← hc, ← hw]; exact e) rfl, by omega, by omega, by omega, by omega, by omega⟩
theorem row_j5 (a k : Tn) : f39_j5 a k = some (!(decide (rowFit a k))) := by
 unfold f39_j5
 by_cases h1 : a.1.length = 2
 ·rw [nF (by omega), cond_false]
  by_cases h2 : k.1.length = 3
  ·rw [nF (by omega), cond_false, guardF_pos (by omega), guardF_pos (by omega)]
   by_cases h3 : rd (0 : Int) k.1 1 = rd (0 : Int) a.1 0
   ·rw [nF h3, cond_false, guardF_pos (by omega), guardF_pos (by omega)]
    by_cases h4 : rd (0 : Int) k.1 2 ≤ rd (0 : Int) a.1 1
    ·rw [dF (by omega), dT (show rowFit a k from ⟨h1, h2, h3, h4⟩)]; rfl
    ·rw [dT (by omega), dF (show ¬ rowFit a k from fun h => h4 h.2.2.2)]; rfl
   ·rw [nT h3, dF (show ¬ rowFit a k from fun h => h3 h.2.2.1)]; rfl
  ·rw [nT (by omega), dF (show ¬ rowFit a k from fun h => h2 h.2.1)]; rfl
 ·rw [nT (by omega), dF (show ¬ rowFit a k from fun h => h1 h.1)]; rfl
theorem row_j6 (a k : Tn) : f61_j6 a k = some (!(decide (rowFit a k))) := by
 unfold f61_j6
 by_cases h1 : a.1.length = 2
 ·rw [nF (by omega), cond_false]
  by_cases h2 : k.1.length = 3
  ·rw [nF (by omega), cond_false, guardF_pos (by omega), guardF_pos (by omega)]
   by_cases h3 : rd (0 : Int) a.1 0 = rd (0 : Int) k.1 1
   ·rw [nF h3, cond_false, guardF_pos (by omega), guardF_pos (by omega)]
    by_cases h4 : rd (0 : Int) k.1 2 ≤ rd (0 : Int) a.1 1
    ·rw [dF (by omega), dT (show rowFit a k from ⟨h1, h2, h3.symm, h4⟩)]; rfl
    ·rw [dT (by omega), dF (show ¬ rowFit a k from fun h => h4 h.2.2.2)]; rfl
   ·rw [nT h3, dF (show ¬ rowFit a k from fun h => h3 h.2.2.1.symm)]; rfl
  ·rw [nT (by omega), dF (show ¬ rowFit a k from fun h => h2 h.2.1)]; rfl
 ·rw [nT (by omega), dF (show ¬ rowFit a k from fun h => h1 h.1)]; rfl
theorem row_j4 (a k : Tn) (step : Int) : f39_j4 a k step = some (!(decide (rowAsk a k step))) := by
 unfold f39_j4 f72
 have e1 : f21 (a.1, a.2) = some (tgood a) := good_ok a
 have e2 : f21 (k.1, k.2) = some (tgood k) := good_ok k
 generalize hd : decide (rowAsk a k step) = d
 rw [e1, bindF_some]
 by_cases ha : tgood a = true
 ·rw [ha, Bool.not_true, cond_false, e2, bindF_some]
  by_cases hk : tgood k = true
  ·rw [hk, Bool.not_true, cond_false]
   by_cases h1 : step ≥ 1
   ·rw [dT h1, cond_true]
    by_cases h2 : step ≤ 64
    ·rw [dT h2]; rw [dT (show rowAsk a k step from ⟨ha, hk, h1, h2⟩)] at hd; rw [← hd]; rfl
    ·rw [dF h2]; rw [dF (show ¬ rowAsk a k step from fun h => h2 h.2.2.2)] at hd; rw [← hd]; rfl
   ·rw [dF h1]; rw [dF (show ¬ rowAsk a k step from fun h => h1 h.2.2.1)] at hd; rw [← hd]; rfl
  ·rw [show tgood k = false by simpa using hk]; rw [dF (show ¬ rowAsk a k step from fun h => hk h.2.1)] at hd; rw [← hd]; rfl
 ·rw [show tgood a = false by simpa using ha]; rw [dF (show ¬ rowAsk a k step from fun h => ha h.1)] at hd; rw [← hd]; rfl
theorem row_j3 (a k : Tn) (step : Int) : f61_j3 a k step = some (!(decide (rowAsk a k step))) := by
 unfold f61_j3
 have e1 : f27 (a.1, a.2) = some (tgood a) := isR a
 have e2 : f27 (k.1, k.2) = some (tgood k) := isR k
 generalize hd : decide (rowAsk a k step) = d
 rw [e1, bindF_some]
 by_cases ha : tgood a = true
 ·rw [ha, Bool.not_true, cond_false, e2, bindF_some]
  by_cases hk : tgood k = true
  ·rw [hk, Bool.not_true, cond_false]
   by_cases h1 : step ≥ 1
   ·rw [dF (show ¬ step < 1 by omega), cond_false]
    by_cases h2 : step ≤ 64
    ·rw [dF (show ¬ step > 64 by omega)]; rw [dT (show rowAsk a k step from ⟨ha, hk, h1, h2⟩)] at hd; rw [← hd]; rfl
    ·rw [dT (show step > 64 by omega)]; rw [dF (show ¬ rowAsk a k step from fun h => h2 h.2.2.2)] at hd; rw [← hd]; rfl
   ·rw [dT (show step < 1 by omega)]; rw [dF (show ¬ rowAsk a k step from fun h => h1 h.2.2.1)] at hd; rw [← hd]; rfl
  ·rw [show tgood k = false by simpa using hk]; rw [dF (show ¬ rowAsk a k step from fun h => hk h.2.1)] at hd; rw [← hd]; rfl
 ·rw [show tgood a = false by simpa using ha]; rw [dF (show ¬ rowAsk a k step from fun h => ha h.1)] at hd; rw [← hd]; rfl
theorem rowP (a k : Tn) (step : Int) (ia : inI a.2) (ik : inI k.2) : f39 a k step = some (rowS a k step) := by
 unfold f39 f39_j3 rowS
 rw [row_j4, bindF_some]
 by_cases h : rowAsk a k step
 ·rw [dT h, if_pos h, Bool.not_true, cond_false, row_j5, bindF_some]
  by_cases f : rowFit a k
  ·rw [dT f, if_pos f, Bool.not_true, cond_false, bindF_some, sumF_inl]
   obtain ⟨ga, gk, t1, t64⟩ := h
   obtain ⟨f1, f2, f3, f4⟩ := f
   obtain ⟨c, L, ea, c1, L1, la, ba⟩ := mat_nat ga f1
   obtain ⟨o, c', w, ek, o1, _, w1, lk, bk⟩ := ker_nat gk f2
   obtain ⟨s, rfl⟩ := Int.eq_ofNat_of_zero_le (show 0 ≤ step by omega)
   generalize a.2 = A at *
   generalize k.2 = K at *
   subst ea ek
   have fc : (c' : Int) = (c : Int) := f3
   have fc' : c' = c := by omega
   subst fc'
   have fw : (w : Int) ≤ (L : Int) := f4
   have s1 : 1 ≤ s := by omega
   have s64 : s ≤ 64 := by omega
   have hL : L ≤ 4096 := Nat.le_trans (Nat.le_mul_of_pos_left _ c1) ba
   rw [guardF_pos (by simp), guardF_pos (by simp), guardF_pos (by simp)]
   have eW : f73 (rd (0 : Int) [(c' : Int), (L : Int)] 1) (rd (0 : Int) [(o : Int), (c' : Int), (w : Int)] 2) (s : Int) = some (many L w s : Int) := winP L w s (by omega) (by omega) s1
   rw [eW, bindF_some, guardF_pos (by simp), of_ok, bindF_some]
   show _ = some (if 0 < prd [(o : Int), (many L w s : Int)] then (0, [(o : Int), (many L w s : Int)], tabL (o * many L w s) (rowV A K c' L w s)) else (2, [], []))
   rw [show rd (0 : Int) [(o : Int), (c' : Int), (w : Int)] 0 = (o : Int) from rfl]
   by_cases n0 : 0 < prd [(o : Int), (many L w s : Int)]
   ·have hp := (prod2 n0).2.2
    have eN : (prd [(o : Int), (many L w s : Int)]).toNat = o * many L w s := by rw [hp, ← Int.natCast_mul, Int.toNat_natCast]
    rw [if_pos n0, if_pos n0, eN, nF rfl, cond_false]
    simp only
    rw [row_loopP A K c' L o w s c1 w1 la lk ba bk (by omega) s1 s64 ia ik o1 n0, bindF_some]
   ·rw [if_neg n0, if_neg n0, nT (by decide : ¬ (2 : Int) = 0)]; rfl
  ·rw [dF f, if_neg f]; rfl
 ·rw [dF h, if_neg h]; rfl
theorem rowR (a k : Tn) (step : Int) (ia : inI a.2) (ik : inI k.2) : f61 a k step = some (rowS a k step) := by
 unfold f61 f61_j2 rowS
 rw [row_j3, bindF_some]
 by_cases h : rowAsk a k step
 ·rw [dT h, if_pos h, Bool.not_true, cond_false, bindF_some, sumF_inl]
  unfold f61_j5
  rw [row_j6, bindF_some]
  by_cases f : rowFit a k
  ·rw [dT f, if_pos f, Bool.not_true, cond_false, bindF_some, sumF_inl]
   obtain ⟨ga, gk, t1, t64⟩ := h
   obtain ⟨f1, f2, f3, f4⟩ := f
   obtain ⟨c, L, ea, c1, L1, la, ba⟩ := mat_nat ga f1
   obtain ⟨o, c', w, ek, o1, _, w1, lk, bk⟩ := ker_nat gk f2
   obtain ⟨s, rfl⟩ := Int.eq_ofNat_of_zero_le (show 0 ≤ step by omega)
   generalize a.2 = A at *
   generalize k.2 = K at *
   subst ea ek
   have fc : (c' : Int) = (c : Int) := f3
   have fc' : c' = c := by omega
   subst fc'
   have fw : (w : Int) ≤ (L : Int) := f4
   have s1 : 1 ≤ s := by omega
   have s64 : s ≤ 64 := by omega
   have hL : L ≤ 4096 := Nat.le_trans (Nat.le_mul_of_pos_left _ c1) ba
   rw [guardF_pos (by simp), guardF_pos (by simp), guardF_pos (by simp), guardF_pos (by simp), guardF_pos (by omega)]
   have eW : IntKind.i64.wrap (IntKind.i64.wrap (Int.tdiv (IntKind.i64.wrap (rd (0 : Int) [(c' : Int), (L : Int)] 1 - rd (0 : Int) [(o : Int), (c' : Int), (w : Int)] 2)) (s : Int)) + 1) = (many L w s : Int) := win_eq L w s (by omega) (by omega)
   rw [eW, show rd (0 : Int) [(o : Int), (c' : Int), (w : Int)] 0 = (o : Int) from rfl, goodR, bindF_some]
   show _ = some (if 0 < prd [(o : Int), (many L w s : Int)] then (0, [(o : Int), (many L w s : Int)], tabL (o * many L w s) (rowV A K c' L w s)) else (2, [], []))
   by_cases n0 : 0 < prd [(o : Int), (many L w s : Int)]
   ·have hp := (prod2 n0).2.2
    have eN : (prd [(o : Int), (many L w s : Int)]).toNat = o * many L w s := by rw [hp, ← Int.natCast_mul, Int.toNat_natCast]
    rw [dT (show prd [(o : Int), (many L w s : Int)] > 0 from n0), if_pos n0, Bool.not_true, cond_false, newR _ _ n0, bindF_some, eN]
    simp only
    rw [row_loopR A K c' L o w s c1 w1 la lk ba bk (by omega) s1 s64 ia ik o1 n0, bindF_some]
   ·rw [dF (show ¬ prd [(o : Int), (many L w s : Int)] > 0 from n0), if_neg n0]; rfl
  ·rw [dF f, if_neg f]; rfl
 ·rw [dF h, if_neg h]; rfl
end Go.Proofs.Cv
namespace Go.Proofs.PlM
open Go.AM Go.Proofs.PlB Go.Proofs.PlW Go.Proofs.PlT
structure Mat (n m : Int) : Prop where
 n1 : 1 ≤ n
 n2 : n ≤ 4096
 m1 : 1 ≤ m
 m2 : m ≤ 4096
 p : n * m ≤ 4096
theorem Mat.prd {n m : Int} (h : Mat n m) : prd [n, m] = n * m := by
 obtain ⟨h1, h2, h3, h4, h5⟩ := h
 rw [prd_two, if_neg (by omega)]
theorem Mat.pos {n m : Int} (h : Mat n m) : 0 < n * m := Int.mul_pos (by have := h.n1; omega) (by have := h.m1; omega)
theorem Mat.swap {n m : Int} (h : Mat n m) : Mat m n := ⟨h.m1, h.m2, h.n1, h.n2, by rw [Int.mul_comm]; exact h.p⟩
theorem Mat.of {n m : Int} (h : 0 < PlB.prd [n, m]) : Mat n m := by
 rw [prd_two] at h
 split at h
 ·omega
 ·rename_i h'; exact ⟨by omega, by omega, by omega, by omega, by omega⟩
theorem rd0 (a b : Int) : rd (0 : Int) [a, b] 0 = a := rfl
theorem rd1 (a b : Int) : rd (0 : Int) [a, b] 1 = b := rfl
theorem place_ok (n m q : Int) (h : Mat n m) (q0 : 0 ≤ q) (q1 : q < n * m) : f113 [n, m] q = some (true, [q / m, q % m]) := by
 have hp := h.pos
 obtain ⟨h1, h2, h3, h4, h5⟩ := h
 have hd : q / m < n := Int.ediv_lt_of_lt_mul (by omega) q1
 have hd0 : 0 ≤ q / m := Int.ediv_nonneg q0 (by omega)
 have hm0 : 0 ≤ q % m := Int.emod_nonneg _ (by omega)
 have hm1 : q % m < m := Int.emod_lt_of_pos _ (by omega)
 have hj : f113_j1 [n, m] q = some (Sum.inl ()) := by
  unfold f113_j1
  rw [show decide (q < 0) = false by simp; omega, PlB.size_ok, prd_two, if_neg (by omega)]
  simp only [cond_false, bindF_some]
  rw [show decide (q ≥ n * m) = false by simp; omega]
  rfl
 have s1 : ∀ go, f113_l2 [n, m] go q 1 [0, 0] = go (q / m, 0, [0, q % m]) := fun go => by
  unfold f113_l2
  rw [show decide ((1 : Int) ≥ 0) = true from rfl]
  simp only [cond_true]
  have hr : rd (0 : Int) [n, m] 1 ≠ 0 := by rw [rd1]; omega
  rw [guardF_pos (by simp), guardF_pos hr, guardF_pos (by simp), guardF_pos (by simp), guardF_pos hr, rd1, Int.tdiv_eq_ediv_of_nonneg q0, Int.tmod_eq_emod_of_nonneg q0, wrap_i64 (by omega) (by omega)]
  rfl
 have s2 : ∀ go, f113_l2 [n, m] go (q / m) 0 [0, q % m] = go (IntKind.i64.wrap (q / m / n), -1, [q / m, q % m]) := fun go => by
  unfold f113_l2
  rw [show decide ((0 : Int) ≥ 0) = true from rfl]
  simp only [cond_true]
  have hr : rd (0 : Int) [n, m] 0 ≠ 0 := by rw [rd0]; omega
  rw [guardF_pos (by simp), guardF_pos hr, guardF_pos (by simp), guardF_pos (by simp), guardF_pos hr, rd0, Int.tdiv_eq_ediv_of_nonneg hd0, Int.tmod_eq_emod_of_nonneg hd0, Int.emod_eq_of_lt hd0 hd]
  rfl
 have s3 : ∀ go x l, f113_l2 [n, m] go x (-1) l = some l := fun go x l => by
  unfold f113_l2
  rw [show decide ((-1 : Int) ≥ 0) = false from rfl]
  rfl
 have hloop : loopF (fun go (x : Int × Int × List Int) => f113_l2 [n, m] go x.1 x.2.1 x.2.2) fuelN (q, 1, [0, 0]) = some [q / m, q % m] := by
  rw [lf1]
  simp only
  rw [s1, lf2]
  simp only
  rw [s2, lf3]
  exact s3 _ _ _
 unfold f113
 rw [hj]
 simp only [bindF_some, sumF_inl]
 rw [guardF_pos (by simp)]
 exact (congrArg (fun t => bindF t fun z4 => some (true, z4)) hloop)
theorem at_ok (n m x y : Int) (h : Mat n m) (x0 : 0 ≤ x) (x1 : x < n) (y0 : 0 ≤ y) (y1 : y < m) : f114 [n, m] [x, y] = some (x * m + y, true) ∧ 0 ≤ x * m + y ∧ x * m + y < n * m := by
 have hp := h.pos
 have hpr := h.prd
 obtain ⟨h1, h2, h3, h4, h5⟩ := h
 have hx0 : 0 ≤ x * m := Int.mul_nonneg x0 (by omega)
 have hx1 : (x + 1) * m ≤ n * m := Int.mul_le_mul_of_nonneg_right (by omega) (by omega)
 rw [Int.add_mul, Int.one_mul] at hx1
 refine ⟨?_, by omega, by omega⟩
 have hj : f114_j1 [n, m] [x, y] = some (Sum.inl ()) := by
  unfold f114_j1
  rw [shapeGood_ok, hpr, show decide (n * m > 0) = true by simpa using hp]
  rfl
 have s1 : ∀ go, f114_l4 [n, m] [x, y] go 0 0 = go (x, 1) := fun go => by
  unfold f114_l4
  rw [show decide ((0 : Int) < (List.length [x, y] : Int)) = true from rfl]
  simp only [cond_true]
  rw [guardF_pos (by simp)]
  have hj5 : f114_j5 [n, m] [x, y] 0 = some (Sum.inl ()) := by
   unfold f114_j5
   rw [show decide (rd (0 : Int) [x, y] 0 < 0) = false from decide_eq_false (by rw [rd0]; omega)]
   simp only [cond_false]
   rw [guardF_pos (by simp), show decide (rd (0 : Int) [x, y] 0 ≥ rd (0 : Int) [n, m] 0) = false from decide_eq_false (by rw [rd0, rd0]; omega)]
   rfl
  rw [hj5]
  simp only [bindF_some, sumF_inl]
  rw [guardF_pos (by simp), rd0, rd0, Int.zero_mul, show IntKind.i64.wrap 0 = 0 from rfl, Int.zero_add, wrap_i64 (by omega) (by omega)]
  rfl
 have s2 : ∀ go, f114_l4 [n, m] [x, y] go x 1 = go (x * m + y, 2) := fun go => by
  unfold f114_l4
  rw [show decide ((1 : Int) < (List.length [x, y] : Int)) = true from rfl]
  simp only [cond_true]
  rw [guardF_pos (by simp)]
  have hj5 : f114_j5 [n, m] [x, y] 1 = some (Sum.inl ()) := by
   unfold f114_j5
   rw [show decide (rd (0 : Int) [x, y] 1 < 0) = false from decide_eq_false (by rw [rd1]; omega)]
   simp only [cond_false]
   rw [guardF_pos (by simp), show decide (rd (0 : Int) [x, y] 1 ≥ rd (0 : Int) [n, m] 1) = false from decide_eq_false (by rw [rd1, rd1]; omega)]
   rfl
  rw [hj5]
  simp only [bindF_some, sumF_inl]
  rw [guardF_pos (by simp), rd1, rd1, wrap_i64 (n := x * m) (by omega) (by omega), wrap_i64 (n := x * m + y) (by omega) (by omega)]
  rfl
 have s3 : ∀ go z, f114_l4 [n, m] [x, y] go z 2 = some (Sum.inr z) := fun go z => by
  unfold f114_l4
  rw [show decide ((2 : Int) < (List.length [x, y] : Int)) = false from rfl]
  rfl
 unfold f114
 rw [hj]
 simp only [bindF_some, sumF_inl]
 have hloop : loopF (fun go (z : Int × Int) => f114_l4 [n, m] [x, y] go z.1 z.2) fuelN (0, 0) = some (Sum.inr (x * m + y)) := by
  rw [lf1]
  simp only
  rw [s1, lf2]
  simp only
  rw [s2, lf3]
  exact s3 _ _
 rw [hloop]
 rfl
def flipV (n m : Nat) (V : List Int) (q : Nat) : Int := V.getD ((q % n) * m + q / n) 0
theorem flip_at (n m q : Nat) (hn : 0 < n) (hq : q < m * n) : (q % n) * m + q / n < n * m := by
 have h1 : q % n < n := Nat.mod_lt _ hn
 have h2 : q / n < m := Nat.div_lt_of_lt_mul (by rw [Nat.mul_comm]; exact hq)
 have : (q % n + 1) * m ≤ n * m := Nat.mul_le_mul_right _ h1
 rw [Nat.add_mul] at this; omega
theorem turn_ok (n m : Nat) (V : List Int) (h : Mat n m) (hV : V.length = n * m) : f77 ([(n : Int), (m : Int)], V) [1, 0] = some (0, [(m : Int), (n : Int)], (List.range (m * n)).map (flipV n m V)) := by
 have hp := h.pos
 have hpr := h.prd
 have hs := h.swap
 obtain ⟨h1, h2, h3, h4, h5⟩ := h
 have hnm : ((n * m : Nat) : Int) = (n : Int) * (m : Int) := by simp
 have hmn : ((m * n : Nat) : Int) = (n : Int) * (m : Int) := by rw [Nat.mul_comm]; simp
 have hg : tgood ([(n : Int), (m : Int)], V) = true := by
  simp only [tgood, hpr, hV, hnm]
  simp; omega
 have hj : f77_j2 ([(n : Int), (m : Int)], V) [1, 0] = some (Sum.inl ()) := by
  unfold f77_j2 f77_j3
  simp only [good_ok, hg, bindF_some, Bool.not_true, cond_false, List.length_cons, List.length_nil]
  rw [show f112 [1, 0] (((0 + 1 + 1 : Nat) : Int)) = some true by kernel_rfl]
  rfl
 unfold f77
 rw [hj]
 simp only [bindF_some, sumF_inl]
 rw [guardF_pos (by simp)]
 have hz : loopF (fun go (x : Int × List Int) => f77_l4 ([(n : Int), (m : Int)], V) [1, 0] go x.1 x.2) fuelN ((0 : Int), List.replicate (Int.toNat (List.length [(1 : Int), 0] : Int)) 0) = some [(m : Int), (n : Int)] := by
  rw [lf1]; rfl
 rw [hz]
 simp only [bindF_some]
 rw [new_ok, hs.prd, if_pos hs.pos]
 simp only [bindF_some]
 have e1 : ((m : Int) * (n : Int)).toNat = m * n := by rw [← Int.natCast_mul]; rfl
 rw [e1]
 have H : ∀ x : Int × List Int, (∃ k : Nat, x = ((k : Int), filled (flipV n m V) k (m * n)) ∧ k ≤ m * n) →
   (∃ z, (∀ go, f77_l7 ([(n : Int), (m : Int)], V) [1, 0] [(m : Int), (n : Int)] (0, [(m : Int), (n : Int)], List.replicate (m * n) 0) go x.1 x.2 = some z) ∧ z = (List.range (m * n)).map (flipV n m V)) ∨
   (∃ y : Int × List Int, (∀ go, f77_l7 ([(n : Int), (m : Int)], V) [1, 0] [(m : Int), (n : Int)] (0, [(m : Int), (n : Int)], List.replicate (m * n) 0) go x.1 x.2 = go y) ∧
    (∃ k : Nat, y = ((k : Int), filled (flipV n m V) k (m * n)) ∧ k ≤ m * n) ∧ (((m * n : Nat) : Int) - y.1).toNat < (((m * n : Nat) : Int) - x.1).toNat) := by
  rintro _ ⟨k, rfl, hk⟩
  by_cases hlt : k < m * n
  ·right
   have hfa := flip_at n m k (by omega) hlt
   refine ⟨(((k + 1 : Nat) : Int), _), fun go => ?_, ⟨k + 1, rfl, hlt⟩, by simp only; omega⟩
   simp only [f77_l7, List.length_replicate]
   rw [show decide ((k : Int) < ((m * n : Nat) : Int)) = true by simp only [decide_eq_true_eq]; omega]
   simp only [cond_true]
   rw [place_ok (m : Int) (n : Int) (k : Int) hs (by omega) (by rw [Int.mul_comm, ← hmn]; omega)]
   simp only [bindF_some]
   rw [guardF_pos (by simp)]
   have hin : loopF (fun go (x : Int × List Int) => f77_l8 [1, 0] (true, [(k : Int) / (n : Int), (k : Int) % (n : Int)]) go x.1 x.2) fuelN ((0 : Int), List.replicate (Int.toNat (List.length [(1 : Int), 0] : Int)) 0) = some [(k : Int) % (n : Int), (k : Int) / (n : Int)] := by
    rw [lf1]; rfl
   rw [hin]
   simp only [bindF_some]
   have a0 : (k : Int) % (n : Int) = ((k % n : Nat) : Int) := by simp
   have a1 : (k : Int) / (n : Int) = ((k / n : Nat) : Int) := by simp
   have b0 : k % n < n := Nat.mod_lt _ (by omega)
   have b1 : k / n < m := Nat.div_lt_of_lt_mul (by rw [Nat.mul_comm]; exact hlt)
   rw [a0, a1]
   obtain ⟨g1, g2, g3⟩ := at_ok (n : Int) (m : Int) ((k % n : Nat) : Int) ((k / n : Nat) : Int) ⟨h1, h2, h3, h4, h5⟩ (Int.natCast_nonneg _) (Int.ofNat_lt.2 b0) (Int.natCast_nonneg _) (Int.ofNat_lt.2 b1)
   rw [g1]
   simp only [bindF_some, filled_len _ _ _ hk]
   have e2 : ((k % n : Nat) : Int) * (m : Int) + ((k / n : Nat) : Int) = (((k % n) * m + k / n : Nat) : Int) := by simp
   rw [e2, guardF_pos (by rw [hV]; omega), guardF_pos (by omega), wrap_i64 (by omega) (by omega)]
   have e3 : rd (0 : Int) V (((k % n) * m + k / n : Nat) : Int) = flipV n m V k := rfl
   rw [e3, Int.toNat_natCast, filled_set _ _ _ hlt]
   rfl
  ·left
   have : k = m * n := by omega
   subst this
   refine ⟨_, fun go => ?_, filled_full _ _⟩
   simp only [f77_l7, List.length_replicate]
   rw [show decide (((m * n : Nat) : Int) < ((m * n : Nat) : Int)) = false by simp]
   rfl
 obtain ⟨z, e, rfl⟩ := loop_fuel (B := fun go (x : Int × List Int) => f77_l7 ([(n : Int), (m : Int)], V) [1, 0] [(m : Int), (n : Int)] (0, [(m : Int), (n : Int)], List.replicate (m * n) 0) go x.1 x.2) _ (fun x => (((m * n : Nat) : Int) - x.1).toNat) _ H
  ((0 : Int), List.replicate (m * n) 0) ⟨0, by rw [filled_zero]; rfl, Nat.zero_le _⟩ (by simp only; omega)
 rw [e]
 rfl
theorem flip_ok (n m : Nat) (V : List Int) (h : Mat n m) (hV : V.length = n * m) : f41 ([(n : Int), (m : Int)], V) = some (0, [(m : Int), (n : Int)], (List.range (m * n)).map (flipV n m V)) := by
 have hg : tgood ([(n : Int), (m : Int)], V) = true := by
  simp only [tgood, h.prd, hV]
  have := h.pos
  simp; omega
 unfold f41
 simp only [good_ok, hg, bindF_some, Bool.not_true, cond_false]
 rw [show f69 ([(n : Int), (m : Int)], V) = some true from rfl]
 simp only [bindF_some, Bool.not_true, cond_false, turn_ok n m V h hV]
end Go.Proofs.PlM
namespace Go.Proofs.PlN
open Go.AM Go.Proofs.PlB Go.Proofs.PlW Go.Proofs.PlT Go.Proofs.PlM
def rowL (L : List Int) (k i : Nat) : List Int := (L.take ((i + 1) * k)).drop (i * k)
theorem rowL_inI {L : List Int} {k i : Nat} (h : inI L) : inI (rowL L k i) := fun x hx => h x (List.mem_of_mem_take (List.mem_of_mem_drop hx))
theorem rowL_len (L : List Int) (k i : Nat) : (rowL L k i).length ≤ k := by
 unfold rowL
 rw [List.length_drop, List.length_take, Nat.add_mul]; omega
theorem flip_inI {n m : Nat} {V : List Int} (h : inI V) : inI ((List.range (m * n)).map (flipV n m V)) := by
 intro x hx
 obtain ⟨q, _, rfl⟩ := List.mem_map.1 hx
 unfold flipV
 by_cases hlt : (q % n) * m + q / n < V.length
 ·have : V.getD ((q % n) * m + q / n) 0 = V[(q % n) * m + q / n] := by simp [hlt]
  rw [this]; exact h _ (List.getElem_mem hlt)
 ·have : V.getD ((q % n) * m + q / n) 0 = 0 := by simp [List.getElem?_eq_none (Nat.le_of_not_lt hlt)]
  rw [this]; decide
def mulV (k c : Nat) (A F : List Int) (q : Nat) : Int := sat (rhe (dotS (rowL A k (q / c)) (rowL F k (q % c))))
theorem mul_ok (n k c : Nat) (A B : List Int) (h1 : Mat n k) (h2 : Mat k c) (hA : A.length = n * k) (hB : B.length = k * c) (iA : inI A) (iB : inI B) :
  f38 ([(n : Int), (k : Int)], A) ([(k : Int), (c : Int)], B) = some (if 0 < prd [(n : Int), (c : Int)] then (0, [(n : Int), (c : Int)], (List.range (n * c)).map (mulV k c A ((List.range (c * k)).map (flipV k c B)))) else (2, [], [])) := by
 have hg1 : tgood ([(n : Int), (k : Int)], A) = true := by
  simp only [tgood, h1.prd, hA]
  have := h1.pos
  simp; omega
 have hg2 : tgood ([(k : Int), (c : Int)], B) = true := by
  simp only [tgood, h2.prd, hB]
  have := h2.pos
  simp; omega
 have hj : f38_j3 ([(n : Int), (k : Int)], A) ([(k : Int), (c : Int)], B) = some (Sum.inl ()) := by
  unfold f38_j3 f38_j4 f38_j5
  simp only [good_ok, hg1, hg2, bindF_some, Bool.not_true, cond_false]
  rw [show f69 ([(n : Int), (k : Int)], A) = some true from rfl, show f69 ([(k : Int), (c : Int)], B) = some true from rfl]
  simp only [bindF_some, Bool.not_true, cond_false, rd0, rd1]
  rw [guardF_pos (by simp), guardF_pos (by simp), show ((k : Int) != (k : Int)) = false by simp]
  rfl
 unfold f38
 rw [hj]
 simp only [bindF_some, sumF_inl, rd0, rd1]
 rw [guardF_pos (by simp), guardF_pos (by simp), guardF_pos (by simp), new_ok]
 by_cases hp : 0 < prd [(n : Int), (c : Int)]
 ·rw [if_pos hp, if_pos hp]
  have h3 := Mat.of hp
  simp only [bindF_some]
  rw [show ((0 : Int) != 0) = false from rfl]
  simp only [cond_false]
  rw [flip_ok k c B h2 hB]
  simp only [bindF_some]
  obtain ⟨n1, n2, k1, k2, nk⟩ := h1
  obtain ⟨_, _, c1, c2, kc⟩ := h2
  have nc := h3.p
  generalize hF : (List.range (c * k)).map (flipV k c B) = F
  have lF : F.length = c * k := by rw [← hF]; simp
  have iF : inI F := by rw [← hF]; exact flip_inI iB
  generalize hg : mulV k c A F = g
  have e1 : (prd [(n : Int), (c : Int)]).toNat = n * c := by rw [h3.prd, ← Int.natCast_mul]; rfl
  rw [e1]
  have nk' : ((n * k : Nat) : Int) = (n : Int) * (k : Int) := by simp
  have ck' : ((c * k : Nat) : Int) = (k : Int) * (c : Int) := by rw [Nat.mul_comm]; simp
  have nc' : ((n * c : Nat) : Int) = (n : Int) * (c : Int) := by simp
  have inner : ∀ i : Nat, i < n → loopF (fun go (x : Int × List Int) => f38_l9 ([(n : Int), (k : Int)], A) ([(k : Int), (c : Int)], B) (0, [(c : Int), (k : Int)], F) (i : Int) go x.1 x.2) fuelN ((0 : Int), filled g (i * c) (n * c)) = some (filled g ((i + 1) * c) (n * c)) := by
   intro i hi
   have hic : (i + 1) * c ≤ n * c := Nat.mul_le_mul_right _ hi
   have hik : (i + 1) * k ≤ n * k := Nat.mul_le_mul_right _ hi
   have hick : ((i * k : Nat) : Int) = (i : Int) * (k : Int) := by simp
   have hick1 : (((i + 1) * k : Nat) : Int) = ((i : Int) + 1) * (k : Int) := by simp
   have hic' : ((i * c : Nat) : Int) = (i : Int) * (c : Int) := by simp
   rw [Nat.add_mul, Nat.one_mul] at hic
   have H : ∀ x : Int × List Int, (∃ j : Nat, x = ((j : Int), filled g (i * c + j) (n * c)) ∧ j ≤ c) →
     (∃ z, (∀ go, f38_l9 ([(n : Int), (k : Int)], A) ([(k : Int), (c : Int)], B) (0, [(c : Int), (k : Int)], F) (i : Int) go x.1 x.2 = some z) ∧ z = filled g ((i + 1) * c) (n * c)) ∨
     (∃ y : Int × List Int, (∀ go, f38_l9 ([(n : Int), (k : Int)], A) ([(k : Int), (c : Int)], B) (0, [(c : Int), (k : Int)], F) (i : Int) go x.1 x.2 = go y) ∧ (∃ j : Nat, y = ((j : Int), filled g (i * c + j) (n * c)) ∧ j ≤ c) ∧ ((c : Int) - y.1).toNat < ((c : Int) - x.1).toNat) := by
    rintro _ ⟨j, rfl, hj⟩
    by_cases hlt : j < c
    ·right
     have hjk : (j + 1) * k ≤ c * k := Nat.mul_le_mul_right _ hlt
     have hjck : ((j * k : Nat) : Int) = (j : Int) * (k : Int) := by simp
     have hjck1 : (((j + 1) * k : Nat) : Int) = ((j : Int) + 1) * (k : Int) := by simp
     have hj1 : j * k ≤ (j + 1) * k := Nat.mul_le_mul_right _ (by omega)
     have hi1 : i * k ≤ (i + 1) * k := Nat.mul_le_mul_right _ (by omega)
     refine ⟨(((j + 1 : Nat) : Int), _), fun go => ?_, ⟨j + 1, rfl, hlt⟩, by simp only; omega⟩
     simp only [f38_l9]
     rw [rd1 (n : Int) (k : Int), rd1 (k : Int) (c : Int), show decide ((j : Int) < (c : Int)) = true by simpa using hlt]
     simp only [cond_true]
     rw [wrap_i64 (n := (i : Int) + 1) (by omega) (by omega), wrap_i64 (n := (j : Int) + 1) (by omega) (by omega), ← hick, ← hick1, ← hjck, ← hjck1, ← hic']
     rw [wrap_i64 (n := ((i * k : Nat) : Int)) (by omega) (by omega), wrap_i64 (n := (((i + 1) * k : Nat) : Int)) (by omega) (by omega), wrap_i64 (n := ((j * k : Nat) : Int)) (by omega) (by omega), wrap_i64 (n := (((j + 1) * k : Nat) : Int)) (by omega) (by omega),
      wrap_i64 (n := ((i * c : Nat) : Int)) (by omega) (by omega), wrap_i64 (n := ((i * c : Nat) : Int) + (j : Int)) (by omega) (by omega)]
     rw [guardF_pos (by rw [hA]; omega), guardF_pos (by rw [lF]; omega)]
     simp only [Int.toNat_natCast]
     have hdot : f71 (List.drop (i * k) (List.take ((i + 1) * k) A)) (List.drop (j * k) (List.take ((j + 1) * k) F)) = some (g (i * c + j)) := by
      have := dot_ok (rowL A k i) (rowL F k j) (rowL_inI iA) (rowL_inI iF) (.inl (by have := rowL_len A k i; omega))
      rw [← hg]
      unfold mulV
      have q1 : (i * c + j) / c = i := by rw [Nat.mul_comm, Nat.mul_add_div (by omega), Nat.div_eq_of_lt hlt, Nat.add_zero]
      have q2 : (i * c + j) % c = j := by rw [Nat.mul_comm, Nat.mul_add_mod, Nat.mod_eq_of_lt hlt]
      rw [q1, q2]
      exact this
     rw [hdot]
     simp only [bindF_some, filled_len g (i * c + j) (n * c) (by omega)]
     rw [guardF_pos (by omega), show ((i * c : Nat) : Int) + (j : Int) = ((i * c + j : Nat) : Int) by omega, Int.toNat_natCast, filled_set _ _ _ (by omega)]
     rfl
    ·left
     have : j = c := by omega
     subst this
     refine ⟨_, fun go => ?_, by rw [Nat.add_mul, Nat.one_mul]⟩
     simp only [f38_l9]
     rw [rd1 (n : Int) (k : Int), rd1 (k : Int) (j : Int), show decide ((j : Int) < (j : Int)) = false by simp]
     rfl
   obtain ⟨z, e, rfl⟩ := loop_fuel (B := fun go (x : Int × List Int) => f38_l9 ([(n : Int), (k : Int)], A) ([(k : Int), (c : Int)], B) (0, [(c : Int), (k : Int)], F) (i : Int) go x.1 x.2) _ (fun x => ((c : Int) - x.1).toNat) _ H
    ((0 : Int), filled g (i * c) (n * c)) ⟨0, rfl, Nat.zero_le _⟩ (by simp only; omega)
   exact e
  have H : ∀ x : Int × List Int, (∃ i : Nat, x = ((i : Int), filled g (i * c) (n * c)) ∧ i ≤ n) →
    (∃ z, (∀ go, f38_l8 ([(n : Int), (k : Int)], A) ([(k : Int), (c : Int)], B) (0, [(c : Int), (k : Int)], F) go x.1 x.2 = some z) ∧ z = (List.range (n * c)).map g) ∨
    (∃ y : Int × List Int, (∀ go, f38_l8 ([(n : Int), (k : Int)], A) ([(k : Int), (c : Int)], B) (0, [(c : Int), (k : Int)], F) go x.1 x.2 = go y) ∧ (∃ i : Nat, y = ((i : Int), filled g (i * c) (n * c)) ∧ i ≤ n) ∧ ((n : Int) - y.1).toNat < ((n : Int) - x.1).toNat) := by
   rintro _ ⟨i, rfl, hi⟩
   by_cases hlt : i < n
   ·right
    refine ⟨(((i + 1 : Nat) : Int), _), fun go => ?_, ⟨i + 1, rfl, hlt⟩, by simp only; omega⟩
    simp only [f38_l8]
    rw [rd0, show decide ((i : Int) < (n : Int)) = true by simpa using hlt]
    simp only [cond_true]
    rw [inner i hlt]
    simp only [bindF_some]
    rw [wrap_i64 (by omega) (by omega)]
    rfl
   ·left
    have : i = n := by omega
    subst this
    refine ⟨_, fun go => ?_, filled_full _ _⟩
    simp only [f38_l8]
    rw [rd0, show decide ((i : Int) < (i : Int)) = false by simp]
    rfl
  obtain ⟨z, e, rfl⟩ := loop_fuel (B := fun go (x : Int × List Int) => f38_l8 ([(n : Int), (k : Int)], A) ([(k : Int), (c : Int)], B) (0, [(c : Int), (k : Int)], F) go x.1 x.2) _ (fun x => ((n : Int) - x.1).toNat) _ H
   ((0 : Int), List.replicate (n * c) 0) ⟨0, by rw [Nat.zero_mul, filled_zero]; rfl, Nat.zero_le _⟩ (by simp only; omega)
  rw [e]
  rfl
 ·rw [if_neg hp, if_neg hp]
  rfl
end Go.Proofs.PlN
namespace Go.Proofs.Matm
open Go.AM Go.Proofs.PlB Go.Proofs.PlW Go.Proofs.PlT Go.Proofs.PlM Go.Proofs.PlN
theorem rowL_map (L : List Int) (k i : Nat) (h : (i + 1) * k ≤ L.length) : rowL L k i = (List.range k).map (fun q => L.getD (i * k + q) 0) := by
 unfold rowL
 apply List.ext_getElem
 ·rw [List.length_drop, List.length_take, List.length_map, List.length_range, Nat.add_mul]
  rw [Nat.add_mul] at h; omega
 ·intro q h1 h2
  rw [List.length_map, List.length_range] at h2
  rw [Nat.add_mul] at h
  simp only [List.getElem_drop, List.getElem_take, List.getElem_map, List.getElem_range]
  simp [List.getElem?_eq_getElem (show i * k + q < L.length by omega)]
theorem flipL_get (n m : Nat) (V : List Int) (q : Nat) (h : q < m * n) : ((List.range (m * n)).map (flipV n m V)).getD q 0 = flipV n m V q := by
 simp [h]
theorem col_map (k c j : Nat) (B : List Int) (hk : 0 < k) (hj : j < c) : rowL ((List.range (c * k)).map (flipV k c B)) k j = (List.range k).map (fun q => B.getD (q * c + j) 0) := by
 have hjk : (j + 1) * k ≤ c * k := Nat.mul_le_mul_right _ hj
 rw [rowL_map _ _ _ (by simpa using hjk)]
 apply List.map_congr_left
 intro q hq
 have hq := List.mem_range.1 hq
 rw [Nat.add_mul, Nat.one_mul] at hjk
 rw [flipL_get _ _ _ _ (by omega)]
 unfold flipV
 have q1 : (j * k + q) / k = j := by rw [Nat.mul_comm, Nat.mul_add_div hk, Nat.div_eq_of_lt hq, Nat.add_zero]
 have q2 : (j * k + q) % k = q := by rw [Nat.mul_comm, Nat.mul_add_mod, Nat.mod_eq_of_lt hq]
 rw [q1, q2]
end Go.Proofs.Matm
namespace Go.Proofs.Cv
open Go.AM Go.Proofs.PlB Go.Proofs.PlW Go.Proofs.PlT Go.Proofs.PlS Go.Proofs.Sh Go.Proofs.Num Go.Proofs.Div Go.Proofs.Op
def mmF (A B : List Int) (k c i j t : Nat) : Int := rd (0 : Int) A ((i * k + t : Nat) : Int) * rd (0 : Int) B ((t * c + j : Nat) : Int)
def mmV (A B : List Int) (k c q : Nat) : Int := sat (rhe (sg (mmF A B k c (q / c) (q % c)) k))
theorem dotS_snoc : ∀ (a b : List Int) (x y : Int), a.length = b.length → dotS (a ++ [x]) (b ++ [y]) = dotS a b + x * y
 | [], [], x, y, _ => by simp [dotS]
 | u :: a, v :: b, x, y, h => by
  have := dotS_snoc a b x y (by simpa using h)
  simp only [List.cons_append, dotS]
  rw [this]; omega
 | [], _ :: _, _, _, h => absurd h (by simp)
 | _ :: _, [], _, _, h => absurd h (by simp)
theorem dotS_map (f g : Nat → Int) : ∀ k, dotS ((List.range k).map f) ((List.range k).map g) = sg (fun t => f t * g t) k
 | 0 => rfl
 | k + 1 => by
  rw [List.range_succ, List.map_append, List.map_append]
  show dotS (_ ++ [f k]) (_ ++ [g k]) = _
  rw [dotS_snoc _ _ _ _ (by simp), dotS_map f g k]; rfl
theorem rd_getD (l : List Int) (i : Nat) (h : i < l.length) : rd (0 : Int) l (i : Int) = l.getD i 0 := by
 rw [rd_nat _ _ _ h]; simp [List.getD, h]
section
variable (A B : List Int) (n k c : Nat) (n1 : 1 ≤ n) (k1 : 1 ≤ k) (c1 : 1 ≤ c) (hA : A.length = n * k) (hB : B.length = k * c) (bA : n * k ≤ 4096) (bB : k * c ≤ 4096) (iA : inI A) (iB : inI B)
include n1 k1 c1 hA hB bA bB iA iB
theorem mm_a {i t : Nat} (hi : i < n) (ht : t < k) : i * k + t < A.length := by rw [hA]; exact in_mat hi ht
theorem mm_b {j t : Nat} (hj : j < c) (ht : t < k) : t * c + j < B.length := by rw [hB]; exact in_mat ht hj
theorem mm_p {i j : Nat} (hi : i < n) (hj : j < c) (t : Nat) (ht : t < k) : Pb (mmF A B k c i j t) :=
 pb_mul (rdIn iA (mm_a A B n k c n1 k1 c1 hA hB bA bB iA iB hi ht)) (rdIn iB (mm_b A B n k c n1 k1 c1 hA hB bA bB iA iB hj ht))
theorem mm_k : k ≤ 4096 := Nat.le_trans (Nat.le_mul_of_pos_left _ n1) bA
theorem mm_matA : PlM.Mat n k := ⟨by omega, by have : n ≤ n * k := Nat.le_mul_of_pos_right _ k1; omega, by omega, by have := mm_k A B n k c n1 k1 c1 hA hB bA bB iA iB; omega, by rw [← Int.natCast_mul]; omega⟩
theorem mm_matB : PlM.Mat k c := ⟨by omega, by have := mm_k A B n k c n1 k1 c1 hA hB bA bB iA iB; omega, by omega, by have : c ≤ k * c := Nat.le_mul_of_pos_left _ k1; omega, by rw [← Int.natCast_mul]; omega⟩
theorem mm_okP : f38 ([(n : Int), (k : Int)], A) ([(k : Int), (c : Int)], B) = some (if 0 < prd [(n : Int), (c : Int)] then (0, [(n : Int), (c : Int)], tabL (n * c) (mmV A B k c)) else (2, [], [])) := by
 rw [PlN.mul_ok n k c A B (mm_matA A B n k c n1 k1 c1 hA hB bA bB iA iB) (mm_matB A B n k c n1 k1 c1 hA hB bA bB iA iB) hA hB iA iB]
 have e : (List.range (n * c)).map (PlN.mulV k c A ((List.range (c * k)).map (PlM.flipV k c B))) = tabL (n * c) (mmV A B k c) := by
  refine tab_ext _ _ _ (fun q hq => ?_)
  have hi : q / c < n := Nat.div_lt_of_lt_mul (by rw [Nat.mul_comm]; exact hq)
  have hj : q % c < c := Nat.mod_lt _ c1
  unfold PlN.mulV mmV
  rw [Matm.rowL_map A k (q / c) (by rw [hA]; exact Nat.mul_le_mul_right _ hi), Matm.col_map k c (q % c) B k1 hj, dotS_map]
  congr 2
 rw [e]
theorem mm_sumR (i j : Nat) (hi : i < n) (hj : j < c) :
  ∃ z, loopF (fun go (x : Int × Bool × Int × Int × Int × Int) => f53_l19 ([(n : Int), (k : Int)], A) ([(k : Int), (c : Int)], B) (i : Int) (j : Int) go x.1 x.2.1 x.2.2.1 x.2.2.2.1 x.2.2.2.2.1 x.2.2.2.2.2) fuelN ((0 : Int), false, (0 : Int), (0 : Int), (0 : Int), (0 : Int)) = some z ∧ Nm (sg (mmF A B k c i j) k) z := by
 have hk := mm_k A B n k c n1 k1 c1 hA hB bA bB iA iB
 have h := refdot (B := fun go (x : Int × Bool × Int × Int × Int × Int) => f53_l19 ([(n : Int), (k : Int)], A) ([(k : Int), (c : Int)], B) (i : Int) (j : Int) go x.1 x.2.1 x.2.2.1 x.2.2.2.1 x.2.2.2.2.1 x.2.2.2.2.2)
  (mmF A B k c i j) 0 k (fun t => rd (0 : Int) A ((i * k + t : Nat) : Int)) (fun t => rd (0 : Int) B ((t * c + j : Nat) : Int)) (by omega) (fun t ht => by rw [Nat.zero_add]; rfl)
  (fun t ht => rdIn iA (mm_a A B n k c n1 k1 c1 hA hB bA bB iA iB hi ht)) (fun t ht => rdIn iB (mm_b A B n k c n1 k1 c1 hA hB bA bB iA iB hj ht)) (fun t ht => mm_p A B n k c n1 k1 c1 hA hB bA bB iA iB hi hj t (by omega)) (by
   intro t ht z go
   have ha := mm_a A B n k c n1 k1 c1 hA hB bA bB iA iB hi ht
   have hb := mm_b A B n k c n1 k1 c1 hA hB bA bB iA iB hj ht
   unfold f53_l19
   simp only
   rw [show rd (0 : Int) [(n : Int), (k : Int)] 1 = (k : Int) from rfl, show rd (0 : Int) [(k : Int), (c : Int)] 1 = (c : Int) from rfl, dT (by omega), cond_true, ixM i k t (by omega), ixM t c j (by omega), guardF_pos (by omega), guardF_pos (by omega), wsucc t (by omega)]) (by
   intro z go
   unfold f53_l19
   simp only
   rw [show rd (0 : Int) [(n : Int), (k : Int)] 1 = (k : Int) from rfl, dF (by omega), cond_false]) (false, 0, 0, 0, 0) nm_zero
 rw [Nat.zero_add] at h
 exact h
theorem mm_loopR (n0 : 0 < prd [(n : Int), (c : Int)]) :
  loopF (fun go (x : Int × List Int) => f53_l15 ([(n : Int), (k : Int)], A) ([(k : Int), (c : Int)], B) go x.1 x.2) fuelN ((0 : Int), List.replicate (n * c) 0) = some (tabL (n * c) (mmV A B k c)) := by
 have hp := (prod2 n0).2.2
 have hr := prd_range [(n : Int), (c : Int)]
 have hN : ((n * c : Nat) : Int) ≤ 4096 := by rw [Int.natCast_mul]; omega
 have hk := mm_k A B n k c n1 k1 c1 hA hB bA bB iA iB
 have hnN : n ≤ n * c := Nat.le_mul_of_pos_right _ c1
 have hcN : c ≤ n * c := Nat.le_mul_of_pos_left _ n1
 rw [upto_zero _ (mmV A B k c)]
 have h := loop_for (B := fun go (x : Int × List Int) => f53_l15 ([(n : Int), (k : Int)], A) ([(k : Int), (c : Int)], B) go x.1 x.2) (fun i => ((i : Int), upto (n * c) (i * c) (mmV A B k c))) n (tabL (n * c) (mmV A B k c)) ?_ ?_ (by omega)
 ·rw [Nat.zero_mul] at h; exact h
 ·intro i hi go
  unfold f53_l15
  simp only
  have inner := loop_for (B := fun go (x : Int × List Int) => f53_l18 ([(n : Int), (k : Int)], A) ([(k : Int), (c : Int)], B) (i : Int) go x.1 x.2) (fun j => ((j : Int), upto (n * c) (i * c + j) (mmV A B k c))) c (upto (n * c) ((i + 1) * c) (mmV A B k c)) ?_ ?_ (by omega)
  ·rw [Nat.add_zero] at inner
   have inner' : loopF (fun go (x : Int × List Int) => f53_l18 ([(n : Int), (k : Int)], A) ([(k : Int), (c : Int)], B) (i : Int) go x.1 x.2) fuelN ((0 : Int), upto (n * c) (i * c) (mmV A B k c)) = _ := inner
   rw [show rd (0 : Int) [(n : Int), (k : Int)] 0 = (n : Int) from rfl, dT (by omega), cond_true, inner', bindF_some, wsucc i (by omega)]
  ·intro j hj go
   have hq := in_mat (c := n) hi hj
   obtain ⟨d1, d2⟩ := div_mat (x := i) hj
   obtain ⟨z, ez, hz⟩ := mm_sumR A B n k c n1 k1 c1 hA hB bA bB iA iB i j hi hj
   obtain ⟨y, ey, hy⟩ := ref_end hz (sg_sm _ _ hk (fun t ht => mm_p A B n k c n1 k1 c1 hA hB bA bB iA iB hi hj t ht))
   unfold f53_l18
   simp only [upto_len]
   rw [show rd (0 : Int) [(k : Int), (c : Int)] 1 = (c : Int) from rfl, dT (by omega), cond_true, ez, bindF_some, ey, bindF_some, hy, bindF_some,
    ixM i c j (by omega), guardF_pos (by omega), Int.toNat_natCast, wsucc j (by omega)]
   have := upto_set (n * c) (i * c + j) (mmV A B k c) (sat (rhe (sg (mmF A B k c i j) k))) hq (by unfold mmV; rw [d1, d2])
   rw [this]
   rfl
  ·intro go
   unfold f53_l18
   simp only
   rw [show rd (0 : Int) [(k : Int), (c : Int)] 1 = (c : Int) from rfl, dF (by omega), cond_false, Nat.add_mul, Nat.one_mul]
 ·intro go
  unfold f53_l15
  simp only
  rw [show rd (0 : Int) [(n : Int), (k : Int)] 0 = (n : Int) from rfl, dF (by omega), cond_false, upto_full]
end
abbrev mmFit (a b : Tn) : Prop := a.1.length = 2 ∧ b.1.length = 2 ∧ rd (0 : Int) a.1 1 = rd (0 : Int) b.1 0
abbrev bothGood (a b : Tn) : Prop := tgood a = true ∧ tgood b = true
def mmS (a b : Tn) : Int × Tn :=
 if bothGood a b then
  if mmFit a b then
   if 0 < prd [rd (0 : Int) a.1 0, rd (0 : Int) b.1 1] then (0, [rd (0 : Int) a.1 0, rd (0 : Int) b.1 1], tabL ((rd (0 : Int) a.1 0).toNat * (rd (0 : Int) b.1 1).toNat) (mmV a.2 b.2 (rd (0 : Int) a.1 1).toNat (rd (0 : Int) b.1 1).toNat))
   else (2, [], [])
  else (4, [], [])
 else (1, [], [])
theorem mm_j4 (a b : Tn) : f38_j4 a b = some (!(decide (bothGood a b))) := by
 unfold f38_j4
 have e1 : f21 (a.1, a.2) = some (tgood a) := good_ok a
 have e2 : f21 (b.1, b.2) = some (tgood b) := good_ok b
 generalize hd : decide (bothGood a b) = d
 rw [e1, bindF_some]
 by_cases ha : tgood a = true
 ·rw [ha, Bool.not_true, cond_false, e2, bindF_some]
  by_cases hb : tgood b = true
  ·rw [hb]; rw [dT (show bothGood a b from ⟨ha, hb⟩)] at hd; rw [← hd]
  ·rw [show tgood b = false by simpa using hb]; rw [dF (show ¬ bothGood a b from fun h => hb h.2)] at hd; rw [← hd]
 ·rw [show tgood a = false by simpa using ha]; rw [dF (show ¬ bothGood a b from fun h => ha h.1)] at hd; rw [← hd]; rfl
theorem mm_j3r (a b : Tn) : f53_j3 a b = some (!(decide (bothGood a b))) := by
 unfold f53_j3
 have e1 : f27 (a.1, a.2) = some (tgood a) := isR a
 have e2 : f27 (b.1, b.2) = some (tgood b) := isR b
 generalize hd : decide (bothGood a b) = d
 rw [e1, bindF_some]
 by_cases ha : tgood a = true
 ·rw [ha, Bool.not_true, cond_false, e2, bindF_some]
  by_cases hb : tgood b = true
  ·rw [hb]; rw [dT (show bothGood a b from ⟨ha, hb⟩)] at hd; rw [← hd]
  ·rw [show tgood b = false by simpa using hb]; rw [dF (show ¬ bothGood a b from fun h => hb h.2)] at hd; rw [← hd]
 ·rw [show tgood a = false by simpa using ha]; rw [dF (show ¬ bothGood a b from fun h => ha h.1)] at hd; rw [← hd]; rfl
theorem mm_j5 (a b : Tn) : f38_j5 a b = some (!(decide (mmFit a b))) := by
 unfold f38_j5 f69
 simp only [bindF_some]
 by_cases h1 : a.1.length = 2
 ·rw [bT (show (a.1.length : Int) = 2 by omega), Bool.not_true, cond_false]
  by_cases h2 : b.1.length = 2
  ·rw [bT (show (b.1.length : Int) = 2 by omega), Bool.not_true, cond_false, guardF_pos (by omega), guardF_pos (by omega)]
   by_cases h3 : rd (0 : Int) a.1 1 = rd (0 : Int) b.1 0
   ·rw [nF h3, dT (show mmFit a b from ⟨h1, h2, h3⟩)]; rfl
   ·rw [nT h3, dF (show ¬ mmFit a b from fun h => h3 h.2.2)]; rfl
  ·rw [bF (show ¬ (b.1.length : Int) = 2 by omega), dF (show ¬ mmFit a b from fun h => h2 h.2.1)]; rfl
 ·rw [bF (show ¬ (a.1.length : Int) = 2 by omega), dF (show ¬ mmFit a b from fun h => h1 h.1)]; rfl
theorem mm_j6 (a b : Tn) : f53_j6 a b = some (!(decide (mmFit a b))) := by
 unfold f53_j6
 by_cases h1 : a.1.length = 2
 ·rw [nF (by omega), cond_false]
  by_cases h2 : b.1.length = 2
  ·rw [nF (by omega), cond_false, guardF_pos (by omega), guardF_pos (by omega)]
   by_cases h3 : rd (0 : Int) a.1 1 = rd (0 : Int) b.1 0
   ·rw [nF h3, dT (show mmFit a b from ⟨h1, h2, h3⟩)]; rfl
   ·rw [nT h3, dF (show ¬ mmFit a b from fun h => h3 h.2.2)]; rfl
  ·rw [nT (by omega), dF (show ¬ mmFit a b from fun h => h2 h.2.1)]; rfl
 ·rw [nT (by omega), dF (show ¬ mmFit a b from fun h => h1 h.1)]; rfl
theorem mmP (a b : Tn) (ia : inI a.2) (ib : inI b.2) : f38 a b = some (mmS a b) := by
 unfold mmS
 by_cases h : bothGood a b
 ·rw [if_pos h]
  by_cases f : mmFit a b
  ·rw [if_pos f]
   obtain ⟨n, k, ea, n1, k1, la, ba⟩ := mat_nat h.1 f.1
   obtain ⟨k', c, eb, _, c1, lb, bb⟩ := mat_nat h.2 f.2.1
   have f3 := f.2.2
   clear f h
   generalize a.2 = A at *
   generalize b.2 = B at *
   subst ea eb
   have fk : (k : Int) = (k' : Int) := f3
   have fk' : k = k' := by omega
   subst fk'
   exact mm_okP A B n k c n1 k1 c1 la lb ba bb ia ib
  ·rw [if_neg f]
   unfold f38 f38_j3
   rw [mm_j4, dT h, Bool.not_true, bindF_some, cond_false, mm_j5, dF f]; rfl
 ·rw [if_neg h]
  unfold f38 f38_j3
  rw [mm_j4, dF h]; rfl
theorem mmR (a b : Tn) (ia : inI a.2) (ib : inI b.2) : f53 a b = some (mmS a b) := by
 unfold mmS f53 f53_j2 f53_j5
 rw [mm_j3r, bindF_some, mm_j6]
 by_cases h : bothGood a b
 ·rw [if_pos h, dT h, Bool.not_true, cond_false, bindF_some, sumF_inl, bindF_some]
  by_cases f : mmFit a b
  ·rw [if_pos f, dT f, Bool.not_true, cond_false, bindF_some, sumF_inl]
   obtain ⟨n, k, ea, n1, k1, la, ba⟩ := mat_nat h.1 f.1
   obtain ⟨k', c, eb, _, c1, lb, bb⟩ := mat_nat h.2 f.2.1
   have f3 := f.2.2
   clear f h
   generalize a.2 = A at *
   generalize b.2 = B at *
   subst ea eb
   have fk : (k : Int) = (k' : Int) := f3
   have fk' : k = k' := by omega
   subst fk'
   rw [guardF_pos (by simp), guardF_pos (by simp), guardF_pos (by simp), show rd (0 : Int) [(n : Int), (k : Int)] 0 = (n : Int) from rfl, show rd (0 : Int) [(k : Int), (c : Int)] 1 = (c : Int) from rfl, goodR, bindF_some]
   show _ = some (if 0 < prd [(n : Int), (c : Int)] then (0, [(n : Int), (c : Int)], tabL (n * c) (mmV A B k c)) else (2, [], []))
   by_cases n0 : 0 < prd [(n : Int), (c : Int)]
   ·have hp := (prod2 n0).2.2
    have eN : (prd [(n : Int), (c : Int)]).toNat = n * c := by rw [hp, ← Int.natCast_mul, Int.toNat_natCast]
    rw [dT (show prd [(n : Int), (c : Int)] > 0 from n0), if_pos n0, Bool.not_true, cond_false, newR _ _ n0, bindF_some, eN]
    simp only
    rw [mm_loopR A B n k c n1 k1 c1 la lb ba bb ia ib n0, bindF_some]
   ·rw [dF (show ¬ prd [(n : Int), (c : Int)] > 0 from n0), if_neg n0]; rfl
  ·rw [dF f, if_neg f]; rfl
 ·rw [dF h, if_neg h]; rfl
end Go.Proofs.Cv
namespace Go.Proofs.Op
open Go.AM Go.Proofs.PlB Go.Proofs.PlW Go.Proofs.PlT Go.Proofs.PlS Go.Proofs.Sh Go.Proofs.Num Go.Proofs.Div Go.Proofs.PlR
theorem fits_self {d : List Int} (h : 0 < prd d) : Fits d d := ⟨h, h, Nat.le_refl _, fun k hk h1 => rfl⟩
theorem acc_self {d : List Int} (h : 0 < prd d) (v : Int) (v0 : 0 ≤ v) (v1 : v ≤ 4096) : ∀ k, k ≤ d.length → accS d d v k + strd d k * rst d v k = v
 | 0, _ => by simp only [accS, rst, strd_zero]; omega
 | k + 1, hk => by
  have ih := acc_self h v v0 v1 k (by omega)
  obtain ⟨s0, s1⟩ := side_pos h k
  rw [strd_succ d k hk]
  simp only [accS, rst]
  have e := Int.mul_ediv_add_emod (rst d v k) (side d k)
  have e2 : (if side d k > 1 then rst d v k % side d k * strd d k else 0) = rst d v k % side d k * strd d k := by
   split
   ·rfl
   ·have : side d k = 1 := by omega
    rw [this, Int.emod_one, Int.zero_mul]
  rw [e2]
  have e3 : side d k * strd d k * (rst d v k / side d k) = strd d k * (side d k * (rst d v k / side d k)) := by
   rw [Int.mul_comm (side d k), Int.mul_assoc]
  have e4 : strd d k * rst d v k = strd d k * (side d k * (rst d v k / side d k)) + rst d v k % side d k * strd d k := by
   conv => lhs; rw [← e]
   rw [Int.mul_add, Int.mul_comm (strd d k) (rst d v k % side d k)]
  omega
theorem rst_all {d : List Int} (h : 0 < prd d) (v : Int) (v0 : 0 ≤ v) (v1 : v < prd d) : rst d v d.length = 0 := by
 have hr := prd_range d
 have e := acc_self h v v0 (by omega) d.length (Nat.le_refl _)
 obtain ⟨a, b⟩ := acc_range (fits_self h) v v0 (by omega) d.length (Nat.le_refl _)
 obtain ⟨r0, r1⟩ := rst_range h v v0 (by omega) d.length
 rw [strd_all, ← (prd_prod h).1] at e
 by_cases hz : rst d v d.length = 0
 ·exact hz
 ·have : prd d * 1 ≤ prd d * rst d v d.length := Int.mul_le_mul_of_nonneg_left (by omega) (by omega)
  omega
theorem tgood_of {t : Tn} (h : 0 < prd t.1) (hl : (t.2.length : Int) = prd t.1) : tgood t = true := by
 unfold tgood; rw [dT (show prd t.1 > 0 from h), bT hl]; rfl
def gn (l : List Nd) (i : Nat) : Nd := rd (Ty.z (.p (.int .i64) (.p (.int .i64) (.p (.int .i64) (.p (.int .i64) (.p (.sl (.int .i64)) (.sl (.int .i64)))))))) l (i : Int)
def GoodT (t : Tn) : Prop := tgood t = true ∧ inI t.2
def vl (l : List Nd) (n : Int) : Tn := if 0 ≤ n ∧ n < l.length then nd l n.toNat else ([], [])
theorem hasP (l : List Nd) (n : Int) : f18 l n = some (decide (0 ≤ n ∧ n < l.length), l) := by
 unfold f18
 by_cases h : n ≥ 0
 ·rw [dT h, cond_true]
  congr 2
  rw [decide_eq_decide]; omega
 ·rw [dF h, cond_false, dF (show ¬ (0 ≤ n ∧ n < l.length) from fun hh => h hh.1)]
theorem atP (l : List Nd) (i : Nat) (h : i < l.length) (hg : GoodT (nd l i)) : f8 l (i : Int) = some ((gn l i).1, (gn l i).2.1, (gn l i).2.2.1, (gn l i).2.2.2.1, true, (nd l i).1, (nd l i).2, l) := by
 obtain ⟨_, _, l1, l2⟩ := good_len hg.1
 unfold f8
 rw [hasP, bindF_some, dT (by omega)]
 simp only [Bool.not_true, cond_false]
 rw [guardF_pos (by omega)]
 show bindF (f19 (nd l i)) _ = _
 rw [copy_t _ (by omega) (by omega), bindF_some]
 rfl
theorem atP_none (l : List Nd) (n : Int) (h : ¬ (0 ≤ n ∧ n < l.length)) : f8 l n = some (0, 0, 0, 0, false, [], [], l) := by
 unfold f8
 rw [hasP, bindF_some, dF h]
 rfl
theorem valueP (l : List Nd) (n : Int) (hg : ∀ i, i < l.length → GoodT (nd l i)) : f9 l n = some (decide (0 ≤ n ∧ n < l.length), (vl l n).1, (vl l n).2, l) := by
 unfold f9 vl
 by_cases h : 0 ≤ n ∧ n < l.length
 ·obtain ⟨i, rfl⟩ := Int.eq_ofNat_of_zero_le h.1
  rw [atP l i (by omega) (hg i (by omega)), bindF_some, if_pos h, dT h, Int.toNat_natCast]
 ·rw [atP_none l n h, bindF_some, if_neg h, dF h]
abbrev Z2 : Tn := Ty.z (.p (.sl (.int .i64)) (.sl (.int .i64)))
structure Keeps (l : List Nd) (root : Nat) (st : List Tn × List Bool) : Prop where
 l1 : st.1.length = root + 1
 l2 : st.2.length = root + 1
 ok : ∀ i, i ≤ root → GoodT (rd Z2 st.1 (i : Int)) ∧ (rd Z2 st.1 (i : Int)).1 = (nd l i).1
end Go.Proofs.Op
namespace Go.Proofs.Cv
open Go.AM Go.Proofs.PlB Go.Proofs.PlW Go.Proofs.PlT Go.Proofs.PlS Go.Proofs.Sh Go.Proofs.Num Go.Proofs.Div Go.Proofs.Op
def hor (d p : List Int) : Nat → Int
 | 0 => 0
 | k + 1 => hor d p k * rd (0 : Int) d (k : Int) + rd (0 : Int) p (k : Int)
theorem prodL_app : ∀ a b : List Int, prodL (a ++ b) = prodL a * prodL b
 | [], b => by simp [prodL]
 | x :: a, b => by simp only [List.cons_append, prodL]; rw [prodL_app a b, Int.mul_assoc]
theorem prodL_take {d : List Int} (k : Nat) (h : k < d.length) : prodL (d.take (k + 1)) = prodL (d.take k) * rd (0 : Int) d (k : Int) := by
 rw [List.take_succ_eq_append_getElem h, prodL_app, rd_nat _ _ _ h]
 simp [prodL]
theorem prodL_le {d : List Int} (hd : ∀ x ∈ d, 1 ≤ x) (k : Nat) : 1 ≤ prodL (d.take k) ∧ prodL (d.take k) ≤ prodL d := by
 have h1 := prodL_pos (d.take k) (fun x hx => hd x (List.mem_of_mem_take hx))
 have h2 := prodL_pos (d.drop k) (fun x hx => hd x (List.mem_of_mem_drop hx))
 refine ⟨h1, ?_⟩
 have e : prodL d = prodL (d.take k) * prodL (d.drop k) := by rw [← prodL_app, List.take_append_drop]
 rw [e]
 have := Int.mul_le_mul_of_nonneg_left h2 (show 0 ≤ prodL (d.take k) by omega)
 omega
structure Within (d p : List Int) : Prop where
 len : p.length = d.length
 lo : ∀ k, k < d.length → 0 ≤ rd (0 : Int) p (k : Int)
 hi : ∀ k, k < d.length → rd (0 : Int) p (k : Int) < rd (0 : Int) d (k : Int)
theorem hor_in {d p : List Int} (W : Within d p) : ∀ k, k ≤ d.length → 0 ≤ hor d p k ∧ hor d p k < prodL (d.take k)
 | 0, _ => by simp [hor, prodL]
 | k + 1, h => by
  obtain ⟨h1, h2⟩ := hor_in W k (by omega)
  have l := W.lo k (by omega)
  have u := W.hi k (by omega)
  rw [prodL_take k (by omega)]
  simp only [hor]
  have m1 : 0 ≤ hor d p k * rd (0 : Int) d (k : Int) := Int.mul_nonneg h1 (by omega)
  have m2 : (hor d p k + 1) * rd (0 : Int) d (k : Int) ≤ prodL (d.take k) * rd (0 : Int) d (k : Int) := Int.mul_le_mul_of_nonneg_right (by omega) (by omega)
  rw [Int.add_mul, Int.one_mul] at m2
  constructor <;> omega
theorem hor_small {d p : List Int} (hd : 0 < prd d) (W : Within d p) (k : Nat) (hk : k ≤ d.length) : 0 ≤ hor d p k ∧ hor d p k < prd d ∧ hor d p k < 4096 := by
 obtain ⟨e, h1, h2⟩ := prd_prod hd
 have hr := prd_range d
 obtain ⟨a, b⟩ := hor_in W k hk
 obtain ⟨_, c⟩ := prodL_le (fun x hx => (h1 x hx).1) k
 omega
theorem hor_step {d p : List Int} (hd : 0 < prd d) (W : Within d p) (k : Nat) (hk : k < d.length) :
  IntKind.i64.wrap (IntKind.i64.wrap (hor d p k * rd (0 : Int) d (k : Int)) + rd (0 : Int) p (k : Int)) = hor d p (k + 1) := by
 obtain ⟨a, b, c⟩ := hor_small hd W k (by omega)
 obtain ⟨a2, b2, c2⟩ := hor_small hd W (k + 1) hk
 have l := W.lo k hk
 have u := W.hi k hk
 simp only [hor] at a2 b2 c2 ⊢
 have m1 : 0 ≤ hor d p k * rd (0 : Int) d (k : Int) := Int.mul_nonneg a (by omega)
 rw [wrap_i64 (n := hor d p k * rd (0 : Int) d (k : Int)) (by omega) (by omega), wrap_i64 (by omega) (by omega)]
theorem atR {d p : List Int} (hd : 0 < prd d) (W : Within d p) : f98 d p = some (hor d p d.length, true) := by
 have hl := prd_len hd
 have hp := W.len
 unfold f98 f98_j1
 rw [goodR, bindF_some, dT (show prd d > 0 from hd), Bool.not_true, cond_false, nF (by omega), cond_false, bindF_some, sumF_inl]
 have h := loop_for (B := fun go (x : Int × Int) => f98_l4 d p go x.1 x.2) (fun k => (hor d p k, (k : Int))) d.length (Sum.inr (hor d p d.length)) ?_ ?_ (by omega)
 ·have h' : loopF (fun go (x : Int × Int) => f98_l4 d p go x.1 x.2) fuelN ((0 : Int), (0 : Int)) = _ := h
  rw [h', bindF_some, sumF_inr]
 ·intro k hk go
  have l := W.lo k hk
  have u := W.hi k hk
  have hj : f98_j5 d p (k : Int) = some (Sum.inl ()) := by
   unfold f98_j5
   rw [guardF_pos (by omega), dF (by omega), cond_false, guardF_pos (by omega), guardF_pos (by omega), dF (by omega)]; rfl
  unfold f98_l4
  simp only
  rw [dT (by omega), cond_true, hj, bindF_some, sumF_inl, guardF_pos (by omega), guardF_pos (by omega), hor_step hd W k hk, wsucc k (by omega)]
 ·intro go
  unfold f98_l4
  simp only
  rw [dF (by omega), cond_false]
theorem rst_step {d : List Int} (h : 0 < prd d) (v : Int) (k : Nat) (hk : k < d.length) : rst d v (k + 1) * side d k + rst d v k % side d k = rst d v k := by
 have := side_pos h k
 show rst d v k / side d k * side d k + rst d v k % side d k = rst d v k
 rw [Int.mul_comm]; exact Int.mul_ediv_add_emod _ _
theorem rd_side (d : List Int) (j : Nat) (hj : j < d.length) : rd (0 : Int) d (j : Int) = side d (d.length - 1 - j) := by
 have := side_rd d (d.length - 1 - j) (by omega)
 rw [show d.length - 1 - (d.length - 1 - j) = j by omega] at this
 exact this
theorem rd_plc (d : List Int) (v : Int) (j : Nat) (hj : j < d.length) : rd (0 : Int) (plc d v) (j : Int) = rst d v (d.length - 1 - j) % side d (d.length - 1 - j) := by
 have := plc_rd d v (d.length - 1 - j) (by omega)
 rw [show d.length - 1 - (d.length - 1 - j) = j by omega] at this
 exact this
theorem plc_within {d : List Int} (h : 0 < prd d) (v : Int) : Within d (plc d v) :=
 ⟨plc_len d v, fun k hk => by rw [rd_plc d v k hk]; have := side_pos h (d.length - 1 - k); exact Int.emod_nonneg _ (by omega),
  fun k hk => by rw [rd_plc d v k hk, rd_side d k hk]; have := side_pos h (d.length - 1 - k); exact Int.emod_lt_of_pos _ (by omega)⟩
theorem hor_plc {d : List Int} (h : 0 < prd d) (v : Int) (v0 : 0 ≤ v) (v1 : v < prd d) : ∀ j, j ≤ d.length → hor d (plc d v) j = rst d v (d.length - j)
 | 0, _ => by rw [Nat.sub_zero, rst_all h v v0 v1]; rfl
 | j + 1, hj => by
  simp only [hor]
  rw [hor_plc h v v0 v1 j (by omega), rd_plc d v j (by omega), rd_side d j (by omega), show d.length - j = (d.length - 1 - j) + 1 by omega, rst_step h v _ (by omega), show d.length - 1 - j = d.length - (j + 1) by omega]
end Go.Proofs.Cv
namespace Go.Proofs.Cv
open Go.AM Go.Proofs.PlB Go.Proofs.PlW Go.Proofs.PlT Go.Proofs.PlS Go.Proofs.Sh Go.Proofs.Num Go.Proofs.Div Go.Proofs.Op
def bst (V : List Int) (base : Nat) : Nat → Nat
 | 0 => base
 | y + 1 => if rd (0 : Int) V ((base + (y + 1) : Nat) : Int) > rd (0 : Int) V (bst V base y : Int) then base + (y + 1) else bst V base y
theorem bst_in (V : List Int) (base : Nat) : ∀ y, base ≤ bst V base y ∧ bst V base y ≤ base + y
 | 0 => ⟨Nat.le_refl _, Nat.le_refl _⟩
 | y + 1 => by
  have := bst_in V base y
  simp only [bst]
  split <;> omega
theorem tab_push2 {α : Type} (n : Nat) (g : Nat → α) : tabL n g ++ [g n] = tabL (n + 1) g := by simp [tabL, List.range_succ]
def pl (V : List Int) (L w q : Nat) : Nat := bst V (q / (L / w) * L + q % (L / w) * w) (w - 1)
theorem prd_pos2 {c m : Nat} (h1 : 1 ≤ c) (h2 : 1 ≤ m) (h : c * m ≤ 4096) : 0 < prd [(c : Int), (m : Int)] ∧ (prd [(c : Int), (m : Int)]).toNat = c * m := by
 have a1 : c ≤ c * m := Nat.le_mul_of_pos_right _ h2
 have a2 : m ≤ c * m := Nat.le_mul_of_pos_left _ h1
 have e : prd [(c : Int), (m : Int)] = ((c * m : Nat) : Int) := by rw [prd_two, if_neg (by rw [← Int.natCast_mul]; omega), Int.natCast_mul]
 rw [e]
 exact ⟨by omega, Int.toNat_natCast _⟩
section
variable (V : List Int) (c L w : Nat) (c1 : 1 ≤ c) (w1 : 1 ≤ w) (hw : w ≤ L) (hV : V.length = c * L) (bV : c * L ≤ 4096)
include c1 w1 hw hV bV
theorem pool_m : 1 ≤ L / w ∧ L / w ≤ L ∧ c * (L / w) ≤ 4096 ∧ L ≤ 4096 := by
 have a : L / w ≤ L := Nat.div_le_self _ _
 have b : c * (L / w) ≤ c * L := Nat.mul_le_mul_left _ a
 exact ⟨(Nat.le_div_iff_mul_le w1).2 (by omega), a, by omega, Nat.le_trans (Nat.le_mul_of_pos_left _ c1) bV⟩
theorem pool_in {x j y : Nat} (hx : x < c) (hj : j < L / w) (hy : y < w) : x * L + j * w + y < V.length := by
 have h1 : (j + 1) * w ≤ L / w * w := Nat.mul_le_mul_right _ hj
 have h2 : L / w * w ≤ L := Nat.div_mul_le_self _ _
 rw [Nat.add_mul, Nat.one_mul] at h1
 have := in_mat (c := c) (L := L) hx (show j * w + y < L by omega)
 rw [hV]; omega
theorem pool_eM : IntKind.i64.wrap (Int.tdiv (L : Int) (w : Int)) = ((L / w : Nat) : Int) := by
 obtain ⟨_, a, _, b⟩ := pool_m V c L w c1 w1 hw hV bV
 rw [Int.tdiv_eq_ediv_of_nonneg (by omega), ← Int.natCast_ediv, wnat (by omega)]
theorem pool_bestP (q : Nat) (hq : q < c * (L / w)) :
  loopF (fun go (x : Int × Int) => f47_l7 ([(c : Int), (L : Int)], V) w (q : Int) go x.1 x.2) fuelN (((q / (L / w) * L + q % (L / w) * w : Nat) : Int), ((q / (L / w) * L + q % (L / w) * w + 1 : Nat) : Int)) = some (pl V L w q : Int) := by
 obtain ⟨m1, mL, mN, hL⟩ := pool_m V c L w c1 w1 hw hV bV
 have eM := pool_eM V c L w c1 w1 hw hV bV
 have hx : q / (L / w) < c := Nat.div_lt_of_lt_mul (by rw [Nat.mul_comm]; exact hq)
 have hj : q % (L / w) < L / w := Nat.mod_lt _ m1
 have eI : IntKind.i64.wrap (Int.tdiv (q : Int) ((L / w : Nat) : Int)) = ((q / (L / w) : Nat) : Int) := by
  have : q / (L / w) ≤ q := Nat.div_le_self _ _
  rw [Int.tdiv_eq_ediv_of_nonneg (by omega), ← Int.natCast_ediv, wnat (by omega)]
 have eN : Int.tmod (q : Int) ((L / w : Nat) : Int) = ((q % (L / w) : Nat) : Int) := by
  rw [Int.tmod_eq_emod_of_nonneg (by omega), ← Int.natCast_emod]
 have hend := pool_in V c L w c1 w1 hw hV bV hx hj (show w - 1 < w by omega)
 unfold pl
 generalize q / (L / w) = x at *
 generalize q % (L / w) = j at *
 generalize hm : L / w = m at *
 have eB : IntKind.i64.wrap (IntKind.i64.wrap (IntKind.i64.wrap ((x : Int) * (L : Int)) + IntKind.i64.wrap ((j : Int) * (w : Int))) + (w : Int)) = ((x * L + j * w + w : Nat) : Int) := ixA x L j w w (by omega)
 have h := loop_for (B := fun go (z : Int × Int) => f47_l7 ([(c : Int), (L : Int)], V) w (q : Int) go z.1 z.2) (fun y => ((bst V (x * L + j * w) y : Int), ((x * L + j * w + 1 + y : Nat) : Int))) (w - 1) (bst V (x * L + j * w) (w - 1) : Int) ?_ ?_ (by omega)
 ·exact h
 ·intro y hy go
  have hb := bst_in V (x * L + j * w) y
  unfold f47_l7
  simp only
  have m0 : ((m : Nat) : Int) ≠ 0 := by omega
  rw [show rd (0 : Int) [(c : Int), (L : Int)] 1 = (L : Int) from rfl, eM, guardF_pos m0, guardF_pos m0, eI, eN, eB, dT (by omega), cond_true, guardF_pos (by omega), guardF_pos (by omega), wsucc _ (by omega)]
  have e2 : ((x * L + j * w + 1 + y : Nat) : Int) = ((x * L + j * w + (y + 1) : Nat) : Int) := by omega
  have e3 : ((x * L + j * w + 1 + y + 1 : Nat) : Int) = ((x * L + j * w + 1 + (y + 1) : Nat) : Int) := by omega
  rw [e2, e3]
  simp only [bst]
  by_cases g : rd (0 : Int) V ((x * L + j * w + (y + 1) : Nat) : Int) > rd (0 : Int) V (bst V (x * L + j * w) y : Int)
  ·rw [dT g, if_pos g]; rfl
  ·rw [dF g, if_neg g]; rfl
 ·intro go
  unfold f47_l7
  simp only
  have m0 : ((m : Nat) : Int) ≠ 0 := by omega
  rw [show rd (0 : Int) [(c : Int), (L : Int)] 1 = (L : Int) from rfl, eM, guardF_pos m0, guardF_pos m0, eI, eN, eB, dF (by omega), cond_false]
theorem pool_bestR (x j : Nat) (hx : x < c) (hj : j < L / w) :
  loopF (fun go (z : Int × Int) => f62_l16 ([(c : Int), (L : Int)], V) w (x : Int) (j : Int) go z.1 z.2) fuelN (((x * L + j * w : Nat) : Int), (1 : Int)) = some (bst V (x * L + j * w) (w - 1) : Int) := by
 obtain ⟨m1, mL, mN, hL⟩ := pool_m V c L w c1 w1 hw hV bV
 have hend := pool_in V c L w c1 w1 hw hV bV hx hj (show w - 1 < w by omega)
 have h := loop_for (B := fun go (z : Int × Int) => f62_l16 ([(c : Int), (L : Int)], V) w (x : Int) (j : Int) go z.1 z.2) (fun y => ((bst V (x * L + j * w) y : Int), ((1 + y : Nat) : Int))) (w - 1) (bst V (x * L + j * w) (w - 1) : Int) ?_ ?_ (by omega)
 ·exact h
 ·intro y hy go
  have hb := bst_in V (x * L + j * w) y
  unfold f62_l16
  simp only
  rw [show rd (0 : Int) [(c : Int), (L : Int)] 1 = (L : Int) from rfl, dT (by omega), cond_true, ixA x L j w (1 + y) (by omega), guardF_pos (by omega), guardF_pos (by omega), wsucc _ (by omega)]
  have e2 : ((x * L + j * w + (1 + y) : Nat) : Int) = ((x * L + j * w + (y + 1) : Nat) : Int) := by omega
  have e3 : ((1 + y + 1 : Nat) : Int) = ((1 + (y + 1) : Nat) : Int) := by omega
  rw [e2, e3]
  simp only [bst]
  by_cases g : rd (0 : Int) V ((x * L + j * w + (y + 1) : Nat) : Int) > rd (0 : Int) V (bst V (x * L + j * w) y : Int)
  ·rw [dT g, if_pos g]; rfl
  ·rw [dF g, if_neg g]; rfl
 ·intro go
  unfold f62_l16
  simp only
  rw [dF (by omega), cond_false]
def plT (N : Nat) (V : List Int) (L w : Nat) : List Int := tabL N (fun q => (pl V L w q : Int))
def plV (V : List Int) (L w q : Nat) : Int := rd (0 : Int) V (pl V L w q : Int)
theorem pl_in {q : Nat} (hq : q < c * (L / w)) : pl V L w q < V.length := by
 obtain ⟨m1, mL, mN, hL⟩ := pool_m V c L w c1 w1 hw hV bV
 have hx : q / (L / w) < c := Nat.div_lt_of_lt_mul (by rw [Nat.mul_comm]; exact hq)
 have hj : q % (L / w) < L / w := Nat.mod_lt _ m1
 have hend := pool_in V c L w c1 w1 hw hV bV hx hj (show w - 1 < w by omega)
 have := bst_in V (q / (L / w) * L + q % (L / w) * w) (w - 1)
 unfold pl; omega
theorem pool_loopP (r : List Int) :
  loopF (fun go (x : Int × List Int × List Int) => f47_l6 ([(c : Int), (L : Int)], V) w (0, r, List.replicate (c * (L / w)) 0) go x.1 x.2.1 x.2.2) fuelN ((0 : Int), [], List.replicate (c * (L / w)) 0) = some (plT (c * (L / w)) V L w, tabL (c * (L / w)) (plV V L w)) := by
 obtain ⟨m1, mL, mN, hL⟩ := pool_m V c L w c1 w1 hw hV bV
 have eM := pool_eM V c L w c1 w1 hw hV bV
 rw [upto_zero _ (plV V L w)]
 have h := loop_for (B := fun go (x : Int × List Int × List Int) => f47_l6 ([(c : Int), (L : Int)], V) w (0, r, upto (c * (L / w)) 0 (plV V L w)) go x.1 x.2.1 x.2.2) (fun q => ((q : Int), plT q V L w, upto (c * (L / w)) q (plV V L w))) (c * (L / w)) (plT (c * (L / w)) V L w, tabL (c * (L / w)) (plV V L w)) ?_ ?_ (by omega)
 ·exact h
 ·intro q hq go
  have hx : q / (L / w) < c := Nat.div_lt_of_lt_mul (by rw [Nat.mul_comm]; exact hq)
  have hj : q % (L / w) < L / w := Nat.mod_lt _ m1
  have hend := pool_in V c L w c1 w1 hw hV bV hx hj (show w - 1 < w by omega)
  have best := pool_bestP V c L w c1 w1 hw hV bV q hq
  have hpl := pl_in V c L w c1 w1 hw hV bV hq
  have eI : IntKind.i64.wrap (Int.tdiv (q : Int) ((L / w : Nat) : Int)) = ((q / (L / w) : Nat) : Int) := by
   have : q / (L / w) ≤ q := Nat.div_le_self _ _
   rw [Int.tdiv_eq_ediv_of_nonneg (by omega), ← Int.natCast_ediv, wnat (by omega)]
  have eN : Int.tmod (q : Int) ((L / w : Nat) : Int) = ((q % (L / w) : Nat) : Int) := by
   rw [Int.tmod_eq_emod_of_nonneg (by omega), ← Int.natCast_emod]
  unfold f47_l6
  simp only [upto_len]
  have m0 : ((L / w : Nat) : Int) ≠ 0 := by omega
  have e2 : IntKind.i64.wrap (IntKind.i64.wrap (((q / (L / w) : Nat) : Int) * (L : Int)) + IntKind.i64.wrap (((q % (L / w) : Nat) : Int) * (w : Int))) = ((q / (L / w) * L + q % (L / w) * w : Nat) : Int) := by
   rw [wmul _ L (by omega), wmul _ w (by omega), wadd _ _ (by omega)]
  have hlen : (plT q V L w).length = q := tab_len _ _
  rw [show rd (0 : Int) [(c : Int), (L : Int)] 1 = (L : Int) from rfl, eM, dT (by omega), cond_true, guardF_pos m0, guardF_pos m0, eI, eN, e2, wsucc _ (by omega), best, bindF_some, guardF_pos (by omega), guardF_pos (by omega),
   guardF_pos (by rw [hlen]; simp only [List.length_cons, List.length_nil]; omega), wsucc q (by omega), Int.toNat_natCast]
  have := upto_set (c * (L / w)) q (plV V L w) (rd (0 : Int) V (pl V L w q : Int)) hq rfl
  rw [this]
  have e4 : plT q V L w ++ [(pl V L w q : Int)] = plT (q + 1) V L w := tab_push2 q (fun q => (pl V L w q : Int))
  rw [e4]
 ·intro go
  unfold f47_l6
  simp only [upto_len]
  rw [dF (by omega), cond_false, upto_full]
theorem pool_loopR :
  loopF (fun go (x : Int × List Int × List Int) => f62_l12 ([(c : Int), (L : Int)], V) w go x.1 x.2.1 x.2.2) fuelN ((0 : Int), [], List.replicate (c * (L / w)) 0) = some (plT (c * (L / w)) V L w, tabL (c * (L / w)) (plV V L w)) := by
 obtain ⟨m1, mL, mN, hL⟩ := pool_m V c L w c1 w1 hw hV bV
 have eM := pool_eM V c L w c1 w1 hw hV bV
 have hcN : c ≤ c * (L / w) := Nat.le_mul_of_pos_right _ m1
 rw [upto_zero _ (plV V L w)]
 have h := loop_for (B := fun go (x : Int × List Int × List Int) => f62_l12 ([(c : Int), (L : Int)], V) w go x.1 x.2.1 x.2.2) (fun x => ((x : Int), plT (x * (L / w)) V L w, upto (c * (L / w)) (x * (L / w)) (plV V L w))) c (plT (c * (L / w)) V L w, tabL (c * (L / w)) (plV V L w)) ?_ ?_ (by omega)
 ·rw [Nat.zero_mul] at h; exact h
 ·intro x hx go
  unfold f62_l12
  simp only
  have inner := loop_for (B := fun go (z : Int × List Int × List Int) => f62_l15 ([(c : Int), (L : Int)], V) w (x : Int) go z.1 z.2.1 z.2.2) (fun j => ((j : Int), plT (x * (L / w) + j) V L w, upto (c * (L / w)) (x * (L / w) + j) (plV V L w))) (L / w) (plT ((x + 1) * (L / w)) V L w, upto (c * (L / w)) ((x + 1) * (L / w)) (plV V L w)) ?_ ?_ (by omega)
  ·rw [Nat.add_zero] at inner
   have inner' : loopF (fun go (z : Int × List Int × List Int) => f62_l15 ([(c : Int), (L : Int)], V) w (x : Int) go z.1 z.2.1 z.2.2) fuelN ((0 : Int), plT (x * (L / w)) V L w, upto (c * (L / w)) (x * (L / w)) (plV V L w)) = _ := inner
   rw [show rd (0 : Int) [(c : Int), (L : Int)] 0 = (c : Int) from rfl, dT (by omega), cond_true, inner', bindF_some, wsucc x (by omega)]
  ·intro j hj go
   have hq := in_mat (c := c) hx hj
   obtain ⟨d1, d2⟩ := div_mat (x := x) hj
   have hend := pool_in V c L w c1 w1 hw hV bV hx hj (show w - 1 < w by omega)
   have best := pool_bestR V c L w c1 w1 hw hV bV x j hx hj
   have hpl := pl_in V c L w c1 w1 hw hV bV hq
   have ep : bst V (x * L + j * w) (w - 1) = pl V L w (x * (L / w) + j) := by unfold pl; rw [d1, d2]
   have e2 : IntKind.i64.wrap (IntKind.i64.wrap ((x : Int) * (L : Int)) + IntKind.i64.wrap ((j : Int) * (w : Int))) = ((x * L + j * w : Nat) : Int) := by
    rw [wmul _ L (by omega), wmul _ w (by omega), wadd _ _ (by omega)]
   have hlen : (plT (x * (L / w) + j) V L w).length = x * (L / w) + j := tab_len _ _
   unfold f62_l15
   simp only [upto_len]
   rw [show rd (0 : Int) [(c : Int), (L : Int)] 1 = (L : Int) from rfl, eM, dT (by omega), cond_true, e2, best, bindF_some, ep, guardF_pos (by omega), ixM x (L / w) j (by omega), guardF_pos (by omega),
    guardF_pos (by rw [hlen]; simp only [List.length_cons, List.length_nil]; omega), Int.toNat_natCast, wsucc j (by omega)]
   have := upto_set (c * (L / w)) (x * (L / w) + j) (plV V L w) (rd (0 : Int) V (pl V L w (x * (L / w) + j) : Int)) hq rfl
   rw [this]
   have e4 : plT (x * (L / w) + j) V L w ++ [(pl V L w (x * (L / w) + j) : Int)] = plT (x * (L / w) + j + 1) V L w := tab_push2 _ (fun q => (pl V L w q : Int))
   rw [e4]
   rfl
  ·intro go
   unfold f62_l15
   simp only
   rw [show rd (0 : Int) [(c : Int), (L : Int)] 1 = (L : Int) from rfl, eM, dF (by omega), cond_false, Nat.add_mul, Nat.one_mul]
 ·intro go
  unfold f62_l12
  simp only
  rw [show rd (0 : Int) [(c : Int), (L : Int)] 0 = (c : Int) from rfl, dF (by omega), cond_false, upto_full]
end
def poolS (a : Tn) (wid : Int) : Int × List Int × List Int × List Int :=
 if tgood a = true then
  if a.1.length = 2 then
   if 1 ≤ wid ∧ wid ≤ rd (0 : Int) a.1 1 then
    (0, [rd (0 : Int) a.1 0, (((rd (0 : Int) a.1 1).toNat / wid.toNat : Nat) : Int)], tabL ((rd (0 : Int) a.1 0).toNat * ((rd (0 : Int) a.1 1).toNat / wid.toNat)) (plV a.2 (rd (0 : Int) a.1 1).toNat wid.toNat), plT ((rd (0 : Int) a.1 0).toNat * ((rd (0 : Int) a.1 1).toNat / wid.toNat)) a.2 (rd (0 : Int) a.1 1).toNat wid.toNat)
   else (1, [], [], [])
  else (4, [], [], [])
 else (1, [], [], [])
theorem poolP (a : Tn) (wid : Int) : f47 a wid = some (poolS a wid) := by
 have eg : f21 (a.1, a.2) = some (tgood a) := good_ok a
 unfold f47 f47_j2 poolS
 rw [eg, bindF_some]
 by_cases ga : tgood a = true
 ·rw [if_pos ga, ga, Bool.not_true, cond_false]
  by_cases f1 : a.1.length = 2
  ·rw [if_pos f1, nF (by omega), cond_false]
   by_cases h : 1 ≤ wid ∧ wid ≤ rd (0 : Int) a.1 1
   ·have hj : f47_j3 a wid = some false := by
     unfold f47_j3
     rw [dF (by omega), cond_false, guardF_pos (by omega), dF (by omega)]
    rw [if_pos h, hj, bindF_some, cond_false, bindF_some, sumF_inl]
    obtain ⟨c, L, ea, c1, L1, la, ba⟩ := mat_nat ga f1
    obtain ⟨w, rfl⟩ := Int.eq_ofNat_of_zero_le (show 0 ≤ wid by omega)
    generalize a.2 = V at *
    subst ea
    have fw : (w : Int) ≤ (L : Int) := h.2
    have w1 : 1 ≤ w := by omega
    have hw : w ≤ L := by omega
    obtain ⟨m1, mL, mN, hL⟩ := pool_m V c L w c1 w1 hw la ba
    obtain ⟨p0, pN⟩ := prd_pos2 c1 m1 mN
    rw [guardF_pos (by simp), guardF_pos (by simp), guardF_pos (by omega), guardF_pos (by simp), show rd (0 : Int) [(c : Int), (L : Int)] 0 = (c : Int) from rfl, show rd (0 : Int) [(c : Int), (L : Int)] 1 = (L : Int) from rfl, pool_eM V c L w c1 w1 hw la ba, of_ok, if_pos p0, pN, bindF_some]
    simp only
    rw [pool_loopP V c L w c1 w1 hw la ba, bindF_some]
    rfl
   ·have hj : f47_j3 a wid = some true := by
     unfold f47_j3
     by_cases h1 : wid < 1
     ·rw [dT h1]; rfl
     ·rw [dF h1, cond_false, guardF_pos (by omega), dT (by omega)]
    rw [if_neg h, hj]; rfl
  ·rw [if_neg f1, nT (by omega)]; rfl
 ·rw [if_neg ga, show tgood a = false by simpa using ga]; rfl
theorem poolR (a : Tn) (wid : Int) : f62 a wid = some (poolS a wid) := by
 have eg : f27 (a.1, a.2) = some (tgood a) := isR a
 unfold f62 f62_j2 poolS
 rw [eg, bindF_some]
 by_cases ga : tgood a = true
 ·rw [if_pos ga, ga, Bool.not_true, cond_false]
  by_cases f1 : a.1.length = 2
  ·rw [if_pos f1, nF (by omega), cond_false]
   by_cases h : 1 ≤ wid ∧ wid ≤ rd (0 : Int) a.1 1
   ·have hj : f62_j3 a wid = some false := by
     unfold f62_j3
     rw [dF (by omega), cond_false, guardF_pos (by omega), dF (by omega)]
    rw [if_pos h, hj, bindF_some, cond_false, bindF_some, sumF_inl]
    obtain ⟨c, L, ea, c1, L1, la, ba⟩ := mat_nat ga f1
    obtain ⟨w, rfl⟩ := Int.eq_ofNat_of_zero_le (show 0 ≤ wid by omega)
    generalize a.2 = V at *
    subst ea
    have fw : (w : Int) ≤ (L : Int) := h.2
    have w1 : 1 ≤ w := by omega
    have hw : w ≤ L := by omega
    obtain ⟨m1, mL, mN, hL⟩ := pool_m V c L w c1 w1 hw la ba
    obtain ⟨p0, pN⟩ := prd_pos2 c1 m1 mN
    rw [guardF_pos (by simp), guardF_pos (by simp), guardF_pos (by omega), show rd (0 : Int) [(c : Int), (L : Int)] 0 = (c : Int) from rfl, show rd (0 : Int) [(c : Int), (L : Int)] 1 = (L : Int) from rfl, pool_eM V c L w c1 w1 hw la ba, newR _ _ p0, pN, bindF_some]
    simp only
    rw [pool_loopR V c L w c1 w1 hw la ba, bindF_some]
    rfl
   ·have hj : f62_j3 a wid = some true := by
     unfold f62_j3
     by_cases h1 : wid < 1
     ·rw [dT h1]; rfl
     ·rw [dF h1, cond_false, guardF_pos (by omega), dT (by omega)]
    rw [if_neg h, hj]; rfl
  ·rw [if_neg f1, nT (by omega)]; rfl
 ·rw [if_neg ga, show tgood a = false by simpa using ga]; rfl
end Go.Proofs.Cv
namespace Go.Proofs.Cv
open Go.AM Go.Proofs.PlB Go.Proofs.PlW Go.Proofs.PlT Go.Proofs.PlS Go.Proofs.Sh Go.Proofs.Num Go.Proofs.Div Go.Proofs.Op
def flS (a : Tn) : Int × Tn :=
 if tgood a = true then
  if a.1.length = 2 then (0, [rd (0 : Int) a.1 1, rd (0 : Int) a.1 0], tabL ((rd (0 : Int) a.1 1).toNat * (rd (0 : Int) a.1 0).toNat) (PlM.flipV (rd (0 : Int) a.1 0).toNat (rd (0 : Int) a.1 1).toNat a.2))
  else (4, [], [])
 else (1, [], [])
theorem mat_of {n m : Nat} (h1 : 1 ≤ n) (h2 : 1 ≤ m) (h : n * m ≤ 4096) : PlM.Mat n m := by
 have a1 : n ≤ n * m := Nat.le_mul_of_pos_right _ h2
 have a2 : m ≤ n * m := Nat.le_mul_of_pos_left _ h1
 exact ⟨by omega, by omega, by omega, by omega, by rw [← Int.natCast_mul]; omega⟩
theorem flP (a : Tn) : f41 a = some (flS a) := by
 unfold flS
 by_cases ga : tgood a = true
 ·rw [if_pos ga]
  by_cases f1 : a.1.length = 2
  ·rw [if_pos f1]
   obtain ⟨n, m, ea, n1, m1, la, ba⟩ := mat_nat ga f1
   clear ga f1
   generalize a.2 = V at *
   subst ea
   exact PlM.flip_ok n m V (mat_of n1 m1 ba) la
  ·rw [if_neg f1]
   unfold f41 f69
   have eg : f21 (a.1, a.2) = some (tgood a) := good_ok a
   simp only [bindF_some]
   rw [eg, ga, bindF_some, Bool.not_true, cond_false, bF (show ¬ (a.1.length : Int) = 2 by omega)]; rfl
 ·rw [if_neg ga]
  unfold f41
  have eg : f21 (a.1, a.2) = some (tgood a) := good_ok a
  rw [eg, show tgood a = false by simpa using ga]; rfl
def sw2 (x y : Int) : Nat → Int × List Int
 | 0 => (0, [0, 0])
 | 1 => (1, [0, x])
 | _ => (2, [y, x])
theorem swap_loop (x y : Int) : loopF (fun go (z : Int × List Int) => f96_l20 [1, 0] (true, [x, y]) go z.1 z.2) fuelN ((0 : Int), [0, 0]) = some [y, x] :=
 loop_for (B := fun go (z : Int × List Int) => f96_l20 [1, 0] (true, [x, y]) go z.1 z.2) (sw2 x y) 2 [y, x] (fun k hk go => by
  match k, hk with
  | 0, _ => rfl
  | 1, _ => rfl) (fun go => rfl) (by omega)
theorem turn_loop (n m : Nat) (V : List Int) (n1 : 1 ≤ n) (m1 : 1 ≤ m) (hV : V.length = n * m) (bV : n * m ≤ 4096) :
  loopF (fun go (x : Int × List Int) => f96_l19 ([(n : Int), (m : Int)], V) [1, 0] [(m : Int), (n : Int)] go x.1 x.2) fuelN ((0 : Int), List.replicate (m * n) 0) = some (tabL (m * n) (PlM.flipV n m V)) := by
 have bm : m * n ≤ 4096 := by rw [Nat.mul_comm]; exact bV
 obtain ⟨pm, pmN⟩ := prd_pos2 m1 n1 bm
 obtain ⟨pn, pnN⟩ := prd_pos2 n1 m1 bV
 rw [upto_zero _ (PlM.flipV n m V)]
 have h := loop_for (B := fun go (x : Int × List Int) => f96_l19 ([(n : Int), (m : Int)], V) [1, 0] [(m : Int), (n : Int)] go x.1 x.2) (fun q => ((q : Int), upto (m * n) q (PlM.flipV n m V))) (m * n) (tabL (m * n) (PlM.flipV n m V)) ?_ ?_ (by omega)
 ·exact h
 ·intro q hq go
  have q1 : (q : Int) < prd [(m : Int), (n : Int)] := by omega
  have W := plc_within pm (q : Int)
  have h1 := hor_plc pm (q : Int) (by omega) q1 1 (by simp)
  have h2 := hor_plc pm (q : Int) (by omega) q1 2 (by simp)
  have pl := placeR [(m : Int), (n : Int)] pm (q : Int) (by omega) q1
  obtain ⟨x, y, hxy⟩ : ∃ x y, plc [(m : Int), (n : Int)] (q : Int) = [x, y] := ⟨_, _, two_of (d := plc [(m : Int), (n : Int)] (q : Int)) (plc_len _ _)⟩
  rw [hxy] at W h1 h2 pl
  have w0 : 0 ≤ x := W.lo 0 (by simp)
  have w1 : 0 ≤ y := W.lo 1 (by simp)
  have u0 : x < (m : Int) := W.hi 0 (by simp)
  have u1 : y < (n : Int) := W.hi 1 (by simp)
  have e0 : x = ((q / n : Nat) : Int) := by
   have a1 : hor [(m : Int), (n : Int)] [x, y] 1 = x := by show 0 * (m : Int) + x = x; rw [Int.zero_mul, Int.zero_add]
   have a2 : rst [(m : Int), (n : Int)] (q : Int) ([(m : Int), (n : Int)].length - 1) = (q : Int) / (n : Int) := rfl
   rw [a1, a2] at h1
   rw [h1, Int.natCast_ediv]
  have e1 : y = ((q % n : Nat) : Int) := by
   have a1 : hor [(m : Int), (n : Int)] [x, y] 2 = x * (n : Int) + y := by
    show (0 * (m : Int) + x) * (n : Int) + y = _
    rw [Int.zero_mul, Int.zero_add]
   have a3 : rst [(m : Int), (n : Int)] (q : Int) ([(m : Int), (n : Int)].length - 2) = (q : Int) := rfl
   rw [a1, a3, e0] at h2
   have a4 := Nat.div_add_mod q n
   have a5 : ((q / n : Nat) : Int) * (n : Int) = ((n * (q / n) : Nat) : Int) := by rw [Int.natCast_mul, Int.mul_comm]
   omega
  have W2 : Within [(n : Int), (m : Int)] [y, x] := ⟨rfl, fun k hk => by
    match k, hk with
    | 0, _ => exact w1
    | 1, _ => exact w0, fun k hk => by
    match k, hk with
    | 0, _ => exact u1
    | 1, _ => exact u0⟩
  have eat := atR pn W2
  have eh : hor [(n : Int), (m : Int)] [y, x] [(n : Int), (m : Int)].length = ((q % n * m + q / n : Nat) : Int) := by
   show (0 * (n : Int) + y) * (m : Int) + x = _
   rw [Int.zero_mul, Int.zero_add, e0, e1, ← Int.natCast_mul, ← Int.natCast_add]
  rw [eh] at eat
  have hlt := PlM.flip_at n m q n1 hq
  unfold f96_l19
  simp only [upto_len]
  have gl : 0 ≤ (List.length [x, y] : Int) ∧ (List.length [x, y] : Int) ≤ (List.length [x, y] : Int) ∧ Int.toNat (List.length [x, y] : Int) * 8 ≤ 140737488355328 := by
   show 0 ≤ ((2 : Nat) : Int) ∧ ((2 : Nat) : Int) ≤ ((2 : Nat) : Int) ∧ Int.toNat ((2 : Nat) : Int) * 8 ≤ 140737488355328
   decide
  have sl : loopF (fun go (z : Int × List Int) => f96_l20 [1, 0] (true, [x, y]) go z.1 z.2) fuelN ((0 : Int), List.replicate (Int.toNat (List.length [x, y] : Int)) (0 : Int)) = some [y, x] := swap_loop x y
  rw [dT (by omega), cond_true, pl, bindF_some, guardF_pos gl, sl, bindF_some, eat, bindF_some, guardF_pos (by rw [hV]; omega), guardF_pos (by omega), wsucc q (by omega), Int.toNat_natCast]
  have := upto_set (m * n) q (PlM.flipV n m V) (rd (0 : Int) V ((q % n * m + q / n : Nat) : Int)) hq (by unfold PlM.flipV; exact rd_getD V _ (by omega))
  rw [this]
 ·intro go
  unfold f96_l19
  simp only [upto_len]
  rw [dF (by omega), cond_false, upto_full]
theorem flR (a : Tn) : f54 a = some (flS a) := by
 have eg : f27 (a.1, a.2) = some (tgood a) := isR a
 unfold f54 flS
 rw [eg, bindF_some]
 by_cases ga : tgood a = true
 ·rw [if_pos ga, ga, Bool.not_true, cond_false]
  by_cases f1 : a.1.length = 2
  ·rw [if_pos f1, nF (by omega), cond_false]
   obtain ⟨n, m, ea, n1, m1, la, ba⟩ := mat_nat ga f1
   have hj : f96_j2 a [1, 0] = some (Sum.inl ()) := by
    unfold f96_j2 f96_j3
    rw [eg, ga, bindF_some, Bool.not_true, cond_false, nF (show (List.length [(1 : Int), 0] : Int) = (a.1.length : Int) by rw [f1]; rfl)]; rfl
   clear ga f1 eg
   generalize a.2 = V at *
   subst ea
   have bm : m * n ≤ 4096 := by rw [Nat.mul_comm]; exact ba
   obtain ⟨pm, pmN⟩ := prd_pos2 m1 n1 bm
   have hd : loopF (fun go (x : Int × List Int) => f96_l12 ([(n : Int), (m : Int)], V) [1, 0] go x.1 x.2) fuelN ((0 : Int), []) = some (Sum.inr [(m : Int), (n : Int)]) :=
    loop_for (B := fun go (x : Int × List Int) => f96_l12 ([(n : Int), (m : Int)], V) [1, 0] go x.1 x.2) (fun k => ((k : Int), [(m : Int), (n : Int)].take k)) 2 (Sum.inr [(m : Int), (n : Int)]) (fun k hk go => by
     match k, hk with
     | 0, _ =>
      have e : loopF (fun go x => f96_l16 [1, 0] 0 go x) fuelN (0 : Int) = some (Sum.inr ()) := by kernel_rfl
      show f96_l12 ([(n : Int), (m : Int)], V) [1, 0] go 0 [] = _
      unfold f96_l12
      rw [show decide ((0 : Int) < (List.length [(1 : Int), 0] : Int)) = true from rfl, cond_true, show f96_j14 [1, 0] 0 = some (Sum.inl ()) from rfl, bindF_some, sumF_inl, e]; rfl
     | 1, _ =>
      have e : loopF (fun go x => f96_l16 [1, 0] 1 go x) fuelN (0 : Int) = some (Sum.inr ()) := by kernel_rfl
      show f96_l12 ([(n : Int), (m : Int)], V) [1, 0] go 1 [(m : Int)] = _
      unfold f96_l12
      rw [show decide ((1 : Int) < (List.length [(1 : Int), 0] : Int)) = true from rfl, cond_true, show f96_j14 [1, 0] 1 = some (Sum.inl ()) from rfl, bindF_some, sumF_inl, e]; rfl) (fun go => rfl) (by omega)
   have hT : f96 ([(n : Int), (m : Int)], V) [1, 0] = some (0, [(m : Int), (n : Int)], tabL (m * n) (PlM.flipV n m V)) := by
    unfold f96
    rw [hj, bindF_some, sumF_inl, hd, bindF_some, sumF_inr, newR _ _ pm, pmN, bindF_some]
    simp only
    rw [turn_loop n m V n1 m1 la ba]; rfl
   show bindF (f96 ([(n : Int), (m : Int)], V) [1, 0]) _ = _
   rw [hT]; rfl
  ·rw [if_neg f1, nT (by omega)]; rfl
 ·rw [if_neg ga, show tgood a = false by simpa using ga]; rfl
end Go.Proofs.Cv
namespace Go.Proofs.Cv
open Go.AM Go.Proofs.PlB Go.Proofs.PlW Go.Proofs.PlT Go.Proofs.PlS Go.Proofs.Sh Go.Proofs.Num Go.Proofs.Div Go.Proofs.Op
theorem sg_add (F : Nat → Int) (a : Nat) : ∀ b, sg F (a + b) = sg F a + sg (fun y => F (a + y)) b
 | 0 => by simp [sg]
 | b + 1 => by
  rw [← Nat.add_assoc]
  simp only [sg]
  rw [sg_add F a b]; omega
theorem sg_split (F : Nat → Int) (b : Nat) : ∀ a, sg F (a * b) = sg (fun x => sg (fun y => F (x * b + y)) b) a
 | 0 => by simp [sg]
 | a + 1 => by
  rw [Nat.add_mul, Nat.one_mul, sg_add, sg_split F b a]
  rfl
theorem sg_zero (F : Nat → Int) : ∀ n, (∀ k, k < n → F k = 0) → sg F n = 0
 | 0, _ => rfl
 | n + 1, h => by simp only [sg]; rw [sg_zero F n (fun k hk => h k (by omega)), h n (by omega)]; rfl
theorem sg_one (F : Nat → Int) (a : Nat) : ∀ n, a < n → (∀ k, k < n → k ≠ a → F k = 0) → sg F n = F a
 | 0, h, _ => absurd h (by omega)
 | n + 1, h, hz => by
  simp only [sg]
  by_cases e : n = a
  ·subst e
   rw [sg_zero F n (fun k hk => hz k (by omega) (by omega)), Int.zero_add]
  ·rw [sg_one F a n (by omega) (fun k hk => hz k (by omega)), hz n (by omega) e, Int.add_zero]
def goes (D st i : Nat) : Nat := i / (st * D) * st + i % st
def ixs (D st v k : Nat) : Nat := (v / st * D + k) * st + v % st
theorem goes_at (D st x k l : Nat) (hk : k < D) (hl : l < st) : goes D st (x * (D * st) + (k * st + l)) = x * st + l := by
 have h0 : k * st + l < D * st := in_mat hk hl
 unfold goes
 rw [Nat.mul_comm st D, (div_mat (x := x) h0).1]
 have e : x * (D * st) + (k * st + l) = (x * D + k) * st + l := by rw [Nat.add_mul, Nat.mul_assoc]; omega
 rw [e, (div_mat (x := x * D + k) hl).2]
theorem sums_eq (V : Nat → Int) (H D st v : Nat) (hst : 0 < st) (hv : v < H * st) :
  sg (fun i => if goes D st i = v then V i else 0) (H * (D * st)) = sg (fun k => V (ixs D st v k)) D := by
 have hR : v / st < H := Nat.div_lt_of_lt_mul (by rw [Nat.mul_comm]; exact hv)
 have hl0 : v % st < st := Nat.mod_lt _ hst
 have hv2 : v / st * st + v % st = v := by rw [Nat.mul_comm]; exact Nat.div_add_mod v st
 rw [sg_split]
 rw [sg_one _ (v / st) H hR (fun x hx hne => sg_zero _ _ (fun y hy => by
  have h0 : 0 < D * st := by omega
  have hk : y / st < D := Nat.div_lt_of_lt_mul (by rw [Nat.mul_comm]; exact hy)
  have hl : y % st < st := Nat.mod_lt _ hst
  have ey : y / st * st + y % st = y := by rw [Nat.mul_comm]; exact Nat.div_add_mod y st
  have g := goes_at D st x (y / st) (y % st) hk hl
  rw [ey] at g
  rw [g, if_neg]
  intro e
  have := (div_mat (x := x) hl).1
  rw [e] at this
  exact hne this.symm))]
 rw [sg_split]
 refine sg_congr D (fun k hk => ?_)
 rw [sg_one _ (v % st) st hl0 (fun l hl hne => by
  rw [goes_at D st _ k l hk hl, if_neg]
  intro e
  exact hne (by omega)), goes_at D st _ k _ hk hl0, if_pos hv2]
 unfold ixs
 congr 1
 rw [Nat.add_mul, Nat.mul_assoc]; omega
theorem pgo_of : ∀ (d : List Int) (n : Int), 1 ≤ n → (∀ x ∈ d, 1 ≤ x ∧ x ≤ 4096) → n * prodL d ≤ 4096 → pgo n d = n * prodL d
 | [], n, _, _, _ => by simp [pgo, prodL]
 | x :: d, n, hn, h, hp => by
  have hx := h x (by simp)
  have hd : ∀ y ∈ d, 1 ≤ y ∧ y ≤ 4096 := fun y hy => h y (by simp [hy])
  have p1 := prodL_pos d (fun y hy => (hd y hy).1)
  simp only [prodL] at hp ⊢
  have e : n * (x * prodL d) = n * x * prodL d := by rw [Int.mul_assoc]
  have nx : 1 ≤ n * x := by have := Int.mul_le_mul hn hx.1 (by omega) (by omega); omega
  have le : n * x ≤ n * x * prodL d := by have := Int.mul_le_mul_of_nonneg_left p1 (show 0 ≤ n * x by omega); omega
  rw [e] at hp ⊢
  have := pgo_of d (n * x) nx hd hp
  simp only [pgo]
  rw [if_neg (by omega), this]
theorem rd_take {d X : List Int} {j t : Nat} (ht : t < j) (hj : j ≤ d.length) : rd (0 : Int) (d.take j ++ X) (t : Int) = rd (0 : Int) d (t : Int) := by
 rw [rd_nat _ _ _ (by rw [List.length_append, List.length_take]; omega), rd_nat _ _ _ (by omega), List.getElem_append_left (by rw [List.length_take]; omega), List.getElem_take]
theorem rd_skip {d X : List Int} {j t : Nat} (hj : j ≤ d.length) (ht : t < X.length) : rd (0 : Int) (d.take j ++ X) ((j + t : Nat) : Int) = rd (0 : Int) X (t : Int) := by
 have hl : (d.take j).length = j := by rw [List.length_take]; omega
 rw [rd_nat _ _ _ (by rw [List.length_append, hl]; omega), rd_nat _ _ _ ht, List.getElem_append_right (by rw [hl]; omega)]
 congr 1
 rw [hl]; omega
theorem rd_dropL {d : List Int} {j t : Nat} (ht : j + t < d.length) : rd (0 : Int) (d.drop j) (t : Int) = rd (0 : Int) d ((j + t : Nat) : Int) := by
 rw [rd_nat _ _ _ (by rw [List.length_drop]; omega), rd_nat _ _ _ ht, List.getElem_drop]
def cutD (d : List Int) (j : Nat) : List Int := d.take j ++ d.drop (j + 1)
structure Cut (d : List Int) (j H D st : Nat) : Prop where
 hj : j < d.length
 pos : 0 < prd d
 H1 : 1 ≤ H
 D1 : 1 ≤ D
 s1 : 1 ≤ st
 eH : prodL (d.take j) = (H : Int)
 eD : rd (0 : Int) d (j : Int) = (D : Int)
 eS : prodL (d.drop (j + 1)) = (st : Int)
 eN : prd d = ((H * (D * st) : Nat) : Int)
 le : H * (D * st) ≤ 4096
 leM : H * st ≤ 4096
 posM : 0 < prd (cutD d j)
 eM : prd (cutD d j) = ((H * st : Nat) : Int)
theorem cut_of {d : List Int} {j : Nat} (h : 0 < prd d) (hj : j < d.length) : ∃ H D st : Nat, Cut d j H D st := by
 obtain ⟨e, h1, h2⟩ := prd_prod h
 have hr := prd_range d
 have pH := prodL_pos (d.take j) (fun x hx => (h1 x (List.mem_of_mem_take hx)).1)
 have pS := prodL_pos (d.drop (j + 1)) (fun x hx => (h1 x (List.mem_of_mem_drop hx)).1)
 have pD : 1 ≤ rd (0 : Int) d (j : Int) := by rw [rd_nat _ _ _ hj]; exact (h1 _ (List.getElem_mem hj)).1
 obtain ⟨H, eH⟩ := Int.eq_ofNat_of_zero_le (show 0 ≤ prodL (d.take j) by omega)
 obtain ⟨D, eD⟩ := Int.eq_ofNat_of_zero_le (show 0 ≤ rd (0 : Int) d (j : Int) by omega)
 obtain ⟨st, eS⟩ := Int.eq_ofNat_of_zero_le (show 0 ≤ prodL (d.drop (j + 1)) by omega)
 have eN : prd d = ((H * (D * st) : Nat) : Int) := by
  rw [e, Int.natCast_mul, Int.natCast_mul, ← eH, ← eD, ← eS]
  have : prodL d = prodL (d.take j) * prodL (d.drop j) := by rw [← prodL_app, List.take_append_drop]
  rw [this, List.drop_eq_getElem_cons hj]
  simp only [prodL]
  rw [rd_nat _ _ _ hj]
 have le : H * (D * st) ≤ 4096 := by omega
 have D1 : 1 ≤ D := by omega
 have leM : H * st ≤ 4096 := Nat.le_trans (Nat.mul_le_mul_left _ (Nat.le_mul_of_pos_left _ D1)) le
 have eM : prd (cutD d j) = ((H * st : Nat) : Int) := by
  have ep : prodL (cutD d j) = ((H * st : Nat) : Int) := by unfold cutD; rw [prodL_app, eH, eS, Int.natCast_mul]
  have hl : (cutD d j).length ≤ 4 := by unfold cutD; rw [List.length_append, List.length_take, List.length_drop]; omega
  unfold prd
  rw [if_neg (by omega), pgo_of _ 1 (by omega) (fun x hx => by
   unfold cutD at hx
   rcases List.mem_append.1 hx with hx | hx
   ·exact h1 x (List.mem_of_mem_take hx)
   ·exact h1 x (List.mem_of_mem_drop hx)) (by rw [ep]; omega), ep, Int.one_mul]
 have H1 : 1 ≤ H := by omega
 have s1 : 1 ≤ st := by omega
 have hp : 1 ≤ H * st := Nat.mul_pos H1 s1
 exact ⟨H, D, st, hj, h, H1, D1, s1, eH, eD, eS, eN, le, leM, by omega, eM⟩
end Go.Proofs.Cv
namespace Go.Proofs.Cv
open Go.AM Go.Proofs.PlB Go.Proofs.PlW Go.Proofs.PlT Go.Proofs.PlS Go.Proofs.Sh Go.Proofs.Num Go.Proofs.Div Go.Proofs.Op
def sideV (V : List Int) (D st v : Nat) : Int := sat (sg (fun k => rd (0 : Int) V ((ixs D st v k : Nat) : Int)) D)
def ins (p : List Int) (j : Nat) (k : Int) : List Int := p.take j ++ ([k] ++ p.drop j)
def hQ (d : List Int) (j : Nat) : Nat → Int
 | 0 => 1
 | t + 1 => hQ d j t * rd (0 : Int) d ((j + 1 + t : Nat) : Int)
theorem hQ_prod (d : List Int) (j : Nat) : ∀ t, j + 1 + t ≤ d.length → hQ d j t = prodL ((d.drop (j + 1)).take t)
 | 0, _ => by simp [hQ, prodL]
 | t + 1, h => by
  rw [prodL_take t (by rw [List.length_drop]; omega), rd_dropL (by omega), ← hQ_prod d j t (by omega)]
  rfl
section
variable {d : List Int} {j H D st : Nat} (C : Cut d j H D st)
include C
theorem cut_len : (cutD d j).length = d.length - 1 := by
 have := C.hj
 unfold cutD; rw [List.length_append, List.length_take, List.length_drop]; omega
theorem cut_lo {t : Nat} (ht : t < j) : rd (0 : Int) (cutD d j) (t : Int) = rd (0 : Int) d (t : Int) := rd_take ht (by have := C.hj; omega)
theorem cut_hi {t : Nat} (ht : j + 1 + t < d.length) : rd (0 : Int) (cutD d j) ((j + t : Nat) : Int) = rd (0 : Int) d ((j + 1 + t : Nat) : Int) := by
 have := C.hj
 unfold cutD
 rw [rd_skip (by omega) (by rw [List.length_drop]; omega), rd_dropL (by omega)]
theorem ins_lo {p : List Int} (hp : p.length = d.length - 1) (k : Int) {t : Nat} (ht : t < j) : rd (0 : Int) (ins p j k) (t : Int) = rd (0 : Int) p (t : Int) := rd_take ht (by have := C.hj; omega)
theorem ins_at {p : List Int} (hp : p.length = d.length - 1) (k : Int) : rd (0 : Int) (ins p j k) (j : Int) = k := by
 have := C.hj
 have h := rd_skip (d := p) (X := [k] ++ p.drop j) (j := j) (t := 0) (by omega) (by simp)
 exact h
theorem ins_hi {p : List Int} (hp : p.length = d.length - 1) (k : Int) {t : Nat} (ht : j + 1 + t < d.length) : rd (0 : Int) (ins p j k) ((j + 1 + t : Nat) : Int) = rd (0 : Int) p ((j + t : Nat) : Int) := by
 have := C.hj
 have h := rd_skip (d := p) (X := [k] ++ p.drop j) (j := j) (t := t + 1) (by omega) (by simp; omega)
 rw [show j + 1 + t = j + (t + 1) by omega]
 unfold ins
 rw [h]
 have e : rd (0 : Int) ([k] ++ p.drop j) ((t + 1 : Nat) : Int) = rd (0 : Int) (p.drop j) (t : Int) := by
  rw [rd_nat _ _ _ (by simp; omega), rd_nat _ _ _ (by rw [List.length_drop]; omega)]; rfl
 rw [e, rd_dropL (by omega)]
theorem ins_len {p : List Int} (hp : p.length = d.length - 1) (k : Int) : (ins p j k).length = d.length := by
 have := C.hj
 unfold ins; simp; omega
theorem ins_within {p : List Int} (W : Within (cutD d j) p) (k : Int) (k0 : 0 ≤ k) (k1 : k < (D : Int)) : Within d (ins p j k) := by
 have hp : p.length = d.length - 1 := by rw [W.len, cut_len C]
 have hj := C.hj
 have cl := cut_len C
 refine ⟨ins_len C hp k, fun t ht => ?_, fun t ht => ?_⟩
 ·by_cases h : t < j
  ·rw [ins_lo C hp k h]; exact W.lo t (by omega)
  ·by_cases h2 : t = j
   ·subst h2; rw [ins_at C hp k]; exact k0
   ·obtain ⟨u, rfl⟩ : ∃ u, t = j + 1 + u := ⟨t - (j + 1), by omega⟩
    rw [ins_hi C hp k ht]; exact W.lo (j + u) (by omega)
 ·by_cases h : t < j
  ·rw [ins_lo C hp k h, ← cut_lo C h]; exact W.hi t (by omega)
  ·by_cases h2 : t = j
   ·subst h2; rw [ins_at C hp k, C.eD]; exact k1
   ·obtain ⟨u, rfl⟩ : ∃ u, t = j + 1 + u := ⟨t - (j + 1), by omega⟩
    rw [ins_hi C hp k ht, ← cut_hi C ht]; exact W.hi (j + u) (by omega)
theorem hor_lo {p : List Int} (hp : p.length = d.length - 1) (k : Int) : ∀ t, t ≤ j → hor d (ins p j k) t = hor (cutD d j) p t
 | 0, _ => rfl
 | t + 1, h => by
  simp only [hor]
  rw [hor_lo hp k t (by omega), ins_lo C hp k (by omega), cut_lo C (by omega)]
theorem hor_hi {p : List Int} (hp : p.length = d.length - 1) (k : Int) : ∀ t, j + 1 + t ≤ d.length → hor d (ins p j k) (j + 1 + t) = (hor (cutD d j) p j * ((D : Int) - 1) + k) * hQ d j t + hor (cutD d j) p (j + t)
 | 0, _ => by
  show hor d (ins p j k) j * rd (0 : Int) d (j : Int) + rd (0 : Int) (ins p j k) (j : Int) = _
  rw [hor_lo C hp k j (Nat.le_refl _), ins_at C hp k, C.eD, Nat.add_zero]
  simp only [hQ]
  rw [Int.mul_one, Int.mul_sub, Int.mul_one]; omega
 | t + 1, h => by
  have ih := hor_hi hp k t (by omega)
  show hor d (ins p j k) (j + 1 + t) * rd (0 : Int) d ((j + 1 + t : Nat) : Int) + rd (0 : Int) (ins p j k) ((j + 1 + t : Nat) : Int) = _
  rw [ih, ins_hi C hp k (by omega)]
  have e : hor (cutD d j) p (j + (t + 1)) = hor (cutD d j) p (j + t) * rd (0 : Int) d ((j + 1 + t : Nat) : Int) + rd (0 : Int) p ((j + t : Nat) : Int) := by
   rw [← cut_hi C (by omega)]; rfl
  rw [e]
  simp only [hQ]
  rw [Int.add_mul, Int.mul_assoc]; omega
theorem rst_div (big : List Int) (v : Int) (hb : 0 < prd big) : ∀ k, k ≤ big.length → rst big v k = v / strd big k
 | 0, _ => by rw [strd_zero, Int.ediv_one]; rfl
 | k + 1, h => by
  have := side_pos hb k
  have := strd_pos hb k (by omega)
  show rst big v k / side big k = _
  rw [rst_div big v hb k (by omega), strd_succ big k (by omega), Int.mul_comm, Int.ediv_ediv_of_nonneg (by omega)]
theorem at_ins (v : Nat) (hv : v < H * st) (k : Nat) (hk : k < D) :
  f98 d (ins (plc (cutD d j) (v : Int)) j (k : Int)) = some (((ixs D st v k : Nat) : Int), true) := by
 have hj := C.hj
 have W := plc_within C.posM (v : Int)
 have hp : (plc (cutD d j) (v : Int)).length = d.length - 1 := by rw [W.len, cut_len C]
 have v1 : (v : Int) < prd (cutD d j) := by rw [C.eM]; omega
 have hc := hor_plc C.posM (v : Int) (by omega) v1
 have cl := cut_len C
 rw [atR C.pos (ins_within C W (k : Int) (by omega) (by omega))]
 have e := hor_hi C hp (k : Int) (d.length - 1 - j) (by omega)
 rw [show j + 1 + (d.length - 1 - j) = d.length by omega, show j + (d.length - 1 - j) = (cutD d j).length by omega, hc _ (Nat.le_refl _), hc j (by omega), Nat.sub_self] at e
 have eQ : hQ d j (d.length - 1 - j) = (st : Int) := by
  rw [hQ_prod d j _ (by omega), List.take_of_length_le (by rw [List.length_drop]; omega), C.eS]
 have eR : rst (cutD d j) (v : Int) ((cutD d j).length - j) = ((v / st : Nat) : Int) := by
  have es : strd (cutD d j) ((cutD d j).length - j) = (st : Int) := by
   unfold strd
   rw [show (cutD d j).length - ((cutD d j).length - j) = j by omega]
   unfold cutD
   rw [List.drop_append_of_le_length (by rw [List.length_take]; omega), List.drop_eq_nil_of_le (by rw [List.length_take]; omega), List.nil_append]
   exact C.eS
  rw [rst_div C (cutD d j) (v : Int) C.posM _ (by omega), es, Int.natCast_ediv]
 rw [eQ, eR, show rst (cutD d j) (v : Int) 0 = (v : Int) from rfl] at e
 rw [e]
 congr 2
 have d1 := C.D1
 have h3 : v / st * st + v % st = v := by rw [Nat.mul_comm]; exact Nat.div_add_mod v st
 unfold ixs
 obtain ⟨D', rfl⟩ : ∃ D', D = D' + 1 := ⟨D - 1, by omega⟩
 have e1 : (((D' + 1 : Nat) : Int) - 1) = (D' : Int) := by omega
 rw [e1, ← Int.natCast_mul, ← Int.natCast_add, ← Int.natCast_mul, ← Int.natCast_add]
 congr 1
 rw [Nat.mul_add, Nat.mul_one, Nat.add_right_comm, Nat.add_mul _ (v / st) st]
 omega
theorem ixs_in (v : Nat) (hv : v < H * st) (k : Nat) (hk : k < D) : ixs D st v k < H * (D * st) := by
 have hs := C.s1
 have hR : v / st < H := Nat.div_lt_of_lt_mul (by rw [Nat.mul_comm]; exact hv)
 have hl : v % st < st := Nat.mod_lt _ hs
 unfold ixs
 have := in_mat (in_mat (c := H) (L := D) hR hk) hl
 rw [Nat.mul_assoc] at this
 exact this
end
end Go.Proofs.Cv
namespace Go.Proofs.Cv
open Go.AM Go.Proofs.PlB Go.Proofs.PlW Go.Proofs.PlT Go.Proofs.PlS Go.Proofs.Sh Go.Proofs.Num Go.Proofs.Div Go.Proofs.Op
def part (V : List Int) (D st k v : Nat) : Int := sg (fun i => if goes D st i = v then rd (0 : Int) V (i : Int) else 0) k
theorem part_bd {V : List Int} (iV : inI V) (D st v : Nat) : ∀ k, k ≤ V.length → -(k * 9223372036854775808) ≤ part V D st k v ∧ part V D st k v ≤ k * 9223372036854775808
 | 0, _ => by simp [part, sg]
 | k + 1, h => by
  have := part_bd iV D st v k (by omega)
  have q := inI_rd iV k (by omega)
  unfold InR at q
  unfold part at this ⊢
  simp only [sg]
  split <;> constructor <;> omega
section
variable (d V : List Int) (j H D st : Nat) (C : Cut d j H D st) (hV : V.length = H * (D * st)) (iV : inI V)
include C hV iV
theorem goes_in {i : Nat} (hi : i < H * (D * st)) : goes D st i < H * st := by
 have hs := C.s1
 have h0 : i / (st * D) < H := by
  refine Nat.div_lt_of_lt_mul ?_
  rw [Nat.mul_comm (st * D) H, Nat.mul_comm st D]; exact hi
 exact in_mat h0 (Nat.mod_lt _ hs)
theorem side_far (k v : Nat) (hk : k ≤ H * (D * st)) : PlV.far (part V D st k v) := by
 have := part_bd iV D st v k (by omega)
 have := C.le
 unfold PlV.far
 omega
theorem side_loop1 : loopF (fun go (x : Int × List (Int × Int)) => f42_l4 (d, V) (j : Int) (strL d) go x.1 x.2) fuelN ((0 : Int), List.replicate (H * st) ((0 : Int), (0 : Int))) = some (tabL (H * st) (fun v => PlV.pair (part V D st (H * (D * st)) v))) := by
 have hj := C.hj
 have hs := C.s1
 have hD := C.D1
 have hH := C.H1
 have hle := C.le
 have hsD : st * D ≤ 4096 := by rw [Nat.mul_comm]; exact Nat.le_trans (Nat.le_mul_of_pos_left _ hH) hle
 have h := loop_for (B := fun go (x : Int × List (Int × Int)) => f42_l4 (d, V) (j : Int) (strL d) go x.1 x.2) (fun k => ((k : Int), tabL (H * st) (fun v => PlV.pair (part V D st k v)))) (H * (D * st)) (tabL (H * st) (fun v => PlV.pair (part V D st (H * (D * st)) v))) ?_ ?_ (by omega)
 ·have e0 : tabL (H * st) (fun v => PlV.pair (part V D st 0 v)) = List.replicate (H * st) ((0 : Int), (0 : Int)) := by
   rw [tab_rep]; exact tab_ext _ _ _ (fun v hv => rfl)
  rw [e0] at h; exact h
 ·intro k hk go
  have q := inI_rd iV k (by omega)
  unfold InR at q
  have hg := goes_in d V j H D st C hV iV hk
  have f1 := side_far d V j H D st C hV iV k (goes D st k) (by omega)
  have b1 := part_bd iV D st (goes D st k) k (by omega)
  have e7 : rd (0 : Int) (strL d) (j : Int) = (st : Int) := by
   unfold strL
   rw [rd_tab _ _ _ _ hj]
   unfold strd
   rw [show d.length - (d.length - 1 - j) = j + 1 by omega]
   exact C.eS
  have eSD : IntKind.i64.wrap ((st : Int) * (D : Int)) = ((st * D : Nat) : Int) := wmul st D (by omega)
  have n0 : ((st * D : Nat) : Int) ≠ 0 := by have : 1 ≤ st * D := Nat.mul_pos hs hD; omega
  have n1 : (st : Int) ≠ 0 := by omega
  have hM := C.leM
  have ea : IntKind.i64.wrap (IntKind.i64.wrap (IntKind.i64.wrap (Int.tdiv (k : Int) ((st * D : Nat) : Int)) * (st : Int)) + Int.tmod (k : Int) (st : Int)) = ((goes D st k : Nat) : Int) := by
   have a1 : k / (st * D) ≤ k := Nat.div_le_self _ _
   have a2 : k / (st * D) * st ≤ goes D st k := Nat.le_add_right _ _
   rw [Int.tdiv_eq_ediv_of_nonneg (by omega), ← Int.natCast_ediv, wnat (by omega), wmul _ _ (by omega), Int.tmod_eq_emod_of_nonneg (by omega), ← Int.natCast_emod, wadd _ _ (by show goes D st k < _; omega)]
   rfl
  unfold f42_l4
  simp only [tab_len]
  rw [e7, C.eD, eSD, ea, dT (by omega), cond_true, guardF_pos (by omega), guardF_pos (by omega), guardF_pos n0, guardF_pos n1, guardF_pos (by omega), PlV.of_ok _ q.1 q.2, bindF_some]
  have er : rd (Ty.z (.p (.int .i64) (.int .u64))) (tabL (H * st) (fun v => PlV.pair (part V D st k v))) ((goes D st k : Nat) : Int) = PlV.pair (part V D st k (goes D st k)) := rd_tab _ _ _ _ hg
  have f2 : PlV.far (rd (0 : Int) V (k : Int)) := by unfold PlV.far; omega
  have f3 : PlV.far (part V D st k (goes D st k) + rd (0 : Int) V (k : Int)) := by unfold PlV.far; omega
  have eadd : f79 ((rd (Ty.z (.p (.int .i64) (.int .u64))) (tabL (H * st) (fun v => PlV.pair (part V D st k v))) ((goes D st k : Nat) : Int)).1, (rd (Ty.z (.p (.int .i64) (.int .u64))) (tabL (H * st) (fun v => PlV.pair (part V D st k v))) ((goes D st k : Nat) : Int)).2) ((PlV.pair (rd (0 : Int) V (k : Int))).1, (PlV.pair (rd (0 : Int) V (k : Int))).2) = some (PlV.pair (part V D st k (goes D st k) + rd (0 : Int) V (k : Int))) := by
   rw [er]; exact PlV.add_w _ _ f1 f2 f3
  rw [eadd, bindF_some, guardF_pos (by omega), wsucc k (by omega), Int.toNat_natCast]
  congr 1
  refine Prod.ext rfl ?_
  show (tabL (H * st) (fun v => PlV.pair (part V D st k v))).set (goes D st k) (PlV.pair (part V D st k (goes D st k) + rd (0 : Int) V (k : Int))) = _
  rw [tab_set]
  refine tab_ext _ _ _ (fun v hv => ?_)
  by_cases e : v = goes D st k
  ·subst e
   rw [if_pos rfl]
   unfold part
   simp only [sg, if_true]
  ·rw [if_neg e]
   unfold part
   simp only [sg]
   rw [if_neg (fun h => e h.symm), Int.add_zero]
 ·intro go
  unfold f42_l4
  simp only
  rw [dF (by omega), cond_false]
theorem side_loop2 : loopF (fun go (x : Int × List Int) => f42_l5 (tabL (H * st) (fun v => PlV.pair (part V D st (H * (D * st)) v))) go x.1 x.2) fuelN ((0 : Int), List.replicate (H * st) 0) = some (tabL (H * st) (sideV V D st)) := by
 have hM := C.leM
 rw [upto_zero _ (sideV V D st)]
 have h := loop_for (B := fun go (x : Int × List Int) => f42_l5 (tabL (H * st) (fun v => PlV.pair (part V D st (H * (D * st)) v))) go x.1 x.2) (fun v => ((v : Int), upto (H * st) v (sideV V D st))) (H * st) (tabL (H * st) (sideV V D st)) ?_ ?_ (by omega)
 ·exact h
 ·intro v hv go
  unfold f42_l5
  simp only [upto_len, tab_len]
  have er : rd (Ty.z (.p (.int .i64) (.int .u64))) (tabL (H * st) (fun v => PlV.pair (part V D st (H * (D * st)) v))) (v : Int) = PlV.pair (part V D st (H * (D * st)) v) := rd_tab _ _ _ _ hv
  have ef : f81 ((rd (Ty.z (.p (.int .i64) (.int .u64))) (tabL (H * st) (fun v => PlV.pair (part V D st (H * (D * st)) v))) (v : Int)).1, (rd (Ty.z (.p (.int .i64) (.int .u64))) (tabL (H * st) (fun v => PlV.pair (part V D st (H * (D * st)) v))) (v : Int)).2) = some (sideV V D st v) := by
   rw [er]
   have := PlV.fix_ok _ (side_far d V j H D st C hV iV (H * (D * st)) v (Nat.le_refl _))
   have es : part V D st (H * (D * st)) v = sg (fun k => rd (0 : Int) V ((ixs D st v k : Nat) : Int)) D := sums_eq (fun i => rd (0 : Int) V (i : Int)) H D st v C.s1 hv
   rw [es] at this ⊢
   exact this
  rw [dT (by omega), cond_true, guardF_pos (by omega), ef, bindF_some, guardF_pos (by omega), wsucc v (by omega), Int.toNat_natCast, upto_set _ v _ _ hv rfl]
 ·intro go
  unfold f42_l5
  simp only [upto_len, tab_len]
  rw [dF (by omega), cond_false, upto_full]
theorem side_sumR (v : Nat) (hv : v < H * st) :
  ∃ z, loopF (fun go (x : Int × Bool × Int × Int × Int × Int) => f55_l15 (d, V) (j : Int) (true, plc (cutD d j) (v : Int)) go x.1 x.2.1 x.2.2.1 x.2.2.2.1 x.2.2.2.2.1 x.2.2.2.2.2) fuelN ((0 : Int), false, (0 : Int), (0 : Int), (0 : Int), (0 : Int)) = some z ∧ Nm (sg (fun k => rd (0 : Int) V ((ixs D st v k : Nat) : Int)) D) z := by
 have hj := C.hj
 have hle := C.le
 have hl := prd_len C.pos
 have hDle : D ≤ 4096 := Nat.le_trans (Nat.le_mul_of_pos_right _ C.s1) (Nat.le_trans (Nat.le_mul_of_pos_left _ C.H1) hle)
 have hp : (plc (cutD d j) (v : Int)).length = d.length - 1 := by rw [plc_len, cut_len C]
 have bd : ∀ n, n ≤ D → -(n * 9223372036854775808) ≤ sg (fun k => rd (0 : Int) V ((ixs D st v k : Nat) : Int)) n ∧ sg (fun k => rd (0 : Int) V ((ixs D st v k : Nat) : Int)) n ≤ n * 9223372036854775808 := by
  intro n
  induction n with
  | zero => intro _; simp [sg]
  | succ n ih =>
   intro h
   have := ih (by omega)
   have hi := ixs_in C v hv n (by omega)
   have q := inI_rd iV (ixs D st v n) (by omega)
   unfold InR at q
   simp only [sg]
   constructor <;> omega
 refine loop_rel (B := fun go (x : Int × Bool × Int × Int × Int × Int) => f55_l15 (d, V) (j : Int) (true, plc (cutD d j) (v : Int)) go x.1 x.2.1 x.2.2.1 x.2.2.2.1 x.2.2.2.2.1 x.2.2.2.2.2)
  (fun k y => y.1 = (k : Int) ∧ Nm (sg (fun k => rd (0 : Int) V ((ixs D st v k : Nat) : Int)) k) y.2) (fun z => Nm (sg (fun k => rd (0 : Int) V ((ixs D st v k : Nat) : Int)) D) z) D _ ⟨rfl, nm_zero⟩ ?_ ?_ (by omega)
 ·rintro k hk ⟨_, u⟩ ⟨rfl, hu⟩
  simp only at hu
  have hi := ixs_in C v hv k hk
  have q := inI_rd iV (ixs D st v k) (by omega)
  have b := bd k (by omega)
  unfold InR at q
  obtain ⟨y, ey, hy⟩ := from_ok _ q.1 q.2
  have t1 : Sm (sg (fun k => rd (0 : Int) V ((ixs D st v k : Nat) : Int)) k) := by unfold Sm; omega
  have t2 : Sm (rd (0 : Int) V ((ixs D st v k : Nat) : Int)) := by unfold Sm; omega
  obtain ⟨z, ez, hz⟩ := plus_nm hu hy t1 t2
  simp only at ez
  refine ⟨(((k + 1 : Nat) : Int), z), fun go => ?_, rfl, hz⟩
  have hj16 : f55_j16 (j : Int) (true, plc (cutD d j) (v : Int)) (k : Int) = some () := by
   unfold f55_j16
   simp only [Int.toNat_natCast, List.nil_append, List.length_nil, List.length_append, List.length_take, List.length_drop, List.length_cons, hp]
   rw [guardF_pos (by omega), guardF_pos (by omega), guardF_pos (by omega), guardF_pos (by omega), guardF_pos (by omega)]
  have eat : f98 d ((([] ++ List.take (Int.toNat (j : Int)) (plc (cutD d j) (v : Int))) ++ [(k : Int)]) ++ List.drop (Int.toNat (j : Int)) (plc (cutD d j) (v : Int))) = some (((ixs D st v k : Nat) : Int), true) := by
   have := at_ins C v hv k hk
   unfold ins at this
   rw [List.nil_append, List.append_assoc, Int.toNat_natCast]
   exact this
  unfold f55_l15
  simp only
  rw [guardF_pos (by omega), C.eD, dT (by omega), cond_true, hj16, bindF_some, eat, bindF_some, guardF_pos (by omega), ey, bindF_some, ez, bindF_some, wsucc k (by omega)]
 ·rintro ⟨_, u⟩ ⟨rfl, hu⟩
  refine ⟨u, fun go => ?_, hu⟩
  unfold f55_l15
  simp only
  rw [guardF_pos (by omega), C.eD, dF (by omega), cond_false]
theorem side_loopR : loopF (fun go (x : Int × List Int) => f55_l12 (d, V) (j : Int) go x.1 x.2) fuelN ((0 : Int), List.replicate (H * st) 0) = some (tabL (H * st) (sideV V D st)) := by
 have hj := C.hj
 have hM := C.leM
 have hle := C.le
 have hl := prd_len C.pos
 have hDle : D ≤ 4096 := Nat.le_trans (Nat.le_mul_of_pos_right _ C.s1) (Nat.le_trans (Nat.le_mul_of_pos_left _ C.H1) hle)
 rw [upto_zero _ (sideV V D st)]
 have h := loop_for (B := fun go (x : Int × List Int) => f55_l12 (d, V) (j : Int) go x.1 x.2) (fun v => ((v : Int), upto (H * st) v (sideV V D st))) (H * st) (tabL (H * st) (sideV V D st)) ?_ ?_ (by omega)
 ·exact h
 ·intro v hv go
  have v1 : (v : Int) < prd (cutD d j) := by rw [C.eM]; omega
  have pl := placeR (cutD d j) C.posM (v : Int) (by omega) v1
  have ec : (([] ++ List.take (Int.toNat (j : Int)) d) ++ List.drop (Int.toNat (IntKind.i64.wrap ((j : Int) + 1))) d) = cutD d j := by
   rw [wsucc j (by omega), Int.toNat_natCast, Int.toNat_natCast, List.nil_append]; rfl
  obtain ⟨z, ez, hz⟩ := side_sumR d V j H D st C hV iV v hv
  have hs : Sm (sg (fun k => rd (0 : Int) V ((ixs D st v k : Nat) : Int)) D) := by
   have es : part V D st (H * (D * st)) v = sg (fun k => rd (0 : Int) V ((ixs D st v k : Nat) : Int)) D := sums_eq (fun i => rd (0 : Int) V (i : Int)) H D st v C.s1 hv
   have := side_far d V j H D st C hV iV (H * (D * st)) v (Nat.le_refl _)
   rw [← es]
   unfold PlV.far at this
   unfold Sm; omega
  unfold f55_l12
  simp only [upto_len]
  rw [dT (by omega), cond_true, ec, pl, bindF_some, ez, bindF_some, held_nm hz hs, bindF_some, guardF_pos (by omega), wsucc v (by omega), Int.toNat_natCast, upto_set (H * st) v (sideV V D st) (sat (sg (fun k => rd (0 : Int) V ((ixs D st v k : Nat) : Int)) D)) hv rfl]
 ·intro go
  unfold f55_l12
  simp only [upto_len]
  rw [dF (by omega), cond_false, upto_full]
end
abbrev sideAsk (a : Tn) (side : Int) : Prop := tgood a = true ∧ 0 ≤ side ∧ side < a.1.length
def sideS (a : Tn) (side : Int) : Int × Tn :=
 if sideAsk a side then (0, cutD a.1 side.toNat, tabL (prd (cutD a.1 side.toNat)).toNat (sideV a.2 (rd (0 : Int) a.1 side).toNat (prodL (a.1.drop (side.toNat + 1))).toNat)) else (1, [], [])
theorem side_j3 (a : Tn) (side : Int) : f42_j3 a side = some (!(decide (sideAsk a side))) := by
 unfold f42_j3
 have e1 : f21 (a.1, a.2) = some (tgood a) := good_ok a
 generalize hd : decide (sideAsk a side) = d
 rw [e1, bindF_some]
 by_cases ha : tgood a = true
 ·rw [ha, Bool.not_true, cond_false]
  by_cases h1 : side < 0
  ·rw [dT h1]; rw [dF (show ¬ sideAsk a side from fun h => by omega)] at hd; rw [← hd]; rfl
  ·rw [dF h1, cond_false]
   by_cases h2 : side ≥ a.1.length
   ·rw [dT h2]; rw [dF (show ¬ sideAsk a side from fun h => by omega)] at hd; rw [← hd]; rfl
   ·rw [dF h2]; rw [dT (show sideAsk a side from ⟨ha, by omega, by omega⟩)] at hd; rw [← hd]; rfl
 ·rw [show tgood a = false by simpa using ha]; rw [dF (show ¬ sideAsk a side from fun h => ha h.1)] at hd; rw [← hd]; rfl
theorem side_j3r (a : Tn) (side : Int) : f55_j3 a side = some (!(decide (sideAsk a side))) := by
 unfold f55_j3
 have e1 : f27 (a.1, a.2) = some (tgood a) := isR a
 generalize hd : decide (sideAsk a side) = d
 rw [e1, bindF_some]
 by_cases ha : tgood a = true
 ·rw [ha, Bool.not_true, cond_false]
  by_cases h1 : side < 0
  ·rw [dT h1]; rw [dF (show ¬ sideAsk a side from fun h => by omega)] at hd; rw [← hd]; rfl
  ·rw [dF h1, cond_false]
   by_cases h2 : side ≥ a.1.length
   ·rw [dT h2]; rw [dF (show ¬ sideAsk a side from fun h => by omega)] at hd; rw [← hd]; rfl
   ·rw [dF h2]; rw [dT (show sideAsk a side from ⟨ha, by omega, by omega⟩)] at hd; rw [← hd]; rfl
 ·rw [show tgood a = false by simpa using ha]; rw [dF (show ¬ sideAsk a side from fun h => ha h.1)] at hd; rw [← hd]; rfl
theorem side_val {a : Tn} {j H D st : Nat} (C : Cut a.1 j H D st) (h : sideAsk a (j : Int)) : sideS a (j : Int) = (0, cutD a.1 j, tabL (H * st) (sideV a.2 D st)) := by
 unfold sideS
 rw [if_pos h, Int.toNat_natCast, C.eM, C.eD, C.eS, Int.toNat_natCast, Int.toNat_natCast, Int.toNat_natCast]
theorem sideP (a : Tn) (side : Int) (ia : inI a.2) : f42 a side = some (sideS a side) := by
 unfold f42 f42_j2
 rw [side_j3, bindF_some]
 by_cases h : sideAsk a side
 ·obtain ⟨ga, s0, s1⟩ := h
  obtain ⟨j, rfl⟩ := Int.eq_ofNat_of_zero_le s0
  obtain ⟨hp, hl, l1, l2⟩ := good_len ga
  obtain ⟨H, D, st, C⟩ := cut_of hp (show j < a.1.length by omega)
  have hV : a.2.length = H * (D * st) := by have := C.eN; omega
  have hM := C.leM
  rw [side_val C ⟨ga, s0, s1⟩, dT (show sideAsk a (j : Int) from ⟨ga, s0, s1⟩), Bool.not_true, cond_false, bindF_some, sumF_inl, guardF_pos (by omega), wsucc j (by omega), guardF_pos (by omega)]
  have ec : ([] ++ List.take (Int.toNat (j : Int)) a.1) ++ List.drop (Int.toNat ((j + 1 : Nat) : Int)) a.1 = cutD a.1 j := by
   rw [Int.toNat_natCast, Int.toNat_natCast, List.nil_append]; rfl
  have cl := cut_len C
  rw [guardF_pos (by simp only [List.length_nil, List.length_take]; omega), guardF_pos (by simp only [List.length_append, List.length_nil, List.length_take, List.length_drop]; omega), ec, PlB.size_ok, bindF_some, C.eM, Int.toNat_natCast, guardF_pos (by omega), strides a.1 hp, bindF_some,
   guardF_pos (by unfold strL; rw [tab_len]; omega)]
  have e1 : loopF (fun go (x : Int × List (Int × Int)) => f42_l4 a (j : Int) (strL a.1) go x.1 x.2) fuelN ((0 : Int), List.replicate (H * st) (Ty.z (.p (.int .i64) (.int .u64)))) = _ := side_loop1 a.1 a.2 j H D st C hV ia
  rw [e1, bindF_some, new_ok, if_pos C.posM, bindF_some, C.eM, Int.toNat_natCast]
  simp only
  rw [side_loop2 a.1 a.2 j H D st C hV ia, bindF_some]
 ·unfold sideS
  rw [if_neg h, dF h]; rfl
theorem sideR (a : Tn) (side : Int) (ia : inI a.2) : f55 a side = some (sideS a side) := by
 unfold f55 f55_j2
 rw [side_j3r, bindF_some]
 by_cases h : sideAsk a side
 ·obtain ⟨ga, s0, s1⟩ := h
  obtain ⟨j, rfl⟩ := Int.eq_ofNat_of_zero_le s0
  obtain ⟨hp, hl, l1, l2⟩ := good_len ga
  obtain ⟨H, D, st, C⟩ := cut_of hp (show j < a.1.length by omega)
  have hV : a.2.length = H * (D * st) := by have := C.eN; omega
  have hM := C.leM
  rw [side_val C ⟨ga, s0, s1⟩, dT (show sideAsk a (j : Int) from ⟨ga, s0, s1⟩), Bool.not_true, cond_false, bindF_some, sumF_inl, guardF_pos (by omega), wsucc j (by omega), guardF_pos (by omega)]
  have ec : ([] ++ List.take (Int.toNat (j : Int)) a.1) ++ List.drop (Int.toNat ((j + 1 : Nat) : Int)) a.1 = cutD a.1 j := by
   rw [Int.toNat_natCast, Int.toNat_natCast, List.nil_append]; rfl
  rw [guardF_pos (by simp only [List.length_nil, List.length_take]; omega), guardF_pos (by simp only [List.length_append, List.length_nil, List.length_take, List.length_drop]; omega), ec, newR _ _ C.posM, bindF_some, C.eM, Int.toNat_natCast]
  have e1 : loopF (fun go (x : Int × List Int) => f55_l12 a (j : Int) go x.1 x.2) fuelN ((0 : Int), List.replicate (H * st) 0) = _ := side_loopR a.1 a.2 j H D st C hV ia
  simp only
  rw [e1, bindF_some]
 ·unfold sideS
  rw [if_neg h, dF h]; rfl
end Go.Proofs.Cv
namespace Go.Proofs.Op
open Go.AM Go.Proofs.PlB Go.Proofs.PlW Go.Proofs.PlT Go.Proofs.PlS Go.Proofs.Sh Go.Proofs.Num Go.Proofs.Div Go.Proofs.PlR
abbrev noT : Tn := ([], [])
section
variable (l : List Nd) (i : Nat)
theorem vl_nat (n : Nat) (h : n < l.length) : vl l (n : Int) = nd l n := by unfold vl; rw [if_pos (by omega), Int.toNat_natCast]
end
end Go.Proofs.Op
namespace Go.Proofs.Op
open Go.AM Go.Proofs.PlB Go.Proofs.PlW Go.Proofs.PlT Go.Proofs.PlS Go.Proofs.Sh Go.Proofs.Num Go.Proofs.Div
open Go.Proofs.PlR hiding Tn
end Go.Proofs.Op
namespace Go.Proofs.Op
open Go.AM Go.Proofs.PlB Go.Proofs.PlW Go.Proofs.PlT Go.Proofs.PlS Go.Proofs.Sh Go.Proofs.Num Go.Proofs.Div
open Go.Proofs.PlR hiding Tn
section
variable (l : List Nd) (i : Nat)
end
end Go.Proofs.Op
namespace Go.Proofs.Op
open Go.AM Go.Proofs.PlB Go.Proofs.PlW Go.Proofs.PlT Go.Proofs.PlS Go.Proofs.Sh Go.Proofs.Num Go.Proofs.Div Go.Proofs.PlR
def cntK (op k : Int) : Int := if op = 5 ∨ op = 8 ∨ op = 11 ∨ op = 12 ∨ op = 13 then k else 0
theorem cnt_ok (op k : Int) : f14_j2 op k = some (cntK op k) := by
 unfold f14_j2 f24 cntK
 by_cases h1 : op = 5
 ·rw [bT h1, if_pos (.inl h1)]; rfl
 rw [bF h1, cond_false]
 by_cases h2 : op = 8
 ·rw [bT h2, if_pos (by omega)]; rfl
 rw [bF h2, cond_false]
 by_cases h3 : op = 11
 ·rw [bT h3, if_pos (by omega)]; rfl
 rw [bF h3, cond_false]
 by_cases h4 : op = 12
 ·rw [bT h4, if_pos (by omega)]; rfl
 rw [bF h4, cond_false]
 by_cases h5 : op = 13
 ·rw [bT h5, if_pos (by omega)]; rfl
 rw [bF h5, if_neg (by omega)]; rfl
def isTwo (op : Int) : Bool := decide (op = 2 ∨ op = 3 ∨ op = 4 ∨ op = 6 ∨ op = 12)
theorem two_ok (op : Int) : f23 op = some (isTwo op) := by
 unfold f23 isTwo
 by_cases h1 : op = 2
 ·rw [bT h1, dT (.inl h1)]; rfl
 rw [bF h1, cond_false]
 by_cases h2 : op = 3
 ·rw [bT h2, dT (by omega)]; rfl
 rw [bF h2, cond_false]
 by_cases h3 : op = 4
 ·rw [bT h3, dT (by omega)]; rfl
 rw [bF h3, cond_false]
 by_cases h4 : op = 6
 ·rw [bT h4, dT (by omega)]; rfl
 rw [bF h4, cond_false]
 by_cases h5 : op = 12
 ·rw [bT h5, dT (by omega)]
 rw [bF h5, dF (by omega)]
end Go.Proofs.Op
namespace Go.Proofs.Op
open Go.AM Go.Proofs.PlB Go.Proofs.PlW Go.Proofs.PlT Go.Proofs.PlS Go.Proofs.Sh Go.Proofs.Num Go.Proofs.Div
open Go.Proofs.PlR hiding Tn
theorem twoR (op : Int) : f28 op = some (isTwo op) := two_ok op
theorem cntR (op k : Int) : f16_j3 op k = some (cntK op k) := cnt_ok op k
theorem leafR (l : List Nd) (a : Tn) (h : l.length < 512) (hg : tgood a = true) : f15 l a = some ((l.length : Int), 0, l ++ [(1, -1, -1, 0, a.1, a.2)]) := by
 obtain ⟨_, _, l1, l2⟩ := good_len hg
 unfold f15 f15_j1
 have e : f27 (a.1, a.2) = some (tgood a) := isR a
 have h1 : (List.length ([] : List Int) + a.1.length) * 8 ≤ 140737488355328 := by simp only [List.length_nil]; omega
 have h2 : (List.length ([] : List Int) + a.2.length) * 8 ≤ 140737488355328 := by simp only [List.length_nil]; omega
 have h3 : ∀ x : Nd, (l.length + List.length [x]) * 80 ≤ 140737488355328 := fun x => by simp only [List.length_cons, List.length_nil]; omega
 rw [dF (by omega), cond_false, e, hg, bindF_some, Bool.not_true, cond_false, guardF_pos h1, guardF_pos h2, bindF_some, guardF_pos (h3 _), List.length_append, wrap_i64 (by simp <;> omega) (by simp <;> omega)]
 simp
theorem scalar_go (v : Int) : f57 v = some ([], [v]) := by
 unfold f57
 rw [newR [] v (by decide)]; rfl
theorem rk_all (a b : Tn) (k : Int) (ha : GoodT a) : f30 9 a b k = some (0, [], [sat (sumL a.2)]) := by
 obtain ⟨_, _, _, hl⟩ := good_len ha.1
 have e : f58 (a.1, a.2) = some (sat (sumL a.2)) := allR a ha.2 hl
 unfold f30 f30_j3
 rw [show f30_j4 9 = some false from rfl, bindF_some, cond_false, bF (by decide), cond_false, bF (by decide), cond_false, bF (by decide), cond_false, bF (by decide), cond_false, bT rfl, cond_true, e, bindF_some, scalar_go]; rfl
theorem rk_mean (a b : Tn) (k : Int) (ha : GoodT a) : f30 10 a b k = some (0, [], [sat (rdI (sumL a.2) a.2.length)]) := by
 obtain ⟨p, q, _, hl⟩ := good_len ha.1
 have e : f59 (a.1, a.2) = some (sat (rdI (sumL a.2) a.2.length)) := meanR a ha.2 (by omega) hl
 unfold f30 f30_j3
 rw [show f30_j4 10 = some false from rfl, bindF_some, cond_false, bF (by decide), cond_false, bF (by decide), cond_false, bF (by decide), cond_false, bF (by decide), cond_false, bF (by decide), cond_false, bT rfl, cond_true, e, bindF_some, scalar_go]; rfl
end Go.Proofs.Op
namespace Go.Proofs.Cv
open Go.AM Go.Proofs.PlB Go.Proofs.PlW Go.Proofs.PlT Go.Proofs.PlS Go.Proofs.Sh Go.Proofs.Num Go.Proofs.Div Go.Proofs.Op
open Go.Proofs.PlR hiding Tn
theorem tabGood {d : List Int} {N : Nat} {g : Nat → Int} (h : 0 < prd d) (hN : (N : Int) = prd d) (hg : ∀ i, i < N → InR (g i)) : GoodT (d, tabL N g) :=
 ⟨tgood_of h (by simp only [tab_len]; exact hN), inI_tab hg⟩
theorem toN2 {x y : Int} (hx : 1 ≤ x) (hy : 1 ≤ y) : ((x.toNat * y.toNat : Nat) : Int) = x * y := by
 rw [Int.natCast_mul, Int.toNat_of_nonneg (by omega), Int.toNat_of_nonneg (by omega)]
theorem both_good (f : Int → Int → Int) (hf : ∀ x y, InR (f x y)) (a b : Tn) (h : (bothS f a b).1 = 0) : GoodT (bothS f a b).2 := by
 unfold bothS at h ⊢
 by_cases c : tgood a = true ∧ tgood b = true
 ·rw [if_pos c] at h ⊢
  by_cases e : (jS a.1 b.1).1 = 0
  ·rw [if_pos e] at h ⊢
   have J := jS_zero e
   have := prd_range (jS a.1 b.1).2
   exact tabGood J.pd (by have := J.pd; omega) (fun i hi => hf _ _)
  ·rw [if_neg e] at h; exact absurd h e
 ·rw [if_neg c] at h; exact absurd h (by decide)
theorem scale_good (a : Tn) (k : Int) (h : (scaleS a k).1 = 0) : GoodT (scaleS a k).2 := by
 unfold scaleS at h ⊢
 by_cases c : tgood a = true
 ·rw [if_pos c] at h ⊢
  obtain ⟨p, q, _, _⟩ := good_len c
  exact tabGood p q (fun i hi => sat_in _)
 ·rw [if_neg c] at h; exact absurd h (by decide)
theorem bent_good (k : Int) (a : Tn) (ia : inI a.2) (h : (bentS k a).1 = 0) : GoodT (bentS k a).2 := by
 unfold bentS at h ⊢
 by_cases c : 1 ≤ k ∧ k ≤ 5 ∧ tgood a = true
 ·rw [if_pos c] at h ⊢
  obtain ⟨p, q, _, _⟩ := good_len c.2.2
  exact tabGood p q (fun i hi => bendV_in _ _ (inI_rd ia i hi))
 ·rw [if_neg c] at h; exact absurd h (by decide)
theorem resh_good (a : Tn) (d : List Int) (ia : inI a.2) (h : (reshS a d).1 = 0) : GoodT (reshS a d).2 := by
 unfold reshS at h ⊢
 by_cases c : tgood a = true ∧ 0 < prd d
 ·rw [if_pos c] at h ⊢
  by_cases e : prd d = a.2.length
  ·rw [if_pos e] at h ⊢
   exact ⟨tgood_of c.2 e.symm, ia⟩
  ·rw [if_neg e] at h; exact absurd h (by decide)
 ·rw [if_neg c] at h; exact absurd h (by decide)
theorem mm_good (a b : Tn) (h : (mmS a b).1 = 0) : GoodT (mmS a b).2 := by
 unfold mmS at h ⊢
 by_cases c : bothGood a b
 ·rw [if_pos c] at h ⊢
  by_cases e : mmFit a b
  ·rw [if_pos e] at h ⊢
   by_cases n0 : 0 < prd [rd (0 : Int) a.1 0, rd (0 : Int) b.1 1]
   ·rw [if_pos n0] at h ⊢
    obtain ⟨h1, h2, h3⟩ := prod2 n0
    exact tabGood n0 (by rw [toN2 h1 h2, h3]) (fun i hi => sat_in _)
   ·rw [if_neg n0] at h; exact absurd h (by decide)
  ·rw [if_neg e] at h; exact absurd h (by decide)
 ·rw [if_neg c] at h; exact absurd h (by decide)
theorem row_good2 (a k : Tn) (s : Int) (h : (rowS a k s).1 = 0) : GoodT (rowS a k s).2 := by
 unfold rowS at h ⊢
 by_cases c : rowAsk a k s
 ·rw [if_pos c] at h ⊢
  by_cases e : rowFit a k
  ·rw [if_pos e] at h ⊢
   by_cases n0 : 0 < prd [rd (0 : Int) k.1 0, (many (rd (0 : Int) a.1 1).toNat (rd (0 : Int) k.1 2).toNat s.toNat : Int)]
   ·rw [if_pos n0] at h ⊢
    obtain ⟨h1, h2, h3⟩ := prod2 n0
    exact tabGood n0 (by rw [Int.natCast_mul, Int.toNat_of_nonneg (by omega), h3]) (fun i hi => sat_in _)
   ·rw [if_neg n0] at h; exact absurd h (by decide)
  ·rw [if_neg e] at h; exact absurd h (by decide)
 ·rw [if_neg c] at h; exact absurd h (by decide)
theorem fl_good (a : Tn) (ia : inI a.2) (h : (flS a).1 = 0) : GoodT (flS a).2 := by
 unfold flS at h ⊢
 by_cases c : tgood a = true
 ·rw [if_pos c] at h ⊢
  by_cases e : a.1.length = 2
  ·rw [if_pos e] at h ⊢
   obtain ⟨n, m, ea, n1, m1, la, ba⟩ := mat_nat c e
   clear h c e
   generalize a.2 = V at *
   subst ea
   obtain ⟨pm, pmN⟩ := prd_pos2 m1 n1 (show m * n ≤ 4096 by rw [Nat.mul_comm]; exact ba)
   have := PlN.flip_inI (n := n) (m := m) ia
   exact ⟨tgood_of pm (by show (((tabL (m * n) (PlM.flipV n m V)).length : Nat) : Int) = prd [(m : Int), (n : Int)]; rw [tab_len]; omega), this⟩
  ·rw [if_neg e] at h; exact absurd h (by decide)
 ·rw [if_neg c] at h; exact absurd h (by decide)
theorem side_good (a : Tn) (s : Int) (h : (sideS a s).1 = 0) : GoodT (sideS a s).2 := by
 unfold sideS at h ⊢
 by_cases c : sideAsk a s
 ·rw [if_pos c] at h ⊢
  obtain ⟨ga, s0, s1⟩ := c
  obtain ⟨hp, hl, l1, l2⟩ := good_len ga
  obtain ⟨H, D, st, C⟩ := cut_of hp (show s.toNat < a.1.length by omega)
  have := C.posM
  exact tabGood C.posM (by omega) (fun i hi => sat_in _)
 ·rw [if_neg c] at h; exact absurd h (by decide)
theorem pool_good (a : Tn) (w : Int) (ia : inI a.2) (h : (poolS a w).1 = 0) : GoodT ((poolS a w).2.1, (poolS a w).2.2.1) := by
 unfold poolS at h ⊢
 by_cases c : tgood a = true
 ·rw [if_pos c] at h ⊢
  by_cases e : a.1.length = 2
  ·rw [if_pos e] at h ⊢
   by_cases f : 1 ≤ w ∧ w ≤ rd (0 : Int) a.1 1
   ·rw [if_pos f] at h ⊢
    obtain ⟨cc, L, ea, c1, L1, la, ba⟩ := mat_nat c e
    obtain ⟨w', rfl⟩ := Int.eq_ofNat_of_zero_le (show 0 ≤ w by omega)
    clear h c e
    generalize a.2 = V at *
    subst ea
    have fw : (w' : Int) ≤ (L : Int) := f.2
    have w1 : 1 ≤ w' := by omega
    obtain ⟨m1, mL, mN, hL⟩ := pool_m V cc L w' c1 w1 (by omega) la ba
    obtain ⟨p0, pN⟩ := prd_pos2 c1 m1 mN
    exact tabGood (d := [(cc : Int), ((L / w' : Nat) : Int)]) (N := cc * (L / w')) (g := plV V L w') p0 (by omega) (fun i hi => inI_rd ia _ (pl_in V cc L w' c1 w1 (by omega) la ba hi))
   ·rw [if_neg f] at h; exact absurd h (by decide)
  ·rw [if_neg e] at h; exact absurd h (by decide)
 ·rw [if_neg c] at h; exact absurd h (by decide)
def wh (k : Int) : Int := if k < -1000000 ∨ k > 1000000 then -1000000 else k
theorem whole_ok (k : Int) : f56 k = some (wh k) := by
 unfold f56 wh
 by_cases h1 : k < -1000000
 ·rw [dT h1, if_pos (.inl h1)]; rfl
 ·rw [dF h1, cond_false]
  by_cases h2 : k > 1000000
  ·rw [dT h2, if_pos (.inr h2)]; rfl
  ·rw [dF h2, if_neg (by omega)]; rfl
theorem wh_or (k : Int) : wh k = k ∨ (wh k = -1000000 ∧ (k < -1000000 ∨ k > 1000000)) := by
 unfold wh
 by_cases h : k < -1000000 ∨ k > 1000000
 ·rw [if_pos h]; exact .inr ⟨rfl, h⟩
 ·rw [if_neg h]; exact .inl rfl
theorem side_wh (a : Tn) (k : Int) (ga : tgood a = true) : sideS a (wh k) = sideS a k := by
 obtain ⟨_, _, l1, _⟩ := good_len ga
 rcases wh_or k with e | ⟨e, h⟩
 ·rw [e]
 ·rw [e]; unfold sideS
  rw [if_neg (fun c => by have := c.2.1; omega), if_neg (fun c => by have := c.2.1; have := c.2.2; omega)]
theorem bent_wh (a : Tn) (k : Int) : bentS (wh k) a = bentS k a := by
 rcases wh_or k with e | ⟨e, h⟩
 ·rw [e]
 ·rw [e]; unfold bentS
  rw [if_neg (fun c => by have := c.1; omega), if_neg (fun c => by have := c.1; have := c.2.1; omega)]
theorem row_wh (a b : Tn) (k : Int) : rowS a b (wh k) = rowS a b k := by
 rcases wh_or k with e | ⟨e, h⟩
 ·rw [e]
 ·rw [e]; unfold rowS
  rw [if_neg (fun c => by have := c.2.2.1; omega), if_neg (fun c => by have := c.2.2.1; have := c.2.2.2; omega)]
theorem pool_wh (a : Tn) (k : Int) (ga : tgood a = true) : poolS a (wh k) = poolS a k := by
 rcases wh_or k with e | ⟨e, h⟩
 ·rw [e]
 ·rw [e]; unfold poolS
  rw [if_pos ga, if_pos ga]
  by_cases f : a.1.length = 2
  ·rw [if_pos f, if_pos f]
   obtain ⟨c, L, ea, c1, L1, la, ba⟩ := mat_nat ga f
   have hL : rd (0 : Int) a.1 1 = (L : Int) := by rw [ea]; rfl
   have : L ≤ 4096 := Nat.le_trans (Nat.le_mul_of_pos_left _ c1) ba
   rw [if_neg (fun c => by omega), if_neg (fun c => by omega)]
  ·rw [if_neg f, if_neg f]
theorem pair_ok (op : Int) (a b : Tn) (k : Int) (ho : isTwo op = true) (ga : GoodT a) (gb : GoodT b) : ∃ r : Int × Tn, f25 op a b k = some r ∧ f30 op a b (cntK op k) = some r ∧ (r.1 = 0 → GoodT r.2) := by
 have h : op = 2 ∨ op = 3 ∨ op = 4 ∨ op = 6 ∨ op = 12 := by unfold isTwo at ho; exact of_decide_eq_true ho
 rcases h with rfl | rfl | rfl | rfl | rfl
 ·refine ⟨bothS addV a b, ?_, ?_, both_good addV (fun x y => sat_in _) a b⟩
  ·show bindF (f35 a b) _ = _
   rw [addP a b ga.2 gb.2]; rfl
  ·unfold f30 f30_j3
   rw [show f30_j4 2 = some true from rfl, bindF_some, cond_true, wrap_i64 (by omega) (by omega)]
   have e : f51 (2 - 2) (a.1, a.2) (b.1, b.2) = some (bothS addV a b) := addR a b ga.2 gb.2
   rw [e]; rfl
 ·refine ⟨bothS subV a b, ?_, ?_, both_good subV (fun x y => sat_in _) a b⟩
  ·show bindF (f36 a b) _ = _
   rw [subP a b ga.2 gb.2]; rfl
  ·unfold f30 f30_j3
   rw [show f30_j4 3 = some true from rfl, bindF_some, cond_true, wrap_i64 (by omega) (by omega)]
   have e : f51 (3 - 2) (a.1, a.2) (b.1, b.2) = some (bothS subV a b) := Op.subR a b ga.2 gb.2
   rw [e]; rfl
 ·refine ⟨bothS mulX a b, ?_, ?_, both_good mulX (fun x y => sat_in _) a b⟩
  ·show bindF (f37 a b) _ = _
   rw [mulP a b ga.2 gb.2]; rfl
  ·unfold f30 f30_j3
   rw [show f30_j4 4 = some true from rfl, bindF_some, cond_true, wrap_i64 (by omega) (by omega)]
   have e : f51 (4 - 2) (a.1, a.2) (b.1, b.2) = some (bothS mulX a b) := mulR a b ga.2 gb.2
   rw [e]; rfl
 ·refine ⟨mmS a b, ?_, ?_, mm_good a b⟩
  ·show bindF (f38 a b) _ = _
   rw [mmP a b ga.2 gb.2]; rfl
  ·unfold f30 f30_j3
   rw [show f30_j4 6 = some false from rfl, bindF_some, cond_false, bF (by decide), cond_false, bT rfl, cond_true]
   have e : f53 (a.1, a.2) (b.1, b.2) = some (mmS a b) := mmR a b ga.2 gb.2
   rw [e]; rfl
 ·refine ⟨rowS a b k, ?_, ?_, row_good2 a b k⟩
  ·show bindF (f39 a b k) _ = _
   rw [rowP a b k ga.2 gb.2]; rfl
  ·have ek : cntK 12 k = k := rfl
   unfold f30 f30_j3
   rw [show f30_j4 12 = some false from rfl, bindF_some, cond_false, bF (by decide), cond_false, bF (by decide), cond_false, bF (by decide), cond_false, bF (by decide), cond_false, bF (by decide), cond_false, bF (by decide), cond_false, bF (by decide), cond_false, bT rfl, cond_true, ek, whole_ok, bindF_some]
   have e : f61 (a.1, a.2) (b.1, b.2) (wh k) = some (rowS a b (wh k)) := rowR a b (wh k) ga.2 gb.2
   rw [e, row_wh]; rfl
theorem single_go (v : Int) : f43 v 0 = some (0, [], [v]) := single_ok v
theorem one_ok (op : Int) (a : Tn) (k : Int) (hk : InR k) (o1 : 2 ≤ op) (o2 : op ≤ 14) (ho : isTwo op = false) (ga : GoodT a) : ∃ r : Int × Tn, f26 op a k = some r ∧ f30 op a noT (cntK op k) = some r ∧ (r.1 = 0 → GoodT r.2) := by
 have h : op = 5 ∨ op = 7 ∨ op = 8 ∨ op = 9 ∨ op = 10 ∨ op = 11 ∨ op = 13 ∨ op = 14 := by
  have : ¬ (op = 2 ∨ op = 3 ∨ op = 4 ∨ op = 6 ∨ op = 12) := by unfold isTwo at ho; exact of_decide_eq_false ho
  omega
 rcases h with rfl | rfl | rfl | rfl | rfl | rfl | rfl | rfl
 ·refine ⟨scaleS a k, ?_, ?_, scale_good a k⟩
  ·show bindF (f40 a k) _ = _
   rw [scaleP a k ga.2 hk]; rfl
  ·have ek : cntK 5 k = k := rfl
   unfold f30 f30_j3
   rw [show f30_j4 5 = some false from rfl, bindF_some, cond_false, bT rfl, cond_true, ek]
   have e : f52 (a.1, a.2) k = some (scaleS a k) := scaleR a k ga.2 hk
   rw [e]; rfl
 ·refine ⟨flS a, ?_, ?_, fl_good a ga.2⟩
  ·show bindF (f41 a) _ = _
   rw [flP a]; rfl
  ·unfold f30 f30_j3
   rw [show f30_j4 7 = some false from rfl, bindF_some, cond_false, bF (by decide), cond_false, bF (by decide), cond_false, bT rfl, cond_true]
   have e : f54 (a.1, a.2) = some (flS a) := flR a
   rw [e]; rfl
 ·refine ⟨sideS a k, ?_, ?_, side_good a k⟩
  ·show bindF (f42 a k) _ = _
   rw [sideP a k ga.2]; rfl
  ·have ek : cntK 8 k = k := rfl
   unfold f30 f30_j3
   rw [show f30_j4 8 = some false from rfl, bindF_some, cond_false, bF (by decide), cond_false, bF (by decide), cond_false, bF (by decide), cond_false, bT rfl, cond_true, ek, whole_ok, bindF_some]
   have e : f55 (a.1, a.2) (wh k) = some (sideS a (wh k)) := sideR a (wh k) ga.2
   rw [e, side_wh a k ga.1]; rfl
 ·refine ⟨(0, [], [sat (sumL a.2)]), ?_, rk_all a noT _ ga, fun _ => ⟨rfl, fun y hy => by rw [List.mem_singleton.1 hy]; exact sat_in _⟩⟩
  show bindF (f44 a) _ = _
  rw [allP a ga.2 ga.1, bindF_some]
  simp only
  rw [single_go]; rfl
 ·refine ⟨(0, [], [sat (rdI (sumL a.2) a.2.length)]), ?_, rk_mean a noT _ ga, fun _ => ⟨rfl, fun y hy => by rw [List.mem_singleton.1 hy]; exact sat_in _⟩⟩
  show bindF (f45 a) _ = _
  rw [meanP a ga.2 ga.1, bindF_some]
  simp only
  rw [single_go]; rfl
 ·refine ⟨bentS k a, ?_, ?_, bent_good k a ga.2⟩
  ·show bindF (f46 k a) _ = _
   rw [bentP k a ga.2]; rfl
  ·have ek : cntK 11 k = k := rfl
   unfold f30 f30_j3
   rw [show f30_j4 11 = some false from rfl, bindF_some, cond_false, bF (by decide), cond_false, bF (by decide), cond_false, bF (by decide), cond_false, bF (by decide), cond_false, bF (by decide), cond_false, bF (by decide), cond_false, bT rfl, cond_true, ek, whole_ok, bindF_some]
   have e : f60 (wh k) (a.1, a.2) = some (bentS (wh k) a) := bentR (wh k) a ga.2
   rw [e, bent_wh]; rfl
 ·refine ⟨((poolS a k).1, (poolS a k).2.1, (poolS a k).2.2.1), ?_, ?_, pool_good a k ga.2⟩
  ·show bindF (f47 a k) _ = _
   rw [poolP a k]; rfl
  ·have ek : cntK 13 k = k := rfl
   unfold f30 f30_j3 f30_j5
   rw [show f30_j4 13 = some false from rfl, bindF_some, cond_false, bF (by decide), cond_false, bF (by decide), cond_false, bF (by decide), cond_false, bF (by decide), cond_false, bF (by decide), cond_false, bF (by decide), cond_false, bF (by decide), cond_false, bF (by decide), cond_false, bT rfl, cond_true, ek, whole_ok, bindF_some]
   have e : f62 (a.1, a.2) (wh k) = some (poolS a (wh k)) := poolR a (wh k)
   rw [e, pool_wh a k ga.1]; rfl
 ·refine ⟨reshS a [(a.2.length : Int)], ?_, ?_, resh_good a _ ga.2⟩
  ·show bindF (f48 a [(a.2.length : Int)]) _ = _
   rw [reshP]; rfl
  ·unfold f30 f30_j3
   rw [show f30_j4 14 = some false from rfl, bindF_some, cond_false, bF (by decide), cond_false, bF (by decide), cond_false, bF (by decide), cond_false, bF (by decide), cond_false, bF (by decide), cond_false, bF (by decide), cond_false, bF (by decide), cond_false, bF (by decide), cond_false, bF (by decide), cond_false, bindF_some, sumF_inl]
   have e : f63 (a.1, a.2) [(a.2.length : Int)] = some (reshS a [(a.2.length : Int)]) := reshR a _
   rw [e]; rfl
end Go.Proofs.Cv
namespace Go.Proofs.Cv
open Go.AM Go.Proofs.PlB Go.Proofs.PlW Go.Proofs.PlT Go.Proofs.PlS Go.Proofs.Sh Go.Proofs.Num Go.Proofs.Div Go.Proofs.Op
open Go.Proofs.PlR hiding Tn
def GL (l : List Nd) : Prop := ∀ i, i < l.length → GoodT (nd l i)
theorem gl_nil : GL [] := fun i h => absurd h (by simp)
theorem gl_push {l : List Nd} (G : GL l) (n : Nd) (h : GoodT n.2.2.2.2) : GL (l ++ [n]) := fun i hi => by
 by_cases e : i < l.length
 ·rw [nd_app _ _ _ e]; exact G i e
 ·have : i = l.length := by simp at hi; omega
  subst this
  rw [nd_last]; exact h
def Says (p q : Option (Int × Int × List Nd)) (l : List Nd) : Prop := ∃ i e m, p = some (i, e, m) ∧ q = some (i, e, m) ∧ GL m ∧ m.length ≤ l.length + 1
theorem says_leaf (l : List Nd) (x : Tn) (hl : l.length < 512) (G : GL l) (ix : inI x.2) : Says (f12 l x) (f15 l x) l := by
 by_cases g : tgood x = true
 ·exact ⟨_, _, _, leaf_ok l x hl g, leafR l x hl g, gl_push G _ ⟨g, ix⟩, by simp⟩
 ·refine ⟨0, 1, l, ?_, ?_, G, by omega⟩
  ·unfold f12
   have e : f21 (x.1, x.2) = some (tgood x) := good_ok x
   rw [dF (by omega), cond_false, e, show tgood x = false by simpa using g]; rfl
  ·unfold f15
   have e : f27 (x.1, x.2) = some (tgood x) := isR x
   rw [dF (by omega), cond_false, e, show tgood x = false by simpa using g]; rfl
theorem says_do (l : List Nd) (op a b k : Int) (hl : l.length < 512) (G : GL l) (hk : InR k) : Says (f14 l op a b k) (f16 l op a b k) l := by
 by_cases c : 2 ≤ op ∧ op ≤ 14 ∧ 0 ≤ a ∧ a < l.length ∧ (isTwo op = true → 0 ≤ b ∧ b < l.length)
 ·obtain ⟨o1, o2, a0, a1, hb⟩ := c
  obtain ⟨A, rfl⟩ := Int.eq_ofNat_of_zero_le a0
  have hA : A < l.length := by omega
  have hj1P : f14_j1 l op A b = some (Sum.inl l) := by
   unfold f14_j1
   rw [dF (by omega), dF (by omega), dF (by omega), hasP, dT (show 0 ≤ (A : Int) ∧ (A : Int) < l.length by omega), two_ok]
   simp only [cond_false, bindF_some, Bool.not_true]
   cases ht : isTwo op
   ·rfl
   ·rw [cond_true, hasP, dT (hb ht)]; rfl
  have hj1R : f16_j1 l op A b = some (Sum.inl ()) := by
   unfold f16_j1
   rw [dF (by omega), dF (by omega), dF (by omega), dF (by omega), twoR]
   simp only [cond_false, bindF_some]
   cases ht : isTwo op
   ·rfl
   ·have := hb ht
    rw [dF (by omega), dF (by omega)]; rfl
  have gA : 0 ≤ (A : Int) ∧ (A : Int) < (l.length : Int) := by omega
  have main : ∃ (r : Int × Tn) (bn : Int) (B : Tn), f14_j3 op A b k l = some (r.1, bn, r.2.1, r.2.2) ∧ f16_j2 l op b = some (bn, B) ∧ f16_j4 l op A (bn, B) (cntK op k) = some r ∧ (r.1 = 0 → GoodT r.2) := by
   cases ht : isTwo op
   ·obtain ⟨r, e1, e2, e3⟩ := one_ok op (nd l A) k hk o1 o2 ht (G A hA)
    refine ⟨r, -1, noT, ?_, ?_, ?_, e3⟩
    ·unfold f14_j3
     unfold nd at e1
     rw [two_ok, ht, bindF_some, cond_false, guardF_pos gA, e1]; rfl
    ·unfold f16_j2
     rw [twoR, ht]; rfl
    ·unfold f16_j4
     have e : f30 op ((rd (Ty.z (.p (.int .i64) (.p (.int .i64) (.p (.int .i64) (.p (.int .i64) (.p (.sl (.int .i64)) (.sl (.int .i64)))))))) l (A : Int)).2.2.2.2.1, (rd (Ty.z (.p (.int .i64) (.p (.int .i64) (.p (.int .i64) (.p (.int .i64) (.p (.sl (.int .i64)) (.sl (.int .i64)))))))) l (A : Int)).2.2.2.2.2) (((-1 : Int), noT).2.1, ((-1 : Int), noT).2.2) (cntK op k) = some r := e2
     rw [guardF_pos gA, e]; rfl
   ·have gB := hb ht
    obtain ⟨B, rfl⟩ := Int.eq_ofNat_of_zero_le gB.1
    have hB : B < l.length := by omega
    obtain ⟨r, e1, e2, e3⟩ := pair_ok op (nd l A) (nd l B) k ht (G A hA) (G B hB)
    refine ⟨r, (B : Int), nd l B, ?_, ?_, ?_, e3⟩
    ·unfold f14_j3
     unfold nd at e1
     rw [two_ok, ht, bindF_some, cond_true, guardF_pos gA, guardF_pos gB, e1]; rfl
    ·unfold f16_j2
     rw [twoR, ht, bindF_some, cond_true, guardF_pos gB]; rfl
    ·unfold f16_j4
     have e : f30 op ((rd (Ty.z (.p (.int .i64) (.p (.int .i64) (.p (.int .i64) (.p (.int .i64) (.p (.sl (.int .i64)) (.sl (.int .i64)))))))) l (A : Int)).2.2.2.2.1, (rd (Ty.z (.p (.int .i64) (.p (.int .i64) (.p (.int .i64) (.p (.int .i64) (.p (.sl (.int .i64)) (.sl (.int .i64)))))))) l (A : Int)).2.2.2.2.2) (((B : Int), nd l B).2.1, ((B : Int), nd l B).2.2) (cntK op k) = some r := e2
     rw [guardF_pos gA, e]; rfl
  obtain ⟨r, bn, B, m1, m2, m3, m4⟩ := main
  unfold Says f14 f16
  rw [hj1P, bindF_some, sumF_inl, cnt_ok, bindF_some, m1, bindF_some, dF (by omega), cond_false, hj1R, bindF_some, sumF_inl, m2, bindF_some, cntR, bindF_some, m3, bindF_some]
  by_cases er : r.1 = 0
  ·have h3 : ∀ x : Nd, (l.length + List.length [x]) * 80 ≤ 140737488355328 := fun x => by simp only [List.length_cons, List.length_nil]; omega
   refine ⟨(l.length : Int), 0, l ++ [(op, (A : Int), bn, cntK op k, r.2.1, r.2.2)], ?_, ?_, gl_push G _ (m4 er), by simp⟩
   ·rw [nF er, cond_false, push_ok _ _ hl]; rfl
   ·rw [nF er, cond_false, guardF_pos (h3 _), List.length_append, wrap_i64 (by simp <;> omega) (by simp <;> omega)]
    simp
  ·refine ⟨0, r.1, l, ?_, ?_, G, by omega⟩
   ·rw [nT er]; rfl
   ·rw [nT er]; rfl
 ·refine ⟨0, 1, l, ?_, ?_, G, by omega⟩
  ·have hj1P : f14_j1 l op a b = some (Sum.inr (1, l)) := by
    unfold f14_j1
    rw [dF (by omega), cond_false]
    by_cases c1 : op < 2
    ·rw [dT c1]; rfl
    rw [dF c1, cond_false]
    by_cases c2 : op > 14
    ·rw [dT c2]; rfl
    rw [dF c2, cond_false, hasP, bindF_some]
    by_cases c3 : 0 ≤ a ∧ a < l.length
    ·rw [dT c3, Bool.not_true, cond_false, two_ok, bindF_some]
     cases ht : isTwo op
     ·exact absurd ⟨by omega, by omega, c3.1, c3.2, fun h => absurd (ht.symm.trans h) (by decide)⟩ c
     ·rw [cond_true, hasP, bindF_some]
      by_cases c4 : 0 ≤ b ∧ b < l.length
      ·exact absurd ⟨by omega, by omega, c3.1, c3.2, fun _ => c4⟩ c
      ·rw [dF c4]; rfl
    ·rw [dF c3]; rfl
   unfold f14
   rw [hj1P]; rfl
  ·have hj1R : f16_j1 l op a b = some (Sum.inr ()) := by
    unfold f16_j1
    by_cases c1 : op < 2
    ·rw [dT c1]; rfl
    rw [dF c1, cond_false]
    by_cases c2 : op > 14
    ·rw [dT c2]; rfl
    rw [dF c2, cond_false]
    by_cases c3 : a < 0
    ·rw [dT c3]; rfl
    rw [dF c3, cond_false]
    by_cases c5 : a ≥ l.length
    ·rw [dT c5]; rfl
    rw [dF c5, cond_false, twoR, bindF_some]
    cases ht : isTwo op
    ·exact absurd ⟨by omega, by omega, by omega, by omega, fun h => absurd (ht.symm.trans h) (by decide)⟩ c
    ·rw [cond_true]
     by_cases c4 : b < 0
     ·rw [dT c4]; rfl
     rw [dF c4, cond_false]
     by_cases c6 : b ≥ l.length
     ·rw [dT c6]; rfl
     exact absurd ⟨by omega, by omega, by omega, by omega, fun _ => by omega⟩ c
   unfold f16
   rw [dF (by omega), cond_false, hj1R]; rfl
end Go.Proofs.Cv
namespace Go.Proofs.PlG
open Go.AM Go.Proofs.PlW
theorem range_i64 {x : Int} (h : Ty.wf (.int .i64) x) : -9223372036854775808 ≤ x ∧ x < 9223372036854775808 := by
 have h : (Lit.int .i64 x).wf = true := h
 simp only [Lit.wf, IntKind.min, IntKind.max, IntKind.signed, IntKind.bits, Bool.and_eq_true, decide_eq_true_eq, if_true] at h
 omega
theorem row_i64 {l : List Int} (h : Ty.wf (.sl (.int .i64)) l) : inI l := fun x hx => range_i64 (h.2 x hx)
end Go.Proofs.PlG
namespace Go.Proofs.Cv
open Go.AM Go.Proofs.PlB Go.Proofs.PlW Go.Proofs.PlT Go.Proofs.PlS Go.Proofs.Sh Go.Proofs.Num Go.Proofs.Div Go.Proofs.Op
open Go.Proofs.PlR hiding Tn
theorem total_go (T : List Nd) (hl : T.length ≤ 512) : ∃ n, f17 T = some (n, T) := by
 unfold f17
 obtain ⟨z, e, _⟩ := loop_rel (B := fun go (x : Int × Int) => f17_l1 T go x.1 x.2) (fun k x => x.2 = (k : Int)) (fun _ => True) T.length ((0 : Int), (0 : Int)) rfl (by
  rintro k hk ⟨n, _⟩ rfl
  refine ⟨(IntKind.i64.wrap (n + (List.length (nd T k).2 : Int)), ((k + 1 : Nat) : Int)), fun go => ?_, rfl⟩
  have g : 0 ≤ (k : Int) ∧ (k : Int) < (T.length : Int) := by omega
  unfold f17_l1
  simp only
  rw [dT (by omega), cond_true, guardF_pos g, wsucc k (by omega)]
  rfl) (by
  rintro ⟨n, _⟩ rfl
  refine ⟨n, fun go => ?_, trivial⟩
  unfold f17_l1
  simp only
  rw [dF (by omega), cond_false]) (by omega)
 exact ⟨z, by rw [e]; rfl⟩
theorem small_go (l : List Nd) : ∃ b, f5 l 40 = some b ∧ (b = true → l.length ≤ 40) := by
 unfold f5
 by_cases h : (l.length : Int) > 40
 ·exact ⟨false, by rw [dT h]; rfl, fun h => absurd h (by decide)⟩
 ·rw [dF h, cond_false]
  obtain ⟨z, e, _⟩ := loop_fuel (B := fun go (x : Int) => f5_l1 l go x) (fun x => 0 ≤ x ∧ x ≤ l.length) (fun x => ((l.length : Int) - x).toNat) (fun _ => True) (by
   rintro x ⟨x0, x1⟩
   by_cases hx : x < l.length
   ·have g : 0 ≤ x ∧ x < (l.length : Int) := ⟨x0, hx⟩
    have step : ∃ p q : Bool, ∀ go, f5_l1 l go x = bif p then some (Sum.inl ()) else bif q then some (Sum.inl ()) else go (x + 1) := by
     refine ⟨decide ((List.length (rd (Ty.z (.p (.int .i64) (.p (.int .i64) (.p (.int .i64) (.p (.int .i64) (.p (.sl (.int .i64)) (.sl (.int .i64)))))))) l x).2.2.2.2.1 : Int) > 10), decide ((List.length (rd (Ty.z (.p (.int .i64) (.p (.int .i64) (.p (.int .i64) (.p (.int .i64) (.p (.sl (.int .i64)) (.sl (.int .i64)))))))) l x).2.2.2.2.2 : Int) > 60), fun go => ?_⟩
     unfold f5_l1
     rw [dT hx, cond_true, guardF_pos g, guardF_pos g, wrap_i64 (by omega) (by omega)]
    obtain ⟨p, q, step⟩ := step
    cases p
    ·cases q
     ·right
      exact ⟨x + 1, fun go => step go, ⟨by omega, by omega⟩, by omega⟩
     ·left; exact ⟨_, fun go => step go, trivial⟩
    ·left; exact ⟨_, fun go => step go, trivial⟩
   ·left
    refine ⟨Sum.inr (), fun go => ?_, trivial⟩
    unfold f5_l1
    rw [dF hx]; rfl) (0 : Int) ⟨by omega, by omega⟩ (by omega)
  rw [e, bindF_some]
  cases z
  ·exact ⟨_, rfl, fun _ => by omega⟩
  ·exact ⟨_, rfl, fun _ => by omega⟩
theorem played_go (l : List Nd) (hl : l.length ≤ 40) (hs : ∀ i, i < l.length → InR (gn l i).2.2.2.1 ∧ inI (gn l i).2.2.2.2.2) : ∃ T, f6 l = some (Sum.inr (T, T)) ∧ GL T ∧ T.length ≤ 40 := by
 unfold f6
 obtain ⟨z, e, T, rfl, G, hT⟩ := loop_fuel (B := fun go (x : Int × List Nd × List Nd) => f6_l9 l go x.1 x.2.1 x.2.2) (fun x => ∃ (i : Nat) (T : List Nd), x = ((i : Int), T, T) ∧ i ≤ l.length ∧ GL T ∧ T.length ≤ i) (fun x => ((l.length : Int) - x.1).toNat)
  (fun z => ∃ T, z = Sum.inr (T, T) ∧ GL T ∧ T.length ≤ 40) (by
  rintro _ ⟨i, T, rfl, hi, G, hT⟩
  by_cases h : i < l.length
  ·have g : 0 ≤ (i : Int) ∧ (i : Int) < (l.length : Int) := by omega
   obtain ⟨q1, q2⟩ := hs i h
   have S : ∃ a e m, f6_j10 l (i : Int) T T = some (a, e, a, e, m, m) ∧ GL m ∧ m.length ≤ T.length + 1 := by
    unfold f6_j10
    have eN : rd (Ty.z (.p (.int .i64) (.p (.int .i64) (.p (.int .i64) (.p (.int .i64) (.p (.sl (.int .i64)) (.sl (.int .i64)))))))) l (i : Int) = gn l i := rfl
    rw [eN]
    by_cases o : (gn l i).1 = 1
    ·obtain ⟨a, e, m, e1, e2, e3, e4⟩ := says_leaf T ((gn l i).2.2.2.2.1, (gn l i).2.2.2.2.2) (by omega) G q2
     rw [bT o, cond_true, e1, bindF_some, e2]
     exact ⟨a, e, m, rfl, e3, e4⟩
    ·obtain ⟨a, e, m, e1, e2, e3, e4⟩ := says_do T (gn l i).1 (gn l i).2.1 (gn l i).2.2.1 (gn l i).2.2.2.1 (by omega) G q1
     rw [bF o, cond_false, e1, bindF_some, e2]
     exact ⟨a, e, m, rfl, e3, e4⟩
   obtain ⟨a, e, m, e1, e3, e4⟩ := S
   obtain ⟨n, en⟩ := total_go m (by omega)
   have ej : f6_j12 (a, e, a, e, m, m) = some (Sum.inl ()) := by
    unfold f6_j12 f6_j13
    rw [nF rfl, cond_false, nF rfl]; rfl
   have step : ∀ go, f6_l9 l go (i : Int) T T = bif decide (n > 4000) then some (Sum.inr (m, m)) else go (((i + 1 : Nat) : Int), m, m) := fun go => by
    unfold f6_l9
    rw [dT (by omega), cond_true, guardF_pos g, e1, bindF_some, ej, bindF_some, sumF_inl]
    simp only
    rw [en, bindF_some]
    simp only
    rw [wsucc i (by omega)]
   by_cases hn : n > 4000
   ·left
    exact ⟨Sum.inr (m, m), fun go => by rw [step go, dT hn]; rfl, m, rfl, e3, by omega⟩
   ·right
    exact ⟨(((i + 1 : Nat) : Int), m, m), fun go => by rw [step go, dF hn]; rfl, ⟨i + 1, m, rfl, by omega, e3, by omega⟩, by simp only; omega⟩
  ·left
   refine ⟨Sum.inr (T, T), fun go => ?_, T, rfl, G, by omega⟩
   unfold f6_l9
   simp only
   rw [dF (by omega), cond_false]) ((0 : Int), [], []) ⟨0, [], rfl, Nat.zero_le _, gl_nil, by simp⟩ (by simp only; omega)
 refine ⟨T, ?_, G, hT⟩
 rw [show f11 = some () from rfl, bindF_some, e]; rfl
theorem same_go (t : Tn) (h : GoodT t) : f10 (t.1, t.2) (t.1, t.2) = some true := by
 obtain ⟨_, _, l1, l2⟩ := good_len h.1
 have := alikeR t t (by omega) (by omega)
 rw [dT rfl] at this; exact this
theorem nodes_go (T : List Nd) (G : GL T) (hl : T.length ≤ 40) : loopF (fun go (x : Int × List Nd) => f3_l3 (T, T) go x.1 x.2) fuelN ((0 : Int), T) = some (Sum.inr T) := by
 refine loop_for (B := fun go (x : Int × List Nd) => f3_l3 (T, T) go x.1 x.2) (fun k => ((k : Int), T)) T.length (Sum.inr T) ?_ ?_ (by omega)
 ·intro k hk go
  have g : 0 ≤ (k : Int) ∧ (k : Int) < (T.length : Int) := by omega
  have hg := G k hk
  have ev := valueP T (k : Int) G
  rw [dT g] at ev
  have evl : vl T (k : Int) = nd T k := vl_nat T k hk
  rw [evl] at ev
  have eN : rd (Ty.z (.p (.int .i64) (.p (.int .i64) (.p (.int .i64) (.p (.int .i64) (.p (.sl (.int .i64)) (.sl (.int .i64)))))))) T (k : Int) = gn T k := rfl
  have ea : f10 ((nd T k).1, (nd T k).2) ((gn T k).2.2.2.2.1, (gn T k).2.2.2.2.2) = some true := same_go (nd T k) hg
  unfold f3_l3
  simp only
  rw [dT (by omega), cond_true, atP T k hk hg, bindF_some]
  simp only
  rw [ev, bindF_some, guardF_pos g, eN]
  simp only
  rw [Bool.not_true, cond_false, cond_false, nF rfl, cond_false, nF rfl, cond_false, nF rfl, cond_false, nF rfl, cond_false, ea, bindF_some, Bool.not_true, cond_false, bindF_some, Bool.not_true, cond_false, wsucc k (by omega)]
 ·intro go
  unfold f3_l3
  simp only
  rw [dF (by omega), cond_false]
theorem plainPlays (l : List Nd) (hs : ∀ i, i < l.length → InR (gn l i).2.2.2.1 ∧ inI (gn l i).2.2.2.2.2) : f3 l = some true := by
 unfold f3
 rw [show f4 = some true by kernel_rfl, bindF_some, Bool.not_true, cond_false]
 obtain ⟨b, eb, hb⟩ := small_go l
 rw [eb, bindF_some]
 cases b
 ·rfl
 ·obtain ⟨T, eT, G, hT⟩ := played_go l (hb rfl) hs
  rw [Bool.not_true, cond_false, eT, bindF_some, sumF_inr]
  have ej : f3_j2 (T, T) = some (Sum.inl T) := by
   unfold f3_j2
   rw [show f7 T = some ((T.length : Int), T) from rfl, bindF_some, nF rfl]; rfl
  rw [ej, bindF_some, sumF_inl, nodes_go T G hT, bindF_some, sumF_inr]
  have ea := atP_none T (T.length : Int) (by omega)
  rw [ea]; rfl
theorem rd_ty {l : List Nd} (w : Ty.wf (.sl (.p (.int .i64) (.p (.int .i64) (.p (.int .i64) (.p (.int .i64) (.p (.sl (.int .i64)) (.sl (.int .i64)))))))) l) : ∀ i, i < l.length → InR (gn l i).2.2.2.1 ∧ inI (gn l i).2.2.2.2.2 := by
 refine fun i hi => ?_
 ·have e : gn l i = l[i] := rd_nat _ _ _ hi
  have h := w.2 _ (List.getElem_mem hi)
  rw [← e] at h
  exact ⟨PlG.range_i64 h.2.2.2.1, PlG.row_i64 h.2.2.2.2.2⟩
theorem lawPlays (l : List Nd) (w : Ty.wf (.sl (.p (.int .i64) (.p (.int .i64) (.p (.int .i64) (.p (.int .i64) (.p (.sl (.int .i64)) (.sl (.int .i64)))))))) l) : f3 l = some true := plainPlays l (rd_ty w)
end Go.Proofs.Cv

