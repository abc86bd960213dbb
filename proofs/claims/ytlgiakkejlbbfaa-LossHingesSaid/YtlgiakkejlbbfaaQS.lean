
import Derived.Test.YtlgiakkejlbbfaaQT
import Derived.Test.YtlgiakkejlbbfaaQC
set_option linter.unusedVariables false
set_option linter.unusedSimpArgs false
set_option maxRecDepth 100000
namespace Go.Proofs.PlS
open Go.AM Go.Proofs.PlB Go.Proofs.PlW Go.Proofs.PlT
def tabL {α : Type} (n : Nat) (g : Nat → α) : List α := (List.range n).map g
theorem tab_len {α : Type} (n : Nat) (g : Nat → α) : (tabL n g).length = n := by simp [tabL]
theorem tab_get {α : Type} (n : Nat) (g : Nat → α) (i : Nat) (h : i < (tabL n g).length) : (tabL n g)[i] = g i := by simp [tabL]
theorem tab_ext {α : Type} (n : Nat) (g f : Nat → α) (h : ∀ i, i < n → g i = f i) : tabL n g = tabL n f := by
 unfold tabL; exact List.map_congr_left (fun i hi => h i (List.mem_range.1 hi))
theorem tab_set {α : Type} (n : Nat) (g : Nat → α) (j : Nat) (v : α) : (tabL n g).set j v = tabL n (fun i => if i = j then v else g i) := by
 apply List.ext_getElem
 ·simp [tabL]
 ·intro i h1 h2
  rw [List.getElem_set, tab_get _ _ _ h2]
  by_cases h : j = i
  ·rw [if_pos h, if_pos h.symm]
  ·rw [if_neg h, if_neg (Ne.symm h), tab_get]
theorem tab_rep {α : Type} (n : Nat) (v : α) : List.replicate n v = tabL n (fun _ => v) := by
 apply List.ext_getElem
 ·simp [tabL]
 ·intro i h1 h2; simp [tabL]
theorem rd_tab {α : Type} (z : α) (n : Nat) (g : Nat → α) (i : Nat) (h : i < n) : rd z (tabL n g) (i : Int) = g i := by
 rw [rd_nat _ _ _ (by rw [tab_len]; exact h), tab_get]
def prodL : List Int → Int
 | [] => 1
 | x :: r => x * prodL r
theorem pgo_prod : ∀ (d : List Int) (n : Int), 1 ≤ n → 0 < pgo n d → pgo n d = n * prodL d ∧ ∀ x ∈ d, 1 ≤ x ∧ x ≤ 4096
 | [], n, h, hp => ⟨by simp [pgo, prodL], fun x hx => by simp at hx⟩
 | x :: r, n, h, hp => by
  simp only [pgo] at hp ⊢
  by_cases hb : x < 1 ∨ x > 4096 ∨ n * x > 4096
  ·rw [if_pos hb] at hp; exact absurd hp (by decide)
  ·rw [if_neg hb] at hp ⊢
   have h1 : 1 * 1 ≤ n * x := Int.mul_le_mul h (by omega) (by omega) (by omega)
   obtain ⟨e, m⟩ := pgo_prod r (n * x) (by omega) hp
   refine ⟨by rw [e, prodL, Int.mul_assoc], fun y hy => ?_⟩
   rcases List.mem_cons.1 hy with rfl | hy
   ·omega
   ·exact m y hy
theorem prd_prod {d : List Int} (h : 0 < prd d) : prd d = prodL d ∧ (∀ x ∈ d, 1 ≤ x ∧ x ≤ 4096) ∧ d.length ≤ 4 := by
 have hl := prd_len h
 have e : prd d = pgo 1 d := by unfold prd; rw [if_neg (by omega)]
 rw [e] at h ⊢
 obtain ⟨a, b⟩ := pgo_prod d 1 (by omega) h
 exact ⟨by rw [a, Int.one_mul], b, hl⟩
theorem getD_at (d : List Int) (i : Nat) (h : i < d.length) : d.getD i 0 = d[i] := by simp [List.getD, h]
def side (d : List Int) (k : Nat) : Int := if k < d.length then d.getD (d.length - 1 - k) 0 else 1
theorem side_rd (d : List Int) (k : Nat) (h : k < d.length) : rd (0 : Int) d ((d.length - 1 - k : Nat) : Int) = side d k := by
 unfold side
 rw [if_pos h, rd_nat _ _ _ (by omega), getD_at _ _ (by omega)]
theorem side_pos {d : List Int} (h : 0 < prd d) (k : Nat) : 1 ≤ side d k ∧ side d k ≤ 4096 := by
 obtain ⟨_, b, _⟩ := prd_prod h
 unfold side
 split
 ·rw [getD_at _ _ (by omega)]
  exact b _ (List.getElem_mem _)
 ·omega
def strd (d : List Int) (k : Nat) : Int := prodL (d.drop (d.length - k))
theorem strd_zero (d : List Int) : strd d 0 = 1 := by unfold strd; simp [prodL]
theorem strd_all (d : List Int) : strd d d.length = prodL d := by unfold strd; simp
theorem strd_succ (d : List Int) (k : Nat) (h : k < d.length) : strd d (k + 1) = side d k * strd d k := by
 unfold strd side
 rw [if_pos h, getD_at _ _ (by omega)]
 rw [List.drop_eq_getElem_cons (show d.length - (k + 1) < d.length by omega), prodL, show d.length - (k + 1) + 1 = d.length - k by omega]
 congr 2
 omega
theorem strd_pos {d : List Int} (h : 0 < prd d) : ∀ k, k ≤ d.length → 1 ≤ strd d k
 | 0, _ => by rw [strd_zero]; omega
 | k + 1, hk => by
  rw [strd_succ d k hk]
  have := strd_pos h k (by omega)
  have hs := (side_pos h k).1
  have : 1 * 1 ≤ side d k * strd d k := Int.mul_le_mul hs this (by omega) (by omega)
  omega
theorem strd_mono {d : List Int} (h : 0 < prd d) : ∀ n k, k + n = d.length → strd d k ≤ prodL d
 | 0, k, hk => by rw [show k = d.length by omega, strd_all]; omega
 | n + 1, k, hk => by
  have := strd_mono h n (k + 1) (by omega)
  rw [strd_succ d k (by omega)] at this
  have hs := (side_pos h k).1
  have hp := strd_pos h k (by omega)
  have : 1 * strd d k ≤ side d k * strd d k := Int.mul_le_mul_of_nonneg_right hs (by omega)
  omega
theorem strd_le {d : List Int} (h : 0 < prd d) (k : Nat) (hk : k ≤ d.length) : strd d k ≤ prd d := by
 rw [(prd_prod h).1]; exact strd_mono h (d.length - k) k (by omega)
def strL (d : List Int) : List Int := tabL d.length (fun i => strd d (d.length - 1 - i))
theorem strides (d : List Int) (h : 0 < prd d) : f67 d = some (strL d) := by
 obtain ⟨_, _, hl⟩ := prd_prod h
 have hr := prd_range d
 unfold f67
 rw [shapeGood_ok, show decide (prd d > 0) = true by simpa using h]
 simp only [bindF_some, Bool.not_true, cond_false]
 rw [guardF_pos (by omega)]
 have H : ∀ x : Int × Int × List Int, (∃ k : Nat, k ≤ d.length ∧ x = (strd d k, (d.length : Int) - 1 - k, tabL d.length (fun i => if d.length - 1 - i < k then strd d (d.length - 1 - i) else 0))) →
   (∃ z, (∀ go, f67_l1 d go x.1 x.2.1 x.2.2 = some z) ∧ z = strL d) ∨
   (∃ y : Int × Int × List Int, (∀ go, f67_l1 d go x.1 x.2.1 x.2.2 = go y) ∧ (∃ k : Nat, k ≤ d.length ∧ y = (strd d k, (d.length : Int) - 1 - k, tabL d.length (fun i => if d.length - 1 - i < k then strd d (d.length - 1 - i) else 0))) ∧ (y.2.1 + 1).toNat < (x.2.1 + 1).toNat) := by
  rintro _ ⟨k, hk, rfl⟩
  by_cases hlt : k < d.length
  ·right
   refine ⟨(strd d (k + 1), (d.length : Int) - 1 - ((k + 1 : Nat) : Int), tabL d.length (fun i => if d.length - 1 - i < k + 1 then strd d (d.length - 1 - i) else 0)), fun go => ?_, ⟨k + 1, hlt, rfl⟩, by simp only; omega⟩
   unfold f67_l1
   simp only [tab_len]
   rw [show decide ((d.length : Int) - 1 - (k : Int) ≥ 0) = true by simp; omega]
   simp only [cond_true]
   rw [guardF_pos (by omega), guardF_pos (by omega)]
   rw [show (d.length : Int) - 1 - (k : Int) = ((d.length - 1 - k : Nat) : Int) by omega, side_rd d k hlt, Int.toNat_natCast, tab_set]
   have hs := strd_succ d k hlt
   have hb1 := strd_pos h (k + 1) hlt
   have hb2 := strd_le h (k + 1) hlt
   rw [Int.mul_comm, ← hs, wrap_i64 (n := strd d (k + 1)) (by omega) (by omega), wrap_i64 (by omega) (by omega)]
   congr 1
   refine Prod.ext rfl (Prod.ext (by simp only; omega) (tab_ext _ _ _ (fun i hi => ?_)))
   by_cases he : i = d.length - 1 - k
   ·rw [if_pos he, if_pos (by omega), show d.length - 1 - i = k by omega]
   ·rw [if_neg he]
    by_cases h2 : d.length - 1 - i < k
    ·rw [if_pos h2, if_pos (by omega)]
    ·rw [if_neg h2, if_neg (by omega)]
  ·left
   have : k = d.length := by omega
   subst this
   refine ⟨_, fun go => ?_, rfl⟩
   unfold f67_l1
   simp only
   rw [show decide ((d.length : Int) - 1 - (d.length : Int) ≥ 0) = false by simp; omega]
   simp only [cond_false, Option.some.injEq]
   exact tab_ext _ _ _ (fun i hi => by rw [if_pos (by omega)])
 have e0 : ((1 : Int), IntKind.i64.wrap ((d.length : Int) - 1), List.replicate (Int.toNat (d.length : Int)) (0 : Int)) = (strd d 0, (d.length : Int) - 1 - ((0 : Nat) : Int), tabL d.length (fun i => if d.length - 1 - i < 0 then strd d (d.length - 1 - i) else 0)) := by
  rw [strd_zero, wrap_i64 (by omega) (by omega), Int.toNat_natCast, tab_rep]
  refine Prod.ext rfl (Prod.ext (by simp) (tab_ext _ _ _ (fun i hi => by rw [if_neg (by omega)])))
 rw [e0]
 obtain ⟨z, e, rfl⟩ := loop_fuel (B := fun go (x : Int × Int × List Int) => f67_l1 d go x.1 x.2.1 x.2.2) _ (fun x => (x.2.1 + 1).toNat) _ H _ ⟨0, Nat.zero_le _, rfl⟩ (by simp only; omega)
 rw [e]
 rfl
theorem side_ok (d : List Int) (k : Nat) (hl : d.length ≤ 4096) (hk : k ≤ 4096) : f94 d (k : Int) = some (side d k) := by
 unfold f94
 by_cases h : k < d.length
 ·rw [show decide ((k : Int) ≥ (d.length : Int)) = false by simp; omega]
  simp only [cond_false]
  rw [wrap_i64 (n := (d.length : Int) - 1) (by omega) (by omega), wrap_i64 (by omega) (by omega), guardF_pos (by omega), show (d.length : Int) - 1 - (k : Int) = ((d.length - 1 - k : Nat) : Int) by omega, side_rd d k h]
 ·rw [show decide ((k : Int) ≥ (d.length : Int)) = true by simp; omega]
  simp only [cond_true]
  unfold side
  rw [if_neg h]
structure Joined (a b d : List Int) : Prop where
 pa : 0 < prd a
 pb : 0 < prd b
 pd : 0 < prd d
 len : d.length = max a.length b.length
 le : ∀ k, k < d.length → side d k = max (side a k) (side b k)
 ok : ∀ k, k < d.length → side a k = side b k ∨ side a k = 1 ∨ side b k = 1
end Go.Proofs.PlS
