
import Derived.Test.YtlgiakkejlbbfaaQS
set_option linter.unusedVariables false
set_option linter.unusedSimpArgs false
set_option maxRecDepth 100000
namespace Go.Proofs.PlS
open Go.AM Go.Proofs.PlB Go.Proofs.PlW Go.Proofs.PlT
def rst (big : List Int) (v : Int) : Nat → Int
 | 0 => v
 | k + 1 => rst big v k / side big k
def accS (d big : List Int) (v : Int) : Nat → Int
 | 0 => 0
 | k + 1 => accS d big v k + (if side d k > 1 then rst big v k % side big k * strd d k else 0)
def spX (d big : List Int) (v : Nat) : Int := accS d big v d.length
structure Fits (d big : List Int) : Prop where
 pd : 0 < prd d
 pb : 0 < prd big
 len : d.length ≤ big.length
 eq : ∀ k, k < d.length → 1 < side d k → side big k = side d k
theorem rst_range {big : List Int} (h : 0 < prd big) (v : Int) (v0 : 0 ≤ v) (v1 : v ≤ 4096) : ∀ k, 0 ≤ rst big v k ∧ rst big v k ≤ 4096
 | 0 => ⟨v0, v1⟩
 | k + 1 => by
  obtain ⟨a, b⟩ := rst_range h v v0 v1 k
  have hs := (side_pos h k).1
  simp only [rst]
  exact ⟨Int.ediv_nonneg a (by omega), Int.le_trans (Int.ediv_le_self _ a) b⟩
theorem acc_range {d big : List Int} (h : Fits d big) (v : Int) (v0 : 0 ≤ v) (v1 : v ≤ 4096) : ∀ k, k ≤ d.length → 0 ≤ accS d big v k ∧ accS d big v k < strd d k
 | 0, _ => by simp only [accS, strd_zero]; omega
 | k + 1, hk => by
  obtain ⟨a, b⟩ := acc_range h v v0 v1 k (by omega)
  have hp := strd_pos h.pd k (by omega)
  have hs := (side_pos h.pd k).1
  rw [strd_succ d k hk]
  simp only [accS]
  by_cases h1 : side d k > 1
  ·rw [if_pos h1, h.eq k hk h1]
   have m0 := Int.emod_nonneg (rst big v k) (show side d k ≠ 0 by omega)
   have m1 := Int.emod_lt_of_pos (rst big v k) (show 0 < side d k by omega)
   have p0 : 0 ≤ rst big v k % side d k * strd d k := Int.mul_nonneg m0 (by omega)
   have p1 : rst big v k % side d k * strd d k ≤ (side d k - 1) * strd d k := Int.mul_le_mul_of_nonneg_right (by omega) (by omega)
   rw [Int.sub_mul, Int.one_mul] at p1
   omega
  ·rw [if_neg h1, show side d k = 1 by omega]
   omega
theorem spX_range {d big : List Int} (h : Fits d big) (v : Nat) (hv : v ≤ 4096) : 0 ≤ spX d big v ∧ spX d big v < prd d := by
 have := acc_range h (v : Int) (by omega) (by omega) d.length (Nat.le_refl _)
 rw [strd_all, ← (prd_prod h.pd).1] at this
 exact this
theorem inner {d big : List Int} (h : Fits d big) (l : List Int) (v : Nat) (hv : v < l.length) (hv2 : v ≤ 4096) (h0 : l.set v 0 = l) :
  loopF (fun go (x : Int × Int × List Int) => f76_l12 d big (strL d) v go x.1 x.2.1 x.2.2) fuelN ((v : Int), IntKind.i64.wrap ((big.length : Int) - 1), l) = some (l.set v (spX d big v)) := by
 have hd4 := (prd_prod h.pd).2.2
 have hb4 := (prd_prod h.pb).2.2
 have hle := h.len
 have hr := prd_range d
 have H : ∀ x : Int × Int × List Int, (∃ k : Nat, k ≤ d.length ∧ x = (rst big v k, (big.length : Int) - 1 - k, l.set v (accS d big v k))) →
   (∃ z, (∀ go, f76_l12 d big (strL d) v go x.1 x.2.1 x.2.2 = some z) ∧ z = l.set v (spX d big v)) ∨
   (∃ y : Int × Int × List Int, (∀ go, f76_l12 d big (strL d) v go x.1 x.2.1 x.2.2 = go y) ∧ (∃ k : Nat, k ≤ d.length ∧ y = (rst big v k, (big.length : Int) - 1 - k, l.set v (accS d big v k))) ∧ (y.2.1 + 1).toNat < (x.2.1 + 1).toNat) := by
  rintro _ ⟨k, hk, rfl⟩
  unfold f76_l12
  simp only
  have hw : IntKind.i64.wrap ((big.length : Int) - (d.length : Int)) = (big.length : Int) - (d.length : Int) := wrap_i64 (by omega) (by omega)
  rw [hw]
  by_cases hlt : k < d.length
  ·right
   refine ⟨(rst big v (k + 1), (big.length : Int) - 1 - ((k + 1 : Nat) : Int), l.set v (accS d big v (k + 1))), fun go => ?_, ⟨k + 1, hlt, rfl⟩, by simp only; omega⟩
   rw [show decide ((big.length : Int) - 1 - (k : Int) ≥ (big.length : Int) - (d.length : Int)) = true by simp; omega]
   simp only [cond_true]
   have ib : (big.length : Int) - 1 - (k : Int) = ((big.length - 1 - k : Nat) : Int) := by omega
   have id : IntKind.i64.wrap (((big.length - 1 - k : Nat) : Int) - ((big.length : Int) - (d.length : Int))) = ((d.length - 1 - k : Nat) : Int) := by
    rw [wrap_i64 (by omega) (by omega)]; omega
   obtain ⟨r0, r1⟩ := rst_range h.pb (v : Int) (by omega) (by omega) k
   obtain ⟨a0, a1⟩ := acc_range h (v : Int) (by omega) (by omega) k (by omega)
   obtain ⟨b0, b1⟩ := acc_range h (v : Int) (by omega) (by omega) (k + 1) hlt
   have sl := strd_le h.pd k (by omega)
   have sl1 := strd_le h.pd (k + 1) hlt
   have sb := side_pos h.pb k
   have hj : f76_j13 d big (strL d) v (rst big v k) ((big.length - 1 - k : Nat) : Int) (l.set v (accS d big v k)) = some (l.set v (accS d big v (k + 1))) := by
    unfold f76_j13
    rw [hw, id, guardF_pos (by omega), side_rd d k hlt]
    by_cases h1 : side d k > 1
    ·rw [show decide (side d k > 1) = true by simpa using h1]
     simp only [cond_true, List.length_set]
     rw [side_rd big k (by omega), guardF_pos (by omega), guardF_pos (by omega), guardF_pos (by omega), guardF_pos (by unfold strL; rw [tab_len]; omega), guardF_pos (by omega)]
     rw [Int.toNat_natCast, rd_nat _ _ _ (by simpa using hv), List.getElem_set_self, List.set_set]
     unfold strL
     rw [rd_tab _ _ _ _ (by omega), show d.length - 1 - (d.length - 1 - k) = k by omega, Int.tmod_eq_emod_of_nonneg r0]
     have e : accS d big v (k + 1) = accS d big v k + rst big v k % side big k * strd d k := by simp only [accS]; rw [if_pos h1]
     rw [e] at b0 b1 ⊢
     have m0 := Int.emod_nonneg (rst big v k) (show side big k ≠ 0 by omega)
     have sp := strd_pos h.pd k (by omega)
     have p0 : 0 ≤ rst big v k % side big k * strd d k := Int.mul_nonneg m0 (by omega)
     generalize rst big v k % side big k * strd d k = P at *
     rw [wrap_i64 (n := P) (by omega) (by omega), wrap_i64 (by omega) (by omega)]
    ·rw [show decide (side d k > 1) = false by simpa using h1]
     simp only [cond_false, accS]
     rw [if_neg h1, Int.add_zero]
   rw [ib, hj]
   simp only [bindF_some]
   rw [guardF_pos (by omega), side_rd big k (by omega), guardF_pos (by omega), Int.tdiv_eq_ediv_of_nonneg r0]
   have q0 := Int.ediv_nonneg r0 (show 0 ≤ side big k by omega)
   have q1 := Int.ediv_le_self (side big k) r0
   rw [wrap_i64 (n := rst big v k / side big k) (by omega) (by omega), wrap_i64 (by omega) (by omega)]
   congr 1
   exact Prod.ext rfl (Prod.ext (by simp only; omega) rfl)
  ·left
   have : k = d.length := by omega
   subst this
   refine ⟨_, fun go => ?_, rfl⟩
   rw [show decide ((big.length : Int) - 1 - (d.length : Int) ≥ (big.length : Int) - (d.length : Int)) = false by simp; omega]
   rfl
 have e0 : ((v : Int), IntKind.i64.wrap ((big.length : Int) - 1), l) = (rst big v 0, (big.length : Int) - 1 - ((0 : Nat) : Int), l.set v (accS d big v 0)) := by
  rw [wrap_i64 (by omega) (by omega)]
  refine Prod.ext rfl (Prod.ext (by simp) ?_)
  simp only [accS]
  exact h0.symm
 rw [e0]
 obtain ⟨z, e, rfl⟩ := loop_fuel (B := fun go (x : Int × Int × List Int) => f76_l12 d big (strL d) v go x.1 x.2.1 x.2.2) _ (fun x => (x.2.1 + 1).toNat) _ H _ ⟨0, Nat.zero_le _, rfl⟩ (by simp only; omega)
 exact e
theorem spread_ok {d big : List Int} (h : Fits d big) : f76 d big = some (tabL (prd big).toNat (spX d big)) := by
 have hb := prd_range big
 unfold f76
 rw [strides d h.pd, PlB.size_ok]
 simp only [bindF_some]
 rw [guardF_pos (by omega)]
 obtain ⟨N, hN⟩ : ∃ N : Nat, prd big = (N : Int) := ⟨(prd big).toNat, by omega⟩
 rw [hN, Int.toNat_natCast]
 have H : ∀ x : Int × List Int, (∃ k : Nat, k ≤ N ∧ x = ((k : Int), tabL N (fun i => if i < k then spX d big i else 0))) →
   (∃ z, (∀ go, f76_l9 d big (strL d) (N : Int) go x.1 x.2 = some z) ∧ z = tabL N (spX d big)) ∨
   (∃ y : Int × List Int, (∀ go, f76_l9 d big (strL d) (N : Int) go x.1 x.2 = go y) ∧ (∃ k : Nat, k ≤ N ∧ y = ((k : Int), tabL N (fun i => if i < k then spX d big i else 0))) ∧ ((N : Int) - y.1).toNat < ((N : Int) - x.1).toNat) := by
  rintro _ ⟨k, hk, rfl⟩
  unfold f76_l9
  simp only [Int.toNat_natCast, List.length_replicate]
  by_cases hlt : k < N
  ·right
   refine ⟨(((k + 1 : Nat) : Int), tabL N (fun i => if i < k + 1 then spX d big i else 0)), fun go => ?_, ⟨k + 1, hlt, rfl⟩, by simp only; omega⟩
   rw [show decide ((k : Int) < (N : Int)) = true by simpa using hlt]
   simp only [cond_true]
   rw [inner h _ k (by rw [tab_len]; exact hlt) (by omega) (by
    rw [tab_set]
    refine tab_ext _ _ _ (fun i hi => ?_)
    by_cases hik : i = k
    ·rw [if_pos hik, if_neg (by omega)]
    ·rw [if_neg hik])]
   simp only [bindF_some]
   rw [wrap_i64 (by omega) (by omega), tab_set]
   congr 1
   refine Prod.ext rfl (tab_ext _ _ _ (fun i hi => ?_))
   by_cases hik : i = k
   ·rw [if_pos hik, if_pos (by omega), hik]
   ·rw [if_neg hik]
    by_cases h2 : i < k
    ·rw [if_pos h2, if_pos (by omega)]
    ·rw [if_neg h2, if_neg (by omega)]
  ·left
   have : k = N := by omega
   subst this
   refine ⟨_, fun go => ?_, rfl⟩
   rw [show decide ((k : Int) < (k : Int)) = false by simp]
   simp only [cond_false, Option.some.injEq]
   exact tab_ext _ _ _ (fun i hi => by rw [if_pos hi])
 have e0 : ((0 : Int), List.replicate N (0 : Int)) = (((0 : Nat) : Int), tabL N (fun i => if i < 0 then spX d big i else 0)) := by
  rw [tab_rep]
  exact Prod.ext rfl (tab_ext _ _ _ (fun i hi => by rw [if_neg (by omega)]))
 rw [e0]
 obtain ⟨z, e, rfl⟩ := loop_fuel (B := fun go (x : Int × List Int) => f76_l9 d big (strL d) (N : Int) go x.1 x.2) _ (fun x => ((N : Int) - x.1).toNat) _ H _ ⟨0, Nat.zero_le _, rfl⟩ (by simp only; omega)
 rw [e]
 rfl
theorem Joined.fa {a b d : List Int} (h : Joined a b d) : Fits a d := ⟨h.pa, h.pd, by have := h.len; omega, fun k hk h1 => by
 have hl := h.len
 have e := h.le k (by omega)
 have o := h.ok k (by omega)
 have pb := (side_pos h.pb k).1
 omega⟩
theorem Joined.fb {a b d : List Int} (h : Joined a b d) : Fits b d := ⟨h.pb, h.pd, by have := h.len; omega, fun k hk h1 => by
 have hl := h.len
 have e := h.le k (by omega)
 have o := h.ok k (by omega)
 have pa := (side_pos h.pa k).1
 omega⟩
def addV (a b : Int) : Int := sat (a + b)
theorem addF_ok (a b : Int) (a0 : -9223372036854775808 ≤ a) (a1 : a < 9223372036854775808) (b0 : -9223372036854775808 ≤ b) (b1 : b < 9223372036854775808) : f56 a b = some (addV a b) := by
 unfold f56 addV sat
 have hw : IntKind.i64.wrap (a + b) = if a + b ≥ 9223372036854775808 then a + b - 18446744073709551616 else if a + b < -9223372036854775808 then a + b + 18446744073709551616 else a + b := by
  rw [wi]
  split <;> split <;> (try split) <;> omega
 have hj : f56_j1 a b = some (if (a < 0 ↔ b < 0) ∧ ¬ (IntKind.i64.wrap (a + b) < 0 ↔ a < 0) then Sum.inl () else Sum.inr ()) := by
  unfold f56_j1
  by_cases ha : a < 0 <;> by_cases hb : b < 0
  ·rw [show (!(decide (a < 0) == decide (b < 0))) = false by simp [ha, hb]]
   by_cases hc : IntKind.i64.wrap (a + b) < 0
   ·rw [show (decide (IntKind.i64.wrap (a + b) < 0) == decide (a < 0)) = true by simp [ha, hc], if_neg (by simp [ha, hc])]; rfl
   ·rw [show (decide (IntKind.i64.wrap (a + b) < 0) == decide (a < 0)) = false by simp [ha, hc], if_pos (by simp [ha, hb, hc])]; rfl
  ·rw [show (!(decide (a < 0) == decide (b < 0))) = true by simp [ha, hb], if_neg (by simp [ha, hb])]; rfl
  ·rw [show (!(decide (a < 0) == decide (b < 0))) = true by simp [ha, hb], if_neg (by simp [ha, hb])]; rfl
  ·rw [show (!(decide (a < 0) == decide (b < 0))) = false by simp [ha, hb]]
   by_cases hc : IntKind.i64.wrap (a + b) < 0
   ·rw [show (decide (IntKind.i64.wrap (a + b) < 0) == decide (a < 0)) = false by simp [ha, hc], if_pos (by simp [ha, hb, hc])]; rfl
   ·rw [show (decide (IntKind.i64.wrap (a + b) < 0) == decide (a < 0)) = true by simp [ha, hc], if_neg (by simp [ha, hc])]; rfl
 rw [hj]
 simp only [bindF_some]
 by_cases hc : (a < 0 ↔ b < 0) ∧ ¬ (IntKind.i64.wrap (a + b) < 0 ↔ a < 0)
 ·rw [if_pos hc]
  simp only [sumF_inl]
  rw [hw] at hc
  by_cases ha : a < 0
  ·rw [show decide (a < 0) = true by simpa using ha]
   simp only [cond_true, Option.some.injEq]
   split at hc <;> (try split at hc) <;> omega
  ·rw [show decide (a < 0) = false by simpa using ha]
   simp only [cond_false, Option.some.injEq]
   split at hc <;> (try split at hc) <;> omega
 ·rw [if_neg hc]
  simp only [sumF_inr, Option.some.injEq]
  rw [hw] at hc ⊢
  split at hc <;> (try split at hc) <;> omega
theorem inI_get {l : List Int} (h : inI l) (i : Nat) (hi : i < l.length) : -9223372036854775808 ≤ rd (0 : Int) l (i : Int) ∧ rd (0 : Int) l (i : Int) < 9223372036854775808 := by
 rw [rd_nat _ _ _ hi]
 exact h _ (List.getElem_mem hi)
end Go.Proofs.PlS
