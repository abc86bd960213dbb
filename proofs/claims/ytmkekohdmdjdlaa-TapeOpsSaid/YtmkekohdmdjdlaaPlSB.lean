/- Plain laws, part S: tensors spread; two tensors, number by number. -/
import Derived.Test.YtmkekohdmdjdlaaPlS
set_option linter.unusedVariables false
set_option linter.unusedSimpArgs false
set_option maxRecDepth 100000
namespace Go.Proofs.PlS
open Go.AM Go.Proofs.PlB Go.Proofs.PlW Go.Proofs.PlT

def rst (big : List Int) (v : Int) : Nat → Int
  | 0 => v
  | k + 1 => rst big v k / side big k
def accS (d big : List Int) (v : Int) : Nat → Int
  | 0 => 0
  | k + 1 => accS d big v k + (if side d k > 1 then rst big v k % side big k * strd d k else 0)
/-- Where a number of the smaller tensor is, of a place in the greater one. -/
def spX (d big : List Int) (v : Nat) : Int := accS d big v d.length

/-- What a shape must be to be spread. -/
structure Fits (d big : List Int) : Prop where
  pd : 0 < prd d
  pb : 0 < prd big
  len : d.length ≤ big.length
  eq : ∀ k, k < d.length → 1 < side d k → side big k = side d k

theorem rst_range {big : List Int} (h : 0 < prd big) (v : Int) (v0 : 0 ≤ v) (v1 : v ≤ 4096) : ∀ k, 0 ≤ rst big v k ∧ rst big v k ≤ 4096
  | 0 => ⟨v0, v1⟩
  | k + 1 => by
    obtain ⟨a, b⟩ := rst_range h v v0 v1 k
    have hs := (side_pos h k).1
    simp only [rst]
    exact ⟨Int.ediv_nonneg a (by omega), Int.le_trans (Int.ediv_le_self _ a) b⟩
theorem acc_range {d big : List Int} (h : Fits d big) (v : Int) (v0 : 0 ≤ v) (v1 : v ≤ 4096) : ∀ k, k ≤ d.length → 0 ≤ accS d big v k ∧ accS d big v k < strd d k
  | 0, _ => by simp only [accS, strd_zero]; omega
  | k + 1, hk => by
    obtain ⟨a, b⟩ := acc_range h v v0 v1 k (by omega)
    have hp := strd_pos h.pd k (by omega)
    have hs := (side_pos h.pd k).1
    rw [strd_succ d k hk]
    simp only [accS]
    by_cases h1 : side d k > 1
    · rw [if_pos h1, h.eq k hk h1]
      have m0 := Int.emod_nonneg (rst big v k) (show side d k ≠ 0 by omega)
      have m1 := Int.emod_lt_of_pos (rst big v k) (show 0 < side d k by omega)
      have p0 : 0 ≤ rst big v k % side d k * strd d k := Int.mul_nonneg m0 (by omega)
      have p1 : rst big v k % side d k * strd d k ≤ (side d k - 1) * strd d k := Int.mul_le_mul_of_nonneg_right (by omega) (by omega)
      rw [Int.sub_mul, Int.one_mul] at p1
      omega
    · rw [if_neg h1, show side d k = 1 by omega]
      omega
theorem spX_range {d big : List Int} (h : Fits d big) (v : Nat) (hv : v ≤ 4096) : 0 ≤ spX d big v ∧ spX d big v < prd d := by
  have := acc_range h (v : Int) (by omega) (by omega) d.length (Nat.le_refl _)
  rw [strd_all, ← (prd_prod h.pd).1] at this
  exact this

theorem inner {d big : List Int} (h : Fits d big) (l : List Int) (v : Nat) (hv : v < l.length) (hv2 : v ≤ 4096) (h0 : l.set v 0 = l) :
    loopF (fun go (x : Int × Int × List Int) => f96_l12 d big (strL d) v go x.1 x.2.1 x.2.2) fuelN ((v : Int), IntKind.i64.wrap ((big.length : Int) - 1), l) = some (l.set v (spX d big v)) := by
  have hd4 := (prd_prod h.pd).2.2
  have hb4 := (prd_prod h.pb).2.2
  have hle := h.len
  have hr := prd_range d
  have H : ∀ x : Int × Int × List Int, (∃ k : Nat, k ≤ d.length ∧ x = (rst big v k, (big.length : Int) - 1 - k, l.set v (accS d big v k))) →
      (∃ z, (∀ go, f96_l12 d big (strL d) v go x.1 x.2.1 x.2.2 = some z) ∧ z = l.set v (spX d big v)) ∨
      (∃ y : Int × Int × List Int, (∀ go, f96_l12 d big (strL d) v go x.1 x.2.1 x.2.2 = go y) ∧ (∃ k : Nat, k ≤ d.length ∧ y = (rst big v k, (big.length : Int) - 1 - k, l.set v (accS d big v k))) ∧ (y.2.1 + 1).toNat < (x.2.1 + 1).toNat) := by
    rintro _ ⟨k, hk, rfl⟩
    unfold f96_l12
    simp only
    have hw : IntKind.i64.wrap ((big.length : Int) - (d.length : Int)) = (big.length : Int) - (d.length : Int) := wrap_i64 (by omega) (by omega)
    rw [hw]
    by_cases hlt : k < d.length
    · right
      refine ⟨(rst big v (k + 1), (big.length : Int) - 1 - ((k + 1 : Nat) : Int), l.set v (accS d big v (k + 1))), fun go => ?_, ⟨k + 1, hlt, rfl⟩, by simp only; omega⟩
      rw [show decide ((big.length : Int) - 1 - (k : Int) ≥ (big.length : Int) - (d.length : Int)) = true by simp; omega]
      simp only [cond_true]
      have ib : (big.length : Int) - 1 - (k : Int) = ((big.length - 1 - k : Nat) : Int) := by omega
      have id : IntKind.i64.wrap (((big.length - 1 - k : Nat) : Int) - ((big.length : Int) - (d.length : Int))) = ((d.length - 1 - k : Nat) : Int) := by
        rw [wrap_i64 (by omega) (by omega)]; omega
      obtain ⟨r0, r1⟩ := rst_range h.pb (v : Int) (by omega) (by omega) k
      obtain ⟨a0, a1⟩ := acc_range h (v : Int) (by omega) (by omega) k (by omega)
      obtain ⟨b0, b1⟩ := acc_range h (v : Int) (by omega) (by omega) (k + 1) hlt
      have sl := strd_le h.pd k (by omega)
      have sl1 := strd_le h.pd (k + 1) hlt
      have sb := side_pos h.pb k
      have hj : f96_j13 d big (strL d) v (rst big v k) ((big.length - 1 - k : Nat) : Int) (l.set v (accS d big v k)) = some (l.set v (accS d big v (k + 1))) := by
        unfold f96_j13
        rw [hw, id, guardF_pos (by omega), side_rd d k hlt]
        by_cases h1 : side d k > 1
        · rw [show decide (side d k > 1) = true by simpa using h1]
          simp only [cond_true, List.length_set]
          rw [side_rd big k (by omega), guardF_pos (by omega), guardF_pos (by omega), guardF_pos (by omega), guardF_pos (by unfold strL; rw [tab_len]; omega), guardF_pos (by omega)]
          rw [Int.toNat_natCast, rd_nat _ _ _ (by simpa using hv), List.getElem_set_self, List.set_set]
          unfold strL
          rw [rd_tab _ _ _ _ (by omega), show d.length - 1 - (d.length - 1 - k) = k by omega, Int.tmod_eq_emod_of_nonneg r0]
          have e : accS d big v (k + 1) = accS d big v k + rst big v k % side big k * strd d k := by simp only [accS]; rw [if_pos h1]
          rw [e] at b0 b1 ⊢
          have m0 := Int.emod_nonneg (rst big v k) (show side big k ≠ 0 by omega)
          have sp := strd_pos h.pd k (by omega)
          have p0 : 0 ≤ rst big v k % side big k * strd d k := Int.mul_nonneg m0 (by omega)
          generalize rst big v k % side big k * strd d k = P at *
          rw [wrap_i64 (n := P) (by omega) (by omega), wrap_i64 (by omega) (by omega)]
        · rw [show decide (side d k > 1) = false by simpa using h1]
          simp only [cond_false, accS]
          rw [if_neg h1, Int.add_zero]
      rw [ib, hj]
      simp only [bindF_some]
      rw [guardF_pos (by omega), side_rd big k (by omega), guardF_pos (by omega), Int.tdiv_eq_ediv_of_nonneg r0]
      have q0 := Int.ediv_nonneg r0 (show 0 ≤ side big k by omega)
      have q1 := Int.ediv_le_self (side big k) r0
      rw [wrap_i64 (n := rst big v k / side big k) (by omega) (by omega), wrap_i64 (by omega) (by omega)]
      congr 1
      exact Prod.ext rfl (Prod.ext (by simp only; omega) rfl)
    · left
      have : k = d.length := by omega
      subst this
      refine ⟨_, fun go => ?_, rfl⟩
      rw [show decide ((big.length : Int) - 1 - (d.length : Int) ≥ (big.length : Int) - (d.length : Int)) = false by simp; omega]
      rfl
  have e0 : ((v : Int), IntKind.i64.wrap ((big.length : Int) - 1), l) = (rst big v 0, (big.length : Int) - 1 - ((0 : Nat) : Int), l.set v (accS d big v 0)) := by
    rw [wrap_i64 (by omega) (by omega)]
    refine Prod.ext rfl (Prod.ext (by simp) ?_)
    simp only [accS]
    exact h0.symm
  rw [e0]
  obtain ⟨z, e, rfl⟩ := loop_fuel (B := fun go (x : Int × Int × List Int) => f96_l12 d big (strL d) v go x.1 x.2.1 x.2.2) _ (fun x => (x.2.1 + 1).toNat) _ H _ ⟨0, Nat.zero_le _, rfl⟩ (by simp only; omega)
  exact e

theorem spread_ok {d big : List Int} (h : Fits d big) : f96 d big = some (tab (prd big).toNat (spX d big)) := by
  have hb := prd_range big
  unfold f96
  rw [strides d h.pd, PlB.size_ok]
  simp only [bindF_some]
  rw [guardF_pos (by omega)]
  obtain ⟨N, hN⟩ : ∃ N : Nat, prd big = (N : Int) := ⟨(prd big).toNat, by omega⟩
  rw [hN, Int.toNat_natCast]
  have H : ∀ x : Int × List Int, (∃ k : Nat, k ≤ N ∧ x = ((k : Int), tab N (fun i => if i < k then spX d big i else 0))) →
      (∃ z, (∀ go, f96_l9 d big (strL d) (N : Int) go x.1 x.2 = some z) ∧ z = tab N (spX d big)) ∨
      (∃ y : Int × List Int, (∀ go, f96_l9 d big (strL d) (N : Int) go x.1 x.2 = go y) ∧ (∃ k : Nat, k ≤ N ∧ y = ((k : Int), tab N (fun i => if i < k then spX d big i else 0))) ∧ ((N : Int) - y.1).toNat < ((N : Int) - x.1).toNat) := by
    rintro _ ⟨k, hk, rfl⟩
    unfold f96_l9
    simp only [Int.toNat_natCast, List.length_replicate]
    by_cases hlt : k < N
    · right
      refine ⟨(((k + 1 : Nat) : Int), tab N (fun i => if i < k + 1 then spX d big i else 0)), fun go => ?_, ⟨k + 1, hlt, rfl⟩, by simp only; omega⟩
      rw [show decide ((k : Int) < (N : Int)) = true by simpa using hlt]
      simp only [cond_true]
      rw [inner h _ k (by rw [tab_len]; exact hlt) (by omega) (by
        rw [tab_set]
        refine tab_ext _ _ _ (fun i hi => ?_)
        by_cases hik : i = k
        · rw [if_pos hik, if_neg (by omega)]
        · rw [if_neg hik])]
      simp only [bindF_some]
      rw [wrap_i64 (by omega) (by omega), tab_set]
      congr 1
      refine Prod.ext rfl (tab_ext _ _ _ (fun i hi => ?_))
      by_cases hik : i = k
      · rw [if_pos hik, if_pos (by omega), hik]
      · rw [if_neg hik]
        by_cases h2 : i < k
        · rw [if_pos h2, if_pos (by omega)]
        · rw [if_neg h2, if_neg (by omega)]
    · left
      have : k = N := by omega
      subst this
      refine ⟨_, fun go => ?_, rfl⟩
      rw [show decide ((k : Int) < (k : Int)) = false by simp]
      simp only [cond_false, Option.some.injEq]
      exact tab_ext _ _ _ (fun i hi => by rw [if_pos hi])
  have e0 : ((0 : Int), List.replicate N (0 : Int)) = (((0 : Nat) : Int), tab N (fun i => if i < 0 then spX d big i else 0)) := by
    rw [tab_rep]
    exact Prod.ext rfl (tab_ext _ _ _ (fun i hi => by rw [if_neg (by omega)]))
  rw [e0]
  obtain ⟨z, e, rfl⟩ := loop_fuel (B := fun go (x : Int × List Int) => f96_l9 d big (strL d) (N : Int) go x.1 x.2) _ (fun x => ((N : Int) - x.1).toNat) _ H _ ⟨0, Nat.zero_le _, rfl⟩ (by simp only; omega)
  rw [e]
  rfl

theorem Joined.fa {a b d : List Int} (h : Joined a b d) : Fits a d := ⟨h.pa, h.pd, by have := h.len; omega, fun k hk h1 => by
  have hl := h.len
  have e := h.le k (by omega)
  have o := h.ok k (by omega)
  have pb := (side_pos h.pb k).1
  omega⟩
theorem Joined.fb {a b d : List Int} (h : Joined a b d) : Fits b d := ⟨h.pb, h.pd, by have := h.len; omega, fun k hk h1 => by
  have hl := h.len
  have e := h.le k (by omega)
  have o := h.ok k (by omega)
  have pa := (side_pos h.pa k).1
  omega⟩

/-- Two numbers' sum, as a fixed number. -/
def addV (a b : Int) : Int := sat (a + b)
theorem addF_ok (a b : Int) (a0 : -9223372036854775808 ≤ a) (a1 : a < 9223372036854775808) (b0 : -9223372036854775808 ≤ b) (b1 : b < 9223372036854775808) : f64 a b = some (addV a b) := by
  unfold f64 addV sat
  have hw : IntKind.i64.wrap (a + b) = if a + b ≥ 9223372036854775808 then a + b - 18446744073709551616 else if a + b < -9223372036854775808 then a + b + 18446744073709551616 else a + b := by
    rw [wi]
    split <;> split <;> (try split) <;> omega
  have hj : f64_j1 a b = some (if (a < 0 ↔ b < 0) ∧ ¬ (IntKind.i64.wrap (a + b) < 0 ↔ a < 0) then Sum.inl () else Sum.inr ()) := by
    unfold f64_j1
    by_cases ha : a < 0 <;> by_cases hb : b < 0
    · rw [show (!(decide (a < 0) == decide (b < 0))) = false by simp [ha, hb]]
      by_cases hc : IntKind.i64.wrap (a + b) < 0
      · rw [show (decide (IntKind.i64.wrap (a + b) < 0) == decide (a < 0)) = true by simp [ha, hc], if_neg (by simp [ha, hc])]; rfl
      · rw [show (decide (IntKind.i64.wrap (a + b) < 0) == decide (a < 0)) = false by simp [ha, hc], if_pos (by simp [ha, hb, hc])]; rfl
    · rw [show (!(decide (a < 0) == decide (b < 0))) = true by simp [ha, hb], if_neg (by simp [ha, hb])]; rfl
    · rw [show (!(decide (a < 0) == decide (b < 0))) = true by simp [ha, hb], if_neg (by simp [ha, hb])]; rfl
    · rw [show (!(decide (a < 0) == decide (b < 0))) = false by simp [ha, hb]]
      by_cases hc : IntKind.i64.wrap (a + b) < 0
      · rw [show (decide (IntKind.i64.wrap (a + b) < 0) == decide (a < 0)) = false by simp [ha, hc], if_pos (by simp [ha, hb, hc])]; rfl
      · rw [show (decide (IntKind.i64.wrap (a + b) < 0) == decide (a < 0)) = true by simp [ha, hc], if_neg (by simp [ha, hc])]; rfl
  rw [hj]
  simp only [bindF_some]
  by_cases hc : (a < 0 ↔ b < 0) ∧ ¬ (IntKind.i64.wrap (a + b) < 0 ↔ a < 0)
  · rw [if_pos hc]
    simp only [sumF_inl]
    rw [hw] at hc
    by_cases ha : a < 0
    · rw [show decide (a < 0) = true by simpa using ha]
      simp only [cond_true, Option.some.injEq]
      split at hc <;> (try split at hc) <;> omega
    · rw [show decide (a < 0) = false by simpa using ha]
      simp only [cond_false, Option.some.injEq]
      split at hc <;> (try split at hc) <;> omega
  · rw [if_neg hc]
    simp only [sumF_inr, Option.some.injEq]
    rw [hw] at hc ⊢
    split at hc <;> (try split at hc) <;> omega

theorem inI_get {l : List Int} (h : inI l) (i : Nat) (hi : i < l.length) : -9223372036854775808 ≤ rd (0 : Int) l (i : Int) ∧ rd (0 : Int) l (i : Int) < 9223372036854775808 := by
  rw [rd_nat _ _ _ hi]
  exact h _ (List.getElem_mem hi)

theorem add_cases (a b : List Int × List Int) (ia : inI a.2) (ib : inI b.2) : (∃ e, e ≠ 0 ∧ f34 a b = some (e, [], [])) ∨
    (∃ d, tgood a = true ∧ tgood b = true ∧ f95 a.1 b.1 = some (0, d) ∧ Joined a.1 b.1 d ∧ f34 a b = some (0, d, tab (prd d).toNat (fun i => addV (rd (0 : Int) a.2 (spX a.1 d i)) (rd (0 : Int) b.2 (spX b.1 d i))))) := by
  unfold f34
  have hj2 : f63_64_j2 (a.1, a.2) (b.1, b.2) = some (if tgood a = true ∧ tgood b = true then Sum.inl () else Sum.inr ()) := by
    unfold f63_64_j2 f63_64_j3
    rw [show (a.1, a.2) = a from rfl, show (b.1, b.2) = b from rfl, good_ok, good_ok]
    cases tgood a <;> cases tgood b <;> rfl
  unfold f63_64
  rw [hj2]
  simp only [bindF_some]
  by_cases hg : tgood a = true ∧ tgood b = true
  · rw [if_pos hg]
    simp only [sumF_inl]
    rcases join_ok a.1 b.1 with ⟨e, he, hj⟩ | ⟨d, hj, hd⟩
    · left
      refine ⟨e, he, ?_⟩
      rw [hj]
      simp only [bindF_some]
      rw [show (e != 0) = true by simpa using he]
      rfl
    · right
      refine ⟨d, hg.1, hg.2, hj, hd, ?_⟩
      rw [hj]
      simp only [bindF_some]
      rw [show ((0 : Int) != 0) = false from rfl]
      simp only [cond_false]
      rw [new_ok, if_pos hd.pd, spread_ok hd.fa, spread_ok hd.fb]
      simp only [bindF_some]
      have hr := prd_range d
      obtain ⟨N, hN⟩ : ∃ N : Nat, prd d = (N : Int) := ⟨(prd d).toNat, by omega⟩
      rw [hN, Int.toNat_natCast]
      have ga : (a.2.length : Int) = prd a.1 := by have := hg.1; unfold tgood at this; simp at this; exact this.2
      have gb : (b.2.length : Int) = prd b.1 := by have := hg.2; unfold tgood at this; simp at this; exact this.2
      have H : ∀ x : Int × List Int, (∃ k : Nat, k ≤ N ∧ x = ((k : Int), tab N (fun i => if i < k then addV (rd (0 : Int) a.2 (spX a.1 d i)) (rd (0 : Int) b.2 (spX b.1 d i)) else 0))) →
          (∃ z, (∀ go, f63_64_l4 (a.1, a.2) (b.1, b.2) (0, d, List.replicate N 0) (tab N (spX a.1 d)) (tab N (spX b.1 d)) go x.1 x.2 = some z) ∧ z = tab N (fun i => addV (rd (0 : Int) a.2 (spX a.1 d i)) (rd (0 : Int) b.2 (spX b.1 d i)))) ∨
          (∃ y : Int × List Int, (∀ go, f63_64_l4 (a.1, a.2) (b.1, b.2) (0, d, List.replicate N 0) (tab N (spX a.1 d)) (tab N (spX b.1 d)) go x.1 x.2 = go y) ∧ (∃ k : Nat, k ≤ N ∧ y = ((k : Int), tab N (fun i => if i < k then addV (rd (0 : Int) a.2 (spX a.1 d i)) (rd (0 : Int) b.2 (spX b.1 d i)) else 0))) ∧ ((N : Int) - y.1).toNat < ((N : Int) - x.1).toNat) := by
        rintro _ ⟨k, hk, rfl⟩
        unfold f63_64_l4
        simp only [List.length_replicate, tab_len]
        by_cases hlt : k < N
        · right
          refine ⟨(((k + 1 : Nat) : Int), tab N (fun i => if i < k + 1 then addV (rd (0 : Int) a.2 (spX a.1 d i)) (rd (0 : Int) b.2 (spX b.1 d i)) else 0)), fun go => ?_, ⟨k + 1, hlt, rfl⟩, by simp only; omega⟩
          rw [show decide ((k : Int) < (N : Int)) = true by simpa using hlt]
          simp only [cond_true]
          obtain ⟨x0, x1⟩ := spX_range hd.fa k (by omega)
          obtain ⟨y0, y1⟩ := spX_range hd.fb k (by omega)
          rw [rd_tab _ _ _ _ hlt, rd_tab _ _ _ _ hlt, guardF_pos (by omega), guardF_pos (by omega), guardF_pos (by omega), guardF_pos (by omega)]
          obtain ⟨xn, hxn⟩ := Int.eq_ofNat_of_zero_le x0
          obtain ⟨yn, hyn⟩ := Int.eq_ofNat_of_zero_le y0
          have qa := inI_get ia xn (by omega)
          have qb := inI_get ib yn (by omega)
          rw [← hxn] at qa
          rw [← hyn] at qb
          rw [addF_ok _ _ qa.1 qa.2 qb.1 qb.2]
          simp only [bindF_some]
          rw [guardF_pos (by omega), wrap_i64 (by omega) (by omega), Int.toNat_natCast, tab_set]
          congr 1
          refine Prod.ext rfl (tab_ext _ _ _ (fun i hi => ?_))
          by_cases hik : i = k
          · rw [if_pos hik, if_pos (by omega), hik]
          · rw [if_neg hik]
            by_cases h2 : i < k
            · rw [if_pos h2, if_pos (by omega)]
            · rw [if_neg h2, if_neg (by omega)]
        · left
          have : k = N := by omega
          subst this
          refine ⟨_, fun go => ?_, rfl⟩
          rw [show decide ((k : Int) < (k : Int)) = false by simp]
          simp only [cond_false, Option.some.injEq]
          exact tab_ext _ _ _ (fun i hi => by rw [if_pos hi])
      have e0 : ((0 : Int), List.replicate N (0 : Int)) = (((0 : Nat) : Int), tab N (fun i => if i < 0 then addV (rd (0 : Int) a.2 (spX a.1 d i)) (rd (0 : Int) b.2 (spX b.1 d i)) else 0)) := by
        rw [tab_rep]
        exact Prod.ext rfl (tab_ext _ _ _ (fun i hi => by rw [if_neg (by omega)]))
      rw [e0]
      obtain ⟨z, e, rfl⟩ := loop_fuel (B := fun go (x : Int × List Int) => f63_64_l4 (a.1, a.2) (b.1, b.2) (0, d, List.replicate N 0) (tab N (spX a.1 d)) (tab N (spX b.1 d)) go x.1 x.2) _ (fun x => ((N : Int) - x.1).toNat) _ H _ ⟨0, Nat.zero_le _, rfl⟩ (by simp only; omega)
      rw [e]
      rfl
  · left
    rw [if_neg hg]
    exact ⟨1, by decide, rfl⟩
end Go.Proofs.PlS
