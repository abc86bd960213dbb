/- Plain law: GradJoins. -/
import Derived.Test.YtgkmdgdkmgkelaaGreatPlJA
set_option linter.unusedVariables false
set_option linter.unusedSimpArgs false
set_option maxRecDepth 100000
namespace Go.Proofs.PlJ
open Go.AM

theorem not_ok (x : Int) (h0 : 0 ≤ x) (h1 : x < 18446744073709551616) : bitsOf IntKind.u64 (fun p q => p ^^^ q) (if (IntKind.signed IntKind.u64) then -1 else IntKind.max IntKind.u64) x = 18446744073709551615 - x := by
  have hm : (if (IntKind.signed IntKind.u64) = true then (-1 : Int) else IntKind.max IntKind.u64) = 18446744073709551615 := rfl
  rw [hm]
  refine (bits_nat (fun p q => p ^^^ q) _ x).trans ?_
  have ha : BitVec.ofInt 64 18446744073709551615 = BitVec.allOnes 64 := by decide
  simp only [ha]
  rw [BitVec.allOnes_xor, BitVec.toNat_not, ofInt_nat x h0 h1]
  omega
theorem wi_u (n : Int) : IntKind.i64.wrap (n % 18446744073709551616) = IntKind.i64.wrap n := wi_mod n

/-- The number that a wide one is. -/
def val (a : Int × Int) : Int := a.1 * 18446744073709551616 + a.2
def okW (a : Int × Int) : Prop := -9223372036854775808 ≤ a.1 ∧ a.1 < 9223372036854775808 ∧ 0 ≤ a.2 ∧ a.2 < 18446744073709551616

theorem add_val (a b : Int × Int) (ha : okW a) (hb : okW b) : f26 a b = some (IntKind.i64.wrap ((val a + val b) / 18446744073709551616), (val a + val b) % 18446744073709551616) := by
  obtain ⟨x, y⟩ := a
  obtain ⟨z, w⟩ := b
  obtain ⟨a1, a2, a3, a4⟩ := ha
  obtain ⟨b1, b2, b3, b4⟩ := hb
  simp only at a1 a2 a3 a4 b1 b2 b3 b4
  unfold f26 val
  simp only
  rw [add_ok _ _ _ a3 b3 (by decide) (by decide)]
  simp only [bindF_some, wu]
  rw [add_ok _ _ _ (by omega) (by omega) (by omega) (by omega)]
  simp only [bindF_some, Option.some.injEq, Prod.mk.injEq]
  refine ⟨?_, by omega⟩
  rw [wi_mod]
  rw [← wi_mod (x % 18446744073709551616 + z % 18446744073709551616 + (y + w + 0) / 18446744073709551616), ← wi_mod ((x * 18446744073709551616 + y + (z * 18446744073709551616 + w)) / 18446744073709551616)]
  congr 1
  omega

theorem num_ok (a : Int × Int) (ha : okW a) : ∃ (s : Bool) (A : Int), f29 a = some (s, W0 A, W1 A) ∧ 0 ≤ A ∧ A ≤ 170141183460469231731687303715884105728 ∧ (if s then -A else A) = val a := by
  obtain ⟨x, y⟩ := a
  obtain ⟨a1, a2, a3, a4⟩ := ha
  simp only at a1 a2 a3 a4
  unfold f29 val
  simp only
  by_cases h : x ≥ 0
  · rw [show decide (x ≥ 0) = true by simpa using h]
    refine ⟨false, x * 18446744073709551616 + y, ?_, by omega, by omega, rfl⟩
    simp only [cond_true, wu, Option.some.injEq, Prod.mk.injEq, true_and]
    unfold W0 W1
    constructor <;> omega
  · rw [show decide (x ≥ 0) = false by simpa using h]
    refine ⟨true, -(x * 18446744073709551616 + y), ?_, by omega, by omega, by simp only [if_true]; omega⟩
    simp only [cond_false]
    unfold f29_j1
    simp only
    rw [not_ok y a3 a4, wu (n := x), not_ok (x % 18446744073709551616) (by omega) (by omega)]
    simp only [wu]
    by_cases hy : y = 0
    · subst hy
      rw [show (((18446744073709551615 : Int) - 0 + 1) % 18446744073709551616 == 0) = true from rfl]
      simp only [cond_true, bindF_some, Option.some.injEq, Prod.mk.injEq, true_and]
      unfold W0 W1
      constructor <;> omega
    · rw [show (((18446744073709551615 : Int) - y + 1) % 18446744073709551616 == 0) = false by simp; omega]
      simp only [cond_false, bindF_some, Option.some.injEq, Prod.mk.injEq, true_and]
      unfold W0 W1
      constructor <;> omega

theorem wide_ok (s : Bool) (C : Int) (h0 : 0 ≤ C) (h1 : C ≤ 340282366920938463463374607431768211456) :
    f27 s (W0 C) (W1 C) (W2 C) (W3 C) = some (IntKind.i64.wrap ((if s then -C else C) / 18446744073709551616), (if s then -C else C) % 18446744073709551616) := by
  obtain ⟨⟨r0, s0⟩, ⟨r1, s1⟩, ⟨r2, s2⟩, ⟨r3, s3⟩⟩ := W_range C
  have w0 : W0 C = C % 18446744073709551616 := rfl
  have w1 : W1 C = C / 18446744073709551616 % 18446744073709551616 := rfl
  unfold f27 f27_j1
  cases s
  · simp only [cond_false, bindF_some, Option.some.injEq, Prod.mk.injEq, Bool.false_eq_true, if_false]
    rw [w1, wi_mod]
    exact ⟨rfl, rfl⟩
  · simp only [cond_true, if_true]
    rw [not_ok _ r0 s0, not_ok _ r1 s1]
    simp only [wu]
    by_cases hz : W0 C = 0
    · rw [show ((18446744073709551615 - W0 C + 1) % 18446744073709551616 == 0) = true by rw [hz]; rfl]
      simp only [cond_true, bindF_some, Option.some.injEq, Prod.mk.injEq]
      refine ⟨?_, by rw [hz]; omega⟩
      rw [wi_mod, ← wi_mod (18446744073709551615 - W1 C + 1), ← wi_mod (-C / 18446744073709551616)]
      congr 1
      omega
    · rw [show ((18446744073709551615 - W0 C + 1) % 18446744073709551616 == 0) = false by simp; omega]
      simp only [cond_false, bindF_some, Option.some.injEq, Prod.mk.injEq]
      refine ⟨?_, by omega⟩
      rw [← wi_mod (18446744073709551615 - W1 C), ← wi_mod (-C / 18446744073709551616)]
      congr 1
      omega

theorem wadd_ok (a b : Int × Int) (ha : okW a) (hb : okW b) : f11 a b = f26 a b := by
  rw [add_val a b ha hb]
  unfold f11
  obtain ⟨s, A, e1, A0, A1, hA⟩ := num_ok a ha
  obtain ⟨t, B, e2, B0, B1, hB⟩ := num_ok b hb
  rw [show (a.1, a.2) = a from rfl, show (b.1, b.2) = b from rfl, e1, e2]
  simp only [bindF_some]
  have hw : ∀ N : Int, 0 ≤ N → N ≤ 170141183460469231731687303715884105728 → W2 N = 0 ∧ W3 N = 0 := fun N h0 h1 => by
    have q : N / 18446744073709551616 / 18446744073709551616 = 0 := by omega
    constructor
    · unfold W2; rw [q]; rfl
    · unfold W3; rw [q]; rfl
  obtain ⟨u, C, e3, C0, C1, hC⟩ := signed_ok s t A B A0 (by omega) B0 (by omega)
  rw [(hw A A0 A1).1, (hw A A0 A1).2, (hw B B0 B1).1, (hw B B0 B1).2] at e3
  rw [e3]
  simp only [bindF_some]
  rw [wide_ok u C C0 (by omega)]
  simp only [bindF_some]
  rw [hC, hA, hB]

def inW (l : List (Int × Int)) : Prop := ∀ x ∈ l, okW x
/-- The sums, number by number. -/
def addV (x y : Int × Int) : Int × Int := (IntKind.i64.wrap ((val x + val y) / 18446744073709551616), (val x + val y) % 18446744073709551616)
theorem lfs {X Z : Type} (B : (X → Option Z) → X → Option Z) (n : Nat) (x : X) : loopF B (n + 1) x = B (loopF B n) x := rfl

theorem join_ok (a b : List (Int × Int)) (ha : inW a) (hb : inW b) (hl : a.length = b.length) (hm : a.length ≤ 100) : f10 a b = some (0, List.zipWith addV a b) := by
  unfold f10
  rw [show ((a.length : Int) != (b.length : Int)) = false by simp [hl]]
  simp only [cond_false]
  have H : ∀ x : Int × List (Int × Int), (∃ k : Nat, k ≤ a.length ∧ x = ((k : Int), (List.zipWith addV a b).take k)) →
      (∃ z, (∀ go, f10_l1 a b go x.1 x.2 = some z) ∧ z = List.zipWith addV a b) ∨
      (∃ y : Int × List (Int × Int), (∀ go, f10_l1 a b go x.1 x.2 = go y) ∧ (∃ k : Nat, k ≤ a.length ∧ y = ((k : Int), (List.zipWith addV a b).take k)) ∧ ((a.length : Int) - y.1).toNat < ((a.length : Int) - x.1).toNat) := by
    rintro _ ⟨k, hk, rfl⟩
    have hz : (List.zipWith addV a b).length = a.length := by simp [List.length_zipWith, hl]
    by_cases h : k < a.length
    · right
      refine ⟨(((k + 1 : Nat) : Int), (List.zipWith addV a b).take (k + 1)), fun go => ?_, ⟨k + 1, h, rfl⟩, by simp only; omega⟩
      unfold f10_l1
      simp only
      rw [show decide ((k : Int) < (a.length : Int)) = true by simpa using h]
      simp only [cond_true]
      rw [guardF_pos (by omega), guardF_pos (by omega), rd_nat _ _ _ h, rd_nat _ _ _ (show k < b.length by omega)]
      rw [show ((a[k]).1, (a[k]).2) = a[k] from rfl]
      rw [show ((b[k]'(show k < b.length by omega)).1, (b[k]'(show k < b.length by omega)).2) = b[k]'(show k < b.length by omega) from rfl]
      rw [add_val _ _ (ha _ (List.getElem_mem h)) (hb _ (List.getElem_mem _))]
      simp only [bindF_some]
      rw [guardF_pos (by simp only [List.length_take, List.length_cons, List.length_nil]; omega), wrap_i64 (by omega) (by omega)]
      congr 1
      rw [List.take_succ_eq_append_getElem (by omega), List.getElem_zipWith]
      rfl
    · left
      have : k = a.length := by omega
      subst this
      refine ⟨_, fun go => ?_, rfl⟩
      unfold f10_l1
      simp only
      rw [show decide ((a.length : Int) < (a.length : Int)) = false by simp]
      simp only [cond_false]
      rw [List.take_of_length_le (by omega)]
  obtain ⟨z, e, rfl⟩ := loop_fuel (B := fun go (x : Int × List (Int × Int)) => f10_l1 a b go x.1 x.2) _ (fun x => ((a.length : Int) - x.1).toNat) _ H ((0 : Int), []) ⟨0, Nat.zero_le _, rfl⟩ (by simp; omega)
  rw [e]
  rfl

theorem joins (a b : List (Int × Int)) (ha : inW a) (hb : inW b) : f4 a b = some true := by
  unfold f4
  rw [show f7 = some true by kernel_rfl]
  simp only [bindF_some, Bool.not_true, cond_false]
  by_cases hl : a.length ≤ 100 ∧ b.length ≤ 100
  · have hj : f4_j1 a b = some (Sum.inl ()) := by
      unfold f4_j1
      rw [show decide ((a.length : Int) > 100) = false by simp; omega, show decide ((b.length : Int) > 100) = false by simp; omega]
      rfl
    rw [hj]
    simp only [bindF_some, sumF_inl]
    by_cases he : a.length = b.length
    · rw [join_ok a b ha hb he hl.1]
      simp only [bindF_some]
      rw [show ((a.length : Int) != (b.length : Int)) = false by simp [he]]
      simp only [cond_false]
      have hz : (List.zipWith addV a b).length = a.length := by simp [List.length_zipWith, he]
      have hj2 : f4_j2 a (0, List.zipWith addV a b) = some (Sum.inl ()) := by
        unfold f4_j2
        simp only
        rw [hz, show ((0 : Int) != 0) = false from rfl, show ((a.length : Int) != (a.length : Int)) = false by simp]
        rfl
      rw [hj2]
      simp only [bindF_some, sumF_inl]
      have H : ∀ x : Int, (∃ k : Nat, k ≤ a.length ∧ x = (k : Int)) →
          (∃ z, (∀ go, f4_l3 a b (0, List.zipWith addV a b) go x = some z) ∧ z = Sum.inr ()) ∨
          (∃ y : Int, (∀ go, f4_l3 a b (0, List.zipWith addV a b) go x = go y) ∧ (∃ k : Nat, k ≤ a.length ∧ y = (k : Int)) ∧ ((a.length : Int) - y).toNat < ((a.length : Int) - x).toNat) := by
        rintro _ ⟨k, hk, rfl⟩
        by_cases h : k < a.length
        · right
          refine ⟨((k + 1 : Nat) : Int), fun go => ?_, ⟨k + 1, h, rfl⟩, by omega⟩
          unfold f4_l3
          simp only
          rw [show decide ((k : Int) < (a.length : Int)) = true by simpa using h]
          simp only [cond_true]
          rw [guardF_pos (by omega), guardF_pos (by omega), guardF_pos (by omega), rd_nat _ _ _ h, rd_nat _ _ _ (show k < b.length by omega), rd_nat _ _ _ (show k < (List.zipWith addV a b).length by omega)]
          rw [show ((a[k]).1, (a[k]).2) = a[k] from rfl]
          rw [show ((b[k]'(show k < b.length by omega)).1, (b[k]'(show k < b.length by omega)).2) = b[k]'(show k < b.length by omega) from rfl]
          rw [wadd_ok _ _ (ha _ (List.getElem_mem h)) (hb _ (List.getElem_mem _)), add_val _ _ (ha _ (List.getElem_mem h)) (hb _ (List.getElem_mem _))]
          simp only [bindF_some, List.getElem_zipWith, addV]
          rw [wrap_i64 (n := (k : Int) + 1) (by omega) (by omega)]
          simp
        · left
          have : k = a.length := by omega
          subst this
          refine ⟨_, fun go => ?_, rfl⟩
          unfold f4_l3
          simp only
          rw [show decide ((a.length : Int) < (a.length : Int)) = false by simp]
          rfl
      obtain ⟨z, e, rfl⟩ := loop_fuel (B := fun go (x : Int) => f4_l3 a b (0, List.zipWith addV a b) go x) _ (fun x => ((a.length : Int) - x).toNat) _ H (0 : Int) ⟨0, Nat.zero_le _, rfl⟩ (by simp; omega)
      rw [e]
      rfl
    · have hne : ((a.length : Int) != (b.length : Int)) = true := by simp; omega
      unfold f10
      rw [hne]
      rfl
  · have hj : f4_j1 a b = some (Sum.inr ()) := by
      unfold f4_j1
      by_cases h : a.length ≤ 100
      · rw [show decide ((a.length : Int) > 100) = false by simp; omega, show decide ((b.length : Int) > 100) = true by simp; omega]
        rfl
      · rw [show decide ((a.length : Int) > 100) = true by simp; omega]
        rfl
    rw [hj]
    rfl
end Go.Proofs.PlJ
