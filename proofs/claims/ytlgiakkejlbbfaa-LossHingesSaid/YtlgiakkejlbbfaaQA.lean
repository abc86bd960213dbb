
import Derived.Test.YtlgiakkejlbbfaaLossHingesF5
set_option linter.unusedVariables false
set_option linter.unusedSimpArgs false
namespace Go.AM
theorem bindF_some {X Y : Type} (x : X) (f : X → Option Y) : bindF (some x) f = f x := rfl
theorem sumF_inl {A B Y : Type} (a : A) (f : A → Option Y) (g : B → Option Y) : sumF (.inl a) f g = f a := rfl
theorem sumF_inr {A B Y : Type} (b : B) (f : A → Option Y) (g : B → Option Y) : sumF (.inr b) f g = g b := rfl
theorem guardF_pos {Y : Type} {p : Prop} [Decidable p] {r : Option Y} (h : p) : guardF p r = r := if_pos h
theorem loopF_succ {X Z : Type} (B : (X → Option Z) → X → Option Z) (n : Nat) (x : X) : loopF B (n + 1) x = B (loopF B n) x := rfl
theorem loop_inv {X Z : Type} {B : (X → Option Z) → X → Option Z} (I : X → Prop) (μ : X → Nat) (Q : Z → Prop)
  (h : ∀ x, I x → (∃ z, (∀ go, B go x = some z) ∧ Q z) ∨ (∃ y, (∀ go, B go x = go y) ∧ I y ∧ μ y < μ x)) :
  ∀ (n : Nat) (x : X), I x → μ x < n → ∃ z, loopF B n x = some z ∧ Q z
 | 0, x, _, hm => absurd hm (Nat.not_lt_zero _)
 | n + 1, x, hi, hm => by
  rw [loopF_succ]
  rcases h x hi with ⟨z, h1, h2⟩ | ⟨y, h1, h2, h3⟩
  ·exact ⟨z, h1 _, h2⟩
  ·rw [h1]; exact loop_inv I μ Q h n y h2 (by omega)
theorem loop_fuel {X Z : Type} {B : (X → Option Z) → X → Option Z} (I : X → Prop) (μ : X → Nat) (Q : Z → Prop)
  (h : ∀ x, I x → (∃ z, (∀ go, B go x = some z) ∧ Q z) ∨ (∃ y, (∀ go, B go x = go y) ∧ I y ∧ μ y < μ x)) (x : X) (hi : I x) (hm : μ x < 18446744073709551616) :
  ∃ z, loopF B fuelN x = some z ∧ Q z := loop_inv I μ Q h fuelN x hi hm
theorem wrap_i64 {n : Int} (h1 : -9223372036854775808 ≤ n) (h2 : n < 9223372036854775808) : IntKind.i64.wrap n = n := by
 simp only [IntKind.wrap, IntKind.signed, IntKind.bits]
 have : n % 2 ^ 64 = if 0 ≤ n then n else n + 18446744073709551616 := by
  split <;> omega
 simp only [this]
 split <;> split <;> simp_all <;> omega
theorem rd_nat {α : Type} (z : α) (xs : List α) (i : Nat) (h : i < xs.length) : rd z xs (i : Int) = xs[i] := by
 simp [rd, h]
end Go.AM
