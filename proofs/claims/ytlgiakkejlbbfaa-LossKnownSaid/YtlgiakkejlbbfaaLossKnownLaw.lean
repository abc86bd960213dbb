/- The closed law LossKnown of carousellaw13 holds of the program: every call of it, in any memory, returns true and leaves what was there as it was. No conditions. -/
import Derived.Test.YtlgiakkejlbbfaaRows
import Derived.WalkKit
import Derived.ProofKit
import Derived.OpenShut
import Derived.Test.YtlgiakkejlbbfaaLossKnownF5
import Derived.Test.YtlgiakkejlbbfaaAmW
namespace Go.Proofs.Ytlgiakkejlbbfaa.lossKnown
open Go.ChangeShapes Go.WideShapes Go.ChangeAt Go.RowKit
set_option linter.unusedVariables false
set_option maxRecDepth 1000000
theorem own : ownKnob Try.prog.godebug = none := by kernel_rfl
theorem plain : f5 = some true := by kernel_rfl
theorem walk (w : World) : Calls Try.prog 5 #[] w fun e w' => e = .returned (.bool true) ∧ (∀ may, w.keptBut w' may) ∧ w.heap.size ≤ w'.heap.size ∧ ∀ b, b < w.heap.size → w'.heap[b]? = w.heap[b]? :=
  Go.AM.law_walk C5_holds (x := ()) (y := true) plain rfl rfl rfl w [] (fun i p h => by simp [C5] at h)

theorem lifted (os : Os) (started : os.Started) (H : Type) (enc : TypeId × Value → H) :
    ReturnsInHanded {} Try.checked os 5 .any (Rows.lossKnownSpec.pre6 enc Try.prog Try.f5 Rows.lossKnownRow.domain false) (Rows.lossKnownSpec.post enc Try.prog Try.f5 false true false false) := by
  refine returnsInHanded_of_change (C := Try.checked) own started (by kernel_rfl) Try.func5
    (ChangeSpec.witness6 (enc := enc) (C := Try.checked) false ⟨#[], #[], []⟩ 8 (by kernel_rfl) (by kernel_rfl) (by kernel_rfl) (by kernel_rfl)) ?_
  intro W base args ds gs before hval0 hW hcnd _
  have hW' := hW
  obtain ⟨p, q, hA0, hV, rfl, hfz, hnd⟩ := hW
  have hA : DataW.TrodAll enc Try.prog W 0 (fun _ => true) true Try.f5.params.toList args.toList ds p := hA0
  rw [Try.params5] at hA
  obtain ⟨rfl, rfl, rfl⟩ := trodAll_none hA
  obtain ⟨rfl, rfl⟩ := trodVars_none hV
  clear hA0 hval0
  simp only [List.append_nil] at hW'
  refine (walk W).mono fun e W' ⟨he, hg, _, _⟩ => ?_
  subst he
  exact ⟨_, rfl, Go.AM.post_am (pa := []) (pv := []) hW' (trodAll_cons_mk (shut_bool Try.underlying4 _) trodAll_mk0) rfl rfl hg⟩

theorem over : Rows.lossKnownRow.holds Try.pinned (OpenSpec.ofChange Rows.lossKnownSpec) :=
  OpenClaim.holds_of_wide 5 Try.f5 rfl rfl rfl rfl rfl rfl rfl ⟨rfl, rfl, rfl, rfl, rfl⟩ rfl rfl rfl rfl rfl (by kernel_rfl) Try.func5 (by kernel_rfl)
    (of_decide_eq_true (by kernel_rfl)) (by unfold Func.isWrapper; first | (rw [if_pos (by decide +kernel)]; kernel_rfl) | (rw [if_neg (by decide +kernel)]; exact ⟨rfl, rfl⟩))
    (fun os started H enc _ => lifted os started H enc)

theorem proved : Rows.LossKnownSaid := over
#print axioms proved
end Go.Proofs.Ytlgiakkejlbbfaa.lossKnown
