/- The law SoloKnown of carousellaw17 holds of the program: every call of it, in any memory, returns true and leaves what was there as it was. No conditions. -/
import Derived.Test.YtoicgngppmpapaaGreatRows
import Derived.WalkKit
import Derived.ProofKit
import Derived.OpenShut
import Derived.Test.YtoicgngppmpapaaGreatSoloKnownS12
import Derived.Test.YtoicgngppmpapaaGreatAmW
namespace Go.Proofs.YtoicgngppmpapaaGreat.soloKnown
open Go.ChangeShapes Go.WideShapes Go.ChangeAt Go.RowKit
set_option linter.unusedVariables false
set_option maxRecDepth 1000000
theorem own : ownKnob Tryz.prog.godebug = none := by kernel_rfl
theorem plain : f9 = some true := by kernel_rfl
theorem walk (w : World) : Calls Tryz.prog 9 #[] w fun e w' => e = .returned (.bool true) ∧ (∀ may, w.keptBut w' may) ∧ Below w.heap.size w w' :=
  Go.AM.law_walk C9_holds (x := ()) (y := true) plain rfl rfl rfl w [] (fun i p h => by simp [C9] at h)

theorem lifted (os : Os) (started : os.Started) (H : Type) (enc : TypeId × Value → H) :
    ReturnsInHanded {} Tryz.checked os 9 .any (Rows.soloKnownSpec.pre6 enc Tryz.prog Tryz.f9 Rows.soloKnownRow.domain false) (Rows.soloKnownSpec.post enc Tryz.prog Tryz.f9 false true false false) := by
  refine returnsInHanded_of_change (C := Tryz.checked) own started (by kernel_rfl) Tryz.func9
    (ChangeSpec.witness6 (enc := enc) (C := Tryz.checked) false ⟨#[], #[], []⟩ 8 (by kernel_rfl) (by kernel_rfl) (by kernel_rfl) (by kernel_rfl)) ?_
  intro W base args ds gs before hval0 hW hcnd _
  have hW' := hW
  obtain ⟨p, q, hA0, hV, rfl, hfz, hnd⟩ := hW
  have hA : DataW.TrodAll enc Tryz.prog W 0 (fun _ => true) true Tryz.f9.params.toList args.toList ds p := hA0
  rw [Tryz.params9] at hA
  obtain ⟨rfl, rfl, rfl⟩ := trodAll_none hA
  obtain ⟨rfl, rfl⟩ := trodVars_none hV
  clear hA0 hval0
  simp only [List.append_nil] at hW'
  refine (walk W).mono fun e W' ⟨he, hg, _⟩ => ?_
  subst he
  exact ⟨_, rfl, Go.AM.post_am (pa := []) (pv := []) hW' (trodAll_cons_mk (shut_bool Tryz.underlying4 _) trodAll_mk0) rfl rfl hg⟩

theorem k1 : Tryz.pinned.checked.prog.funcNamed Rows.soloKnownRow.func = some 9 := by kernel_rfl
theorem k2 : joinedFacts Tryz.pinned.checked.prog 9 Tryz.f9 Rows.soloKnownSpec Rows.soloKnownRow = true := by kernel_rfl
theorem k3 : Tryz.f9.isInstance Tryz.pinned.checked.prog Rows.soloKnownRow.origin Rows.soloKnownRow.targs := of_decide_eq_true (by kernel_rfl)
theorem k4 : Tryz.f9.isWrapper Tryz.pinned.checked.prog Rows.soloKnownRow.wrapper Rows.soloKnownRow.mainSum := by
  unfold Func.isWrapper
  first | (rw [if_pos (by decide +kernel)]; kernel_rfl) | (rw [if_neg (by decide +kernel)]; exact ⟨rfl, rfl⟩)
theorem over : Rows.soloKnownRow.holds Tryz.pinned (OpenSpec.ofChange Rows.soloKnownSpec) :=
  OpenClaim.holds_of_wide 9 Tryz.f9 rfl rfl rfl rfl rfl rfl rfl ⟨rfl, rfl, rfl, rfl, rfl⟩ rfl rfl rfl rfl rfl k1 Tryz.func9 k2 k3 k4
    (fun os started H enc _ => lifted os started H enc)

theorem proved : Rows.SoloKnownSaid := over
#print axioms proved
end Go.Proofs.YtoicgngppmpapaaGreat.soloKnown
