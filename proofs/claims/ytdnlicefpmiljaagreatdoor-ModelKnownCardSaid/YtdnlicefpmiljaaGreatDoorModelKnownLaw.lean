/- The law ModelKnown of carousellaw12 holds of the program: every call of it, in any memory, returns true and leaves what was there as it was. No conditions. -/
import Derived.Test.YtdnlicefpmiljaaGreatDoorRows
import Derived.WalkKit
import Derived.ProofKit
import Derived.OpenShut
import Derived.LaidMore
import Derived.Lay
import Derived.SevenTiedAt
import Derived.Stop.Joined
import Derived.Test.YtdnlicefpmiljaaGreatDoorTie
import Derived.Test.YtdnlicefpmiljaaGreatDoorCards
import Derived.Test.YtdnlicefpmiljaaGreatDoorModelKnownF7
import Derived.Test.YtdnlicefpmiljaaGreatDoorAmW
namespace Go.Proofs.YtdnlicefpmiljaaGreatDoor.modelKnown
open Go.ChangeShapes Go.WideShapes Go.ChangeAt Go.RowKit
set_option linter.unusedVariables false
set_option maxRecDepth 1000000
theorem own : ownKnob Tryz.prog.godebug = none := by kernel_rfl
theorem plain : f3 = some true := by kernel_rfl
theorem walk (w : World) : Calls Tryz.prog 3 #[] w fun e w' => e = .returned (.bool true) ∧ (∀ may, w.keptBut w' may) ∧ Below w.heap.size w w' :=
  Go.AM.law_walk C3_holds (x := ()) (y := true) plain rfl rfl rfl w [] rfl (fun i p h => by simp [C3] at h)

theorem lifted (os : Os) (started : os.Started) (H : Type) (enc : TypeId × Value → H) :
    ReturnsInHanded {} Tryz.checked os 3 .any (fun w args => (Rows.modelKnownSpec.pre enc Tryz.prog Tryz.f3 Rows.modelKnownRow.domain false w args ∧ laidMetH Tryz.prog Rows.modelKnownRow.laid w) ∧ sizedMet enc Tryz.prog Tryz.f3 (OpenSpec.ofChange Rows.modelKnownSpec) false w args)
      (Rows.modelKnownSpec.post enc Tryz.prog Tryz.f3 false true false false) := by
  refine returnsInHanded_of_change_and (C := Tryz.checked) (X := fun w _ => laidMetH Tryz.prog Rows.modelKnownRow.laid w) (fun _ _ _ hh h => h.of_heap hh) own started (by kernel_rfl) Tryz.func3
    (ChangeSpec.witness_shaped (enc := enc) (C := Tryz.checked) (os := os) (X := fun w _ => laidMetH Tryz.prog Rows.modelKnownRow.laid w) false (World.laidAll Tryz.prog os Rows.modelKnownRow.laid) #[] 8 (World.laidAll_os _ _ _)
      (World.shaped_of_ZipB (by kernel_rfl) (by kernel_rfl)) (by kernel_rfl) (by kernel_rfl) (by kernel_rfl)
      (by rw [MakeChecks.laidMetH_plain _ _ _ (by kernel_rfl)]; exact laidMet_laidAll _ (by kernel_rfl) (by kernel_rfl))) ?_
  intro W base args ds gs before hval0 hW hcnd _ hL _
  have hW' := hW
  obtain ⟨p, q, hA0, hV, rfl, hfz, hnd⟩ := hW
  have hA : DataW.TrodAll enc Tryz.prog W 0 (fun _ => true) true Tryz.f3.params.toList args.toList ds p := hA0
  rw [Tryz.params3] at hA
  obtain ⟨rfl, rfl, rfl⟩ := trodAll_none hA
  obtain ⟨rfl, rfl⟩ := trodVars_none hV
  clear hA0 hval0
  simp only [List.append_nil] at hW'
  refine (walk W).mono fun e W' ⟨he, hg, _⟩ => ?_
  subst he
  exact ⟨_, rfl, Go.AM.post_am (pa := []) (pv := []) hW' (trodAll_cons_mk (shut_bool Tryz.underlying4 _) trodAll_mk0) rfl rfl hg⟩

theorem k1 : Tryz.pinned.checked.prog.funcNamed Rows.modelKnownRow.func = some 3 := by kernel_rfl
theorem k2 : joinedFacts Tryz.pinned.checked.prog 3 Tryz.f3 Rows.modelKnownSpec Rows.modelKnownRow = true := by kernel_rfl
theorem k3 : Tryz.f3.isInstance Tryz.pinned.checked.prog Rows.modelKnownRow.origin Rows.modelKnownRow.targs := of_decide_eq_true (by kernel_rfl)
theorem k4 : Tryz.f3.isWrapper Tryz.pinned.checked.prog Rows.modelKnownRow.wrapper Rows.modelKnownRow.mainSum := by
  unfold Func.isWrapper
  first | (rw [if_pos (by decide +kernel)]; kernel_rfl) | (rw [if_neg (by decide +kernel)]; exact ⟨rfl, rfl⟩)
theorem over : Rows.modelKnownRow.holds Tryz.pinned (OpenSpec.ofChange Rows.modelKnownSpec) :=
  OpenClaim.holds_of_wide 3 Tryz.f3 rfl rfl rfl rfl rfl rfl rfl ⟨rfl, rfl, rfl, rfl, rfl⟩ rfl rfl rfl rfl rfl k1 Tryz.func3 k2 k3 k4
    (fun os started H enc _ => lifted os started H enc)

theorem proved : Rows.ModelKnownCardSaid :=
  Claim7.holds_tied_plain_at .later [] [.data, .data, .data, .data, .sentinel, .sentinel, .pinned] true (true, "b8e982d4ce3da68af1c51210c0d07e53579d69f721081c99176cbf7218593a65") true over (fun _ h => by cases h) (by kernel_rfl) (fun _ h => by cases h) modelKnown_row_tie rfl ⟨rfl, rfl⟩ (by kernel_rfl) rfl
    (fun f fn hf hfn => by
      obtain rfl : f = 3 := Option.some.inj (k1.symm.trans hf) |>.symm
      obtain rfl : fn = Tryz.f3 := (Option.some.inj (Tryz.func3.symm.trans hfn)).symm
      exact ⟨by kernel_rfl, fun j t ht => by
        rw [Tryz.params3] at ht
        simp at ht⟩)
    (by kernel_rfl)
#print axioms proved
end Go.Proofs.YtdnlicefpmiljaaGreatDoor.modelKnown
