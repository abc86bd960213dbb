/- The law TapePlays of carousellaw10 holds of the program: every call of it, with any arguments, in any memory, returns true and leaves what was there as it was. No conditions. -/
import Derived.Test.YtclonpepjjeciaaGreatRows
import Derived.WalkKit
import Derived.ProofKit
import Derived.OpenShut
import Derived.Test.YtclonpepjjeciaaGreatTapePlaysQ1
import Derived.Test.YtclonpepjjeciaaGreatAmY
namespace Go.Proofs.YtclonpepjjeciaaGreat.tapePlays
open Go.ChangeShapes Go.WideShapes Go.ChangeAt Go.RowKit Go.AM
set_option linter.unusedVariables false
set_option maxRecDepth 1000000
theorem own : ownKnob Tryz.prog.godebug = none := by kernel_rfl
theorem laidOut : laidOutB Tryz.prog = true := by kernel_rfl
theorem plain0 (a0 : Ty.D (.sl (.p (.int .i64) (.p (.int .i64) (.p (.int .i64) (.p (.int .i64) (.p (.sl (.int .i64)) (.sl (.int .i64))))))))) (w0 : Ty.wf (.sl (.p (.int .i64) (.p (.int .i64) (.p (.int .i64) (.p (.int .i64) (.p (.sl (.int .i64)) (.sl (.int .i64)))))))) a0) : C3.F a0 = some true := by
  have e : C3.F = fun x => f3 x := by kernel_rfl
  rw [e]
  exact Cv.lawPlays a0 w0
theorem walk (a0 : Ty.D (.sl (.p (.int .i64) (.p (.int .i64) (.p (.int .i64) (.p (.int .i64) (.p (.sl (.int .i64)) (.sl (.int .i64))))))))) (w0 : Ty.wf (.sl (.p (.int .i64) (.p (.int .i64) (.p (.int .i64) (.p (.int .i64) (.p (.sl (.int .i64)) (.sl (.int .i64)))))))) a0) (w : World) (v0 : Value) (r0 : (Pat.dat (.sl (.p (.int .i64) (.p (.int .i64) (.p (.int .i64) (.p (.int .i64) (.p (.sl (.int .i64)) (.sl (.int .i64)))))))) a0).reads w v0) : Calls Tryz.prog 3 ⟨[v0]⟩ w fun e w' => e = .returned (.bool true) ∧ (∀ may, w.keptBut w' may) ∧ Below w.heap.size w w' :=
  Go.AM.law_walk C3_holds (x := a0) (y := true) (plain0 a0 w0) rfl rfl rfl w [v0] (fun i p h => match i, h with
    | 0, h => ⟨v0, rfl, by obtain rfl : _ = p := Option.some.inj h; exact r0⟩
    | _ + 1, h => nomatch h)

theorem lifted (os : Os) (started : os.Started) (H : Type) (enc : TypeId × Value → H) :
    ReturnsInHanded {} Tryz.checked os 3 .any (Rows.tapePlaysSpec.pre6 enc Tryz.prog Tryz.f3 Rows.tapePlaysRow.domain false) (Rows.tapePlaysSpec.post enc Tryz.prog Tryz.f3 false true false false) := by
  refine returnsInHanded_of_change (C := Tryz.checked) own started (by kernel_rfl) Tryz.func3
    (ChangeSpec.witness6 (enc := enc) (C := Tryz.checked) false ⟨#[], #[.slice none 0 0], []⟩ 8 (by kernel_rfl) (by kernel_rfl) (by kernel_rfl) (by kernel_rfl)) ?_
  intro W base args ds gs before hval0 hW hcnd _
  have hval : ∀ (j : Nat) t v, Tryz.f3.params[j]? = some t → args[j]? = some v → Value.okWide Tryz.prog W .any base t v := hval0
  have hW' := hW
  obtain ⟨p, q, hA0, hV, rfl, hfz, hnd⟩ := hW
  have hA : DataW.TrodAll enc Tryz.prog W 0 (fun _ => true) true Tryz.f3.params.toList args.toList ds p := hA0
  rw [Tryz.params3] at hA hval
  obtain ⟨v0, vs0, d0, ds0, p0, q0, hargs, rfl, rfl, h0, r0⟩ := trodAll_cons hA
  obtain ⟨rfl, rfl, rfl⟩ := trodAll_nil r0
  obtain rfl : args = ⟨[v0]⟩ := by cases args; simp_all
  obtain ⟨rfl, rfl⟩ := trodVars_none hV
  obtain ⟨a0, e0, w0⟩ := Go.AM.dat_read (t := (.sl (.p (.int .i64) (.p (.int .i64) (.p (.int .i64) (.p (.int .i64) (.p (.sl (.int .i64)) (.sl (.int .i64))))))))) (T := 22) (.sl Tryz.underlying22 (by kernel_rfl) (by decide) (.five Tryz.underlying53 ⟨rfl, rfl, rfl, rfl, rfl⟩ ⟨by kernel_rfl, by kernel_rfl, by kernel_rfl, by kernel_rfl, by kernel_rfl⟩ (by kernel_rfl) (.int Tryz.underlying3) (.int Tryz.underlying3) (.int Tryz.underlying3) (.int Tryz.underlying33) (.two Tryz.underlying37 rfl rfl (by kernel_rfl) (by kernel_rfl) (by kernel_rfl) (.sl Tryz.underlying34 (by kernel_rfl) (by decide) (.int Tryz.underlying3)) (.sl Tryz.underlying35 (by kernel_rfl) (by decide) (.int Tryz.underlying33))))) (hval 0 22 v0 rfl rfl) h0
  have hlt0 : ∀ x ∈ p0, x.block < W.heap.size := fun x hx => hW'.lt x (by simp [hx])
  clear hA0 hval0
  simp only [List.append_nil] at hW'
  refine (walk a0 w0 W v0 e0).mono fun e W' ⟨he, hg, hb⟩ => ?_
  subst he
  exact ⟨_, rfl, Go.AM.post_am (pa := (p0 ++ [])) (pv := []) hW' (trodAll_cons_mk (shut_bool Tryz.underlying4 _) trodAll_mk0) (trodAll_cons_mk (Below.trod laidOut (by kernel_rfl) (of_decide_eq_true (by kernel_rfl)) h0 hb hlt0) trodAll_mk0) rfl hg⟩

theorem k1 : Tryz.pinned.checked.prog.funcNamed Rows.tapePlaysRow.func = some 3 := by kernel_rfl
theorem k2 : joinedFacts Tryz.pinned.checked.prog 3 Tryz.f3 Rows.tapePlaysSpec Rows.tapePlaysRow = true := by kernel_rfl
theorem k3 : Tryz.f3.isInstance Tryz.pinned.checked.prog Rows.tapePlaysRow.origin Rows.tapePlaysRow.targs := of_decide_eq_true (by kernel_rfl)
theorem k4 : Tryz.f3.isWrapper Tryz.pinned.checked.prog Rows.tapePlaysRow.wrapper Rows.tapePlaysRow.mainSum := by
  unfold Func.isWrapper
  first | (rw [if_pos (by decide +kernel)]; kernel_rfl) | (rw [if_neg (by decide +kernel)]; exact ⟨rfl, rfl⟩)
theorem over : Rows.tapePlaysRow.holds Tryz.pinned (OpenSpec.ofChange Rows.tapePlaysSpec) :=
  OpenClaim.holds_of_wide 3 Tryz.f3 rfl rfl rfl rfl rfl rfl rfl ⟨rfl, rfl, rfl, rfl, rfl⟩ rfl rfl rfl rfl rfl k1 Tryz.func3 k2 k3 k4
    (fun os started H enc _ => lifted os started H enc)

theorem proved : Rows.TapePlaysSaid := over
#print axioms proved
end Go.Proofs.YtclonpepjjeciaaGreat.tapePlays
