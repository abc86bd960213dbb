/- The law LossHinges of carousellaw13 holds of the program: every call of it, with any arguments, in any memory, returns true and leaves what was there as it was. No conditions. -/
import Derived.Test.YtlgiakkejlbbfaaRows
import Derived.WalkKit
import Derived.ProofKit
import Derived.OpenShut
import Derived.Test.YtlgiakkejlbbfaaQLossG
import Derived.Test.YtlgiakkejlbbfaaAmY
namespace Go.Proofs.Ytlgiakkejlbbfaa.lossHinges
open Go.ChangeShapes Go.WideShapes Go.ChangeAt Go.RowKit Go.AM
set_option linter.unusedVariables false
set_option maxRecDepth 1000000
theorem own : ownKnob Try.prog.godebug = none := by kernel_rfl
theorem laidOut : laidOutB Try.prog = true := by kernel_rfl
theorem walk (a0 : Ty.D (.sl (.int .i16))) (a1 : Ty.D (.int .i64)) (w0 : Ty.wf (.sl (.int .i16)) a0) (w1 : Ty.wf (.int .i64) a1) (w : World) (v0 : Value) (r0 : (Pat.dat (.sl (.int .i16)) a0).reads w v0) (v1 : Value) (r1 : (Pat.dat (.int .i64) a1).reads w v1) : Calls Try.prog 4 ⟨[v0, v1]⟩ w fun e w' => e = .returned (.bool true) ∧ (∀ may, w.keptBut w' may) ∧ Below w.heap.size w w' :=
  Go.AM.law_walk C4_holds (x := (a0, a1)) (y := true) (Loss.hinges a0 a1 (Loss.row_i16 w0)) rfl rfl rfl w [v0, v1] (fun i p h => match i, h with
    | 0, h => ⟨v0, rfl, by obtain rfl : _ = p := Option.some.inj h; exact r0⟩
    | 1, h => ⟨v1, rfl, by obtain rfl : _ = p := Option.some.inj h; exact r1⟩
    | _ + 2, h => nomatch h)

theorem lifted (os : Os) (started : os.Started) (H : Type) (enc : TypeId × Value → H) :
    ReturnsInHanded {} Try.checked os 4 .any (Rows.lossHingesSpec.pre6 enc Try.prog Try.f4 Rows.lossHingesRow.domain false) (Rows.lossHingesSpec.post enc Try.prog Try.f4 false true false false) := by
  refine returnsInHanded_of_change (C := Try.checked) own started (by kernel_rfl) Try.func4
    (ChangeSpec.witness6 (enc := enc) (C := Try.checked) false ⟨#[], #[.slice none 0 0, .int .i64 0], []⟩ 8 (by kernel_rfl) (by kernel_rfl) (by kernel_rfl) (by kernel_rfl)) ?_
  intro W base args ds gs before hval0 hW hcnd _
  have hval : ∀ (j : Nat) t v, Try.f4.params[j]? = some t → args[j]? = some v → Value.okWide Try.prog W .any base t v := hval0
  have hW' := hW
  obtain ⟨p, q, hA0, hV, rfl, hfz, hnd⟩ := hW
  have hA : DataW.TrodAll enc Try.prog W 0 (fun _ => true) true Try.f4.params.toList args.toList ds p := hA0
  rw [Try.params4] at hA hval
  obtain ⟨v0, vs0, d0, ds0, p0, q0, hargs, rfl, rfl, h0, r0⟩ := trodAll_cons hA
  obtain ⟨v1, vs1, d1, ds1, p1, q1, rfl, rfl, rfl, h1, r1⟩ := trodAll_cons r0
  obtain ⟨rfl, rfl, rfl⟩ := trodAll_nil r1
  obtain rfl : args = ⟨[v0, v1]⟩ := by cases args; simp_all
  obtain ⟨rfl, rfl⟩ := trodVars_none hV
  obtain ⟨a0, e0, w0⟩ := Go.AM.dat_read (t := (.sl (.int .i16))) (T := 38) (.sl Try.underlying38 (by kernel_rfl) (by decide) (.int Try.underlying39)) (hval 0 38 v0 rfl rfl) h0
  obtain ⟨a1, e1, w1⟩ := Go.AM.dat_read (t := (.int .i64)) (T := 3) (.int Try.underlying3) (hval 1 3 v1 rfl rfl) h1
  have hlt0 : ∀ x ∈ p0, x.block < W.heap.size := fun x hx => hW'.lt x (by simp [hx])
  have hlt1 : ∀ x ∈ p1, x.block < W.heap.size := fun x hx => hW'.lt x (by simp [hx])
  clear hA0 hval0
  simp only [List.append_nil] at hW'
  refine (walk a0 a1 w0 w1 W v0 e0 v1 e1).mono fun e W' ⟨he, hg, hb⟩ => ?_
  subst he
  exact ⟨_, rfl, Go.AM.post_am (pa := (p0 ++ (p1 ++ []))) (pv := []) hW' (trodAll_cons_mk (shut_bool Try.underlying4 _) trodAll_mk0) (trodAll_cons_mk (Below.trod laidOut (by kernel_rfl) (of_decide_eq_true (by kernel_rfl)) h0 hb hlt0) (trodAll_cons_mk (Below.trod laidOut (by kernel_rfl) (of_decide_eq_true (by kernel_rfl)) h1 hb hlt1) trodAll_mk0)) rfl hg⟩

theorem over : Rows.lossHingesRow.holds Try.pinned (OpenSpec.ofChange Rows.lossHingesSpec) :=
  OpenClaim.holds_of_wide 4 Try.f4 rfl rfl rfl rfl rfl rfl rfl ⟨rfl, rfl, rfl, rfl, rfl⟩ rfl rfl rfl rfl rfl (by kernel_rfl) Try.func4 (by kernel_rfl)
    (of_decide_eq_true (by kernel_rfl)) (by unfold Func.isWrapper; first | (rw [if_pos (by decide +kernel)]; kernel_rfl) | (rw [if_neg (by decide +kernel)]; exact ⟨rfl, rfl⟩))
    (fun os started H enc _ => lifted os started H enc)

theorem proved : Rows.LossHingesSaid := over
#print axioms proved
end Go.Proofs.Ytlgiakkejlbbfaa.lossHinges
