/- The law BackSteep of carousellaw11 holds of the program: every call of it, with any arguments, in any memory, returns true and leaves what was there as it was. No conditions. -/
import Derived.Test.YtlgiakkejlbbfaaGreatRows
import Derived.WalkKit
import Derived.ProofKit
import Derived.OpenShut
import Derived.Test.YtlgiakkejlbbfaaGreatBackSteepQ0
import Derived.Test.YtlgiakkejlbbfaaGreatAmY
namespace Go.Proofs.YtlgiakkejlbbfaaGreat.backSteep
open Go.ChangeShapes Go.WideShapes Go.ChangeAt Go.RowKit Go.AM
set_option linter.unusedVariables false
set_option maxRecDepth 1000000
theorem own : ownKnob Tryz.prog.godebug = none := by kernel_rfl
theorem laidOut : laidOutB Tryz.prog = true := by kernel_rfl
theorem plain0 (a0 : Ty.D (.sl (.int .i16))) (a1 : Ty.D (.sl (.int .i16))) (a2 : Ty.D (.int .i64)) (w0 : Ty.wf (.sl (.int .i16)) a0) (w1 : Ty.wf (.sl (.int .i16)) a1) (w2 : Ty.wf (.int .i64) a2) : C8.F (a0, a1, a2) = some true := by
  have e : C8.F = fun x => f8 x.1 x.2.1 x.2.2 := by kernel_rfl
  rw [e]
  exact BackSteep.plain a0 a1 a2 (BackSteep.row_16 w0) (BackSteep.row_16 w1)
theorem walk (a0 : Ty.D (.sl (.int .i16))) (a1 : Ty.D (.sl (.int .i16))) (a2 : Ty.D (.int .i64)) (w0 : Ty.wf (.sl (.int .i16)) a0) (w1 : Ty.wf (.sl (.int .i16)) a1) (w2 : Ty.wf (.int .i64) a2) (w : World) (v0 : Value) (r0 : (Pat.dat (.sl (.int .i16)) a0).reads w v0) (v1 : Value) (r1 : (Pat.dat (.sl (.int .i16)) a1).reads w v1) (v2 : Value) (r2 : (Pat.dat (.int .i64) a2).reads w v2) : Calls Tryz.prog 8 ⟨[v0, v1, v2]⟩ w fun e w' => e = .returned (.bool true) ∧ (∀ may, w.keptBut w' may) ∧ Below w.heap.size w w' :=
  Go.AM.law_walk C8_holds (x := (a0, a1, a2)) (y := true) (plain0 a0 a1 a2 w0 w1 w2) rfl rfl rfl w [v0, v1, v2] (fun i p h => match i, h with
    | 0, h => ⟨v0, rfl, by obtain rfl : _ = p := Option.some.inj h; exact r0⟩
    | 1, h => ⟨v1, rfl, by obtain rfl : _ = p := Option.some.inj h; exact r1⟩
    | 2, h => ⟨v2, rfl, by obtain rfl : _ = p := Option.some.inj h; exact r2⟩
    | _ + 3, h => nomatch h)

theorem lifted (os : Os) (started : os.Started) (H : Type) (enc : TypeId × Value → H) :
    ReturnsInHanded {} Tryz.checked os 8 .any (Rows.backSteepSpec.pre6 enc Tryz.prog Tryz.f8 Rows.backSteepRow.domain false) (Rows.backSteepSpec.post enc Tryz.prog Tryz.f8 false true false false) := by
  refine returnsInHanded_of_change (C := Tryz.checked) own started (by kernel_rfl) Tryz.func8
    (ChangeSpec.witness6 (enc := enc) (C := Tryz.checked) false ⟨#[], #[.slice none 0 0, .slice none 0 0, .int .i64 0], []⟩ 8 (by kernel_rfl) (by kernel_rfl) (by kernel_rfl) (by kernel_rfl)) ?_
  intro W base args ds gs before hval0 hW hcnd _
  have hval : ∀ (j : Nat) t v, Tryz.f8.params[j]? = some t → args[j]? = some v → Value.okWide Tryz.prog W .any base t v := hval0
  have hW' := hW
  obtain ⟨p, q, hA0, hV, rfl, hfz, hnd⟩ := hW
  have hA : DataW.TrodAll enc Tryz.prog W 0 (fun _ => true) true Tryz.f8.params.toList args.toList ds p := hA0
  rw [Tryz.params8] at hA hval
  obtain ⟨v0, vs0, d0, ds0, p0, q0, hargs, rfl, rfl, h0, r0⟩ := trodAll_cons hA
  obtain ⟨v1, vs1, d1, ds1, p1, q1, rfl, rfl, rfl, h1, r1⟩ := trodAll_cons r0
  obtain ⟨v2, vs2, d2, ds2, p2, q2, rfl, rfl, rfl, h2, r2⟩ := trodAll_cons r1
  obtain ⟨rfl, rfl, rfl⟩ := trodAll_nil r2
  obtain rfl : args = ⟨[v0, v1, v2]⟩ := by cases args; simp_all
  obtain ⟨rfl, rfl⟩ := trodVars_none hV
  obtain ⟨a0, e0, w0⟩ := Go.AM.dat_read (t := (.sl (.int .i16))) (T := 58) (.sl Tryz.underlying58 (by kernel_rfl) (by decide) (.int Tryz.underlying60)) (hval 0 58 v0 rfl rfl) h0
  obtain ⟨a1, e1, w1⟩ := Go.AM.dat_read (t := (.sl (.int .i16))) (T := 58) (.sl Tryz.underlying58 (by kernel_rfl) (by decide) (.int Tryz.underlying60)) (hval 1 58 v1 rfl rfl) h1
  obtain ⟨a2, e2, w2⟩ := Go.AM.dat_read (t := (.int .i64)) (T := 3) (.int Tryz.underlying3) (hval 2 3 v2 rfl rfl) h2
  have hlt0 : ∀ x ∈ p0, x.block < W.heap.size := fun x hx => hW'.lt x (by simp [hx])
  have hlt1 : ∀ x ∈ p1, x.block < W.heap.size := fun x hx => hW'.lt x (by simp [hx])
  have hlt2 : ∀ x ∈ p2, x.block < W.heap.size := fun x hx => hW'.lt x (by simp [hx])
  clear hA0 hval0
  simp only [List.append_nil] at hW'
  refine (walk a0 a1 a2 w0 w1 w2 W v0 e0 v1 e1 v2 e2).mono fun e W' ⟨he, hg, hb⟩ => ?_
  subst he
  exact ⟨_, rfl, Go.AM.post_am (pa := (p0 ++ (p1 ++ (p2 ++ [])))) (pv := []) hW' (trodAll_cons_mk (shut_bool Tryz.underlying4 _) trodAll_mk0) (trodAll_cons_mk (Below.trod laidOut (by kernel_rfl) (of_decide_eq_true (by kernel_rfl)) h0 hb hlt0) (trodAll_cons_mk (Below.trod laidOut (by kernel_rfl) (of_decide_eq_true (by kernel_rfl)) h1 hb hlt1) (trodAll_cons_mk (Below.trod laidOut (by kernel_rfl) (of_decide_eq_true (by kernel_rfl)) h2 hb hlt2) trodAll_mk0))) rfl hg⟩

theorem k1 : Tryz.pinned.checked.prog.funcNamed Rows.backSteepRow.func = some 8 := by kernel_rfl
theorem k2 : joinedFacts Tryz.pinned.checked.prog 8 Tryz.f8 Rows.backSteepSpec Rows.backSteepRow = true := by kernel_rfl
theorem k3 : Tryz.f8.isInstance Tryz.pinned.checked.prog Rows.backSteepRow.origin Rows.backSteepRow.targs := of_decide_eq_true (by kernel_rfl)
theorem k4 : Tryz.f8.isWrapper Tryz.pinned.checked.prog Rows.backSteepRow.wrapper Rows.backSteepRow.mainSum := by
  unfold Func.isWrapper
  first | (rw [if_pos (by decide +kernel)]; kernel_rfl) | (rw [if_neg (by decide +kernel)]; exact ⟨rfl, rfl⟩)
theorem over : Rows.backSteepRow.holds Tryz.pinned (OpenSpec.ofChange Rows.backSteepSpec) :=
  OpenClaim.holds_of_wide 8 Tryz.f8 rfl rfl rfl rfl rfl rfl rfl ⟨rfl, rfl, rfl, rfl, rfl⟩ rfl rfl rfl rfl rfl k1 Tryz.func8 k2 k3 k4
    (fun os started H enc _ => lifted os started H enc)

theorem proved : Rows.BackSteepSaid := over
#print axioms proved
end Go.Proofs.YtlgiakkejlbbfaaGreat.backSteep
