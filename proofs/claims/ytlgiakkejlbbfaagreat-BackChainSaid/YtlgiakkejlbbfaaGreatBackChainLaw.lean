/- The law BackChain of carousellaw11 holds of the program: every call of it, with any arguments, in any memory, returns true and leaves what was there as it was. No conditions. -/
import Derived.Test.YtlgiakkejlbbfaaGreatRows
import Derived.WalkKit
import Derived.ProofKit
import Derived.OpenShut
import Derived.Test.YtlgiakkejlbbfaaGreatBackChainQ0
import Derived.Test.YtlgiakkejlbbfaaGreatAmY
namespace Go.Proofs.YtlgiakkejlbbfaaGreat.backChain
open Go.ChangeShapes Go.WideShapes Go.ChangeAt Go.RowKit Go.AM
set_option linter.unusedVariables false
set_option maxRecDepth 1000000
theorem own : ownKnob Tryz.prog.godebug = none := by kernel_rfl
theorem laidOut : laidOutB Tryz.prog = true := by kernel_rfl
theorem plain0 (a0 : Ty.D (.int .i64)) (a1 : Ty.D (.sl (.int .i64))) (w0 : Ty.wf (.int .i64) a0) (w1 : Ty.wf (.sl (.int .i64)) a1) : C9.F (a0, a1) = some true := by
  have e : C9.F = fun x => f9 x.1 x.2 := by kernel_rfl
  rw [e]
  exact BackChain.lawChain a0 a1 w0 w1
theorem walk (a0 : Ty.D (.int .i64)) (a1 : Ty.D (.sl (.int .i64))) (w0 : Ty.wf (.int .i64) a0) (w1 : Ty.wf (.sl (.int .i64)) a1) (w : World) (v0 : Value) (r0 : (Pat.dat (.int .i64) a0).reads w v0) (v1 : Value) (r1 : (Pat.dat (.sl (.int .i64)) a1).reads w v1) : Calls Tryz.prog 9 ⟨[v0, v1]⟩ w fun e w' => e = .returned (.bool true) ∧ (∀ may, w.keptBut w' may) ∧ Below w.heap.size w w' :=
  Go.AM.law_walk C9_holds (x := (a0, a1)) (y := true) (plain0 a0 a1 w0 w1) rfl rfl rfl w [v0, v1] (fun i p h => match i, h with
    | 0, h => ⟨v0, rfl, by obtain rfl : _ = p := Option.some.inj h; exact r0⟩
    | 1, h => ⟨v1, rfl, by obtain rfl : _ = p := Option.some.inj h; exact r1⟩
    | _ + 2, h => nomatch h)

theorem lifted (os : Os) (started : os.Started) (H : Type) (enc : TypeId × Value → H) :
    ReturnsInHanded {} Tryz.checked os 9 .any (Rows.backChainSpec.pre6 enc Tryz.prog Tryz.f9 Rows.backChainRow.domain false) (Rows.backChainSpec.post enc Tryz.prog Tryz.f9 false true false false) := by
  refine returnsInHanded_of_change (C := Tryz.checked) own started (by kernel_rfl) Tryz.func9
    (ChangeSpec.witness6 (enc := enc) (C := Tryz.checked) false ⟨#[], #[.int .i64 0, .slice none 0 0], []⟩ 8 (by kernel_rfl) (by kernel_rfl) (by kernel_rfl) (by kernel_rfl)) ?_
  intro W base args ds gs before hval0 hW hcnd _
  have hval : ∀ (j : Nat) t v, Tryz.f9.params[j]? = some t → args[j]? = some v → Value.okWide Tryz.prog W .any base t v := hval0
  have hW' := hW
  obtain ⟨p, q, hA0, hV, rfl, hfz, hnd⟩ := hW
  have hA : DataW.TrodAll enc Tryz.prog W 0 (fun _ => true) true Tryz.f9.params.toList args.toList ds p := hA0
  rw [Tryz.params9] at hA hval
  obtain ⟨v0, vs0, d0, ds0, p0, q0, hargs, rfl, rfl, h0, r0⟩ := trodAll_cons hA
  obtain ⟨v1, vs1, d1, ds1, p1, q1, rfl, rfl, rfl, h1, r1⟩ := trodAll_cons r0
  obtain ⟨rfl, rfl, rfl⟩ := trodAll_nil r1
  obtain rfl : args = ⟨[v0, v1]⟩ := by cases args; simp_all
  obtain ⟨rfl, rfl⟩ := trodVars_none hV
  obtain ⟨a0, e0, w0⟩ := Go.AM.dat_read (t := (.int .i64)) (T := 33) (.int Tryz.underlying33) (hval 0 33 v0 rfl rfl) h0
  obtain ⟨a1, e1, w1⟩ := Go.AM.dat_read (t := (.sl (.int .i64))) (T := 29) (.sl Tryz.underlying29 (by kernel_rfl) (by decide) (.int Tryz.underlying33)) (hval 1 29 v1 rfl rfl) h1
  have hlt0 : ∀ x ∈ p0, x.block < W.heap.size := fun x hx => hW'.lt x (by simp [hx])
  have hlt1 : ∀ x ∈ p1, x.block < W.heap.size := fun x hx => hW'.lt x (by simp [hx])
  clear hA0 hval0
  simp only [List.append_nil] at hW'
  refine (walk a0 a1 w0 w1 W v0 e0 v1 e1).mono fun e W' ⟨he, hg, hb⟩ => ?_
  subst he
  exact ⟨_, rfl, Go.AM.post_am (pa := (p0 ++ (p1 ++ []))) (pv := []) hW' (trodAll_cons_mk (shut_bool Tryz.underlying4 _) trodAll_mk0) (trodAll_cons_mk (Below.trod laidOut (by kernel_rfl) (of_decide_eq_true (by kernel_rfl)) h0 hb hlt0) (trodAll_cons_mk (Below.trod laidOut (by kernel_rfl) (of_decide_eq_true (by kernel_rfl)) h1 hb hlt1) trodAll_mk0)) rfl hg⟩

theorem k1 : Tryz.pinned.checked.prog.funcNamed Rows.backChainRow.func = some 9 := by kernel_rfl
theorem k2 : joinedFacts Tryz.pinned.checked.prog 9 Tryz.f9 Rows.backChainSpec Rows.backChainRow = true := by kernel_rfl
theorem k3 : Tryz.f9.isInstance Tryz.pinned.checked.prog Rows.backChainRow.origin Rows.backChainRow.targs := of_decide_eq_true (by kernel_rfl)
theorem k4 : Tryz.f9.isWrapper Tryz.pinned.checked.prog Rows.backChainRow.wrapper Rows.backChainRow.mainSum := by
  unfold Func.isWrapper
  first | (rw [if_pos (by decide +kernel)]; kernel_rfl) | (rw [if_neg (by decide +kernel)]; exact ⟨rfl, rfl⟩)
theorem over : Rows.backChainRow.holds Tryz.pinned (OpenSpec.ofChange Rows.backChainSpec) :=
  OpenClaim.holds_of_wide 9 Tryz.f9 rfl rfl rfl rfl rfl rfl rfl ⟨rfl, rfl, rfl, rfl, rfl⟩ rfl rfl rfl rfl rfl k1 Tryz.func9 k2 k3 k4
    (fun os started H enc _ => lifted os started H enc)

theorem proved : Rows.BackChainSaid := over
#print axioms proved
end Go.Proofs.YtlgiakkejlbbfaaGreat.backChain
