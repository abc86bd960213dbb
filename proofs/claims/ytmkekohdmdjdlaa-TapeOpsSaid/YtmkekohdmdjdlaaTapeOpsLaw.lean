/- The law TapeOps of carousellaw10 holds of the program: every call of it, with any arguments, in any memory, returns true and leaves what was there as it was. No conditions. -/
import Derived.Test.YtmkekohdmdjdlaaRows
import Derived.WalkKit
import Derived.ProofKit
import Derived.OpenShut
import Derived.Test.YtmkekohdmdjdlaaPlA
import Derived.Test.YtmkekohdmdjdlaaPlB
import Derived.Test.YtmkekohdmdjdlaaPlC
import Derived.Test.YtmkekohdmdjdlaaPlW
import Derived.Test.YtmkekohdmdjdlaaPlT
import Derived.Test.YtmkekohdmdjdlaaPlS
import Derived.Test.YtmkekohdmdjdlaaPlSB
import Derived.Test.YtmkekohdmdjdlaaPlSC
import Derived.Test.YtmkekohdmdjdlaaPlM
import Derived.Test.YtmkekohdmdjdlaaPlN
import Derived.Test.YtmkekohdmdjdlaaPlTapeOps
import Derived.Test.YtmkekohdmdjdlaaPlG
import Derived.Test.YtmkekohdmdjdlaaAmY
namespace Go.Proofs.Ytmkekohdmdjdlaa.tapeOps
open Go.ChangeShapes Go.WideShapes Go.ChangeAt Go.RowKit Go.AM
set_option linter.unusedVariables false
set_option maxRecDepth 1000000
theorem own : ownKnob Try.prog.godebug = none := by kernel_rfl
theorem laidOut : laidOutB Try.prog = true := by kernel_rfl
theorem walk (a0 : Ty.D (.p (.sl (.int .i64)) (.sl (.int .i64)))) (a1 : Ty.D (.p (.sl (.int .i64)) (.sl (.int .i64)))) (a2 : Ty.D (.int .i64)) (w0 : Ty.wf (.p (.sl (.int .i64)) (.sl (.int .i64))) a0) (w1 : Ty.wf (.p (.sl (.int .i64)) (.sl (.int .i64))) a1) (w2 : Ty.wf (.int .i64) a2) (w : World) (v0 : Value) (r0 : (Pat.dat (.p (.sl (.int .i64)) (.sl (.int .i64))) a0).reads w v0) (v1 : Value) (r1 : (Pat.dat (.p (.sl (.int .i64)) (.sl (.int .i64))) a1).reads w v1) (v2 : Value) (r2 : (Pat.dat (.int .i64) a2).reads w v2) : Calls Try.prog 12 ⟨[v0, v1, v2]⟩ w fun e w' => e = .returned (.bool true) ∧ (∀ may, w.keptBut w' may) ∧ Below w.heap.size w w' :=
  Go.AM.law_walk C12_holds (x := (a0, a1, a2)) (y := true) (TapeOps.plain a0 a1 a2 (PlG.row_i64 w0.2) (PlG.row_i64 w1.2) (PlG.range_i64 w2).1 (PlG.range_i64 w2).2) rfl rfl rfl w [v0, v1, v2] (fun i p h => match i, h with
    | 0, h => ⟨v0, rfl, by obtain rfl : _ = p := Option.some.inj h; exact r0⟩
    | 1, h => ⟨v1, rfl, by obtain rfl : _ = p := Option.some.inj h; exact r1⟩
    | 2, h => ⟨v2, rfl, by obtain rfl : _ = p := Option.some.inj h; exact r2⟩
    | _ + 3, h => nomatch h)

theorem lifted (os : Os) (started : os.Started) (H : Type) (enc : TypeId × Value → H) :
    ReturnsInHanded {} Try.checked os 12 .any (Rows.tapeOpsSpec.pre6 enc Try.prog Try.f12 Rows.tapeOpsRow.domain false) (Rows.tapeOpsSpec.post enc Try.prog Try.f12 false true false false) := by
  refine returnsInHanded_of_change (C := Try.checked) own started (by kernel_rfl) Try.func12
    (ChangeSpec.witness6 (enc := enc) (C := Try.checked) false ⟨#[], #[.agg #[.slice none 0 0, .slice none 0 0], .agg #[.slice none 0 0, .slice none 0 0], .int .i64 0], []⟩ 8 (by kernel_rfl) (by kernel_rfl) (by kernel_rfl) (by kernel_rfl)) ?_
  intro W base args ds gs before hval0 hW hcnd _
  have hval : ∀ (j : Nat) t v, Try.f12.params[j]? = some t → args[j]? = some v → Value.okWide Try.prog W .any base t v := hval0
  have hW' := hW
  obtain ⟨p, q, hA0, hV, rfl, hfz, hnd⟩ := hW
  have hA : DataW.TrodAll enc Try.prog W 0 (fun _ => true) true Try.f12.params.toList args.toList ds p := hA0
  rw [Try.params12] at hA hval
  obtain ⟨v0, vs0, d0, ds0, p0, q0, hargs, rfl, rfl, h0, r0⟩ := trodAll_cons hA
  obtain ⟨v1, vs1, d1, ds1, p1, q1, rfl, rfl, rfl, h1, r1⟩ := trodAll_cons r0
  obtain ⟨v2, vs2, d2, ds2, p2, q2, rfl, rfl, rfl, h2, r2⟩ := trodAll_cons r1
  obtain ⟨rfl, rfl, rfl⟩ := trodAll_nil r2
  obtain rfl : args = ⟨[v0, v1, v2]⟩ := by cases args; simp_all
  obtain ⟨rfl, rfl⟩ := trodVars_none hV
  obtain ⟨a0, e0, w0⟩ := Go.AM.dat_read (t := (.p (.sl (.int .i64)) (.sl (.int .i64)))) (T := 29) (.two Try.underlying29 rfl rfl (by kernel_rfl) (by kernel_rfl) (by kernel_rfl) (.sl Try.underlying27 (by kernel_rfl) (by decide) (.int Try.underlying3)) (.sl Try.underlying22 (by kernel_rfl) (by decide) (.int Try.underlying24))) (hval 0 29 v0 rfl rfl) h0
  obtain ⟨a1, e1, w1⟩ := Go.AM.dat_read (t := (.p (.sl (.int .i64)) (.sl (.int .i64)))) (T := 29) (.two Try.underlying29 rfl rfl (by kernel_rfl) (by kernel_rfl) (by kernel_rfl) (.sl Try.underlying27 (by kernel_rfl) (by decide) (.int Try.underlying3)) (.sl Try.underlying22 (by kernel_rfl) (by decide) (.int Try.underlying24))) (hval 1 29 v1 rfl rfl) h1
  obtain ⟨a2, e2, w2⟩ := Go.AM.dat_read (t := (.int .i64)) (T := 24) (.int Try.underlying24) (hval 2 24 v2 rfl rfl) h2
  have hlt0 : ∀ x ∈ p0, x.block < W.heap.size := fun x hx => hW'.lt x (by simp [hx])
  have hlt1 : ∀ x ∈ p1, x.block < W.heap.size := fun x hx => hW'.lt x (by simp [hx])
  have hlt2 : ∀ x ∈ p2, x.block < W.heap.size := fun x hx => hW'.lt x (by simp [hx])
  clear hA0 hval0
  simp only [List.append_nil] at hW'
  refine (walk a0 a1 a2 w0 w1 w2 W v0 e0 v1 e1 v2 e2).mono fun e W' ⟨he, hg, hb⟩ => ?_
  subst he
  exact ⟨_, rfl, Go.AM.post_am (pa := (p0 ++ (p1 ++ (p2 ++ [])))) (pv := []) hW' (trodAll_cons_mk (shut_bool Try.underlying4 _) trodAll_mk0) (trodAll_cons_mk (Below.trod laidOut (by kernel_rfl) (of_decide_eq_true (by kernel_rfl)) h0 hb hlt0) (trodAll_cons_mk (Below.trod laidOut (by kernel_rfl) (of_decide_eq_true (by kernel_rfl)) h1 hb hlt1) (trodAll_cons_mk (Below.trod laidOut (by kernel_rfl) (of_decide_eq_true (by kernel_rfl)) h2 hb hlt2) trodAll_mk0))) rfl hg⟩

theorem over : Rows.tapeOpsRow.holds Try.pinned (OpenSpec.ofChange Rows.tapeOpsSpec) :=
  OpenClaim.holds_of_wide 12 Try.f12 rfl rfl rfl rfl rfl rfl rfl ⟨rfl, rfl, rfl, rfl, rfl⟩ rfl rfl rfl rfl rfl (by kernel_rfl) Try.func12 (by kernel_rfl)
    (of_decide_eq_true (by kernel_rfl)) (by unfold Func.isWrapper; first | (rw [if_pos (by decide +kernel)]; kernel_rfl) | (rw [if_neg (by decide +kernel)]; exact ⟨rfl, rfl⟩))
    (fun os started H enc _ => lifted os started H enc)

theorem proved : Rows.TapeOpsSaid := over
#print axioms proved
end Go.Proofs.Ytmkekohdmdjdlaa.tapeOps
