/- The law SoloTurns of carousellaw17 holds of the program: every call of it, with any arguments, in any memory, returns true and leaves what was there as it was. No conditions. -/
import Derived.Test.YtnmfbobdffnblaaGreatRows
import Derived.WalkKit
import Derived.ProofKit
import Derived.OpenShut
import Derived.Test.YtnmfbobdffnblaaGreatSoloTurnsQ1
import Derived.Test.YtnmfbobdffnblaaGreatAmY
namespace Go.Proofs.YtnmfbobdffnblaaGreat.soloTurns
open Go.ChangeShapes Go.WideShapes Go.ChangeAt Go.RowKit Go.AM
set_option linter.unusedVariables false
set_option maxRecDepth 1000000
set_option maxHeartbeats 8000000
theorem own:ownKnob Tryz.prog.godebug=none:=by kernel_rfl
theorem laidOut:laidOutB Tryz.prog=true:=by kernel_rfl
theorem plain0 (a0:Ty.D (.p (.p (.sl (.int .i64)) (.sl (.p .str (.p (.int .i64) (.int .i64))))) (.p (.int .i64) (.p (.int .i64) (.p (.p (.int .i64) (.p (.int .i64) (.int .i64))) (.p (.sl (.p (.sl (.int .i64)) (.p (.sl (.int .i64)) (.int .i64)))) (.sl (.int .i64)))))))) (a1:Ty.D (.int .i64)) (w0:Ty.wf (.p (.p (.sl (.int .i64)) (.sl (.p .str (.p (.int .i64) (.int .i64))))) (.p (.int .i64) (.p (.int .i64) (.p (.p (.int .i64) (.p (.int .i64) (.int .i64))) (.p (.sl (.p (.sl (.int .i64)) (.p (.sl (.int .i64)) (.int .i64)))) (.sl (.int .i64))))))) a0) (w1:Ty.wf (.int .i64) a1):C4.F (a0,a1)=some true:=by
  have e:C4.F=fun x=>f4 x.1 x.2:=by kernel_rfl
  rw [e]
  exact Cv.lawSTurns a0 a1 (Cv.JR.mk (And.intro (PlG.range_i64 w0.2.2.2.1.1) (And.intro (PlG.range_i64 w0.2.2.2.1.2.1) (PlG.range_i64 w0.2.2.2.1.2.2))) (fun x hx=>And.intro (PlG.row_i64 (w0.2.2.2.2.1.2 x hx).1) (PlG.row_i64 (w0.2.2.2.2.1.2 x hx).2.1)) (PlG.row_i64 w0.2.2.2.2.2))
theorem walk (a0:Ty.D (.p (.p (.sl (.int .i64)) (.sl (.p .str (.p (.int .i64) (.int .i64))))) (.p (.int .i64) (.p (.int .i64) (.p (.p (.int .i64) (.p (.int .i64) (.int .i64))) (.p (.sl (.p (.sl (.int .i64)) (.p (.sl (.int .i64)) (.int .i64)))) (.sl (.int .i64)))))))) (a1:Ty.D (.int .i64)) (w0:Ty.wf (.p (.p (.sl (.int .i64)) (.sl (.p .str (.p (.int .i64) (.int .i64))))) (.p (.int .i64) (.p (.int .i64) (.p (.p (.int .i64) (.p (.int .i64) (.int .i64))) (.p (.sl (.p (.sl (.int .i64)) (.p (.sl (.int .i64)) (.int .i64)))) (.sl (.int .i64))))))) a0) (w1:Ty.wf (.int .i64) a1) (w:World) (v0:Value) (r0:(Pat.dat (.p (.p (.sl (.int .i64)) (.sl (.p .str (.p (.int .i64) (.int .i64))))) (.p (.int .i64) (.p (.int .i64) (.p (.p (.int .i64) (.p (.int .i64) (.int .i64))) (.p (.sl (.p (.sl (.int .i64)) (.p (.sl (.int .i64)) (.int .i64)))) (.sl (.int .i64))))))) a0).reads w v0) (v1:Value) (r1:(Pat.dat (.int .i64) a1).reads w v1):Calls Tryz.prog 4 ⟨[v0,v1]⟩ w fun e w'=>e = .returned (.bool true)∧(∀ may,w.keptBut w' may)∧Below w.heap.size w w':=
  Go.AM.law_walk H4.2 (x:=(a0,a1)) (y:=true) (plain0 a0 a1 w0 w1) rfl rfl rfl w [v0,v1] rfl (fun i p h=>match i,h with
    | 0,h=>⟨v0,rfl,by obtain rfl:_=p:=Option.some.inj h;exact r0⟩
    | 1,h=>⟨v1,rfl,by obtain rfl:_=p:=Option.some.inj h;exact r1⟩
    | _+2,h=>nomatch h)

theorem lifted (os:Os) (started:os.Started) (H:Type) (enc:TypeId×Value→H) :
    ReturnsInHanded {} Tryz.checked os 4 .any (Rows.soloTurnsSpec.pre6 enc Tryz.prog Tryz.f4 Rows.soloTurnsRow.domain false) (Rows.soloTurnsSpec.post enc Tryz.prog Tryz.f4 false true false false):=by
  refine returnsInHanded_of_change (C:=Tryz.checked) own started (by kernel_rfl) Tryz.func4
    (ChangeSpec.witness6 (enc:=enc) (C:=Tryz.checked) false ⟨#[],#[.agg #[.slice none 0 0,.slice none 0 0,.int .i64 0,.int .i64 0,.int .i64 0,.int .i64 0,.int .i64 0,.slice none 0 0,.slice none 0 0],.int .i64 0],[]⟩ 8 (by kernel_rfl) (by kernel_rfl) (by kernel_rfl) (by kernel_rfl)) ?_
  intro W base args ds gs before hval0 hW hcnd _
  have hval:∀ (j:Nat) t v,Tryz.f4.params[j]?=some t→args[j]?=some v→Value.okWide Tryz.prog W .any base t v:=hval0
  have hW':=hW
  obtain ⟨p,q,hA0,hV,rfl,hfz,hnd⟩:=hW
  have hA:DataW.TrodAll enc Tryz.prog W 0 (fun _=>true) true Tryz.f4.params.toList args.toList ds p:=hA0
  rw [Tryz.params4] at hA hval
  obtain ⟨v0,vs0,d0,ds0,p0,q0,hargs,rfl,rfl,h0,r0⟩:=trodAll_cons hA
  obtain ⟨v1,vs1,d1,ds1,p1,q1,rfl,rfl,rfl,h1,r1⟩:=trodAll_cons r0
  obtain ⟨rfl,rfl,rfl⟩:=trodAll_nil r1
  obtain rfl:args=⟨[v0,v1]⟩:=by cases args;simp_all
  obtain ⟨rfl,rfl⟩:=trodVars_none hV
  obtain ⟨a0,e0,w0⟩:=Go.AM.dat_read (t:=(.p (.p (.sl (.int .i64)) (.sl (.p .str (.p (.int .i64) (.int .i64))))) (.p (.int .i64) (.p (.int .i64) (.p (.p (.int .i64) (.p (.int .i64) (.int .i64))) (.p (.sl (.p (.sl (.int .i64)) (.p (.sl (.int .i64)) (.int .i64)))) (.sl (.int .i64)))))))) (T:=32) (.six Tryz.underlying32 ⟨rfl,rfl,rfl,rfl,rfl,rfl⟩ ⟨by kernel_rfl,by kernel_rfl,by kernel_rfl,by kernel_rfl,by kernel_rfl,by kernel_rfl⟩ (by kernel_rfl) (.two Tryz.underlying25 rfl rfl (by kernel_rfl) (by kernel_rfl) (by kernel_rfl) (.sl Tryz.underlying22 (by kernel_rfl) (by decide) (.int Tryz.underlying3)) (.sl Tryz.underlying23 (by kernel_rfl) (by decide) (.three Tryz.underlying79 ⟨rfl,rfl,rfl⟩ ⟨by kernel_rfl,by kernel_rfl,by kernel_rfl⟩ (by kernel_rfl) (.str Tryz.underlying9) (.int Tryz.underlying3) (.int Tryz.underlying3)))) (.int Tryz.underlying3) (.int Tryz.underlying3) (.three Tryz.underlying28 ⟨rfl,rfl,rfl⟩ ⟨by kernel_rfl,by kernel_rfl,by kernel_rfl⟩ (by kernel_rfl) (.int Tryz.underlying26) (.int Tryz.underlying26) (.int Tryz.underlying26)) (.sl Tryz.underlying29 (by kernel_rfl) (by decide) (.three Tryz.underlying46 ⟨rfl,rfl,rfl⟩ ⟨by kernel_rfl,by kernel_rfl,by kernel_rfl⟩ (by kernel_rfl) (.sl Tryz.underlying30 (by kernel_rfl) (by decide) (.int Tryz.underlying26)) (.sl Tryz.underlying30 (by kernel_rfl) (by decide) (.int Tryz.underlying26)) (.int Tryz.underlying3))) (.sl Tryz.underlying30 (by kernel_rfl) (by decide) (.int Tryz.underlying26))) (hval 0 32 v0 rfl rfl) h0
  obtain ⟨a1,e1,w1⟩:=Go.AM.dat_read (t:=(.int .i64)) (T:=3) (.int Tryz.underlying3) (hval 1 3 v1 rfl rfl) h1
  have hlt0:∀ x ∈ p0,x.block<W.heap.size:=fun x hx=>hW'.lt x (by simp [hx])
  have hlt1:∀ x ∈ p1,x.block<W.heap.size:=fun x hx=>hW'.lt x (by simp [hx])
  clear hA0 hval0
  simp only [List.append_nil] at hW'
  refine (walk a0 a1 w0 w1 W v0 e0 v1 e1).mono fun e W' ⟨he,hg,hb⟩=>?_
  subst he
  exact ⟨_,rfl,Go.AM.post_am (pa:=(p0++(p1++[]))) (pv:=[]) hW' (trodAll_cons_mk (shut_bool Tryz.underlying4 _) trodAll_mk0) (trodAll_cons_mk (Below.trod laidOut (by kernel_rfl) (of_decide_eq_true (by kernel_rfl)) h0 hb hlt0) (trodAll_cons_mk (Below.trod laidOut (by kernel_rfl) (of_decide_eq_true (by kernel_rfl)) h1 hb hlt1) trodAll_mk0)) rfl hg⟩

theorem k1:Tryz.pinned.checked.prog.funcNamed Rows.soloTurnsRow.func=some 4:=by kernel_rfl
theorem k2:joinedFacts Tryz.pinned.checked.prog 4 Tryz.f4 Rows.soloTurnsSpec Rows.soloTurnsRow=true:=by
  unfold joinedFacts
  simp only [Bool.and_eq_true]
  and_intros
  all_goals (as_aux_lemma=>kernel_rfl)
theorem k3:Tryz.f4.isInstance Tryz.pinned.checked.prog Rows.soloTurnsRow.origin Rows.soloTurnsRow.targs:=of_decide_eq_true (by kernel_rfl)
theorem k4:Tryz.f4.isWrapper Tryz.pinned.checked.prog Rows.soloTurnsRow.wrapper Rows.soloTurnsRow.mainSum:=by
  unfold Func.isWrapper
  first | (rw [if_pos (by decide +kernel)];kernel_rfl) | (rw [if_neg (by decide +kernel)];exact ⟨rfl,rfl⟩)
theorem over:Rows.soloTurnsRow.holds Tryz.pinned (OpenSpec.ofChange Rows.soloTurnsSpec):=
  OpenClaim.holds_of_wide 4 Tryz.f4 rfl rfl rfl rfl rfl rfl rfl ⟨rfl,rfl,rfl,rfl,rfl⟩ rfl rfl rfl rfl rfl k1 Tryz.func4 k2 k3 k4
    (fun os started H enc _=>lifted os started H enc)

theorem proved:Rows.SoloTurnsSaid:=over
#print axioms proved
end Go.Proofs.YtnmfbobdffnblaaGreat.soloTurns
