/- The law GradSays of carousellaw14 holds of the program: every call of it, with any arguments, in any memory, returns true and leaves what was there as it was. No conditions. -/
import Derived.Test.YtokgamncgleelaaGreatRows
import Derived.WalkKit
import Derived.ProofKit
import Derived.OpenShut
import Derived.Test.YtokgamncgleelaaGreatGradSaysQ3
import Derived.Test.YtokgamncgleelaaGreatAmY
namespace Go.Proofs.YtokgamncgleelaaGreat.gradSays
open Go.ChangeShapes Go.WideShapes Go.ChangeAt Go.RowKit Go.AM
set_option linter.unusedVariables false
set_option maxRecDepth 1000000
theorem own:ownKnob Tryz.prog.godebug=none:=by kernel_rfl
theorem laidOut:laidOutB Tryz.prog=true:=by kernel_rfl
theorem plain0 (a0:Ty.D (.p (.sl (.int .i64)) (.sl (.p .str (.p (.int .i64) (.int .i64)))))) (a1:Ty.D (.int .i64)) (a2:Ty.D (.sl (.int .i64))) (a3:Ty.D (.p (.sl (.int .i64)) (.p (.sl (.int .i64)) (.int .i64)))) (w0:Ty.wf (.p (.sl (.int .i64)) (.sl (.p .str (.p (.int .i64) (.int .i64))))) a0) (w1:Ty.wf (.int .i64) a1) (w2:Ty.wf (.sl (.int .i64)) a2) (w3:Ty.wf (.p (.sl (.int .i64)) (.p (.sl (.int .i64)) (.int .i64))) a3):f3 a0 a1 a2 a3=some true:=by
  exact Cv.lawSays a0 a1 a2 a3 (PlG.row_i64 w2) (PlG.row_i64 w3.1) (PlG.row_i64 w3.2.1)
theorem walk (a0:Ty.D (.p (.sl (.int .i64)) (.sl (.p .str (.p (.int .i64) (.int .i64)))))) (a1:Ty.D (.int .i64)) (a2:Ty.D (.sl (.int .i64))) (a3:Ty.D (.p (.sl (.int .i64)) (.p (.sl (.int .i64)) (.int .i64)))) (w0:Ty.wf (.p (.sl (.int .i64)) (.sl (.p .str (.p (.int .i64) (.int .i64))))) a0) (w1:Ty.wf (.int .i64) a1) (w2:Ty.wf (.sl (.int .i64)) a2) (w3:Ty.wf (.p (.sl (.int .i64)) (.p (.sl (.int .i64)) (.int .i64))) a3) (w:World) (hw:Go.AM.Glo w) (v0:Value) (r0:(Pat.dat (.p (.sl (.int .i64)) (.sl (.p .str (.p (.int .i64) (.int .i64))))) a0).reads w v0) (v1:Value) (r1:(Pat.dat (.int .i64) a1).reads w v1) (v2:Value) (r2:(Pat.dat (.sl (.int .i64)) a2).reads w v2) (v3:Value) (r3:(Pat.dat (.p (.sl (.int .i64)) (.p (.sl (.int .i64)) (.int .i64))) a3).reads w v3):Calls Tryz.prog 3 ⟨[v0,v1,v2,v3]⟩ w fun e w'=>e = .returned (.bool true)∧(∀ may,w.keptBut w' may)∧Below w.heap.size w w':=
  Go.AM.law_walk (H3 a0 a1 a2 a3).h (x:=()) (y:=true) (plain0 a0 a1 a2 a3 w0 w1 w2 w3) rfl rfl rfl w [v0,v1,v2,v3] hw rfl (fun i p h=>match i,h with
    | 0,h=>⟨v0,rfl,by obtain rfl:_=p:=Option.some.inj h;exact r0⟩
    | 1,h=>⟨v1,rfl,by obtain rfl:_=p:=Option.some.inj h;exact r1⟩
    | 2,h=>⟨v2,rfl,by obtain rfl:_=p:=Option.some.inj h;exact r2⟩
    | 3,h=>⟨v3,rfl,by obtain rfl:_=p:=Option.some.inj h;exact r3⟩
    | _+4,h=>nomatch h)

theorem lifted (os:Os) (started:os.Started) (H:Type) (enc:TypeId×Value→H) :
    ReturnsInHanded {} Tryz.checked os 3 .any (Rows.gradSaysSpec.pre6 enc Tryz.prog Tryz.f3 Rows.gradSaysRow.domain false) (Rows.gradSaysSpec.post enc Tryz.prog Tryz.f3 false true false false):=by
  refine returnsInHanded_of_change (C:=Tryz.checked) own started (by kernel_rfl) Tryz.func3
    (ChangeSpec.witness6 (enc:=enc) (C:=Tryz.checked) false ⟨#[],#[.agg #[.slice none 0 0,.slice none 0 0],.int .i64 0,.slice none 0 0,.agg #[.slice none 0 0,.slice none 0 0,.int .i64 0]],[]⟩ 8 (by kernel_rfl) (by kernel_rfl) (by kernel_rfl) (by kernel_rfl)) ?_
  intro W base args ds gs before hval0 hW hcnd _
  have hval:∀ (j:Nat) t v,Tryz.f3.params[j]?=some t→args[j]?=some v→Value.okWide Tryz.prog W .any base t v:=hval0
  have hW':=hW
  obtain ⟨p,q,hA0,hV,rfl,hfz,hnd⟩:=hW
  have hA:DataW.TrodAll enc Tryz.prog W 0 (fun _=>true) true Tryz.f3.params.toList args.toList ds p:=hA0
  rw [Tryz.params3] at hA hval
  obtain ⟨v0,vs0,d0,ds0,p0,q0,hargs,rfl,rfl,h0,r0⟩:=trodAll_cons hA
  obtain ⟨v1,vs1,d1,ds1,p1,q1,rfl,rfl,rfl,h1,r1⟩:=trodAll_cons r0
  obtain ⟨v2,vs2,d2,ds2,p2,q2,rfl,rfl,rfl,h2,r2⟩:=trodAll_cons r1
  obtain ⟨v3,vs3,d3,ds3,p3,q3,rfl,rfl,rfl,h3,r3⟩:=trodAll_cons r2
  obtain ⟨rfl,rfl,rfl⟩:=trodAll_nil r3
  obtain rfl:args=⟨[v0,v1,v2,v3]⟩:=by cases args;simp_all
  obtain ⟨rfl,rfl⟩:=trodVars_none hV
  obtain ⟨a0,e0,w0⟩:=Go.AM.dat_read (t:=(.p (.sl (.int .i64)) (.sl (.p .str (.p (.int .i64) (.int .i64)))))) (T:=25) (.two Tryz.underlying25 rfl rfl (by kernel_rfl) (by kernel_rfl) (by kernel_rfl) (.sl Tryz.underlying22 (by kernel_rfl) (by decide) (.int Tryz.underlying3)) (.sl Tryz.underlying23 (by kernel_rfl) (by decide) (.three Tryz.underlying114 ⟨rfl,rfl,rfl⟩ ⟨by kernel_rfl,by kernel_rfl,by kernel_rfl⟩ (by kernel_rfl) (.str Tryz.underlying9) (.int Tryz.underlying3) (.int Tryz.underlying3)))) (hval 0 25 v0 rfl rfl) h0
  obtain ⟨a1,e1,w1⟩:=Go.AM.dat_read (t:=(.int .i64)) (T:=3) (.int Tryz.underlying3) (hval 1 3 v1 rfl rfl) h1
  obtain ⟨a2,e2,w2⟩:=Go.AM.dat_read (t:=(.sl (.int .i64))) (T:=26) (.sl Tryz.underlying26 (by kernel_rfl) (by decide) (.int Tryz.underlying35)) (hval 2 26 v2 rfl rfl) h2
  obtain ⟨a3,e3,w3⟩:=Go.AM.dat_read (t:=(.p (.sl (.int .i64)) (.p (.sl (.int .i64)) (.int .i64)))) (T:=28) (.three Tryz.underlying28 ⟨rfl,rfl,rfl⟩ ⟨by kernel_rfl,by kernel_rfl,by kernel_rfl⟩ (by kernel_rfl) (.sl Tryz.underlying26 (by kernel_rfl) (by decide) (.int Tryz.underlying35)) (.sl Tryz.underlying26 (by kernel_rfl) (by decide) (.int Tryz.underlying35)) (.int Tryz.underlying3)) (hval 3 28 v3 rfl rfl) h3
  have hlt0:∀ x ∈ p0,x.block<W.heap.size:=fun x hx=>hW'.lt x (by simp [hx])
  have hlt1:∀ x ∈ p1,x.block<W.heap.size:=fun x hx=>hW'.lt x (by simp [hx])
  have hlt2:∀ x ∈ p2,x.block<W.heap.size:=fun x hx=>hW'.lt x (by simp [hx])
  have hlt3:∀ x ∈ p3,x.block<W.heap.size:=fun x hx=>hW'.lt x (by simp [hx])
  clear hA0 hval0
  simp only [List.append_nil] at hW'
  refine (walk a0 a1 a2 a3 w0 w1 w2 w3 W (fun _ _ h=>nomatch h) v0 e0 v1 e1 v2 e2 v3 e3).mono fun e W' ⟨he,hg,hb⟩=>?_
  subst he
  exact ⟨_,rfl,Go.AM.post_am (pa:=(p0++(p1++(p2++(p3++[]))))) (pv:=[]) hW' (trodAll_cons_mk (shut_bool Tryz.underlying4 _) trodAll_mk0) (trodAll_cons_mk (Below.trod laidOut (by kernel_rfl) (of_decide_eq_true (by kernel_rfl)) h0 hb hlt0) (trodAll_cons_mk (Below.trod laidOut (by kernel_rfl) (of_decide_eq_true (by kernel_rfl)) h1 hb hlt1) (trodAll_cons_mk (Below.trod laidOut (by kernel_rfl) (of_decide_eq_true (by kernel_rfl)) h2 hb hlt2) (trodAll_cons_mk (Below.trod laidOut (by kernel_rfl) (of_decide_eq_true (by kernel_rfl)) h3 hb hlt3) trodAll_mk0)))) rfl hg⟩

theorem k1:Tryz.pinned.checked.prog.funcNamed Rows.gradSaysRow.func=some 3:=by kernel_rfl
theorem k2:joinedFacts Tryz.pinned.checked.prog 3 Tryz.f3 Rows.gradSaysSpec Rows.gradSaysRow=true:=by kernel_rfl
theorem k3:Tryz.f3.isInstance Tryz.pinned.checked.prog Rows.gradSaysRow.origin Rows.gradSaysRow.targs:=of_decide_eq_true (by kernel_rfl)
theorem k4:Tryz.f3.isWrapper Tryz.pinned.checked.prog Rows.gradSaysRow.wrapper Rows.gradSaysRow.mainSum:=by
  unfold Func.isWrapper
  first | (rw [if_pos (by decide +kernel)];kernel_rfl) | (rw [if_neg (by decide +kernel)];exact ⟨rfl,rfl⟩)
theorem over:Rows.gradSaysRow.holds Tryz.pinned (OpenSpec.ofChange Rows.gradSaysSpec):=
  OpenClaim.holds_of_wide 3 Tryz.f3 rfl rfl rfl rfl rfl rfl rfl ⟨rfl,rfl,rfl,rfl,rfl⟩ rfl rfl rfl rfl rfl k1 Tryz.func3 k2 k3 k4
    (fun os started H enc _=>lifted os started H enc)

theorem proved:Rows.GradSaysSaid:=over
#print axioms proved
end Go.Proofs.YtokgamncgleelaaGreat.gradSays
