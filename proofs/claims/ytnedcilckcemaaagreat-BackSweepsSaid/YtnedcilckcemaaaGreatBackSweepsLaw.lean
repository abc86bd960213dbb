/- The law BackSweeps of carousellaw11 holds of the program: every call of it, with any arguments, in any memory, returns true and leaves what was there as it was. No conditions. -/
import Derived.Test.YtnedcilckcemaaaGreatRows
import Derived.WalkKit
import Derived.ProofKit
import Derived.OpenShut
import Derived.Test.YtnedcilckcemaaaGreatBackSweepsQ2
import Derived.Test.YtnedcilckcemaaaGreatAmY
namespace Go.Proofs.YtnedcilckcemaaaGreat.backSweeps
open Go.ChangeShapes Go.WideShapes Go.ChangeAt Go.RowKit Go.AM
set_option linter.unusedVariables false
set_option maxRecDepth 1000000
theorem own:ownKnob Tryz.prog.godebug=none:=by kernel_rfl
theorem laidOut:laidOutB Tryz.prog=true:=by kernel_rfl
theorem plain0 (a0:Ty.D (.sl (.p (.int .i64) (.p (.int .i64) (.p (.int .i64) (.p (.int .i64) (.p (.sl (.int .i64)) (.sl (.int .i64))))))))) (a1:Ty.D (.int .i64)) (w0:Ty.wf (.sl (.p (.int .i64) (.p (.int .i64) (.p (.int .i64) (.p (.int .i64) (.p (.sl (.int .i64)) (.sl (.int .i64)))))))) a0) (w1:Ty.wf (.int .i64) a1):C3.F (a0,a1)=some true:=by
  have e:C3.F=fun x=>f3 x.1 x.2:=by kernel_rfl
  rw [e]
  exact Cv.lawSweeps a0 a1 w0
theorem walk (a0:Ty.D (.sl (.p (.int .i64) (.p (.int .i64) (.p (.int .i64) (.p (.int .i64) (.p (.sl (.int .i64)) (.sl (.int .i64))))))))) (a1:Ty.D (.int .i64)) (w0:Ty.wf (.sl (.p (.int .i64) (.p (.int .i64) (.p (.int .i64) (.p (.int .i64) (.p (.sl (.int .i64)) (.sl (.int .i64)))))))) a0) (w1:Ty.wf (.int .i64) a1) (w:World) (v0:Value) (r0:(Pat.dat (.sl (.p (.int .i64) (.p (.int .i64) (.p (.int .i64) (.p (.int .i64) (.p (.sl (.int .i64)) (.sl (.int .i64)))))))) a0).reads w v0) (v1:Value) (r1:(Pat.dat (.int .i64) a1).reads w v1):Calls Tryz.prog 3 ⟨[v0,v1]⟩ w fun e w'=>e = .returned (.bool true)∧(∀ may,w.keptBut w' may)∧Below w.heap.size w w':=
  Go.AM.law_walk H3.2 (x:=(a0,a1)) (y:=true) (plain0 a0 a1 w0 w1) rfl rfl rfl w [v0,v1] rfl (fun i p h=>match i,h with
    | 0,h=>⟨v0,rfl,by obtain rfl:_=p:=Option.some.inj h;exact r0⟩
    | 1,h=>⟨v1,rfl,by obtain rfl:_=p:=Option.some.inj h;exact r1⟩
    | _+2,h=>nomatch h)

theorem lifted (os:Os) (started:os.Started) (H:Type) (enc:TypeId×Value→H) :
    ReturnsInHanded {} Tryz.checked os 3 .any (Rows.backSweepsSpec.pre6 enc Tryz.prog Tryz.f3 Rows.backSweepsRow.domain false) (Rows.backSweepsSpec.post enc Tryz.prog Tryz.f3 false true false false):=by
  refine returnsInHanded_of_change (C:=Tryz.checked) own started (by kernel_rfl) Tryz.func3
    (ChangeSpec.witness6 (enc:=enc) (C:=Tryz.checked) false ⟨#[],#[.slice none 0 0,.int .i64 0],[]⟩ 8 (by kernel_rfl) (by kernel_rfl) (by kernel_rfl) (by kernel_rfl)) ?_
  intro W base args ds gs before hval0 hW hcnd _
  have hval:∀ (j:Nat) t v,Tryz.f3.params[j]?=some t→args[j]?=some v→Value.okWide Tryz.prog W .any base t v:=hval0
  have hW':=hW
  obtain ⟨p,q,hA0,hV,rfl,hfz,hnd⟩:=hW
  have hA:DataW.TrodAll enc Tryz.prog W 0 (fun _=>true) true Tryz.f3.params.toList args.toList ds p:=hA0
  rw [Tryz.params3] at hA hval
  obtain ⟨v0,vs0,d0,ds0,p0,q0,hargs,rfl,rfl,h0,r0⟩:=trodAll_cons hA
  obtain ⟨v1,vs1,d1,ds1,p1,q1,rfl,rfl,rfl,h1,r1⟩:=trodAll_cons r0
  obtain ⟨rfl,rfl,rfl⟩:=trodAll_nil r1
  obtain rfl:args=⟨[v0,v1]⟩:=by cases args;simp_all
  obtain ⟨rfl,rfl⟩:=trodVars_none hV
  obtain ⟨a0,e0,w0⟩:=Go.AM.dat_read (t:=(.sl (.p (.int .i64) (.p (.int .i64) (.p (.int .i64) (.p (.int .i64) (.p (.sl (.int .i64)) (.sl (.int .i64))))))))) (T:=22) (.sl Tryz.underlying22 (by kernel_rfl) (by decide) (.five Tryz.underlying55 ⟨rfl,rfl,rfl,rfl,rfl⟩ ⟨by kernel_rfl,by kernel_rfl,by kernel_rfl,by kernel_rfl,by kernel_rfl⟩ (by kernel_rfl) (.int Tryz.underlying3) (.int Tryz.underlying3) (.int Tryz.underlying3) (.int Tryz.underlying42) (.two Tryz.underlying38 rfl rfl (by kernel_rfl) (by kernel_rfl) (by kernel_rfl) (.sl Tryz.underlying35 (by kernel_rfl) (by decide) (.int Tryz.underlying3)) (.sl Tryz.underlying36 (by kernel_rfl) (by decide) (.int Tryz.underlying42))))) (hval 0 22 v0 rfl rfl) h0
  obtain ⟨a1,e1,w1⟩:=Go.AM.dat_read (t:=(.int .i64)) (T:=3) (.int Tryz.underlying3) (hval 1 3 v1 rfl rfl) h1
  have hlt0:∀ x ∈ p0,x.block<W.heap.size:=fun x hx=>hW'.lt x (by simp [hx])
  have hlt1:∀ x ∈ p1,x.block<W.heap.size:=fun x hx=>hW'.lt x (by simp [hx])
  clear hA0 hval0
  simp only [List.append_nil] at hW'
  refine (walk a0 a1 w0 w1 W v0 e0 v1 e1).mono fun e W' ⟨he,hg,hb⟩=>?_
  subst he
  exact ⟨_,rfl,Go.AM.post_am (pa:=(p0++(p1++[]))) (pv:=[]) hW' (trodAll_cons_mk (shut_bool Tryz.underlying4 _) trodAll_mk0) (trodAll_cons_mk (Below.trod laidOut (by kernel_rfl) (of_decide_eq_true (by kernel_rfl)) h0 hb hlt0) (trodAll_cons_mk (Below.trod laidOut (by kernel_rfl) (of_decide_eq_true (by kernel_rfl)) h1 hb hlt1) trodAll_mk0)) rfl hg⟩

theorem k1:Tryz.pinned.checked.prog.funcNamed Rows.backSweepsRow.func=some 3:=by kernel_rfl
theorem k2:joinedFacts Tryz.pinned.checked.prog 3 Tryz.f3 Rows.backSweepsSpec Rows.backSweepsRow=true:=by kernel_rfl
theorem k3:Tryz.f3.isInstance Tryz.pinned.checked.prog Rows.backSweepsRow.origin Rows.backSweepsRow.targs:=of_decide_eq_true (by kernel_rfl)
theorem k4:Tryz.f3.isWrapper Tryz.pinned.checked.prog Rows.backSweepsRow.wrapper Rows.backSweepsRow.mainSum:=by
  unfold Func.isWrapper
  first | (rw [if_pos (by decide +kernel)];kernel_rfl) | (rw [if_neg (by decide +kernel)];exact ⟨rfl,rfl⟩)
theorem over:Rows.backSweepsRow.holds Tryz.pinned (OpenSpec.ofChange Rows.backSweepsSpec):=
  OpenClaim.holds_of_wide 3 Tryz.f3 rfl rfl rfl rfl rfl rfl rfl ⟨rfl,rfl,rfl,rfl,rfl⟩ rfl rfl rfl rfl rfl k1 Tryz.func3 k2 k3 k4
    (fun os started H enc _=>lifted os started H enc)

theorem proved:Rows.BackSweepsSaid:=over
#print axioms proved
end Go.Proofs.YtnedcilckcemaaaGreat.backSweeps
