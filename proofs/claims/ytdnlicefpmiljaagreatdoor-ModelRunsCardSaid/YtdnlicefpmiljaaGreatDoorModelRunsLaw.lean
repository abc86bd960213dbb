/- The law ModelRuns of carousellaw12 holds of the program: every call of it, with any arguments, in any memory, returns true and leaves what was there as it was. No conditions. -/
import Derived.Test.YtdnlicefpmiljaaGreatDoorRows
import Derived.WalkKit
import Derived.ProofKit
import Derived.OpenShut
import Derived.LaidMore
import Derived.Lay
import Derived.SevenTiedAt
import Derived.Stop.Joined
import Derived.Test.YtdnlicefpmiljaaGreatDoorTie
import Derived.Test.YtdnlicefpmiljaaGreatDoorCards
import Derived.Test.YtdnlicefpmiljaaGreatDoorModelRunsQ2
import Derived.Test.YtdnlicefpmiljaaGreatDoorAmY
namespace Go.Proofs.YtdnlicefpmiljaaGreatDoor.modelRuns
open Go.ChangeShapes Go.WideShapes Go.ChangeAt Go.RowKit Go.AM
set_option linter.unusedVariables false
set_option maxRecDepth 1000000
theorem own:ownKnob Tryz.prog.godebug=none:=by kernel_rfl
theorem laidOut:laidOutB Tryz.prog=true:=by kernel_rfl
theorem plain0 (a0:Ty.D (.p (.sl (.int .i64)) (.sl (.p .str (.p (.int .i64) (.int .i64)))))) (a1:Ty.D (.sl (.int .i64))) (a2:Ty.D (.sl (.int .i64))) (a3:Ty.D .bool) (w0:Ty.wf (.p (.sl (.int .i64)) (.sl (.p .str (.p (.int .i64) (.int .i64))))) a0) (w1:Ty.wf (.sl (.int .i64)) a1) (w2:Ty.wf (.sl (.int .i64)) a2) (w3:Ty.wf .bool a3):C5.F (a0,a1,a2,a3)=some true:=by
  have e:C5.F=fun x=>f5 x.1 x.2.1 x.2.2.1 x.2.2.2:=by kernel_rfl
  rw [e]
  exact Cv.lawRuns a0 a1 a2 a3 (PlG.row_i64 w1) (PlG.row_i64 w2)
theorem walk (a0:Ty.D (.p (.sl (.int .i64)) (.sl (.p .str (.p (.int .i64) (.int .i64)))))) (a1:Ty.D (.sl (.int .i64))) (a2:Ty.D (.sl (.int .i64))) (a3:Ty.D .bool) (w0:Ty.wf (.p (.sl (.int .i64)) (.sl (.p .str (.p (.int .i64) (.int .i64))))) a0) (w1:Ty.wf (.sl (.int .i64)) a1) (w2:Ty.wf (.sl (.int .i64)) a2) (w3:Ty.wf .bool a3) (w:World) (hw:Go.AM.Glo w) (v0:Value) (r0:(Pat.dat (.p (.sl (.int .i64)) (.sl (.p .str (.p (.int .i64) (.int .i64))))) a0).reads w v0) (v1:Value) (r1:(Pat.dat (.sl (.int .i64)) a1).reads w v1) (v2:Value) (r2:(Pat.dat (.sl (.int .i64)) a2).reads w v2) (v3:Value) (r3:(Pat.dat .bool a3).reads w v3):Calls Tryz.prog 5 ⟨[v0,v1,v2,v3]⟩ w fun e w'=>e = .returned (.bool true)∧(∀ may,w.keptBut w' may)∧Below w.heap.size w w':=
  Go.AM.law_walk H5.2 (x:=(a0,a1,a2,a3)) (y:=true) (plain0 a0 a1 a2 a3 w0 w1 w2 w3) rfl rfl rfl w [v0,v1,v2,v3] hw rfl (fun i p h=>match i,h with
    | 0,h=>⟨v0,rfl,by obtain rfl:_=p:=Option.some.inj h;exact r0⟩
    | 1,h=>⟨v1,rfl,by obtain rfl:_=p:=Option.some.inj h;exact r1⟩
    | 2,h=>⟨v2,rfl,by obtain rfl:_=p:=Option.some.inj h;exact r2⟩
    | 3,h=>⟨v3,rfl,by obtain rfl:_=p:=Option.some.inj h;exact r3⟩
    | _+4,h=>nomatch h)

theorem lifted (os:Os) (started:os.Started) (H:Type) (enc:TypeId×Value→H) :
    ReturnsInHanded {} Tryz.checked os 5 .any (fun w args=>(Rows.modelRunsSpec.pre enc Tryz.prog Tryz.f5 Rows.modelRunsRow.domain false w args∧laidMetH Tryz.prog Rows.modelRunsRow.laid w)∧sizedMet enc Tryz.prog Tryz.f5 (OpenSpec.ofChange Rows.modelRunsSpec) false w args)
      (Rows.modelRunsSpec.post enc Tryz.prog Tryz.f5 false true false false):=by
  refine returnsInHanded_of_change_and (C:=Tryz.checked) (X:=fun w _=>laidMetH Tryz.prog Rows.modelRunsRow.laid w) (fun _ _ _ hh h=>h.of_heap hh) own started (by kernel_rfl) Tryz.func5
    (ChangeSpec.witness_shaped (enc:=enc) (C:=Tryz.checked) (os:=os) (X:=fun w _=>laidMetH Tryz.prog Rows.modelRunsRow.laid w) false (World.laidAll Tryz.prog os Rows.modelRunsRow.laid) #[.agg #[.slice none 0 0,.slice none 0 0],.slice none 0 0,.slice none 0 0,.bool false] 8 (World.laidAll_os _ _ _)
      (World.shaped_of_ZipB (by kernel_rfl) (by kernel_rfl)) (by kernel_rfl) (by kernel_rfl) (by kernel_rfl)
      (by rw [MakeChecks.laidMetH_plain _ _ _ (by kernel_rfl)];exact laidMet_laidAll _ (by kernel_rfl) (by kernel_rfl))) ?_
  intro W base args ds gs before hval0 hW hcnd _ hL _
  have hval:∀ (j:Nat) t v,Tryz.f5.params[j]?=some t→args[j]?=some v→Value.okWide Tryz.prog W .any base t v:=hval0
  have hW':=hW
  obtain ⟨p,q,hA0,hV,rfl,hfz,hnd⟩:=hW
  have hA:DataW.TrodAll enc Tryz.prog W 0 (fun _=>true) true Tryz.f5.params.toList args.toList ds p:=hA0
  rw [Tryz.params5] at hA hval
  obtain ⟨v0,vs0,d0,ds0,p0,q0,hargs,rfl,rfl,h0,r0⟩:=trodAll_cons hA
  obtain ⟨v1,vs1,d1,ds1,p1,q1,rfl,rfl,rfl,h1,r1⟩:=trodAll_cons r0
  obtain ⟨v2,vs2,d2,ds2,p2,q2,rfl,rfl,rfl,h2,r2⟩:=trodAll_cons r1
  obtain ⟨v3,vs3,d3,ds3,p3,q3,rfl,rfl,rfl,h3,r3⟩:=trodAll_cons r2
  obtain ⟨rfl,rfl,rfl⟩:=trodAll_nil r3
  obtain rfl:args=⟨[v0,v1,v2,v3]⟩:=by cases args;simp_all
  obtain ⟨rfl,rfl⟩:=trodVars_none hV
  obtain ⟨a0,e0,w0⟩:=Go.AM.dat_read (t:=(.p (.sl (.int .i64)) (.sl (.p .str (.p (.int .i64) (.int .i64)))))) (T:=26) (.two Tryz.underlying26 rfl rfl (by kernel_rfl) (by kernel_rfl) (by kernel_rfl) (.sl Tryz.underlying23 (by kernel_rfl) (by decide) (.int Tryz.underlying3)) (.sl Tryz.underlying24 (by kernel_rfl) (by decide) (.three Tryz.underlying70 ⟨rfl,rfl,rfl⟩ ⟨by kernel_rfl,by kernel_rfl,by kernel_rfl⟩ (by kernel_rfl) (.str Tryz.underlying9) (.int Tryz.underlying3) (.int Tryz.underlying3)))) (hval 0 26 v0 rfl rfl) h0
  obtain ⟨a1,e1,w1⟩:=Go.AM.dat_read (t:=(.sl (.int .i64))) (T:=45) (.sl Tryz.underlying45 (by kernel_rfl) (by decide) (.int Tryz.underlying57)) (hval 1 45 v1 rfl rfl) h1
  obtain ⟨a2,e2,w2⟩:=Go.AM.dat_read (t:=(.sl (.int .i64))) (T:=45) (.sl Tryz.underlying45 (by kernel_rfl) (by decide) (.int Tryz.underlying57)) (hval 2 45 v2 rfl rfl) h2
  obtain ⟨a3,e3,w3⟩:=Go.AM.dat_read (t:=.bool) (T:=4) (.bool Tryz.underlying4) (hval 3 4 v3 rfl rfl) h3
  have hlt0:∀ x ∈ p0,x.block<W.heap.size:=fun x hx=>hW'.lt x (by simp [hx])
  have hlt1:∀ x ∈ p1,x.block<W.heap.size:=fun x hx=>hW'.lt x (by simp [hx])
  have hlt2:∀ x ∈ p2,x.block<W.heap.size:=fun x hx=>hW'.lt x (by simp [hx])
  have hlt3:∀ x ∈ p3,x.block<W.heap.size:=fun x hx=>hW'.lt x (by simp [hx])
  clear hA0 hval0
  simp only [List.append_nil] at hW'
  refine (walk a0 a1 a2 a3 w0 w1 w2 w3 W (fun _ _ h=>nomatch h) v0 e0 v1 e1 v2 e2 v3 e3).mono fun e W' ⟨he,hg,hb⟩=>?_
  subst he
  exact ⟨_,rfl,Go.AM.post_am (pa:=(p0++(p1++(p2++(p3++[]))))) (pv:=[]) hW' (trodAll_cons_mk (shut_bool Tryz.underlying4 _) trodAll_mk0) (trodAll_cons_mk (Below.trod laidOut (by kernel_rfl) (of_decide_eq_true (by kernel_rfl)) h0 hb hlt0) (trodAll_cons_mk (Below.trod laidOut (by kernel_rfl) (of_decide_eq_true (by kernel_rfl)) h1 hb hlt1) (trodAll_cons_mk (Below.trod laidOut (by kernel_rfl) (of_decide_eq_true (by kernel_rfl)) h2 hb hlt2) (trodAll_cons_mk (Below.trod laidOut (by kernel_rfl) (of_decide_eq_true (by kernel_rfl)) h3 hb hlt3) trodAll_mk0)))) rfl hg⟩

theorem k1:Tryz.pinned.checked.prog.funcNamed Rows.modelRunsRow.func=some 5:=by kernel_rfl
theorem k2:joinedFacts Tryz.pinned.checked.prog 5 Tryz.f5 Rows.modelRunsSpec Rows.modelRunsRow=true:=by kernel_rfl
theorem k3:Tryz.f5.isInstance Tryz.pinned.checked.prog Rows.modelRunsRow.origin Rows.modelRunsRow.targs:=of_decide_eq_true (by kernel_rfl)
theorem k4:Tryz.f5.isWrapper Tryz.pinned.checked.prog Rows.modelRunsRow.wrapper Rows.modelRunsRow.mainSum:=by
  unfold Func.isWrapper
  first | (rw [if_pos (by decide +kernel)];kernel_rfl) | (rw [if_neg (by decide +kernel)];exact ⟨rfl,rfl⟩)
theorem over:Rows.modelRunsRow.holds Tryz.pinned (OpenSpec.ofChange Rows.modelRunsSpec):=
  OpenClaim.holds_of_wide 5 Tryz.f5 rfl rfl rfl rfl rfl rfl rfl ⟨rfl,rfl,rfl,rfl,rfl⟩ rfl rfl rfl rfl rfl k1 Tryz.func5 k2 k3 k4
    (fun os started H enc _=>lifted os started H enc)

theorem proved:Rows.ModelRunsCardSaid:=
  Claim7.holds_tied_plain_at .later [] [.data, .data, .data, .data, .sentinel, .sentinel, .pinned] true (true, "b8e982d4ce3da68af1c51210c0d07e53579d69f721081c99176cbf7218593a65") true over (fun _ h => by cases h) (by kernel_rfl) (fun _ h => by cases h) modelRuns_row_tie rfl ⟨rfl, rfl⟩ (by kernel_rfl) rfl
    (fun f fn hf hfn=>by
      obtain rfl:f=5:=Option.some.inj (k1.symm.trans hf) |>.symm
      obtain rfl:fn=Tryz.f5:=(Option.some.inj (Tryz.func5.symm.trans hfn)).symm
      exact ⟨by kernel_rfl,fun j t ht=>by
        rw [Tryz.params5] at ht
        have hm:t ∈ [26,45,45,4]:=by simpa using Array.mem_of_getElem? ht
        have hall:([26,45,45,4].all fun u=>!Tryz.prog.wantsStandIn u)=true:=by kernel_rfl
        exact (show Tryz.prog.wantsStandIn t=false by simpa using List.all_eq_true.1 hall t hm)⟩)
    (by kernel_rfl)
#print axioms proved
end Go.Proofs.YtdnlicefpmiljaaGreatDoor.modelRuns
