
import Derived.Test.YtokgamncgleelaaGreatAmO
import Derived.Test.YtokgamncgleelaaGreatAmKv
set_option linter.unusedVariables false
set_option linter.unusedSimpArgs false
namespace Go.AM
section
variable {P:Program} {τ:TE} {G:Ctx} {φ:Phi} {s:St} {a:Act} {w:World}
def callV (P:Program) (f:FuncId) (s:St) (avs:List AV) (k:AV→St→List Nat→Prop):Prop:=
 ∃ ns,virtK ns s (fun s1=>callK P f s1 avs (fun v s' m=>k v s' (Lg s.nx m)))
theorem callV_spec (h:Sat G φ s a w) {f:FuncId} {avs:List AV} {vs:List Value} {k:AV→St→List Nat→Prop} (hk:callV P f s avs k)
  (hv:All2 (fun x v=>AV.relR (CV.rel w (G.im s φ) φ s.ln s.nx) x v) avs vs) :
  Calls P f ⟨vs⟩ w (fun e w'=>∃ u,e = .returned u∧Done G φ s a w k u w'):=by
 obtain ⟨ns,hk⟩:=hk
 obtain ⟨s1,φ1,hk,h1,e1,hx,hlv,hno⟩:=virt_spec ns _ h hk
 refine (call_spec h1 hk (hv.mono (fun _ _=>AV.rel_ext hx))).mono fun e w'=>?_
 rintro ⟨u,rfl,v,s',φ',m,k1,k2,k3,k4,k5⟩
 refine ⟨u,rfl,v,s',φ',Lg s.nx m,k1,k2,k3,⟨fun b hb hlt=>?_,fun id hid=>?_,Nat.le_trans hx.nx k4.nx,fun i hi=>(k4.phi i (Nat.lt_of_lt_of_le hi hx.nx)).trans (hx.phi i hi),k4.size,fun b hb hne=>?_⟩,k5.trans e1⟩
 ·obtain ⟨q1,q2⟩:=hx.kept b hb hlt
  obtain ⟨q3,q4⟩:=k4.kept b q1 hlt
  exact ⟨q3,q4.trans q2⟩
 ·obtain ⟨hm,hlt⟩:=mem_belowL.1 hid
  obtain ⟨ch,c1,c2⟩:=k4.live id hm
  exact hlv id ch hlt c1 c2
 ·refine k4.block b hb (fun id hid cap e2=>?_)
  obtain ⟨ch,c1,c2⟩:=k4.live id hid
  have hlt1:=(h1.heap id ch c1).1
  by_cases hlt:id<s.nx
  ·rw [hx.phi id hlt] at e2
   exact hne id (mem_belowL.2 ⟨hid,hlt⟩) cap e2
  ·rw [hno id (by omega) hlt1] at e2;cases e2
end
end Go.AM
