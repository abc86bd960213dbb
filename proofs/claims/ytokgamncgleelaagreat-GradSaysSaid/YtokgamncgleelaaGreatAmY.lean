
import Derived.Test.YtokgamncgleelaaGreatAmW
import Derived.ProofKit
import Derived.DataReads
set_option linter.unusedVariables false
set_option linter.unusedSimpArgs false
namespace Go.AM
open Go.RowKit
def Ty.wf:(t:Ty)→t.D→Prop
 | .int k,x=>(Lit.int k x).wf=true
 | .bool,_=>True
 | .str,x=>x.size≤maxLen
 | .sl t,xs=>xs.length≤maxLen∧∀ x ∈ xs,Ty.wf t x
 | .u,_=>True
 | .p a b,x=>Ty.wf a x.1∧Ty.wf b x.2
inductive TyAt (P:Program):Ty→TypeId→Prop
 | int {T:TypeId} {k:IntKind}:P.underlying T=some (.int k)→TyAt P (.int k) T
 | bool {T:TypeId}:P.underlying T=some .bool→TyAt P .bool T
 | str {T:TypeId}:P.underlying T=some .string→TyAt P .str T
 | sl {T e:TypeId} {t:Ty}:P.underlying T=some (.slice e)→P.cellsOf e=t.n→0<t.n→TyAt P t e→TyAt P (.sl t) T
 | two {T:TypeId} {f0 f1:Field} {a b:Ty}:P.underlying T=some (.struct #[f0,f1])→f0.offset=0→f1.offset=a.n→P.cellsOf f0.type=a.n→P.cellsOf f1.type=b.n→P.cellsOf T=a.n+b.n→TyAt P a f0.type→TyAt P b f1.type→TyAt P (.p a b) T
 | three {T:TypeId} {f0 f1 f2:Field} {a b c:Ty}:P.underlying T=some (.struct #[f0,f1,f2])→(f0.offset=0∧f1.offset=a.n∧f2.offset=a.n+b.n)→
   (P.cellsOf f0.type=a.n∧P.cellsOf f1.type=b.n∧P.cellsOf f2.type=c.n)→P.cellsOf T=a.n+b.n+c.n→TyAt P a f0.type→TyAt P b f1.type→TyAt P c f2.type→TyAt P (.p a (.p b c)) T
 | six {T:TypeId} {f0 f1 f2 f3 f4 f5:Field} {a b c d e g:Ty}:P.underlying T=some (.struct #[f0,f1,f2,f3,f4,f5])→(f0.offset=0∧f1.offset=a.n∧f2.offset=a.n+b.n∧f3.offset=a.n+b.n+c.n∧f4.offset=a.n+b.n+c.n+d.n∧f5.offset=a.n+b.n+c.n+d.n+e.n)→
   (P.cellsOf f0.type=a.n∧P.cellsOf f1.type=b.n∧P.cellsOf f2.type=c.n∧P.cellsOf f3.type=d.n∧P.cellsOf f4.type=e.n∧P.cellsOf f5.type=g.n)→P.cellsOf T=a.n+b.n+c.n+d.n+e.n+g.n→TyAt P a f0.type→TyAt P b f1.type→TyAt P c f2.type→TyAt P d f3.type→TyAt P e f4.type→TyAt P g f5.type→TyAt P (.p a (.p b (.p c (.p d (.p e g))))) T
 | five {T:TypeId} {f0 f1 f2 f3 f4:Field} {a b c d e:Ty}:P.underlying T=some (.struct #[f0,f1,f2,f3,f4])→(f0.offset=0∧f1.offset=a.n∧f2.offset=a.n+b.n∧f3.offset=a.n+b.n+c.n∧f4.offset=a.n+b.n+c.n+d.n)→
   (P.cellsOf f0.type=a.n∧P.cellsOf f1.type=b.n∧P.cellsOf f2.type=c.n∧P.cellsOf f3.type=d.n∧P.cellsOf f4.type=e.n)→P.cellsOf T=a.n+b.n+c.n+d.n+e.n→TyAt P a f0.type→TyAt P b f1.type→TyAt P c f2.type→TyAt P d f3.type→TyAt P e f4.type→TyAt P (.p a (.p b (.p c (.p d e)))) T
section
variable {H:Type} {enc:TypeId×Value→H} {P:Program} {w:World} {sp:Nat→Bool} {held:Bool}
theorem trod_read {t:Ty} {T:TypeId} (hT:TyAt P t T):∀ {fuel:Nat} {cs:List Value} {x:DataW H×List MemPlace},DataW.trod enc P w 0 sp held fuel T cs=some x→
  ∃ y:t.D,t.rel w (fun _=>True) y cs∧t.wf y:=by
 induction hT with
 | int h=>
  intro fuel cs x hx
  cases fuel with
  | zero=>simp [DataW.trod] at hx
  | succ n=>
   unfold DataW.trod at hx
   rw [h] at hx
   split at hx <;> first | (simp_all;done) | skip
   rename_i k1 k2 n1 e1
   simp only [Option.some.injEq,TypeDesc.int.injEq] at e1
   subst e1
   split at hx
   ·rename_i hk
    obtain ⟨rfl,hw⟩:=hk
    exact ⟨n1,rfl,hw⟩
   ·cases hx
 | bool h=>
  intro fuel cs x hx
  cases fuel with
  | zero=>simp [DataW.trod] at hx
  | succ n=>
   unfold DataW.trod at hx
   rw [h] at hx
   split at hx <;> first | (simp_all;done) | skip
   rename_i b1 e1
   exact ⟨b1,rfl,trivial⟩
 | str h=>
  intro fuel cs x hx
  cases fuel with
  | zero=>simp [DataW.trod] at hx
  | succ n=>
   unfold DataW.trod at hx
   rw [h] at hx
   split at hx <;> simp_all
   exact ⟨_,rfl,by simp_all [Ty.wf]⟩
 | @sl T e t h hn hpos _ ih=>
  intro fuel cs x hx
  rcases DataW.trod_slice h hx with ⟨rfl,_⟩ | ⟨a,len,cap,elems,rest,n,_,rfl,_,_,hl,hm,hlen,hel,_⟩
  ·exact ⟨([]:List t.D),⟨none,0,rfl,Nat.le_refl _,fun h=>absurd rfl h⟩,by simp,by simp⟩
  ·have key:∀ m,m≤len→∃ ys:List t.D,ys.length=m∧(∀ y ∈ ys,t.wf y)∧∀ i (hi:i<ys.length),∃ ds,t.rel w (fun _=>True) ys[i] ds∧ds.length=t.n∧∀ j (hj:j<ds.length),w.cell? ((a.add (i*t.n)).add j)=some ds[j]:=by
    intro m
    induction m with
    | zero=>intro _;exact ⟨[],rfl,by simp,fun i hi=>by simp at hi⟩
    | succ m im=>
     intro hm'
     obtain ⟨ys,h1,h2,h3⟩:=im (by omega)
     have h4:=hel m (by omega)
     rw [hn] at h4
     have h5:∃ y,elems[m]?=some y:=⟨_,List.getElem?_eq_getElem (by omega)⟩
     obtain ⟨y,h5⟩:=h5
     rw [h5,Option.bind_eq_some_iff] at h4
     obtain ⟨c1,hc1,hy⟩:=h4
     obtain ⟨z,z1,z2⟩:=ih hy
     obtain ⟨_,k1,k2⟩:=World.cells?_some hc1
     refine ⟨ys++[z],by simp [h1],fun q hq=>?_,fun i hi=>?_⟩
     ·rcases List.mem_append.1 hq with hq | hq
      ·exact h2 q hq
      ·simp at hq;subst hq;exact z2
     ·by_cases hlt:i<ys.length
      ·obtain ⟨ds,d1,d2,d3⟩:=h3 i hlt
       exact ⟨ds,by rw [List.getElem_append_left hlt];exact d1,d2,d3⟩
      ·have:i=m:=by simp at hi;omega
       subst this
       refine ⟨c1,by rw [List.getElem_append_right (by omega)];simp [h1];exact z1,k1,fun j hj=>?_⟩
       rw [k2 j (by omega),List.getElem?_eq_getElem hj]
   obtain ⟨ys,h1,h2,h3⟩:=key len (Nat.le_refl _)
   refine ⟨ys,?_,by rw [h1];omega,h2⟩
   refine ⟨some a,cap,by rw [h1],by rw [h1];exact hl,fun hne=>?_⟩
   have h0:0<ys.length:=List.length_pos_iff.2 hne
   obtain ⟨b,o,sp'⟩:=a
   obtain ⟨ds,d1,d2,d3⟩:=h3 0 h0
   have hc0:=d3 0 (by omega)
   simp only [Nat.zero_mul,Addr.add,if_true] at hc0
   have:∃ c T z,w.heap[b]?=some (.cells c T z)∧sp'=none:=by
    unfold World.cell? at hc0
    split at hc0
    ·rename_i c T z hb
     split at hc0
     ·cases hc0
     ·rename_i hs
      exact ⟨c,T,z,hb,by simpa using hs⟩
    ·cases hc0
   obtain ⟨c,T',z,hb,rfl⟩:=this
   have hcell:∀ i (hi:i<ys.length),∃ ds,t.rel w (fun _=>True) ys[i] ds∧ds.length=t.n∧∀ j (hj:j<ds.length),w.cell? ⟨b,o+i*t.n+j,none⟩=some ds[j]:=fun i hi=>by
    obtain ⟨ds,d1,d2,d3⟩:=h3 i hi
    exact ⟨ds,d1,d2,fun j hj=>by
     have:=d3 j hj
     rw [J5,J5] at this
     exact this⟩
   refine ⟨b,o,rfl,trivial,c,T',z,hb,fun i hi=>?_⟩
   obtain ⟨ds,d1,d2,d3⟩:=hcell i hi
   refine ⟨ds,d1,d2,fun j hj=>?_⟩
   have:=d3 j hj
   simpa [World.cell?,hb] using this
 | @two T f0 f1 a b h o0 o1 n0 n1 nT _ _ ih0 ih1=>
  intro fuel cs x hx
  cases fuel with
  | zero=>simp [DataW.trod] at hx
  | succ n=>
   unfold DataW.trod at hx
   rw [h] at hx
   simp only at hx
   split at hx
   ·rename_i hlen
    simp only [Option.map_eq_some_iff] at hx
    obtain ⟨xs,hx,_⟩:=hx
    simp only [List.mapM_cons,List.mapM_nil,Option.bind_eq_bind,Option.bind_eq_some_iff,Option.pure_def] at hx
    obtain ⟨x0,hx0,_,⟨x1,hx1,_⟩,_⟩:=hx
    obtain ⟨y0,p0,q0⟩:=ih0 hx0
    obtain ⟨y1,p1,q1⟩:=ih1 hx1
    refine ⟨(y0,y1),⟨cs.take a.n,cs.drop a.n,(List.take_append_drop _ _).symm,?_,?_⟩,q0,q1⟩
    ·rw [o0,n0] at p0;simpa using p0
    ·rw [o1,n1] at p1
     have:(cs.drop a.n).take b.n=cs.drop a.n:=List.take_of_length_le (by rw [List.length_drop,hlen,nT];omega)
     rwa [this] at p1
   ·cases hx
 | @three T f0 f1 f2 a b c h o n nT _ _ _ ih0 ih1 ih2=>
  intro fuel cs x hx
  obtain ⟨o0,o1,o2⟩:=o
  obtain ⟨n0,n1,n2⟩:=n
  cases fuel with
  | zero=>simp [DataW.trod] at hx
  | succ n=>
   unfold DataW.trod at hx
   rw [h] at hx
   simp only at hx
   split at hx
   ·rename_i hlen
    simp only [Option.map_eq_some_iff] at hx
    obtain ⟨xs,hx,_⟩:=hx
    simp only [List.mapM_cons,List.mapM_nil,Option.bind_eq_bind,Option.bind_eq_some_iff,Option.pure_def] at hx
    obtain ⟨x0,hx0,_,⟨x1,hx1,_,⟨x2,hx2,_⟩,_⟩,_⟩:=hx
    obtain ⟨y0,p0,q0⟩:=ih0 hx0
    obtain ⟨y1,p1,q1⟩:=ih1 hx1
    obtain ⟨y2,p2,q2⟩:=ih2 hx2
    rw [o0,n0] at p0
    rw [o1,n1] at p1
    rw [o2,n2,← List.drop_drop,List.take_of_length_le (by simp only [List.length_drop];omega)] at p2
    exact ⟨(y0,y1,y2),⟨cs.take a.n,cs.drop a.n,(List.take_append_drop _ _).symm,by simpa using p0,(cs.drop a.n).take b.n,(cs.drop a.n).drop b.n,(List.take_append_drop _ _).symm,p1,p2⟩,q0,q1,q2⟩
   ·cases hx
 | @six T f0 f1 f2 f3 f4 f5 a b c d e g h o n nT _ _ _ _ _ _ ih0 ih1 ih2 ih3 ih4 ih5=>
  intro fuel cs x hx
  obtain ⟨o0,o1,o2,o3,o4,o5⟩:=o
  obtain ⟨n0,n1,n2,n3,n4,n5⟩:=n
  cases fuel with
  | zero=>simp [DataW.trod] at hx
  | succ n=>
   unfold DataW.trod at hx
   rw [h] at hx
   simp only at hx
   split at hx
   ·rename_i hlen
    simp only [Option.map_eq_some_iff] at hx
    obtain ⟨xs,hx,_⟩:=hx
    simp only [List.mapM_cons,List.mapM_nil,Option.bind_eq_bind,Option.bind_eq_some_iff,Option.pure_def] at hx
    obtain ⟨x0,hx0,_,⟨x1,hx1,_,⟨x2,hx2,_,⟨x3,hx3,_,⟨x4,hx4,_,⟨x5,hx5,_⟩,_⟩,_⟩,_⟩,_⟩,_⟩:=hx
    obtain ⟨y0,p0,q0⟩:=ih0 hx0
    obtain ⟨y1,p1,q1⟩:=ih1 hx1
    obtain ⟨y2,p2,q2⟩:=ih2 hx2
    obtain ⟨y3,p3,q3⟩:=ih3 hx3
    obtain ⟨y4,p4,q4⟩:=ih4 hx4
    obtain ⟨y5,p5,q5⟩:=ih5 hx5
    rw [o0,n0] at p0
    rw [o1,n1] at p1
    rw [o2,n2,← List.drop_drop] at p2
    rw [o3,n3,← List.drop_drop,← List.drop_drop] at p3
    rw [o4,n4,← List.drop_drop,← List.drop_drop,← List.drop_drop] at p4
    rw [o5,n5,← List.drop_drop,← List.drop_drop,← List.drop_drop,← List.drop_drop,List.take_of_length_le (by simp only [List.length_drop];omega)] at p5
    exact ⟨(y0,y1,y2,y3,y4,y5),⟨cs.take a.n,cs.drop a.n,(List.take_append_drop _ _).symm,by simpa using p0,(cs.drop a.n).take b.n,(cs.drop a.n).drop b.n,(List.take_append_drop _ _).symm,p1,
     ((cs.drop a.n).drop b.n).take c.n,((cs.drop a.n).drop b.n).drop c.n,(List.take_append_drop _ _).symm,p2,(((cs.drop a.n).drop b.n).drop c.n).take d.n,(((cs.drop a.n).drop b.n).drop c.n).drop d.n,(List.take_append_drop _ _).symm,p3,
     ((((cs.drop a.n).drop b.n).drop c.n).drop d.n).take e.n,((((cs.drop a.n).drop b.n).drop c.n).drop d.n).drop e.n,(List.take_append_drop _ _).symm,p4,p5⟩,q0,q1,q2,q3,q4,q5⟩
   ·cases hx
 | @five T f0 f1 f2 f3 f4 a b c d e h o n nT _ _ _ _ _ ih0 ih1 ih2 ih3 ih4=>
  intro fuel cs x hx
  obtain ⟨o0,o1,o2,o3,o4⟩:=o
  obtain ⟨n0,n1,n2,n3,n4⟩:=n
  cases fuel with
  | zero=>simp [DataW.trod] at hx
  | succ n=>
   unfold DataW.trod at hx
   rw [h] at hx
   simp only at hx
   split at hx
   ·rename_i hlen
    simp only [Option.map_eq_some_iff] at hx
    obtain ⟨xs,hx,_⟩:=hx
    simp only [List.mapM_cons,List.mapM_nil,Option.bind_eq_bind,Option.bind_eq_some_iff,Option.pure_def] at hx
    obtain ⟨x0,hx0,_,⟨x1,hx1,_,⟨x2,hx2,_,⟨x3,hx3,_,⟨x4,hx4,_⟩,_⟩,_⟩,_⟩,_⟩:=hx
    obtain ⟨y0,p0,q0⟩:=ih0 hx0
    obtain ⟨y1,p1,q1⟩:=ih1 hx1
    obtain ⟨y2,p2,q2⟩:=ih2 hx2
    obtain ⟨y3,p3,q3⟩:=ih3 hx3
    obtain ⟨y4,p4,q4⟩:=ih4 hx4
    rw [o0,n0] at p0
    rw [o1,n1] at p1
    rw [o2,n2,← List.drop_drop] at p2
    rw [o3,n3,← List.drop_drop,← List.drop_drop] at p3
    rw [o4,n4,← List.drop_drop,← List.drop_drop,← List.drop_drop,List.take_of_length_le (by simp only [List.length_drop];omega)] at p4
    exact ⟨(y0,y1,y2,y3,y4),⟨cs.take a.n,cs.drop a.n,(List.take_append_drop _ _).symm,by simpa using p0,(cs.drop a.n).take b.n,(cs.drop a.n).drop b.n,(List.take_append_drop _ _).symm,p1,
     ((cs.drop a.n).drop b.n).take c.n,((cs.drop a.n).drop b.n).drop c.n,(List.take_append_drop _ _).symm,p2,(((cs.drop a.n).drop b.n).drop c.n).take d.n,(((cs.drop a.n).drop b.n).drop c.n).drop d.n,(List.take_append_drop _ _).symm,p3,p4⟩,q0,q1,q2,q3,q4⟩
   ·cases hx
theorem dat_read {t:Ty} {T:TypeId} {r:Reach} {base:Nat} {v:Value} {d:DataW H} {ps:List MemPlace} (hT:TyAt P t T) (hval:Value.okWide P w r base T v) (hd:DataW.Trod enc P w 0 sp held T v d ps) :
  ∃ y:t.D,(Pat.dat t y).reads w v∧t.wf y:=by
 obtain ⟨fuel,hd⟩:=hd
 obtain ⟨y,h1,h2⟩:=trod_read hT hd
 refine ⟨y,?_,h2⟩
 have one:t.isAgg=false→(∀ cs,v≠.agg cs)→(Pat.dat t y).reads w v:=fun ha hv=>by
  have hc:v.cells.toList=[v]:=by cases v <;> first | rfl | exact absurd rfl (hv _)
  rw [hc] at h1
  show (avOf t y).relR _ v
  simp only [avOf,ha]
  exact h1
 cases hT with
 | int h=>exact one rfl (fun cs e=>by subst e;simp [Value.okWide,h,Cell.okWide,Cell.ok] at hval)
 | bool h=>exact one rfl (fun cs e=>by subst e;simp [Value.okWide,h,Cell.okWide,Cell.ok] at hval)
 | str h=>exact one rfl (fun cs e=>by subst e;simp [Value.okWide,h,Cell.okWide,Cell.ok] at hval)
 | sl h _ _ _=>exact one rfl (fun cs e=>by subst e;simp [Value.okWide,h,Cell.okWide,Cell.ok] at hval)
 | two h _ _ _ _ _ _ _=>
  simp only [Value.okWide,h] at hval
  obtain ⟨cs,rfl,_⟩:=hval
  exact ⟨cs.toList,rfl,Gz _ y _ h1⟩
 | three h _ _ _ _ _ _=>
  simp only [Value.okWide,h] at hval
  obtain ⟨cs,rfl,_⟩:=hval
  exact ⟨cs.toList,rfl,Gz _ y _ h1⟩
 | six h _ _ _ _ _ _ _ _ _=>
  simp only [Value.okWide,h] at hval
  obtain ⟨cs,rfl,_⟩:=hval
  exact ⟨cs.toList,rfl,Gz _ y _ h1⟩
 | five h _ _ _ _ _ _ _ _=>
  simp only [Value.okWide,h] at hval
  obtain ⟨cs,rfl,_⟩:=hval
  exact ⟨cs.toList,rfl,Gz _ y _ h1⟩
end
end Go.AM
