
import Derived.Test.YtokgamncgleelaaGreatAmV
import Derived.RowKit3
import Derived.Below
import GoSem.ClaimChange
set_option linter.unusedVariables false
set_option linter.unusedSimpArgs false
namespace Go.AM
theorem lk_enumP:∀ (l:List Pat) (n i:Nat),lk (envSt (La n l)) i=if n≤i then (l[i-n]?).map Pat.av else none
 | [],n,i=>by simp [La,envSt]
 | p::r,n,i=>by
  simp only [La,envSt,Gr,lk_enumP r]
  by_cases h:n=i
  ·subst h;simp
  ·rw [if_neg h]
   by_cases h1:n≤i
   ·rw [if_pos (by omega),if_pos h1]
    have:i-n=(i-(n+1))+1:=by omega
    rw [this];simp
   ·rw [if_neg (by omega),if_neg h1]
theorem Frame'.keptBut {G:Ctx} {w:World} (h:Frame' G w) (he:G.e=0) (may:MemPlace→Prop):G.w0.keptBut w may:=by
 refine ⟨h.os,h.output,fun i hi=>?_⟩
 have hb:=h.block i hi (fun ⟨j,cap,hj,_⟩=>by omega)
 rw [hb]
 cases hc:G.w0.heap[i]? with
 | none=>trivial
 | some o=>cases o <;> simp
def Pat.reads (w:World) (p:Pat) (v:Value):Prop:=p.av.relR (CV.rel w (fun _=>True) (fun _=>none) (fun _=>none) 0) v
theorem law_walk {C:Con} {P:Program} {f:FuncId} (hC:C.Holds P f) {x:C.X} {y:C.Y} (hF:C.F x=some y) {b:Bool} (he:C.e=0) (hin:C.hin x=[]) (hret:C.ret y=[.dat .bool b])
  (w:World) (vs:List Value) (hw:Glo w) (hl:vs.length=(C.args x).length) (ha:∀ (i:Nat) (p:Pat),(C.args x)[i]?=some p→∃ v,vs[i]?=some v∧p.reads w v) :
  Calls P f ⟨vs⟩ w (fun e w'=>e = .returned (.bool b)∧(∀ may,w.keptBut w' may)∧Go.RowKit.Below w.heap.size w w'):=by
 have hat:∀ id,(C.shIn x).st.at id=none:=fun id=>by rw [Sh.at_st];simp [Con.shIn,hin]
 have hln:∀ id,(C.shIn x).st.ln id=none:=fun id=>by simp [St.ln,hat]
 have hgl:GlOk w C.e (fun _=>none):=⟨hw,fun _ _ _ _ _ _ h=>by cases h⟩
 have hs:Sat (C.ctx x w (fun _=>True) (fun _=>none) hgl) (fun _=>none) (C.shIn x).st ⟨⟨vs⟩,[]⟩ w:=by
  refine ⟨rfl,fun _ _=>rfl,?_,fun i hi=>?_,⟨rfl,rfl,rfl,Nat.le_refl _,fun _ _ _=>rfl⟩,fun i v hi=>?_,fun id ch h=>?_,fun id _ ch _ _ _ _ h=>?_,fun id ch _ _ h=>?_⟩
  ·simp [Con.ctx,Con.shIn,Sh.st]
  ·simp only [Con.ctx] at hi;omega
  ·simp only [Con.shIn,Sh.st,lk_enumP,Nat.zero_le,if_true,Nat.sub_zero] at hi
   cases hp:(C.args x)[i]? with
   | none=>rw [hp] at hi;cases hi
   | some p=>
    rw [hp] at hi
    simp only [Option.map_some,Option.some.injEq] at hi
    subst hi
    obtain ⟨u,hu,hr⟩:=ha i p hp
    obtain ⟨hlt,e1⟩:=List.getElem?_eq_some_iff.1 hu
    refine ⟨by simpa using hlt,?_⟩
    have e2:(⟨vs⟩:Array Value).getD i undef=u:=by simp [hlt,e1]
    simp only [e2]
    have him:∀ b,Ctx.im (C.ctx x w (fun _=>True) (fun _=>none) hgl) (C.shIn x).st (fun _=>none) b:=fun b=>⟨.inl trivial,fun ⟨_,_,_,h1,_⟩=>by rw [hat] at h1;cases h1⟩
    refine AV.mono (fun c v hc=>?_) hr
    cases c with
    | d t x=>exact Ty.rel_mono (fun b _ _=>⟨him b,rfl⟩) t x [v] hc
    | ip t x off=>
     obtain ⟨b,o,c,T,z,ds,k1,k2,k3,k4,k5⟩:=hc
     exact ⟨b,o,c,T,z,ds,k1,him b,k3,Ty.rel_mono (fun b _ _=>⟨him b,rfl⟩) t x ds k4,k5⟩
    | c v=>exact hc
    | emp=>exact hc
    | osl id=>exact absurd hc.1 (Nat.not_lt_zero _)
    | ptr id off=>exact absurd hc.1 (Nat.not_lt_zero _)
    | ep id sz i off=>exact absurd hc.1 (Nat.not_lt_zero _)
    | wn id l h=>exact absurd hc.1 (Nat.not_lt_zero _)
  ·rw [hat] at h;cases h
  ·rw [hat] at h;cases h
  ·rw [hat] at h;cases h
 refine (hC x y hF w _ _ hgl vs hl hs).mono fun e w'=>?_
 rintro ⟨us,φ',rfl,hlen,hsat⟩
 rw [hret] at hlen
 match us,hlen with
 | [u],_=>
  have henv:=hsat.env 0 (.one (.d .bool b)) (by simp [Con.shOut,Sh.st,lk_enumP,hret];rfl)
  have hu:u = .bool b:=by
   have hb:[u]=[Value.bool b]:=henv.2
   simpa using hb
  subst hu
  refine ⟨rfl,fun may=>hsat.frame.keptBut he may,hsat.frame.os,hsat.frame.tape,hsat.frame.output,hsat.frame.size,fun b hb=>hsat.frame.block b hb (fun ⟨j,cap,hj,_⟩=>?_)⟩
  have:(0:Nat)=C.e:=he.symm
  simp only [Con.ctx] at hj
  omega
theorem post_am {H:Type} {enc:TypeId×Value→H} {P:Program} {f:Func} {s:ChangeSpec} {apart fresh handsOn:Bool} {W W':World} {args:Array Value} {v:Value} {ds gs:List (DataW H)} {before pa pv:List MemPlace}
  (hW:DataW.Whole enc P f.params.toList s.vars apart W args.toList ds gs before)
  (hres:DataW.TrodAll enc P W' (match fresh with | true=>W.heap.size | false=>0) (fun _=>false) handsOn f.resultTypes.toList (v.resultList f.resultTypes.size) (s.fn H (ds++gs)).results [])
  (hargs:DataW.TrodAll enc P W' 0 (fun b=>decide (b<W.heap.size)) true f.params.toList args.toList (s.fn H (ds++gs)).args pa)
  (hvars:DataW.TrodVars enc P W' (fun b=>decide (b<W.heap.size)) s.vars (s.fn H (ds++gs)).vars pv)
  (hk:∀ may,W.keptBut W' may) :
  s.post enc P f apart fresh handsOn false W args v W':=
 ⟨ds,gs,before,[],pa,pv,hW,hres,hargs,hvars,hk _,fun h=>nomatch h⟩
end Go.AM
